/- What the reference's parser reads without an error is well formed: literals, kinds, first values, fields. -/
import Derived.Test.YtdpkjpjkdmkkpaaGreatDoorTQ
namespace Go.Proofs.YtdpkjpjkdmkkpaaGreatDoor.Rf
open Lx (Tok tok0)
open Pa
structure TokT (t:Tok):Prop where
 int:t.tok=3→Ad.Is64 t.n∧(t.kind≠0→Ty.scalar t.kind=true∧Ty.inKind t.kind t.n=true)
 time:t.tok=4→Ty.inKind 11 t.n=true
 name:t.tok=2→t.text≠[]
 len:t.text.length≤100000
theorem zeA:Ad.Is64 0:=⟨by decide,by decide⟩
theorem zca:TokT tok0:=⟨fun h=>(by cases h),fun h=>(by cases h),fun h=>(by cases h),by simp [tok0]⟩
section
variable {ts:List Tok} (hts:∀ t ∈ ts,TokT t)
include hts
theorem T_T (s:PS):TokT (T ts s):=by
 unfold T
 split
 ·rw [List.getD_eq_getElem?_getD]
  cases h:ts[min s.i (ts.length - 1)]? with
  | none=>exact zca
  | some t=>exact hts t (List.mem_of_getElem? h)
 ·exact zca
omit hts
theorem zdX {s:PS} {a:Int}:(Pa.fail s a 130).err≠0:=by
 unfold Pa.fail
 split
 ·show (130:Int)≠0;decide
 ·rename_i h;exact h
theorem zbD {s:PS} {x:List UInt8} (h:(Pa.must ts s x).err=0):s.err=0:=by
 unfold Pa.must at h
 split at h
 ·exact h
 ·exact absurd h zdX
theorem tok_0 {s:PS} (h:(T ts s).tok≠0):s.err=0:=by
 by_cases h0:s.err=0
 ·exact h0
 ·rw [zlR h0] at h;exact absurd rfl h
theorem zgk {s:PS} (h:(Pa.name ts s).err=0):s.err=0∧(T ts s).tok=2:=by
 unfold Pa.name Pa.up at h
 split at h
 ·rename_i h1;exact ⟨h,h1⟩
 ·exact absurd h zdX
theorem lines_0 {s:PS} (h:(Pa.lines ts s).err=0):s.err=0:=by
 unfold Pa.lines at h
 split at h <;> assumption
theorem zaY {s:PS} {il:Bool} (h:(Pa.step ts il s).err=0):s.err=0:=by
 unfold Pa.step at h
 split at h
 ·exact lines_0 h
 ·exact h
theorem znM {s:PS} (h:zd1 ts s=true):s.err=0∧((T ts s).tok=3∨(T ts s).tok=4):=by
 unfold zd1 at h
 simpa using h
include hts
theorem zd5 {s:PS} (h:(Pa.literal ts s).2.err=0):s.err=0∧(Pa.literal ts s).1.op=1∧LitT (Pa.literal ts s).1∧Ad.Is64 (Pa.literal ts s).1.n:=by
 have ht:=T_T hts s
 unfold Pa.literal at h ⊢
 split at h
 ·rename_i h1
  rw [if_pos h1]
  obtain ⟨h2,h3⟩:=znM h1
  refine ⟨h2,rfl,?_,?_⟩
  ·intro _ hk
   simp only at hk ⊢
   by_cases h4:(T ts s).tok=4
   ·rw [if_pos h4]
    exact ⟨by decide,ht.time h4⟩
   ·rw [if_neg h4] at hk ⊢
    exact (ht.int (by rcases h3 with h | h;exact h;exact absurd h h4)).2 hk
  ·show Ad.Is64 (T ts s).n
   rcases h3 with h4 | h4
   ·exact (ht.int h4).1
   ·have h5:=ht.time h4
    unfold Ty.inKind at h5
    simp [Ty.low,Ty.high] at h5
    exact ⟨by omega,by omega⟩
 ·exact absurd h zdX
omit hts
theorem zkP {x:List UInt8} (h:Pa.kindOf x≠0):Ty.scalar (Pa.kindOf x)=true:=by
 unfold Pa.kindOf at h ⊢
 repeat' split
 all_goals first
  | rfl
  | (exfalso;revert h;simp [*])
theorem zjy {s:PS} (h:(Pa.kind ts s).2.err=0):s.err=0∧Ty.scalar (Pa.kind ts s).1=true:=by
 obtain ⟨k,hk⟩:∃ k,(if (T ts s).tok=1 then Pa.kindOf (T ts s).text else 0)=k:=⟨_,rfl⟩
 have e:Pa.kind ts s=(k,Pa.up (if k=0 then Pa.fail s (T ts s).at_ 130 else s)):=by rw [← hk];rfl
 rw [e] at h ⊢
 by_cases hk0:k=0
 ·rw [if_pos hk0] at h
  exact absurd h zdX
 ·rw [if_neg hk0] at h
  refine ⟨h,?_⟩
  show Ty.scalar k=true
  by_cases h1:(T ts s).tok=1
  ·rw [if_pos h1] at hk
   rw [← hk] at hk0 ⊢
   exact zkP hk0
  ·rw [if_neg h1] at hk
   exact absurd hk.symm hk0
theorem is_0 {s:PS} {x:List UInt8} (h:Pa.is ts s x=true):s.err=0:=by
 unfold Pa.is at h
 simp only [Bool.and_eq_true,decide_eq_true_eq] at h
 exact h.1.1
include hts
theorem znL {s:PS} (h:(Pa.lit ts s).2.err=0):s.err=0∧IniT (some (Pa.lit ts s).1)∧zdt (Pa.lit ts s).1:=by
 by_cases h1:Pa.is ts s [45]=true
 ·have e:Pa.lit ts s=(.neg (Pa.literal ts (if (T ts (Pa.up s)).tok=3 then Pa.up s else Pa.fail (Pa.up s) (T ts (Pa.up s)).at_ 130)).1 (T ts s).at_,(Pa.literal ts (if (T ts (Pa.up s)).tok=3 then Pa.up s else Pa.fail (Pa.up s) (T ts (Pa.up s)).at_ 130)).2):=by
   unfold Pa.lit
   rw [if_pos h1]
  rw [e] at h ⊢
  obtain ⟨_,h3,h4,h5⟩:=zd5 hts h
  exact ⟨is_0 h1,h4,h5⟩
 ·have e:Pa.lit ts s=(.plain (Pa.literal ts s).1,(Pa.literal ts s).2):=by
   unfold Pa.lit
   rw [if_neg h1]
  rw [e] at h ⊢
  obtain ⟨h2,h3,h4,h5⟩:=zd5 hts h
  exact ⟨h2,h4,h5,.inr h3⟩
theorem zlx {s:PS} {il:Bool} (h:(Pa.init ts il s).2.err=0):s.err=0∧IniT (Pa.init ts il s).1∧∀ i,(Pa.init ts il s).1=some i→zdt i:=by
 obtain ⟨s0,hs0⟩:∃ x,Pa.step ts il s=x:=⟨_,rfl⟩
 have hp:s0.err=0→s.err=0:=fun h=>zaY (il:=il) (by rw [hs0];exact h)
 by_cases h1:Pa.is ts s0 [58,61]=true
 ·have hz:=hp (is_0 h1)
  obtain ⟨s1,hs1⟩:∃ x,Pa.step ts il (Pa.up s0)=x:=⟨_,rfl⟩
  by_cases h2:(il&&Pa.is ts s1 [45])=true
  ·obtain ⟨s3,hs3⟩:∃ x,(if (T ts (Pa.lines ts (Pa.up s1))).tok=3 then Pa.lines ts (Pa.up s1) else Pa.fail (Pa.lines ts (Pa.up s1)) (T ts (Pa.lines ts (Pa.up s1))).at_ 130)=x:=⟨_,rfl⟩
   have e:Pa.init ts il s=(some (.neg (Pa.literal ts s3).1 (T ts s1).at_),Pa.must ts (Pa.step ts il (Pa.literal ts s3).2) [59]):=by
    unfold Pa.init
    simp only [hs0,hs1,hs3,if_pos h1,if_pos h2]
   rw [e] at h ⊢
   have h3:(Pa.literal ts s3).2.err=0:=zaY (zbD h)
   obtain ⟨_,_,h4,h5⟩:=zd5 hts h3
   exact ⟨hz,h4,fun i hi=>by injection hi with hi;rw [← hi];exact h5⟩
  ·have e:Pa.init ts il s=(some (Pa.lit ts s1).1,Pa.must ts (Pa.step ts il (Pa.lit ts s1).2) [59]):=by
    unfold Pa.init
    simp only [hs0,hs1,if_pos h1,if_neg h2]
   rw [e] at h ⊢
   have h3:(Pa.lit ts s1).2.err=0:=zaY (zbD h)
   obtain ⟨_,h4,h5⟩:=znL hts h3
   exact ⟨hz,h4,fun i hi=>by injection hi with hi;rw [← hi];exact h5⟩
 ·have e:Pa.init ts il s=(none,Pa.must ts (Pa.step ts il s0) [59]):=by
   unfold Pa.init
   simp only [hs0,if_neg h1]
  rw [e] at h ⊢
  exact ⟨hp (zaY (zbD h)),trivial,fun i hi=>by cases hi⟩
theorem zl2 {s:PS} {il:Bool} (h:(Pa.field ts il s).2.err=0):s.err=0∧(Ty.scalar (Pa.field ts il s).1.kind=true∧IniT (Pa.field ts il s).1.init)∧zdT (Pa.field ts il s).1:=by
 obtain ⟨s2,hs2⟩:∃ x,Pa.step ts il (Pa.must ts (Pa.step ts il (Pa.name ts s)) [58])=x:=⟨_,rfl⟩
 have e:Pa.field ts il s=(⟨(T ts s).text,(Pa.kind ts s2).1,0,0,0,[],false,[],(Pa.init ts il (Pa.kind ts s2).2).1,(T ts s).at_⟩,(Pa.init ts il (Pa.kind ts s2).2).2):=by
  rw [← hs2];rfl
 rw [e] at h ⊢
 obtain ⟨h1,h2,h3⟩:=zlx hts h
 obtain ⟨h4,h5⟩:=zjy h1
 have h6:=zgk (zaY (zbD (zaY (by rw [hs2];exact h4))))
 exact ⟨h6.1,⟨h5,h2⟩,(T_T hts s).len,h3,by simp,zeA,zeA⟩
end
end Go.Proofs.YtdpkjpjkdmkkpaaGreatDoor.Rf
namespace Go.Proofs.YtdpkjpjkdmkkpaaGreatDoor.Rf
open Lx (Tok tok0)
open Pa
theorem zif (n:Int):Ad.Is64 (neg64 n):=zig n
section
variable {ts:List Tok} (hts:∀ t ∈ ts,TokT t)
include hts
theorem zlX {s:PS} (h:(Pa.bound ts s).2.err=0):s.err=0∧Ad.Is64 (Pa.bound ts s).1:=by
 obtain ⟨m,hm⟩:∃ m,Pa.is ts s [45]=m:=⟨_,rfl⟩
 obtain ⟨s1,hs1⟩:∃ x,(if m=true then Pa.up s else s)=x:=⟨_,rfl⟩
 have e:Pa.bound ts s=if (T ts s1).tok=3∧(T ts s1).kind=0 then (if m=true then neg64 (T ts s1).n else (T ts s1).n,Pa.up s1) else (0,Pa.fail s1 (T ts s1).at_ 130):=by
  rw [← hs1,← hm];rfl
 rw [e] at h ⊢
 split at h
 ·rename_i h1
  rw [if_pos h1]
  have h2:s1.err=0:=h
  have h3:s.err=0:=by
   rw [← hs1] at h2
   cases m with
   | true=>exact h2
   | false=>exact h2
  refine ⟨h3,?_⟩
  show Ad.Is64 (if m=true then neg64 (T ts s1).n else (T ts s1).n)
  cases m with
  | true=>rw [if_pos rfl];exact zif _
  | false=>rw [if_neg (by simp)];exact ((T_T hts s1).int h1.1).1
 ·exact absurd h zdX
theorem zjI {s:PS} {il:Bool} (h:(Pa.lined ts il s).2.err=0):s.err=0∧Ad.Is64 (Pa.lined ts il s).1:=by
 unfold Pa.lined at h ⊢
 by_cases h1:(il&&Pa.is ts s [45])=true
 ·rw [if_pos h1] at h ⊢
  have h2:s.err=0:=is_0 (by simp only [Bool.and_eq_true] at h1;exact h1.2)
  refine ⟨h2,?_⟩
  simp only at h ⊢
  split
  ·exact zif _
  ·exact zeA
 ·rw [if_neg h1] at h ⊢
  exact zlX hts h
theorem zmH {s:PS} {il:Bool} (h:(Pa.vaddr ts il s).2.err=0):s.err=0∧(Pa.vaddr ts il s).1.length≤100000:=by
 unfold Pa.vaddr at h ⊢
 by_cases h1:Pa.is ts s sAT=true
 ·rw [if_pos h1] at h ⊢
  exact ⟨is_0 h1,(T_T hts _).len⟩
 ·rw [if_neg h1] at h ⊢
  exact ⟨h,by simp⟩
theorem zmJ {s:PS} {il:Bool} (h:(Pa.vtype ts il s).2.err=0):s.err=0∧((Ty.scalar (Pa.vtype ts il s).1.1=true∧(Pa.vtype ts il s).1.2.2.2.2=[])∨((Pa.vtype ts il s).1.1=12∧Ty.scalar (Pa.vtype ts il s).1.2.2.2.1=true∧(Pa.vtype ts il s).1.2.2.2.2=[])∨((Pa.vtype ts il s).1.1=0∧(Pa.vtype ts il s).1.2.2.2.2≠[]))∧Ad.Is64 (Pa.vtype ts il s).1.2.1∧Ad.Is64 (Pa.vtype ts il s).1.2.2.1:=by
 by_cases h1:Pa.is ts s sARRAY=true
 ·obtain ⟨sa,hsa⟩:∃ x,Pa.step ts il (Pa.must ts (Pa.step ts il (Pa.up s)) [91])=x:=⟨_,rfl⟩
  obtain ⟨sb,hsb⟩:∃ x,Pa.step ts il (Pa.must ts (Pa.step ts il (Pa.lined ts il sa).2) [46,46])=x:=⟨_,rfl⟩
  obtain ⟨sc,hsc⟩:∃ x,Pa.step ts il (Pa.must ts (Pa.step ts il (Pa.must ts (Pa.step ts il (Pa.lined ts il sb).2) [93])) sOF)=x:=⟨_,rfl⟩
  have e:Pa.vtype ts il s=((12,(Pa.lined ts il sa).1,(Pa.lined ts il sb).1,(Pa.kind ts sc).1,[]),(Pa.kind ts sc).2):=by
   unfold Pa.vtype
   simp only [if_pos h1,hsa,hsb,hsc]
  rw [e] at h ⊢
  obtain ⟨h2,h3⟩:=zjy h
  have h4:(Pa.lined ts il sb).2.err=0:=zaY (zbD (zaY (zbD (zaY (by rw [hsc];exact h2)))))
  obtain ⟨h5,h6⟩:=zjI hts h4
  have h7:(Pa.lined ts il sa).2.err=0:=zaY (zbD (zaY (by rw [hsb];exact h5)))
  exact ⟨is_0 h1,.inr (.inl ⟨rfl,h3,rfl⟩),(zjI hts h7).2,h6⟩
 ·by_cases h2:(T ts s).tok=2
  ·have e:Pa.vtype ts il s=((0,0,0,0,(T ts s).text),Pa.name ts s):=by
    unfold Pa.vtype
    rw [if_neg h1,if_pos h2]
   rw [e] at h ⊢
   exact ⟨(zgk h).1,.inr (.inr ⟨rfl,(T_T hts s).name h2⟩),zeA,zeA⟩
  ·have e:Pa.vtype ts il s=(((Pa.kind ts s).1,0,0,0,[]),(Pa.kind ts s).2):=by
    unfold Pa.vtype
    rw [if_neg h1,if_neg h2]
   rw [e] at h ⊢
   obtain ⟨h3,h4⟩:=zjy h
   exact ⟨h3,.inl ⟨h4,rfl⟩,zeA,zeA⟩
theorem zja {s:PS} {il re:Bool} (h:(Pa.variable_ ts il re s).2.err=0):s.err=0∧VarT (Pa.variable_ ts il re s).1∧zdT (Pa.variable_ ts il re s).1:=by
 obtain ⟨s1,hs1⟩:∃ x,Pa.step ts il (Pa.name ts s)=x:=⟨_,rfl⟩
 obtain ⟨s2,hs2⟩:∃ x,Pa.step ts il (Pa.must ts (Pa.vaddr ts il s1).2 [58])=x:=⟨_,rfl⟩
 have e:Pa.variable_ ts il re s=(⟨(T ts s).text,(Pa.vtype ts il s2).1.1,(Pa.vtype ts il s2).1.2.1,(Pa.vtype ts il s2).1.2.2.1,(Pa.vtype ts il s2).1.2.2.2.1,(Pa.vtype ts il s2).1.2.2.2.2,re,(Pa.vaddr ts il s1).1,(Pa.init ts il (Pa.vtype ts il s2).2).1,(T ts s).at_⟩,(Pa.init ts il (Pa.vtype ts il s2).2).2):=by
  rw [← hs2,← hs1];rfl
 rw [e] at h ⊢
 obtain ⟨h1,h2,h3⟩:=zlx hts h
 obtain ⟨h4,h5,h6,h7⟩:=zmJ hts h1
 have h8:(Pa.vaddr ts il s1).2.err=0:=zbD (zaY (by rw [hs2];exact h4))
 obtain ⟨h9,h10⟩:=zmH hts h8
 have h11:=zgk (zaY (by rw [hs1];exact h9))
 exact ⟨h11.1,⟨h5,h2⟩,⟨(T_T hts s).len,h3,h10,h6,h7⟩⟩
omit hts
theorem zjx {α:Type} {il:Bool} {stop:List UInt8} {one:PS→α × PS} {Q:α→Prop} (h1:∀ s,(one s).2.err=0→s.err=0∧Q (one s).1):∀ (f:Nat) (s:PS),(items ts il stop one f s).2.err=0→s.err=0∧∀ x ∈ (items ts il stop one f s).1,Q x:=by
 intro f
 induction f with
 | zero=>
  intro s h
  rw [items] at h ⊢
  exact ⟨zaY h,fun x hx=>by cases hx⟩
 | succ f ih=>
  intro s h
  rw [items] at h ⊢
  simp only at h ⊢
  split at h
  ·rename_i h2
   rw [if_pos h2]
   obtain ⟨h3,h4⟩:=ih _ h
   obtain ⟨h5,h6⟩:=h1 _ h3
   refine ⟨zaY h5,fun x hx=>?_⟩
   rcases List.mem_cons.1 hx with rfl | hx
   ·exact h6
   ·exact h4 x hx
  ·rename_i h2
   rw [if_neg h2]
   exact ⟨zaY h,fun x hx=>by cases hx⟩
end
end Go.Proofs.YtdpkjpjkdmkkpaaGreatDoor.Rf
namespace Go.Proofs.YtdpkjpjkdmkkpaaGreatDoor.Rf
open Lx (Tok tok0)
open Pa
section
variable {ts:List Tok}
theorem zb2 {s:PS} {a e:Int}:s.i≤(Pa.fail s a e).i:=by unfold Pa.fail;split <;> exact Nat.le_refl _
theorem zcx {s:PS}:s.i≤(Pa.up s).i:=by show s.i≤s.i+1;omega
theorem zaN {s:PS} {x:List UInt8}:s.i≤(Pa.must ts s x).i:=by
 unfold Pa.must
 split
 ·show s.i≤s.i+1;omega
 ·exact zb2
theorem zd6 {s:PS}:s.i < (Pa.name ts s).i:=by
 unfold Pa.name Pa.up
 split
 ·show s.i < s.i+1;omega
 ·have:=zb2 (s:=s) (a:=(T ts s).at_) (e:=130)
  show s.i < _+1;omega
theorem zay {s:PS} {il:Bool}:s.i≤(Pa.step ts il s).i:=by
 unfold Pa.step Pa.lines
 split
 ·split
  ·show s.i≤s.i+_;omega
  ·exact Nat.le_refl _
 ·exact Nat.le_refl _
theorem lines_le {s:PS}:s.i≤(Pa.lines ts s).i:=by
 unfold Pa.lines
 split
 ·show s.i≤s.i+_;omega
 ·exact Nat.le_refl _
theorem zhi {s:PS}:s.i < (Pa.kind ts s).2.i:=by
 obtain ⟨k,hk⟩:∃ k,(if (T ts s).tok=1 then Pa.kindOf (T ts s).text else 0)=k:=⟨_,rfl⟩
 have e:Pa.kind ts s=(k,Pa.up (if k=0 then Pa.fail s (T ts s).at_ 130 else s)):=by rw [← hk];rfl
 rw [e]
 show s.i < (if k=0 then Pa.fail s (T ts s).at_ 130 else s).i+1
 split
 ·have:=zb2 (s:=s) (a:=(T ts s).at_) (e:=130);omega
 ·omega
theorem zc7 {s:PS}:s.i≤(Pa.literal ts s).2.i:=by
 unfold Pa.literal
 split
 ·show s.i≤s.i+1;omega
 ·exact zb2
theorem znh {s:PS}:s.i≤(Pa.lit ts s).2.i:=by
 unfold Pa.lit
 split
 ·refine lt_ (m:=(if (T ts (Pa.up s)).tok=3 then Pa.up s else Pa.fail (Pa.up s) (T ts (Pa.up s)).at_ 130).i) ?_ zc7
  split
  ·exact zcx
  ·exact lt_ zcx zb2
 ·exact zc7
theorem zjw {s:PS} {il:Bool}:s.i≤(Pa.init ts il s).2.i:=by
 unfold Pa.init
 simp only
 split
 ·split
  ·refine lt_ ?_ (lt_ (lt_ zc7 zay) zaN)
   split
   ·exact lt_ zay (lt_ zcx (lt_ zay (lt_ zcx lines_le)))
   ·exact lt_ zay (lt_ zcx (lt_ zay (lt_ zcx (lt_ lines_le zb2))))
  ·exact lt_ zay (lt_ zcx (lt_ zay (lt_ znh (lt_ zay zaN))))
 ·exact lt_ zay (lt_ zay zaN)
theorem zh4 {s:PS} {il:Bool}:s.i < (Pa.field ts il s).2.i:=by
 have h1:s.i < (Pa.name ts s).i:=zd6
 show s.i < (Pa.init ts il (Pa.kind ts (Pa.step ts il (Pa.must ts (Pa.step ts il (Pa.name ts s)) [58]))).2).2.i
 exact ll_ h1 (lt_ zay (lt_ zaN (lt_ zay (lt_ (Nat.le_of_lt zhi) zjw))))
theorem zcg {α:Type} {il:Bool} {stop:List UInt8} {one:PS→α × PS} (h1:∀ s,s.i < (one s).2.i):∀ (f:Nat) (s:PS),(items ts il stop one f s).1.length+s.i≤(items ts il stop one f s).2.i:=by
 intro f
 induction f with
 | zero=>
  intro s
  rw [items]
  simp only [List.length_nil,Nat.zero_add]
  exact zay
 | succ f ih=>
  intro s
  rw [items]
  simp only
  split
  ·have h2:=ih (one (Pa.step ts il s)).2
   have h3:=h1 (Pa.step ts il s)
   have h4:s.i≤(Pa.step ts il s).i:=zay
   simp only [List.length_cons]
   omega
  ·simp only [List.length_nil,Nat.zero_add]
   exact zay
theorem zdr {s:PS} {il:Bool}:s.i < (Pa.structure_ ts il s).2.i:=by
 have h1:s.i < (Pa.name ts s).i:=zd6
 show s.i < (Pa.must ts (Pa.step ts il (Pa.must ts (items ts il sEND_STRUCT (Pa.field ts il) (ts.length+1) (Pa.must ts (Pa.step ts il (Pa.must ts (Pa.step ts il (Pa.name ts s)) [58])) sSTRUCT)).2 sEND_STRUCT)) [59]).i
 have h2:=zcg (ts:=ts) (il:=il) (stop:=sEND_STRUCT) (one:=Pa.field ts il) (fun s=>zh4) (ts.length+1) (Pa.must ts (Pa.step ts il (Pa.must ts (Pa.step ts il (Pa.name ts s)) [58])) sSTRUCT)
 have h3:(Pa.name ts s).i≤(Pa.must ts (Pa.step ts il (Pa.must ts (Pa.step ts il (Pa.name ts s)) [58])) sSTRUCT).i:=lt_ (lt_ (lt_ zay zaN) zay) zaN
 have h4:(items ts il sEND_STRUCT (Pa.field ts il) (ts.length+1) (Pa.must ts (Pa.step ts il (Pa.must ts (Pa.step ts il (Pa.name ts s)) [58])) sSTRUCT)).2.i≤(Pa.must ts (Pa.step ts il (Pa.must ts (items ts il sEND_STRUCT (Pa.field ts il) (ts.length+1) (Pa.must ts (Pa.step ts il (Pa.must ts (Pa.step ts il (Pa.name ts s)) [58])) sSTRUCT)).2 sEND_STRUCT)) [59]).i:=lt_ (lt_ zaN zay) zaN
 omega
end
theorem zhL {ts:List Tok} (hts:∀ t ∈ ts,TokT t) {s:PS} {il:Bool} (h:(Pa.structure_ ts il s).2.err=0) :
  s.err=0∧((∀ f ∈ (Pa.structure_ ts il s).1.fields,(Ty.scalar f.kind=true∧IniT f.init)∧zdT f)∧(Pa.structure_ ts il s).1.name.length≤100000∧(Pa.structure_ ts il s).1.fields.length≤(Pa.structure_ ts il s).2.i):=by
 obtain ⟨s3,hs3⟩:∃ x,Pa.must ts (Pa.step ts il (Pa.must ts (Pa.step ts il (Pa.name ts s)) [58])) sSTRUCT=x:=⟨_,rfl⟩
 obtain ⟨r,hr⟩:∃ x,items ts il sEND_STRUCT (Pa.field ts il) (ts.length+1) s3=x:=⟨_,rfl⟩
 have e:Pa.structure_ ts il s=(⟨(T ts s).text,r.1,(T ts s).at_⟩,Pa.must ts (Pa.step ts il (Pa.must ts r.2 sEND_STRUCT)) [59]):=by
  rw [← hr,← hs3];rfl
 rw [e] at h ⊢
 have h1:r.2.err=0:=zbD (zaY (zbD h))
 have h2:=zjx (Q:=fun f=>(Ty.scalar f.kind=true∧IniT f.init)∧zdT f) (ts:=ts) (il:=il) (stop:=sEND_STRUCT) (one:=Pa.field ts il) (fun s hs=>zl2 hts hs) (ts.length+1) s3 (by rw [hr];exact h1)
 rw [hr] at h2
 have h3:=zcg (ts:=ts) (il:=il) (stop:=sEND_STRUCT) (one:=Pa.field ts il) (fun s=>zh4) (ts.length+1) s3
 rw [hr] at h3
 have h4:(Pa.must ts (Pa.step ts il (Pa.must ts (Pa.step ts il (Pa.name ts s)) [58])) sSTRUCT).err=0:=by rw [hs3];exact h2.1
 have h5:=zgk (zaY (zbD (zaY (zbD h4))))
 refine ⟨h5.1,h2.2,(T_T hts s).len,?_⟩
 have h6:r.2.i≤(Pa.must ts (Pa.step ts il (Pa.must ts r.2 sEND_STRUCT)) [59]).i:=lt_ zaN (lt_ zay zaN)
 exact lt_ (by omega:r.1.length≤r.2.i) h6
section
variable {ts:List Tok} (hts:∀ t ∈ ts,TokT t)
theorem zhX {s:PS} {il re:Bool}:s.i < (Pa.variable_ ts il re s).2.i:=by
 obtain ⟨s1,hs1⟩:∃ x,Pa.step ts il (Pa.name ts s)=x:=⟨_,rfl⟩
 obtain ⟨s2,hs2⟩:∃ x,Pa.step ts il (Pa.must ts (Pa.vaddr ts il s1).2 [58])=x:=⟨_,rfl⟩
 have e:(Pa.variable_ ts il re s).2=(Pa.init ts il (Pa.vtype ts il s2).2).2:=by
  rw [← hs2,← hs1];rfl
 rw [e]
 have h1:s.i < s1.i:=by rw [← hs1];exact ll_ zd6 zay
 have h2:s1.i≤(Pa.vaddr ts il s1).2.i:=by
  unfold Pa.vaddr
  split
  ·have b1:s1.i≤(Pa.step ts il (Pa.up s1)).i:=lt_ zcx zay
   have b2:(Pa.step ts il (Pa.up s1)).i≤(if (T ts (Pa.step ts il (Pa.up s1))).tok=5 then Pa.step ts il (Pa.up s1) else Pa.fail (Pa.step ts il (Pa.up s1)) (T ts (Pa.step ts il (Pa.up s1))).at_ 130).i:=by
    split
    ·exact Nat.le_refl _
    ·exact zb2
   exact lt_ b1 (lt_ b2 (lt_ zcx zay))
  ·exact Nat.le_refl _
 have h3:(Pa.vaddr ts il s1).2.i≤s2.i:=by rw [← hs2];exact lt_ zaN zay
 have hb:∀ x:PS,x.i≤(Pa.bound ts x).2.i:=by
  intro x
  obtain ⟨m,hm⟩:∃ m,Pa.is ts x [45]=m:=⟨_,rfl⟩
  obtain ⟨x1,hx1⟩:∃ y,(if m=true then Pa.up x else x)=y:=⟨_,rfl⟩
  have e:Pa.bound ts x=if (T ts x1).tok=3∧(T ts x1).kind=0 then (if m=true then neg64 (T ts x1).n else (T ts x1).n,Pa.up x1) else (0,Pa.fail x1 (T ts x1).at_ 130):=by
   rw [← hx1,← hm];rfl
  have h:x.i≤x1.i:=by
   rw [← hx1]
   split
   ·exact zcx
   ·exact Nat.le_refl _
  rw [e]
  split
  ·exact lt_ h zcx
  ·exact lt_ h zb2
 have hl:∀ x:PS,x.i≤(Pa.lined ts il x).2.i:=by
  intro x
  unfold Pa.lined
  split
  ·simp only
   split
   ·exact lt_ zcx (lt_ lines_le zcx)
   ·exact lt_ zcx (lt_ lines_le zb2)
  ·exact hb x
 have h4:s2.i≤(Pa.vtype ts il s2).2.i:=by
  unfold Pa.vtype
  split
  ·simp only
   have a1:s2.i≤(Pa.step ts il (Pa.must ts (Pa.step ts il (Pa.up s2)) [91])).i:=lt_ zcx (lt_ zay (lt_ zaN zay))
   have a2:=hl (Pa.step ts il (Pa.must ts (Pa.step ts il (Pa.up s2)) [91]))
   have a3:=hl (Pa.step ts il (Pa.must ts (Pa.step ts il (Pa.lined ts il (Pa.step ts il (Pa.must ts (Pa.step ts il (Pa.up s2)) [91]))).2) [46,46]))
   have a4:(Pa.lined ts il (Pa.step ts il (Pa.must ts (Pa.step ts il (Pa.up s2)) [91]))).2.i≤(Pa.step ts il (Pa.must ts (Pa.step ts il (Pa.lined ts il (Pa.step ts il (Pa.must ts (Pa.step ts il (Pa.up s2)) [91]))).2) [46,46])).i:=lt_ zay (lt_ zaN zay)
   refine lt_ a1 (lt_ a2 (lt_ a4 (lt_ a3 (lt_ zay (lt_ zaN (lt_ zay (lt_ zaN (lt_ zay (Nat.le_of_lt zhi)))))))))
  ·split
   ·exact Nat.le_of_lt zd6
   ·exact Nat.le_of_lt zhi
 have h5:(Pa.vtype ts il s2).2.i≤(Pa.init ts il (Pa.vtype ts il s2).2).2.i:=zjw
 omega
end
end Go.Proofs.YtdpkjpjkdmkkpaaGreatDoor.Rf
namespace Go.Proofs.YtdpkjpjkdmkkpaaGreatDoor.Rf
open Lx (Tok tok0)
open Pa
def StrT (m:Nat) (s:zad):Prop:=(∀ f ∈ s.fields,(Ty.scalar f.kind=true∧IniT f.init)∧zdT f)∧s.name.length≤100000∧s.fields.length≤m
theorem StrT.mono {m n:Nat} {s:zad} (h:StrT m s) (hm:m≤n):StrT n s:=⟨h.1,h.2.1,lt_ h.2.2 hm⟩
section
variable {ts:List Tok} (hts:∀ t ∈ ts,TokT t)
theorem zfV {il:Bool} (hts:∀ t ∈ ts,TokT t):∀ (f:Nat) (s:PS),(items ts il sEND_TYPE (Pa.structure_ ts il) f s).2.err=0→s.err=0∧∀ x ∈ (items ts il sEND_TYPE (Pa.structure_ ts il) f s).1,StrT (items ts il sEND_TYPE (Pa.structure_ ts il) f s).2.i x:=by
 intro f
 induction f with
 | zero=>
  intro s h
  rw [items] at h ⊢
  exact ⟨zaY h,fun x hx=>by cases hx⟩
 | succ f ih=>
  intro s h
  rw [items] at h ⊢
  simp only at h ⊢
  split at h
  ·rename_i h2
   rw [if_pos h2]
   obtain ⟨h3,h4⟩:=ih _ h
   obtain ⟨h5,h6⟩:=zhL hts h3
   have h7:=zcg (ts:=ts) (il:=il) (stop:=sEND_TYPE) (one:=Pa.structure_ ts il) (fun s=>zdr) f (Pa.structure_ ts il (Pa.step ts il s)).2
   refine ⟨zaY h5,fun x hx=>?_⟩
   rcases List.mem_cons.1 hx with rfl | hx
   ·exact ⟨h6.1,h6.2.1,lt_ h6.2.2 (by simp only;omega)⟩
   ·exact h4 x hx
  ·rename_i h2
   rw [if_neg h2]
   exact ⟨zaY h,fun x hx=>by cases hx⟩
theorem zmG {il:Bool} (hts:∀ t ∈ ts,TokT t):∀ (f:Nat) (s:PS),(Pa.types ts il f s).2.err=0→s.err=0∧(∀ x ∈ (Pa.types ts il f s).1,StrT (Pa.types ts il f s).2.i x)∧(Pa.types ts il f s).1.length+s.i≤(Pa.types ts il f s).2.i:=by
 intro f
 induction f with
 | zero=>
  intro s h
  rw [Pa.types] at h ⊢
  exact ⟨h,fun x hx=>(by cases hx),by simp⟩
 | succ f ih=>
  intro s h
  rw [Pa.types] at h ⊢
  by_cases h1:Pa.is ts s zkf=true
  ·rw [if_pos h1] at h ⊢
   simp only at h ⊢
   obtain ⟨r,hr⟩:∃ x,items ts il sEND_TYPE (Pa.structure_ ts il) (ts.length+1) (Pa.up s)=x:=⟨_,rfl⟩
   rw [hr] at h ⊢
   obtain ⟨s2,hs2⟩:∃ x,Pa.step ts il (Pa.must ts r.2 sEND_TYPE)=x:=⟨_,rfl⟩
   rw [hs2] at h ⊢
   obtain ⟨h2,h3,h4⟩:=ih s2 h
   have h5:r.2.err=0:=zbD (zaY (by rw [hs2];exact h2))
   have h6:=zfV (il:=il) hts (ts.length+1) (Pa.up s) (by rw [hr];exact h5)
   have h7:=zcg (ts:=ts) (il:=il) (stop:=sEND_TYPE) (one:=Pa.structure_ ts il) (fun s=>zdr) (ts.length+1) (Pa.up s)
   rw [hr] at h6 h7
   have h8:r.2.i≤s2.i:=by rw [← hs2];exact lt_ zaN zay
   have h9:(Pa.up s).i=s.i+1:=rfl
   refine ⟨is_0 h1,fun x hx=>?_,by rw [List.length_append];omega⟩
   rcases List.mem_append.1 hx with hx | hx
   ·exact (h6.2 x hx).mono (by omega)
   ·exact h3 x hx
  ·rw [if_neg h1] at h ⊢
   exact ⟨h,fun x hx=>(by cases hx),by simp⟩
theorem znE {il:Bool} (hts:∀ t ∈ ts,TokT t):∀ (f:Nat) (s:PS),(Pa.vars ts il f s).2.err=0→s.err=0∧(∀ x ∈ (Pa.vars ts il f s).1,VarT x∧zdT x)∧(Pa.vars ts il f s).1.length+s.i≤(Pa.vars ts il f s).2.i:=by
 intro f
 induction f with
 | zero=>
  intro s h
  rw [Pa.vars] at h ⊢
  exact ⟨h,fun x hx=>(by cases hx),by simp⟩
 | succ f ih=>
  intro s h
  rw [Pa.vars] at h ⊢
  simp only at h ⊢
  obtain ⟨s1,hs1⟩:∃ x,(if il=true then Pa.lines ts s else s)=x:=⟨_,rfl⟩
  rw [hs1] at h ⊢
  by_cases h1:Pa.is ts s1 sVAR=true
  ·rw [if_pos h1] at h ⊢
   obtain ⟨s2,hs2⟩:∃ x,Pa.step ts il (Pa.must ts s1 sVAR)=x:=⟨_,rfl⟩
   rw [hs2] at h ⊢
   obtain ⟨re,hre⟩:∃ x,Pa.is ts s2 zfS=x:=⟨_,rfl⟩
   rw [hre] at h ⊢
   obtain ⟨s3,hs3⟩:∃ x,(if re=true then Pa.up s2 else s2)=x:=⟨_,rfl⟩
   rw [hs3] at h ⊢
   obtain ⟨r,hr⟩:∃ x,items ts il sEND_VAR (Pa.variable_ ts il re) (ts.length+1) s3=x:=⟨_,rfl⟩
   rw [hr] at h ⊢
   obtain ⟨h2,h3,h4⟩:=ih _ h
   have h5:r.2.err=0:=zbD h2
   have h6:=zjx (Q:=fun x=>VarT x∧zdT x) (ts:=ts) (il:=il) (stop:=sEND_VAR) (one:=Pa.variable_ ts il re) (fun s hs=>zja hts hs) (ts.length+1) s3 (by rw [hr];exact h5)
   have h7:=zcg (ts:=ts) (il:=il) (stop:=sEND_VAR) (one:=Pa.variable_ ts il re) (fun s=>zhX) (ts.length+1) s3
   rw [hr] at h6 h7
   have h8:r.2.i≤(Pa.must ts r.2 sEND_VAR).i:=zaN
   have h9:s2.i≤s3.i:=by rw [← hs3];split;exact zcx;exact Nat.le_refl _
   have h10:s1.i≤s2.i:=by rw [← hs2];exact lt_ zaN zay
   have h11:s.i≤s1.i:=by rw [← hs1];split;exact lines_le;exact Nat.le_refl _
   have h12:s.err=0:=by
    have h13:=is_0 h1
    rw [← hs1] at h13
    split at h13
    ·exact lines_0 h13
    ·exact h13
   refine ⟨h12,fun x hx=>?_,by show (r.1++(Pa.vars ts il f (Pa.must ts r.2 sEND_VAR)).1).length+s.i≤(Pa.vars ts il f (Pa.must ts r.2 sEND_VAR)).2.i;rw [List.length_append];omega⟩
   rcases List.mem_append.1 hx with hx | hx
   ·exact h6.2 x hx
   ·exact h3 x hx
  ·rw [if_neg h1] at h ⊢
   exact ⟨h,fun x hx=>(by cases hx),by simp⟩
theorem decls_T {il:Bool} {s s':PS} {d:zaQ} (hts:∀ t ∈ ts,TokT t) (hl:ts.length≤100000) (h:Pa.decls ts il s=(d,s')) (he:s'.err=0) (hi:s'.i≤ts.length):DeclT d∧zbj d:=by
 obtain ⟨a,ha⟩:∃ x,Pa.types ts il (ts.length+1) (Pa.step ts il s)=x:=⟨_,rfl⟩
 obtain ⟨s1,hs1⟩:∃ x,Pa.must ts a.2 sPROGRAM=x:=⟨_,rfl⟩
 obtain ⟨b,hb⟩:∃ x,Pa.vars ts il (ts.length+1) (Pa.name ts s1)=x:=⟨_,rfl⟩
 have e:Pa.decls ts il s=(⟨(T ts s1).text,a.1,b.1⟩,b.2):=by
  rw [← hb,← hs1,← ha];rfl
 rw [e] at h
 injection h with h1 h2
 subst h1 h2
 have h3:=znE (il:=il) hts (ts.length+1) (Pa.name ts s1) (by rw [hb];exact he)
 rw [hb] at h3
 obtain ⟨h4,h5,h6⟩:=h3
 have h7:=(zgk h4).1
 have h8:a.2.err=0:=zbD (by rw [hs1];exact h7)
 have h9:=zmG (il:=il) hts (ts.length+1) (Pa.step ts il s) (by rw [ha];exact h8)
 rw [ha] at h9
 obtain ⟨_,h10,h11⟩:=h9
 have h12:a.2.i≤s1.i:=by rw [← hs1];exact zaN
 have h13:s1.i < (Pa.name ts s1).i:=zd6
 refine ⟨⟨fun x hx f hf=>((h10 x hx).1 f hf).1,fun v hv=>(h5 v hv).1⟩,⟨?_,fun x hx=>⟨(h10 x hx).2.1,?_,fun f hf=>((h10 x hx).1 f hf).2⟩,?_,fun v hv=>(h5 v hv).2⟩⟩
 ·show a.1.length≤100000;omega
 ·have h14:=(h10 x hx).2.2;omega
 ·show b.1.length≤100000;omega
end
end Go.Proofs.YtdpkjpjkdmkkpaaGreatDoor.Rf
namespace Go.Proofs.YtdpkjpjkdmkkpaaGreatDoor.Rf
open Lx
open Pa (neg64)
theorem zjz {k:Nat} {n:Int} (h1:1≤k) (h2:k≤11) (h:n=zaW k n):Ty.scalar (k:Int)=true∧Ty.inKind k n=true:=by
 refine ⟨?_,?_⟩
 ·unfold Ty.scalar
  simp only [Bool.and_eq_true,decide_eq_true_eq]
  omega
 ·rw [← zfr k h1 h2 n]
  simp only [beq_iff_eq]
  exact h
theorem znI {k n:Int} (h:Ty.inKind k n=true):Ad.Is64 n:=by
 unfold Ty.inKind at h
 simp only [Bool.and_eq_true,decide_eq_true_eq] at h
 have h1:-2147483648≤Ty.low k:=by
  unfold Ty.low
  repeat' split
  all_goals omega
 have h2:Ty.high k≤4294967295:=by
  unfold Ty.high
  repeat' split
  all_goals omega
 exact ⟨by omega,by omega⟩
theorem zmF {l:List UInt8} {a k:Nat} (h1:1≤k) (h2:k≤11) (h:(zaL l a k).2.2=0):TokT (zaL l a k).1:=by
 have ok:∀ n:Int,Ty.inKind k n=true→Ty.scalar (k:Int)=true→TokT ⟨3,k,n,[],0⟩:=fun n hn hs=>
  ⟨fun _=>⟨znI hn,fun _=>⟨hs,hn⟩⟩,fun h=>(by cases h),fun h=>(by cases h),by simp⟩
 unfold zaL at h ⊢
 simp only at h ⊢
 split
 ·rename_i h3
  obtain ⟨rfl,_⟩:=h3
  split
  ·exact ok 1 (by decide) (by decide)
  ·exact ok 0 (by decide) (by decide)
 ·rename_i h3
  rw [if_neg h3] at h
  split
  ·rename_i h4
   rw [if_pos h4] at h
   split
   ·exact zca
   ·rename_i h5
    rw [if_neg h5] at h
    split
    ·rename_i h6
     obtain ⟨h7,h8⟩:=zjz h1 h2 h6
     exact ok _ h8 h7
    ·exact zca
  ·rename_i h4
   rw [if_neg h4] at h
   split
   ·exact zca
   ·rename_i h5
    rw [if_neg h5] at h
    split
    ·rename_i h6
     obtain ⟨h7,h8⟩:=zjz h1 h2 h6
     exact ok _ h8 h7
    ·exact zca
theorem zlI {t:Nat × Int × Bool} {n:Int}:TokT (zcc t n).1:=by
 unfold zcc
 split
 ·exact zca
 ·split
  ·exact zca
  ·rename_i h1 h2
   refine ⟨fun h=>(by cases h),fun _=>?_,fun h=>(by cases h),by simp⟩
   unfold Ty.inKind
   simp only [Bool.and_eq_true,decide_eq_true_eq]
   show Ty.low 11≤n∧n≤Ty.high 11
   have a:Ty.low 11=-2147483648:=by decide
   have b:Ty.high 11=2147483647:=by decide
   omega
theorem zkl {n:Int} (h:n=1∨n=0):TokT ⟨3,1,n,[],0⟩:=by
 refine ⟨fun _=>?_,fun h=>(by cases h),fun h=>(by cases h),by simp⟩
 rcases h with rfl | rfl
 ·exact ⟨⟨by decide,by decide⟩,fun _=>⟨by decide,by decide⟩⟩
 ·exact ⟨⟨by decide,by decide⟩,fun _=>⟨by decide,by decide⟩⟩
theorem znv {x:ByteArray} {z:Nat} (hx:x.data.toList≠[]) (hl:x.data.toList.length≤100000):TokT (za7 x z).1:=by
 unfold za7
 split
 ·exact zkl (.inl rfl)
 ·split
  ·exact zkl (.inr rfl)
  ·split
   ·exact ⟨fun h=>(by cases h),fun h=>(by cases h),fun h=>(by cases h),hl⟩
   ·split
    ·exact zca
    ·exact ⟨fun h=>(by cases h),fun h=>(by cases h),fun _=>hx,hl⟩
theorem znz:∀ (gs:List (List UInt8)) (l:List UInt8),(∀ g ∈ gs,g.length≤100000)→TokT (zcT l gs).1:=by
 intro gs
 induction gs with
 | nil=>intro l _;exact zca
 | cons g r ih=>
  intro l h
  rw [zcT]
  split
  ·exact ⟨fun h=>(by cases h),fun h=>(by cases h),fun h=>(by cases h),h g (by simp)⟩
  ·exact ih l (fun x hx=>h x (by simp [hx]))
theorem ziS (l:List UInt8):0≤(Lx.number l).1:=by
 unfold Lx.number
 simp only
 split
 ·decide
 ·split
  ·split
   ·decide
   ·exact (za9 _ _ (za9 l 10 (by decide)).1).1
  ·exact (za9 l 10 (by decide)).1
theorem znN {l:List UInt8} (h:(zbQ (Lx.number l)).2.2=0):TokT (zbQ (Lx.number l)).1:=by
 have h1:=ziS l
 unfold zbQ at h ⊢
 simp only at h
 have h2:¬ ((Lx.number l).2.2=0∧4294967295 < (Lx.number l).1):=by
  intro h3
  rw [if_pos h3] at h
  cases h
 rw [if_neg h2] at h
 have h3:(Lx.number l).1≤4294967295:=by
  by_cases h4:(Lx.number l).1≤4294967295
  ·exact h4
  ·exact absurd ⟨h,by omega⟩ h2
 exact ⟨fun _=>⟨⟨by show -9223372036854775808≤(Lx.number l).1;omega,by show (Lx.number l).1≤9223372036854775807;omega⟩,fun h=>absurd rfl h⟩,fun h=>(by cases h),fun h=>(by cases h),by simp⟩
theorem zmA {l:List UInt8} {a:Nat}:TokT (zbt l a).1:=by
 unfold zbt
 split
 ·exact zlI
 ·exact zlI
theorem znF {c:UInt8} {t:List UInt8} (hc:lett c=true) (hl:(c::t).length≤65536) (h:(zbK (c::t)).2.2=0):TokT (zbK (c::t)).1:=by
 obtain ⟨z,hz⟩:∃ z,span zbi (c::t)=z:=⟨_,rfl⟩
 have hz1:1≤z:=by
  rw [← hz,span,if_pos (by unfold zbi;rw [hc];rfl)]
  omega
 have hx:(mkS ((c::t).take z)).data.toList=(c::t).take z:=rfl
 obtain ⟨x,hx0⟩:∃ x,mkS ((c::t).take z)=x:=⟨_,rfl⟩
 obtain ⟨k,hk⟩:∃ k,kindOf x=k:=⟨_,rfl⟩
 have hk11:k≤11:=by rw [← hk];exact zgf _
 have e:zbK (c::t)=if (c::t)[z]? = some 35∧(k≠0∨(x.toList==[84])=true) then (if k=11∨k=0 then zbt (c::t) (z+1) else zaL (c::t) (z+1) k) else za7 x z:=by
  rw [← hk,← hx0,← hz];rfl
 rw [e] at h ⊢
 split
 ·rename_i h1
  rw [if_pos h1] at h
  split
  ·exact zmA
  ·rename_i h2
   rw [if_neg h2] at h
   exact zmF (by omega) hk11 h
 ·rw [hx0] at hx
  refine znv ?_ ?_
  ·rw [hx]
   cases z with
   | zero=>omega
   | succ z=>simp
  ·rw [hx]
   have:=List.length_take_le z (c::t)
   have h2:((c::t).take z).length≤(c::t).length:=by rw [List.length_take];omega
   omega
theorem zkg:∀ g ∈ SG,g.length≤100000:=by
 have h:SG.all (fun g=>decide (g.length≤100000))=true:=by decide
 intro g hg
 exact of_decide_eq_true (List.all_eq_true.1 h g hg)
theorem zmE {l:List UInt8} (hl:l.length≤65536) (h:(zbZ l).2.2=0):TokT (zbZ l).1:=by
 cases l with
 | nil=>exact zca
 | cons c t=>
  have e:zbZ (c::t)=if c.toNat≠10∧lett c=true then zbK (c::t) else zdk (c::t):=rfl
  rw [e] at h ⊢
  split
  ·rename_i h1
   rw [if_pos h1] at h
   exact znF h1.2 hl h
  ·rename_i h1
   rw [if_neg h1] at h
   have e2:zdk (c::t)=if c.toNat=10 then (⟨7,0,0,[10],0⟩,1,0) else if lett c=true then zcq (c::t) else if dig c=true then zbQ (Lx.number (c::t)) else if c.toNat=37 then zb3 (c::t) (1+span zdU t) (Ad.aParse ((c::t).take (1+span zdU t))).2.2 else zcT (c::t) SG:=rfl
   rw [e2] at h ⊢
   split
   ·exact ⟨fun h=>(by cases h),fun h=>(by cases h),fun h=>(by cases h),by simp⟩
   ·rename_i h2
    rw [if_neg h2] at h
    split
    ·rename_i h3
     exact absurd ⟨h2,h3⟩ h1
    ·rename_i h3
     rw [if_neg h3] at h
     split
     ·rename_i h4
      rw [if_pos h4] at h
      exact znN h
     ·rename_i h4
      rw [if_neg h4] at h
      split
      ·unfold zb3
       split
       ·exact zca
       ·refine ⟨fun h=>(by cases h),fun h=>(by cases h),fun h=>(by cases h),?_⟩
        show ((c::t).take _).length≤100000
        rw [List.length_take]
        omega
      ·exact znz SG _ zkg
theorem TokT.place {t:Tok} (h:TokT t) (a:Int):TokT { t with at_:=a }:=⟨h.int,h.time,h.name,h.len⟩
theorem rT_T {il:Bool} {l:List UInt8} (hl:l.length≤65536):∀ (f a:Nat) (out ts:List Tok),(∀ t ∈ out,TokT t)→rT il l f a out=.ok ts→∀ t ∈ ts,TokT t:=by
 intro f
 induction f with
 | zero=>intro a out ts _ h;rw [rT] at h;cases h
 | succ f ih=>
  intro a out ts ho h
  have hd:(l.drop a).length≤65536:=by rw [List.length_drop];omega
  rw [rT] at h
  cases hld:l.drop a with
  | nil=>
   rw [hld] at h
   simp only at h
   injection h with h
   subst h
   intro t ht
   rcases List.mem_append.1 ht with ht | ht
   ·exact ho t ht
   ·rw [List.mem_singleton.1 ht]
    exact ⟨fun h=>(by cases h),fun h=>(by cases h),fun h=>(by cases h),by simp⟩
  | cons c r=>
   rw [hld] at h hd
   simp only at h
   split at h
   ·exact ih _ _ _ ho h
   ·split at h
    ·refine ih _ _ _ (fun t ht=>?_) h
     rcases List.mem_append.1 ht with ht | ht
     ·exact ho t ht
     ·rw [List.mem_singleton.1 ht]
      exact ⟨fun h=>(by cases h),fun h=>(by cases h),fun h=>(by cases h),by simp⟩
    ·split at h
     ·split at h
      ·cases h
      ·exact ih _ _ _ ho h
     ·split at h
      ·cases h
      ·rename_i h5
       have h6:(zbZ (c::r)).2.2=0:=by
        by_cases h7:(zbZ (c::r)).2.2=0
        ·exact h7
        ·exact absurd h7 h5
       refine ih _ _ _ (fun t ht=>?_) h
       rcases List.mem_append.1 ht with ht | ht
       ·exact ho t ht
       ·rw [List.mem_singleton.1 ht]
        exact (zmE hd h6).place _
theorem tokens_T {il:Bool} {l:List UInt8} {ts:List Tok} (h:zaP l il=.ok ts):∀ t ∈ ts,TokT t:=by
 unfold zaP at h
 split at h
 ·cases h
 ·rename_i h1
  exact rT_T (by omega) _ _ _ _ (fun t ht=>by cases ht) h
end Go.Proofs.YtdpkjpjkdmkkpaaGreatDoor.Rf
