/- The reference's declarations (package rungref15) in plain words, beside package types': first values. -/
import Derived.Test.YtdpkjpjkdmkkpaaGreatDoorNA
namespace Go.Proofs.YtdpkjpjkdmkkpaaGreatDoor.Rf
open Lx Pa
def width (k:Int):Int:=if k=1 then 1 else if k=2∨k=5∨k=8 then 8 else if k=3∨k=6∨k=9 then 16 else if k=4∨k=7∨k=10∨k=11 then 32 else 0
def wrap (k n:Int):Int:=
 if Ty.scalar k=false then 0
 else if k=1 then (if n=0 then 0 else 1)
 else if Ty.high k < n % 2 ^ (width k).toNat then n % 2 ^ (width k).toNat - 2 ^ (width k).toNat else n % 2 ^ (width k).toNat
def plain:Ini→Int × Bool
 | .plain l=>(l.n,decide (l.op=1)&&decide (l.kind=0))
 | .neg l _=>if l.op=1∧l.kind=0 then (neg64 l.n,true) else (0,false)
def first (k:Int):Option Ini→Int × Bool
 | none=>(0,true)
 | some e=>
  if (plain e).2=true then ((plain e).1,decide (k≠11)&&Ty.scalar k&&decide (Ty.low k≤(plain e).1)&&decide ((plain e).1≤Ty.high k))
  else match e with
   | .plain l=>(wrap k l.n,decide (l.op=1)&&decide (l.kind=k))
   | .neg _ _=>(wrap k 0,false)
def LitT (l:Pa.Lit):Prop:=l.op=1→l.kind≠0→Ty.scalar l.kind=true∧Ty.inKind l.kind l.n=true
def IniT:Option Ini→Prop
 | none=>True
 | some (.plain l)=>LitT l
 | some (.neg l _)=>LitT l
theorem wrap_in {k n:Int} (h:Ty.inKind k n=true) (hs:Ty.scalar k=true):wrap k n=n:=by
 unfold Ty.inKind at h
 unfold Ty.scalar at hs
 simp only [Bool.and_eq_true,decide_eq_true_eq] at h hs
 obtain ⟨h1,h2⟩:=h
 obtain ⟨h3,h4⟩:=hs
 have hk:k=1∨k=2∨k=3∨k=4∨k=5∨k=6∨k=7∨k=8∨k=9∨k=10∨k=11:=by omega
 rcases hk with rfl | rfl | rfl | rfl | rfl | rfl | rfl | rfl | rfl | rfl | rfl
 all_goals
  simp [Ty.low,Ty.high] at h1 h2
  simp [wrap,width,Ty.scalar,Ty.high]
  try split
  all_goals omega
theorem zc3 {k:Int} {o:Option Ini} (hs:Ty.scalar k=true) (ht:IniT o) :
  (first k o).2=Ty.first o k∧(Ty.first o k=true→(first k o).1=Ty.start o k):=by
 have hk0:k≠0:=by
  unfold Ty.scalar at hs
  simp only [Bool.and_eq_true,decide_eq_true_eq] at hs
  omega
 cases o with
 | none=>exact ⟨rfl,fun _=>rfl⟩
 | some e=>
  cases e with
  | plain l=>
   by_cases hp:l.op=1∧l.kind=0
   ·obtain ⟨h1,h2⟩:=hp
    by_cases h11:k=11
    ·subst h11
     simp [first,plain,Ty.first,Ty.literal,Ty.start,h1,h2]
    ·cases hi:Ty.inKind k l.n with
     | true=>
      have h3:=hi
      unfold Ty.inKind at h3
      simp only [Bool.and_eq_true,decide_eq_true_eq] at h3
      simp [first,plain,Ty.first,Ty.literal,Ty.start,h1,h2,h11,hi,hs,h3.1,h3.2]
     | false=>
      have h3:=hi
      unfold Ty.inKind at h3
      simp only [Bool.and_eq_false_iff,decide_eq_false_iff_not] at h3
      have h4:¬ (Ty.low k≤l.n∧l.n≤Ty.high k):=by rintro ⟨h5,h6⟩;rcases h3 with h | h;exact h h5;exact h h6
      have h5:(decide (Ty.low k≤l.n)&&decide (l.n≤Ty.high k))=false:=by
       cases h:(decide (Ty.low k≤l.n)&&decide (l.n≤Ty.high k)) with
       | false=>rfl
       | true=>simp only [Bool.and_eq_true,decide_eq_true_eq] at h;exact absurd h h4
      simp only [first,plain,h1,h2,Ty.first,Ty.literal,hi]
      refine ⟨?_,?_⟩
      ·simp [h11,hs];intro h;exact Int.not_le.1 (fun h9=>h4 ⟨h,h9⟩)
      ·simp [h11]
   ·have hp2:(plain (.plain l)).2=false:=by
     show (decide (l.op=1)&&decide (l.kind=0))=false
     cases h:(decide (l.op=1)&&decide (l.kind=0)) with
     | false=>rfl
     | true=>simp only [Bool.and_eq_true,decide_eq_true_eq] at h;exact absurd h hp
    have hf:first k (some (.plain l))=(wrap k l.n,decide (l.op=1)&&decide (l.kind=k)):=by
     show (if (plain (.plain l)).2=true then ((plain (.plain l)).1,_) else (wrap k l.n,decide (l.op=1)&&decide (l.kind=k)))=_
     rw [hp2,if_neg (by simp)]
    rw [hf]
    by_cases h1:l.op=1
    ·have h2:l.kind≠0:=fun h=>hp ⟨h1,h⟩
     by_cases h3:l.kind=k
     ·obtain ⟨h4,h5⟩:=ht h1 h2
      rw [h3] at h5
      have hl:Ty.literal (.plain l) k=some l.n:=by
       unfold Ty.literal
       simp [h1,h3,h5]
      simp [Ty.first,Ty.start,hl,h1,h3,wrap_in h5 hs]
     ·have hl:Ty.literal (.plain l) k=none:=by
       unfold Ty.literal
       simp [h2,h3]
      simp [Ty.first,Ty.start,hl,h1,h3]
    ·have hl:Ty.literal (.plain l) k=none:=by
      unfold Ty.literal
      simp [h1]
     simp [Ty.first,Ty.start,hl,h1]
  | neg l a=>
   by_cases hp:l.op=1∧l.kind=0
   ·obtain ⟨h1,h2⟩:=hp
    have hf:first k (some (.neg l a))=(neg64 l.n,decide (k≠11)&&Ty.scalar k&&decide (Ty.low k≤neg64 l.n)&&decide (neg64 l.n≤Ty.high k)):=by
     simp [first,plain,h1,h2]
    rw [hf]
    by_cases h11:k=11
    ·subst h11
     simp [Ty.first,Ty.start,Ty.literal]
    ·cases hi:Ty.inKind k (neg64 l.n) with
     | true=>
      have h3:=hi
      unfold Ty.inKind at h3
      simp only [Bool.and_eq_true,decide_eq_true_eq] at h3
      simp [Ty.first,Ty.literal,Ty.start,h1,h2,h11,hi,hs,h3.1,h3.2]
     | false=>
      have h3:=hi
      unfold Ty.inKind at h3
      simp only [Ty.first,Ty.literal,Ty.start,h1,h2,hi,hs]
      refine ⟨?_,?_⟩
      ·simp only [Bool.and_eq_false_iff,decide_eq_false_iff_not] at h3
       simp [h11]
       intro h
       rcases h3 with h4 | h4
       ·exact absurd h h4
       ·exact Int.not_le.1 h4
      ·simp
   ·have hf:first k (some (.neg l a))=(wrap k 0,false):=by
     simp [first,plain,hp]
    have hl:Ty.literal (.neg l a) k=none:=by
     show (if l.op=1∧l.kind=0∧k≠11∧Ty.inKind k (neg64 l.n)=true then some (neg64 l.n) else none)=none
     exact if_neg (fun h=>hp ⟨h.1,h.2.1⟩)
    rw [hf]
    simp [Ty.first,Ty.start,hl]
end Go.Proofs.YtdpkjpjkdmkkpaaGreatDoor.Rf
namespace Go.Proofs.YtdpkjpjkdmkkpaaGreatDoor.Rf
open Lx Pa
def fieldsErr (seen:List (List UInt8)):List PVar→Option (Int × Int)
 | []=>none
 | f::r=>if f.name ∈ seen then some (f.at_,151) else if (first f.kind f.init).2=false then some (f.at_,154) else fieldsErr (f.name::seen) r
def structsErr (seen:List (List UInt8)):List zad→Option (Int × Int)
 | []=>none
 | s::r=>
  if Ty.block s.name=true∨s.name ∈ seen then some (s.at_,151)
  else if s.fields.length=0∨256 < s.fields.length then some (s.at_,155)
  else match fieldsErr [] s.fields with
   | some e=>some e
   | none=>structsErr (s.name::seen) r
def cellsOf (ss:List zad) (v:PVar):Int:=
 if v.kind=12 then v.hi - v.lo+1
 else if Ty.block v.tname=true then (Ty.insOf v.tname).length+(Ty.outsOf v.tname).length+3
 else if v.tname≠[] then (match Ty.structOf ss v.tname with | some s=>s.fields.length | none=>0)
 else 1
def varErr (ss:List zad) (names addrs:List (List UInt8)) (v:PVar):Int:=
 if Ty.block v.name=true∨(Ty.structOf ss v.name).isSome then 151
 else if v.name ∈ names then 151
 else if v.tname≠[]∧Ty.block v.tname=false∧(Ty.structOf ss v.tname).isSome=false then 152
 else if v.kind=12∧(v.hi < v.lo∨v.lo < -2147483648∨2147483647 < v.hi∨256≤v.hi - v.lo) then 152
 else if v.addr≠[]∧((Ad.aParse v.addr).1=0∨v.retain=true∨Ad.aBit (Ad.aParse v.addr).1≠decide (v.kind=1)∨(width v.kind≠1∧width v.kind≠16)) then 153
 else if v.addr≠[]∧v.addr ∈ addrs then 151
 else if v.init=none then 0
 else if Ty.scalar v.kind=false∨(v.addr≠[]∧((Ad.aParse v.addr).1=1∨(Ad.aParse v.addr).1=4)) then 154
 else if (first v.kind v.init).2=false then 154
 else 0
def varsErr (ss:List zad):List PVar→List (List UInt8)→List (List UInt8)→Int→Option (Int × Int)
 | [],_,_,_=>none
 | v::r,names,addrs,cells=>
  if varErr ss names addrs v≠0 then some (v.at_,varErr ss names addrs v)
  else if 4096 < cells+cellsOf ss v then some (v.at_,155)
  else varsErr ss r (v.name::names) (v.addr::addrs) (cells+cellsOf ss v)
def check (ss:List zad) (vs:List PVar):Option (Int × Int):=
 match structsErr [] ss with
 | some e=>some e
 | none=>match vs[256]? with
  | some v=>some (v.at_,155)
  | none=>varsErr ss vs [] [] 0
structure VarT (v:PVar):Prop where
 kind:(Ty.scalar v.kind=true∧v.tname=[])∨(v.kind=12∧Ty.scalar v.elem=true∧v.tname=[])∨(v.kind=0∧v.tname≠[])
 ini:IniT v.init
structure DeclT (d:zaQ):Prop where
 fields:∀ s ∈ d.structs,∀ f ∈ s.fields,Ty.scalar f.kind=true∧IniT f.init
 vars:∀ v ∈ d.vars,VarT v
theorem zhh {fs:List PVar} (h:∀ f ∈ fs,Ty.scalar f.kind=true∧IniT f.init):∀ seen,fieldsErr seen fs=Ty.fieldsErr seen fs:=by
 induction fs with
 | nil=>intro seen;rfl
 | cons f r ih=>
  intro seen
  obtain ⟨h1,h2⟩:=h f (by simp)
  have h3:=(zc3 h1 h2).1
  rw [fieldsErr,Ty.fieldsErr,h3,ih (fun x hx=>h x (by simp [hx]))]
  simp [h1]
theorem zgT {ss:List zad} (h:∀ s ∈ ss,∀ f ∈ s.fields,Ty.scalar f.kind=true∧IniT f.init):∀ seen,structsErr seen ss=Ty.structsErr seen ss:=by
 induction ss with
 | nil=>intro seen;rfl
 | cons s r ih=>
  intro seen
  rw [structsErr,Ty.structsErr,zhh (h s (by simp)),ih (fun x hx=>h x (by simp [hx]))]
  cases Ty.fieldsErr [] s.fields <;> rfl
theorem zkH (l:List UInt8):∀ d k,(Ad.aFrom l d k).2.2=0↔(Ad.aFrom l d k).1≠0:=by
 intro d
 induction d with
 | zero=>intro k;rw [Ad.aFrom];simp
 | succ d ih=>
  intro k
  rw [Ad.aFrom]
  split
  ·split
   ·simp;omega
   ·simp
  ·exact ih (k+1)
theorem zkz (l:List UInt8):(Ad.aParse l).2.2=0↔(Ad.aParse l).1≠0:=zkH l 6 0
theorem zdp {k:Int} (h:Ty.scalar k=true):1≤k∧k≤11:=by
 unfold Ty.scalar at h
 simpa using h
theorem zki {ss:List zad} {v:PVar} (hv:VarT v) (hs:∀ s ∈ ss,0 < s.fields.length) :
  Ty.size ss v=0↔(v.tname≠[]∧Ty.block v.tname=false∧(Ty.structOf ss v.tname).isSome=false)∨(v.kind=12∧(v.hi < v.lo∨v.lo < -2147483648∨2147483647 < v.hi∨256≤v.hi - v.lo)):=by
 unfold Ty.size
 rcases hv.kind with ⟨h1,h2⟩ | ⟨h1,h2,h3⟩ | ⟨h1,h2⟩
 ·have h3:=zdp h1
  rw [if_pos h1]
  constructor
  ·intro h;cases h
  ·rintro (⟨h,_⟩ | ⟨h,_⟩)
   ·exact absurd h2 h
   ·omega
 ·have h4:Ty.scalar v.kind=false:=by rw [h1];decide
  rw [if_neg (by rw [h4];simp),if_pos h1]
  by_cases hb:v.hi < v.lo∨v.lo < -2147483648∨2147483647 < v.hi∨256≤v.hi - v.lo
  ·rw [if_pos (.inr hb)]
   exact ⟨fun _=>.inr ⟨h1,hb⟩,fun _=>rfl⟩
  ·rw [if_neg (by rintro (h | h);rw [h2] at h;cases h;exact hb h)]
   constructor
   ·intro h;omega
   ·rintro (⟨h,_⟩ | ⟨_,h⟩)
    ·exact absurd h3 h
    ·exact absurd h hb
 ·have h4:Ty.scalar v.kind=false:=by rw [h1];decide
  rw [if_neg (by rw [h4];simp),if_neg (by omega),if_neg (by simp [h1])]
  cases h5:Ty.structOf ss v.tname with
  | some s=>
   have h6:=hs s (zaZ h5)
   constructor
   ·intro h
    simp only at h
    omega
   ·rintro (⟨_,_,h⟩ | ⟨h,_⟩)
    ·cases h
    ·omega
  | none=>
   simp only
   cases h6:Ty.block v.tname with
   | true=>
    rw [if_pos rfl]
    constructor
    ·intro h;omega
    ·rintro (⟨_,h,_⟩ | ⟨h,_⟩)
     ·cases h
     ·omega
   | false=>
    rw [if_neg (by simp)]
    exact ⟨fun _=>.inl ⟨h2,rfl,rfl⟩,fun _=>rfl⟩
theorem zkh {ss:List zad} {v:PVar} (hv:VarT v) (hb:∀ s,Ty.structOf ss v.tname=some s→Ty.block v.tname=false) (hz:Ty.size ss v≠0):cellsOf ss v=Ty.size ss v:=by
 unfold cellsOf
 rcases hv.kind with ⟨h1,h2⟩ | ⟨h1,h2,h3⟩ | ⟨h1,h2⟩
 ·have h3:=zdp h1
  rw [if_neg (by omega),h2,if_neg (by decide),if_neg (by simp)]
  unfold Ty.size
  rw [if_pos h1]
 ·have h4:Ty.scalar v.kind=false:=by rw [h1];decide
  rw [if_pos h1]
  unfold Ty.size at hz ⊢
  rw [if_neg (by rw [h4];simp),if_pos h1] at hz ⊢
  split at hz
  ·exact absurd rfl hz
  ·rename_i h5
   rw [if_neg h5]
 ·have h4:Ty.scalar v.kind=false:=by rw [h1];decide
  have e:Ty.size ss v=match Ty.structOf ss v.tname with
   | some s=>(s.fields.length:Int)
   | none=>if Ty.block v.tname=true then ((Ty.insOf v.tname).length:Int)+(Ty.outsOf v.tname).length+3 else 0:=by
   unfold Ty.size
   rw [if_neg (by rw [h4];simp),if_neg (by omega),if_neg (by simp [h1])]
   cases Ty.structOf ss v.tname <;> rfl
  rw [e] at hz ⊢
  rw [if_neg (by omega)]
  cases h5:Ty.structOf ss v.tname with
  | some s=>
   rw [hb s h5,if_neg (by simp),if_pos h2]
  | none=>
   rw [h5] at hz
   simp only at hz ⊢
   cases h6:Ty.block v.tname with
   | true=>rw [if_pos rfl,if_pos rfl]
   | false=>rw [h6] at hz;exact absurd rfl hz
theorem zhZ {k:Int}:(width k=1↔k=1)∧(width k=16↔(k=3∨k=6∨k=9)):=by
 unfold width
 constructor
 ·split
  ·simp [*]
  ·split
   ·rename_i h1 h2;constructor
    ·intro h;cases h
    ·intro h;exact absurd h h1
   ·split
    ·rename_i h1 _ _;constructor
     ·intro h;cases h
     ·intro h;exact absurd h h1
    ·split
     ·rename_i h1 _ _ _;constructor
      ·intro h;cases h
      ·intro h;exact absurd h h1
     ·rename_i h1 _ _ _;constructor
      ·intro h;cases h
      ·intro h;exact absurd h h1
 ·split
  ·rename_i h1;constructor
   ·intro h;cases h
   ·intro h;omega
  ·split
   ·constructor
    ·intro h;cases h
    ·intro h;omega
   ·split
    ·rename_i h3;exact ⟨fun _=>h3,fun _=>rfl⟩
    ·rename_i h3;split
     ·constructor
      ·intro h;cases h
      ·intro h;exact absurd h h3
     ·constructor
      ·intro h;cases h
      ·intro h;exact absurd h h3
theorem ziU (v:PVar):Ty.place v=none↔((Ad.aParse v.addr).1=0∨Ad.aBit (Ad.aParse v.addr).1≠decide (v.kind=1)∨(width v.kind≠1∧width v.kind≠16)):=by
 have he:=zkz v.addr
 obtain ⟨w1,w2⟩:=@zhZ v.kind
 have hun:Ty.place v=if (Ad.aParse v.addr).2.2≠0 then none else if (Ad.aBit (Ad.aParse v.addr).1=true∧v.kind=1)∨(Ad.aBit (Ad.aParse v.addr).1=false∧(v.kind=3∨v.kind=6∨v.kind=9)) then some ((Ad.aParse v.addr).1,(Ad.aParse v.addr).2.1) else none:=rfl
 have hw:(width v.kind≠1∧width v.kind≠16)↔(¬ v.kind=1∧¬ (v.kind=3∨v.kind=6∨v.kind=9)):=⟨fun h=>⟨fun h1=>h.1 (w1.2 h1),fun h1=>h.2 (w2.2 h1)⟩,fun h=>⟨fun h1=>h.1 (w1.1 h1),fun h1=>h.2 (w2.1 h1)⟩⟩
 rw [hun,hw]
 by_cases h0:(Ad.aParse v.addr).1=0
 ·rw [if_pos (fun h=>he.1 h h0)]
  exact ⟨fun _=>.inl h0,fun _=>rfl⟩
 ·rw [if_neg (fun h=>h (he.2 h0))]
  cases hb:Ad.aBit (Ad.aParse v.addr).1 with
  | true=>
   by_cases hk:v.kind=1
   ·rw [if_pos (.inl ⟨rfl,hk⟩)]
    simp [h0,hk]
   ·rw [if_neg (by rintro (⟨_,h⟩ | ⟨h,_⟩);exact hk h;cases h)]
    simp [hk]
  | false=>
   by_cases hk:v.kind=3∨v.kind=6∨v.kind=9
   ·rw [if_pos (.inr ⟨rfl,hk⟩)]
    have h1:¬ v.kind=1:=by omega
    simp [h0,h1,hk]
   ·rw [if_neg (by rintro (⟨h,_⟩ | ⟨_,h⟩);cases h;exact hk h)]
    by_cases h1:v.kind=1
    ·simp [h1]
    ·simp [hk,h1]
theorem zlp {ss:List zad} {v:PVar} {names addrs:List (List UInt8)} (hv:VarT v) (hs:∀ s ∈ ss,0 < s.fields.length):varErr ss names addrs v=Ty.varErr ss names addrs v:=by
 have hz:=zki hv hs
 have hp:=ziU v
 unfold varErr Ty.varErr
 by_cases h1:v.name ∈ names∨Ty.block v.name=true∨(Ty.structOf ss v.name).isSome
 ·rw [if_pos h1]
  by_cases h2:Ty.block v.name=true∨(Ty.structOf ss v.name).isSome
  ·rw [if_pos h2]
  ·rw [if_neg h2,if_pos (by rcases h1 with h | h;exact h;exact absurd h h2)]
 ·rw [if_neg h1,if_neg (fun h=>h1 (.inr h)),if_neg (fun h=>h1 (.inl h))]
  by_cases h2:Ty.size ss v=0
  ·rw [if_pos h2]
   rcases hz.1 h2 with h | h
   ·rw [if_pos h]
   ·by_cases h3:v.tname≠[]∧Ty.block v.tname=false∧(Ty.structOf ss v.tname).isSome=false
    ·rw [if_pos h3]
    ·rw [if_neg h3,if_pos h]
  ·rw [if_neg h2,if_neg (fun h=>h2 (hz.2 (.inl h))),if_neg (fun h=>h2 (hz.2 (.inr h)))]
   by_cases ha:v.addr=[]
   ·simp only [ha,ne_eq,not_true_eq_false,false_and,if_false,if_true,or_false]
    cases hi:v.init with
    | none=>simp
    | some e=>
     cases hsc:Ty.scalar v.kind with
     | false=>simp
     | true=>
      have h5:=(zc3 (o:=v.init) hsc hv.ini).1
      rw [hi] at h5
      rw [h5]
      cases Ty.first (some e) v.kind <;> simp
   ·by_cases h3:Ty.place v=none∨v.retain=true
    ·have h4:(Ad.aParse v.addr).1=0∨v.retain=true∨Ad.aBit (Ad.aParse v.addr).1≠decide (v.kind=1)∨(width v.kind≠1∧width v.kind≠16):=by
      rcases h3 with h | h
      ·rcases hp.1 h with h | h
       ·exact .inl h
       ·exact .inr (.inr h)
      ·exact .inr (.inl h)
     rw [if_pos ⟨ha,h4⟩,if_pos ⟨ha,h3⟩]
    ·have h4:¬ ((Ad.aParse v.addr).1=0∨v.retain=true∨Ad.aBit (Ad.aParse v.addr).1≠decide (v.kind=1)∨(width v.kind≠1∧width v.kind≠16)):=by
      rintro (h | h | h)
      ·exact h3 (.inl (hp.2 (.inl h)))
      ·exact h3 (.inr h)
      ·exact h3 (.inl (hp.2 (.inr h)))
     rw [if_neg (fun (h:v.addr≠[]∧((Ad.aParse v.addr).1=0∨v.retain=true∨Ad.aBit (Ad.aParse v.addr).1≠decide (v.kind=1)∨(width v.kind≠1∧width v.kind≠16)))=>h4 h.2)]
     show _=(if v.addr≠[]∧(Ty.place v=none∨v.retain=true) then 153 else if v.addr≠[]∧v.addr ∈ addrs then 151 else if v.init≠none∧(Ty.scalar v.kind=false∨(if v.addr=[] then 0 else ((Ty.place v).getD (0,0)).1)=1∨(if v.addr=[] then 0 else ((Ty.place v).getD (0,0)).1)=4∨Ty.first v.init v.kind=false) then 154 else 0)
     rw [if_neg (fun (h:v.addr≠[]∧(Ty.place v=none∨v.retain=true))=>h3 h.2)]
     by_cases h5:v.addr ∈ addrs
     ·rw [if_pos ⟨ha,h5⟩,if_pos ⟨ha,h5⟩]
     ·rw [if_neg (fun (h:v.addr≠[]∧v.addr ∈ addrs)=>h5 h.2),if_neg (fun (h:v.addr≠[]∧v.addr ∈ addrs)=>h5 h.2)]
      have har:((Ty.place v).getD (0,0)).1=(Ad.aParse v.addr).1:=by
       have hun:Ty.place v=if (Ad.aParse v.addr).2.2≠0 then none else if (Ad.aBit (Ad.aParse v.addr).1=true∧v.kind=1)∨(Ad.aBit (Ad.aParse v.addr).1=false∧(v.kind=3∨v.kind=6∨v.kind=9)) then some ((Ad.aParse v.addr).1,(Ad.aParse v.addr).2.1) else none:=rfl
       have hn:Ty.place v≠none:=fun h=>h3 (.inl h)
       rw [hun] at hn ⊢
       split at hn
       ·exact absurd rfl hn
       ·rename_i h6
        split at hn
        ·rename_i h7
         rw [if_neg h6,if_pos h7];rfl
        ·exact absurd rfl hn
      simp only [har,ha,ne_eq,not_false_eq_true,true_and,if_false]
      cases hi:v.init with
      | none=>simp
      | some e=>
       cases hsc:Ty.scalar v.kind with
       | false=>simp
       | true=>
        have h7:=(zc3 (o:=v.init) hsc hv.ini).1
        rw [hi] at h7
        rw [h7]
        by_cases h8:(Ad.aParse v.addr).1=1∨(Ad.aParse v.addr).1=4
        ·rcases h8 with h8 | h8 <;> simp [h8]
        ·have h9:¬ (Ad.aParse v.addr).1=1:=fun h=>h8 (.inl h)
         have h10:¬ (Ad.aParse v.addr).1=4:=fun h=>h8 (.inr h)
         cases Ty.first (some e) v.kind <;> simp [h9,h10]
end Go.Proofs.YtdpkjpjkdmkkpaaGreatDoor.Rf
namespace Go.Proofs.YtdpkjpjkdmkkpaaGreatDoor.Rf
open Lx Pa
theorem zhK {ss:List zad} {seen:List (List UInt8)} (h:Ty.structsErr seen ss=none):∀ s ∈ ss,0 < s.fields.length∧Ty.block s.name=false:=by
 induction ss generalizing seen with
 | nil=>intro s hs;cases hs
 | cons a r ih=>
  rw [Ty.structsErr] at h
  split at h
  ·cases h
  ·rename_i h1
   split at h
   ·cases h
   ·rename_i h2
    split at h
    ·cases h
    ·intro s hs
     rcases List.mem_cons.1 hs with rfl | hs
     ·refine ⟨by omega,?_⟩
      cases hb:Ty.block s.name with
      | false=>rfl
      | true=>exact absurd (.inl hb) h1
     ·exact ih h s hs
theorem zeK {ss:List zad} (h:∀ s ∈ ss,0 < s.fields.length∧Ty.block s.name=false) {n:List UInt8}:∀ s,Ty.structOf ss n=some s→Ty.block n=false:=by
 intro s hs
 have h1:=zaZ hs
 have h2:s.name=n:=by
  have h3:=List.find?_some hs
  simpa using h3
 rw [← h2]
 exact (h s h1).2
theorem zkt {ss:List zad} (hs:∀ s ∈ ss,0 < s.fields.length∧Ty.block s.name=false) {vs:List PVar} (hv:∀ v ∈ vs,VarT v):∀ names addrs cells,varsErr ss vs names addrs cells=Ty.varsErr ss vs names addrs cells:=by
 induction vs with
 | nil=>intro _ _ _;rfl
 | cons v r ih=>
  intro names addrs cells
  have h1:=zlp (names:=names) (addrs:=addrs) (hv v (by simp)) (fun s h=>(hs s h).1)
  rw [varsErr,Ty.varsErr,h1]
  by_cases h2:Ty.varErr ss names addrs v=0
  ·have h3:Ty.size ss v≠0:=(zex h2).size
   rw [zkh (hv v (by simp)) (zeK hs) h3,ih (fun x hx=>hv x (by simp [hx]))]
  ·rw [if_pos h2,if_pos h2]
theorem check_same {d:zaQ} (h:DeclT d):check d.structs d.vars=Ty.check d.structs d.vars:=by
 unfold check Ty.check
 rw [zgT h.fields]
 cases hs:Ty.structsErr [] d.structs with
 | some e=>rfl
 | none=>
  simp only
  cases h2:d.vars[256]? with
  | some v=>rfl
  | none=>
   simp only
   exact zkt (zhK hs) h.vars [] [] 0
def laid (ss:List zad) (v:PVar) (i:Int):List Ty.Cell:=
 if v.kind=12 then (List.range (v.hi - v.lo+1).toNat).map fun (k:Nat)=>⟨i,[],v.lo+(k:Int),v.elem,v.retain,0,0,0⟩
 else if Ty.block v.tname=true then ((Ty.insOf v.tname++Ty.outsOf v.tname).map fun p=>⟨i,p,-1,Ty.pin v.tname p,v.retain,0,0,0⟩)++(([[49],[50],[51]]:List (List UInt8)).map fun p=>⟨i,p,-1,4,v.retain,0,0,0⟩)
 else if v.tname≠[] then (match Ty.structOf ss v.tname with | some s=>s.fields.map fun f=>⟨i,f.name,-1,f.kind,v.retain,0,0,(first f.kind f.init).1⟩ | none=>[])
 else [⟨i,[],-1,v.kind,v.retain,(Ad.aParse v.addr).1,(Ad.aParse v.addr).2.1,(first v.kind v.init).1⟩]
def cellsF (ss:List zad):List PVar→Int→List Ty.Cell
 | [],_=>[]
 | v::r,i=>laid ss v i++cellsF ss r (i+1)
def cells (ss:List zad) (vs:List PVar):List Ty.Cell:=if check ss vs=none then cellsF ss vs 0 else []
end Go.Proofs.YtdpkjpjkdmkkpaaGreatDoor.Rf
