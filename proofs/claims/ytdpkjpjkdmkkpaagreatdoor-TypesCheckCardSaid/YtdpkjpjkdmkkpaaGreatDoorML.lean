/- The reference's declarations (package rungref13) in plain words: what each function of its parser computes, over a list of tokens. -/
import Derived.Test.YtdpkjpjkdmkkpaaGreatDoorMK
namespace Go.Proofs.YtdpkjpjkdmkkpaaGreatDoor.Pa
open Lx (Tok tok0)
structure PS where
 i:Nat
 err:Int
 at_:Int
deriving DecidableEq,Repr
def T (ts:List Tok) (s:PS):Tok:=if s.err=0 then ts.getD (min s.i (ts.length - 1)) tok0 else tok0
def fail (s:PS) (a e:Int):PS:=if s.err=0 then ⟨s.i,e,a⟩ else s
def up (s:PS):PS:=⟨s.i+1,s.err,s.at_⟩
def is (ts:List Tok) (s:PS) (x:List UInt8):Bool:=
 decide (s.err=0)&&(decide ((T ts s).tok=1) || decide ((T ts s).tok=6))&&decide ((T ts s).text=x)
def eat (ts:List Tok) (s:PS) (x:List UInt8):Bool × PS:=if is ts s x then (true,up s) else (false,s)
def must (ts:List Tok) (s:PS) (x:List UInt8):PS:=if is ts s x then up s else fail s (T ts s).at_ 130
def name (ts:List Tok) (s:PS):PS:=up (if (T ts s).tok=2 then s else fail s (T ts s).at_ 130)
def zho:List Tok→Nat
 | []=>0
 | t::r=>if t.tok=7 then zho r+1 else 0
def lines (ts:List Tok) (s:PS):PS:=if s.err=0 then ⟨s.i+zho (ts.drop s.i),s.err,s.at_⟩ else s
def step (ts:List Tok) (il:Bool) (s:PS):PS:=if il then lines ts s else s
def zd1 (ts:List Tok) (s:PS):Bool:=decide (s.err=0)&&(decide ((T ts s).tok=3) || decide ((T ts s).tok=4))
structure Lit where
 op:Int
 kind:Int
 n:Int
 at_:Int
deriving DecidableEq,Repr
def lit0:Lit:=⟨0,0,0,0⟩
def literal (ts:List Tok) (s:PS):Lit × PS:=
 if zd1 ts s then (⟨1,if (T ts s).tok=4 then 11 else (T ts s).kind,(T ts s).n,(T ts s).at_⟩,up s) else (lit0,fail s (T ts s).at_ 130)
inductive Ini where
 | plain (l:Lit)
 | neg (l:Lit) (a:Int)
deriving DecidableEq,Repr
def lit (ts:List Tok) (s:PS):Ini × PS:=
 if is ts s [45] then
  let s1:=up s
  let s2:=if (T ts s1).tok=3 then s1 else fail s1 (T ts s1).at_ 130
  let r:=literal ts s2
  (.neg r.1 (T ts s).at_,r.2)
 else let r:=literal ts s;(.plain r.1,r.2)
def neg64 (n:Int):Int:=IntKind.i64.wrap (-n)
def bound (ts:List Tok) (s:PS):Int × PS:=
 let m:=is ts s [45]
 let s1:=if m then up s else s
 if (T ts s1).tok=3∧(T ts s1).kind=0 then (if m then neg64 (T ts s1).n else (T ts s1).n,up s1) else (0,fail s1 (T ts s1).at_ 130)
def kindOf (x:List UInt8):Int:=
 if x=Lx.kindName 1 then 1 else if x=Lx.kindName 2 then 2 else if x=Lx.kindName 3 then 3 else if x=Lx.kindName 4 then 4 else if x=Lx.kindName 5 then 5
 else if x=Lx.kindName 6 then 6 else if x=Lx.kindName 7 then 7 else if x=Lx.kindName 8 then 8 else if x=Lx.kindName 9 then 9 else if x=Lx.kindName 10 then 10 else if x=Lx.kindName 11 then 11 else 0
def kind (ts:List Tok) (s:PS):Int × PS:=
 let t:=T ts s
 let k:=if t.tok=1 then kindOf t.text else 0
 (k,up (if k=0 then fail s t.at_ 130 else s))
def lined (ts:List Tok) (il:Bool) (s:PS):Int × PS:=
 if il&&is ts s [45] then
  let s1:=lines ts (up s)
  if (T ts s1).tok=3∧(T ts s1).kind=0 then (neg64 (T ts s1).n,up s1) else (0,fail s1 (T ts s1).at_ 130)
 else bound ts s
def init (ts:List Tok) (il:Bool) (s:PS):Option Ini × PS:=
 let s0:=step ts il s
 if is ts s0 [58,61] then
  let s1:=step ts il (up s0)
  if il&&is ts s1 [45] then
   let s2:=lines ts (up s1)
   let s3:=if (T ts s2).tok=3 then s2 else fail s2 (T ts s2).at_ 130
   let r:=literal ts s3
   (some (.neg r.1 (T ts s1).at_),must ts (step ts il r.2) [59])
  else
   let r:=lit ts s1
   (some r.1,must ts (step ts il r.2) [59])
 else (none,must ts (step ts il s0) [59])
structure PVar where
 name:List UInt8
 kind:Int
 lo:Int
 hi:Int
 elem:Int
 tname:List UInt8
 retain:Bool
 addr:List UInt8
 init:Option Ini
 at_:Int
deriving DecidableEq,Repr
structure zad where
 name:List UInt8
 fields:List PVar
 at_:Int
deriving DecidableEq,Repr
structure zaQ where
 name:List UInt8
 structs:List zad
 vars:List PVar
deriving DecidableEq,Repr
def field (ts:List Tok) (il:Bool) (s:PS):PVar × PS:=
 let n:=T ts s
 let s1:=step ts il (name ts s)
 let s2:=step ts il (must ts s1 [58])
 let k:=kind ts s2
 let r:=init ts il k.2
 (⟨n.text,k.1,0,0,0,[],false,[],r.1,n.at_⟩,r.2)
def sEND_STRUCT:List UInt8:=[69,78,68,95,83,84,82,85,67,84]
def sSTRUCT:List UInt8:=[83,84,82,85,67,84]
def sEND_VAR:List UInt8:=[69,78,68,95,86,65,82]
def sVAR:List UInt8:=[86,65,82]
def zfS:List UInt8:=[82,69,84,65,73,78]
def zkf:List UInt8:=[84,89,80,69]
def sEND_TYPE:List UInt8:=[69,78,68,95,84,89,80,69]
def sPROGRAM:List UInt8:=[80,82,79,71,82,65,77]
def sARRAY:List UInt8:=[65,82,82,65,89]
def sOF:List UInt8:=[79,70]
def sAT:List UInt8:=[65,84]
def items {α:Type} (ts:List Tok) (il:Bool) (stop:List UInt8) (one:PS→α × PS):Nat→PS→List α × PS
 | 0,s=>([],step ts il s)
 | f+1,s=>
  let s1:=step ts il s
  if s1.err=0∧is ts s1 stop=false then
   let r:=one s1
   let q:=items ts il stop one f r.2
   (r.1::q.1,q.2)
  else ([],s1)
def structure_ (ts:List Tok) (il:Bool) (s:PS):zad × PS:=
 let n:=T ts s
 let s1:=step ts il (name ts s)
 let s2:=step ts il (must ts s1 [58])
 let s3:=must ts s2 sSTRUCT
 let r:=items ts il sEND_STRUCT (field ts il) (ts.length+1) s3
 let s4:=must ts (step ts il (must ts r.2 sEND_STRUCT)) [59]
 (⟨n.text,r.1,n.at_⟩,s4)
def vaddr (ts:List Tok) (il:Bool) (s:PS):List UInt8 × PS:=
 if is ts s sAT then
  let s2:=step ts il (up s)
  let t2:=T ts s2
  (t2.text,step ts il (up (if t2.tok=5 then s2 else fail s2 t2.at_ 130)))
 else ([],s)
def vtype (ts:List Tok) (il:Bool) (s:PS):(Int × Int × Int × Int × List UInt8) × PS:=
 if is ts s sARRAY then
  let a:=lined ts il (step ts il (must ts (step ts il (up s)) [91]))
  let b:=lined ts il (step ts il (must ts (step ts il a.2) [46,46]))
  let k:=kind ts (step ts il (must ts (step ts il (must ts (step ts il b.2) [93])) sOF))
  ((12,a.1,b.1,k.1,[]),k.2)
 else if (T ts s).tok=2 then ((0,0,0,0,(T ts s).text),name ts s)
 else let k:=kind ts s;((k.1,0,0,0,[]),k.2)
def variable_ (ts:List Tok) (il retain:Bool) (s:PS):PVar × PS:=
 let n:=T ts s
 let a:=vaddr ts il (step ts il (name ts s))
 let ty:=vtype ts il (step ts il (must ts a.2 [58]))
 let r:=init ts il ty.2
 (⟨n.text,ty.1.1,ty.1.2.1,ty.1.2.2.1,ty.1.2.2.2.1,ty.1.2.2.2.2,retain,a.1,r.1,n.at_⟩,r.2)
def types (ts:List Tok) (il:Bool):Nat→PS→List zad × PS
 | 0,s=>([],s)
 | f+1,s=>
  if is ts s zkf then
   let r:=items ts il sEND_TYPE (structure_ ts il) (ts.length+1) (up s)
   let q:=types ts il f (step ts il (must ts r.2 sEND_TYPE))
   (r.1++q.1,q.2)
  else ([],s)
def vars (ts:List Tok) (il:Bool):Nat→PS→List PVar × PS
 | 0,s=>([],s)
 | f+1,s=>
  let s1:=if il then lines ts s else s
  if is ts s1 sVAR then
   let s2:=step ts il (must ts s1 sVAR)
   let re:=is ts s2 zfS
   let s3:=if re then up s2 else s2
   let r:=items ts il sEND_VAR (variable_ ts il re) (ts.length+1) s3
   let q:=vars ts il f (must ts r.2 sEND_VAR)
   (r.1++q.1,q.2)
  else ([],s)
def decls (ts:List Tok) (il:Bool) (s:PS):zaQ × PS:=
 let a:=types ts il (ts.length+1) (step ts il s)
 let s1:=must ts a.2 sPROGRAM
 let n:=T ts s1
 let b:=vars ts il (ts.length+1) (name ts s1)
 (⟨n.text,a.1,b.1⟩,b.2)
def Good (ts:List Tok) (k:Nat) (s:PS):Prop:=(s.err=0→s.i < ts.length)∧s.i≤ts.length+k
end Go.Proofs.YtdpkjpjkdmkkpaaGreatDoor.Pa
namespace Go.Proofs.YtdpkjpjkdmkkpaaGreatDoor.Pa
open Lx (Tok tok0)
def zaE (ts:List Tok):Prop:=0 < ts.length∧∀ t,ts[ts.length - 1]? = some t→t.tok=0
theorem zlR {ts:List Tok} {s:PS} (h:s.err≠0):T ts s=tok0:=by unfold T;rw [if_neg h]
theorem T_in {ts:List Tok} {s:PS} (h:s.err=0) (hi:s.i < ts.length):ts[s.i]? = some (T ts s):=by
 unfold T
 rw [if_pos h,List.getD_eq_getElem?_getD,Nat.min_eq_left (by omega),List.getElem?_eq_getElem hi]
 rfl
theorem zlS {ts:List Tok} {s:PS} (he:zaE ts) (hg:s.err=0→s.i < ts.length) (h:(T ts s).tok≠0):s.err=0∧s.i+1 < ts.length:=by
 by_cases h0:s.err=0
 ·refine ⟨h0,?_⟩
  have hi:=hg h0
  have ht:=T_in h0 hi
  rcases Nat.lt_or_ge (s.i+1) ts.length with h1 | h1
  ·exact h1
  ·rw [show s.i=ts.length - 1 by omega] at ht
   exact absurd (he.2 _ ht) h
 ·rw [zlR h0] at h
  exact absurd rfl h
theorem za2 {ts:List Tok} {s:PS} {x:List UInt8} (h:is ts s x=true):(T ts s).tok≠0:=by
 unfold is at h
 simp only [Bool.and_eq_true,Bool.or_eq_true,decide_eq_true_eq] at h
 rcases h.1.2 with h | h <;> omega
theorem zjN {ts:List Tok} {s:PS} (h:zd1 ts s=true):(T ts s).tok≠0:=by
 unfold zd1 at h
 simp only [Bool.and_eq_true,Bool.or_eq_true,decide_eq_true_eq] at h
 rcases h.2 with h | h <;> omega
theorem Good.up {ts:List Tok} {s:PS} {k:Nat} (he:zaE ts) (h:Good ts k s) (ht:(T ts s).tok≠0):Good ts k (up s):=by
 obtain ⟨h0,h1⟩:=zlS he h.1 ht
 exact ⟨fun _=>h1,by have:=h.2;show s.i+1≤_;omega⟩
theorem Good.up_any {ts:List Tok} {s:PS} {k:Nat} (h:Good ts k s) (ht:s.err≠0):Good ts (k+1) (Pa.up s):=
 ⟨fun h0=>absurd h0 ht,by have:=h.2;show s.i+1≤_;omega⟩
theorem Good.fail {ts:List Tok} {s:PS} {k:Nat} (h:Good ts k s) (a e:Int) (h0:e≠0):Good ts k (fail s a e)∧(Pa.fail s a e).err≠0:=by
 unfold Pa.fail
 split
 ·exact ⟨⟨fun h1=>absurd h1 h0,h.2⟩,h0⟩
 ·rename_i h1;exact ⟨h,h1⟩
theorem Good.mono {ts:List Tok} {s:PS} {k k':Nat} (h:Good ts k s) (hk:k≤k'):Good ts k' s:=⟨h.1,by have:=h.2;omega⟩
theorem Good.zero {ts:List Tok} {s:PS} {k:Nat} (h:Good ts k s) (h0:s.err=0):Good ts 0 s:=⟨h.1,by have:=h.1 h0;omega⟩
theorem Good.must {ts:List Tok} {s:PS} {k:Nat} (he:zaE ts) (h:Good ts k s) (x:List UInt8):Good ts k (must ts s x):=by
 unfold Pa.must
 split
 ·rename_i h1;exact h.up he (za2 h1)
 ·exact (h.fail _ _ (by decide)).1
theorem Good.name {ts:List Tok} {s:PS} {k:Nat} (he:zaE ts) (h:Good ts k s):Good ts (k+1) (name ts s):=by
 unfold Pa.name
 split
 ·rename_i h1;exact (h.up he (by rw [h1];decide)).mono (by omega)
 ·obtain ⟨h1,h2⟩:=h.fail (T ts s).at_ 130 (by decide);exact h1.up_any h2
theorem zjH {l:List Tok} (h:0 < l.length) (he:∀ t,l[l.length - 1]? = some t→t.tok=0):zho l < l.length:=by
 induction l with
 | nil=>simp at h
 | cons t r ih=>
  simp only [zho]
  split
  ·rename_i h7
   cases r with
   | nil=>have:=he t (by simp);omega
   | cons u q=>
    have:=ih (by simp) (fun x hx=>he x (by simpa using hx))
    simp at this ⊢;omega
  ·simp
theorem Good.lines {ts:List Tok} {s:PS} {k:Nat} (he:zaE ts) (h:Good ts k s):Good ts k (lines ts s):=by
 unfold Pa.lines
 split
 ·rename_i h0
  have hi:=h.1 h0
  have h1:zho (ts.drop s.i) < (ts.drop s.i).length:=zjH (by simp;omega) (fun t ht=>he.2 t (by rw [List.getElem?_drop,List.length_drop] at ht;rw [← ht];congr 1;omega))
  rw [List.length_drop] at h1
  exact ⟨fun _=>by show s.i+_ < _;omega,by show s.i+_≤_;omega⟩
 ·exact h
theorem Good.step {ts:List Tok} {s:PS} {k:Nat} (he:zaE ts) (h:Good ts k s) (il:Bool):Good ts k (step ts il s):=by
 cases il
 ·exact h
 ·exact h.lines he
theorem Good.literal {ts:List Tok} {s:PS} {k:Nat} (he:zaE ts) (h:Good ts k s):Good ts k (literal ts s).2:=by
 unfold Pa.literal
 split
 ·rename_i h1;exact h.up he (zjN h1)
 ·exact (h.fail _ _ (by decide)).1
theorem Good.kind {ts:List Tok} {s:PS} {k:Nat} (he:zaE ts) (h:Good ts k s):Good ts (k+1) (kind ts s).2:=by
 unfold Pa.kind
 by_cases h1:(T ts s).tok=1
 ·simp only [h1,if_true]
  split
  ·obtain ⟨h2,h3⟩:=h.fail (T ts s).at_ 130 (by decide);exact h2.up_any h3
  ·exact (h.up he (by rw [h1];decide)).mono (by omega)
 ·simp only [h1,if_false,if_true]
  obtain ⟨h2,h3⟩:=h.fail (T ts s).at_ 130 (by decide);exact h2.up_any h3
theorem Good.lit {ts:List Tok} {s:PS} {k:Nat} (he:zaE ts) (h:Good ts k s):Good ts k (lit ts s).2:=by
 unfold Pa.lit
 split
 ·rename_i h1
  have h2:=h.up he (za2 h1)
  dsimp only
  split
  ·exact h2.literal he
  ·exact (h2.fail _ _ (by decide)).1.literal he
 ·exact h.literal he
theorem Good.bound {ts:List Tok} {s:PS} {k:Nat} (he:zaE ts) (h:Good ts k s):Good ts k (bound ts s).2:=by
 unfold Pa.bound
 dsimp only
 have h2:Good ts k (if is ts s [45]=true then Pa.up s else s):=by
  split
  ·rename_i h1;exact h.up he (za2 h1)
  ·exact h
 generalize (if is ts s [45]=true then Pa.up s else s)=s1 at h2 ⊢
 by_cases h3:(T ts s1).tok=3∧(T ts s1).kind=0
 ·rw [if_pos h3];exact h2.up he (by rw [h3.1];decide)
 ·rw [if_neg h3];exact (h2.fail _ _ (by decide)).1
theorem Good.lined {ts:List Tok} {s:PS} {k:Nat} (he:zaE ts) (h:Good ts k s) (il:Bool):Good ts k (lined ts il s).2:=by
 unfold Pa.lined
 split
 ·rename_i h1
  have h2:=(h.up he (za2 (by simp at h1;exact h1.2))).lines he
  dsimp only
  split
  ·rename_i h3;exact h2.up he (by rw [h3.1];decide)
  ·exact (h2.fail _ _ (by decide)).1
 ·exact h.bound he
theorem Good.init {ts:List Tok} {s:PS} {k:Nat} (he:zaE ts) (h:Good ts k s) (il:Bool):Good ts k (init ts il s).2:=by
 unfold Pa.init
 dsimp only
 have h0:=h.step he il
 split
 ·rename_i h1
  have h2:=(h0.up he (za2 h1)).step he il
  split
  ·rename_i h3
   have h4:=(h2.up he (za2 (by simp at h3;exact h3.2))).lines he
   have h5:Good ts k (if (T ts (Pa.lines ts (Pa.up (Pa.step ts il (Pa.up (Pa.step ts il s)))))).tok=3 then Pa.lines ts (Pa.up (Pa.step ts il (Pa.up (Pa.step ts il s)))) else Pa.fail (Pa.lines ts (Pa.up (Pa.step ts il (Pa.up (Pa.step ts il s))))) (T ts (Pa.lines ts (Pa.up (Pa.step ts il (Pa.up (Pa.step ts il s)))))).at_ 130):=by
    split
    ·exact h4
    ·exact (h4.fail _ _ (by decide)).1
   exact ((h5.literal he).step he il).must he _
  ·exact ((h2.lit he).step he il).must he _
 ·exact (h0.step he il).must he _
theorem Good.field {ts:List Tok} {s:PS} {k:Nat} (he:zaE ts) (h:Good ts k s) (il:Bool):Good ts (k+2) (field ts il s).2:=by
 unfold Pa.field
 exact ((((((h.name he).step he il).must he _).step he il).kind he).init he il)
theorem zbz {α:Type} {ts:List Tok} {il:Bool} {stop:List UInt8} {one:PS→α × PS} {c:Nat} (he:zaE ts) (h1:∀ k s,Good ts k s→Good ts (k+c) (one s).2) (f k:Nat) (s:PS) (h:Good ts k s) (hk:c≤k):Good ts k (items ts il stop one f s).2:=by
 induction f generalizing s with
 | zero=>exact h.step he il
 | succ f ih=>
  simp only [items]
  have h0:=h.step he il
  split
  ·rename_i h2
   exact ih _ ((h1 0 _ (h0.zero h2.1)).mono (by omega))
  ·exact h0
theorem Good.structure_ {ts:List Tok} {s:PS} {k:Nat} (he:zaE ts) (h:Good ts k s) (il:Bool):Good ts (k+2) (structure_ ts il s).2:=by
 unfold Pa.structure_
 have h1:=((((h.name he).step he il).must he [58]).step he il).must he sSTRUCT
 have h2:=zbz (il:=il) (stop:=sEND_STRUCT) (c:=2) he (fun k s hs=>hs.field he il) (ts.length+1) (k+2) _ (h1.mono (by omega)) (by omega)
 exact ((h2.must he _).step he il).must he _
theorem Good.vaddr {ts:List Tok} {s:PS} {k:Nat} (he:zaE ts) (h:Good ts k s) (il:Bool):Good ts (k+1) (vaddr ts il s).2:=by
 unfold Pa.vaddr
 split
 ·rename_i h2
  have h4:=(h.up he (za2 h2)).step he il
  refine Good.step he ?_ il
  split
  ·rename_i h5;exact (h4.up he (by rw [h5];decide)).mono (by omega)
  ·obtain ⟨h6,h7⟩:=h4.fail (T ts (Pa.step ts il (Pa.up s))).at_ 130 (by decide);exact h6.up_any h7
 ·exact h.mono (by omega)
theorem Good.vtype {ts:List Tok} {s:PS} {k:Nat} (he:zaE ts) (h4:Good ts k s) (il:Bool):Good ts (k+1) (vtype ts il s).2:=by
 unfold Pa.vtype
 split
 ·rename_i h5
  have h6:=((((h4.up he (za2 h5)).step he il).must he [91]).step he il).lined he il
  have h7:=(((h6.step he il).must he [46,46]).step he il).lined he il
  exact (((((h7.step he il).must he [93]).step he il).must he sOF).step he il).kind he
 ·split
  ·exact h4.name he
  ·exact h4.kind he
theorem Good.variable_ {ts:List Tok} {s:PS} {k:Nat} (he:zaE ts) (h:Good ts k s) (il re:Bool):Good ts (k+4) (variable_ ts il re s).2:=by
 unfold Pa.variable_
 exact (((((((h.name he).step he il).vaddr he il).must he _).step he il).vtype he il).init he il).mono (by omega)
end Go.Proofs.YtdpkjpjkdmkkpaaGreatDoor.Pa
set_option maxRecDepth 100000
set_option maxHeartbeats 16000000
namespace Go.Proofs.YtdpkjpjkdmkkpaaGreatDoor
open Go.RowKit Lx Pa
def PB (w:World) (b g n cap:Nat) (s:PS):Prop:=w.heap[b]? = some (.cells #[.slice (some ⟨g,0,none⟩) n cap,.int .i64 s.i,.int .i64 s.err,.int .i64 s.at_] 97)
theorem PB.cells {w:World} {b g n cap:Nat} {s:PS} (h:PB w b g n cap s) :
  w.cell? ⟨b,0,none⟩=some (.slice (some ⟨g,0,none⟩) n cap)∧w.cell? ⟨b,1,none⟩=some (.int .i64 s.i)∧w.cell? ⟨b,2,none⟩=some (.int .i64 s.err)∧w.cell? ⟨b,3,none⟩=some (.int .i64 s.at_)
  ∧ w.frozen? ⟨b,1,none⟩=false∧w.frozen? ⟨b,2,none⟩=false∧w.frozen? ⟨b,3,none⟩=false:=by
 unfold PB at h
 simp [World.cell?,World.frozen?,h]
theorem PB.lt {w:World} {b g n cap:Nat} {s:PS} (h:PB w b g n cap s):b < w.heap.size:=by
 rcases Nat.lt_or_ge b w.heap.size with h1 | h1
 ·exact h1
 ·unfold PB at h;rw [Array.getElem?_eq_none h1] at h;cases h
theorem PB.set1 {w:World} {b g n cap:Nat} {s:PS} (h:PB w b g n cap s) (i:Nat):PB (w.setCell ⟨b,1,none⟩ (.int .i64 i)) b g n cap ⟨i,s.err,s.at_⟩:=by
 unfold PB at h ⊢
 simp [World.setCell,h,Array.getElem?_modify]
theorem PB.set32 {w:World} {b g n cap:Nat} {s:PS} (h:PB w b g n cap s) (a e:Int):PB ((w.setCell ⟨b,3,none⟩ (.int .i64 a)).setCell ⟨b,2,none⟩ (.int .i64 e)) b g n cap ⟨s.i,e,a⟩:=by
 unfold PB at h ⊢
 simp [World.setCell,h,Array.getElem?_modify]
structure Par (w:World) (b g cap:Nat) (ts:List Tok) (s:PS):Prop where
 pb:PB w b g ts.length cap s
 tc:TC w g ts
 ne:g≠b
 ends:zaE ts
 le:ts.length≤100000
theorem TC.only {w w':World} {b g:Nat} {ts:List Tok} (h:TC w g ts) (hg:g≠b) (ho:Only b w w'):TC w' g ts:=by
 intro j u hj
 have h1:=h j u hj
 have hlt:=zac h1
 have h2:=ho.block g hlt hg
 simp only [World.cell?] at h1 ⊢
 rw [h2];exact h1
section
variable {w w':World} {b g cap:Nat} {ts:List Tok} {s s':PS}
theorem Par.only (h:Par w b g cap ts s) (ho:Only b w w') (hp:PB w' b g ts.length cap s'):Par w' b g cap ts s':=⟨hp,h.tc.only h.ne ho,h.ne,h.ends,h.le⟩
theorem Par.below (h:Par w b g cap ts s) (hb:Below w.heap.size w w'):Par w' b g cap ts s:=h.only (Only.ofBelow hb) ((hb.block b h.pb.lt).trans h.pb)
end
theorem zbH {b g cap:Nat} {ts:List Tok} {s:PS} {t:Tok} (ht:T ts s=t) (hi:s.err=0→s.i < ts.length) (w:World) (hx:Par w b g cap ts s) :
  Calls Tryz.prog 53 #[.pointer (some ⟨b,0,none⟩)] w fun e w'=>e=.returned (tokV t)∧Below w.heap.size w w':=by
 obtain ⟨c0,c1,c2,c3,-,-,-⟩:=hx.pb.cells
 have hb:=hx.pb.lt
 by_cases h0:s.err=0
 ·have hl:=hi h0
  have hT:=T_in h0 hl
  rw [ht] at hT
  obtain ⟨d0,d1,d2,d3,d4⟩:=hx.tc.cells hT
  have hg:=zac d0
  have hle:=hx.le
  have i0:0≤(s.i:Int):=by omega
  have i1:(s.i:Int) < ts.length:=by omega
  have i2:IntKind.i64.wrap ((ts.length:Int) - 1)=(ts.length:Int) - 1:=IntWalk.i64_in _ (by omega)
  have i3:(s.i:Int)≤(ts.length:Int) - 1:=by omega
  have i4:min (s.i:Int) ((ts.length:Int) - 1)=s.i:=by omega
  rw [h0] at c2
  obtain ⟨tk,kd,nn,tx,ta⟩:=t
  obtain ⟨i,err,at_⟩:=s
  obtain ⟨n,hn⟩:∃ n,ts.length=n:=⟨_,rfl⟩
  simp only [hn] at c0 i1 i2 i3 i4
  clear hx hT ht hi hl hle hn h0
  simp only at c1 c2 c3 d0 d1 d2 d3 d4 i0 i1 i3 i4
  go_enter Tryz.func53,Tryz.ntmps53
  go_wp2
  go_region
  all_goals go_wp2
  all_goals refine bodyPost_ret (v:=tokV ⟨tk,kd,nn,tx,ta⟩) (by simp [results,Tryz.results53,go_sem,tokV, *]) rfl ?_
  all_goals exact ⟨rfl,by first | exact (br_.alloc nl_ _).drew | exact br_.alloc nl_ _⟩
 ·have hT:=zlR (ts:=ts) h0
  rw [ht] at hT
  subst hT
  have he:(s.err==0)=false:=by simp [h0]
  have he2:(s.err != 0)=true:=by simp [h0]
  clear ht hi hx
  go_enter Tryz.func53,Tryz.ntmps53
  go_wp2
  refine bodyPost_ret (v:=tokV tok0) (by simp [results,Tryz.results53,go_sem,tokV,tok0, *]) rfl ?_
  exact ⟨rfl,(br_.alloc nl_ _)⟩
theorem za1 {b g cap:Nat} {ts:List Tok} {s s':PS} {a e:Int} (hs:fail s a e=s') (w:World) (hx:Par w b g cap ts s) :
  Calls Tryz.prog 54 #[.pointer (some ⟨b,0,none⟩),.int .i64 a,.int .i64 e] w fun ev w'=>ev=.returned (.tuple #[])∧Only b w w'∧Par w' b g cap ts s':=by
 obtain ⟨c0,c1,c2,c3,f1,f2,f3⟩:=hx.pb.cells
 have hb:=hx.pb.lt
 have HX:=hd_ hx
 by_cases h0:s.err=0
 ·have HP:=hd_ (hx.pb.set32 a e)
  have HS:Hid (s'=⟨s.i,e,a⟩):=hd_ (by rw [← hs];unfold fail;rw [if_pos h0])
  rw [h0] at c2
  clear hx hs h0
  go_enter Tryz.func54,Tryz.ntmps54
  go_wp2
  go_end0
  have ho:Only b w ((w.setCell ⟨b,3,none⟩ (.int .i64 a)).setCell ⟨b,2,none⟩ (.int .i64 e)):=((Only.refl b w).setCell 3 _).setCell 2 _
  exact ⟨rfl,ho,HS.out▸HX.out.only ho HP.out⟩
 ·have HS:Hid (s'=s):=hd_ (by rw [← hs];unfold fail;rw [if_neg h0])
  have he:(s.err==0)=false:=by simp [h0]
  clear hx hs
  go_enter Tryz.func54,Tryz.ntmps54
  go_wp2
  go_end0
  exact ⟨rfl,Only.refl b w,HS.out▸HX.out⟩
theorem zb9 {b g cap:Nat} {ts:List Tok} {s:PS} {x:ByteArray} {r:Bool} (hr:is ts s x.data.toList=r) (hi:s.err=0→s.i < ts.length) (w:World) (hx:Par w b g cap ts s) :
  Calls Tryz.prog 49 #[.pointer (some ⟨b,0,none⟩),.string x] w fun e w'=>e=.returned (.bool r)∧Below w.heap.size w w':=by
 obtain ⟨c0,c1,c2,c3,f1,f2,f3⟩:=hx.pb.cells
 have hb:=hx.pb.lt
 obtain ⟨t,ht⟩:∃ t,T ts s=t:=⟨_,rfl⟩
 have HT:=hd_ (fun W (hW:Par W b g cap ts s)=>zbH ht hi W hW)
 have HX:=hd_ hx
 have hways:(s.err≠0∧r=false)∨(s.err=0∧t.tok≠1∧t.tok≠6∧r=false)∨(s.err=0∧(t.tok=1∨(t.tok≠1∧t.tok=6))∧r=decide (t.text=x.data.toList)):=by
  rw [← hr]
  unfold Pa.is
  rw [ht]
  by_cases h0:s.err=0
  ·by_cases h1:t.tok=1
   ·exact .inr (.inr ⟨h0,.inl h1,by simp [h0,h1]⟩)
   ·by_cases h6:t.tok=6
    ·exact .inr (.inr ⟨h0,.inr ⟨h1,h6⟩,by simp [h0,h6]⟩)
    ·exact .inr (.inl ⟨h0,h1,h6,by simp [h1,h6]⟩)
  ·exact .inl ⟨h0,by simp [h0]⟩
 obtain ⟨S,hS⟩:∃ S:ByteArray,(⟨t.text.toArray⟩:ByteArray)=S:=⟨_,rfl⟩
 have HCMP:Hid ((S.toList==x.toList)=decide (t.text=x.data.toList)):=hd_ (by
  rw [Bool.eq_iff_iff,zav,decide_eq_true_eq,← hS]
  constructor
  ·intro h;rw [← h]
  ·intro h;rw [h])
 obtain ⟨tk,kd,nn,tx,ta⟩:=t
 simp only [tokV,hS] at HT
 clear hx hr ht hi hS
 rcases hways with ⟨h0,rfl⟩ | ⟨h0,h1,h6,rfl⟩ | ⟨h0,hk,hrr⟩
 ·have he:(s.err==0)=false:=by simp [h0]
  go_enter Tryz.func49,Tryz.ntmps49
  go_wp2_with (go_at_call 53;refine (HT.out _ HX.out).mono ?_;rintro e w1 ⟨rfl,hb1⟩;have k2:=zab hb1 c2;have kb:=zac k2;have H1:=hd_ hb1;clear hb1)
  go_ret
  exact ⟨rfl,H1.out.alloc H1.out.size _⟩
 ·rw [h0] at c2
  have e1:(tk==1)=false:=by simpa using h1
  have e6:(tk==6)=false:=by simpa using h6
  clear h0 h1 h6
  go_enter Tryz.func49,Tryz.ntmps49
  go_wp2_with (go_at_call 53;refine (HT.out _ HX.out).mono ?_;rintro e w1 ⟨rfl,hb1⟩;have k2:=zab hb1 c2;have kb:=zac k2;have H1:=hd_ hb1;clear hb1)
  go_ret
  exact ⟨rfl,H1.out.alloc H1.out.size _⟩
 ·rw [h0] at c2
  clear h0
  have HR:=hd_ hrr
  clear hrr
  rcases hk with h1 | ⟨h1,h6⟩
  ·have e1:(tk==1)=true:=by simpa using h1
   clear h1
   go_enter Tryz.func49,Tryz.ntmps49
   go_wp2_with (go_at_call 53;refine (HT.out _ HX.out).mono ?_;rintro e w1 ⟨rfl,hb1⟩;have k2:=zab hb1 c2;have kb:=zac k2;have H1:=hd_ hb1;clear hb1)
   go_ret
   exact ⟨by rw [HR.out,← HCMP.out];rfl,H1.out.alloc H1.out.size _⟩
  ·have e1:(tk==1)=false:=by simpa using h1
   have e6:(tk==6)=true:=by simpa using h6
   clear h1 h6
   go_enter Tryz.func49,Tryz.ntmps49
   go_wp2_with (go_at_call 53;refine (HT.out _ HX.out).mono ?_;rintro e w1 ⟨rfl,hb1⟩;have k2:=zab hb1 c2;have kb:=zac k2;have H1:=hd_ hb1;clear hb1)
   go_ret
   exact ⟨by rw [HR.out,← HCMP.out];rfl,H1.out.alloc H1.out.size _⟩
theorem zaV (a b c d e:Value) (w:World):(Instr.field 107 (.agg #[a,b,c,d,e]) 0).run Tryz.prog w=.ok a w:=by kernel_rfl
theorem zdg (a b c d e:Value) (w:World):(Instr.field 107 (.agg #[a,b,c,d,e]) 3).run Tryz.prog w=.ok d w:=by kernel_rfl
theorem zbc (a b c d e:Value) (w:World):(Instr.field 107 (.agg #[a,b,c,d,e]) 4).run Tryz.prog w=.ok e w:=by kernel_rfl
def zbC (w:World) (b g cap:Nat) (ts:List Tok) (v:Value) (s':PS) (e:Ending) (w':World):Prop:=e=.returned v∧Only b w w'∧Par w' b g cap ts s'
theorem zbr {b g cap:Nat} {ts:List Tok} {s s':PS} {x:ByteArray} {r:Bool} (hr:eat ts s x.data.toList=(r,s')) (hi:s.err=0→s.i < ts.length) (hb9:s.i≤200000) (w:World) (hx:Par w b g cap ts s) :
  Calls Tryz.prog 82 #[.pointer (some ⟨b,0,none⟩),.string x] w (zbC w b g cap ts (.bool r) s'):=by
 obtain ⟨i,err,at_⟩:=s
 have HX:=hd_ hx
 obtain ⟨q,hq⟩:∃ q,is ts ⟨i,err,at_⟩ x.data.toList=q:=⟨_,rfl⟩
 have HI:=hd_ (fun W (hW:Par W b g cap ts ⟨i,err,at_⟩)=>zb9 hq hi W hW)
 unfold eat at hr
 rw [hq] at hr
 have i5:IntKind.i64.wrap ((i:Int)+1)=(i:Int)+1:=IntWalk.i64_in _ (by simp only at hb9;omega)
 clear hi hq hx hb9
 cases q with
 | true=>
  rw [if_pos rfl] at hr
  injection hr with hr1 hr2
  subst hr1
  have HS:=hd_ hr2
  clear hr2
  go_enter Tryz.func82,Tryz.ntmps82
  go_wp2_with (go_at_call 49;refine (HI.out _ HX.out).mono ?_;rintro e w1 ⟨rfl,hb1⟩;have HX1:=hd_ (HX.out.below hb1);obtain ⟨c0,c1,c2,c3,f1,f2,f3⟩:=HX1.out.pb.cells;have H1:=hd_ (Only.ofBelow (b:=b) hb1);clear hb1)
  go_ret
  have ho:=H1.out.setCell 1 (.int .i64 ((i+1:Nat):Int))
  exact ⟨rfl,ho,by have h:=HX1.out.only ((Only.refl b _).setCell 1 (.int .i64 ((i+1:Nat):Int))) (HX1.out.pb.set1 (i+1));rw [← HS.out];exact h⟩
 | false=>
  rw [if_neg (by simp)] at hr
  injection hr with hr1 hr2
  subst hr1
  have HS:=hd_ hr2
  clear hr2 i5
  go_enter Tryz.func82,Tryz.ntmps82
  go_wp2_with (go_at_call 49;refine (HI.out _ HX.out).mono ?_;rintro e w1 ⟨rfl,hb1⟩;have HX1:=hd_ (HX.out.below hb1);have H1:=hd_ (Only.ofBelow (b:=b) hb1);clear hb1)
  go_ret
  exact ⟨rfl,H1.out,by rw [← HS.out];exact HX1.out⟩
theorem zaD {b g cap:Nat} {ts:List Tok} {s s':PS} {x:ByteArray} (hr:must ts s x.data.toList=s') (hi:s.err=0→s.i < ts.length) (hb9:s.i≤200000) (w:World) (hx:Par w b g cap ts s) :
  Calls Tryz.prog 51 #[.pointer (some ⟨b,0,none⟩),.string x] w (zbC w b g cap ts (.tuple #[]) s'):=by
 have HX:=hd_ hx
 obtain ⟨t,ht⟩:∃ t,T ts s=t:=⟨_,rfl⟩
 obtain ⟨q,hq⟩:∃ q,is ts s x.data.toList=q:=⟨_,rfl⟩
 have HT:=hd_ (fun W (hW:Par W b g cap ts s)=>zbH ht hi W hW)
 unfold must at hr
 rw [hq,ht] at hr
 cases q with
 | true=>
  rw [if_pos rfl] at hr
  have HE:=hd_ (fun W (hW:Par W b g cap ts s)=>zbr (x:=x) (r:=true) (s':=s') (by unfold eat;rw [hq,if_pos rfl,hr]) hi hb9 W hW)
  clear hi hq hx hb9 hr ht
  go_enter Tryz.func51,Tryz.ntmps51
  go_wp2_with (go_at_call 82;refine (HE.out _ HX.out).mono ?_;rintro e w1 ⟨rfl,hb1,hx1⟩;have HX1:=hd_ hx1;have H1:=hd_ hb1;clear hb1 hx1)
  go_end0
  exact ⟨rfl,H1.out,HX1.out⟩
 | false=>
  rw [if_neg (by simp)] at hr
  have HE:=hd_ (fun W (hW:Par W b g cap ts s)=>zbr (x:=x) (r:=false) (s':=s) (by unfold eat;rw [hq,if_neg (by simp)]) hi hb9 W hW)
  have HF:=hd_ (fun W (hW:Par W b g cap ts s)=>za1 hr W hW)
  clear hi hq hx hb9 hr ht
  obtain ⟨tk,kd,nn,tx,ta⟩:=t
  simp only [tokV] at HT
  have hf:=zbc
  go_enter Tryz.func51,Tryz.ntmps51
  go_wp2_with (first
   | (go_at_call 82;refine (HE.out _ HX.out).mono ?_;rintro e w1 ⟨rfl,hb1,hx1⟩;have HX1:=hd_ hx1;have H1:=hd_ hb1;clear hb1 hx1)
   | (go_at_call 53;refine (HT.out _ HX1.out).mono ?_;rintro e w2 ⟨rfl,hb2⟩;have HX2:=hd_ (HX1.out.below hb2);have H2:=hd_ (H1.out.trans (Only.ofBelow hb2));clear hb2)
   | (go_at_call 54;refine (HF.out _ HX2.out).mono ?_;rintro e w3 ⟨rfl,hb3,hx3⟩;have HX3:=hd_ hx3;have H3:=hd_ (H2.out.trans hb3);clear hb3 hx3))
  go_end0
  exact ⟨rfl,H3.out,HX3.out⟩
end Go.Proofs.YtdpkjpjkdmkkpaaGreatDoor
namespace Go.Proofs.YtdpkjpjkdmkkpaaGreatDoor
open Go.RowKit Lx Pa
inductive Ex where
 | mk (op kind n:Int) (name field:List UInt8) (l:List Ex) (at_:Int)
def zjo (l:Pa.Lit):Ex:=.mk l.op l.kind l.n [] [] [] l.at_
def zcI:Ini→Ex
 | .plain l=>zjo l
 | .neg l a=>.mk 3 0 0 [] [] [zjo l] a
def zaC (w:World) (a:Nat) (cs:List Value):Prop:=∀ j u,cs[j]? = some u→w.cell? ⟨a,j,none⟩=some u
structure zcd (w:World) (a:Nat) (cs:List Value):Prop where
 lie:zaC w a cs
 own:∃ cur T,w.heap[a]? = some (.cells cur T (0,0))
def zf4 (P:Nat→Prop) (w w':World):Prop:=∀ a,P a→a < w.heap.size→w'.heap[a]? = w.heap[a]?
def Btw (lo hi:Nat) (a:Nat):Prop:=lo≤a∧a < hi
def SlAt (w:World) (P:Nat→Prop) (n:Nat) (cs:List Value) (v:Value):Prop:=
 (n=0∧cs=[]∧v=.slice none 0 0)∨∃ a c,v=.slice (some ⟨a,0,none⟩) n c∧P a∧zcd w a cs∧0 < n
mutual
def zaX (w:World) (P:Nat→Prop):Ex→List Value→Prop
 | .mk op kind n name field l at_,row=>∃ v cs,row=[.int .i64 op,.int .i64 kind,.int .i64 n,.string ⟨name.toArray⟩,.string ⟨field.toArray⟩,v,.int .i64 at_]∧SlAt w P l.length cs v∧zbB w P l cs
def zbB (w:World) (P:Nat→Prop):List Ex→List Value→Prop
 | [],cs=>cs=[]
 | e::r,cs=>∃ row cr,cs=row++cr∧zaX w P e row∧zbB w P r cr
end
def IniV (w:World) (P:Nat→Prop) (o:Option Ini) (v:Value):Prop:=∃ cs,SlAt w P (o.map zcI).toList.length cs v∧zbB w P (o.map zcI).toList cs
def za0 (w:World) (P:Nat→Prop) (p:PVar) (row:List Value):Prop:=
 ∃ v,row=[.string ⟨p.name.toArray⟩,.int .i64 p.kind,.int .i64 p.lo,.int .i64 p.hi,.int .i64 p.elem,.string ⟨p.tname.toArray⟩,.bool p.retain,.string ⟨p.addr.toArray⟩,v,.int .i64 p.at_]∧IniV w P p.init v
def zce (w:World) (P:Nat→Prop):List PVar→List Value→Prop
 | [],cs=>cs=[]
 | e::r,cs=>∃ row cr,cs=row++cr∧za0 w P e row∧zce w P r cr
def VSl (w:World) (P:Nat→Prop) (l:List PVar) (v:Value):Prop:=∃ cs,SlAt w P l.length cs v∧zce w P l cs
def zbT (w:World) (P:Nat→Prop) (p:zad) (row:List Value):Prop:=
 ∃ v,row=[.string ⟨p.name.toArray⟩,v,.int .i64 p.at_]∧VSl w P p.fields v
def zcB (w:World) (P:Nat→Prop):List zad→List Value→Prop
 | [],cs=>cs=[]
 | e::r,cs=>∃ row cr,cs=row++cr∧zbT w P e row∧zcB w P r cr
def SSl (w:World) (P:Nat→Prop) (l:List zad) (v:Value):Prop:=∃ cs,SlAt w P l.length cs v∧zcB w P l cs
section
variable {w w':World} {P P':Nat→Prop}
theorem zaC.same {a:Nat} {cs:List Value} (h:zaC w a cs) (hs:zf4 P w w') (ha:P a):zaC w' a cs:=by
 intro j u hj
 have h1:=h j u hj
 have h2:=hs a ha (zac h1)
 simp only [World.cell?] at h1 ⊢
 rw [h2];exact h1
theorem zcd.same {a:Nat} {cs:List Value} (h:zcd w a cs) (hs:zf4 P w w') (ha:P a):zcd w' a cs:=by
 refine ⟨h.lie.same hs ha,?_⟩
 obtain ⟨cur,T,h1⟩:=h.own
 obtain ⟨hlt,_⟩:=Array.getElem?_eq_some_iff.1 h1
 exact ⟨cur,T,(hs a ha hlt).trans h1⟩
theorem zcd.free {a:Nat} {cs:List Value} (h:zcd w a cs) (j:Nat):w.frozen? ⟨a,j,none⟩=false:=by
 obtain ⟨cur,T,h1⟩:=h.own
 simp only [World.frozen?,h1]
 simp
structure zbR (P P':Nat→Prop) (w w':World):Prop where
 same:zf4 P w w'
 sub:∀ a,P a→P' a
theorem SlAt.keeps {n:Nat} {cs:List Value} {v:Value} (h:SlAt w P n cs v) (hk:zbR P P' w w'):SlAt w' P' n cs v:=by
 rcases h with h | ⟨a,c,h1,h3,h4,h5⟩
 ·exact .inl h
 ·exact .inr ⟨a,c,h1,hk.sub a h3,h4.same hk.same h3,h5⟩
mutual
theorem zaX.keeps (hk:zbR P P' w w'):∀ (e:Ex) {row:List Value},zaX w P e row→zaX w' P' e row
 | .mk op kind n name field l at_,row,h=>by
  rw [zaX] at h ⊢
  obtain ⟨v,cs,h1,h2,h3⟩:=h
  exact ⟨v,cs,h1,h2.keeps hk,zbB.keeps hk l h3⟩
theorem zbB.keeps (hk:zbR P P' w w'):∀ (l:List Ex) {cs:List Value},zbB w P l cs→zbB w' P' l cs
 | [],cs,h=>by rw [zbB] at h ⊢;exact h
 | e::r,cs,h=>by
  rw [zbB] at h ⊢
  obtain ⟨row,cr,h1,h2,h3⟩:=h
  exact ⟨row,cr,h1,zaX.keeps hk e h2,zbB.keeps hk r h3⟩
end
theorem IniV.keeps {o:Option Ini} {v:Value} (h:IniV w P o v) (hk:zbR P P' w w'):IniV w' P' o v:=by
 obtain ⟨cs,h1,h2⟩:=h
 exact ⟨cs,h1.keeps hk,zbB.keeps hk _ h2⟩
theorem za0.keeps {p:PVar} {row:List Value} (h:za0 w P p row) (hk:zbR P P' w w'):za0 w' P' p row:=by
 obtain ⟨v,h1,h2⟩:=h
 exact ⟨v,h1,h2.keeps hk⟩
theorem zce.keeps {l:List PVar} {cs:List Value} (h:zce w P l cs) (hk:zbR P P' w w'):zce w' P' l cs:=by
 induction l generalizing cs with
 | nil=>exact h
 | cons e r ih=>
  obtain ⟨row,cr,h1,h2,h3⟩:=h
  exact ⟨row,cr,h1,h2.keeps hk,ih h3⟩
theorem VSl.keeps {l:List PVar} {v:Value} (h:VSl w P l v) (hk:zbR P P' w w'):VSl w' P' l v:=by
 obtain ⟨cs,h1,h2⟩:=h
 exact ⟨cs,h1.keeps hk,h2.keeps hk⟩
theorem zbT.keeps {p:zad} {row:List Value} (h:zbT w P p row) (hk:zbR P P' w w'):zbT w' P' p row:=by
 obtain ⟨v,h1,h2⟩:=h
 exact ⟨v,h1,h2.keeps hk⟩
theorem zcB.keeps {l:List zad} {cs:List Value} (h:zcB w P l cs) (hk:zbR P P' w w'):zcB w' P' l cs:=by
 induction l generalizing cs with
 | nil=>exact h
 | cons e r ih=>
  obtain ⟨row,cr,h1,h2,h3⟩:=h
  exact ⟨row,cr,h1,h2.keeps hk,ih h3⟩
theorem SSl.keeps {l:List zad} {v:Value} (h:SSl w P l v) (hk:zbR P P' w w'):SSl w' P' l v:=by
 obtain ⟨cs,h1,h2⟩:=h
 exact ⟨cs,h1.keeps hk,h2.keeps hk⟩
theorem zce.snoc {l:List PVar} {cs row:List Value} {p:PVar} (h:zce w P l cs) (hp:za0 w P p row):zce w P (l++[p]) (cs++row):=by
 induction l generalizing cs with
 | nil=>rw [zce] at h;subst h;exact ⟨row,[],by simp,hp,rfl⟩
 | cons e r ih=>
  obtain ⟨r1,cr,h1,h2,h3⟩:=h
  exact ⟨r1,cr++row,by rw [h1,List.append_assoc],h2,ih h3⟩
theorem zcB.snoc {l:List zad} {cs row:List Value} {p:zad} (h:zcB w P l cs) (hp:zbT w P p row):zcB w P (l++[p]) (cs++row):=by
 induction l generalizing cs with
 | nil=>rw [zcB] at h;subst h;exact ⟨row,[],by simp,hp,rfl⟩
 | cons e r ih=>
  obtain ⟨r1,cr,h1,h2,h3⟩:=h
  exact ⟨r1,cr++row,by rw [h1,List.append_assoc],h2,ih h3⟩
theorem zce.length {l:List PVar} {cs:List Value} (h:zce w P l cs):cs.length=l.length*10:=by
 induction l generalizing cs with
 | nil=>rw [zce] at h;subst h;rfl
 | cons e r ih=>
  obtain ⟨row,cr,h1,⟨v,h2,_⟩,h3⟩:=h
  rw [h1,h2,List.length_append,ih h3];simp;omega
theorem zcB.length {l:List zad} {cs:List Value} (h:zcB w P l cs):cs.length=l.length*3:=by
 induction l generalizing cs with
 | nil=>rw [zcB] at h;subst h;rfl
 | cons e r ih=>
  obtain ⟨row,cr,h1,⟨v,h2,_⟩,h3⟩:=h
  rw [h1,h2,List.length_append,ih h3];simp;omega
theorem Only.sameOn {b:Nat} (h:Only b w w') (hb:¬ P b):zf4 P w w':=fun a ha hlt=>h.block a hlt (fun e=>hb (e▸ha))
theorem Below.sameOn (h:Below w.heap.size w w'):zf4 P w w':=fun a _ hlt=>h.block a hlt
end
end Go.Proofs.YtdpkjpjkdmkkpaaGreatDoor
namespace Go.Proofs.YtdpkjpjkdmkkpaaGreatDoor
open Go.RowKit Lx Pa
theorem zaa {P F:World→Prop} {w:World} (hF:F w) (h:∀ W,F W→P W):P w:=h w hF
structure Fr (w0:World) (b g cap:Nat) (ts:List Tok) (s:PS) (W:World):Prop where
 only:Only b w0 W
 par:Par W b g cap ts s
 lt:b < w0.heap.size∧g < w0.heap.size
theorem Par.glt {w:World} {b g cap:Nat} {ts:List Tok} {s:PS} (h:Par w b g cap ts s):g < w.heap.size:=by
 have h0:=h.ends.1
 have h1:ts[0]? = some (ts[0]):=List.getElem?_eq_getElem h0
 have:=(h.tc.cells h1).1
 rw [show (0:Nat)*5=0 by omega] at this
 exact zac this
section
variable {w0 W W':World} {b g cap:Nat} {ts:List Tok} {s s':PS}
theorem Fr.start (h:Par w0 b g cap ts s):Fr w0 b g cap ts s w0:=⟨Only.refl b w0,h,h.pb.lt,h.glt⟩
theorem Fr.call (h:Fr w0 b g cap ts s W) (ho:Only b W W') (hp:Par W' b g cap ts s'):Fr w0 b g cap ts s' W':=⟨h.only.trans ho,hp,h.lt⟩
theorem Fr.below (h:Fr w0 b g cap ts s W) (hb:Below W.heap.size W W'):Fr w0 b g cap ts s W':=h.call (Only.ofBelow hb) (h.par.below hb)
theorem Fr.alloc (h:Fr w0 b g cap ts s W) (o:Obj):Fr w0 b g cap ts s (W.alloc o):=h.below (br_.alloc nl_ o)
theorem Fr.drew (h:Fr w0 b g cap ts s W):Fr w0 b g cap ts s W.drew:=h.below br_.drew
theorem Fr.set1 (h:Fr w0 b g cap ts s W) {i:Nat} {i':Int} (hi:i'=i):Fr w0 b g cap ts ⟨i,s.err,s.at_⟩ (W.setCell ⟨b,1,none⟩ (.int .i64 i')):=by
 subst hi
 have ho:Only b W (W.setCell ⟨b,1,none⟩ (.int .i64 (i:Int))):=(Only.refl b W).setCell 1 _
 exact h.call ho (h.par.only ho (h.par.pb.set1 i))
theorem Fr.up1 (h:Fr w0 b g cap ts s W) (hs:up s=s') {i':Int} (hi:i'=(s.i+1:Nat)):Fr w0 b g cap ts s' (W.setCell ⟨b,1,none⟩ (.int .i64 i')):=hs▸h.set1 hi
theorem Fr.far (h:Fr w0 b g cap ts s W) {X:Nat} (hX:w0.heap.size≤X) (o:Nat) (v:Value):Fr w0 b g cap ts s (W.setCell ⟨X,o,none⟩ v):=by
 have ho:Only b w0 (W.setCell ⟨X,o,none⟩ v):=h.only.setFar hX o v
 have hk:∀ k,k≠X→(W.setCell ⟨X,o,none⟩ v).heap[k]? = W.heap[k]?:=fun k hk=>Below.heap_setCell _ _ _ _ (by simpa using hk)
 have hb:PB (W.setCell ⟨X,o,none⟩ v) b g ts.length cap s:=by
  unfold PB
  rw [hk b (by have:=h.lt.1;omega)]
  exact h.par.pb
 refine ⟨ho,⟨hb,?_,h.par.ne,h.par.ends,h.par.le⟩,h.lt⟩
 intro j u hj
 have h1:=h.par.tc j u hj
 simp only [World.cell?] at h1 ⊢
 rw [hk g (by have:=h.lt.2;omega)]
 exact h1
theorem Fr.size (h:Fr w0 b g cap ts s W):w0.heap.size≤W.heap.size:=h.only.size
theorem Fr.post (h:Fr w0 b g cap ts s W) {v:Value} {e:Ending} (he:e=.returned v):zbC w0 b g cap ts v s e W:=⟨he,h.only,h.par⟩
end
def Bl (W:World) (X:Nat) (vs:Array Value) (T:TypeId):Prop:=W.heap[X]? = some (.cells vs T)
section
variable {W W':World} {X Y b:Nat} {vs:Array Value} {T:TypeId}
theorem Bl.lt (h:Bl W X vs T):X < W.heap.size:=by
 rcases Nat.lt_or_ge X W.heap.size with h1 | h1
 ·exact h1
 ·unfold Bl at h;rw [Array.getElem?_eq_none h1] at h;cases h
theorem Bl.new (W:World) (vs:Array Value) (T:TypeId):Bl (W.alloc (.cells vs T)) W.heap.size vs T:=by
 show (W.heap.push _)[W.heap.size]? = _
 simp
theorem Bl.newAt (W:World) {X:Nat} {vs:Array Value} {T:TypeId} (h:X=W.heap.size):Bl (W.alloc (.cells vs T)) X vs T:=h▸Bl.new W vs T
theorem Bl.newSet (W:World) (a:Addr) (v:Value) (vs:Array Value) (T:TypeId):Bl ((W.setCell a v).alloc (.cells vs T)) W.heap.size vs T:=by
 simpa using Bl.new (W.setCell a v) vs T
theorem Bl.only (h:Bl W X vs T) (ho:Only b W W') (hb:X≠b):Bl W' X vs T:=(ho.block X h.lt hb).trans h
theorem Bl.below (h:Bl W X vs T) (hb:Below W.heap.size W W'):Bl W' X vs T:=(hb.block X h.lt).trans h
theorem Bl.alloc (h:Bl W X vs T) (o:Obj):Bl (W.alloc o) X vs T:=h.below (br_.alloc nl_ o)
theorem Bl.drew (h:Bl W X vs T):Bl W.drew X vs T:=h.below br_.drew
theorem Bl.other (h:Bl W X vs T) (hn:X≠Y) (o:Nat) (v:Value):Bl (W.setCell ⟨Y,o,none⟩ v) X vs T:=(Below.heap_setCell _ _ _ _ (by simpa using hn)).trans h
theorem Bl.set (h:Bl W X vs T) (o:Nat) (v:Value):Bl (W.setCell ⟨X,o,none⟩ v) X (vs.setIfInBounds o v) T:=by
 unfold Bl at h ⊢
 simp [World.setCell,h,Array.getElem?_modify]
theorem Bl.cell (h:Bl W X vs T) {o:Nat} {v:Value} (hv:vs[o]? = some v):W.cell? ⟨X,o,none⟩=some v∧W.frozen? ⟨X,o,none⟩=false:=by
 unfold Bl at h
 simp [World.cell?,World.frozen?,h,hv]
end
section
variable {W:World} {X:Nat} {T:TypeId} {a0 a1 a2 a3 a4 a5 a6 a7 a8 a9 v0 v1 v2 v3 v4 v5 v6 v7 v8 v9:Value}
theorem Bl.set5 (h:Bl W X #[a0,a1,a2,a3,a4] T):Bl (((((W.setCell ⟨X,0,none⟩ v0).setCell ⟨X,1,none⟩ v1).setCell ⟨X,2,none⟩ v2).setCell ⟨X,3,none⟩ v3).setCell ⟨X,4,none⟩ v4) X #[v0,v1,v2,v3,v4] T:=by
 simpa using ((((h.set 0 v0).set 1 v1).set 2 v2).set 3 v3).set 4 v4
theorem Bl.set7 (h:Bl W X #[a0,a1,a2,a3,a4,a5,a6] T):Bl (((((((W.setCell ⟨X,0,none⟩ v0).setCell ⟨X,1,none⟩ v1).setCell ⟨X,2,none⟩ v2).setCell ⟨X,3,none⟩ v3).setCell ⟨X,4,none⟩ v4).setCell ⟨X,5,none⟩ v5).setCell ⟨X,6,none⟩ v6) X #[v0,v1,v2,v3,v4,v5,v6] T:=by
 simpa using ((((((h.set 0 v0).set 1 v1).set 2 v2).set 3 v3).set 4 v4).set 5 v5).set 6 v6
theorem Bl.set10 (h:Bl W X #[a0,a1,a2,a3,a4,a5,a6,a7,a8,a9] T):Bl ((((((((((W.setCell ⟨X,0,none⟩ v0).setCell ⟨X,1,none⟩ v1).setCell ⟨X,2,none⟩ v2).setCell ⟨X,3,none⟩ v3).setCell ⟨X,4,none⟩ v4).setCell ⟨X,5,none⟩ v5).setCell ⟨X,6,none⟩ v6).setCell ⟨X,7,none⟩ v7).setCell ⟨X,8,none⟩ v8).setCell ⟨X,9,none⟩ v9) X #[v0,v1,v2,v3,v4,v5,v6,v7,v8,v9] T:=by
 simpa using (((((((((h.set 0 v0).set 1 v1).set 2 v2).set 3 v3).set 4 v4).set 5 v5).set 6 v6).set 7 v7).set 8 v8).set 9 v9
theorem Bl.set3 (h:Bl W X #[a0,a1,a2] T):Bl (((W.setCell ⟨X,0,none⟩ v0).setCell ⟨X,1,none⟩ v1).setCell ⟨X,2,none⟩ v2) X #[v0,v1,v2] T:=by
 simpa using ((h.set 0 v0).set 1 v1).set 2 v2
theorem Bl.cells3 (h:Bl W X #[v0,v1,v2] T):W.cell? ⟨X,0,none⟩=some v0∧W.cell? ⟨X,1,none⟩=some v1∧W.cell? ⟨X,2,none⟩=some v2:=
 ⟨(h.cell rfl).1,(h.cell rfl).1,(h.cell rfl).1⟩
theorem Bl.free3 (h:Bl W X #[v0,v1,v2] T):W.frozen? ⟨X,0,none⟩=false∧W.frozen? ⟨X,1,none⟩=false∧W.frozen? ⟨X,2,none⟩=false:=
 ⟨(h.cell rfl).2,(h.cell rfl).2,(h.cell rfl).2⟩
theorem Bl.cells5 (h:Bl W X #[v0,v1,v2,v3,v4] T):W.cell? ⟨X,0,none⟩=some v0∧W.cell? ⟨X,1,none⟩=some v1∧W.cell? ⟨X,2,none⟩=some v2∧W.cell? ⟨X,3,none⟩=some v3∧W.cell? ⟨X,4,none⟩=some v4:=
 ⟨(h.cell rfl).1,(h.cell rfl).1,(h.cell rfl).1,(h.cell rfl).1,(h.cell rfl).1⟩
theorem Bl.free5 (h:Bl W X #[v0,v1,v2,v3,v4] T):W.frozen? ⟨X,0,none⟩=false∧W.frozen? ⟨X,1,none⟩=false∧W.frozen? ⟨X,2,none⟩=false∧W.frozen? ⟨X,3,none⟩=false∧W.frozen? ⟨X,4,none⟩=false:=
 ⟨(h.cell rfl).2,(h.cell rfl).2,(h.cell rfl).2,(h.cell rfl).2,(h.cell rfl).2⟩
theorem Bl.cells7 (h:Bl W X #[v0,v1,v2,v3,v4,v5,v6] T):W.cell? ⟨X,0,none⟩=some v0∧W.cell? ⟨X,1,none⟩=some v1∧W.cell? ⟨X,2,none⟩=some v2∧W.cell? ⟨X,3,none⟩=some v3∧W.cell? ⟨X,4,none⟩=some v4∧W.cell? ⟨X,5,none⟩=some v5∧W.cell? ⟨X,6,none⟩=some v6:=
 ⟨(h.cell rfl).1,(h.cell rfl).1,(h.cell rfl).1,(h.cell rfl).1,(h.cell rfl).1,(h.cell rfl).1,(h.cell rfl).1⟩
theorem Bl.free7 (h:Bl W X #[v0,v1,v2,v3,v4,v5,v6] T):W.frozen? ⟨X,0,none⟩=false∧W.frozen? ⟨X,1,none⟩=false∧W.frozen? ⟨X,2,none⟩=false∧W.frozen? ⟨X,3,none⟩=false∧W.frozen? ⟨X,4,none⟩=false∧W.frozen? ⟨X,5,none⟩=false∧W.frozen? ⟨X,6,none⟩=false:=
 ⟨(h.cell rfl).2,(h.cell rfl).2,(h.cell rfl).2,(h.cell rfl).2,(h.cell rfl).2,(h.cell rfl).2,(h.cell rfl).2⟩
theorem Bl.cells10 (h:Bl W X #[v0,v1,v2,v3,v4,v5,v6,v7,v8,v9] T):W.cell? ⟨X,0,none⟩=some v0∧W.cell? ⟨X,1,none⟩=some v1∧W.cell? ⟨X,2,none⟩=some v2∧W.cell? ⟨X,3,none⟩=some v3∧W.cell? ⟨X,4,none⟩=some v4∧W.cell? ⟨X,5,none⟩=some v5∧W.cell? ⟨X,6,none⟩=some v6∧W.cell? ⟨X,7,none⟩=some v7∧W.cell? ⟨X,8,none⟩=some v8∧W.cell? ⟨X,9,none⟩=some v9:=
 ⟨(h.cell rfl).1,(h.cell rfl).1,(h.cell rfl).1,(h.cell rfl).1,(h.cell rfl).1,(h.cell rfl).1,(h.cell rfl).1,(h.cell rfl).1,(h.cell rfl).1,(h.cell rfl).1⟩
theorem Bl.free10 (h:Bl W X #[v0,v1,v2,v3,v4,v5,v6,v7,v8,v9] T):W.frozen? ⟨X,0,none⟩=false∧W.frozen? ⟨X,1,none⟩=false∧W.frozen? ⟨X,2,none⟩=false∧W.frozen? ⟨X,3,none⟩=false∧W.frozen? ⟨X,4,none⟩=false∧W.frozen? ⟨X,5,none⟩=false∧W.frozen? ⟨X,6,none⟩=false∧W.frozen? ⟨X,7,none⟩=false∧W.frozen? ⟨X,8,none⟩=false∧W.frozen? ⟨X,9,none⟩=false:=
 ⟨(h.cell rfl).2,(h.cell rfl).2,(h.cell rfl).2,(h.cell rfl).2,(h.cell rfl).2,(h.cell rfl).2,(h.cell rfl).2,(h.cell rfl).2,(h.cell rfl).2,(h.cell rfl).2⟩
end
structure Off (lo:Nat) (w w':World):Prop where
 size:w'.heap.size=w.heap.size
 blk:∀ a,lo≤a→w'.heap[a]? = w.heap[a]?
theorem Off.refl (lo:Nat) (w:World):Off lo w w:=⟨rfl,fun _ _=>rfl⟩
theorem Off.set {lo X:Nat} {w w':World} (h:Off lo w w') (hX:X < lo) (o:Nat) (v:Value):Off lo w (w'.setCell ⟨X,o,none⟩ v):=
 ⟨by simpa [World.setCell] using h.size,fun a ha=>(Below.heap_setCell _ _ _ _ (by simp only;omega)).trans (h.blk a ha)⟩
theorem Off.keeps {lo n:Nat} {w w':World} (h:Off lo w w') (hn:n≤lo):zbR (Btw lo w.heap.size) (Btw n w'.heap.size) w w':=
 ⟨fun a ha _=>h.blk a ha.1,fun a ha=>⟨by have:=ha.1;omega,by have:=ha.2;have:=h.size;omega⟩⟩
end Go.Proofs.YtdpkjpjkdmkkpaaGreatDoor
namespace Go.Proofs.YtdpkjpjkdmkkpaaGreatDoor
open Go.RowKit Lx Pa
theorem zda {b g cap:Nat} {ts:List Tok} {s:PS} {r:Bool} (hr:zd1 ts s=r) (hi:s.err=0→s.i < ts.length) (w:World) (hx:Par w b g cap ts s) :
  Calls Tryz.prog 128 #[.pointer (some ⟨b,0,none⟩)] w fun e w'=>e=.returned (.bool r)∧Below w.heap.size w w':=by
 obtain ⟨c0,c1,c2,c3,f1,f2,f3⟩:=hx.pb.cells
 have hb:=hx.pb.lt
 obtain ⟨t,ht⟩:∃ t,T ts s=t:=⟨_,rfl⟩
 have HT:=hd_ (fun W (hW:Par W b g cap ts s)=>zbH ht hi W hW)
 have HX:=hd_ hx
 have hways:(s.err≠0∧r=false)∨(s.err=0∧t.tok=3∧r=true)∨(s.err=0∧t.tok≠3∧t.tok=4∧r=true)∨(s.err=0∧t.tok≠3∧t.tok≠4∧r=false):=by
  rw [← hr]
  unfold zd1
  rw [ht]
  by_cases h0:s.err=0
  ·by_cases h1:t.tok=3
   ·exact .inr (.inl ⟨h0,h1,by simp [h0,h1]⟩)
   ·by_cases h6:t.tok=4
    ·exact .inr (.inr (.inl ⟨h0,h1,h6,by simp [h0,h6]⟩))
    ·exact .inr (.inr (.inr ⟨h0,h1,h6,by simp [h1,h6]⟩))
  ·exact .inl ⟨h0,by simp [h0]⟩
 obtain ⟨tk,kd,nn,tx,ta⟩:=t
 simp only [tokV] at HT
 clear hx hr ht hi
 rcases hways with ⟨h0,rfl⟩ | ⟨h0,h1,rfl⟩ | ⟨h0,h1,h6,rfl⟩ | ⟨h0,h1,h6,rfl⟩
 ·have he:(s.err==0)=false:=by simp [h0]
  go_enter Tryz.func128,Tryz.ntmps128
  go_wp2_with (go_at_call 53;refine (HT.out _ HX.out).mono ?_;rintro e w1 ⟨rfl,hb1⟩;have k2:=zab hb1 c2;have kb:=zac k2;have H1:=hd_ hb1;clear hb1)
  go_ret
  exact ⟨rfl,H1.out.alloc H1.out.size _⟩
 ·rw [h0] at c2
  have e1:(tk==3)=true:=by simpa using h1
  clear h0 h1
  go_enter Tryz.func128,Tryz.ntmps128
  go_wp2_with (go_at_call 53;refine (HT.out _ HX.out).mono ?_;rintro e w1 ⟨rfl,hb1⟩;have k2:=zab hb1 c2;have kb:=zac k2;have H1:=hd_ hb1;clear hb1)
  go_ret
  exact ⟨rfl,H1.out.alloc H1.out.size _⟩
 ·rw [h0] at c2
  have e1:(tk==3)=false:=by simpa using h1
  have e6:(tk==4)=true:=by simpa using h6
  clear h0 h1 h6
  go_enter Tryz.func128,Tryz.ntmps128
  go_wp2_with (go_at_call 53;refine (HT.out _ HX.out).mono ?_;rintro e w1 ⟨rfl,hb1⟩;have k2:=zab hb1 c2;have kb:=zac k2;have H1:=hd_ hb1;clear hb1)
  go_ret
  exact ⟨rfl,H1.out.alloc H1.out.size _⟩
 ·rw [h0] at c2
  have e1:(tk==3)=false:=by simpa using h1
  have e6:(tk==4)=false:=by simpa using h6
  clear h0 h1 h6
  go_enter Tryz.func128,Tryz.ntmps128
  go_wp2_with (go_at_call 53;refine (HT.out _ HX.out).mono ?_;rintro e w1 ⟨rfl,hb1⟩;have k2:=zab hb1 c2;have kb:=zac k2;have H1:=hd_ hb1;clear hb1)
  go_ret
  exact ⟨rfl,H1.out.alloc H1.out.size _⟩
theorem zjp (s:PS) (a e:Int):(fail s a e).i=s.i:=by unfold fail;split <;> rfl
theorem zcr {b g cap:Nat} {ts:List Tok} {s s':PS} {t:Tok} (ht:T ts s=t) (hr:name ts s=s') (hi:s.err=0→s.i < ts.length) (hb9:s.i≤200000) (w:World) (hx:Par w b g cap ts s) :
  Calls Tryz.prog 84 #[.pointer (some ⟨b,0,none⟩)] w (zbC w b g cap ts (tokV t) s'):=by
 have F0:=hd_ (Fr.start hx)
 have HT:=hd_ (fun W (hW:Par W b g cap ts s)=>zbH ht hi W hW)
 unfold name at hr
 rw [ht] at hr
 obtain ⟨tk,kd,nn,tx,ta⟩:=t
 have HTV:Hid (tokV ⟨tk,kd,nn,tx,ta⟩=.agg #[.int .i64 tk,.int .i64 kd,.int .i64 nn,.string ⟨tx.toArray⟩,.int .i64 ta]):=hd_ rfl
 simp only [tokV] at HT
 by_cases h2:tk=2
 ·rw [if_pos (by exact h2)] at hr
  have HS:=hd_ hr
  have e1:(tk != 2)=false:=by simp [h2]
  have i5:IntKind.i64.wrap ((s.i:Int)+1)=(s.i:Int)+1:=IntWalk.i64_in _ (by omega)
  clear hx ht hr hi hb9 h2
  go_enter Tryz.func84,Tryz.ntmps84
  go_wp2_with fail
  refine (HT.out _ (F0.out.alloc _).par).mono ?_
  rintro e w1 ⟨rfl,hb1⟩
  have F1:=hd_ ((F0.out.alloc _).below hb1)
  have R1:=hd_ ((Bl.new _ _ _).below hb1)
  clear hb1
  obtain ⟨-,c1,-,-,f1,-,-⟩:=F1.out.par.pb.cells
  have k1:=F1.out.par.pb.lt
  have n1:w.heap.size≠b:=by have:=F0.out.lt;omega
  go_upto_region 5 with fail
  refine zaa (P:=Code.wp _ _ _ _) (F:=fun W=>Fr w b g cap ts ⟨s.i+1,s.err,s.at_⟩ W∧Bl W w.heap.size _ 107∧Bl W w1.heap.size #[.int .i64 tk,.int .i64 kd,.int .i64 nn,.string ⟨tx.toArray⟩,.int .i64 ta] 107)
   ⟨(F1.out.set1 (by simp)).alloc _,(R1.out.other n1 _ _).alloc _,Bl.newSet _ _ _ _ _⟩ ?_
  intro W ⟨F2,R2,T2⟩
  have F2:=hd_ F2
  have k2:=R2.lt
  have k3:=T2.lt
  clear c1 f1 k1 i5 e1
  obtain ⟨q0,q1,q2,q3,q4⟩:=T2.cells5
  obtain ⟨r0,r1,r2,r3,r4⟩:=R2.cells5
  obtain ⟨g0,g1,g2,g3,g4⟩:=R2.free5
  have R2:=hd_ R2
  clear T2
  go_wp2_with fail
  refine zaa (P:=bodyPost _ _ _ _ _) (F:=fun W=>Fr w b g cap ts ⟨s.i+1,s.err,s.at_⟩ W∧Bl W w.heap.size #[.int .i64 tk,.int .i64 kd,.int .i64 nn,.string ⟨tx.toArray⟩,.int .i64 ta] 107)
   ⟨((((F2.out.far nl_ _ _).far nl_ _ _).far nl_ _ _).far nl_ _ _).far nl_ _ _,R2.out.set5⟩ ?_
  clear q0 q1 q2 q3 q4 r0 r1 r2 r3 r4 g0 g1 g2 g3 g4 k2 k3
  intro W2 ⟨F3,R3⟩
  obtain ⟨r0,r1,r2,r3,r4⟩:=R3.cells5
  refine bodyPost_ret (v:=.agg #[.int .i64 tk,.int .i64 kd,.int .i64 nn,.string ⟨tx.toArray⟩,.int .i64 ta]) (by simp [results,Tryz.results84,go_sem, *]) rfl ?_
  exact HS.out▸F3.post rfl
 ·rw [if_neg (by exact h2)] at hr
  obtain ⟨s1,hs1⟩:∃ s1,fail s ta 130=s1:=⟨_,rfl⟩
  rw [hs1] at hr
  have HS:=hd_ hr
  have HF:=hd_ (fun W (hW:Par W b g cap ts s)=>za1 hs1 W hW)
  have e1:(tk != 2)=true:=by simp [h2]
  have i5:IntKind.i64.wrap ((s1.i:Int)+1)=(s1.i:Int)+1:=IntWalk.i64_in _ (by have:s1.i=s.i:=(by rw [← hs1];exact zjp _ _ _);omega)
  clear hx ht hr hi hb9 h2 hs1
  go_enter Tryz.func84,Tryz.ntmps84
  go_wp2_with fail
  refine (HT.out _ (F0.out.alloc _).par).mono ?_
  rintro e w1 ⟨rfl,hb1⟩
  have F1:=hd_ ((F0.out.alloc _).below hb1)
  have R1:=hd_ ((Bl.new _ _ _).below hb1)
  clear hb1
  have k1:=F1.out.par.pb.lt
  have n1:w.heap.size≠b:=by have:=F0.out.lt;omega
  go_wp2_with fail
  refine (HF.out _ (F1.out.alloc _).par).mono ?_
  rintro e w2 ⟨rfl,ho,hp⟩
  have F2:=hd_ ((F1.out.alloc _).call ho hp)
  have R2:=hd_ ((R1.out.alloc _).only ho n1)
  have T2:=hd_ ((Bl.new _ _ _).only ho (by omega))
  clear ho hp k1
  obtain ⟨-,c1,-,-,f1,-,-⟩:=F2.out.par.pb.cells
  have k1:=F2.out.par.pb.lt
  have n3:w1.heap.size≠b:=by have:=F0.out.lt;have:=F1.out.size;omega
  go_upto_region 5 with fail
  refine zaa (P:=Code.wp _ _ _ _) (F:=fun W=>Fr w b g cap ts ⟨s1.i+1,s1.err,s1.at_⟩ W∧Bl W w.heap.size _ 107∧Bl W w1.heap.size #[.int .i64 tk,.int .i64 kd,.int .i64 nn,.string ⟨tx.toArray⟩,.int .i64 ta] 107)
   ⟨F2.out.set1 (by simp),R2.out.other n1 _ _,T2.out.other n3 _ _⟩ ?_
  clear c1 f1 k1 i5 e1 T2 R2 R1 F2 F1
  intro W ⟨F2,R2,T2⟩
  have F2:=hd_ F2
  have k2:=R2.lt
  have k3:=T2.lt
  obtain ⟨q0,q1,q2,q3,q4⟩:=T2.cells5
  obtain ⟨r0,r1,r2,r3,r4⟩:=R2.cells5
  obtain ⟨g0,g1,g2,g3,g4⟩:=R2.free5
  have R2:=hd_ R2
  clear T2
  go_wp2_with fail
  refine zaa (P:=bodyPost _ _ _ _ _) (F:=fun W=>Fr w b g cap ts ⟨s1.i+1,s1.err,s1.at_⟩ W∧Bl W w.heap.size #[.int .i64 tk,.int .i64 kd,.int .i64 nn,.string ⟨tx.toArray⟩,.int .i64 ta] 107)
   ⟨((((F2.out.far nl_ _ _).far nl_ _ _).far nl_ _ _).far nl_ _ _).far nl_ _ _,R2.out.set5⟩ ?_
  clear q0 q1 q2 q3 q4 r0 r1 r2 r3 r4 g0 g1 g2 g3 g4 k2 k3
  intro W2 ⟨F3,R3⟩
  obtain ⟨r0,r1,r2,r3,r4⟩:=R3.cells5
  refine bodyPost_ret (v:=.agg #[.int .i64 tk,.int .i64 kd,.int .i64 nn,.string ⟨tx.toArray⟩,.int .i64 ta]) (by simp [results,Tryz.results84,go_sem, *]) rfl ?_
  exact HS.out▸F3.post rfl
theorem zjJ {ts:List Tok} {s:PS} (h:s.err≠0):lines ts s=s:=by unfold lines;rw [if_neg h]
theorem ziP {ts:List Tok} {s:PS} (h:s.err=0) (hi:s.i < ts.length) (ht:(T ts s).tok≠7):lines ts s=s:=by
 unfold lines
 rw [if_pos h]
 have h1:=T_in h hi
 rw [List.getElem?_eq_getElem hi] at h1
 rw [List.drop_eq_getElem_cons hi,Option.some.inj h1,zho,if_neg ht]
 simp
theorem ziO {ts:List Tok} {s:PS} (h:s.err=0) (hi:s.i < ts.length) (ht:(T ts s).tok=7):lines ts s=lines ts ⟨s.i+1,s.err,s.at_⟩:=by
 unfold lines
 rw [if_pos h,if_pos (by exact h)]
 have h1:=T_in h hi
 rw [List.getElem?_eq_getElem hi] at h1
 rw [List.drop_eq_getElem_cons hi,Option.some.inj h1,zho,if_pos ht]
 simp;omega
theorem zch {b g cap:Nat} {ts:List Tok} {s s':PS} (hr:lines ts s=s') (hg:Pa.Good ts 50000 s) (w:World) (hx:Par w b g cap ts s) :
  Calls Tryz.prog 52 #[.pointer (some ⟨b,0,none⟩)] w (zbC w b g cap ts (.tuple #[]) s'):=by
 have F0:=hd_ (Fr.start hx)
 have HR:=hd_ hr
 have HG:=hd_ hg
 have HL:=hd_ hx.le
 have HE:=hd_ hx.ends
 clear hr hg hx
 go_enter Tryz.func52,Tryz.ntmps52
 go_wp2_with fail
 go_loopw [] (fun wr=>RRel (∃ s1:PS,Hid (Pa.Good ts 50000 s1)∧Hid (lines ts s1=s')∧Hid (Fr w b g cap ts s1 wr))) (fun wr=>200000 - (intOf ((wr.cell? ⟨b,1,none⟩).getD undef)).toNat)
 case atStart=>exact RRel.mk ⟨s,HG,HR,F0⟩
 case round=>
  obtain ⟨s1,HG1,HR1,F1⟩:=hrel.it
  clear hrel HG HR F0
  obtain ⟨t,ht⟩:∃ t,T ts s1=t:=⟨_,rfl⟩
  have HT:=hd_ (fun W (hW:Par W b g cap ts s1)=>zbH ht HG1.out.1 W hW)
  have hf:=zaV
  obtain ⟨c0,c1,c2,c3,f1,f2,f3⟩:=F1.out.par.pb.cells
  clear c0 c3 f2 f3
  have k1:=F1.out.par.pb.lt
  by_cases h0:s1.err=0
  ·have hi:=HG1.out.1 h0
   have HH:=hd_ ht
   clear ht
   obtain ⟨tk,kd,nn,tx,ta⟩:=t
   simp only [tokV] at HT
   by_cases h7:tk=7
   ·have HN:=hd_ (ziO h0 hi (by rw [HH.out];exact h7))
    have HG2:=hd_ (HG1.out.up HE.out (by rw [HH.out];simp only;omega))
    have e1:(s1.err==0)=true:=by simp [h0]
    have e2:(tk==7)=true:=by simp [h7]
    have e3:((0:Int)==0)=true:=rfl
    have i5:IntKind.i64.wrap ((s1.i:Int)+1)=(s1.i:Int)+1:=IntWalk.i64_in _ (by have:=HL.out;omega)
    have hm:s1.i < 100000:=by have:=HL.out;omega
    clear h0 hi h7
    go_wp2_with (go_at_call 53;refine (HT.out _ F1.out.par).mono ?_;rintro e w2 ⟨rfl,hb2⟩;have F2:=hd_ (F1.out.below hb2);have d1:=F2.out.par.pb.cells.2.1;have g1:=F2.out.par.pb.cells.2.2.2.2.1;have k2:=F2.out.par.pb.lt;clear hb2)
    go_roundw
    case rel=>exact RRel.mk ⟨⟨s1.i+1,s1.err,s1.at_⟩,HG2,hd_ (by rw [← HN.out];exact HR1.out),hd_ (F2.out.set1 (by simp))⟩
    case measure=>
     have q1:=(F2.out.set1 (i:=s1.i+1) (i':=(s1.i:Int)+1) (by simp)).par.pb.cells.2.1
     simp only at q1
     simp [q1,c1,intOf];omega
   ·have HN:=hd_ (ziP h0 hi (by rw [HH.out];exact h7))
    have e1:(s1.err==0)=true:=by simp [h0]
    have e2:(tk==7)=false:=by simp [h7]
    clear h0 hi h7
    go_wp2_with (go_at_call 53;refine (HT.out _ F1.out.par).mono ?_;rintro e w2 ⟨rfl,hb2⟩;have F2:=hd_ (F1.out.below hb2);clear hb2)
    go_end0
    exact (by rw [← HR1.out,HN.out]:s'=s1)▸F2.out.post rfl
  ·have HN:=hd_ (zjJ (ts:=ts) h0)
   have e1:(s1.err==0)=false:=by simp [h0]
   clear h0 ht
   go_wp2
   go_end0
   exact (by rw [← HR1.out,HN.out]:s'=s1)▸F1.out.post rfl
theorem zau {b g cap:Nat} {ts:List Tok} {s s':PS} {il:Bool} (hr:Pa.step ts il s=s') (hg:Pa.Good ts 50000 s) (w:World) (hx:Par w b g cap ts s) :
  Calls Tryz.prog 81 #[.pointer (some ⟨b,0,none⟩),.bool il] w (zbC w b g cap ts (.tuple #[]) s'):=by
 have F0:=hd_ (Fr.start hx)
 cases il with
 | false=>
  have HS:Hid (s'=s):=hd_ (by rw [← hr];rfl)
  clear hr hg hx
  go_enter Tryz.func81,Tryz.ntmps81
  go_wp2
  go_end0
  exact HS.out▸F0.out.post rfl
 | true=>
  have HL:=hd_ (fun W (hW:Par W b g cap ts s)=>zch (s':=s') (by rw [← hr];rfl) hg W hW)
  clear hr hg hx
  go_enter Tryz.func81,Tryz.ntmps81
  go_wp2_with (go_at_call 52;refine (HL.out _ F0.out.par).mono ?_;rintro e w2 ⟨rfl,ho,hp⟩;have F2:=hd_ (F0.out.call ho hp);clear ho hp)
  go_end0
  exact F2.out.post rfl
end Go.Proofs.YtdpkjpjkdmkkpaaGreatDoor
namespace Go.Proofs.YtdpkjpjkdmkkpaaGreatDoor
open Lx Pa
theorem zmk {il:Bool} {l:List UInt8}:∀ (f a:Nat) (out ts:List Tok),rT il l f a out=.ok ts→∃ r x,ts=out++r++[⟨0,0,0,[],x⟩]:=by
 intro f
 induction f with
 | zero=>intro a out ts h;cases h
 | succ f ih=>
  intro a out ts h
  rcases zdB h with ⟨_,h2⟩ | ⟨_,_,h3⟩ | ⟨_,_,_,h4⟩ | ⟨_,_,_,_,_,h6⟩ | ⟨i,h1,_,_,_,_,h6⟩ | ⟨t,n,e',_,_,_,_,_,h6,h7⟩ | ⟨t,n,h1,_,_,_,h5,h6⟩
  ·injection h2 with h2;exact ⟨[],_,by rw [h2,List.append_nil]⟩
  ·exact ih _ _ _ h3
  ·obtain ⟨r,x,h5⟩:=ih _ _ _ h4
   exact ⟨⟨7,0,0,[10],a⟩::r,x,by rw [h5];simp⟩
  ·cases h6
  ·exact ih _ _ _ h6
  ·cases h7
  ·obtain ⟨r,x,h7⟩:=ih _ _ _ h6
   exact ⟨{ t with at_:=a }::r,x,by rw [h7];simp⟩
theorem zgA {l:List UInt8} {il:Bool} {ts:List Tok} (h:zaP l il=.ok ts):zaE ts:=by
 unfold zaP at h
 split at h
 ·cases h
 ·obtain ⟨r,x,rfl⟩:=zmk _ _ _ _ h
  refine ⟨by simp,fun t ht=>?_⟩
  rw [List.getElem?_append_right (by simp)] at ht
  simp at ht
  rw [← ht]
end Go.Proofs.YtdpkjpjkdmkkpaaGreatDoor
