/- Package lex in plain words: what each function computes, over lists of bytes. -/
import Derived.WalkKit
import Derived.Test.YtdpkjpjkdmkkpaaGreatDoorShelf
import Derived.Shelf.Slices.Turned
import Derived.Shelf.Strings.Search3
import Derived.WalkSpells
import Derived.WalkLawsBesides
import Derived.Lib.Hide
import Derived.Lib.SmallJoins
import Derived.Deep.QuietTactic
import Derived.BigQuiet
import Derived.Deep.DeepFit
import Derived.Deep.DeepMust
import Derived.Lib.AppendIntMem
import Derived.Lib.ItoaNum
import Derived.Lib.AtoiAll
import Derived.Lib.IndexMore
import Derived.Lib.Strings
namespace Go.Proofs.YtdpkjpjkdmkkpaaGreatDoor.Lx
def dig (c:UInt8):Bool:=decide (48≤c.toNat)&&decide (c.toNat≤57)
def lett (c:UInt8):Bool:=(decide (97≤c.toNat)&&decide (c.toNat≤122)) || (decide (65≤c.toNat)&&decide (c.toNat≤90)) || c.toNat==95
def zbi (c:UInt8):Bool:=lett c || dig c
def zdU (c:UInt8):Bool:=(lett c&&!(c.toNat==95)) || dig c || c.toNat==46
def span (p:UInt8→Bool):List UInt8→Nat
 | []=>0
 | c::l=>if p c then span p l+1 else 0
theorem zdf (p:UInt8→Bool) (l:List UInt8):span p l≤l.length:=by
 induction l with
 | nil=>simp [span]
 | cons c l ih=>simp only [span];split <;> simp <;> omega
def valD (c:UInt8):Int:=if dig c then c.toNat - 48 else if 65≤c.toNat∧c.toNat≤70 then (c.toNat:Int) - 65+10 else -1
def zbx (c:UInt8) (base:Int):Bool:=decide (0≤valD c)&&decide (valD c < base)
def digF (base:Int):List UInt8→Bool→Nat→Int→Nat→Int × Nat
 | [],_,_,n,size=>(n,size)
 | c::l,ok,i,n,size=>
  if c.toNat=95∧ok=true then digF base l false (i+1) n size
  else if zbx c base then digF base l true (i+1) (min (n*base+valD c) 1099511627776) (i+1)
  else (n,size)
def zak (l:List UInt8) (base:Int):Int × Nat:=digF base l false 0 0 0
theorem zjm (base:Int) (l:List UInt8) (ok:Bool) (i:Nat) (n:Int) (size:Nat) (h:size≤i) :
  (digF base l ok i n size).2≤i+l.length:=by
 induction l generalizing ok i n size with
 | nil=>simpa [digF] using h
 | cons c l ih=>
  simp only [digF]
  split
  ·have:=ih false (i+1) n size (by omega);simp;omega
  ·split
   ·have:=ih true (i+1) (min (n*base+valD c) 1099511627776) (i+1) (by omega);simp;omega
   ·simp;omega
theorem zaI (l:List UInt8) (base:Int):(zak l base).2≤l.length:=by
 have:=zjm base l false 0 0 0 (by omega);simpa [zak] using this
theorem zmI (c:UInt8):valD c≤15:=by
 unfold valD dig
 have:=c.toNat_lt
 split
 ·rename_i h;simp at h;omega
 ·split <;> omega
theorem ziB (base:Int) (hb:0≤base) (l:List UInt8) (ok:Bool) (i:Nat) (n:Int) (size:Nat) (h:0≤n∧n≤1099511627776) :
  0≤(digF base l ok i n size).1∧(digF base l ok i n size).1≤1099511627776:=by
 induction l generalizing ok i n size with
 | nil=>simpa [digF] using h
 | cons c l ih=>
  simp only [digF]
  split
  ·exact ih _ _ _ _ h
  ·split
   ·rename_i hv
    have h0:0≤valD c:=by simp [zbx] at hv;omega
    have h1:0≤n*base:=Int.mul_nonneg h.1 hb
    exact ih _ _ _ _ ⟨by omega,by omega⟩
   ·exact h
theorem za9 (l:List UInt8) (base:Int) (hb:0≤base):0≤(zak l base).1∧(zak l base).1≤1099511627776:=
 ziB base hb l false 0 0 0 (by omega)
def number (l:List UInt8):Int × Nat × Int:=
 let d:=zak l 10
 if d.2=0 then (0,0,120)
 else if l[d.2]? = some 35∧(l.take d.2=[50]∨l.take d.2=[56]∨l.take d.2=[49,54]) then
  let m:=zak (l.drop (d.2+1)) d.1
  if m.2=0 then (0,0,120) else (m.1,d.2+1+m.2,0)
 else (d.1,d.2,0)
structure Tok where
 tok:Int
 kind:Int
 n:Int
 text:List UInt8
 at_:Int
deriving DecidableEq,Repr
def tok0:Tok:=⟨0,0,0,[],0⟩
def kindName:Nat→List UInt8
 | 1 => "BOOL".toUTF8.data.toList
 | 2 => "SINT".toUTF8.data.toList
 | 3 => "INT".toUTF8.data.toList
 | 4 => "DINT".toUTF8.data.toList
 | 5 => "USINT".toUTF8.data.toList
 | 6 => "UINT".toUTF8.data.toList
 | 7 => "UDINT".toUTF8.data.toList
 | 8 => "BYTE".toUTF8.data.toList
 | 9 => "WORD".toUTF8.data.toList
 | 10 => "DWORD".toUTF8.data.toList
 | 11 => "TIME".toUTF8.data.toList
 | _=>[]
end Go.Proofs.YtdpkjpjkdmkkpaaGreatDoor.Lx
namespace Go.Proofs.YtdpkjpjkdmkkpaaGreatDoor
open Go.RowKit
theorem hd_ {p : Prop} (h : p) : Hid p := Lib.hid h
theorem br_ {n : Nat} {w : World} : Below n w w := Below.refl n w
theorem ll_ {n m k : Nat} (h : n < m) (g : m ≤ k) : n < k := Nat.lt_of_lt_of_le h g
theorem lt_ {n m k : Nat} (h : n ≤ m) (g : m ≤ k) : n ≤ k := Nat.le_trans h g
theorem nl_ {n : Nat} : n ≤ n := Nat.le_refl n
theorem zaf {a b:Int} (h:a=b):Ending.returned (.int .i64 a)=.returned (.int .i64 b):=by rw [h]
theorem zct {a b:Bool} (h:a=b):Ending.returned (.bool a)=.returned (.bool b):=by rw [h]
theorem zmo {a b:ByteArray} (h:a=b):Ending.returned (.string a)=.returned (.string b):=by rw [h]
structure Env (w:World):Prop where
 maxLen:∃ m,w.cell? ⟨3,0,none⟩=some (.int .i64 m)
 syn:∃ tp p,w.cell? ⟨4,0,none⟩=some (.iface tp p)
 rng:∃ tp p,w.cell? ⟨5,0,none⟩=some (.iface tp p)
 pow : Lib.TabIs Tryz.prog w "internal/strconv.uint64pow10" .u64 Lib.pow10Tab
theorem zns : Tryz.prog.globalNamed "internal/strconv.uint64pow10" = some 6 := by kernel_rfl
theorem zac {w:World} {b o:Nat} {v:Value} (h:w.cell? ⟨b,o,none⟩=some v):b < w.heap.size:=by
 by_cases hb:b < w.heap.size
 ·exact hb
 ·simp [World.cell?,Array.getElem?_eq_none (Nat.le_of_not_lt hb)] at h
theorem Env.below {w w':World} (h:Env w) (hb:Below w.heap.size w w'):Env w' where
 maxLen:=let ⟨m,hm⟩:=h.maxLen;⟨m,(hb.cell (p:=⟨_,_,none⟩) (zac hm)).trans hm⟩
 syn:=let ⟨a,b,hm⟩:=h.syn;⟨a,b,(hb.cell (p:=⟨_,_,none⟩) (zac hm)).trans hm⟩
 rng:=let ⟨a,b,hm⟩:=h.rng;⟨a,b,(hb.cell (p:=⟨_,_,none⟩) (zac hm)).trans hm⟩
 pow:=Joins.tab_stays zns h.pow hb nl_
theorem btr {w w1 w2:World} (h:Below w.heap.size w w1) (k:Below w1.heap.size w1 w2):Below w.heap.size w w2:=h.trans (k.mono h.size)
theorem zh2 {w w1:World} {e:TypeId} (h:w1=w∨∃ t,w1=Lib.bytesWorld w e t):Below w.heap.size w w1:=by
 rcases h with rfl | ⟨t,rfl⟩
 ·exact Below.refl _ _
 ·exact Lib.bytesWorld_below _ _ _
theorem zm4 {w w1:World} (h:∃ k os,w1=Sort.grow (w.drewN k) os):Below w.heap.size w w1:=by
 obtain ⟨k,os,rfl⟩:=h
 exact Lib.below_grow _ _ nl_ k os
theorem zeH {P:Program} {f:FuncId} {args:Array Value} {w:World} {a n:Nat} {v:Value}
  (h:Calls P f args (w.drewN (a+n)) fun e w'=>e=.returned v∧w.drewN (a+n)=w') :
  Calls P f args (w.drewN (a+n)) fun e w''=>e=.returned v∧∃ m,w''=w.drewN (a+m):=
 h.mono fun _ _ ⟨he,hm⟩=>⟨he,n,hm.symm⟩
theorem zaT {P:Program} {f:FuncId} {args:Array Value} {w:World} {n:Nat} {v:Value}
  (h:Calls P f args (w.drewN n) fun e w'=>e=.returned v∧w.drewN n=w'):Calls P f args (w.drewN n) fun e w''=>e=.returned v∧∃ m,w''=w.drewN m:=
 h.mono fun _ _ ⟨he,hm⟩=>⟨he,n,hm.symm⟩
theorem zkB (s:ByteArray) (hlim:s.size≤281474976710656) (h1:∀ v,Lib.atoiAll s.data.toList≠.ok v) (h2:Lib.atoiAll s.data.toList≠.range) (ev:Value) (w:World)
  (hv:w.cell? ⟨4,0,none⟩=some ev) (hev:ev=.nilIface∨∃ te pe,ev=.iface te pe) :
  Calls Tryz.prog 119 #[.string s] w fun e w'=>∃ x,e=.returned (.tuple #[.int .i64 0,.iface 237 x])∧Below w.heap.size w w':=
 (Any.strconv_Atoi_syntax Tryz.laysC172 s hlim (by cases hx:Lib.atoiAll s.data.toList with
  | ok v=>exact absurd hx (h1 v)
  | range=>exact absurd hx h2
  | _=>rfl) ev w hv hev).mono fun e w' ⟨N,he,_,_,hb⟩=>⟨_,he,hb⟩
open Lx
theorem zc2 {s:ByteArray} {k:Nat} (hk:k < s.size):s.data.toList.drop k=s[k]::s.data.toList.drop (k+1):=by
 rw [List.drop_eq_getElem_cons (by simpa using hk)]
 rw [show s.data.toList[k]'(by simpa using hk)=s[k] by simp [ByteArray.getElem_eq_getElem_data]]
def zeB (base:Int) (s:ByteArray) (r:Int × Nat) (k:Nat) (acc:Int) (sz:Nat) (ok:Bool):Prop:=digF base (s.data.toList.drop k) ok k acc sz=r
theorem zeB.yes {base:Int} {s:ByteArray} {r:Int × Nat} {k:Nat} {acc:Int} {sz:Nat} {ok:Bool} (h:zeB base s r k acc sz ok) (hk:k < s.size) (hc:¬ (s[k].toNat=95∧ok=true)) (hv:zbx s[k] base=true) :
  zeB base s r (k+1) (min (acc*base+valD s[k]) 1099511627776) (k+1) true:=by
 unfold zeB at h ⊢;rw [zc2 hk,digF,if_neg hc,if_pos hv] at h;exact h
theorem zeB.no {base:Int} {s:ByteArray} {r:Int × Nat} {k:Nat} {acc:Int} {sz:Nat} {ok:Bool} (h:zeB base s r k acc sz ok) (hk:k < s.size) (hc:¬ (s[k].toNat=95∧ok=true)) (hv:zbx s[k] base=false) :
  r=(acc,sz):=by
 unfold zeB at h;rw [zc2 hk,digF,if_neg hc,if_neg (by simp [hv])] at h;exact h.symm
theorem zeB.over {base:Int} {s:ByteArray} {r:Int × Nat} {k:Nat} {acc:Int} {sz:Nat} {ok:Bool} (h:zeB base s r k acc sz ok) (hk:s.size≤k):r=(acc,sz):=by
 unfold zeB at h;rw [List.drop_of_length_le (by simpa using hk)] at h;exact h.symm
end Go.Proofs.YtdpkjpjkdmkkpaaGreatDoor
namespace Go.Proofs.YtdpkjpjkdmkkpaaGreatDoor.Ad
def zbG (a:Int):Int:=if a=1∨a=2∨a=3 then 128 else if a=4∨a=5∨a=6 then 64 else 0
def aBit (a:Int):Bool:=decide (a=1∨a=2∨a=3)
def zaR (a:Int):List UInt8:=
 if a=1 then [37,73,88] else if a=2 then [37,81,88] else if a=3 then [37,77,88] else if a=4 then [37,73,87] else if a=5 then [37,81,87] else if a=6 then [37,77,87] else []
def dd (n:Nat):List UInt8:=
 if n < 10 then [UInt8.ofNat (48+n)] else if n < 100 then [UInt8.ofNat (48+n / 10),UInt8.ofNat (48+n % 10)]
 else [UInt8.ofNat (48+n / 100),UInt8.ofNat (48+n / 10 % 10),UInt8.ofNat (48+n % 10)]
theorem zm8 {n:Nat} (h:n < 1000):Lib.decDigits n=dd n:=by
 unfold dd
 by_cases h1:n < 10
 ·rw [if_pos h1,Lib.decDigits_one h1]
 by_cases h2:n < 100
 ·rw [if_neg h1,if_pos h2,Lib.decDigits_two h1 h2]
 ·rw [if_neg h1,if_neg h2,Lib.decDigits,dif_neg h1,Lib.decDigits_two (by omega) (by omega)]
  have:n / 10 / 10=n / 100:=by omega
  simp [this]
def zaH (l:List UInt8):Option Nat:=(List.range 1000).find? fun n=>dd n==l
theorem zaJ {l:List UInt8} {n:Nat} (h:zaH l=some n):n < 1000∧dd n=l:=by
 have h1:=List.find?_some h
 have h2:=List.mem_of_find?_eq_some h
 exact ⟨List.mem_range.1 h2,by simpa using h1⟩
theorem zfh:∀ n:Fin 1000,Lib.atoiAll (dd n)=.ok (n:Nat):=by decide +kernel
theorem zm9 {n m:Nat} (hn:n < 1000) (hm:m < 1000) (h:dd n=dd m):n=m:=by
 have h1:=zfh ⟨n,hn⟩
 have h2:=zfh ⟨m,hm⟩
 simp only at h1 h2
 rw [h,h2] at h1
 injection h1 with h1
 omega
theorem zfv {n:Nat} (hn:n < 1000):zaH (dd n)=some n:=by
 cases h:zaH (dd n) with
 | some m=>
  obtain ⟨hm,he⟩:=zaJ h
  rw [zm9 hm hn he]
 | none=>
  have:=List.find?_eq_none.1 h n (List.mem_range.2 hn)
  simp at this
def Is64 (n:Int):Prop:=-9223372036854775808≤n∧n≤9223372036854775807
theorem zkM (l:List UInt8):Is64 (Lib.atoiSat l):=by unfold Is64 Lib.atoiSat;split <;> omega
def zeG (l:List UInt8):Bool:=(zaH l).isSome
def Num (l:List UInt8) (n:Int) (b:Bool):Prop:=b=zeG l∧Is64 n∧∀ m,zaH l=some m→n=m
theorem zmf {l:List UInt8} (h:∀ v,Lib.atoiAll l≠.ok v):zaH l=none:=by
 cases hn:zaH l with
 | none=>rfl
 | some n=>
  obtain ⟨h1,rfl⟩:=zaJ hn
  exact absurd (zfh ⟨n,h1⟩) (h _)
theorem zhp {n:Nat} (h:(Lib.decDigits n).length≤3):n < 1000:=by
 by_cases hn:n < 1000
 ·exact hn
 ·exfalso
  rw [Lib.decDigits,dif_neg (by omega),Lib.decDigits,dif_neg (by omega),Lib.decDigits,dif_neg (by omega)] at h
  simp at h
  have:(Lib.decDigits (n / 10 / 10 / 10)).length=0:=by rw [h];rfl
  rw [Lib.decDigits_length] at this
  unfold Lib.nDigits at this
  split at this <;> omega
theorem zeV {l:List UInt8} {v:Int} (h:Lib.atoiAll l=.ok v):zaH l=if l.length≤3∧Lib.itoa v=l∧0≤v then some v.toNat else none:=by
 split
 ·rename_i hc
  obtain ⟨h1,h2,h3⟩:=hc
  have h4:Lib.decDigits v.toNat=l:=by rw [← h2];unfold Lib.itoa;rw [if_neg (by omega)]
  have h5:v.toNat < 1000:=zhp (by rw [h4];exact h1)
  rw [← h4,zm8 h5,zfv h5]
 ·rename_i hc
  cases hn:zaH l with
  | none=>rfl
  | some n=>
   exfalso
   obtain ⟨h1,rfl⟩:=zaJ hn
   have h2:=zfh ⟨n,h1⟩
   simp only at h2
   rw [h] at h2
   injection h2 with h2
   subst h2
   refine hc ⟨?_,?_,by omega⟩
   ·unfold dd;split
    ·simp
    ·split <;> simp
   ·unfold Lib.itoa;rw [if_neg (by omega)];simp [zm8 h1]
def aW (a:Int) (o:Option Nat):Option Int:=match o with
 | some m=>if (m:Int) < zbG a then some m else none
 | none=>none
def aB (a:Int) (pt:Bool) (o1 o2:Option Nat):Option Int:=
 if pt then
  match o2,o1 with
  | some n,some m=>if n≤7∧8*(m:Int)+n < zbG a then some (8*(m:Int)+n) else none
  | _,_=>none
 else none
def aAt (a:Int) (rest:List UInt8):Option Int:=
 if aBit a then aB a (Lib.cut rest [46]).2.2 (zaH (Lib.cut rest [46]).1) (zaH (Lib.cut rest [46]).2.1) else aW a (zaH rest)
def aFrom (l:List UInt8):Nat→Nat→Int × Int × Int
 | 0,_=>(0,0,100)
 | d+1,k=>
  if Lib.hasPrefix l (zaR (1+(k:Int))) then
   match aAt (1+(k:Int)) (Lib.trimPrefix l (zaR (1+(k:Int)))) with
   | some n=>(1+(k:Int),n,0)
   | none=>(0,0,100)
  else aFrom l d (k+1)
theorem zit {l:List UInt8} {k:Nat} (h:k < 6) (hp:Lib.hasPrefix l (zaR (1+(k:Int)))=false):aFrom l (6 - (k+1)) (k+1)=aFrom l (6 - k) k:=by
 rw [show 6 - k=(6 - (k+1))+1 by omega,aFrom,hp];rfl
theorem zf6 {l:List UInt8} {k:Nat} (h:k < 6) (hp:Lib.hasPrefix l (zaR (1+(k:Int)))=true) :
  aFrom l (6 - k) k=match aAt (1+(k:Int)) (Lib.trimPrefix l (zaR (1+(k:Int)))) with
   | some n=>(1+(k:Int),n,0)
   | none=>(0,0,100):=by
 rw [show 6 - k=(6 - (k+1))+1 by omega,aFrom,hp];rfl
theorem zfg {a:Int} {r:List UInt8} (hb:aBit a=false):aAt a r=aW a (zaH r):=by rw [aAt,hb];exact if_neg Bool.false_ne_true
theorem zlU {a:Int} {r:List UInt8} (hb:aBit a=true):aAt a r=aB a (Lib.cut r [46]).2.2 (zaH (Lib.cut r [46]).1) (zaH (Lib.cut r [46]).2.1):=by rw [aAt,hb];exact if_pos rfl
theorem ziR {l:List UInt8} (h:zeG l=true):∃ m,zaH l=some m:=Option.isSome_iff_exists.1 h
theorem Num.yes {l:List UInt8} {n:Int} (h:Num l n true):∃ m,zaH l=some m∧n=(m:Int):=
 let ⟨m,hm⟩:=ziR h.1.symm;⟨m,hm,h.2.2 m hm⟩
theorem ziQ {l:List UInt8} (h:zeG l=false):zaH l=none:=by
 cases hn:zaH l with
 | none=>rfl
 | some m=>simp [zeG,hn] at h
theorem Num.no {l:List UInt8} {n:Int} (h:Num l n false):zaH l=none:=ziQ h.1.symm
def aParse (l:List UInt8):Int × Int × Int:=aFrom l 6 0
theorem Num.word {l:List UInt8} {a n sz:Int} {b:Bool} (h:Num l n b) (hs:zbG a=sz):aW a (zaH l)=if b=true∧n < sz then some n else none:=by
 cases b with
 | false=>rw [h.no];rfl
 | true=>
  obtain ⟨m,hm,rfl⟩:=h.yes
  rw [hm,aW,hs];simp
theorem Num.bit {l1 l2:List UInt8} {a n1 n2 sz:Int} {b1 b2 pt:Bool} (h1:Num l1 n1 b1) (h2:Num l2 n2 b2) (hs:zbG a=sz) :
  aB a pt (zaH l1) (zaH l2)=if pt=true∧b2=true∧n2≤7∧b1=true∧8*n1+n2 < sz then some (8*n1+n2) else none:=by
 unfold aB
 cases pt with
 | false=>simp
 | true=>
  cases b2 with
  | false=>rw [h2.no];simp
  | true=>
   obtain ⟨m2,hm2,rfl⟩:=h2.yes
   cases b1 with
   | false=>rw [h1.no,hm2];simp
   | true=>
    obtain ⟨m1,hm1,rfl⟩:=h1.yes
    rw [hm1,hm2,hs];simp;split <;> split <;> first | rfl | omega
theorem Num.bit_no {l1 l2:List UInt8} {a n2:Int} {b2 pt:Bool} (h2:Num l2 n2 b2) (hs:pt=false∨b2=false∨7 < n2) :
  aB a pt (zaH l1) (zaH l2)=none:=by
 unfold aB
 cases pt with
 | false=>simp
 | true=>
  cases b2 with
  | false=>rw [h2.no];simp
  | true=>
   obtain ⟨m2,hm2,rfl⟩:=h2.yes
   rw [hm2]
   cases zaH l1 with
   | none=>rfl
   | some m1=>simp at hs;simp;omega
theorem zbX {l:List UInt8} {k:Nat} (h:k < 6) (hp:Lib.hasPrefix l (zaR (1+(k:Int)))=true) (hf:aFrom l (6 - k) k=aParse l)
  (ha:aAt (1+(k:Int)) (Lib.trimPrefix l (zaR (1+(k:Int))))=none):aParse l=(0,0,100):=by
 rw [← hf,zf6 h hp,ha]
theorem zeX {l:List UInt8} {k:Nat} {n:Int} (h:k < 6) (hp:Lib.hasPrefix l (zaR (1+(k:Int)))=true) (hf:aFrom l (6 - k) k=aParse l)
  (ha:aAt (1+(k:Int)) (Lib.trimPrefix l (zaR (1+(k:Int))))=some n):aParse l=(1+(k:Int),n,0):=by
 rw [← hf,zf6 h hp,ha]
theorem zm7 (l p:List UInt8):(Lib.cut l p).1.length≤l.length∧(Lib.cut l p).2.1.length≤l.length:=by
 unfold Lib.cut
 split
 ·exact ⟨List.length_take_le' _ _,by simp⟩
 ·exact ⟨Nat.le_refl _,by simp⟩
def Cut (l p c1 c2:List UInt8) (pt:Bool):Prop:=Lib.cut l p=(c1,c2,pt)
theorem Cut.short {l p c1 c2:List UInt8} {pt:Bool} (h:Cut l p c1 c2 pt) {n:Nat} (hl:l.length≤n):(⟨c1.toArray⟩:ByteArray).size≤n∧(⟨c2.toArray⟩:ByteArray).size≤n:=by
 have:=zm7 l p
 rw [show Lib.cut l p=_ from h] at this
 simp only at this
 exact ⟨by show c1.toArray.size≤n;rw [List.size_toArray];omega,by show c2.toArray.size≤n;rw [List.size_toArray];omega⟩
theorem Cut.at {l c1 c2:List UInt8} {a:Int} {pt:Bool} (h:Cut l [46] c1 c2 pt) (hb:aBit a=true):aAt a l=aB a pt (zaH c1) (zaH c2):=by
 rw [zlU hb,h]
def zjd (a off:Int):List UInt8:=
 if off < 0∨zbG a≤off then [] else if aBit a then zaR a++dd (off / 8).toNat++[46]++dd (off % 8).toNat else zaR a++dd off.toNat
theorem zdq (l:List UInt8):(⟨l.toArray⟩:ByteArray).size=l.length:=by simp [ByteArray.size]
theorem zhR (l p:List UInt8):(Lib.trimPrefix l p).length≤l.length:=by
 unfold Lib.trimPrefix;split <;> simp
theorem zi2 {s:ByteArray} {p:List UInt8} (hs:s.size < 4294967281):(⟨(Lib.trimPrefix s.data.toList p).toArray⟩:ByteArray).size≤281474976710656:=by
 rw [zdq];have:=zhR s.data.toList p;have h:s.data.toList.length=s.size:=rfl;omega
theorem zhI {s:ByteArray} {p:List UInt8} (hs:s.size < 4294967281):(⟨(Lib.trimPrefix s.data.toList p).toArray⟩:ByteArray).size < 4294967281:=by
 rw [zdq];have:=zhR s.data.toList p;have h:s.data.toList.length=s.size:=rfl;omega
end Go.Proofs.YtdpkjpjkdmkkpaaGreatDoor.Ad
