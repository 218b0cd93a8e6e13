/- What follows a token's text with a blank, or with a comment, does not touch how the token is read. -/
import Derived.Test.YtdpkjpjkdmkkpaaGreatDoorMC
namespace Go.Proofs.YtdpkjpjkdmkkpaaGreatDoor
open Ad Lx
def znP (d:UInt8):Bool:=d.toNat==32 || d.toNat==9 || d.toNat==13 || d.toNat==10 || d.toNat==40
def Stop (c:List UInt8):Prop:=∀ d t,c=d::t→znP d=true
theorem zjt {x:List UInt8} {z:Nat} (h:x[z]? = some 35):z < x.length:=by
 rcases Nat.lt_or_ge z x.length with h1 | h1
 ·exact h1
 ·rw [List.getElem?_eq_none h1] at h;cases h
theorem zhW {c:UInt8} (h:zbx c 10=true):dig c=true:=by
 cases hd:dig c with
 | true=>rfl
 | false=>
  exfalso
  unfold zbx valD at h
  rw [hd] at h
  simp only [Bool.and_eq_true,decide_eq_true_eq] at h
  by_cases h6:65≤c.toNat∧c.toNat≤70
  ·simp [h6] at h;omega
  ·simp [h6] at h
theorem zgl {t:List UInt8}:Lx.number (50::35::t)=if (zak t 2).2=0 then (0,0,120) else ((zak t 2).1,2+(zak t 2).2,0):=by
 have hd:zak (50::35::t) 10=(2,1):=by
  simp [zak,digF,zbx,show valD 50=2 by decide,show valD 35=-1 by decide];omega
 simp [Lx.number,hd]
theorem zgm {t:List UInt8}:Lx.number (56::35::t)=if (zak t 8).2=0 then (0,0,120) else ((zak t 8).1,2+(zak t 8).2,0):=by
 have hd:zak (56::35::t) 10=(8,1):=by
  simp [zak,digF,zbx,show valD 56=8 by decide,show valD 35=-1 by decide];omega
 simp [Lx.number,hd]
theorem zfw {t:List UInt8}:Lx.number (49::54::35::t)=if (zak t 16).2=0 then (0,0,120) else ((zak t 16).1,3+(zak t 16).2,0):=by
 have hd:zak (49::54::35::t) 10=(16,2):=by
  simp [zak,digF,zbx,show valD 49=1 by decide,show valD 54=6 by decide,show valD 35=-1 by decide];omega
 simp [Lx.number,hd]
theorem zgn {l:List UInt8} (h2:Lib.hasPrefix l [50,35]=false) (h8:Lib.hasPrefix l [56,35]=false) (h16:Lib.hasPrefix l [49,54,35]=false) :
  Lx.number l=if (zak l 10).2=0 then (0,0,120) else ((zak l 10).1,(zak l 10).2,0):=by
 unfold Lx.number
 simp only
 by_cases h0:(zak l 10).2=0
 ·rw [if_pos h0,if_pos h0]
 ·rw [if_neg h0,if_neg h0,if_neg]
  rintro ⟨h35,ht⟩
  have hlt:=zjt h35
  have hsplit:l=l.take (zak l 10).2++35::l.drop ((zak l 10).2+1):=by
   have h1:=(List.take_append_drop (zak l 10).2 l).symm
   rw [List.drop_eq_getElem_cons hlt] at h1
   rw [List.getElem?_eq_getElem hlt] at h35
   rw [Option.some.inj h35] at h1
   exact h1
  rcases ht with ht | ht | ht
  ·rw [ht] at hsplit;rw [hsplit] at h2;simp [Lib.hasPrefix,List.isPrefixOf] at h2
  ·rw [ht] at hsplit;rw [hsplit] at h8;simp [Lib.hasPrefix,List.isPrefixOf] at h8
  ·rw [ht] at hsplit;rw [hsplit] at h16;simp [Lib.hasPrefix,List.isPrefixOf] at h16
def zjb (l:List UInt8):Nat→List Tok→Prop
 | _,[]=>False
 | a,[e]=>e=⟨0,0,0,[],(l.length:Nat)⟩∧a≤l.length
 | a,t::t'::r=>∃ (a' z:Nat) (x:Tok),a≤a'∧a' < l.length∧t={ x with at_:=(a':Nat) }∧zdk (l.drop a')=(x,z,0)∧(∃ c u,l.drop a'=c::u∧zbk false c=false)∧Lib.hasPrefix (l.drop a') [40,42]=false∧a'+z≤l.length∧zjb l (a'+z) (t'::r)
theorem zjb.ne {l:List UInt8} {a:Nat} {r:List Tok} (h:zjb l a r):r≠[]:=by
 rintro rfl;exact h
theorem zjb.next {l:List UInt8} {a:Nat} {t:Tok} {r:List Tok} (h:zjb l a (t::r)):∃ n:Nat,t.at_=(n:Int)∧a≤n∧n≤l.length:=by
 cases r with
 | nil=>exact ⟨l.length,by rw [h.1],h.2,Nat.le_refl _⟩
 | cons t' r=>
  obtain ⟨a',z,x,h1,h2,h3,_⟩:=h
  exact ⟨a',by rw [h3],h1,by omega⟩
def cAt (l:List UInt8) (i:Nat):UInt8:=l.getD i 0
def zcj (l:List UInt8) (p:Nat):Int:=
 if (cAt l p).toNat=100 then 0 else if (cAt l p).toNat=104 then 1
 else if (cAt l p).toNat=109∧(cAt l (p+1)).toNat=115 then 4 else if (cAt l p).toNat=109 then 2
 else if (cAt l p).toNat=115 then 3 else -1
def zgz (n m:Int) (u:Int):Int:=min (IntKind.i64.wrap (n+min (IntKind.i64.wrap (m*ze9 u.toNat)) 1099511627776)) 1099511627776
def zaM (l:List UInt8):Nat→Nat→Int→Int→Bool→Nat × Int × Bool
 | 0,a,n,_,b=>(a,n,b)
 | f+1,a,n,last,b=>
  if dig (cAt l a)=true then
   let d:=zak (l.drop a) 10
   let u:=zcj l (a+d.2)
   if u≤last then (a,n,b)
   else zaM l f (a+d.2+(if u=4 then 2 else 1)) (zgz n d.1 u) u true
  else (a,n,b)
def zcc (t:Nat × Int × Bool) (n:Int):Tok × Nat × Int:=
 if t.2.2=false then (tok0,0,120)
 else if n < -2147483648∨2147483647 < n then (tok0,0,163) else (⟨4,11,n,[],0⟩,t.1,0)
def zbt (l:List UInt8) (a:Nat):Tok × Nat × Int:=
 if (cAt l a).toNat=45 then zcc (zaM l 6 (a+1) 0 (-1) false) (IntKind.i64.wrap (-(zaM l 6 (a+1) 0 (-1) false).2.1))
 else zcc (zaM l 6 a 0 (-1) false) (zaM l 6 a 0 (-1) false).2.1
def zbK (l:List UInt8):Tok × Nat × Int:=
 let z:=span zbi l
 let x:=mkS (l.take z)
 let k:=kindOf x
 if l[z]? = some 35∧(k≠0∨(x.toList==[84])=true) then
  if k=11∨k=0 then zbt l (z+1) else zaL l (z+1) k
 else za7 x z
def zbZ (l:List UInt8):Tok × Nat × Int:=match l with
 | []=>(tok0,0,0)
 | c::t=>if c.toNat≠10∧lett c=true then zbK (c::t) else zdk (c::t)
def rT (il:Bool) (l:List UInt8):Nat→Nat→List Tok→Except (Nat × Int) (List Tok)
 | 0,a,_=>.error (a,0)
 | f+1,a,out=>match l.drop a with
  | []=>.ok (out++[⟨0,0,0,[],l.length⟩])
  | c::t=>
   if zbk il c=true then rT il l f (a+1) out
   else if c.toNat=10 then rT il l f (a+1) (out++[⟨7,0,0,[10],a⟩])
   else if Lib.hasPrefix (c::t) [40,42]=true then
    if Lib.index ((c::t).drop 2) [42,41] < 0 then .error (a,120)
    else rT il l f (a+((Lib.index ((c::t).drop 2) [42,41]).toNat+4)) out
   else
    let r:=zbZ (c::t)
    if r.2.2≠0 then .error (a,r.2.2) else rT il l f (a+r.2.1) (out++[{ r.1 with at_:=a }])
def zaP (l:List UInt8) (il:Bool):Except (Nat × Int) (List Tok):=
 if 65536 < l.length then .error (65536,121) else rT il l (l.length+1) 0 []
theorem zbu (l:List UInt8) (a i:Nat):cAt (l.drop a) i=cAt l (a+i):=by
 unfold cAt
 rw [List.getD_eq_getElem?_getD,List.getD_eq_getElem?_getD,List.getElem?_drop]
theorem pre1 (l:List UInt8) (p:Nat) (k:UInt8) (hk:k≠0):Lib.hasPrefix (l.drop p) [k]=true↔cAt l p=k:=by
 unfold cAt
 rw [List.getD_eq_getElem?_getD]
 rcases Nat.lt_or_ge p l.length with h | h
 ·rw [List.drop_eq_getElem_cons h,List.getElem?_eq_getElem h]
  simp [Lib.hasPrefix,List.isPrefixOf]
  exact eq_comm
 ·rw [List.drop_of_length_le h,List.getElem?_eq_none h]
  simp [Lib.hasPrefix,List.isPrefixOf]
  exact fun h=>hk h.symm
theorem pre2 (l:List UInt8) (p:Nat) (k m:UInt8) (hk:k≠0) (hm:m≠0):Lib.hasPrefix (l.drop p) [k,m]=true↔cAt l p=k∧cAt l (p+1)=m:=by
 unfold cAt
 rw [List.getD_eq_getElem?_getD,List.getD_eq_getElem?_getD]
 rcases Nat.lt_or_ge p l.length with h | h
 ·rw [List.drop_eq_getElem_cons h,List.getElem?_eq_getElem h]
  rcases Nat.lt_or_ge (p+1) l.length with h2 | h2
  ·rw [List.drop_eq_getElem_cons h2,List.getElem?_eq_getElem h2]
   simp [Lib.hasPrefix,List.isPrefixOf]
   exact ⟨fun h=>⟨h.1.symm,h.2.symm⟩,fun h=>⟨h.1.symm,h.2.symm⟩⟩
  ·rw [List.drop_of_length_le h2,List.getElem?_eq_none h2]
   simp [Lib.hasPrefix,List.isPrefixOf]
   exact fun _ h=>hm h.symm
 ·rw [List.drop_of_length_le h,List.getElem?_eq_none h]
  simp [Lib.hasPrefix,List.isPrefixOf]
  exact fun h=>absurd h.symm hk
theorem u8n (c k:UInt8):c.toNat=k.toNat↔c=k:=⟨fun h=>UInt8.toNat_inj.1 h,fun h=>by rw [h]⟩
theorem zeU (l:List UInt8) (a:Nat):((cAt l a).toNat=45)↔Lib.hasPrefix (l.drop a) [45]=true:=by
 rw [pre1 l a 45 (by decide)]
 exact u8n _ 45
end Go.Proofs.YtdpkjpjkdmkkpaaGreatDoor
