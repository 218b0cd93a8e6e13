/- The walks through package types: variable. -/
import Derived.Test.YtdpkjpjkdmkkpaaGreatDoorMV
set_option maxRecDepth 100000
set_option maxHeartbeats 16000000
namespace Go.Proofs.YtdpkjpjkdmkkpaaGreatDoor
open Ad Go.RowKit Lx Pa
def zcf (v:PVar) (area:Int):Int:=if v.init≠none∧(Ty.scalar v.kind=false∨area=1∨area=4∨Ty.first v.init v.kind=false) then 154 else 0
theorem zey (ss:List zad) (names addrs:List (List UInt8)) (v:PVar) :
  (v.name ∈ names∧Ty.varErr ss names addrs v=151) ∨
  (v.name ∉ names∧Ty.block v.name=true∧Ty.varErr ss names addrs v=151) ∨
  (v.name ∉ names∧Ty.block v.name=false∧(Ty.structOf ss v.name).isSome=true∧Ty.varErr ss names addrs v=151) ∨
  (v.name ∉ names∧Ty.block v.name=false∧(Ty.structOf ss v.name).isSome=false∧Ty.size ss v=0∧Ty.varErr ss names addrs v=152) ∨
  (v.name ∉ names∧Ty.block v.name=false∧(Ty.structOf ss v.name).isSome=false∧Ty.size ss v≠0∧v.addr≠[]∧Ty.place v=none∧Ty.varErr ss names addrs v=153) ∨
  (v.name ∉ names∧Ty.block v.name=false∧(Ty.structOf ss v.name).isSome=false∧Ty.size ss v≠0∧v.addr≠[]∧(∃ q,Ty.place v=some q)∧v.retain=true∧Ty.varErr ss names addrs v=153) ∨
  (v.name ∉ names∧Ty.block v.name=false∧(Ty.structOf ss v.name).isSome=false∧Ty.size ss v≠0∧v.addr≠[]∧(∃ q,Ty.place v=some q)∧v.retain=false∧v.addr ∈ addrs∧Ty.varErr ss names addrs v=151) ∨
  (v.name ∉ names∧Ty.block v.name=false∧(Ty.structOf ss v.name).isSome=false∧Ty.size ss v≠0∧v.addr≠[]∧v.retain=false∧v.addr ∉ addrs∧∃ q,Ty.place v=some q∧Ty.varErr ss names addrs v=zcf v q.1) ∨
  (v.name ∉ names∧Ty.block v.name=false∧(Ty.structOf ss v.name).isSome=false∧Ty.size ss v≠0∧v.addr=[]∧Ty.varErr ss names addrs v=zcf v 0):=by
 unfold Ty.varErr zcf
 by_cases h1:v.name ∈ names
 ·exact .inl ⟨h1,by rw [if_pos (.inl h1)]⟩
 refine .inr ?_
 cases h2:Ty.block v.name with
 | true=>exact .inl ⟨h1,rfl,by rw [if_pos (.inr (.inl rfl))]⟩
 | false=>
  refine .inr ?_
  cases h3:(Ty.structOf ss v.name).isSome with
  | true=>exact .inl ⟨h1,rfl,rfl,by rw [if_pos (.inr (.inr rfl))]⟩
  | false=>
   have hA:¬ (v.name ∈ names∨false=true∨false=true):=by rintro (h | h | h);exact h1 h;cases h;cases h
   rw [if_neg hA]
   refine .inr ?_
   by_cases h4:Ty.size ss v=0
   ·exact .inl ⟨h1,rfl,rfl,h4,by rw [if_pos h4]⟩
   rw [if_neg h4]
   refine .inr ?_
   by_cases h5:v.addr=[]
   ·refine .inr (.inr (.inr (.inr ⟨h1,rfl,rfl,h4,h5,?_⟩)))
    dsimp only
    rw [if_neg (by rintro ⟨h,_⟩;exact h h5),if_neg (by rintro ⟨h,_⟩;exact h h5),if_pos h5]
   ·cases h6:Ty.place v with
    | none=>exact .inl ⟨h1,rfl,rfl,h4,h5,rfl,by dsimp only;rw [if_pos ⟨h5,.inl rfl⟩]⟩
    | some q=>
     refine .inr ?_
     cases h7:v.retain with
     | true=>exact .inl ⟨h1,rfl,rfl,h4,h5,⟨q,rfl⟩,rfl,by dsimp only;rw [if_pos ⟨h5,.inr rfl⟩]⟩
     | false=>
      refine .inr ?_
      have hB:¬ (v.addr≠[]∧(some q=none∨false=true)):=by rintro ⟨_,h | h⟩;cases h;cases h
      by_cases h8:v.addr ∈ addrs
      ·exact .inl ⟨h1,rfl,rfl,h4,h5,⟨q,rfl⟩,rfl,h8,by dsimp only;rw [if_neg hB,if_pos ⟨h5,h8⟩]⟩
      ·refine .inr (.inl ⟨h1,rfl,rfl,h4,h5,rfl,h8,q,rfl,?_⟩)
       dsimp only
       rw [if_neg hB,if_neg (by rintro ⟨_,h⟩;exact h8 h),if_neg h5]
       rfl
theorem zcE (v:PVar) (area:Int) :
  (v.init=none∧zcf v area=0)∨(v.init≠none∧Ty.scalar v.kind=false∧zcf v area=154)∨(v.init≠none∧Ty.scalar v.kind=true∧area=1∧zcf v area=154) ∨
  (v.init≠none∧Ty.scalar v.kind=true∧area=4∧zcf v area=154)∨(v.init≠none∧Ty.scalar v.kind=true∧area≠1∧area≠4∧Ty.first v.init v.kind=false∧zcf v area=154) ∨
  (v.init≠none∧Ty.scalar v.kind=true∧area≠1∧area≠4∧Ty.first v.init v.kind=true∧zcf v area=0):=by
 unfold zcf
 by_cases h1:v.init=none
 ·exact .inl ⟨h1,by rw [if_neg (by rintro ⟨h,_⟩;exact h h1)]⟩
 refine .inr ?_
 cases h2:Ty.scalar v.kind with
 | false=>exact .inl ⟨h1,rfl,by rw [if_pos ⟨h1,.inl rfl⟩]⟩
 | true=>
  refine .inr ?_
  by_cases h3:area=1
  ·exact .inl ⟨h1,rfl,h3,by rw [if_pos ⟨h1,.inr (.inl h3)⟩]⟩
  refine .inr ?_
  by_cases h4:area=4
  ·exact .inl ⟨h1,rfl,h4,by rw [if_pos ⟨h1,.inr (.inr (.inl h4))⟩]⟩
  refine .inr ?_
  cases h5:Ty.first v.init v.kind with
  | false=>exact .inl ⟨h1,rfl,h3,h4,rfl,by rw [if_pos ⟨h1,.inr (.inr (.inr rfl))⟩]⟩
  | true=>exact .inr ⟨h1,rfl,h3,h4,rfl,by rw [if_neg (by rintro ⟨_,h | h | h | h⟩;cases h;exact h3 h;exact h4 h;cases h)]⟩
theorem zjv {w:World} {P:Nat→Prop} {o:Option Ini} {a:Option Addr} {n c:Nat} (h:IniV w P o (.slice a n c)):n=(if o=none then 0 else 1):=by
 rcases zdx h with ⟨rfl,a2,c2,h2⟩ | ⟨i,g,c2,row,rfl,h2,_⟩
 ·injection h2
 ·injection h2
structure zbN (w:World) (nbk abk:Nat) (names addrs:List (List UInt8)):Prop where
 nm:MapS w nbk names
 ad:MapS w abk addrs
theorem zbN.below {w w':World} {nbk abk:Nat} {names addrs:List (List UInt8)} (h:zbN w nbk abk names addrs) (hb:Below w.heap.size w w'):zbN w' nbk abk names addrs:=⟨h.nm.below hb,h.ad.below hb⟩
theorem zgZ {d:zaQ} {il:Bool} {row vrow:List Value} {P:Nat→Prop} {v:PVar} {names addrs:List (List UInt8)} {nbk abk:Nat} {r:Int} (hr:Ty.varErr d.structs names addrs v=r) (w:World) (he:LEnv w) (hd:zaF w P il d row) (hv:za0 w P v vrow)
  (hn:d.structs.length≤100000) (hf:∀ s ∈ d.structs,s.fields.length≤100000) (hvo:zdT v) (hm:zbN w nbk abk names addrs) (_hnl:names.length≤1000) (_hal:addrs.length≤1000) :
  Calls Tryz.prog 36 #[.agg row.toArray,.agg vrow.toArray,.map (some nbk),.map (some abk)] w fun e w'=>e=.returned (.int .i64 r)∧Below w.heap.size w w':=by
 have hways:=zey d.structs names addrs v
 rw [hr] at hways
 have HW:=hd_ hways
 have HE:=hd_ he
 have HD:=hd_ hd
 have HV:=hd_ hv
 have HM:=hd_ hm
 have HSZ:=hd_ (fun W (hW:LEnv W) (hp:zaF W P il d row)=>ziq (v:=v) (r:=Ty.size d.structs v) rfl W hW hp hn hf hvo.lo hvo.hi)
 have HPL:=hd_ (fun W (hW:Env W) (hp:za0 W P v vrow)=>zgX (r:=Ty.place v) rfl hvo.addr W hW hp)
 have HIO:=hd_ hvo.ini
 obtain ⟨vs,vv,bda,bdn,bdc,lna,lnn,lnc,rfl,hss,hvv⟩:=hd
 obtain ⟨va,vn,vc,rfl⟩:=hss.shape
 obtain ⟨ua,un,uc,rfl⟩:=hvv.shape
 obtain ⟨nb,hnb⟩:∃ nb:ByteArray,(⟨d.name.toArray⟩:ByteArray)=nb:=⟨_,rfl⟩
 obtain ⟨iv,rfl,hini⟩:=hv
 obtain ⟨ia,iln,ic,rfl⟩:=hini.slice
 have hil:=zjv hini
 have HINI:=hd_ hini
 obtain ⟨vnm,kind,lo,hi,el,tn,re,ad,ini,at9⟩:=v
 simp only at hil
 have HIL:=hd_ hil
 clear hil
 obtain ⟨VN,hVN⟩:∃ b:ByteArray,(⟨vnm.toArray⟩:ByteArray)=b:=⟨_,rfl⟩
 obtain ⟨TN,hTN⟩:∃ b:ByteArray,(⟨tn.toArray⟩:ByteArray)=b:=⟨_,rfl⟩
 obtain ⟨AD,hAD⟩:∃ b:ByteArray,(⟨ad.toArray⟩:ByteArray)=b:=⟨_,rfl⟩
 have hVl:VN.data.toList=vnm:=by rw [← hVN]
 have hAl:AD.data.toList=ad:=by rw [← hAD]
 have hVs:VN.size≤100000:=by have h1:=hvo.name;simp only at h1;rw [← hVl] at h1;exact h1
 have hAs:AD.size≤100000:=by have h1:=hvo.addr;simp only at h1;rw [← hAl] at h1;exact h1
 simp only [typC] at HSZ
 simp only [hnb,hVN,hTN,hAD] at HSZ HPL HD HV ⊢
 obtain ⟨so,hso⟩:∃ so,Ty.structOf d.structs vnm=so:=⟨_,rfl⟩
 have HSO:=hd_ (fun W (hW:zaF W P il d [.string nb,.slice va vn vc,.slice ua un uc,.bool il,.slice bda bdn bdc,.slice lna lnn lnc])=>zbM (nm:=VN) (r:=so) (by rw [hVl];exact hso) W hW hn)
 obtain ⟨bl,hbl⟩:∃ bl,Ty.block vnm=bl:=⟨_,rfl⟩
 have HBL:=hd_ (fun W=>zcW (x:=VN) (r:=bl) (by rw [hVl];exact hbl) W)
 have HSC:=hd_ (fun W=>zeo kind W)
 obtain ⟨sz,hsz⟩:∃ n,Ty.size d.structs ⟨vnm,kind,lo,hi,el,tn,re,ad,ini,at9⟩=n:=⟨_,rfl⟩
 obtain ⟨pl,hpl⟩:∃ n,Ty.place ⟨vnm,kind,lo,hi,el,tn,re,ad,ini,at9⟩=n:=⟨_,rfl⟩
 have HWW:=HW.out
 simp only [hso,hbl,hsz,hpl] at HWW
 rw [hsz] at HSZ
 rw [hpl] at HPL
 simp only at HIO HINI
 have HHV:=hd_ hVl
 have HHA:=hd_ hAl
 obtain ⟨iss,hiss⟩:∃ b,so.isSome=b:=⟨_,rfl⟩
 rw [hiss] at HWW HSO
 have hadn:(ad=[]∧AD.toList=[])∨(ad≠[]∧AD.toList≠[]):=by
  have h1:AD.toList=ad:=by rw [ByteArray.toList_eq,hAl]
  rw [h1]
  by_cases h2:ad=[]
  ·exact .inl ⟨h2,h2⟩
  ·exact .inr ⟨h2,h2⟩
 clear hr hways HW he hm hss hvv hnb hini hVN hTN hAD hVl hAl hso hbl hsz hpl hiss hvo hf
 go_enter Tryz.func36,Tryz.ntmps36
 have HB0:Hid (Below w.heap.size w ((w.alloc (.cells #[.string nb,.slice va vn vc,.slice ua un uc,.bool il,.slice bda bdn bdc,.slice lna lnn lnc] 28)).alloc (.cells #[.string VN,.int .i64 kind,.int .i64 lo,.int .i64 hi,.int .i64 el,.string TN,.bool re,.string AD,.slice ia iln ic,.int .i64 at9] 54))):=hd_ ((br_.alloc nl_ _).alloc (by simp) _)
 go_wp2_with fail
 refine (HSO.out _ (HD.out.keeps (zai HB0.out))).mono ?_
 rintro e w1 ⟨sv,rfl,hsv,hb1⟩
 obtain ⟨snm,sa,sn,sc,sta,rfl⟩:∃ snm sa sn sc sta,sv=.agg #[.string snm,.slice sa sn sc,.int .i64 sta]:=by
  cases so with
  | none=>exact ⟨_,_,_,_,_,hsv⟩
  | some s=>
   obtain ⟨a1,a2,a3,a4,a5⟩:=hsv.len
   exact ⟨a1,a2,_,a3,a4,a5⟩
 have B1:Hid (Below w.heap.size w w1):=hd_ (zal HB0.out hb1 (by simp;omega))
 have P1:=hd_ (((Bl.new _ _ _).alloc _).below hb1)
 have V1:=hd_ ((Bl.newAt (X:=w.heap.size+1) (w.alloc (.cells #[.string nb,.slice va vn vc,.slice ua un uc,.bool il,.slice bda bdn bdc,.slice lna lnn lnc] 28)) (vs:=#[.string VN,.int .i64 kind,.int .i64 lo,.int .i64 hi,.int .i64 el,.string TN,.bool re,.string AD,.slice ia iln ic,.int .i64 at9]) (T:=54) (by simp)).below hb1)
 have M1:=hd_ (HM.out.below B1.out)
 clear hsv hb1 HB0 HSO
 obtain ⟨x0,-,-,-,-,-,-,-,-,-⟩:=V1.out.cells10
 have kx:=V1.out.lt
 go_upto_region 2 with fail
 refine zaa (P:=Code.wp _ _ _ _) (F:=fun W=>Bl W w.heap.size #[.string nb,.slice va vn vc,.slice ua un uc,.bool il,.slice bda bdn bdc,.slice lna lnn lnc] 28∧Bl W (w.heap.size+1) #[.string VN,.int .i64 kind,.int .i64 lo,.int .i64 hi,.int .i64 el,.string TN,.bool re,.string AD,.slice ia iln ic,.int .i64 at9] 54∧zbN W nbk abk names addrs∧Below w.heap.size w W)
  ⟨P1.out.alloc _,V1.out.alloc _,M1.out.below (br_.alloc nl_ _),B1.out.alloc B1.out.size _⟩ ?_
 clear x0 kx P1 V1 M1 B1
 intro w2 ⟨P2,V2,M2,B2⟩
 obtain ⟨q0,q1,q2,q3,q4,q5⟩:=P2.cells6
 obtain ⟨x0,x1,x2,x3,x4,x5,x6,x7,x8,x9⟩:=V2.cells10
 have kp:=P2.lt
 have kx:=V2.lt
 obtain ⟨c,hrun,c0,cl,ciff⟩:=M2.nm.look VN (by unfold maxLen;omega)
 rw [HHV.out] at ciff
 have P2:=hd_ P2
 have V2:=hd_ V2
 have M2:=hd_ M2
 have B2:=hd_ B2
 rcases HWW with ⟨f1,f9⟩ | ⟨f1,f2,f9⟩ | ⟨f1,f2,f3,f9⟩ | ⟨f1,f2,f3,f4,f9⟩ | ⟨f1,f2,f3,f4,f5,f6,f9⟩ | ⟨f1,f2,f3,f4,f5,⟨qq,f6⟩,f7,f9⟩ | ⟨f1,f2,f3,f4,f5,⟨qq,f6⟩,f7,f8,f9⟩ | ⟨f1,f2,f3,f4,f5,f7,f8,qq,f6,f9⟩ | ⟨f1,f2,f3,f4,f5,f9⟩
 ·have hc:0 < c:=ciff.2 f1
  have H9:=hd_ f9
  clear f1 f9 ciff
  go_wp2_with (first | (go_at_call 19;refine (HBL.out _).mono ?_;rintro e w9 ⟨rfl,rfl⟩) | (go_at_call 37;refine (HSZ.out w2 (HE.out.below B2.out) (HD.out.keeps (zai B2.out))).mono ?_;rintro e w3 ⟨rfl,hb⟩;have B3:=hd_ (zah B2.out hb);have V3:=hd_ (V2.out.below hb);have M3:=hd_ (M2.out.below hb);obtain ⟨y0,y1,y2,y3,y4,y5,y6,y7,y8,y9⟩:=V3.out.cells10;have ky:=V3.out.lt;clear hb))
  go_ret
  exact ⟨zaf H9.out.symm,B2.out⟩
 ·have hc:¬ 0 < c:=fun h=>f1 (ciff.1 h)
  subst f2
  have H9:=hd_ f9
  clear f1 f9 ciff
  go_wp2_with (first | (go_at_call 19;refine (HBL.out _).mono ?_;rintro e w9 ⟨rfl,rfl⟩) | (go_at_call 37;refine (HSZ.out w2 (HE.out.below B2.out) (HD.out.keeps (zai B2.out))).mono ?_;rintro e w3 ⟨rfl,hb⟩;have B3:=hd_ (zah B2.out hb);have V3:=hd_ (V2.out.below hb);have M3:=hd_ (M2.out.below hb);obtain ⟨y0,y1,y2,y3,y4,y5,y6,y7,y8,y9⟩:=V3.out.cells10;have ky:=V3.out.lt;clear hb))
  go_ret
  exact ⟨zaf H9.out.symm,B2.out⟩
 ·have hc:¬ 0 < c:=fun h=>f1 (ciff.1 h)
  subst f2 f3
  have H9:=hd_ f9
  clear f1 f9 ciff
  go_wp2_with (first | (go_at_call 19;refine (HBL.out _).mono ?_;rintro e w9 ⟨rfl,rfl⟩) | (go_at_call 37;refine (HSZ.out w2 (HE.out.below B2.out) (HD.out.keeps (zai B2.out))).mono ?_;rintro e w3 ⟨rfl,hb⟩;have B3:=hd_ (zah B2.out hb);have V3:=hd_ (V2.out.below hb);have M3:=hd_ (M2.out.below hb);obtain ⟨y0,y1,y2,y3,y4,y5,y6,y7,y8,y9⟩:=V3.out.cells10;have ky:=V3.out.lt;clear hb))
  go_ret
  exact ⟨zaf H9.out.symm,B2.out⟩
 ·have hc:¬ 0 < c:=fun h=>f1 (ciff.1 h)
  subst f2 f3
  have e4:(sz==0)=true:=by simpa using f4
  have H9:=hd_ f9
  clear f1 f4 f9 ciff
  go_wp2_with (first | (go_at_call 19;refine (HBL.out _).mono ?_;rintro e w9 ⟨rfl,rfl⟩) | (go_at_call 37;refine (HSZ.out w2 (HE.out.below B2.out) (HD.out.keeps (zai B2.out))).mono ?_;rintro e w3 ⟨rfl,hb⟩;have B3:=hd_ (zah B2.out hb);have V3:=hd_ (V2.out.below hb);have M3:=hd_ (M2.out.below hb);obtain ⟨y0,y1,y2,y3,y4,y5,y6,y7,y8,y9⟩:=V3.out.cells10;have ky:=V3.out.lt;clear hb))
  go_ret
  exact ⟨zaf H9.out.symm,B3.out⟩
 ·have hc:¬ 0 < c:=fun h=>f1 (ciff.1 h)
  subst f2 f3
  have e4:(sz==0)=false:=by simpa using f4
  have e5:AD.toList.isEmpty=false:=by rcases hadn with ⟨h,_⟩ | ⟨_,h⟩;exact absurd h f5;simpa using h
  subst f6
  have H9:=hd_ f9
  clear f1 f4 f5 f9 ciff hadn
  go_wp2_with (first | (go_at_call 19;refine (HBL.out _).mono ?_;rintro e w9 ⟨rfl,rfl⟩) | (go_at_call 37;refine (HSZ.out w2 (HE.out.below B2.out) (HD.out.keeps (zai B2.out))).mono ?_;rintro e w3 ⟨rfl,hb⟩;have B3:=hd_ (zah B2.out hb);have V3:=hd_ (V2.out.below hb);have M3:=hd_ (M2.out.below hb);obtain ⟨y0,y1,y2,y3,y4,y5,y6,y7,y8,y9⟩:=V3.out.cells10;have ky:=V3.out.lt;clear hb) | (go_at_call 38;refine (HPL.out w3 (HE.out.below B3.out).env (HV.out.keeps (zai B3.out))).mono ?_;rintro e w4 ⟨pa,pn,rfl,hpv,hb⟩;have B4:=hd_ (zah B3.out hb);have V4:=hd_ (V3.out.below hb);have M4:=hd_ (M3.out.below hb);obtain ⟨u0,u1,u2,u3,u4,u5,u6,u7,u8,u9⟩:=V4.out.cells10;have ku:=V4.out.lt;have HPV:=hd_ hpv;clear hb hpv))
  go_ret
  exact ⟨zaf H9.out.symm,B4.out⟩
 ·have hc:¬ 0 < c:=fun h=>f1 (ciff.1 h)
  subst f2 f3
  have e4:(sz==0)=false:=by simpa using f4
  have e5:AD.toList.isEmpty=false:=by rcases hadn with ⟨h,_⟩ | ⟨_,h⟩;exact absurd h f5;simpa using h
  subst f6 f7
  have H9:=hd_ f9
  clear f1 f4 f5 f9 ciff hadn
  go_wp2_with (first | (go_at_call 19;refine (HBL.out _).mono ?_;rintro e w9 ⟨rfl,rfl⟩) | (go_at_call 37;refine (HSZ.out w2 (HE.out.below B2.out) (HD.out.keeps (zai B2.out))).mono ?_;rintro e w3 ⟨rfl,hb⟩;have B3:=hd_ (zah B2.out hb);have V3:=hd_ (V2.out.below hb);have M3:=hd_ (M2.out.below hb);obtain ⟨y0,y1,y2,y3,y4,y5,y6,y7,y8,y9⟩:=V3.out.cells10;have ky:=V3.out.lt;clear hb) | (go_at_call 38;refine (HPL.out w3 (HE.out.below B3.out).env (HV.out.keeps (zai B3.out))).mono ?_;rintro e w4 ⟨pa,pn,rfl,hpv,hb⟩;have B4:=hd_ (zah B3.out hb);have V4:=hd_ (V3.out.below hb);have M4:=hd_ (M3.out.below hb);obtain ⟨u0,u1,u2,u3,u4,u5,u6,u7,u8,u9⟩:=V4.out.cells10;have ku:=V4.out.lt;have HPV:=hd_ hpv;clear hb hpv))
  go_ret
  exact ⟨zaf H9.out.symm,B4.out⟩
 ·have hc:¬ 0 < c:=fun h=>f1 (ciff.1 h)
  subst f2 f3
  have e4:(sz==0)=false:=by simpa using f4
  have e5:AD.toList.isEmpty=false:=by rcases hadn with ⟨h,_⟩ | ⟨_,h⟩;exact absurd h f5;simpa using h
  subst f6 f7
  have H9:=hd_ f9
  have H8:=hd_ f8
  clear f1 f4 f5 f8 f9 ciff hadn
  go_upto_region 11 with (first | (go_at_call 19;refine (HBL.out _).mono ?_;rintro e w9 ⟨rfl,rfl⟩) | (go_at_call 37;refine (HSZ.out w2 (HE.out.below B2.out) (HD.out.keeps (zai B2.out))).mono ?_;rintro e w3 ⟨rfl,hb⟩;have B3:=hd_ (zah B2.out hb);have V3:=hd_ (V2.out.below hb);have M3:=hd_ (M2.out.below hb);obtain ⟨y0,y1,y2,y3,y4,y5,y6,y7,y8,y9⟩:=V3.out.cells10;have ky:=V3.out.lt;clear hb) | (go_at_call 38;refine (HPL.out w3 (HE.out.below B3.out).env (HV.out.keeps (zai B3.out))).mono ?_;rintro e w4 ⟨pa,pn,rfl,hpv,hb⟩;have B4:=hd_ (zah B3.out hb);have V4:=hd_ (V3.out.below hb);have M4:=hd_ (M3.out.below hb);obtain ⟨u0,u1,u2,u3,u4,u5,u6,u7,u8,u9⟩:=V4.out.cells10;have ku:=V4.out.lt;have HPV:=hd_ hpv;clear hb hpv))
  obtain ⟨c5,hrun5,c50,c5l,c5iff⟩:=M4.out.ad.look AD (by unfold maxLen;omega)
  rw [HHA.out] at c5iff
  have hc5:0 < c5:=c5iff.2 H8.out
  clear c5iff
  go_wp2
  go_ret
  exact ⟨zaf H9.out.symm,B4.out⟩
 ·have hc:¬ 0 < c:=fun h=>f1 (ciff.1 h)
  subst f2 f3
  have e4:(sz==0)=false:=by simpa using f4
  have e5:AD.toList.isEmpty=false:=by rcases hadn with ⟨h,_⟩ | ⟨_,h⟩;exact absurd h f5;simpa using h
  obtain ⟨qa,qb⟩:=qq
  subst f6
  simp only at f9
  have H9A:=hd_ f9
  have H8:=hd_ f8
  have H7:=hd_ f7
  subst f7
  clear f1 f4 f5 f8 f9 ciff hadn
  go_upto_region 11 with (first | (go_at_call 19;refine (HBL.out _).mono ?_;rintro e w9 ⟨rfl,rfl⟩) | (go_at_call 37;refine (HSZ.out w2 (HE.out.below B2.out) (HD.out.keeps (zai B2.out))).mono ?_;rintro e w3 ⟨rfl,hb⟩;have B3:=hd_ (zah B2.out hb);have V3:=hd_ (V2.out.below hb);have M3:=hd_ (M2.out.below hb);obtain ⟨y0,y1,y2,y3,y4,y5,y6,y7,y8,y9⟩:=V3.out.cells10;have ky:=V3.out.lt;clear hb) | (go_at_call 38;refine (HPL.out w3 (HE.out.below B3.out).env (HV.out.keeps (zai B3.out))).mono ?_;rintro e w4 ⟨pa,pn,rfl,hpv,hb⟩;have B4:=hd_ (zah B3.out hb);have V4:=hd_ (V3.out.below hb);have M4:=hd_ (M3.out.below hb);obtain ⟨u0,u1,u2,u3,u4,u5,u6,u7,u8,u9⟩:=V4.out.cells10;have ku:=V4.out.lt;have HPV:=hd_ hpv;clear hb hpv))
  obtain ⟨c5,hrun5,c50,c5l,c5iff⟩:=M4.out.ad.look AD (by unfold maxLen;omega)
  rw [HHA.out] at c5iff
  have hc5:¬ 0 < c5:=fun h=>H8.out (c5iff.1 h)
  clear c5iff
  go_upto_region 14 with fail
  have hq:=HPV.out _ rfl
  injection hq with h5 h6
  subst h5 h6
  rcases zcE ⟨vnm,kind,lo,hi,el,tn,false,ad,ini,at9⟩ pa with ⟨g1,g9⟩ | ⟨g1,g2,g9⟩ | ⟨g1,g2,g3,g9⟩ | ⟨g1,g2,g3,g9⟩ | ⟨g1,g2,g3,g4,g5,g9⟩ | ⟨g1,g2,g3,g4,g5,g9⟩
  ·rw [← H9A.out] at g9
   simp only at g1
   have hz:iln=0:=by rw [HIL.out,if_pos g1]
   subst hz
   have H9:=hd_ g9
   clear g9
   go_wp2_with (first | (go_at_call 66;refine (HSC.out w4).mono ?_;rintro e w5 ⟨rfl,hb⟩;have B5:=hd_ (zah B4.out hb);have V5:=hd_ (V4.out.below hb);obtain ⟨s0,s1,-,-,-,-,-,-,s8,-⟩:=V5.out.cells10;have ks:=V5.out.lt;clear hb) | (go_at_call 67;refine (HFI.out w5 (HINI.out.keeps (zai B5.out))).mono ?_;rintro e w6 ⟨rfl,hb⟩;have B6:=hd_ (zah B5.out hb);clear hb))
   go_ret
   exact ⟨zaf H9.out.symm,B4.out⟩
  ·rw [← H9A.out] at g9
   simp only at g1
   simp only at g2
   have hz:iln=1:=by rw [HIL.out,if_neg g1]
   subst hz
   have H9:=hd_ g9
   clear g9
   go_wp2_with (first | (go_at_call 66;refine (HSC.out w4).mono ?_;rintro e w5 ⟨rfl,hb⟩;have B5:=hd_ (zah B4.out hb);have V5:=hd_ (V4.out.below hb);obtain ⟨s0,s1,-,-,-,-,-,-,s8,-⟩:=V5.out.cells10;have ks:=V5.out.lt;clear hb) | (go_at_call 67;refine (HFI.out w5 (HINI.out.keeps (zai B5.out))).mono ?_;rintro e w6 ⟨rfl,hb⟩;have B6:=hd_ (zah B5.out hb);clear hb))
   go_ret
   exact ⟨zaf H9.out.symm,B5.out⟩
  ·rw [← H9A.out] at g9
   simp only at g1
   simp only at g2
   have e6:(pa==1)=true:=by simpa using g3
   have hz:iln=1:=by rw [HIL.out,if_neg g1]
   subst hz
   have H9:=hd_ g9
   clear g9
   go_wp2_with (first | (go_at_call 66;refine (HSC.out w4).mono ?_;rintro e w5 ⟨rfl,hb⟩;have B5:=hd_ (zah B4.out hb);have V5:=hd_ (V4.out.below hb);obtain ⟨s0,s1,-,-,-,-,-,-,s8,-⟩:=V5.out.cells10;have ks:=V5.out.lt;clear hb) | (go_at_call 67;refine (HFI.out w5 (HINI.out.keeps (zai B5.out))).mono ?_;rintro e w6 ⟨rfl,hb⟩;have B6:=hd_ (zah B5.out hb);clear hb))
   go_ret
   exact ⟨zaf H9.out.symm,B5.out⟩
  ·rw [← H9A.out] at g9
   simp only at g1
   simp only at g2
   have e7:(pa==4)=true:=by simpa using g3
   have e6:(pa==1)=false:=by simp;omega
   have hz:iln=1:=by rw [HIL.out,if_neg g1]
   subst hz
   have H9:=hd_ g9
   clear g9
   go_wp2_with (first | (go_at_call 66;refine (HSC.out w4).mono ?_;rintro e w5 ⟨rfl,hb⟩;have B5:=hd_ (zah B4.out hb);have V5:=hd_ (V4.out.below hb);obtain ⟨s0,s1,-,-,-,-,-,-,s8,-⟩:=V5.out.cells10;have ks:=V5.out.lt;clear hb) | (go_at_call 67;refine (HFI.out w5 (HINI.out.keeps (zai B5.out))).mono ?_;rintro e w6 ⟨rfl,hb⟩;have B6:=hd_ (zah B5.out hb);clear hb))
   go_ret
   exact ⟨zaf H9.out.symm,B5.out⟩
  ·rw [← H9A.out] at g9
   simp only at g1
   simp only at g2 g5
   have hkk:1≤kind∧kind≤11:=by have h1:=g2;unfold Ty.scalar at h1;simpa using h1
   obtain ⟨kn,rfl⟩:∃ kn:Nat,kind=kn:=⟨kind.toNat,by omega⟩
   have HFI:=hd_ (fun W (hW:IniV W P ini (.slice ia iln ic))=>zcn g5 (by omega) (by omega) HIO.out W hW)
   have e6:(pa==1)=false:=by simpa using g3
   have e7:(pa==4)=false:=by simpa using g4
   have hz:iln=1:=by rw [HIL.out,if_neg g1]
   subst hz
   have H9:=hd_ g9
   clear g9
   go_wp2_with (first | (go_at_call 66;refine (HSC.out w4).mono ?_;rintro e w5 ⟨rfl,hb⟩;have B5:=hd_ (zah B4.out hb);have V5:=hd_ (V4.out.below hb);obtain ⟨s0,s1,-,-,-,-,-,-,s8,-⟩:=V5.out.cells10;have ks:=V5.out.lt;clear hb) | (go_at_call 67;refine (HFI.out w5 (HINI.out.keeps (zai B5.out))).mono ?_;rintro e w6 ⟨rfl,hb⟩;have B6:=hd_ (zah B5.out hb);clear hb))
   go_ret
   exact ⟨zaf H9.out.symm,B6.out⟩
  ·rw [← H9A.out] at g9
   simp only at g1
   simp only at g2 g5
   have hkk:1≤kind∧kind≤11:=by have h1:=g2;unfold Ty.scalar at h1;simpa using h1
   obtain ⟨kn,rfl⟩:∃ kn:Nat,kind=kn:=⟨kind.toNat,by omega⟩
   have HFI:=hd_ (fun W (hW:IniV W P ini (.slice ia iln ic))=>zcn g5 (by omega) (by omega) HIO.out W hW)
   have e6:(pa==1)=false:=by simpa using g3
   have e7:(pa==4)=false:=by simpa using g4
   have hz:iln=1:=by rw [HIL.out,if_neg g1]
   subst hz
   have H9:=hd_ g9
   clear g9
   go_wp2_with (first | (go_at_call 66;refine (HSC.out w4).mono ?_;rintro e w5 ⟨rfl,hb⟩;have B5:=hd_ (zah B4.out hb);have V5:=hd_ (V4.out.below hb);obtain ⟨s0,s1,-,-,-,-,-,-,s8,-⟩:=V5.out.cells10;have ks:=V5.out.lt;clear hb) | (go_at_call 67;refine (HFI.out w5 (HINI.out.keeps (zai B5.out))).mono ?_;rintro e w6 ⟨rfl,hb⟩;have B6:=hd_ (zah B5.out hb);clear hb))
   go_ret
   exact ⟨zaf H9.out.symm,B6.out⟩
 ·have hc:¬ 0 < c:=fun h=>f1 (ciff.1 h)
  subst f2 f3
  have e4:(sz==0)=false:=by simpa using f4
  have e5:AD.toList.isEmpty=true:=by rcases hadn with ⟨_,h⟩ | ⟨h,_⟩;rw [h];rfl;exact absurd f5 h
  have H9A:=hd_ f9
  clear f1 f4 f5 f9 ciff hadn
  go_upto_region 14 with (first | (go_at_call 19;refine (HBL.out _).mono ?_;rintro e w9 ⟨rfl,rfl⟩) | (go_at_call 37;refine (HSZ.out w2 (HE.out.below B2.out) (HD.out.keeps (zai B2.out))).mono ?_;rintro e w3 ⟨rfl,hb⟩;have B3:=hd_ (zah B2.out hb);have V3:=hd_ (V2.out.below hb);have M3:=hd_ (M2.out.below hb);obtain ⟨y0,y1,y2,y3,y4,y5,y6,y7,y8,y9⟩:=V3.out.cells10;have ky:=V3.out.lt;clear hb) | (go_at_call 38;refine (HPL.out w3 (HE.out.below B3.out).env (HV.out.keeps (zai B3.out))).mono ?_;rintro e w4 ⟨pa,pn,rfl,hpv,hb⟩;have B4:=hd_ (zah B3.out hb);have V4:=hd_ (V3.out.below hb);have M4:=hd_ (M3.out.below hb);obtain ⟨u0,u1,u2,u3,u4,u5,u6,u7,u8,u9⟩:=V4.out.cells10;have ku:=V4.out.lt;have HPV:=hd_ hpv;clear hb hpv))
  rcases zcE ⟨vnm,kind,lo,hi,el,tn,re,ad,ini,at9⟩ 0 with ⟨g1,g9⟩ | ⟨g1,g2,g9⟩ | ⟨g1,g2,g3,g9⟩ | ⟨g1,g2,g3,g9⟩ | ⟨g1,g2,g3,g4,g5,g9⟩ | ⟨g1,g2,g3,g4,g5,g9⟩
  ·rw [← H9A.out] at g9
   simp only at g1
   have hz:iln=0:=by rw [HIL.out,if_pos g1]
   subst hz
   have H9:=hd_ g9
   clear g9
   go_wp2_with (first | (go_at_call 66;refine (HSC.out w3).mono ?_;rintro e w5 ⟨rfl,hb⟩;have B5:=hd_ (zah B3.out hb);have V5:=hd_ (V3.out.below hb);obtain ⟨s0,s1,-,-,-,-,-,-,s8,-⟩:=V5.out.cells10;have ks:=V5.out.lt;clear hb) | (go_at_call 67;refine (HFI.out w5 (HINI.out.keeps (zai B5.out))).mono ?_;rintro e w6 ⟨rfl,hb⟩;have B6:=hd_ (zah B5.out hb);clear hb))
   go_ret
   exact ⟨zaf H9.out.symm,B3.out⟩
  ·rw [← H9A.out] at g9
   simp only at g1
   simp only at g2
   have hz:iln=1:=by rw [HIL.out,if_neg g1]
   subst hz
   have H9:=hd_ g9
   clear g9
   go_wp2_with (first | (go_at_call 66;refine (HSC.out w3).mono ?_;rintro e w5 ⟨rfl,hb⟩;have B5:=hd_ (zah B3.out hb);have V5:=hd_ (V3.out.below hb);obtain ⟨s0,s1,-,-,-,-,-,-,s8,-⟩:=V5.out.cells10;have ks:=V5.out.lt;clear hb) | (go_at_call 67;refine (HFI.out w5 (HINI.out.keeps (zai B5.out))).mono ?_;rintro e w6 ⟨rfl,hb⟩;have B6:=hd_ (zah B5.out hb);clear hb))
   go_ret
   exact ⟨zaf H9.out.symm,B5.out⟩
  ·omega
  ·omega
  ·rw [← H9A.out] at g9
   simp only at g1
   simp only at g2 g5
   have hkk:1≤kind∧kind≤11:=by have h1:=g2;unfold Ty.scalar at h1;simpa using h1
   obtain ⟨kn,rfl⟩:∃ kn:Nat,kind=kn:=⟨kind.toNat,by omega⟩
   have HFI:=hd_ (fun W (hW:IniV W P ini (.slice ia iln ic))=>zcn g5 (by omega) (by omega) HIO.out W hW)
   have hz:iln=1:=by rw [HIL.out,if_neg g1]
   subst hz
   have H9:=hd_ g9
   clear g9
   go_wp2_with (first | (go_at_call 66;refine (HSC.out w3).mono ?_;rintro e w5 ⟨rfl,hb⟩;have B5:=hd_ (zah B3.out hb);have V5:=hd_ (V3.out.below hb);obtain ⟨s0,s1,-,-,-,-,-,-,s8,-⟩:=V5.out.cells10;have ks:=V5.out.lt;clear hb) | (go_at_call 67;refine (HFI.out w5 (HINI.out.keeps (zai B5.out))).mono ?_;rintro e w6 ⟨rfl,hb⟩;have B6:=hd_ (zah B5.out hb);clear hb))
   go_ret
   exact ⟨zaf H9.out.symm,B6.out⟩
  ·rw [← H9A.out] at g9
   simp only at g1
   simp only at g2 g5
   have hkk:1≤kind∧kind≤11:=by have h1:=g2;unfold Ty.scalar at h1;simpa using h1
   obtain ⟨kn,rfl⟩:∃ kn:Nat,kind=kn:=⟨kind.toNat,by omega⟩
   have HFI:=hd_ (fun W (hW:IniV W P ini (.slice ia iln ic))=>zcn g5 (by omega) (by omega) HIO.out W hW)
   have hz:iln=1:=by rw [HIL.out,if_neg g1]
   subst hz
   have H9:=hd_ g9
   clear g9
   go_wp2_with (first | (go_at_call 66;refine (HSC.out w3).mono ?_;rintro e w5 ⟨rfl,hb⟩;have B5:=hd_ (zah B3.out hb);have V5:=hd_ (V3.out.below hb);obtain ⟨s0,s1,-,-,-,-,-,-,s8,-⟩:=V5.out.cells10;have ks:=V5.out.lt;clear hb) | (go_at_call 67;refine (HFI.out w5 (HINI.out.keeps (zai B5.out))).mono ?_;rintro e w6 ⟨rfl,hb⟩;have B6:=hd_ (zah B5.out hb);clear hb))
   go_ret
   exact ⟨zaf H9.out.symm,B6.out⟩
end Go.Proofs.YtdpkjpjkdmkkpaaGreatDoor
