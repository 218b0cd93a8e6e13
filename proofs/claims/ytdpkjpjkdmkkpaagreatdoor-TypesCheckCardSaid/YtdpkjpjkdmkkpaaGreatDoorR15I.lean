/- The walk through the reference's variable (package rungref15). -/
import Derived.Test.YtdpkjpjkdmkkpaaGreatDoorR15H
set_option maxRecDepth 100000
set_option maxHeartbeats 16000000
namespace Go.Proofs.YtdpkjpjkdmkkpaaGreatDoor
open Ad Go.RowKit Lx Pa
theorem zi1 (k:Int) (w:World):Calls Tryz.prog 60 #[.int .i64 k] w fun e w'=>e=.returned (.int .i64 (Rf.width k))∧Below w.heap.size w w':=by
 cases hs:Ty.scalar k with
 | true=>
  have h2:=hs
  unfold Ty.scalar at h2
  simp only [Bool.and_eq_true,decide_eq_true_eq] at h2
  have hk:((k.toNat:Nat):Int)=k:=by omega
  have h3:=zke k.toNat (by omega) (by omega) w
  rw [hk] at h3
  have h4:zaq k.toNat=Rf.width k:=by
   have h:k=1∨k=2∨k=3∨k=4∨k=5∨k=6∨k=7∨k=8∨k=9∨k=10∨k=11:=by omega
   rcases h with rfl | rfl | rfl | rfl | rfl | rfl | rfl | rfl | rfl | rfl | rfl <;> rfl
  rw [h4] at h3
  exact h3
 | false=>
  have h4:Rf.width k=0:=by
   unfold Ty.scalar at hs
   simp only [Bool.and_eq_false_iff,decide_eq_false_iff_not] at hs
   unfold Rf.width
   rw [if_neg (by omega),if_neg (by omega),if_neg (by omega),if_neg (by omega)]
  rw [h4]
  have HSC:Hid (∀ W,Calls Tryz.prog 58 #[.int .i64 k] W fun e w'=>e=.returned (.bool false)∧Below W.heap.size W w'):=hd_ (fun W=>hs▸zbo k W)
  clear hs h4
  go_enter Tryz.func60,Tryz.ntmps60
  go_wp2_with fail
  refine (HSC.out w).mono ?_
  rintro e w1 ⟨rfl,hb⟩
  have B1:=hd_ hb
  clear hb
  go_wp2_with fail
  go_ret
  exact ⟨rfl,B1.out⟩
def VS (Y:Nat) (kind:Int) (w W:World):Prop:=W.cell? ⟨Y,6,none⟩=some (.bool false)∧W.cell? ⟨Y,1,none⟩=some (.int .i64 kind)∧Below w.heap.size w W
section
variable {Y:Nat} {kind:Int} {w W:World}
theorem VS.c6 (h:VS Y kind w W):W.cell? ⟨Y,6,none⟩=some (.bool false):=h.1
theorem VS.c1 (h:VS Y kind w W):W.cell? ⟨Y,1,none⟩=some (.int .i64 kind):=h.2.1
theorem VS.drew (h:VS Y kind w W):VS Y kind w W.drew:=⟨h.1,h.2.1,h.2.2.drew⟩
end
theorem zgP {d:zaQ} {il:Bool} {row:List Value} {P:Nat→Prop} {v:PVar} {i:Nat} {r:Int} (hr:Rf.varErr d.structs ((d.vars.take i).map PVar.name) ((d.vars.take i).map PVar.addr) v=r) (hvi:d.vars[i]? = some v) (w:World) (hd:zaF w P il d row) (hok:zbj d) (ht:Rf.VarT v) :
  Calls Tryz.prog 31 #[.agg row.toArray,.int .i64 i] w fun e w'=>e=.returned (.int .i64 r)∧Below w.heap.size w w':=by
 have HD:=hd_ hd
 have hvo:=hok.vars v (List.mem_of_getElem? hvi)
 have hn:=hok.few
 have hNl:=hok.many
 obtain ⟨vs,vv,bda,bdn,bdc,lna,lnn,lnc,rfl,hss,⟨cs,hsl,hrows⟩⟩:=hd
 obtain ⟨va,ns,vc,rfl⟩:=hss.shape
 obtain ⟨ua,uc,rfl,hblk⟩:=hsl.form
 have hiN:=(List.getElem?_eq_some_iff.1 hvi).1
 obtain ⟨g,rfl,hPg,hca⟩:=hblk (by omega)
 obtain ⟨nb,hnb⟩:∃ nb:ByteArray,(⟨d.name.toArray⟩:ByteArray)=nb:=⟨_,rfl⟩
 obtain ⟨N,hN⟩:∃ x,d.vars.length=x:=⟨_,rfl⟩
 have HIN:=hd_ (And.intro hiN hN)
 rw [hnb,hN] at HD
 rw [hN] at hiN hNl
 rw [hnb,hN]
 obtain ⟨vrow,hv,hvcells⟩:=hrows.get hvi
 have HRW:=hd_ hrows
 have HCA:=hd_ hca
 obtain ⟨iv,rfl,hini⟩:=hv
 obtain ⟨ia,iln,ic,rfl⟩:=hini.slice
 obtain ⟨vnm,kind,lo,hi,el,tn,re,ad,ini,at9⟩:=v
 obtain ⟨VN,hVN⟩:∃ b:ByteArray,(⟨vnm.toArray⟩:ByteArray)=b:=⟨_,rfl⟩
 obtain ⟨TN,hTN⟩:∃ b:ByteArray,(⟨tn.toArray⟩:ByteArray)=b:=⟨_,rfl⟩
 obtain ⟨AD,hAD⟩:∃ b:ByteArray,(⟨ad.toArray⟩:ByteArray)=b:=⟨_,rfl⟩
 have hTl:TN.data.toList=tn:=by rw [← hTN]
 have VNl:Hid (VN.data.toList=vnm):=hd_ (by rw [← hVN])
 have TNl:Hid (TN.data.toList=tn):=hd_ hTl
 have ADl:Hid (AD.data.toList=ad):=hd_ (by rw [← hAD])
 have d0:=hca (i*10+0) _ ((hvcells 0 (by omega)).trans rfl)
 have d1:=hca (i*10+1) _ ((hvcells 1 (by omega)).trans rfl)
 have d2:=hca (i*10+2) _ ((hvcells 2 (by omega)).trans rfl)
 have d3:=hca (i*10+3) _ ((hvcells 3 (by omega)).trans rfl)
 have d4:=hca (i*10+4) _ ((hvcells 4 (by omega)).trans rfl)
 have d5:=hca (i*10+5) _ ((hvcells 5 (by omega)).trans rfl)
 have d6:=hca (i*10+6) _ ((hvcells 6 (by omega)).trans rfl)
 have d7:=hca (i*10+7) _ ((hvcells 7 (by omega)).trans rfl)
 have d8:=hca (i*10+8) _ ((hvcells 8 (by omega)).trans rfl)
 have d9:=hca (i*10+9) _ ((hvcells 9 (by omega)).trans rfl)
 simp only [Nat.add_zero,hVN,hTN,hAD] at d0 d5 d7
 have kg0:=zac d0
 have HIL:=hd_ (zjv hini)
 have hads:AD.size≤100000:=by have h:=hvo.addr;simp only at h;rw [← ADl.out] at h;exact h
 have HFI0:Hid (Ty.scalar kind=true→∀ W,Below w.heap.size w W→Calls Tryz.prog 30 #[.int .i64 kind,.slice ia iln ic] W (zbd (Rf.first kind ini) W)):=hd_ (fun hs W hW=>by
  unfold Ty.scalar at hs
  simp only [Bool.and_eq_true,decide_eq_true_eq] at hs
  have hk:((kind.toNat:Nat):Int)=kind:=by omega
  have h:=zeg (k:=kind.toNat) (by omega) (by omega) ht.ini hvo.ini W (hini.keeps (zai hW))
  rw [hk] at h
  exact h)
 have HR0:Hid ((if (Ty.block vnm=true∨(Ty.structOf d.structs vnm).isSome) then (151:Int) else if vnm ∈ (d.vars.take i).map PVar.name then (151:Int) else if (tn≠[]∧Ty.block tn=false∧(Ty.structOf d.structs tn).isSome=false) then (152:Int) else if (kind=12∧(hi < lo∨lo < -2147483648∨2147483647 < hi∨256≤hi - lo)) then (152:Int) else if ad≠[]∧((Ad.aParse ad).1=0∨re=true∨Ad.aBit (Ad.aParse ad).1≠decide (kind=1)∨(Rf.width kind≠1∧Rf.width kind≠16)) then (153:Int) else if ad≠[]∧ad ∈ (d.vars.take i).map PVar.addr then (151:Int) else if ini=none then (0:Int) else if Ty.scalar kind=false∨(ad≠[]∧((Ad.aParse ad).1=1∨(Ad.aParse ad).1=4)) then (154:Int) else if (Rf.first kind ini).2=false then (154:Int) else 0)=r):=hd_ hr
 obtain ⟨so1,hso1⟩:∃ x,ixF VN.data.toList d.structs 0=x:=⟨_,rfl⟩
 have hso1C:Hid ((Ty.structOf d.structs vnm=none∧so1=-1)∨∃ (i:Nat) (s:zad),Ty.structOf d.structs vnm=some s∧d.structs[i]? = some s∧so1=i):=hd_ (by
  rw [← hso1,VNl.out]
  rcases zfq vnm d.structs 0 with h | ⟨i,s,h1,h2,h3⟩
  ·exact .inl h
  ·exact .inr ⟨i,s,h1,h2,by rw [h3];omega⟩)
 have HSO1:Hid (∀ W,zaF W P il d [.string nb,.slice va ns vc,.slice (some ⟨g,0,none⟩) N uc,.bool il,.slice bda bdn bdc,.slice lna lnn lnc]→Calls Tryz.prog 29 #[.agg #[.string nb,.slice va ns vc,.slice (some ⟨g,0,none⟩) N uc,.bool il,.slice bda bdn bdc,.slice lna lnn lnc],.string VN] W fun e w'=>e=.returned (.int .i64 so1)∧Below W.heap.size W w'):=hd_ (fun W hW=>zbL hso1 W hW hn)
 obtain ⟨so,hso⟩:∃ x,ixF TN.data.toList d.structs 0=x:=⟨_,rfl⟩
 have hsoC:Hid ((Ty.structOf d.structs tn=none∧so=-1)∨∃ (i:Nat) (s:zad),Ty.structOf d.structs tn=some s∧d.structs[i]? = some s∧so=i):=hd_ (by
  rw [← hso,TNl.out]
  rcases zfq tn d.structs 0 with h | ⟨i,s,h1,h2,h3⟩
  ·exact .inl h
  ·exact .inr ⟨i,s,h1,h2,by rw [h3];omega⟩)
 have HSO:Hid (∀ W,zaF W P il d [.string nb,.slice va ns vc,.slice (some ⟨g,0,none⟩) N uc,.bool il,.slice bda bdn bdc,.slice lna lnn lnc]→Calls Tryz.prog 29 #[.agg #[.string nb,.slice va ns vc,.slice (some ⟨g,0,none⟩) N uc,.bool il,.slice bda bdn bdc,.slice lna lnn lnc],.string TN] W fun e w'=>e=.returned (.int .i64 so)∧Below W.heap.size W w'):=hd_ (fun W hW=>zbL hso W hW hn)
 obtain ⟨bl1,hbl1⟩:∃ b,Ty.block vnm=b:=⟨_,rfl⟩
 have HBL1:Hid (∀ W,Calls Tryz.prog 20 #[.string VN] W fun e w'=>e=.returned (.bool bl1)∧Below W.heap.size W w'):=hd_ (fun W=>by have h:=zck VN W;rw [VNl.out,hbl1] at h;exact h)
 obtain ⟨bl,hbl⟩:∃ b,Ty.block tn=b:=⟨_,rfl⟩
 have HBL:Hid (∀ W,Calls Tryz.prog 20 #[.string TN] W fun e w'=>e=.returned (.bool bl)∧Below W.heap.size W w'):=hd_ (fun W=>by have h:=zck TN W;rw [TNl.out,hbl] at h;exact h)
 have hbl1:=hd_ hbl1
 have hbl:=hd_ hbl
 have hte:=zcu TNl.out
 obtain ⟨te,hteq⟩:∃ b,decide (tn=[])=b:=⟨_,rfl⟩
 rw [hteq] at hte
 have HTE:=hd_ hteq
 have hae:=zcu ADl.out
 obtain ⟨ae,haeq⟩:∃ b,decide (ad=[])=b:=⟨_,rfl⟩
 rw [haeq] at hae
 have HAEQ:=hd_ haeq
 obtain ⟨qq,hqq⟩:∃ x,Ad.aParse ad=x:=⟨_,rfl⟩
 obtain ⟨q1,q2,q3⟩:=qq
 have HQ1:Hid ((Ad.aParse ad).1=q1):=hd_ (by rw [hqq])
 have HPA:Hid (∀ W,Calls Tryz.prog 40 #[.string AD] W fun e w'=>e=.returned (.tuple #[.int .i64 q1,.int .i64 q2,.int .i64 q3])∧Below W.heap.size W w'):=hd_ (fun W=>zei (r:=(q1,q2,q3)) ((congrArg zij ADl.out).trans ((zfy ad).trans hqq)) (by omega) W)
 obtain ⟨bt,hbt⟩:∃ x,Ad.aBit q1=x:=⟨_,rfl⟩
 have HBT:Hid (∀ W,Calls Tryz.prog 61 #[.int .i64 q1] W fun e w'=>e=.returned (.bool bt)∧W=w'):=hd_ (fun W=>hbt▸zdC q1 W)
 have hbt:=hd_ hbt
 obtain ⟨wd,hwd⟩:∃ x,Rf.width kind=x:=⟨_,rfl⟩
 have HWI:Hid (∀ W,Calls Tryz.prog 60 #[.int .i64 kind] W fun e w'=>e=.returned (.int .i64 wd)∧Below W.heap.size W w'):=hd_ (fun W=>hwd▸zi1 kind W)
 have hwd:=hd_ hwd
 have z0:0≤(i:Int):=by omega
 have z1:(i:Int) < N:=by omega
 have z2:(i:Int).toNat=i:=by omega
 clear hr hvi hok ht hvo hss hsl hrows hblk hPg hca hnb hN hvcells hini hVN hTN hAD hTl hso1 hso hteq haeq hqq hads
 go_enter Tryz.func31,Tryz.ntmps31
 go_upto_region 1 with fail
 refine zaa (P:=Code.wp _ _ _ _) (F:=fun W=>Bl W w.heap.size #[.string nb,.slice va ns vc,.slice (some ⟨g,0,none⟩) N uc,.bool il,.slice bda bdn bdc,.slice lna lnn lnc] 28∧Below w.heap.size w W)
  ⟨Bl.new _ _ _,br_.alloc nl_ _⟩ ?_
 intro w1 ⟨P1,B1⟩
 replace d0:=zab B1 d0
 replace d1:=zab B1 d1
 replace d2:=zab B1 d2
 replace d3:=zab B1 d3
 replace d4:=zab B1 d4
 replace d5:=zab B1 d5
 replace d6:=zab B1 d6
 replace d7:=zab B1 d7
 replace d8:=zab B1 d8
 replace d9:=zab B1 d9
 have kg:=zac d0
 have p2:=P1.cells6.2.2.1
 have kp:=P1.lt
 go_upto_region 2 with fail
 refine zaa (P:=Code.wp _ _ _ _) (F:=fun W=>Bl W w.heap.size #[.string nb,.slice va ns vc,.slice (some ⟨g,0,none⟩) N uc,.bool il,.slice bda bdn bdc,.slice lna lnn lnc] 28∧Bl W w1.heap.size #[.string VN,.int .i64 kind,.int .i64 lo,.int .i64 hi,.int .i64 el,.string TN,.bool re,.string AD,.slice ia iln ic,.int .i64 at9] 54∧Below w.heap.size w W)
  ⟨P1.alloc _,Bl.new _ _ _,B1.alloc B1.size _⟩ ?_
 clear d0 d1 d2 d3 d4 d5 d6 d7 d8 d9 kg kg0 p2 kp P1 B1
 intro w2 ⟨P2,V2,B2⟩
 obtain ⟨Y,hY⟩:∃ x,w1.heap.size=x:=⟨_,rfl⟩
 rw [hY] at V2 ⊢
 clear hY z0 z1 z2
 have P2:=hd_ P2
 have V2:=hd_ V2
 have B2:=hd_ B2
 obtain ⟨p0,p1,p2,p3,p4,p5⟩:=P2.out.cells6
 obtain ⟨v0,v1,v2,v3,v4,v5,v6,v7,v8,v9⟩:=V2.out.cells10
 have kp:=P2.out.lt
 have kv:=V2.out.lt
 go_upto_region 2 with fail
 go_cut [26] from 17 to 26 (fun v wx=>∃ r9:Bool,v=.bool r9∧Hid (r9=true↔(Ty.block vnm=true∨(Ty.structOf d.structs vnm).isSome))∧Bl wx w.heap.size #[.string nb,.slice va ns vc,.slice (some ⟨g,0,none⟩) N uc,.bool il,.slice bda bdn bdc,.slice lna lnn lnc] 28∧Bl wx Y #[.string VN,.int .i64 kind,.int .i64 lo,.int .i64 hi,.int .i64 el,.string TN,.bool re,.string AD,.slice ia iln ic,.int .i64 at9] 54∧Below w.heap.size w wx)
 case first=>
  cases bl1 with
  | true=>
   go_wp2_with fail
   refine (HBL1.out w2).mono ?_
   rintro e w3 ⟨rfl,hb⟩
   have P3:=hd_ (P2.out.below hb)
   have V3:=hd_ (V2.out.below hb)
   have B3:=hd_ (zah B2.out hb)
   clear hb
   go_wp2_with fail
   go_meet
   exact ⟨true,rfl,hd_ (by rw [hbl1.out];simp),P3.out,V3.out,B3.out⟩
  | false=>
   go_wp2_with fail
   refine (HBL1.out w2).mono ?_
   rintro e w3 ⟨rfl,hb⟩
   have P3:=hd_ (P2.out.below hb)
   have V3:=hd_ (V2.out.below hb)
   have B3:=hd_ (zah B2.out hb)
   clear hb
   clear p0 p1 p2 p3 p4 p5 v0 v1 v2 v3 v4 v5 v6 v7 v8 v9 kp kv
   obtain ⟨p0,p1,p2,p3,p4,p5⟩:=P3.out.cells6
   obtain ⟨v0,v1,v2,v3,v4,v5,v6,v7,v8,v9⟩:=V3.out.cells10
   have kp:=P3.out.lt
   have kv:=V3.out.lt
   go_wp2_with fail
   refine (HSO1.out w3 (HD.out.keeps (zai B3.out))).mono ?_
   rintro e w4 ⟨rfl,hb⟩
   have P4:=hd_ (P3.out.below hb)
   have V4:=hd_ (V3.out.below hb)
   have B4:=hd_ (zah B3.out hb)
   clear hb
   rcases hso1C.out with ⟨h1,h2⟩ | ⟨j,s,h1,h2,h3⟩
   ·have hs0:decide (0≤so1)=false:=by simp;omega
    have HS0:=hd_ h1
    clear h1 h2
    go_wp2_with fail
    go_meet
    exact ⟨false,rfl,hd_ (by rw [hbl1.out,HS0.out];simp),P4.out,V4.out,B4.out⟩
   ·have hs0:decide (0≤so1)=true:=by simp;omega
    have HS0:=hd_ h1
    clear h1 h2 h3
    go_wp2_with fail
    go_meet
    exact ⟨true,rfl,hd_ (by rw [hbl1.out,HS0.out];simp),P4.out,V4.out,B4.out⟩
 case rest=>
  obtain ⟨r9,rfl,HC,hP,hV,hB⟩:=hcut
  obtain ⟨w5,hwc⟩:∃ x,wc=x:=⟨_,rfl⟩
  rw [hwc] at hP hV hB ⊢
  clear hwc P2 V2 B2 p0 p1 p2 p3 p4 p5 v0 v1 v2 v3 v4 v5 v6 v7 v8 v9 kp kv
  have P5:=hd_ hP
  have V5:=hd_ hV
  have B5:=hd_ hB
  clear hP hV hB
  cases r9 with
  | true=>
   have hC:=HC.out.1 rfl
   have HR9:Hid (151=r):=hd_ (by rw [← HR0.out,if_pos hC])
   clear hC HC
   go_wp2_with fail
   go_ret
   exact ⟨zaf (HR9.out),B5.out⟩
  | false=>
   have hC:¬ (Ty.block vnm=true∨(Ty.structOf d.structs vnm).isSome):=fun h=>by have:=HC.out.2 h;cases this
   have HR1:Hid ((if vnm ∈ (d.vars.take i).map PVar.name then (151:Int) else if (tn≠[]∧Ty.block tn=false∧(Ty.structOf d.structs tn).isSome=false) then (152:Int) else if (kind=12∧(hi < lo∨lo < -2147483648∨2147483647 < hi∨256≤hi - lo)) then (152:Int) else if ad≠[]∧((Ad.aParse ad).1=0∨re=true∨Ad.aBit (Ad.aParse ad).1≠decide (kind=1)∨(Rf.width kind≠1∧Rf.width kind≠16)) then (153:Int) else if ad≠[]∧ad ∈ (d.vars.take i).map PVar.addr then (151:Int) else if ini=none then (0:Int) else if Ty.scalar kind=false∨(ad≠[]∧((Ad.aParse ad).1=1∨(Ad.aParse ad).1=4)) then (154:Int) else if (Rf.first kind ini).2=false then (154:Int) else 0)=r):=hd_ (by rw [← HR0.out,if_neg hC])
   clear hC HC HR0
   go_wp2_with fail
   go_loopw [6] (fun v9 wr=>RRel (∃ q:Nat,q≤i∧v9=.int .i64 q∧Hid (∀ m,m < q→∀ u,d.vars[m]? = some u→u.name≠vnm)∧Hid (Bl wr w.heap.size #[.string nb,.slice va ns vc,.slice (some ⟨g,0,none⟩) N uc,.bool il,.slice bda bdn bdc,.slice lna lnn lnc] 28)∧Hid (Bl wr Y #[.string VN,.int .i64 kind,.int .i64 lo,.int .i64 hi,.int .i64 el,.string TN,.bool re,.string AD,.slice ia iln ic,.int .i64 at9] 54)∧Hid (Below w.heap.size w wr))) (fun v9 _=>i - (intOf v9).toNat)
   case atStart=>exact RRel.mk ⟨0,Nat.zero_le _,rfl,hd_ (fun m hm=>absurd hm (Nat.not_lt_zero _)),P5,V5,B5⟩
   case round=>
    obtain ⟨q,hq,rfl,HQ,P6,V6,B6⟩:=hrel.it
    clear hrel P5 V5 B5
    obtain ⟨w6,rfl⟩:∃ w9,w9=wr:=⟨_,rfl⟩
    by_cases hlt:q < i
    ·obtain ⟨u,hu⟩:∃ u,d.vars[q]? = some u:=⟨d.vars[q]'(by have:=HIN.out;omega),by rw [List.getElem?_eq_getElem]⟩
     obtain ⟨rwu,huv,hucells⟩:=HRW.out.get hu
     obtain ⟨u0,u1,u2,u3,u4,u5,u6,u7,ua,ul,uq,u9,rfl⟩:=huv.shape
     have HUN:Hid (u.name=u0.data.toList):=hd_ (by
      obtain ⟨v,h1,_⟩:=huv
      simp only [List.cons.injEq,Value.string.injEq] at h1
      rw [h1.1])
     have dq:=HCA.out (q*10+0) _ ((hucells 0 (by omega)).trans rfl)
     try simp only [Nat.add_zero] at dq
     replace dq:=zab B6.out dq
     have kg:=zac dq
     have z0:0≤(q:Int):=by omega
     have z1:(q:Int) < i:=by omega
     have z1':(q:Int) < N:=by have:=HIN.out;omega
     have z2:(q:Int).toNat=q:=by omega
     have z3:IntKind.i64.wrap ((q:Int)+1)=(q:Int)+1:=IntWalk.i64_in _ (by omega)
     have HUQ:=hd_ hu
     obtain ⟨dd,hdd⟩:∃ dd,(u0.toList==VN.toList)=dd:=⟨_,rfl⟩
     clear huv hucells hu
     obtain ⟨p0,p1,p2,p3,p4,p5⟩:=P6.out.cells6
     obtain ⟨v0,v1,v2,v3,v4,v5,v6,v7,v8,v9⟩:=V6.out.cells10
     have kp:=P6.out.lt
     have kv:=V6.out.lt
     cases dd with
     | true=>
      have HEQ:Hid (u.name=vnm):=hd_ (by rw [HUN.out,(zav u0 VN).1 hdd];exact VNl.out)
      have HMEM:Hid (vnm ∈ (d.vars.take i).map PVar.name):=hd_ (List.mem_map.2 ⟨u,List.mem_of_getElem? (by rw [List.getElem?_take,if_pos hlt];exact HUQ.out),HEQ.out⟩)
      have HR2:Hid (151=r):=hd_ (by rw [← HR1.out,if_pos HMEM.out])
      clear hlt
      go_upto_region 7 with fail
      go_quiet (fail)
      go_wp2_with fail
      go_ret
      exact ⟨zaf HR2.out,B6.out.drewN _⟩
     | false=>
      have HNE:Hid (∀ m,m < q+1→∀ u,d.vars[m]? = some u→u.name≠vnm):=hd_ (fun m hm u' hu'=>by
       rcases Nat.lt_succ_iff_lt_or_eq.1 hm with h | h
       ·exact HQ.out m h u' hu'
       ·subst h
        have:=hu'.symm.trans HUQ.out
        injection this with this
        subst this
        intro h2
        have h3:(u0.toList==VN.toList)=true:=(zav u0 VN).2 (ByteArray.ext (Array.toList_inj.1 (by rw [← HUN.out,h2];exact VNl.out.symm)))
        rw [hdd] at h3;cases h3)
      clear hlt
      go_upto_region 7 with fail
      go_quiet (fail)
      go_wp2_with fail
      go_roundw
      case rel=>exact RRel.mk ⟨q+1,by omega,by simp,HNE,hd_ (P6.out.below (br_.drewN _)),hd_ (V6.out.below (br_.drewN _)),hd_ (B6.out.drewN _)⟩
      case measure=>simp [intOf];omega
    ·have z1:¬ (q:Int) < i:=by omega
     have HNM:Hid (¬ vnm ∈ (d.vars.take i).map PVar.name):=hd_ (fun h=>by
      obtain ⟨u,hu,hn⟩:=List.mem_map.1 h
      obtain ⟨m,hm⟩:=List.getElem?_of_mem hu
      rw [List.getElem?_take] at hm
      split at hm
      ·exact HQ.out m (by omega) u hm hn
      ·cases hm)
     clear hlt HQ
     have HR2:Hid ((if (tn≠[]∧Ty.block tn=false∧(Ty.structOf d.structs tn).isSome=false) then (152:Int) else if (kind=12∧(hi < lo∨lo < -2147483648∨2147483647 < hi∨256≤hi - lo)) then (152:Int) else if ad≠[]∧((Ad.aParse ad).1=0∨re=true∨Ad.aBit (Ad.aParse ad).1≠decide (kind=1)∨(Rf.width kind≠1∧Rf.width kind≠16)) then (153:Int) else if ad≠[]∧ad ∈ (d.vars.take i).map PVar.addr then (151:Int) else if ini=none then (0:Int) else if Ty.scalar kind=false∨(ad≠[]∧((Ad.aParse ad).1=1∨(Ad.aParse ad).1=4)) then (154:Int) else if (Rf.first kind ini).2=false then (154:Int) else 0)=r):=hd_ (by rw [← HR1.out,if_neg HNM.out])
     clear HR1 HNM
     obtain ⟨p0,p1,p2,p3,p4,p5⟩:=P6.out.cells6
     obtain ⟨v0,v1,v2,v3,v4,v5,v6,v7,v8,v9⟩:=V6.out.cells10
     have kp:=P6.out.lt
     have kv:=V6.out.lt
     go_upto_region 9 with fail
     go_cut [59] from 41 to 59 (fun v wx=>∃ r9:Bool,v=.bool r9∧Hid (r9=true↔(tn≠[]∧Ty.block tn=false∧(Ty.structOf d.structs tn).isSome=false))∧Bl wx w.heap.size #[.string nb,.slice va ns vc,.slice (some ⟨g,0,none⟩) N uc,.bool il,.slice bda bdn bdc,.slice lna lnn lnc] 28∧Bl wx Y #[.string VN,.int .i64 kind,.int .i64 lo,.int .i64 hi,.int .i64 el,.string TN,.bool re,.string AD,.slice ia iln ic,.int .i64 at9] 54∧Below w.heap.size w wx)
     case first=>
      cases te with
      | true=>
       go_wp2_with fail
       go_meet
       exact ⟨false,rfl,hd_ (by simp [of_decide_eq_true HTE.out]),P6.out,V6.out,B6.out⟩
      | false=>
       go_wp2_with fail
       refine (HBL.out w6).mono ?_
       rintro e w71 ⟨rfl,hb⟩
       have P71:=hd_ (P6.out.below hb)
       have V71:=hd_ (V6.out.below hb)
       have B71:=hd_ (zah B6.out hb)
       clear hb
       clear p0 p1 p2 p3 p4 p5 v0 v1 v2 v3 v4 v5 v6 v7 v8 v9 kp kv
       obtain ⟨p0,p1,p2,p3,p4,p5⟩:=P71.out.cells6
       obtain ⟨v0,v1,v2,v3,v4,v5,v6,v7,v8,v9⟩:=V71.out.cells10
       have kp:=P71.out.lt
       have kv:=V71.out.lt
       cases bl with
       | true=>
        go_wp2_with fail
        go_meet
        exact ⟨false,rfl,hd_ (by rw [hbl.out];simp),P71.out,V71.out,B71.out⟩
       | false=>
        go_wp2_with fail
        refine (HSO.out w71 (HD.out.keeps (zai B71.out))).mono ?_
        rintro e w72 ⟨rfl,hb⟩
        have P72:=hd_ (P71.out.below hb)
        have V72:=hd_ (V71.out.below hb)
        have B72:=hd_ (zah B71.out hb)
        clear hb
        rcases hsoC.out with ⟨h1,h2⟩ | ⟨j,s,h1,h2,h3⟩
        ·have hs0:decide (so < 0)=true:=by simp;omega
         have HS0:=hd_ h1
         clear h1 h2
         go_wp2_with fail
         go_meet
         exact ⟨true,rfl,hd_ (by rw [hbl.out,HS0.out];simp [of_decide_eq_false HTE.out]),P72.out,V72.out,B72.out⟩
        ·have hs0:decide (so < 0)=false:=by simp;omega
         have HS0:=hd_ h1
         clear h1 h2 h3
         go_wp2_with fail
         go_meet
         exact ⟨false,rfl,hd_ (by rw [HS0.out];simp),P72.out,V72.out,B72.out⟩
     case rest=>
      obtain ⟨r9,rfl,HC,hP,hV,hB⟩:=hcut
      obtain ⟨w7,hwc⟩:∃ x,wc=x:=⟨_,rfl⟩
      rw [hwc] at hP hV hB ⊢
      clear hwc P6 V6 B6 p0 p1 p2 p3 p4 p5 v0 v1 v2 v3 v4 v5 v6 v7 v8 v9 kp kv
      have P7:=hd_ hP
      have V7:=hd_ hV
      have B7:=hd_ hB
      clear hP hV hB
      cases r9 with
      | true=>
       have hC:=HC.out.1 rfl
       have HR9:Hid (152=r):=hd_ (by rw [← HR2.out,if_pos hC])
       clear hC HC
       go_wp2_with fail
       go_ret
       exact ⟨zaf (HR9.out),B7.out⟩
      | false=>
       have hC:¬ (tn≠[]∧Ty.block tn=false∧(Ty.structOf d.structs tn).isSome=false):=fun h=>by have:=HC.out.2 h;cases this
       have HR3:Hid ((if (kind=12∧(hi < lo∨lo < -2147483648∨2147483647 < hi∨256≤hi - lo)) then (152:Int) else if ad≠[]∧((Ad.aParse ad).1=0∨re=true∨Ad.aBit (Ad.aParse ad).1≠decide (kind=1)∨(Rf.width kind≠1∧Rf.width kind≠16)) then (153:Int) else if ad≠[]∧ad ∈ (d.vars.take i).map PVar.addr then (151:Int) else if ini=none then (0:Int) else if Ty.scalar kind=false∨(ad≠[]∧((Ad.aParse ad).1=1∨(Ad.aParse ad).1=4)) then (154:Int) else if (Rf.first kind ini).2=false then (154:Int) else 0)=r):=hd_ (by rw [← HR2.out,if_neg hC])
       clear hC HC HR2
       obtain ⟨p0,p1,p2,p3,p4,p5⟩:=P7.out.cells6
       obtain ⟨v0,v1,v2,v3,v4,v5,v6,v7,v8,v9⟩:=V7.out.cells10
       have kp:=P7.out.lt
       have kv:=V7.out.lt
       go_upto_region 11 with fail
       go_cut [94] from 60 to 94 (fun v wx=>∃ r9:Bool,v=.bool r9∧Hid (r9=true↔(kind=12∧(hi < lo∨lo < -2147483648∨2147483647 < hi∨256≤hi - lo)))∧Bl wx w.heap.size #[.string nb,.slice va ns vc,.slice (some ⟨g,0,none⟩) N uc,.bool il,.slice bda bdn bdc,.slice lna lnn lnc] 28∧Bl wx Y #[.string VN,.int .i64 kind,.int .i64 lo,.int .i64 hi,.int .i64 el,.string TN,.bool re,.string AD,.slice ia iln ic,.int .i64 at9] 54∧Below w.heap.size w wx)
       case first=>
        by_cases h12:kind=12
        ·have e1:(kind==12)=true:=by simp [h12]
         by_cases hb1:hi < lo
         ·have HX:=hd_ (And.intro h12 hb1)
          clear h12
          go_wp2_with fail
          go_meet
          exact ⟨true,rfl,hd_ (by simp [HX.out.1,HX.out.2]),P7.out,V7.out,B7.out⟩
         ·by_cases hb2:lo < -2147483648
          ·have HX:=hd_ (And.intro h12 hb2)
           clear h12
           go_wp2_with fail
           go_meet
           exact ⟨true,rfl,hd_ (by simp [HX.out.1,HX.out.2]),P7.out,V7.out,B7.out⟩
          ·by_cases hb3:2147483647 < hi
           ·have HX:=hd_ (And.intro h12 hb3)
            clear h12
            go_wp2_with fail
            go_meet
            exact ⟨true,rfl,hd_ (by simp [HX.out.1,HX.out.2]),P7.out,V7.out,B7.out⟩
           ·have iw1:IntKind.i64.wrap (hi - lo)=hi - lo:=IntWalk.i64_in _ (by omega)
            by_cases hb4:256≤hi - lo
            ·have HX:=hd_ (And.intro h12 hb4)
             clear h12
             go_wp2_with fail
             go_meet
             exact ⟨true,rfl,hd_ (by simp [HX.out.1,HX.out.2]),P7.out,V7.out,B7.out⟩
            ·have HX:=hd_ (And.intro hb1 (And.intro hb2 (And.intro hb3 hb4)))
             clear h12
             go_wp2_with fail
             go_meet
             exact ⟨false,rfl,hd_ (⟨fun h=>(by cases h),fun h=>(by obtain ⟨x1,x2,x3,x4⟩:=HX.out;omega)⟩),P7.out,V7.out,B7.out⟩
        ·have e1:(kind==12)=false:=by simpa using h12
         have HX:=hd_ h12
         clear h12
         go_wp2_with fail
         go_meet
         exact ⟨false,rfl,hd_ (by simp [HX.out]),P7.out,V7.out,B7.out⟩
       case rest=>
        obtain ⟨r9,rfl,HC,hP,hV,hB⟩:=hcut
        obtain ⟨w8,hwc⟩:∃ x,wc=x:=⟨_,rfl⟩
        rw [hwc] at hP hV hB ⊢
        clear hwc P7 V7 B7 p0 p1 p2 p3 p4 p5 v0 v1 v2 v3 v4 v5 v6 v7 v8 v9 kp kv
        have P8:=hd_ hP
        have V8:=hd_ hV
        have B8:=hd_ hB
        clear hP hV hB
        cases r9 with
        | true=>
         have hC:=HC.out.1 rfl
         have HR9:Hid (152=r):=hd_ (by rw [← HR3.out,if_pos hC])
         clear hC HC
         go_wp2_with fail
         go_ret
         exact ⟨zaf (HR9.out),B8.out⟩
        | false=>
         have hC:¬ (kind=12∧(hi < lo∨lo < -2147483648∨2147483647 < hi∨256≤hi - lo)):=fun h=>by have:=HC.out.2 h;cases this
         have HR4:Hid ((if ad≠[]∧((Ad.aParse ad).1=0∨re=true∨Ad.aBit (Ad.aParse ad).1≠decide (kind=1)∨(Rf.width kind≠1∧Rf.width kind≠16)) then (153:Int) else if ad≠[]∧ad ∈ (d.vars.take i).map PVar.addr then (151:Int) else if ini=none then (0:Int) else if Ty.scalar kind=false∨(ad≠[]∧((Ad.aParse ad).1=1∨(Ad.aParse ad).1=4)) then (154:Int) else if (Rf.first kind ini).2=false then (154:Int) else 0)=r):=hd_ (by rw [← HR3.out,if_neg hC])
         clear hC HC HR3
         obtain ⟨p0,p1,p2,p3,p4,p5⟩:=P8.out.cells6
         obtain ⟨v0,v1,v2,v3,v4,v5,v6,v7,v8,v9⟩:=V8.out.cells10
         have kp:=P8.out.lt
         have kv:=V8.out.lt
         cases ae with
         | true=>
          have HAE:Hid (ad=[]):=hd_ (of_decide_eq_true HAEQ.out)
          have HRF:Hid ((if ini=none then (0:Int) else if Ty.scalar kind=false∨(ad≠[]∧((Ad.aParse ad).1=1∨(Ad.aParse ad).1=4)) then (154:Int) else if (Rf.first kind ini).2=false then (154:Int) else 0)=r):=hd_ (by rw [← HR4.out,if_neg (show ¬ (ad≠[]∧((Ad.aParse ad).1=0∨re=true∨Ad.aBit (Ad.aParse ad).1≠decide (kind=1)∨(Rf.width kind≠1∧Rf.width kind≠16))) from fun h=>h.1 HAE.out),if_neg (show ¬ (ad≠[]∧ad ∈ (d.vars.take i).map PVar.addr) from fun h=>h.1 HAE.out)])
          clear HR4
          obtain ⟨in0,hin0⟩:∃ x:Bool,(ini=none:Prop)∧iln=0∧x=true∨(ini≠none∧iln=1∧x=false):=by
           have h:=HIL.out
           cases ini with
           | none=>exact ⟨true,.inl ⟨rfl,by simpa using h,rfl⟩⟩
           | some i9=>exact ⟨false,.inr ⟨by simp,by simpa using h,rfl⟩⟩
          rcases hin0 with ⟨h1,rfl,-⟩ | ⟨h1,rfl,-⟩
          ·have HR9:Hid (0=r):=hd_ (by rw [← HRF.out,if_pos h1])
           clear h1
           go_wp2_with fail
           go_ret
           exact ⟨zaf (HR9.out),B8.out⟩
          ·have HRG:Hid ((if Ty.scalar kind=false∨(ad≠[]∧((Ad.aParse ad).1=1∨(Ad.aParse ad).1=4)) then (154:Int) else if (Rf.first kind ini).2=false then 154 else 0)=r):=hd_ (by rw [← HRF.out,if_neg h1])
           clear h1
           cases hsc:Ty.scalar kind with
           | false=>
            have HR9:Hid (154=r):=hd_ (by rw [← HRG.out,if_pos (.inl hsc)])
            have HSF:Hid (∀ W,Calls Tryz.prog 58 #[.int .i64 kind] W fun e w'=>e=.returned (.bool false)∧Below W.heap.size W w'):=hd_ (fun W=>hsc▸zbo kind W)
            clear hsc
            go_wp2_with fail
            refine (HSF.out w8).mono ?_
            rintro e w9 ⟨rfl,hb⟩
            have B9:=hd_ (zah B8.out hb)
            clear hb
            go_wp2_with fail
            go_ret
            exact ⟨zaf (HR9.out),B9.out⟩
           | true=>
            have HSF:Hid (∀ W,Calls Tryz.prog 58 #[.int .i64 kind] W fun e w'=>e=.returned (.bool true)∧Below W.heap.size W w'):=hd_ (fun W=>hsc▸zbo kind W)
            have HFI:Hid (∀ W,Below w.heap.size w W→Calls Tryz.prog 30 #[.int .i64 kind,.slice ia 1 ic] W (zbd (Rf.first kind ini) W)):=hd_ (fun W hW=>HFI0.out hsc W hW)
            have HSC:=hd_ hsc
            clear hsc
            go_wp2_with fail
            refine (HSF.out w8).mono ?_
            rintro e w9 ⟨rfl,hb⟩
            have P9:=hd_ (P8.out.below hb)
            have V9:=hd_ (V8.out.below hb)
            have B9:=hd_ (zah B8.out hb)
            clear hb
            clear p0 p1 p2 p3 p4 p5 v0 v1 v2 v3 v4 v5 v6 v7 v8 v9 kp kv
            obtain ⟨p0,p1,p2,p3,p4,p5⟩:=P9.out.cells6
            obtain ⟨v0,v1,v2,v3,v4,v5,v6,v7,v8,v9⟩:=V9.out.cells10
            have kp:=P9.out.lt
            have kv:=V9.out.lt
            go_wp2_with fail
            refine (HFI.out w9 B9.out).mono ?_
            rintro e w10 ⟨nf,rfl,_,hb⟩
            have B10:=hd_ (zah B9.out hb)
            clear hb
            obtain ⟨fb,hfb⟩:∃ x,(Rf.first kind ini).2=x:=⟨_,rfl⟩
            rw [hfb]
            cases fb with
            | true=>
             have HR9:Hid (0=r):=hd_ (by rw [← HRG.out,if_neg (show ¬ (Ty.scalar kind=false∨(ad≠[]∧((Ad.aParse ad).1=1∨(Ad.aParse ad).1=4))) from (by rw [HSC.out,HAE.out];simp)),if_neg (by rw [hfb];simp)])
             go_wp2_with fail
             go_ret
             exact ⟨zaf (HR9.out),B10.out⟩
            | false=>
             have HR9:Hid (154=r):=hd_ (by rw [← HRG.out,if_neg (show ¬ (Ty.scalar kind=false∨(ad≠[]∧((Ad.aParse ad).1=1∨(Ad.aParse ad).1=4))) from (by rw [HSC.out,HAE.out];simp)),if_pos hfb])
             go_wp2_with fail
             go_ret
             exact ⟨zaf (HR9.out),B10.out⟩
         | false=>
          have HAE:Hid (ad≠[]):=hd_ (of_decide_eq_false HAEQ.out)
          go_wp2_with fail
          refine (HPA.out w8).mono ?_
          rintro e w9 ⟨rfl,hb⟩
          have P9:=hd_ (P8.out.below hb)
          have V9:=hd_ (V8.out.below hb)
          have B9:=hd_ (zah B8.out hb)
          clear hb P8 V8 B8
          clear p0 p1 p2 p3 p4 p5 v0 v1 v2 v3 v4 v5 v6 v7 v8 v9 kp kv
          obtain ⟨p0,p1,p2,p3,p4,p5⟩:=P9.out.cells6
          obtain ⟨v0,v1,v2,v3,v4,v5,v6,v7,v8,v9⟩:=V9.out.cells10
          have kp:=P9.out.lt
          have kv:=V9.out.lt
          go_wp2_with fail
          refine (HWI.out w9).mono ?_
          rintro e w10 ⟨rfl,hb⟩
          have P10:=hd_ (P9.out.below hb)
          have V10:=hd_ (V9.out.below hb)
          have B10:=hd_ (zah B9.out hb)
          clear hb P9 V9 B9
          clear p0 p1 p2 p3 p4 p5 v0 v1 v2 v3 v4 v5 v6 v7 v8 v9 kp kv
          obtain ⟨p0,p1,p2,p3,p4,p5⟩:=P10.out.cells6
          obtain ⟨v0,v1,v2,v3,v4,v5,v6,v7,v8,v9⟩:=V10.out.cells10
          have kp:=P10.out.lt
          have kv:=V10.out.lt
          go_upto_region 17 with fail
          go_cut [131] from 109 to 131 (fun v wx=>∃ r9:Bool,v=.bool r9∧Hid (r9=true↔((Ad.aParse ad).1=0∨re=true∨Ad.aBit (Ad.aParse ad).1≠decide (kind=1)∨(Rf.width kind≠1∧Rf.width kind≠16)))∧Bl wx w.heap.size #[.string nb,.slice va ns vc,.slice (some ⟨g,0,none⟩) N uc,.bool il,.slice bda bdn bdc,.slice lna lnn lnc] 28∧Bl wx Y #[.string VN,.int .i64 kind,.int .i64 lo,.int .i64 hi,.int .i64 el,.string TN,.bool re,.string AD,.slice ia iln ic,.int .i64 at9] 54∧Below w.heap.size w wx)
          case first=>
           by_cases hq1:q1=0
           ·have e0:(q1==0)=true:=by simp [hq1]
            have HZ:=hd_ hq1
            clear hq1
            go_quiet ((go_at_call 61;exact zaT (HBT.out _)))
            go_wp2_with fail
            go_meet
            exact ⟨true,rfl,hd_ (by rw [HQ1.out];simp [HZ.out]),P10.out.below (br_.drewN _),V10.out.below (br_.drewN _),B10.out.drewN _⟩
           ·have e0:(q1==0)=false:=by simpa using hq1
            have HZ:=hd_ hq1
            clear hq1
            cases re with
            | true=>
             go_quiet ((go_at_call 61;exact zaT (HBT.out _)))
             go_wp2_with fail
             go_meet
             exact ⟨true,rfl,hd_ (by simp),P10.out.below (br_.drewN _),V10.out.below (br_.drewN _),B10.out.drewN _⟩
            | false=>
             obtain ⟨kb,hkb⟩:∃ x,(kind==1)=x:=⟨_,rfl⟩
             have HKB:Hid (decide (kind=1)=kb):=hd_ (by rw [← hkb];rfl)
             have HBB:=hd_ hbt.out
             cases bt with
             | true=>
              cases kb with
              | true=>
               by_cases hw1:wd=1
               ·have e1:(wd != 1)=false:=by simp [hw1]
                have HW1:=hd_ hw1
                clear hw1
                go_quiet ((go_at_call 61;exact zaT (HBT.out _)))
                go_wp2_with fail
                go_meet
                exact ⟨false,rfl,hd_ (by rw [HQ1.out,HBB.out,HKB.out,hwd.out];simp [HZ.out,HW1.out]),P10.out.below (br_.drewN _),V10.out.below (br_.drewN _),B10.out.drewN _⟩
               ·have e1:(wd != 1)=true:=by simpa using hw1
                by_cases hw6:wd=16
                ·have e6:(wd != 16)=false:=by simp [hw6]
                 have HW6:=hd_ hw6
                 clear hw1 hw6
                 go_quiet ((go_at_call 61;exact zaT (HBT.out _)))
                 go_wp2_with fail
                 go_meet
                 exact ⟨false,rfl,hd_ (by rw [HQ1.out,HBB.out,HKB.out,hwd.out];simp [HZ.out,HW6.out]),P10.out.below (br_.drewN _),V10.out.below (br_.drewN _),B10.out.drewN _⟩
                ·have e6:(wd != 16)=true:=by simpa using hw6
                 have HW6:=hd_ (And.intro hw1 hw6)
                 clear hw1 hw6
                 go_quiet ((go_at_call 61;exact zaT (HBT.out _)))
                 go_wp2_with fail
                 go_meet
                 exact ⟨true,rfl,hd_ (by rw [HQ1.out,HBB.out,HKB.out,hwd.out];simp [HW6.out.1,HW6.out.2]),P10.out.below (br_.drewN _),V10.out.below (br_.drewN _),B10.out.drewN _⟩
              | false=>
               go_quiet ((go_at_call 61;exact zaT (HBT.out _)))
               go_wp2_with fail
               go_meet
               exact ⟨true,rfl,hd_ (by rw [HQ1.out,HBB.out,HKB.out];simp),P10.out.below (br_.drewN _),V10.out.below (br_.drewN _),B10.out.drewN _⟩
             | false=>
              cases kb with
              | true=>
               go_quiet ((go_at_call 61;exact zaT (HBT.out _)))
               go_wp2_with fail
               go_meet
               exact ⟨true,rfl,hd_ (by rw [HQ1.out,HBB.out,HKB.out];simp),P10.out.below (br_.drewN _),V10.out.below (br_.drewN _),B10.out.drewN _⟩
              | false=>
               by_cases hw1:wd=1
               ·have e1:(wd != 1)=false:=by simp [hw1]
                have HW1:=hd_ hw1
                clear hw1
                go_quiet ((go_at_call 61;exact zaT (HBT.out _)))
                go_wp2_with fail
                go_meet
                exact ⟨false,rfl,hd_ (by rw [HQ1.out,HBB.out,HKB.out,hwd.out];simp [HZ.out,HW1.out]),P10.out.below (br_.drewN _),V10.out.below (br_.drewN _),B10.out.drewN _⟩
               ·have e1:(wd != 1)=true:=by simpa using hw1
                by_cases hw6:wd=16
                ·have e6:(wd != 16)=false:=by simp [hw6]
                 have HW6:=hd_ hw6
                 clear hw1 hw6
                 go_quiet ((go_at_call 61;exact zaT (HBT.out _)))
                 go_wp2_with fail
                 go_meet
                 exact ⟨false,rfl,hd_ (by rw [HQ1.out,HBB.out,HKB.out,hwd.out];simp [HZ.out,HW6.out]),P10.out.below (br_.drewN _),V10.out.below (br_.drewN _),B10.out.drewN _⟩
                ·have e6:(wd != 16)=true:=by simpa using hw6
                 have HW6:=hd_ (And.intro hw1 hw6)
                 clear hw1 hw6
                 go_quiet ((go_at_call 61;exact zaT (HBT.out _)))
                 go_wp2_with fail
                 go_meet
                 exact ⟨true,rfl,hd_ (by rw [HQ1.out,HBB.out,HKB.out,hwd.out];simp [HW6.out.1,HW6.out.2]),P10.out.below (br_.drewN _),V10.out.below (br_.drewN _),B10.out.drewN _⟩
          case rest=>
           obtain ⟨r9,rfl,HC,hP,hV,hB⟩:=hcut
           obtain ⟨w11,hwc⟩:∃ x,wc=x:=⟨_,rfl⟩
           rw [hwc] at hP hV hB ⊢
           clear hwc P10 V10 B10 p0 p1 p2 p3 p4 p5 v0 v1 v2 v3 v4 v5 v6 v7 v8 v9 kp kv
           have P11:=hd_ hP
           have V11:=hd_ hV
           have B11:=hd_ hB
           clear hP hV hB
           cases r9 with
           | true=>
            have hC:=HC.out.1 rfl
            have HR9:Hid (153=r):=hd_ (by rw [← HR4.out,if_pos (show ad≠[]∧((Ad.aParse ad).1=0∨re=true∨Ad.aBit (Ad.aParse ad).1≠decide (kind=1)∨(Rf.width kind≠1∧Rf.width kind≠16)) from ⟨HAE.out,hC⟩)])
            clear hC HC
            go_wp2_with fail
            go_ret
            exact ⟨zaf (HR9.out),B11.out⟩
           | false=>
            have hC:¬ ((Ad.aParse ad).1=0∨re=true∨Ad.aBit (Ad.aParse ad).1≠decide (kind=1)∨(Rf.width kind≠1∧Rf.width kind≠16)):=fun h=>by have:=HC.out.2 h;cases this
            have HR5:Hid ((if ad≠[]∧ad ∈ (d.vars.take i).map PVar.addr then (151:Int) else if ini=none then (0:Int) else if Ty.scalar kind=false∨(ad≠[]∧((Ad.aParse ad).1=1∨(Ad.aParse ad).1=4)) then (154:Int) else if (Rf.first kind ini).2=false then (154:Int) else 0)=r):=hd_ (by rw [← HR4.out,if_neg (show ¬ (ad≠[]∧((Ad.aParse ad).1=0∨re=true∨Ad.aBit (Ad.aParse ad).1≠decide (kind=1)∨(Rf.width kind≠1∧Rf.width kind≠16))) from fun h=>hC h.2)])
            clear hC HC HR4
            go_wp2_with fail
            go_loopw [9] (fun v9 wr=>RRel (∃ q:Nat,q≤i∧v9=.int .i64 q∧Hid (∀ m,m < q→∀ u,d.vars[m]? = some u→u.addr≠ad)∧Hid (Bl wr w.heap.size #[.string nb,.slice va ns vc,.slice (some ⟨g,0,none⟩) N uc,.bool il,.slice bda bdn bdc,.slice lna lnn lnc] 28)∧Hid (Bl wr Y #[.string VN,.int .i64 kind,.int .i64 lo,.int .i64 hi,.int .i64 el,.string TN,.bool re,.string AD,.slice ia iln ic,.int .i64 at9] 54)∧Hid (Below w.heap.size w wr))) (fun v9 _=>i - (intOf v9).toNat)
            case atStart=>exact RRel.mk ⟨0,Nat.zero_le _,rfl,hd_ (fun m hm=>absurd hm (Nat.not_lt_zero _)),P11,V11,B11⟩
            case round=>
             obtain ⟨q,hq,rfl,HQ,P12,V12,B12⟩:=hrel.it
             clear hrel P11 V11 B11
             obtain ⟨w12,rfl⟩:∃ w9,w9=wr:=⟨_,rfl⟩
             by_cases hlt:q < i
             ·obtain ⟨u,hu⟩:∃ u,d.vars[q]? = some u:=⟨d.vars[q]'(by have:=HIN.out;omega),by rw [List.getElem?_eq_getElem]⟩
              obtain ⟨rwu,huv,hucells⟩:=HRW.out.get hu
              obtain ⟨u0,u1,u2,u3,u4,u5,u6,u7,ua,ul,uq,u9,rfl⟩:=huv.shape
              have HUN:Hid (u.addr=u7.data.toList):=hd_ (by
               obtain ⟨v,h1,_⟩:=huv
               simp only [List.cons.injEq,Value.string.injEq] at h1
               rw [h1.2.2.2.2.2.2.2.1])
              have dq:=HCA.out (q*10+7) _ ((hucells 7 (by omega)).trans rfl)
              try simp only [Nat.add_zero] at dq
              replace dq:=zab B12.out dq
              have kg:=zac dq
              have z0:0≤(q:Int):=by omega
              have z1:(q:Int) < i:=by omega
              have z1':(q:Int) < N:=by have:=HIN.out;omega
              have z2:(q:Int).toNat=q:=by omega
              have z3:IntKind.i64.wrap ((q:Int)+1)=(q:Int)+1:=IntWalk.i64_in _ (by omega)
              have HUQ:=hd_ hu
              obtain ⟨dd,hdd⟩:∃ dd,(u7.toList==AD.toList)=dd:=⟨_,rfl⟩
              clear huv hucells hu
              obtain ⟨p0,p1,p2,p3,p4,p5⟩:=P12.out.cells6
              obtain ⟨v0,v1,v2,v3,v4,v5,v6,v7,v8,v9⟩:=V12.out.cells10
              have kp:=P12.out.lt
              have kv:=V12.out.lt
              cases dd with
              | true=>
               have HEQ:Hid (u.addr=ad):=hd_ (by rw [HUN.out,(zav u7 AD).1 hdd];exact ADl.out)
               have HMEM:Hid (ad ∈ (d.vars.take i).map PVar.addr):=hd_ (List.mem_map.2 ⟨u,List.mem_of_getElem? (by rw [List.getElem?_take,if_pos hlt];exact HUQ.out),HEQ.out⟩)
               have HR2:Hid (151=r):=hd_ (by rw [← HR5.out,if_pos (show ad≠[]∧ad ∈ (d.vars.take i).map PVar.addr from ⟨HAE.out,HMEM.out⟩)])
               clear hlt
               go_upto_region 22 with fail
               go_quiet (fail)
               go_wp2_with fail
               go_ret
               exact ⟨zaf HR2.out,B12.out.drewN _⟩
              | false=>
               have HNE:Hid (∀ m,m < q+1→∀ u,d.vars[m]? = some u→u.addr≠ad):=hd_ (fun m hm u' hu'=>by
                rcases Nat.lt_succ_iff_lt_or_eq.1 hm with h | h
                ·exact HQ.out m h u' hu'
                ·subst h
                 have:=hu'.symm.trans HUQ.out
                 injection this with this
                 subst this
                 intro h2
                 have h3:(u7.toList==AD.toList)=true:=(zav u7 AD).2 (ByteArray.ext (Array.toList_inj.1 (by rw [← HUN.out,h2];exact ADl.out.symm)))
                 rw [hdd] at h3;cases h3)
               clear hlt
               go_upto_region 22 with fail
               go_quiet (fail)
               go_wp2_with fail
               go_roundw
               case rel=>exact RRel.mk ⟨q+1,by omega,by simp,HNE,hd_ (P12.out.below (br_.drewN _)),hd_ (V12.out.below (br_.drewN _)),hd_ (B12.out.drewN _)⟩
               case measure=>simp [intOf];omega
             ·have z1:¬ (q:Int) < i:=by omega
              have HNM:Hid (¬ ad ∈ (d.vars.take i).map PVar.addr):=hd_ (fun h=>by
               obtain ⟨u,hu,hn⟩:=List.mem_map.1 h
               obtain ⟨m,hm⟩:=List.getElem?_of_mem hu
               rw [List.getElem?_take] at hm
               split at hm
               ·exact HQ.out m (by omega) u hm hn
               ·cases hm)
              clear hlt HQ
              have HRF:Hid ((if ini=none then (0:Int) else if Ty.scalar kind=false∨(ad≠[]∧((Ad.aParse ad).1=1∨(Ad.aParse ad).1=4)) then (154:Int) else if (Rf.first kind ini).2=false then (154:Int) else 0)=r):=hd_ (by rw [← HR5.out,if_neg (show ¬ (ad≠[]∧ad ∈ (d.vars.take i).map PVar.addr) from fun h=>HNM.out h.2)])
              clear HR5 HNM
              obtain ⟨p0,p1,p2,p3,p4,p5⟩:=P12.out.cells6
              obtain ⟨v0,v1,v2,v3,v4,v5,v6,v7,v8,v9⟩:=V12.out.cells10
              have kp:=P12.out.lt
              have kv:=V12.out.lt
              obtain ⟨in0,hin0⟩:∃ x:Bool,(ini=none:Prop)∧iln=0∧x=true∨(ini≠none∧iln=1∧x=false):=by
               have h:=HIL.out
               cases ini with
               | none=>exact ⟨true,.inl ⟨rfl,by simpa using h,rfl⟩⟩
               | some i9=>exact ⟨false,.inr ⟨by simp,by simpa using h,rfl⟩⟩
              rcases hin0 with ⟨h1,rfl,-⟩ | ⟨h1,rfl,-⟩
              ·have HR9:Hid (0=r):=hd_ (by rw [← HRF.out,if_pos h1])
               clear h1
               go_wp2_with fail
               go_ret
               exact ⟨zaf (HR9.out),B12.out⟩
              ·have HRG:Hid ((if Ty.scalar kind=false∨(ad≠[]∧((Ad.aParse ad).1=1∨(Ad.aParse ad).1=4)) then (154:Int) else if (Rf.first kind ini).2=false then 154 else 0)=r):=hd_ (by rw [← HRF.out,if_neg h1])
               clear h1
               cases hsc:Ty.scalar kind with
               | false=>
                have HR9:Hid (154=r):=hd_ (by rw [← HRG.out,if_pos (.inl hsc)])
                have HSF:Hid (∀ W,Calls Tryz.prog 58 #[.int .i64 kind] W fun e w'=>e=.returned (.bool false)∧Below W.heap.size W w'):=hd_ (fun W=>hsc▸zbo kind W)
                clear hsc
                go_wp2_with fail
                refine (HSF.out w12).mono ?_
                rintro e w13 ⟨rfl,hb⟩
                have B13:=hd_ (zah B12.out hb)
                clear hb
                go_wp2_with fail
                go_ret
                exact ⟨zaf (HR9.out),B13.out⟩
               | true=>
                have HSF:Hid (∀ W,Calls Tryz.prog 58 #[.int .i64 kind] W fun e w'=>e=.returned (.bool true)∧Below W.heap.size W w'):=hd_ (fun W=>hsc▸zbo kind W)
                have HFI:Hid (∀ W,Below w.heap.size w W→Calls Tryz.prog 30 #[.int .i64 kind,.slice ia 1 ic] W (zbd (Rf.first kind ini) W)):=hd_ (fun W hW=>HFI0.out hsc W hW)
                have HSC:=hd_ hsc
                clear hsc
                go_wp2_with fail
                refine (HSF.out w12).mono ?_
                rintro e w13 ⟨rfl,hb⟩
                have P13:=hd_ (P12.out.below hb)
                have V13:=hd_ (V12.out.below hb)
                have B13:=hd_ (zah B12.out hb)
                clear hb
                clear p0 p1 p2 p3 p4 p5 v0 v1 v2 v3 v4 v5 v6 v7 v8 v9 kp kv
                obtain ⟨p0,p1,p2,p3,p4,p5⟩:=P13.out.cells6
                obtain ⟨v0,v1,v2,v3,v4,v5,v6,v7,v8,v9⟩:=V13.out.cells10
                have kp:=P13.out.lt
                have kv:=V13.out.lt
                by_cases ha1:q1=1
                ·have HR9:Hid (154=r):=hd_ (by rw [← HRG.out,if_pos (.inr ⟨HAE.out,.inl (by rw [HQ1.out];exact ha1)⟩)])
                 have e1:(q1==1)=true:=by simp [ha1]
                 clear ha1
                 go_wp2_with fail
                 go_ret
                 exact ⟨zaf (HR9.out),B13.out⟩
                ·have e1:(q1==1)=false:=by simpa using ha1
                 by_cases ha4:q1=4
                 ·have HR9:Hid (154=r):=hd_ (by rw [← HRG.out,if_pos (.inr ⟨HAE.out,.inr (by rw [HQ1.out];exact ha4)⟩)])
                  have e4:(q1==4)=true:=by simp [ha4]
                  clear ha4 ha1
                  go_wp2_with fail
                  go_ret
                  exact ⟨zaf (HR9.out),B13.out⟩
                 ·have e4:(q1==4)=false:=by simpa using ha4
                  have HNA:Hid (¬ (Ty.scalar kind=false∨(ad≠[]∧((Ad.aParse ad).1=1∨(Ad.aParse ad).1=4)))):=hd_ (by
                   rw [HSC.out]
                   rintro (h | ⟨-,h⟩)
                   ·cases h
                   ·rw [HQ1.out] at h;omega)
                  clear ha1 ha4
                  go_wp2_with fail
                  refine (HFI.out w13 B13.out).mono ?_
                  rintro e w14 ⟨nf,rfl,_,hb⟩
                  have B14:=hd_ (zah B13.out hb)
                  clear hb
                  obtain ⟨fb,hfb⟩:∃ x,(Rf.first kind ini).2=x:=⟨_,rfl⟩
                  rw [hfb]
                  cases fb with
                  | true=>
                   have HR9:Hid (0=r):=hd_ (by rw [← HRG.out,if_neg (show ¬ (Ty.scalar kind=false∨(ad≠[]∧((Ad.aParse ad).1=1∨(Ad.aParse ad).1=4))) from HNA.out),if_neg (by rw [hfb];simp)])
                   go_wp2_with fail
                   go_ret
                   exact ⟨zaf (HR9.out),B14.out⟩
                  | false=>
                   have HR9:Hid (154=r):=hd_ (by rw [← HRG.out,if_neg (show ¬ (Ty.scalar kind=false∨(ad≠[]∧((Ad.aParse ad).1=1∨(Ad.aParse ad).1=4))) from HNA.out),if_pos hfb])
                   go_wp2_with fail
                   go_ret
                   exact ⟨zaf (HR9.out),B14.out⟩
end Go.Proofs.YtdpkjpjkdmkkpaaGreatDoor
