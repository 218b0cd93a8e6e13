/- The walks through the Types statements' parsed and known. -/
import Derived.Test.YtdpkjpjkdmkkpaaGreatDoorNB
set_option maxRecDepth 100000
set_option maxHeartbeats 16000000
namespace Go.Proofs.YtdpkjpjkdmkkpaaGreatDoor
open Ad Go.RowKit Lx Pa
theorem zaF.form {w:World} {P:Nat→Prop} {il:Bool} {d:zaQ} {row:List Value} (h:zaF w P il d row) :
  ∃ nb va vn vc ua un uc bda bdn bdc lna lnn lnc,row=[.string nb,.slice va vn vc,.slice ua un uc,.bool il,.slice bda bdn bdc,.slice lna lnn lnc]:=by
 obtain ⟨vs,vv,bda,bdn,bdc,lna,lnn,lnc,rfl,hss,⟨cs,hsl,_⟩⟩:=h
 obtain ⟨va,vn,vc,rfl⟩:=hss.shape
 obtain ⟨ua,uc,rfl,_⟩:=hsl.form
 exact ⟨_,_,_,_,_,_,_,_,_,_,_,_,_,rfl⟩
def zcZ (d:zaQ) (w:World) (e:Ending) (w':World):Prop:=∃ row,e=.returned (.agg row.toArray)∧zaF w' (Btw w.heap.size w'.heap.size) false d row∧Below w.heap.size w w'
theorem zgq {x:ByteArray} {ts:List Tok} {d:zaQ} (hts:zaP x.data.toList false=.ok ts) (hok:POk ts d) (hs:x.size≤65536) (w:World) :
  Calls Tryz.prog 24 #[.string x] w (zcZ d w):=by
 have HC:=hd_ (fun W=>zk6 hts hok hs W)
 clear hts hok hs
 go_enter Tryz.func24,Tryz.ntmps24
 go_wp2_with fail
 refine (HC.out _).mono ?_
 rintro e w1 ⟨row,rfl,hd,hb⟩
 obtain ⟨nb,va,vn,vc,ua,un,uc,bda,bdn,bdc,lna,lnn,lnc,rfl⟩:=hd.form
 have D1:=hd_ hd
 have B1:=hd_ hb
 have R1:=hd_ ((Bl.new w #[.string ⟨#[]⟩,.slice none 0 0,.slice none 0 0,.bool false,.slice none 0 0,.slice none 0 0] 28).below hb)
 have BW:Hid (Below w.heap.size w w1):=hd_ (zal (br_.alloc nl_ _) hb (by simp))
 have kr:=R1.out.lt
 clear hd hb HC
 go_upto_region 2 with fail
 refine zaa (P:=Code.wp _ _ _ _) (F:=fun W=>Bl W w.heap.size #[.string ⟨#[]⟩,.slice none 0 0,.slice none 0 0,.bool false,.slice none 0 0,.slice none 0 0] 28∧Bl W w1.heap.size #[.string nb,.slice va vn vc,.slice ua un uc,.bool false,.slice bda bdn bdc,.slice lna lnn lnc] 28∧Only w.heap.size w1 W)
  ⟨R1.out.alloc _,Bl.new w1 _ _,zby _ _ _⟩ ?_
 intro w2 ⟨R2,P2,O2⟩
 have O2:=hd_ O2
 obtain ⟨q0,q1,q2,q3,q4,q5⟩:=P2.cells6
 obtain ⟨r0,r1,r2,r3,r4,r5⟩:=R2.cells6
 obtain ⟨g0,g1,g2,g3,g4,g5⟩:=R2.free6
 have k2:=R2.lt
 have k3:=P2.lt
 have R2:=hd_ R2
 clear P2
 go_wp2_with fail
 refine zaa (P:=bodyPost _ _ _ _ _) (F:=fun W=>Bl W w.heap.size #[.string nb,.slice va vn vc,.slice ua un uc,.bool false,.slice bda bdn bdc,.slice lna lnn lnc] 28∧Only w.heap.size w1 W)
  ⟨R2.out.set6,(((((O2.out.setCell _ _).setCell _ _).setCell _ _).setCell _ _).setCell _ _).setCell _ _⟩ ?_
 clear q0 q1 q2 q3 q4 q5 r0 r1 r2 r3 r4 r5 g0 g1 g2 g3 g4 g5 k2 k3
 intro wz ⟨RZ,OZ⟩
 obtain ⟨r0,r1,r2,r3,r4,r5⟩:=RZ.cells6
 refine bodyPost_ret (v:=.agg #[.string nb,.slice va vn vc,.slice ua un uc,.bool false,.slice bda bdn bdc,.slice lna lnn lnc]) (by simp [results,Tryz.results24,go_sem, *]) rfl ?_
 refine ⟨_,rfl,D1.out.keeps ⟨OZ.sameOn (fun h=>by have:=h.1;simp at this <;> omega),fun a ha=>⟨by have:=ha.1;simp at this;omega,ll_ ha.2 OZ.size⟩⟩,BW.out.trans (OZ.below nl_ BW.out.size)⟩
structure zmU (x:ByteArray) (d:zaQ) (l:List Ty.Cell):Prop where
 run:∀ w,Calls Tryz.prog 24 #[.string x] w (zcZ d w)
 ok:zbj d
 check:Ty.check d.structs d.vars=none
 cells:Ty.cells d.structs d.vars=l
 len:l.length=12
 c0:∃ c,l[0]? = some c∧c.index=2
 c10:∃ c,l[10]? = some c∧c.init=3
 c11:∃ c,l[11]? = some c∧c.retain=true
 find:Ty.find d.structs d.vars [116] [69,84] 0=6
 field:Ty.fieldOf d.structs 0 [84,79,78] [69,84]=(11,true)
theorem zhM:∃ d l,zmU zes d l:=
 ⟨zbI zes,zba,⟨fun w=>zgq (zcM zin) (zgo zin) (of_decide_eq_true (by kernel_rfl)) w,zi7,zgg,rfl,zcJ,zkU,zjA,zjB,ziJ,zhj⟩⟩
theorem zhN:∃ d,(∀ w,Calls Tryz.prog 24 #[.string zi8] w (zcZ d w))∧zbj d∧Ty.check d.structs d.vars=some (23,151):=
 ⟨zbI zi8,fun w=>zgq (zcM zio) (zgo zio) (of_decide_eq_true (by kernel_rfl)) w,zi9,zgh⟩
theorem zkT (w:World) (he:TEnv w):Calls Tryz.prog 8 #[] w fun e w'=>e=.returned (.bool true)∧Below w.heap.size w w':=by
 obtain ⟨d,l,K⟩:=zhM
 obtain ⟨d2,hd2,ok2,ck2⟩:=zhN
 have HK:=hd_ K
 have HQ:=hd_ (And.intro hd2 (And.intro ok2 ck2))
 have HE:=hd_ he
 clear K hd2 ok2 ck2 he
 go_enter Tryz.func8,Tryz.ntmps8
 go_wp2_with fail
 refine (HK.out.run w).mono ?_
 rintro e w1 ⟨row,rfl,hd,hb⟩
 obtain ⟨nb,va,vn,vc,ua,un,uc,bda,bdn,bdc,lna,lnn,lnc,rfl⟩:=hd.form
 have D1:=hd_ hd
 have B1:=hd_ hb
 clear hd hb
 go_upto_region 2 with fail
 refine zaa (P:=Code.wp _ _ _ _) (F:=fun W=>Bl W w1.heap.size #[.string nb,.slice va vn vc,.slice ua un uc,.bool false,.slice bda bdn bdc,.slice lna lnn lnc] 28∧zaF W (Btw w.heap.size w1.heap.size) false d [.string nb,.slice va vn vc,.slice ua un uc,.bool false,.slice bda bdn bdc,.slice lna lnn lnc]∧Below w.heap.size w W)
  ⟨Bl.new w1 _ _,D1.out.keeps ⟨Only.sameOn (b:=w1.heap.size) (zby w1.heap.size w1 _) (fun h=>by have:=h.2;omega),fun _ h=>h⟩,B1.out.alloc B1.out.size _⟩ ?_
 clear D1 B1
 intro w2 ⟨P2,D2,B2⟩
 obtain ⟨X,hX⟩:∃ X,w1.heap.size=X:=⟨_,rfl⟩
 rw [hX] at P2 D2 ⊢
 clear hX
 have HX2:Hid (∀ a,Btw w.heap.size X a→a < w2.heap.size):=hd_ (fun a ha=>Nat.lt_trans ha.2 P2.lt)
 have P2:=hd_ P2
 have D2:=hd_ D2
 have B2:=hd_ B2
 obtain ⟨q0,q1,q2,q3,q4,q5⟩:=P2.out.cells6
 have kp:=P2.out.lt
 go_wp2_with fail
 refine (zgV HK.out.cells HK.out.ok w2 HX2.out (HE.out.lex.below B2.out) D2.out).mono ?_
 rintro e w3 ⟨cv,rfl,hc,hb⟩
 rw [HK.out.len] at hc
 obtain ⟨g,cp,rfl,_,_⟩:=hc.form (by omega)
 have A3:Hid (w3.cell? ⟨g,2,none⟩=some (.int .i64 2)∧w3.cell? ⟨g,87,none⟩=some (.int .i64 3)∧w3.cell? ⟨g,92,none⟩=some (.bool true)):=hd_ (by
  obtain ⟨c0,h0,hi0⟩:=HK.out.c0
  obtain ⟨c10,h10,hi10⟩:=HK.out.c10
  obtain ⟨c11,h11,hi11⟩:=HK.out.c11
  refine ⟨?_,?_,?_⟩
  ·have h:=hc.cells (g:=g) rfl 2 _ (zao h0 (j:=2) rfl)
   rw [hi0] at h
   simpa [Addr.add] using h
  ·have h:=hc.cells (g:=g) rfl 87 _ (zao h10 (j:=7) rfl)
   rw [hi10] at h
   simpa [Addr.add] using h
  ·have h:=hc.cells (g:=g) rfl 92 _ (zao h11 (j:=4) rfl)
   rw [hi11] at h
   simpa [Addr.add] using h)
 have P3:=hd_ (P2.out.below hb)
 have D3:=hd_ (D2.out.keeps (zai hb))
 have HX3:Hid (∀ a,Btw w.heap.size X a→a < w3.heap.size):=hd_ (fun a ha=>ll_ (HX2.out a ha) hb.size)
 have B3:=hd_ (zah B2.out hb)
 clear hc hb P2 D2 B2 HX2
 clear q0 q1 q2 q3 q4 q5 kp
 go_wp2_with fail
 refine (HQ.out.1 w3).mono ?_
 rintro e w4 ⟨row2,rfl,hd,hb⟩
 obtain ⟨nb2,va2,vn2,vc2,ua2,un2,uc2,bda2,bdn2,bdc2,lna2,lnn2,lnc2,rfl⟩:=hd.form
 have E4:=hd_ hd
 have B4:=hd_ hb
 clear hd hb
 go_upto_region 4 with fail
 refine zaa (P:=Code.wp _ _ _ _) (F:=fun W=>Bl W w4.heap.size #[.string nb2,.slice va2 vn2 vc2,.slice ua2 un2 uc2,.bool false,.slice bda2 bdn2 bdc2,.slice lna2 lnn2 lnc2] 28∧zaF W (Btw w3.heap.size w4.heap.size) false d2 [.string nb2,.slice va2 vn2 vc2,.slice ua2 un2 uc2,.bool false,.slice bda2 bdn2 bdc2,.slice lna2 lnn2 lnc2]∧Below w3.heap.size w3 W)
  ⟨Bl.new w4 _ _,E4.out.keeps ⟨Only.sameOn (b:=w4.heap.size) (zby w4.heap.size w4 _) (fun h=>by have:=h.2;omega),fun _ h=>h⟩,B4.out.alloc B4.out.size _⟩ ?_
 clear E4 B4
 intro w5 ⟨Q5,E5,hb⟩
 obtain ⟨Y,hY⟩:∃ Y,w4.heap.size=Y:=⟨_,rfl⟩
 rw [hY] at Q5 E5 ⊢
 clear hY
 have E5:=hd_ E5
 obtain ⟨q0,q1,q2,q3,q4,q5⟩:=Q5.cells6
 have kp:=Q5.lt
 clear Q5
 have P5:=hd_ (P3.out.below hb)
 have D5:=hd_ (D3.out.keeps (zai hb))
 have A5:=hd_ (And.intro (zab hb A3.out.1) (And.intro (zab hb A3.out.2.1) (zab hb A3.out.2.2)))
 have HX5:Hid (∀ a,Btw w.heap.size X a→a < w5.heap.size):=hd_ (fun a ha=>ll_ (HX3.out a ha) hb.size)
 have B5:=hd_ (zah B3.out hb)
 clear hb P3 D3 A3 HX3 B3
 go_wp2_with fail
 refine (zcX HQ.out.2.2 HQ.out.2.1 w5 (HE.out.lex.below B5.out) E5.out).mono ?_
 rintro e w6 ⟨ev,rfl,⟨pp,rfl,hp⟩,hb⟩
 clear E5
 clear q0 q1 q2 q3 q4 q5 kp
 have P6:=hd_ (P5.out.below hb)
 have D6:=hd_ (D5.out.keeps (zai hb))
 have A6:=hd_ (And.intro (zab hb A5.out.1) (And.intro (zab hb A5.out.2.1) (zab hb A5.out.2.2)))
 have HX6:Hid (∀ a,Btw w.heap.size X a→a < w6.heap.size):=hd_ (fun a ha=>ll_ (HX5.out a ha) hb.size)
 have B6:=hd_ (zah B5.out hb)
 clear hb P5 D5 A5 HX5 B5
 have HPP:=hd_ hp
 clear hp
 go_wp2_with fail
 refine (ze6 w6 (HE.out.hnd.below B6.out) HPP.out).mono ?_
 rintro e w7 ⟨rfl,hb⟩
 clear HPP
 have P7:=hd_ (P6.out.below hb)
 have D7:=hd_ (D6.out.keeps (zai hb))
 have A7:=hd_ (And.intro (zab hb A6.out.1) (And.intro (zab hb A6.out.2.1) (zab hb A6.out.2.2)))
 have HX7:Hid (∀ a,Btw w.heap.size X a→a < w7.heap.size):=hd_ (fun a ha=>ll_ (HX6.out a ha) hb.size)
 have B7:=hd_ (zah B6.out hb)
 clear hb P6 D6 A6 HX6 B6
 obtain ⟨q0,q1,q2,q3,q4,q5⟩:=P7.out.cells6
 have kp:=P7.out.lt
 go_wp2_with fail
 refine (zhO (TN:=⟨#[84,79,78]⟩) (Q:=⟨#[69,84]⟩) HK.out.field w7 (HE.out.lex.below B7.out) D7.out HK.out.ok.few (fun s hs=>(HK.out.ok.strs s hs).few)).mono ?_
 rintro e w8 ⟨rfl,hb⟩
 clear q0 q1 q2 q3 q4 q5 kp
 have P8:=hd_ (P7.out.below hb)
 have D8:=hd_ (D7.out.keeps (zai hb))
 have A8:=hd_ (And.intro (zab hb A7.out.1) (And.intro (zab hb A7.out.2.1) (zab hb A7.out.2.2)))
 have HX8:Hid (∀ a,Btw w.heap.size X a→a < w8.heap.size):=hd_ (fun a ha=>ll_ (HX7.out a ha) hb.size)
 have B8:=hd_ (zah B7.out hb)
 clear hb P7 D7 A7 HX7 B7
 go_wp2_with fail
 refine (zeu ⟨#[67,84,85]⟩ w8 (HE.out.lex.below B8.out)).mono ?_
 rintro e w9 ⟨v1,v2,rfl,ho1,ho2,hb⟩
 rw [show (Ty.insOf (⟨#[67,84,85]⟩:ByteArray).data.toList).length=3 from zjC] at ho1
 rw [show (Ty.outsOf (⟨#[67,84,85]⟩:ByteArray).data.toList).length=2 from ziK] at ho2
 obtain ⟨g1,cp1,rfl,_,_⟩:=ho1.form (by omega)
 obtain ⟨g2,cp2,rfl,_,_⟩:=ho2.form (by omega)
 clear ho1 ho2
 have P9:=hd_ (P8.out.below hb)
 have D9:=hd_ (D8.out.keeps (zai hb))
 have A9:=hd_ (And.intro (zab hb A8.out.1) (And.intro (zab hb A8.out.2.1) (zab hb A8.out.2.2)))
 have HX9:Hid (∀ a,Btw w.heap.size X a→a < w9.heap.size):=hd_ (fun a ha=>ll_ (HX8.out a ha) hb.size)
 have B9:=hd_ (zah B8.out hb)
 clear hb P8 D8 A8 HX8 B8
 obtain ⟨q0,q1,q2,q3,q4,q5⟩:=P9.out.cells6
 have kp:=P9.out.lt
 go_wp2_with fail
 refine (zcX HK.out.check HK.out.ok w9 (HE.out.lex.below B9.out) D9.out).mono ?_
 rintro e w10 ⟨ev2,rfl,hev,hb⟩
 have hev2:ev2=.nilIface:=hev
 subst hev2
 clear hev
 clear q0 q1 q2 q3 q4 q5 kp
 have P10:=hd_ (P9.out.below hb)
 have D10:=hd_ (D9.out.keeps (zai hb))
 have A10:=hd_ (And.intro (zab hb A9.out.1) (And.intro (zab hb A9.out.2.1) (zab hb A9.out.2.2)))
 have HX10:Hid (∀ a,Btw w.heap.size X a→a < w10.heap.size):=hd_ (fun a ha=>ll_ (HX9.out a ha) hb.size)
 have B10:=hd_ (zah B9.out hb)
 clear hb P9 D9 A9 HX9 B9
 obtain ⟨q0,q1,q2,q3,q4,q5⟩:=P10.out.cells6
 have kp:=P10.out.lt
 obtain ⟨a0,a1,a2⟩:=A10.out
 have ka:=zac a0
 go_wp2_with fail
 refine (zll (NM:=⟨#[116]⟩) (FD:=⟨#[69,84]⟩) HK.out.find HK.out.ok w10 HX10.out (HE.out.lex.below B10.out) D10.out).mono ?_
 rintro e w11 ⟨rfl,hb⟩
 clear a0 a1 a2 ka
 clear q0 q1 q2 q3 q4 q5 kp
 have P11:=hd_ (P10.out.below hb)
 have D11:=hd_ (D10.out.keeps (zai hb))
 have A11:=hd_ (And.intro (zab hb A10.out.1) (And.intro (zab hb A10.out.2.1) (zab hb A10.out.2.2)))
 have HX11:Hid (∀ a,Btw w.heap.size X a→a < w11.heap.size):=hd_ (fun a ha=>ll_ (HX10.out a ha) hb.size)
 have B11:=hd_ (zah B10.out hb)
 clear hb P10 D10 A10 HX10 B10
 go_wp2_with fail
 refine (zcW (x:=⟨#[83,82]⟩) zkW w11).mono ?_
 rintro e w12 ⟨rfl,rfl⟩
 go_wp2_with fail
 refine (zhQ (x:=⟨#[67,84,68]⟩) (q:=⟨#[76,68]⟩) zkV w11 (HE.out.lex.below B11.out)).mono ?_
 rintro e w13 ⟨rfl,hb⟩
 have B13:=hd_ (zah B11.out hb)
 clear hb
 go_wp2_with fail
 go_ret
 exact ⟨rfl,B13.out⟩
end Go.Proofs.YtdpkjpjkdmkkpaaGreatDoor
