/- The reference's parser, weakly: named. -/
import Derived.Test.YtdpkjpjkdmkkpaaGreatDoorQC
set_option maxRecDepth 100000
set_option maxHeartbeats 16000000
namespace Go.Proofs.YtdpkjpjkdmkkpaaGreatDoor
open Go.RowKit Lx Pa
theorem Bl.set13 {W:World} {X:Nat} {T:TypeId} {v0 v1 v2 v3 v4 v5 v6 v7 v8 v9 v10 v11 v12 u0 u1 u2 u3 u4 u5 u6 u7 u8 u9 u10 u11 u12:Value} (h:Bl W X #[v0,v1,v2,v3,v4,v5,v6,v7,v8,v9,v10,v11,v12] T):Bl (((((((((((((W.setCell ⟨X,0,none⟩ u0).setCell ⟨X,1,none⟩ u1).setCell ⟨X,2,none⟩ u2).setCell ⟨X,3,none⟩ u3).setCell ⟨X,4,none⟩ u4).setCell ⟨X,5,none⟩ u5).setCell ⟨X,6,none⟩ u6).setCell ⟨X,7,none⟩ u7).setCell ⟨X,8,none⟩ u8).setCell ⟨X,9,none⟩ u9).setCell ⟨X,10,none⟩ u10).setCell ⟨X,11,none⟩ u11).setCell ⟨X,12,none⟩ u12) X #[u0,u1,u2,u3,u4,u5,u6,u7,u8,u9,u10,u11,u12] T:=by
 simpa using (((((((((((((h.set 0 u0).set 1 u1).set 2 u2).set 3 u3).set 4 u4).set 5 u5).set 6 u6).set 7 u7).set 8 u8).set 9 u9).set 10 u10).set 11 u11).set 12 u12)
def StV (v:Value):Prop:=∃ (so op kd nn:Int) (nm fl:ByteArray) (a:Option Addr) (ln c:Nat) (ta:Int) (ea:Option Addr) (en ec:Nat) (ra:Option Addr) (rn rc:Nat) (ba:Option Addr) (bn bc:Nat) (ga:Option Addr) (gn gc:Nat) (st:Int),
 v=.agg #[.int .i64 so,.int .i64 op,.int .i64 kd,.int .i64 nn,.string nm,.string fl,.slice a ln c,.int .i64 ta,.slice ea en ec,.slice ra rn rc,.slice ba bn bc,.slice ga gn gc,.int .i64 st]
theorem zjW {b g cap k:Nat} {ts:List Tok} {s:PS} (tk tkd tnn tta:Int) (tx:ByteArray) (he:s.err=0) (hlt:s.i+1 < ts.length) (hg:Pa.Good ts k s) (hk:k≤47000) (w:World) (hx:Par w b g cap ts (Pa.up s)) :
  Calls Tryz.prog 113 #[.pointer (some ⟨b,0,none⟩),.agg #[.int .i64 tk,.int .i64 tkd,.int .i64 tnn,.string tx,.int .i64 tta]] w fun e w'=>∃ v s',e=.returned v∧StV v∧(Mv ts 3 s s'∧s.i < s'.i)∧Only b w w'∧Par w' b g cap ts s':=by
 have hgu:Pa.Good ts k (Pa.up s):=⟨fun _=>hlt,by show s.i+1≤_;omega⟩
 have MU:Hid (Mv ts 0 s (Pa.up s)):=hd_ ⟨fun _ h=>⟨fun _=>hlt,by show s.i+1≤_;omega⟩,fun h=>h,by show s.i≤s.i+1;omega⟩
 have F0:=hd_ (Fr.start hx)
 have HG:=hd_ hg
 have HLE:=hd_ hx.le
 have HS:Hid (s=⟨s.i,s.err,s.at_⟩):=hd_ rfl
 obtain ⟨r,hr⟩:∃ r,is ts (Pa.up s) (⟨#[40]⟩:ByteArray).data.toList=r:=⟨_,rfl⟩
 have HIS:=hd_ (fun W hW=>zb9 (b:=b) (g:=g) (cap:=cap) hr hgu.1 W hW)
 have hbw:=hx.pb.lt
 have HLT:=hd_ hlt
 have HE0:=hd_ he
 clear hg hx hr hgu hlt he
 go_enter Tryz.func113,Tryz.ntmps113
 go_upto_region 2 with fail
 refine zaa (P:=Code.wp _ _ _ _) (F:=fun W=>Fr w b g cap ts (Pa.up s) W∧Bl W w.heap.size #[.int .i64 tk,.int .i64 tkd,.int .i64 tnn,.string tx,.int .i64 tta] 107∧Bl W (w.heap.size+1) #[.int .i64 0,.int .i64 0,.int .i64 0,.int .i64 0,.string ⟨#[]⟩,.string ⟨#[]⟩,.slice none 0 0,.int .i64 0,.slice none 0 0,.slice none 0 0,.slice none 0 0,.slice none 0 0,.int .i64 0] 154∧Bl W (w.heap.size+1+1) #[.int .i64 0,.int .i64 0,.int .i64 0,.int .i64 0,.string ⟨#[]⟩,.string ⟨#[]⟩,.slice none 0 0,.int .i64 0,.slice none 0 0,.slice none 0 0,.slice none 0 0,.slice none 0 0,.int .i64 tta] 154)
  ⟨((F0.out.alloc _).alloc _).alloc _,((Bl.new _ _ _).alloc _).alloc _,(Bl.newAt _ (by simp)).alloc _,Bl.newAt _ (by simp)⟩ ?_
 clear F0
 intro w1 ⟨F1,T1,R1,E1⟩
 obtain ⟨Y,hY⟩:∃ Y,w.heap.size+1+1=Y:=⟨_,rfl⟩
 rw [hY] at E1 ⊢
 obtain ⟨R,hR⟩:∃ Y,w.heap.size+1=Y:=⟨_,rfl⟩
 rw [hR] at R1 ⊢
 have n1:R≠b:=by omega
 have nY:Y≠b:=by omega
 have nT:w.heap.size≠b:=by omega
 have nR:R≠Y:=by omega
 have lR:w.heap.size≤R:=by omega
 have lY:w.heap.size≤Y:=by omega
 have nTY:w.heap.size≠Y:=by omega
 clear hY hR
 have F1:=hd_ F1
 have T1:=hd_ T1
 have R1:=hd_ R1
 have E1:=hd_ E1
 go_wp2_with fail
 refine (HIS.out _ F1.out.par).mono ?_
 rintro e w2 ⟨rfl,hb⟩
 have F2:=hd_ (F1.out.below hb)
 have T2:=hd_ (T1.out.below hb)
 have R2:=hd_ (R1.out.below hb)
 have E2:=hd_ (E1.out.below hb)
 clear hb F1 T1 R1 E1 HIS
 obtain ⟨q0,q1,q2,q3,q4,q5,q6,q7,q8,q9,q10,q11,q12⟩:=E2.out.cells13
 obtain ⟨g0,g1,g2,g3,g4,g5,g6,g7,g8,g9,g10,g11,g12⟩:=E2.out.free13
 have k3:=E2.out.lt
 obtain ⟨t0,t1,t2,t3,t4⟩:=T2.out.cells5
 have k5:=T2.out.lt
 clear q0 q1 q2 q3 q4 q5 q6 q7 q8 q9 q10 q11 q12 k3
 cases r with
 | true=>
  obtain ⟨q0,q1,q2,q3,q4,q5,q6,q7,q8,q9,q10,q11,q12⟩:=E2.out.cells13
  have k3:=E2.out.lt
  go_upto_region 3 with fail
  go_region
  refine zaa (P:=Exit.then _ _ _ _) (F:=fun W=>Fr w b g cap ts (Pa.up s) W∧Bl W R #[.int .i64 0,.int .i64 0,.int .i64 0,.int .i64 0,.string ⟨#[]⟩,.string ⟨#[]⟩,.slice none 0 0,.int .i64 0,.slice none 0 0,.slice none 0 0,.slice none 0 0,.slice none 0 0,.int .i64 0] 154∧Bl W Y #[.int .i64 9,.int .i64 2,.int .i64 0,.int .i64 0,.string tx,.string ⟨#[]⟩,.slice none 0 0,.int .i64 tta,.slice none 0 0,.slice none 0 0,.slice none 0 0,.slice none 0 0,.int .i64 tta] 154)
   ⟨Fr.drew ((((((((F2.out.far lY _ _).far lY _ _).far lY _ _).far lY _ _).far lY _ _).far lY _ _).far lY _ _).far lY _ _),Bl.drew ((((((((R2.out.other nR _ _).other nR _ _).other nR _ _).other nR _ _).other nR _ _).other nR _ _).other nR _ _).other nR _ _),(Bl.put13 (by simpa using E2.out.set 0 (.int .i64 9))).drew⟩ ?_
  clear q0 q1 q2 q3 q4 q5 q6 q7 q8 q9 q10 q11 q12 g0 g1 g2 g3 g4 g5 g6 g7 g8 g9 g10 g11 g12 k3 t0 t1 t2 t3 t4 k5 F2 T2 R2 E2
  intro w3 ⟨F3,R3,E3⟩
  have F3:=hd_ F3
  have R3:=hd_ R3
  have E3:=hd_ E3
  go_wp2_with fail
  refine (zii false (MU.out.good k HG.out) (by omega) w3 F3.out.par).mono ?_
  rintro e w4 ⟨v,s4,rfl,⟨ga,gn,gc,rfl⟩,hm,ho,hp⟩
  have F4:=hd_ (F3.out.call ho hp)
  have R4:=hd_ (R3.out.only ho n1)
  have E4:=hd_ (E3.out.only ho nY)
  have M4:=hd_ (MU.out.trans hm)
  have L4:Hid (s.i < s4.i):=hd_ (ll_ (by show s.i < s.i+1;omega) hm.le)
  clear hm ho hp F3 R3 E3
  have q11:=E4.out.cells13.2.2.2.2.2.2.2.2.2.2.2.1
  have g11:=E4.out.free13.2.2.2.2.2.2.2.2.2.2.2.1
  have k3:=E4.out.lt
  go_upto_region 9 with fail
  refine zaa (P:=Code.wp _ _ _ _) (F:=fun W=>Fr w b g cap ts s4 W∧Bl W R #[.int .i64 0,.int .i64 0,.int .i64 0,.int .i64 0,.string ⟨#[]⟩,.string ⟨#[]⟩,.slice none 0 0,.int .i64 0,.slice none 0 0,.slice none 0 0,.slice none 0 0,.slice none 0 0,.int .i64 0] 154∧Bl W Y #[.int .i64 9,.int .i64 2,.int .i64 0,.int .i64 0,.string tx,.string ⟨#[]⟩,.slice none 0 0,.int .i64 tta,.slice none 0 0,.slice none 0 0,.slice none 0 0,.slice ga gn gc,.int .i64 tta] 154)
   ⟨F4.out.far lY _ _,R4.out.other nR _ _,by simpa using E4.out.set 11 (.slice ga gn gc)⟩ ?_
  clear q11 g11 k3 F4 R4 E4
  intro w5 ⟨F5,R5,E5⟩
  have F5:=hd_ F5
  have R5:=hd_ R5
  have E5:=hd_ E5
  go_wp2_with fail
  refine (zan ⟨#[59]⟩ (M4.out.good k HG.out) (by omega) F5.out.par).mono ?_
  rintro e w6 ⟨_,s6,rfl,rfl,hm,ho,hp⟩
  have F6:=hd_ (F5.out.call ho hp)
  have R6:=hd_ (R5.out.only ho n1)
  have E6:=hd_ (E5.out.only ho nY)
  have M6:=hd_ ((M4.out.trans hm).mono (by omega:0+2+0≤3))
  have L6:Hid (s.i < s6.i):=hd_ (ll_ L4.out hm.le)
  clear hm ho hp F5 R5 E5
  obtain ⟨q0,q1,q2,q3,q4,q5,q6,q7,q8,q9,q10,q11,q12⟩:=E6.out.cells13
  have k3:=E6.out.lt
  obtain ⟨r0,r1,r2,r3,r4,r5,r6,r7,r8,r9,r10,r11,r12⟩:=R6.out.cells13
  obtain ⟨g0,g1,g2,g3,g4,g5,g6,g7,g8,g9,g10,g11,g12⟩:=R6.out.free13
  have k2:=R6.out.lt
  go_wp2_with fail
  refine zaa (P:=bodyPost _ _ _ _ _) (F:=fun W=>Fr w b g cap ts s6 W∧Bl W R #[.int .i64 9,.int .i64 2,.int .i64 0,.int .i64 0,.string tx,.string ⟨#[]⟩,.slice none 0 0,.int .i64 tta,.slice none 0 0,.slice none 0 0,.slice none 0 0,.slice ga gn gc,.int .i64 tta] 154)
   ⟨(((((((((((((F6.out.far lR _ _).far lR _ _).far lR _ _).far lR _ _).far lR _ _).far lR _ _).far lR _ _).far lR _ _).far lR _ _).far lR _ _).far lR _ _).far lR _ _).far lR _ _),R6.out.set13⟩ ?_
  clear q0 q1 q2 q3 q4 q5 q6 q7 q8 q9 q10 q11 q12 k3 r0 r1 r2 r3 r4 r5 r6 r7 r8 r9 r10 r11 r12 g0 g1 g2 g3 g4 g5 g6 g7 g8 g9 g10 g11 g12 k2
  intro wz ⟨FZ,RZ⟩
  obtain ⟨r0,r1,r2,r3,r4,r5,r6,r7,r8,r9,r10,r11,r12⟩:=RZ.cells13
  refine bodyPost_ret (v:=.agg #[.int .i64 9,.int .i64 2,.int .i64 0,.int .i64 0,.string tx,.string ⟨#[]⟩,.slice none 0 0,.int .i64 tta,.slice none 0 0,.slice none 0 0,.slice none 0 0,.slice ga gn gc,.int .i64 tta]) (by simp [results,Tryz.results113,go_sem, *]) rfl ?_
  exact ⟨_,_,rfl,⟨_,_,_,_,_,_,_,_,_,_,_,_,_,_,_,_,_,_,_,_,_,_,_,rfl⟩,⟨M6.out,L6.out⟩,FZ.only,FZ.par⟩
 | false=>
  clear g0 g1 g2 g3 g4 g5 g6 g7 g8 g9 g10 g11 g12 t0 t1 t2 t3 t4 k5 T2
  obtain ⟨I1,hI1⟩:∃ x,(Pa.up s).i=x:=⟨_,rfl⟩
  have z1:IntKind.i64.wrap ((I1:Int) - 1)=(s.i:Int):=by
   have h:I1=s.i+1:=hI1.symm
   have h2:=HLT.out
   have h3:=HLE.out
   rw [show ((I1:Int) - 1)=(s.i:Int) by omega]
   exact IntWalk.i64_in _ (by omega)
  obtain ⟨d0,d1,d2,d3,f1,f2,f3⟩:=F2.out.par.pb.cells
  have k1:=F2.out.par.pb.lt
  rw [hI1] at d1
  clear hI1
  go_upto_region 6 with fail
  refine zaa (P:=Code.wp _ _ _ _) (F:=fun W=>Fr w b g cap ts s W∧Bl W R #[.int .i64 0,.int .i64 0,.int .i64 0,.int .i64 0,.string ⟨#[]⟩,.string ⟨#[]⟩,.slice none 0 0,.int .i64 0,.slice none 0 0,.slice none 0 0,.slice none 0 0,.slice none 0 0,.int .i64 0] 154∧Bl W Y #[.int .i64 0,.int .i64 0,.int .i64 0,.int .i64 0,.string ⟨#[]⟩,.string ⟨#[]⟩,.slice none 0 0,.int .i64 0,.slice none 0 0,.slice none 0 0,.slice none 0 0,.slice none 0 0,.int .i64 tta] 154)
   ⟨(show Fr w b g cap ts s _ from F2.out.set1 rfl),R2.out.other n1 _ _,E2.out.other nY _ _⟩ ?_
  clear d0 d1 d2 d3 f1 f2 f3 k1 z1 F2 R2 E2 MU
  intro w3 ⟨F3,R3,E3⟩
  have F3:=hd_ F3
  have R3:=hd_ R3
  have E3:=hd_ E3
  have M3:=hd_ (Mv.refl ts s)
  go_wp2_with fail
  refine (var1 _ _ _ _ _ _ (M3.out.good k HG.out) (by omega) w3 F3.out.par).mono ?_
  rintro e w4 ⟨v,s4,rfl,⟨op,kd,nn,nm,fl,a,ln,c,ta,rfl⟩,⟨hm,hlt⟩,ho,hp⟩
  have F4:=hd_ (F3.out.call ho hp)
  have R4:=hd_ (R3.out.only ho n1)
  have E4:=hd_ (E3.out.only ho nY)
  have M4:=hd_ (M3.out.trans hm)
  have L4:Hid (s.i < s4.i):=hd_ hlt
  clear hm hlt ho hp F3 R3 E3 M3
  obtain ⟨q0,q1,q2,q3,q4,q5,q6,q7,q8,q9,q10,q11,q12⟩:=E4.out.cells13
  obtain ⟨g0,g1,g2,g3,g4,g5,g6,g7,g8,g9,g10,g11,g12⟩:=E4.out.free13
  have k3:=E4.out.lt
  go_upto_region 7 with fail
  refine zaa (P:=Code.wp _ _ _ _) (F:=fun W=>Fr w b g cap ts s4 W∧Bl W R #[.int .i64 0,.int .i64 0,.int .i64 0,.int .i64 0,.string ⟨#[]⟩,.string ⟨#[]⟩,.slice none 0 0,.int .i64 0,.slice none 0 0,.slice none 0 0,.slice none 0 0,.slice none 0 0,.int .i64 0] 154∧Bl W Y #[.int .i64 1,.int .i64 op,.int .i64 kd,.int .i64 nn,.string nm,.string fl,.slice a ln c,.int .i64 ta,.slice none 0 0,.slice none 0 0,.slice none 0 0,.slice none 0 0,.int .i64 tta] 154)
   ⟨((((((((F4.out.far lY _ _).far lY _ _).far lY _ _).far lY _ _).far lY _ _).far lY _ _).far lY _ _).far lY _ _),((((((((R4.out.other nR _ _).other nR _ _).other nR _ _).other nR _ _).other nR _ _).other nR _ _).other nR _ _).other nR _ _),Bl.put13 (by simpa using E4.out.set 0 (.int .i64 1))⟩ ?_
  clear q0 q1 q2 q3 q4 q5 q6 q7 q8 q9 q10 q11 q12 g0 g1 g2 g3 g4 g5 g6 g7 g8 g9 g10 g11 g12 k3 F4 R4 E4
  intro w5 ⟨F5,R5,E5⟩
  have F5:=hd_ F5
  have R5:=hd_ R5
  have E5:=hd_ E5
  go_wp2_with fail
  refine (zan ⟨#[58,61]⟩ (M4.out.good k HG.out) (by omega) F5.out.par).mono ?_
  rintro e w6 ⟨_,s6,rfl,rfl,hm,ho,hp⟩
  have F6:=hd_ (F5.out.call ho hp)
  have R6:=hd_ (R5.out.only ho n1)
  have E6:=hd_ (E5.out.only ho nY)
  have M6:=hd_ (M4.out.trans hm)
  have L6:Hid (s.i < s6.i):=hd_ (ll_ L4.out hm.le)
  clear hm ho hp F5 R5 E5 M4 L4
  go_wp2_with fail
  refine (zeD _ _ _ _ _ _ (M6.out.good k HG.out) (by omega) w6 F6.out.par).mono ?_
  rintro e w7 ⟨v,s7,rfl,⟨op7,kd7,nn7,nm7,fl7,a7,ln7,c7,ta7,rfl⟩,hm,ho,hp⟩
  have F7:=hd_ (F6.out.call ho hp)
  have R7:=hd_ (R6.out.only ho n1)
  have E7:=hd_ (E6.out.only ho nY)
  have M7:=hd_ (M6.out.trans hm)
  have L7:Hid (s.i < s7.i):=hd_ (ll_ L6.out hm.le)
  clear hm ho hp F6 R6 E6 M6 L6
  have q8:=E7.out.cells13.2.2.2.2.2.2.2.2.1
  have g8:=E7.out.free13.2.2.2.2.2.2.2.2.1
  have k3:=E7.out.lt
  go_upto_region 9 with fail
  refine zaa (P:=Code.wp _ _ _ _) (F:=fun W=>Fr w b g cap ts s7 W∧Bl W R #[.int .i64 0,.int .i64 0,.int .i64 0,.int .i64 0,.string ⟨#[]⟩,.string ⟨#[]⟩,.slice none 0 0,.int .i64 0,.slice none 0 0,.slice none 0 0,.slice none 0 0,.slice none 0 0,.int .i64 0] 154∧Bl W Y #[.int .i64 1,.int .i64 op,.int .i64 kd,.int .i64 nn,.string nm,.string fl,.slice a ln c,.int .i64 ta,.slice (some ⟨w7.heap.size,0,none⟩) 1 1,.slice none 0 0,.slice none 0 0,.slice none 0 0,.int .i64 tta] 154)
   ⟨(F7.out.far lY _ _).alloc _,(R7.out.other nR _ _).alloc _,Bl.alloc (vs:=#[.int .i64 1,.int .i64 op,.int .i64 kd,.int .i64 nn,.string nm,.string fl,.slice a ln c,.int .i64 ta,.slice (some ⟨w7.heap.size,0,none⟩) 1 1,.slice none 0 0,.slice none 0 0,.slice none 0 0,.int .i64 tta]) (by simpa using E7.out.set 8 (.slice (some ⟨w7.heap.size,0,none⟩) 1 1)) _⟩ ?_
  clear q8 g8 k3 F7 R7 E7
  intro w8 ⟨F8,R8,E8⟩
  have F8:=hd_ F8
  have R8:=hd_ R8
  have E8:=hd_ E8
  go_wp2_with fail
  refine (zan ⟨#[59]⟩ (M7.out.good k HG.out) (by omega) F8.out.par).mono ?_
  rintro e w9 ⟨_,s9,rfl,rfl,hm,ho,hp⟩
  have F9:=hd_ (F8.out.call ho hp)
  have R9:=hd_ (R8.out.only ho n1)
  have E9:=hd_ (E8.out.only ho nY)
  have M9:=hd_ ((M7.out.trans hm).mono (by omega:0+1+0+1+0≤3))
  have L9:Hid (s.i < s9.i):=hd_ (ll_ L7.out hm.le)
  clear hm ho hp F8 R8 E8 M7 L7
  obtain ⟨q0,q1,q2,q3,q4,q5,q6,q7,q8,q9,q10,q11,q12⟩:=E9.out.cells13
  have k3:=E9.out.lt
  obtain ⟨r0,r1,r2,r3,r4,r5,r6,r7,r8,r9,r10,r11,r12⟩:=R9.out.cells13
  obtain ⟨g0,g1,g2,g3,g4,g5,g6,g7,g8,g9,g10,g11,g12⟩:=R9.out.free13
  have k2:=R9.out.lt
  go_wp2_with fail
  refine zaa (P:=bodyPost _ _ _ _ _) (F:=fun W=>Fr w b g cap ts s9 W∧Bl W R #[.int .i64 1,.int .i64 op,.int .i64 kd,.int .i64 nn,.string nm,.string fl,.slice a ln c,.int .i64 ta,.slice (some ⟨w7.heap.size,0,none⟩) 1 1,.slice none 0 0,.slice none 0 0,.slice none 0 0,.int .i64 tta] 154)
   ⟨(((((((((((((F9.out.far lR _ _).far lR _ _).far lR _ _).far lR _ _).far lR _ _).far lR _ _).far lR _ _).far lR _ _).far lR _ _).far lR _ _).far lR _ _).far lR _ _).far lR _ _),R9.out.set13⟩ ?_
  clear q0 q1 q2 q3 q4 q5 q6 q7 q8 q9 q10 q11 q12 k3 r0 r1 r2 r3 r4 r5 r6 r7 r8 r9 r10 r11 r12 g0 g1 g2 g3 g4 g5 g6 g7 g8 g9 g10 g11 g12 k2
  intro wz ⟨FZ,RZ⟩
  obtain ⟨r0,r1,r2,r3,r4,r5,r6,r7,r8,r9,r10,r11,r12⟩:=RZ.cells13
  refine bodyPost_ret (v:=.agg #[.int .i64 1,.int .i64 op,.int .i64 kd,.int .i64 nn,.string nm,.string fl,.slice a ln c,.int .i64 ta,.slice (some ⟨w7.heap.size,0,none⟩) 1 1,.slice none 0 0,.slice none 0 0,.slice none 0 0,.int .i64 tta]) (by simp [results,Tryz.results113,go_sem, *]) rfl ?_
  exact ⟨_,_,rfl,⟨_,_,_,_,_,_,_,_,_,_,_,_,_,_,_,_,_,_,_,_,_,_,_,rfl⟩,⟨M9.out,L9.out⟩,FZ.only,FZ.par⟩
def zg7:List (List UInt8):=[[73,70],[67,65,83,69],[70,79,82],[87,72,73,76,69],[82,69,80,69,65,84],[69,88,73,84],[82,69,84,85,82,78]]
theorem zlj:(Tryz.prog.info? 154).map (fun i=>(i.zero,i.size,i.bytes))=some (some (.agg #[.int .i64 0,.int .i64 0,.int .i64 0,.int .i64 0,.string ⟨#[]⟩,.string ⟨#[]⟩,.slice none 0 0,.int .i64 0,.slice none 0 0,.slice none 0 0,.slice none 0 0,.slice none 0 0,.int .i64 0]),13,200):=by kernel_rfl
def cst (deep:Int):Nat:=(6*(34 - deep)).toNat
def zmW (deep:Int):Prop:=∀ (b g cap k:Nat) (ts:List Tok) (s:PS) (_:Pa.Good ts k s) (_:k≤1000) (_:(T ts s).tok≠0) (w:World) (_:Par w b g cap ts s),
 Calls Tryz.prog 87 #[.pointer (some ⟨b,0,none⟩),.int .i64 deep] w fun e w'=>∃ v s',e=.returned v∧StV v∧(Mv ts (cst deep) s s'∧s.i < s'.i)∧Only b w w'∧Par w' b g cap ts s'
def zdj (deep:Int):Prop:=∀ (b g cap k:Nat) (ts:List Tok) (s:PS) (_:Pa.Good ts k s) (_:k≤46000) (w:World) (_:Par w b g cap ts s),
 Calls Tryz.prog 55 #[.pointer (some ⟨b,0,none⟩),.int .i64 deep] w (zfd w b g cap ts s (cst deep) SlV)
theorem zgw {deep:Int} (h1:1≤deep) (hS:deep≤32→zmW deep):zdj deep:=by
 intro b g cap k ts s hg hk w hx
 have F0:=hd_ (Fr.start hx)
 have HG:=hd_ hg
 have M0:Hid (Mv ts (cst deep) s s):=hd_ ((Mv.refl ts s).mono (Nat.zero_le _))
 have hcd:Hid (cst deep≤300):=hd_ (by unfold cst;omega)
 obtain ⟨i0,hi9,hz0,hz1,hz2⟩:=info_parts zlj
 have HI:=hd_ (And.intro hi9 (And.intro hz0 (And.intro hz1 hz2)))
 have HST:=hd_ hS
 have O0:Hid (w.ownsRow w.heap.size 154 13 (.slice none 0 0) 0 []):=hd_ ⟨by simp,.inl ⟨rfl,rfl⟩⟩
 clear hg hx hS hi9 hz0 hz1 hz2
 go_enter Tryz.func55,Tryz.ntmps55
 go_wp2_with fail
 go_loopw [5] (fun v5 wr=>RRel (∃ (si:PS) (fv:Value) (n:Nat) (cs:List Value),fv=v5∧n≤si.i∧Hid (Mv ts (cst deep) s si)∧Hid (Fr w b g cap ts si wr)∧Hid (wr.ownsRow w.heap.size 154 13 fv n cs))) (fun _ wr=>200000 - (intOf ((wr.cell? ⟨b,1,none⟩).getD undef)).toNat)
 case atStart=>exact RRel.mk ⟨s,_,0,_,rfl,by omega,M0,F0,O0⟩
 case round=>
  obtain ⟨si,fv,n,cs,hfv,hn,M3,F3,O3⟩:=hrel.it
  subst hfv
  clear hrel M0 F0 O0
  obtain ⟨w3,rfl⟩:∃ w3,w3=wr:=⟨_,rfl⟩
  obtain ⟨fa,fc,rfl⟩:=zb4 O3.out
  have HMI:=hd_ F3.out.par.pb.cells.2.1
  have hfew:=zat (M3.out.good k HG.out) (by have:=hcd.out;omega) F3.out.par
  obtain ⟨d0,d1,d2,d3,f1,f2,f3⟩:=F3.out.par.pb.cells
  have k1:=F3.out.par.pb.lt
  by_cases he:si.err=0
  ·rw [he] at d2
   have M3z:=hd_ (M3.out.zero he)
   have HE0:=hd_ he
   clear he
   go_wp2_with fail
   refine (zaO ⟨#[59]⟩ (M3z.out.good k HG.out) (by omega) F3.out.par).mono ?_
   rintro e w4 ⟨r,s4,rfl,⟨hm,ht,hf⟩,ho,hp⟩
   have F4:=hd_ (F3.out.call ho hp)
   have O4:=hd_ (zam O3.out ho F3.out.lt.1)
   clear ho hp F3 O3 d0 d1 d2 d3 f1 f2 f3 k1
   cases r with
   | true=>
    have M4:=hd_ ((M3z.out.trans hm).mono (Nat.zero_le _):Mv ts (cst deep) s s4)
    have L4:Hid (s4.i=si.i+1):=hd_ (ht rfl).2.2
    clear hm ht hf
    go_wp2_with fail
    go_roundw
    case rel=>exact RRel.mk ⟨s4,_,n,_,rfl,by have:=L4.out;omega,M4,F4,O4⟩
    case measure=>
     have y1:=F4.out.par.pb.cells.2.1
     have y2:=HMI.out
     have y3:=zat (M4.out.good k HG.out) (by have:=hcd.out;omega) F4.out.par
     have y4:=L4.out
     simp [y1,y2,intOf];omega
   | false=>
    obtain rfl:=hf rfl
    clear hm ht hf
    go_wp2_with fail
    refine (zcb (M3z.out.good k HG.out) F4.out.par).mono ?_
    rintro e w5 ⟨tk,tkd,tnn,tx,tta,rfl,ht,hb⟩
    have F5:=hd_ (F4.out.below hb)
    have O5:=hd_ (zae O4.out hb nl_)
    have HT:=hd_ ht
    obtain ⟨txb,hxb⟩:∃ x:ByteArray,(⟨tx.toArray⟩:ByteArray)=x:=⟨_,rfl⟩
    rw [hxb]
    clear hb ht hxb F4 O4
    obtain ⟨bq0,hbq⟩:∃ x,(tk==2)=x:=⟨_,rfl⟩
    have HQ0:Hid (bq0=true→tk≠0):=hd_ (fun h=>by rw [h] at hbq;simp at hbq;omega)
    go_upto_region 7 with fail
    refine zaa (P:=Code.wp _ _ _ _) (F:=fun W=>Fr w b g cap ts s4 W∧Bl W w5.heap.size #[.int .i64 tk,.int .i64 tkd,.int .i64 tnn,.string txb,.int .i64 tta] 107∧zaC W (w5.heap.size+1) (strC zg7)∧W.ownsRow w.heap.size 154 13 (.slice fa n fc) n cs)
     ⟨(F5.out.alloc _).alloc _,(Bl.new _ _ _).alloc _,(Bl.newAt (w5.alloc (.cells #[.int .i64 tk,.int .i64 tkd,.int .i64 tnn,.string txb,.int .i64 tta] 107)) (X:=w5.heap.size+1) (vs:=#[.string ⟨#[73,70]⟩,.string ⟨#[67,65,83,69]⟩,.string ⟨#[70,79,82]⟩,.string ⟨#[87,72,73,76,69]⟩,.string ⟨#[82,69,80,69,65,84]⟩,.string ⟨#[69,88,73,84]⟩,.string ⟨#[82,69,84,85,82,78]⟩]) (T:=9) (by simp)).cellsAt,zae (zae O5.out (br_.alloc nl_ _) nl_) (br_.alloc nl_ _) nl_⟩ ?_
    have hZ1:w5.heap.size≠b:=by have:=F5.out.size;have:=F5.out.lt.1;omega
    clear F5 O5 hbq
    intro w6 ⟨F6,T6,C6,O6⟩
    obtain ⟨G,hG⟩:∃ Z,w5.heap.size+1=Z:=⟨_,rfl⟩
    rw [hG] at C6 ⊢
    obtain ⟨Z,hZ⟩:∃ Z,w5.heap.size=Z:=⟨_,rfl⟩
    rw [hZ] at T6 hZ1 ⊢
    clear hG hZ
    have F6:=hd_ F6
    have T6:=hd_ T6
    have C6:=hd_ C6
    have O6:=hd_ O6
    go_wp2_with fail
    go_loopw [7,9] (fun v7 v9 wr2=>RRel (∃ (i:Nat) (bq:Bool),i≤7∧v7=.bool bq∧v9=.int .i64 i∧Hid (bq=true→tk≠0)∧Hid (Fr w b g cap ts s4 wr2)∧Hid (Bl wr2 Z #[.int .i64 tk,.int .i64 tkd,.int .i64 tnn,.string txb,.int .i64 tta] 107)∧Hid (zaC wr2 G (strC zg7))∧Hid (wr2.ownsRow w.heap.size 154 13 (.slice fa n fc) n cs))) (fun _ v9 _=>7 - (intOf v9).toNat)
    case atStart=>exact RRel.mk ⟨0,_,by omega,rfl,rfl,HQ0,F6,T6,C6,O6⟩
    case round=>
     obtain ⟨i,bq,hi,rfl,rfl,HQ,F7,T7,C7,O7⟩:=hrel.it
     clear hrel F6 T6 C6 O6 HQ0
     obtain ⟨w7,rfl⟩:∃ w7,w7=wr:=⟨_,rfl⟩
     by_cases hlt:i < 7
     ·have z0:0≤(i:Int):=by omega
      have z1:(i:Int) < 7:=by omega
      have z2:(i:Int).toNat=i:=by omega
      have z3:IntKind.i64.wrap ((i:Int)+1)=(i:Int)+1:=IntWalk.i64_in _ (by omega)
      cases bq with
      | true=>
       go_wp2_with fail
       go_roundw
       case rel=>exact RRel.mk ⟨i+1,true,by omega,rfl,by simp,HQ,F7,T7,C7,O7⟩
       case measure=>simp [intOf];omega
      | false=>
       obtain ⟨a,ha⟩:∃ a,zg7[i]? = some a:=⟨zg7[i]'hlt,List.getElem?_eq_getElem hlt⟩
       obtain ⟨ab,hab⟩:∃ ab:ByteArray,(⟨a.toArray⟩:ByteArray)=ab:=⟨_,rfl⟩
       have dd:=C7.out i (.string ab) (by simp [strC,ha,hab])
       have kg:=zac dd
       clear ha hab
       obtain ⟨rq,hrq⟩:∃ r,is ts s4 ab.data.toList=r:=⟨_,rfl⟩
       have HIS:=hd_ (fun W hW=>zb9 (b:=b) (g:=g) (cap:=cap) hrq (M3z.out.good k HG.out).1 W hW)
       have HQ2:Hid (rq=true→tk≠0):=hd_ (fun h=>by
        have h1:=za2 (hrq.trans h)
        rw [HT.out] at h1
        exact h1)
       clear hrq
       go_wp2_with fail
       refine (HIS.out _ F7.out.par).mono ?_
       rintro e w8 ⟨rfl,hb⟩
       have F8:=hd_ (F7.out.below hb)
       have T8:=hd_ (T7.out.below hb)
       have C8:Hid (zaC w8 G (strC zg7)):=hd_ (fun j u hj=>zab hb (C7.out j u hj))
       have O8:=hd_ (zae O7.out hb nl_)
       clear hb F7 T7 C7 O7 dd kg
       go_wp2_with fail
       go_roundw
       case rel=>exact RRel.mk ⟨i+1,rq,by omega,rfl,by simp,HQ2,F8,T8,C8,O8⟩
       case measure=>simp [intOf];omega
     ·have z1:¬ (i:Int) < 7:=by omega
      have M4:=hd_ (M3z.out.mono (Nat.zero_le _):Mv ts (cst deep) s s4)
      cases bq with
      | false=>
       go_wp2_with fail
       go_ret
       exact ⟨_,_,rfl,⟨_,_,_,rfl⟩,M4.out,F7.out.only,F7.out.par⟩
      | true=>
       have HTK:Hid ((T ts s4).tok≠0):=hd_ (by rw [HT.out];exact HQ.out rfl)
       by_cases hd:32 < deep
       ·obtain ⟨-,-,-,-,t4⟩:=T7.out.cells5
        have k5:=T7.out.lt
        go_wp2_with fail
        refine (zb7 (by decide) F7.out.par).mono ?_
        rintro e w8 ⟨s8,rfl,⟨hm,_⟩,ho,hp⟩
        have F8:=hd_ (F7.out.call ho hp)
        have M8:=hd_ ((M3z.out.trans hm).mono (Nat.zero_le _):Mv ts (cst deep) s s8)
        clear hm ho hp
        go_wp2_with fail
        go_ret
        exact ⟨_,_,rfl,⟨_,_,_,rfl⟩,M8.out,F8.out.only,F8.out.par⟩
       ·have HST2:=hd_ (HST.out (by omega) b g cap 0 ts s4 ((M3z.out.good k HG.out).zero HE0.out) (by omega) HTK.out)
        go_wp2_with fail
        refine (HST2.out _ F7.out.par).mono ?_
        rintro e w8 ⟨v,s8,rfl,⟨so,op,kd,nn,nm,fl,a,ln,c,ta,ea,en,ec,ra,rn,rc,ba,bn,bc,ga,gn,gc,st,rfl⟩,⟨hm,hlt8⟩,ho,hp⟩
        have F8:=hd_ (F7.out.call ho hp)
        have O8:=hd_ (zam O7.out ho F7.out.lt.1)
        have M8:Hid (Mv ts (cst deep) s s8):=hd_ ((M3z.out.trans hm).mono (by omega))
        have L8:Hid (s4.i < s8.i):=hd_ hlt8
        have y8:=zat (M8.out.good k HG.out) (by have:=hcd.out;omega) F8.out.par
        clear hm hlt8 ho hp F7 T7 C7 O7
        go_wp2_with (at_builtin;refine wpList_append_lies _ (by rfl) _ _ _ (by rfl) w.heap.size 154 i0 _ 13 200 Tryz.underlying25 HI.out.1 HI.out.2.1 HI.out.2.2.1 HI.out.2.2.2 rfl (by omega) (.slice fa n fc) n cs (by rfl) (zae O8.out ((Below.refl w8.heap.size w8).alloc nl_ _) nl_) ⟨w8.heap.size,0,none⟩ 1 1 [.int .i64 so,.int .i64 op,.int .i64 kd,.int .i64 nn,.string nm,.string fl,.slice a ln c,.int .i64 ta,.slice ea en ec,.slice ra rn rc,.slice ba bn bc,.slice ga gn gc,.int .i64 st] (by rfl) (by rfl) (World.news_of_block (cs:=#[.int .i64 so,.int .i64 op,.int .i64 kd,.int .i64 nn,.string nm,.string fl,.slice a ln c,.int .i64 ta,.slice ea en ec,.slice ra rn rc,.slice ba bn bc,.slice ga gn gc,.int .i64 st]) (t:=154) (fr:=(0,0)) (heap_alloc_new _ _)) (by simp [Value.oneCell']) (by omega) (by simp only [maxLen];omega) (by omega) (by have:=F8.out.size;simp;omega) (w8.heap.size+1) (by simp) ?_;intro g9 cp9 w10 hown hgrow hat hlt9;have F10:=hd_ ((F8.out.alloc _).grown hgrow (fun k hk=>(O8.out.lt k hk).1));have O10:=hd_ hown;clear hown hgrow hat hlt9)
        go_roundw
        case rel=>exact RRel.mk ⟨s8,_,n+1,_,rfl,by have:=L8.out;omega,M8,F10,O10⟩
        case measure=>
         have y1:=F10.out.par.pb.cells.2.1
         have y2:=HMI.out
         have y3:=L8.out
         simp [y1,y2,intOf];omega
  ·have he2:(si.err==0)=false:=by simp [he]
   clear he
   go_wp2_with fail
   go_ret
   exact ⟨_,_,rfl,⟨_,_,_,rfl⟩,M3.out,F3.out.only,F3.out.par⟩
theorem zbE {w:World} {X o lo sz n:Nat} {T:TypeId} {fv u:Value} {cs:List Value} (h:w.ownsRow lo T sz fv n cs) (hX:X < lo):(w.setCell ⟨X,o,none⟩ u).ownsRow lo T sz fv n cs:=
 zaj h (zaB h hX)
theorem zje:(Tryz.prog.info? 201).map (fun i=>(i.zero,i.size,i.bytes))=some (some (.agg #[.slice none 0 0,.slice none 0 0,.slice none 0 0]),3,72):=by kernel_rfl
theorem zma:(Tryz.prog.info? 202).map (fun i=>(i.zero,i.size,i.bytes))=some (some (.agg #[.int .i64 0,.int .i64 0,.int .i64 0,.string ⟨#[]⟩,.string ⟨#[]⟩,.slice none 0 0,.int .i64 0,.int .i64 0,.int .i64 0,.int .i64 0,.string ⟨#[]⟩,.string ⟨#[]⟩,.slice none 0 0,.int .i64 0]),14,176):=by kernel_rfl
theorem zaS (w:World) (o1 o2:Obj):((w.alloc o1).alloc o2).heap[w.heap.size+1]? = some o2:=by
 have h:=heap_alloc_new (w.alloc o1) o2
 rwa [show (w.alloc o1).heap.size=w.heap.size+1 by simp] at h
theorem zgp {w:World} {V sz n:Nat} {T:TypeId} {u v:Value} {xs:List Value} (hu:∀ q,u.ownBlock=some q→q < V) (h:w.ownsRow (V+1) T sz v n xs):u.ownBlock=none∨u.ownBlock≠v.ownBlock:=by
 cases hv:u.ownBlock with
 | none=>exact .inl rfl
 | some q=>
  refine .inr fun h9=>?_
  have h1:=(h.lt q h9.symm).1
  have h2:=hu q hv
  omega
def ms2 (i e:Int):Nat:=2*(200000 - i.toNat)+(if e=0 then 1 else 0)
theorem zgj {i j:Nat} {e f:Int} (he:e=0) (h:i < j∨f≠0) (hle:i≤j) (h9:j≤200000):ms2 j f < ms2 i e:=by
 unfold ms2
 rw [if_pos he]
 by_cases hf:f=0
 ·rcases h with h | h
  ·rw [if_pos hf];omega
  ·exact absurd hf h
 ·rw [if_neg hf];omega
theorem zkY {m i j:Nat} {f:Int} (hm:m≤i) (hle:i≤j) (h:i < j∨f≠0):m+1≤j+1∧(f=0→m+1≤j):=by
 refine ⟨by omega,fun hf=>?_⟩
 rcases h with h | h
 ·omega
 ·exact absurd hf h
def wOf (t:Tok):List UInt8:=(⟨t.text.toArray⟩:ByteArray).toList
def zky (deep:Int) (P:Tok→Prop):Prop:=∀ (b g cap k:Nat) (ts:List Tok) (s:PS) (_:Pa.Good ts k s) (_:k≤1000) (_:(T ts s).tok≠0) (_:P (T ts s)) (w:World) (_:Par w b g cap ts s),
 Calls Tryz.prog 87 #[.pointer (some ⟨b,0,none⟩),.int .i64 deep] w fun e w'=>∃ v s',e=.returned v∧StV v∧(Mv ts (cst deep) s s'∧s.i < s'.i)∧Only b w w'∧Par w' b g cap ts s'
end Go.Proofs.YtdpkjpjkdmkkpaaGreatDoor
