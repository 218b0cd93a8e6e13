/- The reference's parser, weakly: stmt at what is neither IF, CASE nor FOR. -/
import Derived.Test.YtdpkjpjkdmkkpaaGreatDoorQD
set_option maxRecDepth 100000
set_option maxHeartbeats 16000000
namespace Go.Proofs.YtdpkjpjkdmkkpaaGreatDoor
open Go.RowKit Lx Pa
def zmX (t:Tok):Prop:=t.tok=2∨((wOf t==[73,70])=false∧(wOf t==[67,65,83,69])=false∧(wOf t==[70,79,82])=false)
theorem zgx {deep:Int} (h1:1≤deep) (h9:deep≤32) (hS:zdj (deep+1)):zky deep zmX:=by
 intro b g cap k ts s hg hk htok hP w hx
 have F0:=hd_ (Fr.start hx)
 have HG:=hd_ hg
 have HCD:Hid (cst (deep+1)+6=cst deep∧cst deep≤300):=hd_ (by unfold cst;omega)
 have hcd:cst (deep+1)≤300:=by have:=HCD.out;omega
 have HSS:=hd_ hS
 obtain ⟨i0,hi9,hz0,hz1,hz2⟩:=info_parts zfm
 have HI:=hd_ (And.intro hi9 (And.intro hz0 (And.intro hz1 hz2)))
 clear hi9 hz0 hz1 hz2
 have hwd:IntKind.i64.wrap (deep+1)=deep+1:=IntWalk.i64_in _ (by omega)
 obtain ⟨he,hlt⟩:=zlS hx.ends hg.1 htok
 have HNM:=hd_ (fun tk tkd tnn tta tx W hW=>zjW (b:=b) (g:=g) (cap:=cap) (k:=k) (ts:=ts) (s:=s) tk tkd tnn tta tx he hlt hg (by omega) W hW)
 have Ms1:Hid (Mv ts 0 s (Pa.up s)):=hd_ (Mv.up hx.ends htok)
 have Ls1:Hid (s.i < (Pa.up s).i):=hd_ (by show s.i < s.i+1;omega)
 have HN:=hd_ (fun W (hW:Par W b g cap ts s)=>zdA (k:=k) hg (by omega) W hW)
 clear hg hx hS htok he hlt
 obtain ⟨s1,hs1⟩:∃ x,Pa.up s=x:=⟨_,rfl⟩
 rw [hs1] at HNM HN Ms1 Ls1
 clear hs1
 go_enter Tryz.func87,Tryz.ntmps87
 have hbw:=F0.out.lt.1
 have n0:w.heap.size≠b:=by omega
 go_wp2_with fail
 refine (HN.out _ (F0.out.alloc _).par).mono ?_
 rintro e w1 ⟨tk,tkd,tnn,tx,tta,rfl,ht,ho,hp⟩
 rw [ht] at hP
 have F1:=hd_ ((F0.out.alloc _).call ho hp)
 have R1:=hd_ ((Bl.new w #[.int .i64 0,.int .i64 0,.int .i64 0,.int .i64 0,.string ⟨#[]⟩,.string ⟨#[]⟩,.slice none 0 0,.int .i64 0,.slice none 0 0,.slice none 0 0,.slice none 0 0,.slice none 0 0,.int .i64 0] 154).only ho n0)
 obtain ⟨txb,hxb⟩:∃ x:ByteArray,(⟨tx.toArray⟩:ByteArray)=x:=⟨_,rfl⟩
 rw [hxb]
 have hP2:tk=2∨(txb.toList==[73,70])=false∧(txb.toList==[67,65,83,69])=false∧(txb.toList==[70,79,82])=false:=by rw [← hxb];exact hP
 clear hP
 clear ho hp ht hxb F0 HN
 go_upto_region 3 with fail
 refine zaa (P:=Code.wp _ _ _ _) (F:=fun W=>Fr w b g cap ts s1 W∧Bl W w.heap.size #[.int .i64 0,.int .i64 0,.int .i64 0,.int .i64 0,.string ⟨#[]⟩,.string ⟨#[]⟩,.slice none 0 0,.int .i64 0,.slice none 0 0,.slice none 0 0,.slice none 0 0,.slice none 0 0,.int .i64 0] 154∧Bl W w1.heap.size #[.int .i64 tk,.int .i64 tkd,.int .i64 tnn,.string txb,.int .i64 tta] 107∧Bl W (w1.heap.size+1) #[.int .i64 0,.int .i64 0,.int .i64 0,.int .i64 0,.string ⟨#[]⟩,.string ⟨#[]⟩,.slice none 0 0,.int .i64 0,.slice none 0 0,.slice none 0 0,.slice none 0 0,.slice none 0 0,.int .i64 tta] 154)
  ⟨(F1.out.alloc _).alloc _,(R1.out.alloc _).alloc _,(Bl.new _ _ _).alloc _,Bl.newAt _ (by simp)⟩ ?_
 have hRl:=R1.out.lt
 have hb1:=F1.out.size
 clear F1 R1
 intro w2 ⟨F2,R2,T2,E2⟩
 obtain ⟨Y,hY⟩:∃ Y,w1.heap.size+1=Y:=⟨_,rfl⟩
 rw [hY] at E2 ⊢
 obtain ⟨Z,hZ⟩:∃ Z,w1.heap.size=Z:=⟨_,rfl⟩
 rw [hZ] at T2 ⊢
 obtain ⟨R,hR⟩:∃ R,w.heap.size=R:=⟨_,rfl⟩
 have n1:R≠b:=by omega
 have nY:Y≠b:=by omega
 have nR:R≠Y:=by omega
 have hRY:R < Y:=by omega
 have lR:w.heap.size≤R:=by omega
 have lY:w.heap.size≤Y:=by omega
 have hbY:b < Y+1:=by omega
 rw [hR] at R2 ⊢
 clear hY hZ hR hRl hb1 n0 hbw
 obtain ⟨t0,t1,t2,t3,t4⟩:=T2.cells5
 have k5:=T2.lt
 have F2:=hd_ F2
 have R2:=hd_ R2
 have E2:=hd_ E2
 clear T2
 by_cases h2:tk=2
 ·have h2b:(tk==2)=true:=by simp [h2]
  go_wp2_with fail
  refine (HNM.out _ _ _ _ _ _ F2.out.par).mono ?_
  rintro e w3 ⟨v,s3,rfl,⟨so,op,kd,nn,nm,fl,a,ln,c,ta,ea,en,ec,ra,rn,rc,ba,bn,bc,ga,gn,gc,st,rfl⟩,⟨hm,hlt3⟩,ho,hp⟩
  have F3:=hd_ (F2.out.call ho hp)
  have R3:=hd_ (R2.out.only ho n1)
  have M3:=hd_ hm
  have L3:=hd_ hlt3
  clear hm hlt3 ho hp F2 R2 E2 t0 t1 t2 t3 t4 k5
  obtain ⟨r0,r1,r2,r3,r4,r5,r6,r7,r8,r9,r10,r11,r12⟩:=R3.out.cells13
  obtain ⟨g0,g1,g2,g3,g4,g5,g6,g7,g8,g9,g10,g11,g12⟩:=R3.out.free13
  have k2:=R3.out.lt
  go_wp2_with fail
  refine zaa (P:=bodyPost _ _ _ _ _) (F:=fun W=>Fr w b g cap ts s3 W∧Bl W R #[.int .i64 so,.int .i64 op,.int .i64 kd,.int .i64 nn,.string nm,.string fl,.slice a ln c,.int .i64 ta,.slice ea en ec,.slice ra rn rc,.slice ba bn bc,.slice ga gn gc,.int .i64 st] 154)
   ⟨(((((((((((((F3.out.far lR _ _).far lR _ _).far lR _ _).far lR _ _).far lR _ _).far lR _ _).far lR _ _).far lR _ _).far lR _ _).far lR _ _).far lR _ _).far lR _ _).far lR _ _),R3.out.set13⟩ ?_
  clear r0 r1 r2 r3 r4 r5 r6 r7 r8 r9 r10 r11 r12 g0 g1 g2 g3 g4 g5 g6 g7 g8 g9 g10 g11 g12 k2
  intro wz ⟨FZ,RZ⟩
  obtain ⟨r0,r1,r2,r3,r4,r5,r6,r7,r8,r9,r10,r11,r12⟩:=RZ.cells13
  refine bodyPost_ret (v:=.agg #[.int .i64 so,.int .i64 op,.int .i64 kd,.int .i64 nn,.string nm,.string fl,.slice a ln c,.int .i64 ta,.slice ea en ec,.slice ra rn rc,.slice ba bn bc,.slice ga gn gc,.int .i64 st]) (by simp [results,Tryz.results87,go_sem, *]) rfl ?_
  exact ⟨_,_,rfl,⟨_,_,_,_,_,_,_,_,_,_,_,_,_,_,_,_,_,_,_,_,_,_,_,rfl⟩,⟨M3.out.mono (by have:=HCD.out;omega),L3.out⟩,FZ.only,FZ.par⟩
 ·have h2b:(tk==2)=false:=by simpa using h2
  obtain ⟨hc0,hc1,hc2⟩:=hP2.resolve_left h2
  clear h2 hP2
  obtain ⟨c3,hc3⟩:∃ x,(txb.toList==[87,72,73,76,69])=x:=⟨_,rfl⟩
  cases c3 with
  | true=>
   have q0:=E2.out.cells13.1
   have g0:=E2.out.free13.1
   have k3:=E2.out.lt
   go_upto_region 56 with fail
   refine zaa (P:=Code.wp _ _ _ _) (F:=fun W=>Fr w b g cap ts s1 W∧Bl W R #[.int .i64 0,.int .i64 0,.int .i64 0,.int .i64 0,.string ⟨#[]⟩,.string ⟨#[]⟩,.slice none 0 0,.int .i64 0,.slice none 0 0,.slice none 0 0,.slice none 0 0,.slice none 0 0,.int .i64 0] 154∧Bl W Y #[.int .i64 5,.int .i64 0,.int .i64 0,.int .i64 0,.string ⟨#[]⟩,.string ⟨#[]⟩,.slice none 0 0,.int .i64 0,.slice none 0 0,.slice none 0 0,.slice none 0 0,.slice none 0 0,.int .i64 tta] 154)
    ⟨F2.out.far lY _ _,R2.out.other nR _ _,by simpa using E2.out.set 0 (.int .i64 5)⟩ ?_
   clear q0 g0 k3 F2 R2 E2
   intro w3 ⟨F3,R3,E3⟩
   have F3:=hd_ F3
   have R3:=hd_ R3
   have E3:=hd_ E3
   go_wp2_with fail
   refine (zeD _ _ _ _ _ _ (Ms1.out.good k HG.out) (by omega) w3 F3.out.par).mono ?_
   rintro e w4 ⟨v,s4,rfl,⟨op,kd,nn,nm,fl,a,ln,c,ta,rfl⟩,hm,ho,hp⟩
   have F4:=hd_ (F3.out.call ho hp)
   have R4:=hd_ (R3.out.only ho n1)
   have E4:=hd_ (E3.out.only ho nY)
   have Ms4:=hd_ (Ms1.out.trans hm)
   have Ls4:Hid (s.i < s4.i):=hd_ (ll_ Ls1.out hm.le)
   clear hm ho hp F3 R3 E3 Ms1 Ls1
   have q0:=E4.out.cells13.2.2.2.2.2.2.2.2.1
   have g0:=E4.out.free13.2.2.2.2.2.2.2.2.1
   have k3:=E4.out.lt
   go_upto_region 57 with fail
   refine zaa (P:=Code.wp _ _ _ _) (F:=fun W=>Fr w b g cap ts s4 W∧Bl W R #[.int .i64 0,.int .i64 0,.int .i64 0,.int .i64 0,.string ⟨#[]⟩,.string ⟨#[]⟩,.slice none 0 0,.int .i64 0,.slice none 0 0,.slice none 0 0,.slice none 0 0,.slice none 0 0,.int .i64 0] 154∧Bl W Y #[.int .i64 5,.int .i64 0,.int .i64 0,.int .i64 0,.string ⟨#[]⟩,.string ⟨#[]⟩,.slice none 0 0,.int .i64 0,.slice (some ⟨w4.heap.size,0,none⟩) 1 1,.slice none 0 0,.slice none 0 0,.slice none 0 0,.int .i64 tta] 154)
    ⟨(F4.out.far lY _ _).alloc _,(R4.out.other nR _ _).alloc _,Bl.alloc (vs:=#[.int .i64 5,.int .i64 0,.int .i64 0,.int .i64 0,.string ⟨#[]⟩,.string ⟨#[]⟩,.slice none 0 0,.int .i64 0,.slice (some ⟨w4.heap.size,0,none⟩) 1 1,.slice none 0 0,.slice none 0 0,.slice none 0 0,.int .i64 tta]) (by simpa using E4.out.set 8 (.slice (some ⟨w4.heap.size,0,none⟩) 1 1)) _⟩ ?_
   clear q0 g0 k3 F4 R4 E4
   intro w5 ⟨F5,R5,E5⟩
   have F5:=hd_ F5
   have R5:=hd_ R5
   have E5:=hd_ E5
   obtain ⟨G4,hG⟩:∃ x,w4.heap.size=x:=⟨_,rfl⟩
   rw [hG] at E5 ⊢
   clear hG
   go_wp2_with fail
   refine (zan ⟨#[68,79]⟩ (Ms4.out.good k HG.out) (by omega) F5.out.par).mono ?_
   rintro e w6 ⟨_,s6,rfl,rfl,hm,ho,hp⟩
   have F6:=hd_ (F5.out.call ho hp)
   have R6:=hd_ (R5.out.only ho n1)
   have E6:=hd_ (E5.out.only ho nY)
   have Ms6:=hd_ (Ms4.out.trans hm)
   have Ls6:Hid (s.i < s6.i):=hd_ (ll_ Ls4.out hm.le)
   clear hm ho hp F5 R5 E5 Ms4 Ls4
   go_wp2_with fail
   refine (HSS.out _ _ _ _ _ _ (Ms6.out.good k HG.out) (by omega) w6 F6.out.par).mono ?_
   rintro e w7 ⟨v,s7,rfl,⟨ba,bn,bc,rfl⟩,hm,ho,hp⟩
   have F7:=hd_ (F6.out.call ho hp)
   have R7:=hd_ (R6.out.only ho n1)
   have E7:=hd_ (E6.out.only ho nY)
   have Ms7:=hd_ (Ms6.out.trans hm)
   have Ls7:Hid (s.i < s7.i):=hd_ (ll_ Ls6.out hm.le)
   clear hm ho hp F6 R6 E6 Ms6 Ls6
   have q0:=E7.out.cells13.2.2.2.2.2.2.2.2.2.2.1
   have g0:=E7.out.free13.2.2.2.2.2.2.2.2.2.2.1
   have k3:=E7.out.lt
   go_upto_region 59 with fail
   refine zaa (P:=Code.wp _ _ _ _) (F:=fun W=>Fr w b g cap ts s7 W∧Bl W R #[.int .i64 0,.int .i64 0,.int .i64 0,.int .i64 0,.string ⟨#[]⟩,.string ⟨#[]⟩,.slice none 0 0,.int .i64 0,.slice none 0 0,.slice none 0 0,.slice none 0 0,.slice none 0 0,.int .i64 0] 154∧Bl W Y #[.int .i64 5,.int .i64 0,.int .i64 0,.int .i64 0,.string ⟨#[]⟩,.string ⟨#[]⟩,.slice none 0 0,.int .i64 0,.slice (some ⟨G4,0,none⟩) 1 1,.slice none 0 0,.slice ba bn bc,.slice none 0 0,.int .i64 tta] 154)
    ⟨F7.out.far lY _ _,R7.out.other nR _ _,by simpa using E7.out.set 10 (.slice ba bn bc)⟩ ?_
   clear q0 g0 k3 F7 R7 E7
   intro w8 ⟨F8,R8,E8⟩
   have F8:=hd_ F8
   have R8:=hd_ R8
   have E8:=hd_ E8
   go_wp2_with fail
   refine (zan ⟨#[69,78,68,95,87,72,73,76,69]⟩ (Ms7.out.good k HG.out) (by omega) F8.out.par).mono ?_
   rintro e w9 ⟨_,s9,rfl,rfl,hm,ho,hp⟩
   have F9:=hd_ (F8.out.call ho hp)
   have R9:=hd_ (R8.out.only ho n1)
   have E9:=hd_ (E8.out.only ho nY)
   have Ms9:=hd_ (Ms7.out.trans hm)
   have Ls9:Hid (s.i < s9.i):=hd_ (ll_ Ls7.out hm.le)
   clear hm ho hp F8 R8 E8 Ms7 Ls7
   go_wp2_with fail
   refine (zan ⟨#[59]⟩ (Ms9.out.good k HG.out) (by omega) F9.out.par).mono ?_
   rintro e w10 ⟨_,s10,rfl,rfl,hm,ho,hp⟩
   have F10:=hd_ (F9.out.call ho hp)
   have R10:=hd_ (R9.out.only ho n1)
   have E10:=hd_ (E9.out.only ho nY)
   have Ms10:=hd_ (Ms9.out.trans hm)
   have Ls10:Hid (s.i < s10.i):=hd_ (ll_ Ls9.out hm.le)
   clear hm ho hp F9 R9 E9 Ms9 Ls9
   obtain ⟨q0,q1,q2,q3,q4,q5,q6,q7,q8,q9,q10,q11,q12⟩:=E10.out.cells13
   have k3:=E10.out.lt
   obtain ⟨r0,r1,r2,r3,r4,r5,r6,r7,r8,r9,r10,r11,r12⟩:=R10.out.cells13
   obtain ⟨g0,g1,g2,g3,g4,g5,g6,g7,g8,g9,g10,g11,g12⟩:=R10.out.free13
   have k2:=R10.out.lt
   go_wp2_with fail
   refine zaa (P:=bodyPost _ _ _ _ _) (F:=fun W=>Fr w b g cap ts s10 W∧Bl W R #[.int .i64 5,.int .i64 0,.int .i64 0,.int .i64 0,.string ⟨#[]⟩,.string ⟨#[]⟩,.slice none 0 0,.int .i64 0,.slice (some ⟨G4,0,none⟩) 1 1,.slice none 0 0,.slice ba bn bc,.slice none 0 0,.int .i64 tta] 154)
    ⟨(((((((((((((F10.out.far lR _ _).far lR _ _).far lR _ _).far lR _ _).far lR _ _).far lR _ _).far lR _ _).far lR _ _).far lR _ _).far lR _ _).far lR _ _).far lR _ _).far lR _ _),R10.out.set13⟩ ?_
   clear q0 q1 q2 q3 q4 q5 q6 q7 q8 q9 q10 q11 q12 k3 r0 r1 r2 r3 r4 r5 r6 r7 r8 r9 r10 r11 r12 g0 g1 g2 g3 g4 g5 g6 g7 g8 g9 g10 g11 g12 k2
   intro wz ⟨FZ,RZ⟩
   obtain ⟨r0,r1,r2,r3,r4,r5,r6,r7,r8,r9,r10,r11,r12⟩:=RZ.cells13
   refine bodyPost_ret (v:=.agg #[.int .i64 5,.int .i64 0,.int .i64 0,.int .i64 0,.string ⟨#[]⟩,.string ⟨#[]⟩,.slice none 0 0,.int .i64 0,.slice (some ⟨G4,0,none⟩) 1 1,.slice none 0 0,.slice ba bn bc,.slice none 0 0,.int .i64 tta]) (by simp [results,Tryz.results87,go_sem, *]) rfl ?_
   exact ⟨_,_,rfl,⟨_,_,_,_,_,_,_,_,_,_,_,_,_,_,_,_,_,_,_,_,_,_,_,rfl⟩,⟨Ms10.out.mono (by have:=HCD.out;omega),Ls10.out⟩,FZ.only,FZ.par⟩
  | false=>
   obtain ⟨c4,hc4⟩:∃ x,(txb.toList==[82,69,80,69,65,84])=x:=⟨_,rfl⟩
   cases c4 with
   | true=>
    have q0:=E2.out.cells13.1
    have g0:=E2.out.free13.1
    have k3:=E2.out.lt
    go_upto_region 62 with fail
    refine zaa (P:=Code.wp _ _ _ _) (F:=fun W=>Fr w b g cap ts s1 W∧Bl W R #[.int .i64 0,.int .i64 0,.int .i64 0,.int .i64 0,.string ⟨#[]⟩,.string ⟨#[]⟩,.slice none 0 0,.int .i64 0,.slice none 0 0,.slice none 0 0,.slice none 0 0,.slice none 0 0,.int .i64 0] 154∧Bl W Y #[.int .i64 6,.int .i64 0,.int .i64 0,.int .i64 0,.string ⟨#[]⟩,.string ⟨#[]⟩,.slice none 0 0,.int .i64 0,.slice none 0 0,.slice none 0 0,.slice none 0 0,.slice none 0 0,.int .i64 tta] 154)
     ⟨F2.out.far lY _ _,R2.out.other nR _ _,by simpa using E2.out.set 0 (.int .i64 6)⟩ ?_
    clear q0 g0 k3 F2 R2 E2
    intro w3 ⟨F3,R3,E3⟩
    have F3:=hd_ F3
    have R3:=hd_ R3
    have E3:=hd_ E3
    go_wp2_with fail
    refine (HSS.out _ _ _ _ _ _ (Ms1.out.good k HG.out) (by omega) w3 F3.out.par).mono ?_
    rintro e w4 ⟨v,s4,rfl,⟨ba,bn,bc,rfl⟩,hm,ho,hp⟩
    have F4:=hd_ (F3.out.call ho hp)
    have R4:=hd_ (R3.out.only ho n1)
    have E4:=hd_ (E3.out.only ho nY)
    have Ms4:=hd_ (Ms1.out.trans hm)
    have Ls4:Hid (s.i < s4.i):=hd_ (ll_ Ls1.out hm.le)
    clear hm ho hp F3 R3 E3 Ms1 Ls1
    have q0:=E4.out.cells13.2.2.2.2.2.2.2.2.2.2.1
    have g0:=E4.out.free13.2.2.2.2.2.2.2.2.2.2.1
    have k3:=E4.out.lt
    go_upto_region 63 with fail
    refine zaa (P:=Code.wp _ _ _ _) (F:=fun W=>Fr w b g cap ts s4 W∧Bl W R #[.int .i64 0,.int .i64 0,.int .i64 0,.int .i64 0,.string ⟨#[]⟩,.string ⟨#[]⟩,.slice none 0 0,.int .i64 0,.slice none 0 0,.slice none 0 0,.slice none 0 0,.slice none 0 0,.int .i64 0] 154∧Bl W Y #[.int .i64 6,.int .i64 0,.int .i64 0,.int .i64 0,.string ⟨#[]⟩,.string ⟨#[]⟩,.slice none 0 0,.int .i64 0,.slice none 0 0,.slice none 0 0,.slice ba bn bc,.slice none 0 0,.int .i64 tta] 154)
     ⟨F4.out.far lY _ _,R4.out.other nR _ _,by simpa using E4.out.set 10 (.slice ba bn bc)⟩ ?_
    clear q0 g0 k3 F4 R4 E4
    intro w5 ⟨F5,R5,E5⟩
    have F5:=hd_ F5
    have R5:=hd_ R5
    have E5:=hd_ E5
    go_wp2_with fail
    refine (zan ⟨#[85,78,84,73,76]⟩ (Ms4.out.good k HG.out) (by omega) F5.out.par).mono ?_
    rintro e w6 ⟨_,s6,rfl,rfl,hm,ho,hp⟩
    have F6:=hd_ (F5.out.call ho hp)
    have R6:=hd_ (R5.out.only ho n1)
    have E6:=hd_ (E5.out.only ho nY)
    have Ms6:=hd_ (Ms4.out.trans hm)
    have Ls6:Hid (s.i < s6.i):=hd_ (ll_ Ls4.out hm.le)
    clear hm ho hp F5 R5 E5 Ms4 Ls4
    go_wp2_with fail
    refine (zeD _ _ _ _ _ _ (Ms6.out.good k HG.out) (by omega) w6 F6.out.par).mono ?_
    rintro e w7 ⟨v,s7,rfl,⟨op,kd,nn,nm,fl,a,ln,c,ta,rfl⟩,hm,ho,hp⟩
    have F7:=hd_ (F6.out.call ho hp)
    have R7:=hd_ (R6.out.only ho n1)
    have E7:=hd_ (E6.out.only ho nY)
    have Ms7:=hd_ (Ms6.out.trans hm)
    have Ls7:Hid (s.i < s7.i):=hd_ (ll_ Ls6.out hm.le)
    clear hm ho hp F6 R6 E6 Ms6 Ls6
    have q0:=E7.out.cells13.2.2.2.2.2.2.2.2.1
    have g0:=E7.out.free13.2.2.2.2.2.2.2.2.1
    have k3:=E7.out.lt
    go_upto_region 65 with fail
    refine zaa (P:=Code.wp _ _ _ _) (F:=fun W=>Fr w b g cap ts s7 W∧Bl W R #[.int .i64 0,.int .i64 0,.int .i64 0,.int .i64 0,.string ⟨#[]⟩,.string ⟨#[]⟩,.slice none 0 0,.int .i64 0,.slice none 0 0,.slice none 0 0,.slice none 0 0,.slice none 0 0,.int .i64 0] 154∧Bl W Y #[.int .i64 6,.int .i64 0,.int .i64 0,.int .i64 0,.string ⟨#[]⟩,.string ⟨#[]⟩,.slice none 0 0,.int .i64 0,.slice (some ⟨w7.heap.size,0,none⟩) 1 1,.slice none 0 0,.slice ba bn bc,.slice none 0 0,.int .i64 tta] 154)
     ⟨(F7.out.far lY _ _).alloc _,(R7.out.other nR _ _).alloc _,Bl.alloc (vs:=#[.int .i64 6,.int .i64 0,.int .i64 0,.int .i64 0,.string ⟨#[]⟩,.string ⟨#[]⟩,.slice none 0 0,.int .i64 0,.slice (some ⟨w7.heap.size,0,none⟩) 1 1,.slice none 0 0,.slice ba bn bc,.slice none 0 0,.int .i64 tta]) (by simpa using E7.out.set 8 (.slice (some ⟨w7.heap.size,0,none⟩) 1 1)) _⟩ ?_
    clear q0 g0 k3 F7 R7 E7
    intro w8 ⟨F8,R8,E8⟩
    have F8:=hd_ F8
    have R8:=hd_ R8
    have E8:=hd_ E8
    obtain ⟨G7,hG⟩:∃ x,w7.heap.size=x:=⟨_,rfl⟩
    rw [hG] at E8 ⊢
    clear hG
    go_wp2_with fail
    refine (zan ⟨#[69,78,68,95,82,69,80,69,65,84]⟩ (Ms7.out.good k HG.out) (by omega) F8.out.par).mono ?_
    rintro e w9 ⟨_,s9,rfl,rfl,hm,ho,hp⟩
    have F9:=hd_ (F8.out.call ho hp)
    have R9:=hd_ (R8.out.only ho n1)
    have E9:=hd_ (E8.out.only ho nY)
    have Ms9:=hd_ (Ms7.out.trans hm)
    have Ls9:Hid (s.i < s9.i):=hd_ (ll_ Ls7.out hm.le)
    clear hm ho hp F8 R8 E8 Ms7 Ls7
    go_wp2_with fail
    refine (zan ⟨#[59]⟩ (Ms9.out.good k HG.out) (by omega) F9.out.par).mono ?_
    rintro e w10 ⟨_,s10,rfl,rfl,hm,ho,hp⟩
    have F10:=hd_ (F9.out.call ho hp)
    have R10:=hd_ (R9.out.only ho n1)
    have E10:=hd_ (E9.out.only ho nY)
    have Ms10:=hd_ (Ms9.out.trans hm)
    have Ls10:Hid (s.i < s10.i):=hd_ (ll_ Ls9.out hm.le)
    clear hm ho hp F9 R9 E9 Ms9 Ls9
    obtain ⟨q0,q1,q2,q3,q4,q5,q6,q7,q8,q9,q10,q11,q12⟩:=E10.out.cells13
    have k3:=E10.out.lt
    obtain ⟨r0,r1,r2,r3,r4,r5,r6,r7,r8,r9,r10,r11,r12⟩:=R10.out.cells13
    obtain ⟨g0,g1,g2,g3,g4,g5,g6,g7,g8,g9,g10,g11,g12⟩:=R10.out.free13
    have k2:=R10.out.lt
    go_wp2_with fail
    refine zaa (P:=bodyPost _ _ _ _ _) (F:=fun W=>Fr w b g cap ts s10 W∧Bl W R #[.int .i64 6,.int .i64 0,.int .i64 0,.int .i64 0,.string ⟨#[]⟩,.string ⟨#[]⟩,.slice none 0 0,.int .i64 0,.slice (some ⟨G7,0,none⟩) 1 1,.slice none 0 0,.slice ba bn bc,.slice none 0 0,.int .i64 tta] 154)
     ⟨(((((((((((((F10.out.far lR _ _).far lR _ _).far lR _ _).far lR _ _).far lR _ _).far lR _ _).far lR _ _).far lR _ _).far lR _ _).far lR _ _).far lR _ _).far lR _ _).far lR _ _),R10.out.set13⟩ ?_
    clear q0 q1 q2 q3 q4 q5 q6 q7 q8 q9 q10 q11 q12 k3 r0 r1 r2 r3 r4 r5 r6 r7 r8 r9 r10 r11 r12 g0 g1 g2 g3 g4 g5 g6 g7 g8 g9 g10 g11 g12 k2
    intro wz ⟨FZ,RZ⟩
    obtain ⟨r0,r1,r2,r3,r4,r5,r6,r7,r8,r9,r10,r11,r12⟩:=RZ.cells13
    refine bodyPost_ret (v:=.agg #[.int .i64 6,.int .i64 0,.int .i64 0,.int .i64 0,.string ⟨#[]⟩,.string ⟨#[]⟩,.slice none 0 0,.int .i64 0,.slice (some ⟨G7,0,none⟩) 1 1,.slice none 0 0,.slice ba bn bc,.slice none 0 0,.int .i64 tta]) (by simp [results,Tryz.results87,go_sem, *]) rfl ?_
    exact ⟨_,_,rfl,⟨_,_,_,_,_,_,_,_,_,_,_,_,_,_,_,_,_,_,_,_,_,_,_,rfl⟩,⟨Ms10.out.mono (by have:=HCD.out;omega),Ls10.out⟩,FZ.only,FZ.par⟩
   | false=>
    obtain ⟨c5,hc5⟩:∃ x,(txb.toList==[69,88,73,84])=x:=⟨_,rfl⟩
    cases c5 with
    | true=>
     have q0:=E2.out.cells13.1
     have g0:=E2.out.free13.1
     have k3:=E2.out.lt
     go_upto_region 68 with fail
     refine zaa (P:=Code.wp _ _ _ _) (F:=fun W=>Fr w b g cap ts s1 W∧Bl W R #[.int .i64 0,.int .i64 0,.int .i64 0,.int .i64 0,.string ⟨#[]⟩,.string ⟨#[]⟩,.slice none 0 0,.int .i64 0,.slice none 0 0,.slice none 0 0,.slice none 0 0,.slice none 0 0,.int .i64 0] 154∧Bl W Y #[.int .i64 7,.int .i64 0,.int .i64 0,.int .i64 0,.string ⟨#[]⟩,.string ⟨#[]⟩,.slice none 0 0,.int .i64 0,.slice none 0 0,.slice none 0 0,.slice none 0 0,.slice none 0 0,.int .i64 tta] 154)
      ⟨F2.out.far lY _ _,R2.out.other nR _ _,by simpa using E2.out.set 0 (.int .i64 7)⟩ ?_
     clear q0 g0 k3 F2 R2 E2
     intro w3 ⟨F3,R3,E3⟩
     have F3:=hd_ F3
     have R3:=hd_ R3
     have E3:=hd_ E3
     go_wp2_with fail
     refine (zan ⟨#[59]⟩ (Ms1.out.good k HG.out) (by omega) F3.out.par).mono ?_
     rintro e w4 ⟨_,s4,rfl,rfl,hm,ho,hp⟩
     have F4:=hd_ (F3.out.call ho hp)
     have R4:=hd_ (R3.out.only ho n1)
     have E4:=hd_ (E3.out.only ho nY)
     have Ms4:=hd_ (Ms1.out.trans hm)
     have Ls4:Hid (s.i < s4.i):=hd_ (ll_ Ls1.out hm.le)
     clear hm ho hp F3 R3 E3 Ms1 Ls1
     obtain ⟨q0,q1,q2,q3,q4,q5,q6,q7,q8,q9,q10,q11,q12⟩:=E4.out.cells13
     have k3:=E4.out.lt
     obtain ⟨r0,r1,r2,r3,r4,r5,r6,r7,r8,r9,r10,r11,r12⟩:=R4.out.cells13
     obtain ⟨g0,g1,g2,g3,g4,g5,g6,g7,g8,g9,g10,g11,g12⟩:=R4.out.free13
     have k2:=R4.out.lt
     go_wp2_with fail
     refine zaa (P:=bodyPost _ _ _ _ _) (F:=fun W=>Fr w b g cap ts s4 W∧Bl W R #[.int .i64 7,.int .i64 0,.int .i64 0,.int .i64 0,.string ⟨#[]⟩,.string ⟨#[]⟩,.slice none 0 0,.int .i64 0,.slice none 0 0,.slice none 0 0,.slice none 0 0,.slice none 0 0,.int .i64 tta] 154)
      ⟨(((((((((((((F4.out.far lR _ _).far lR _ _).far lR _ _).far lR _ _).far lR _ _).far lR _ _).far lR _ _).far lR _ _).far lR _ _).far lR _ _).far lR _ _).far lR _ _).far lR _ _),R4.out.set13⟩ ?_
     clear q0 q1 q2 q3 q4 q5 q6 q7 q8 q9 q10 q11 q12 k3 r0 r1 r2 r3 r4 r5 r6 r7 r8 r9 r10 r11 r12 g0 g1 g2 g3 g4 g5 g6 g7 g8 g9 g10 g11 g12 k2
     intro wz ⟨FZ,RZ⟩
     obtain ⟨r0,r1,r2,r3,r4,r5,r6,r7,r8,r9,r10,r11,r12⟩:=RZ.cells13
     refine bodyPost_ret (v:=.agg #[.int .i64 7,.int .i64 0,.int .i64 0,.int .i64 0,.string ⟨#[]⟩,.string ⟨#[]⟩,.slice none 0 0,.int .i64 0,.slice none 0 0,.slice none 0 0,.slice none 0 0,.slice none 0 0,.int .i64 tta]) (by simp [results,Tryz.results87,go_sem, *]) rfl ?_
     exact ⟨_,_,rfl,⟨_,_,_,_,_,_,_,_,_,_,_,_,_,_,_,_,_,_,_,_,_,_,_,rfl⟩,⟨Ms4.out.mono (by have:=HCD.out;omega),Ls4.out⟩,FZ.only,FZ.par⟩
    | false=>
     have q0:=E2.out.cells13.1
     have g0:=E2.out.free13.1
     have k3:=E2.out.lt
     go_upto_region 68 with fail
     refine zaa (P:=Code.wp _ _ _ _) (F:=fun W=>Fr w b g cap ts s1 W∧Bl W R #[.int .i64 0,.int .i64 0,.int .i64 0,.int .i64 0,.string ⟨#[]⟩,.string ⟨#[]⟩,.slice none 0 0,.int .i64 0,.slice none 0 0,.slice none 0 0,.slice none 0 0,.slice none 0 0,.int .i64 0] 154∧Bl W Y #[.int .i64 8,.int .i64 0,.int .i64 0,.int .i64 0,.string ⟨#[]⟩,.string ⟨#[]⟩,.slice none 0 0,.int .i64 0,.slice none 0 0,.slice none 0 0,.slice none 0 0,.slice none 0 0,.int .i64 tta] 154)
      ⟨F2.out.far lY _ _,R2.out.other nR _ _,by simpa using E2.out.set 0 (.int .i64 8)⟩ ?_
     clear q0 g0 k3 F2 R2 E2
     intro w3 ⟨F3,R3,E3⟩
     have F3:=hd_ F3
     have R3:=hd_ R3
     have E3:=hd_ E3
     go_wp2_with fail
     refine (zan ⟨#[59]⟩ (Ms1.out.good k HG.out) (by omega) F3.out.par).mono ?_
     rintro e w4 ⟨_,s4,rfl,rfl,hm,ho,hp⟩
     have F4:=hd_ (F3.out.call ho hp)
     have R4:=hd_ (R3.out.only ho n1)
     have E4:=hd_ (E3.out.only ho nY)
     have Ms4:=hd_ (Ms1.out.trans hm)
     have Ls4:Hid (s.i < s4.i):=hd_ (ll_ Ls1.out hm.le)
     clear hm ho hp F3 R3 E3 Ms1 Ls1
     obtain ⟨q0,q1,q2,q3,q4,q5,q6,q7,q8,q9,q10,q11,q12⟩:=E4.out.cells13
     have k3:=E4.out.lt
     obtain ⟨r0,r1,r2,r3,r4,r5,r6,r7,r8,r9,r10,r11,r12⟩:=R4.out.cells13
     obtain ⟨g0,g1,g2,g3,g4,g5,g6,g7,g8,g9,g10,g11,g12⟩:=R4.out.free13
     have k2:=R4.out.lt
     go_wp2_with fail
     refine zaa (P:=bodyPost _ _ _ _ _) (F:=fun W=>Fr w b g cap ts s4 W∧Bl W R #[.int .i64 8,.int .i64 0,.int .i64 0,.int .i64 0,.string ⟨#[]⟩,.string ⟨#[]⟩,.slice none 0 0,.int .i64 0,.slice none 0 0,.slice none 0 0,.slice none 0 0,.slice none 0 0,.int .i64 tta] 154)
      ⟨(((((((((((((F4.out.far lR _ _).far lR _ _).far lR _ _).far lR _ _).far lR _ _).far lR _ _).far lR _ _).far lR _ _).far lR _ _).far lR _ _).far lR _ _).far lR _ _).far lR _ _),R4.out.set13⟩ ?_
     clear q0 q1 q2 q3 q4 q5 q6 q7 q8 q9 q10 q11 q12 k3 r0 r1 r2 r3 r4 r5 r6 r7 r8 r9 r10 r11 r12 g0 g1 g2 g3 g4 g5 g6 g7 g8 g9 g10 g11 g12 k2
     intro wz ⟨FZ,RZ⟩
     obtain ⟨r0,r1,r2,r3,r4,r5,r6,r7,r8,r9,r10,r11,r12⟩:=RZ.cells13
     refine bodyPost_ret (v:=.agg #[.int .i64 8,.int .i64 0,.int .i64 0,.int .i64 0,.string ⟨#[]⟩,.string ⟨#[]⟩,.slice none 0 0,.int .i64 0,.slice none 0 0,.slice none 0 0,.slice none 0 0,.slice none 0 0,.int .i64 tta]) (by simp [results,Tryz.results87,go_sem, *]) rfl ?_
     exact ⟨_,_,rfl,⟨_,_,_,_,_,_,_,_,_,_,_,_,_,_,_,_,_,_,_,_,_,_,_,rfl⟩,⟨Ms4.out.mono (by have:=HCD.out;omega),Ls4.out⟩,FZ.only,FZ.par⟩
end Go.Proofs.YtdpkjpjkdmkkpaaGreatDoor
