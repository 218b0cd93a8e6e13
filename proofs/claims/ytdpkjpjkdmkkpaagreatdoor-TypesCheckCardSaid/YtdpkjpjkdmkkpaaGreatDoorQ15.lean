/- The reference's Instruction List, weakly: inst (package rungref14). -/
import Derived.Test.YtdpkjpjkdmkkpaaGreatDoorQ14
set_option maxRecDepth 100000
set_option maxHeartbeats 16000000
namespace Go.Proofs.YtdpkjpjkdmkkpaaGreatDoor
open Go.RowKit Lx Pa
theorem zm2 {ts:List Tok} (h:∀ t ∈ ts,t.text.length≤100000) (s:PS):(T ts s).text.length≤100000:=by
 unfold T
 split
 ·rw [List.getD_eq_getElem?_getD]
  cases h1:ts[min s.i (ts.length - 1)]? with
  | none=>simp [tok0]
  | some t=>exact h t (List.mem_of_getElem? h1)
 ·simp [tok0]
theorem zln {ts:List Tok} {s:PS} (he:zaE ts) (h0:s.err=0) (hi:s.i < ts.length) (ht:(T ts s).tok≠0):s.i+1 < ts.length:=by
 rcases Nat.lt_or_ge (s.i+1) ts.length with h | h
 ·exact h
 ·have h1:s.i=ts.length - 1:=by omega
  have h2:=T_in h0 hi
  rw [h1] at h2
  exact absurd (he.2 _ h2) ht
theorem zk9 {b g cap k:Nat} {ts:List Tok} {s:PS} (hg:Pa.Good ts k s) (hk:k≤1000) (htx:∀ t ∈ ts,t.text.length≤100000) (w:World) (hx:Par w b g cap ts s) :
  Calls Tryz.prog 50 #[.pointer (some ⟨b,0,none⟩)] w fun e w'=>∃ lab op ea en ec ga gn gc ta r s',e=.returned (.tuple #[.agg #[.string lab,.string op,.slice ea en ec,.slice ga gn gc,.int .i64 ta],.bool r])∧Mv ts 12 s s'∧Only b w w'∧Par w' b g cap ts s':=by
 have F0:=hd_ (Fr.start hx)
 have HG:=hd_ hg
 have HTX:=hd_ htx
 have HEN:=hd_ hx.ends
 have hf0:=zaV
 have hfew:=zat hg (by omega) hx
 clear hx hg htx
 go_enter Tryz.func50,Tryz.ntmps50
 have hbw:=F0.out.lt.1
 have n0:w.heap.size≠b:=by omega
 go_wp2_with fail
 refine (zcb HG.out (F0.out.alloc _).par).mono ?_
 rintro e w1 ⟨tk,tkd,tnn,tx,tta,rfl,ht,hb⟩
 have F1:=hd_ ((F0.out.alloc _).below hb)
 have R1:=hd_ ((Bl.new w #[.string ⟨#[]⟩,.string ⟨#[]⟩,.slice none 0 0,.slice none 0 0,.int .i64 0] 102).below hb)
 have HTK:Hid ((T ts s).tok=tk):=hd_ (by rw [ht])
 have HT:=hd_ ht
 have HXL:Hid ((⟨tx.toArray⟩:ByteArray).size≤100000):=hd_ (by have:=zm2 HTX.out s;rw [ht] at this;show tx.toArray.size≤100000;simpa using this)
 obtain ⟨txb,hxb⟩:∃ x:ByteArray,(⟨tx.toArray⟩:ByteArray)=x:=⟨_,rfl⟩
 rw [hxb] at HXL ⊢
 clear hb ht hxb F0
 go_upto_region 3 with fail
 refine zaa (P:=Code.wp _ _ _ _) (F:=fun W=>Fr w b g cap ts s W∧Bl W w.heap.size #[.string ⟨#[]⟩,.string ⟨#[]⟩,.slice none 0 0,.slice none 0 0,.int .i64 0] 102∧Bl W w1.heap.size #[.int .i64 tk,.int .i64 tkd,.int .i64 tnn,.string txb,.int .i64 tta] 107∧Bl W (w1.heap.size+1) #[.string ⟨#[]⟩,.string ⟨#[]⟩,.slice none 0 0,.slice none 0 0,.int .i64 tta] 102)
  ⟨(F1.out.alloc _).alloc _,(R1.out.alloc _).alloc _,(Bl.new _ _ _).alloc _,Bl.newAt _ (by simp)⟩ ?_
 have hRl:=R1.out.lt
 have hb1:=F1.out.size
 clear F1 R1
 intro w2 ⟨F2,R2,Z2,X2⟩
 obtain ⟨X,hX⟩:∃ X,w1.heap.size+1=X:=⟨_,rfl⟩
 rw [hX] at X2 ⊢
 obtain ⟨Z,hZ⟩:∃ Z,w1.heap.size=Z:=⟨_,rfl⟩
 rw [hZ] at Z2 ⊢
 obtain ⟨R,hR⟩:∃ R,w.heap.size=R:=⟨_,rfl⟩
 have lR:w.heap.size≤R:=by omega
 have lZ:w.heap.size≤Z:=by omega
 have lX:w.heap.size≤X:=by omega
 have hbR:b < R:=by omega
 have hRZ:R < Z:=by omega
 have hZX:Z < X:=by omega
 rw [hR] at R2 ⊢
 clear hX hZ hR hRl hb1 n0 hbw
 obtain ⟨t0,t1,t2,t3,t4⟩:=Z2.cells5
 have k5:=Z2.lt
 have F2:=hd_ F2
 have R2:=hd_ R2
 have Z2:=hd_ Z2
 have X2:=hd_ X2
 go_cut [44] from 12 to 44 (fun v wx=>∃ lb:Bool,v=.bool lb∧Hid (lb=true→Mv ts 0 s (up (up s)))∧Fr w b g cap ts s wx∧Bl wx R #[.string ⟨#[]⟩,.string ⟨#[]⟩,.slice none 0 0,.slice none 0 0,.int .i64 0] 102∧Bl wx Z #[.int .i64 tk,.int .i64 tkd,.int .i64 tnn,.string txb,.int .i64 tta] 107∧Bl wx X #[.string ⟨#[]⟩,.string ⟨#[]⟩,.slice none 0 0,.slice none 0 0,.int .i64 tta] 102)
 case first=>
  by_cases h2:tk=2
  ·have e2:(tk==2)=true:=by simp [h2]
   have ht0:(T ts s).tok≠0:=by rw [HTK.out,h2];decide
   have he0:s.err=0:=Rf.tok_0 ht0
   have hi0:s.i < ts.length:=HG.out.1 he0
   have hi1:s.i+1 < ts.length:=zln HEN.out he0 hi0 ht0
   have hT1:=T_in (ts:=ts) (s:=up s) (by show s.err=0;exact he0) (by show s.i+1 < ts.length;exact hi1)
   obtain ⟨u,hu⟩:∃ u,T ts (up s)=u:=⟨_,rfl⟩
   rw [hu] at hT1
   have hT2:ts[s.i+1]? = some u:=hT1
   obtain ⟨g0,g1,g2,g3,g4⟩:=F2.out.par.tc.cells hT2
   have kg:=zac g0
   obtain ⟨d0,d1,-,-,-,-,-⟩:=F2.out.par.pb.cells
   have kb:=F2.out.par.pb.lt
   have HUP:Hid (u.tok≠0→Mv ts 0 s (up (up s))):=hd_ (fun h=>(Mv.up HEN.out ht0).trans (Mv.up HEN.out (by rw [hu];exact h)))
   obtain ⟨uk,ud,un,ux,ua⟩:=u
   obtain ⟨n,hn⟩:∃ n,ts.length=n:=⟨_,rfl⟩
   have hle:=F2.out.par.le
   rw [hn] at d0 hi1 hle
   have i0:0≤(s.i:Int)+1:=by omega
   have i1:(s.i:Int)+1 < n:=by omega
   have i2:IntKind.i64.wrap ((s.i:Int)+1)=(s.i:Int)+1:=IntWalk.i64_in _ (by omega)
   have i3:((s.i:Int)+1).toNat=s.i+1:=by omega
   simp only at g0 g1 g2 g3 g4
   obtain ⟨uxb,hub⟩:∃ x:ByteArray,(⟨ux.toArray⟩:ByteArray)=x:=⟨_,rfl⟩
   rw [hub] at g3
   clear hT1 hT2 hu ht0 he0 hi0 hn hub h2
   by_cases hu6:uk=6
   ·have e6:(uk==6)=true:=by simp [hu6]
    have HUP:=hd_ (HUP.out (by simp only;omega))
    clear hu6
    obtain ⟨cc,hcc⟩:∃ x,(uxb.toList==[58])=x:=⟨_,rfl⟩
    cases cc with
    | false=>
     go_quiet (fail)
     go_wp2_with fail
     go_meet
     exact ⟨false,rfl,hd_ (fun h=>by cases h),F2.out.below (br_.drewN _),R2.out.below (br_.drewN _),Z2.out.below (br_.drewN _),X2.out.below (br_.drewN _)⟩
    | true=>
     go_quiet (fail)
     go_wp2_with fail
     go_meet
     exact ⟨true,rfl,hd_ (fun _=>HUP.out),F2.out.below (br_.drewN _),R2.out.below (br_.drewN _),Z2.out.below (br_.drewN _),X2.out.below (br_.drewN _)⟩
   ·have e6:(uk==6)=false:=by simpa using hu6
    clear hu6
    go_quiet (fail)
    go_wp2_with fail
    go_meet
    exact ⟨false,rfl,hd_ (fun h=>by cases h),F2.out.below (br_.drewN _),R2.out.below (br_.drewN _),Z2.out.below (br_.drewN _),X2.out.below (br_.drewN _)⟩
  ·have e2:(tk==2)=false:=by simpa using h2
   clear h2
   go_quiet (fail)
   go_wp2_with fail
   go_meet
   exact ⟨false,rfl,hd_ (fun h=>by cases h),F2.out.below (br_.drewN _),R2.out.below (br_.drewN _),Z2.out.below (br_.drewN _),X2.out.below (br_.drewN _)⟩
 case rest=>
  obtain ⟨lb,rfl,HLB,hF,hR,hZ,hX⟩:=hcut
  obtain ⟨w3,hwc⟩:∃ x,wc=x:=⟨_,rfl⟩
  rw [hwc] at hF hR hZ hX ⊢
  clear hwc t0 t1 t2 t3 t4 k5 F2 R2 Z2 X2
  have F3:=hd_ hF
  have R3:=hd_ hR
  have Z3:=hd_ hZ
  have X3:=hd_ hX
  clear hF hR hZ hX
  go_upto_if 44 with fail
  go_cut [] from 45 to 56 (fun wx=>∃ (s1:PS) (qk qd qn:Int) (qx:ByteArray) (qa:Int) (lab:ByteArray),Hid ((T ts s1).tok=qk)∧qx.size≤100000∧Hid (Mv ts 0 s s1)∧Fr w b g cap ts s1 wx∧Bl wx R #[.string ⟨#[]⟩,.string ⟨#[]⟩,.slice none 0 0,.slice none 0 0,.int .i64 0] 102∧Bl wx Z #[.int .i64 qk,.int .i64 qd,.int .i64 qn,.string qx,.int .i64 qa] 107∧Bl wx X #[.string lab,.string ⟨#[]⟩,.slice none 0 0,.slice none 0 0,.int .i64 tta] 102)
  case first=>
   cases lb with
   | false=>
    go_wp2_with fail
    go_meet
    exact ⟨s,tk,tkd,tnn,txb,tta,⟨#[]⟩,HTK,HXL.out,hd_ (Mv.refl ts s),F3.out,R3.out,Z3.out,X3.out⟩
   | true=>
    have HUP:=hd_ (HLB.out rfl)
    have t3:=(Z3.out.cell (o:=3) rfl).1
    have k5:=Z3.out.lt
    have x0:=(X3.out.cell (o:=0) rfl).1
    have y0:=(X3.out.cell (o:=0) rfl).2
    have k6:=X3.out.lt
    obtain ⟨-,d1,-,-,f1,-,-⟩:=F3.out.par.pb.cells
    have kb:=F3.out.par.pb.lt
    have iw2:IntKind.i64.wrap ((s.i:Int)+2)=(s.i:Int)+2:=IntWalk.i64_in _ (by omega)
    go_upto_region 6 with fail
    refine zaa (P:=Code.wp _ _ _ _) (F:=fun W=>Fr w b g cap ts (up (up s)) W∧Bl W R #[.string ⟨#[]⟩,.string ⟨#[]⟩,.slice none 0 0,.slice none 0 0,.int .i64 0] 102∧Bl W Z #[.int .i64 tk,.int .i64 tkd,.int .i64 tnn,.string txb,.int .i64 tta] 107∧Bl W X #[.string txb,.string ⟨#[]⟩,.slice none 0 0,.slice none 0 0,.int .i64 tta] 102)
     ⟨(F3.out.far lX _ _).set1 (i:=s.i+1+1) (i':=(s.i:Int)+2) (by push_cast;omega),(R3.out.other (by omega) _ _).other (by omega) _ _,(Z3.out.other (by omega) _ _).other (by omega) _ _,Bl.other (by simpa using X3.out.set 0 (.string txb)) (by omega) _ _⟩ ?_
    clear t3 k5 x0 y0 k6 d1 f1 kb F3 R3 Z3 X3
    intro w4 ⟨F4,R4,Z4,X4⟩
    have F4:=hd_ F4
    have R4:=hd_ R4
    have Z4:=hd_ Z4
    have X4:=hd_ X4
    have MU:=hd_ HUP.out
    go_wp2_with fail
    refine (zcb (MU.out.good _ HG.out) F4.out.par).mono ?_
    rintro e w5 ⟨vk,vd,vn,vx,va,rfl,hv,hb⟩
    have F5:=hd_ (F4.out.below hb)
    have R5:=hd_ (R4.out.below hb)
    have Z5:=hd_ (Z4.out.below hb)
    have X5:=hd_ (X4.out.below hb)
    have HV:=hd_ hv
    have HVL:Hid ((⟨vx.toArray⟩:ByteArray).size≤100000):=hd_ (by have:=zm2 HTX.out (up (up s));rw [hv] at this;show vx.toArray.size≤100000;simpa using this)
    obtain ⟨vxb,hvx⟩:∃ x:ByteArray,(⟨vx.toArray⟩:ByteArray)=x:=⟨_,rfl⟩
    rw [hvx] at HVL ⊢
    clear hb hv hvx F4 R4 Z4 X4
    obtain ⟨t0,t1,t2,t3,t4⟩:=Z5.out.cells5
    obtain ⟨y0,y1,y2,y3,y4⟩:=Z5.out.free5
    have k5:=Z5.out.lt
    go_wp2_with fail
    go_meet
    exact ⟨up (up s),vk,vd,vn,vxb,va,txb,hd_ (by rw [HV.out]),HVL.out,hd_ MU.out,(((((F5.out.far lZ _ _).far lZ _ _).far lZ _ _).far lZ _ _).far lZ _ _),(((((R5.out.other (by omega) _ _).other (by omega) _ _).other (by omega) _ _).other (by omega) _ _).other (by omega) _ _),by simpa using ((((Z5.out.set 0 (.int .i64 vk)).set 1 (.int .i64 vd)).set 2 (.int .i64 vn)).set 3 (.string vxb)).set 4 (.int .i64 va),(((((X5.out.other (by omega) _ _).other (by omega) _ _).other (by omega) _ _).other (by omega) _ _).other (by omega) _ _)⟩
  case rest=>
   obtain ⟨s1,qk,qd,qn,qx,qa,lab,HQK,hqx,M1,hF,hR,hZ,hX⟩:=hcut
   obtain ⟨w5,hwc⟩:∃ x,wc=x:=⟨_,rfl⟩
   rw [hwc] at hF hR hZ hX ⊢
   clear hwc F3 R3 Z3 X3 HT HTK HXL HLB
   have F5:=hd_ hF
   have R5:=hd_ hR
   have Z5:=hd_ hZ
   have X5:=hd_ hX
   clear hF hR hZ hX
   obtain ⟨t0,-,-,t3,-⟩:=Z5.out.cells5
   have k5:=Z5.out.lt
   go_upto_region 7 with fail
   go_cut [6] from 57 to 84 (fun v wx=>∃ r:Bool,v=.bool r∧Hid (r=true→qk=1)∧wx=w5)
   case first=>
    by_cases hq1:qk=1
    ·have e1:(qk==1)=true:=by simp [hq1]
     have HQ1:∀ {r:Bool},Hid (r=true→qk=1):=fun {_}=>hd_ (fun _=>hq1)
     clear hq1
     obtain ⟨c0,hc0⟩:∃ x,(qx.toList==[65,78,68])=x:=⟨_,rfl⟩
     obtain ⟨c1,hc1⟩:∃ x,(qx.toList==[79,82])=x:=⟨_,rfl⟩
     obtain ⟨c2,hc2⟩:∃ x,(qx.toList==[88,79,82])=x:=⟨_,rfl⟩
     obtain ⟨c3,hc3⟩:∃ x,(qx.toList==[78,79,84])=x:=⟨_,rfl⟩
     obtain ⟨c4,hc4⟩:∃ x,(qx.toList==[77,79,68])=x:=⟨_,rfl⟩
     cases c0 with
     | true=>
      go_wp2_with fail
      go_meet
      exact ⟨_,rfl,HQ1,rfl⟩
     | false=>
      cases c1 with
      | true=>
       go_wp2_with fail
       go_meet
       exact ⟨_,rfl,HQ1,rfl⟩
      | false=>
       cases c2 with
       | true=>
        go_wp2_with fail
        go_meet
        exact ⟨_,rfl,HQ1,rfl⟩
       | false=>
        cases c3 with
        | true=>
         go_wp2_with fail
         go_meet
         exact ⟨_,rfl,HQ1,rfl⟩
        | false=>
         cases c4 with
         | true=>
          go_wp2_with fail
          go_meet
          exact ⟨_,rfl,HQ1,rfl⟩
         | false=>
          go_wp2_with fail
          go_meet
          exact ⟨_,rfl,HQ1,rfl⟩
    ·have e1:(qk==1)=false:=by simpa using hq1
     clear hq1
     go_wp2_with fail
     go_meet
     exact ⟨_,rfl,hd_ (fun h=>by cases h),rfl⟩
   case rest=>
    obtain ⟨wd,rfl,HWD,hwc⟩:=hcut
    rw [hwc]
    clear hwc
    go_upto_region 8 with fail
    go_cut [85] from 86 to 91 (fun v wx=>∃ r:Bool,v=.bool r∧Hid (r=true→qk≠0)∧wx=w5)
    case first=>
     by_cases hq2:qk=2
     ·have e1:(qk==2)=true:=by simp [hq2]
      have HQ2:=hd_ hq2
      clear hq2
      go_wp2_with fail
      go_meet
      exact ⟨_,rfl,hd_ (fun _=>by rw [HQ2.out];decide),rfl⟩
     ·have e1:(qk==2)=false:=by simpa using hq2
      clear hq2
      cases wd with
      | true=>
       go_wp2_with fail
       go_meet
       exact ⟨_,rfl,hd_ (fun _=>by rw [HWD.out (by first | rfl | trivial)];decide),rfl⟩
      | false=>
       go_wp2_with fail
       go_meet
       exact ⟨_,rfl,hd_ (fun h=>by cases h),rfl⟩
    case rest=>
     obtain ⟨r,rfl,HNZ,hwc⟩:=hcut
     rw [hwc]
     clear hwc HWD
     cases r with
     | true=>
      have HNZ:=hd_ (HNZ.out rfl)
      have MU:Hid (Mv ts 0 s (up s1)):=hd_ (M1.out.trans (Mv.up HEN.out (by rw [HQK.out];exact HNZ.out)))
      have hfew1:=zat (M1.out.good _ HG.out) (by omega) F5.out.par
      have x1:=(X5.out.cell (o:=1) rfl).1
      have y1:=(X5.out.cell (o:=1) rfl).2
      have k6:=X5.out.lt
      obtain ⟨-,d1,-,-,f1,-,-⟩:=F5.out.par.pb.cells
      have kb:=F5.out.par.pb.lt
      have iw1:IntKind.i64.wrap ((s1.i:Int)+1)=(s1.i:Int)+1:=IntWalk.i64_in _ (by omega)
      go_upto_region 11 with fail
      refine zaa (P:=Code.wp _ _ _ _) (F:=fun W=>Fr w b g cap ts (up s1) W∧Bl W R #[.string ⟨#[]⟩,.string ⟨#[]⟩,.slice none 0 0,.slice none 0 0,.int .i64 0] 102∧Bl W X #[.string lab,.string qx,.slice none 0 0,.slice none 0 0,.int .i64 tta] 102)
       ⟨(F5.out.far lX _ _).up1 rfl (by push_cast;omega),(R5.out.other (by omega) _ _).other (by omega) _ _,Bl.other (by simpa using X5.out.set 1 (.string qx)) (by omega) _ _⟩ ?_
      clear t0 t3 k5 x1 y1 k6 d1 f1 kb F5 R5 Z5 X5 iw1 HNZ
      intro w6 ⟨F6,R6,X6⟩
      have F6:=hd_ F6
      have R6:=hd_ R6
      have X6:=hd_ X6
      go_wp2_with fail
      refine (zhu (MU.out.good _ HG.out) (by omega) (by omega) lX (by omega) (Yb:=R) (by omega) (by omega) R6.out F6.out X6.out).mono ?_
      rintro e w7 ⟨s7,op7,ea,en,ec,ga,gn,gc,rfl,hm,hF,hB,hY⟩
      have F7:=hd_ hF
      have X7:=hd_ hB
      have R7:=hd_ hY
      have M7:=hd_ (MU.out.trans hm)
      clear hm hF hB hY F6 R6 X6
      obtain ⟨r0,r1,r2,r3,r4⟩:=R7.out.cells5
      obtain ⟨g0,g1,g2,g3,g4⟩:=R7.out.free5
      obtain ⟨x0,x1,x2,x3,x4⟩:=X7.out.cells5
      have k7:=R7.out.lt
      have k8:=X7.out.lt
      obtain ⟨l0,hl0⟩:∃ x,lab.toList.isEmpty=x:=⟨_,rfl⟩
      cases l0 with
      | false=>
       go_upto_region 14 with fail
       go_region
       all_goals
        go_wp2_with fail
        refine zaa (P:=bodyPost _ _ _ _ _) (F:=fun W=>Fr w b g cap ts s7 W∧Bl W R #[.string lab,.string op7,.slice ea en ec,.slice ga gn gc,.int .i64 tta] 102)
         ⟨(((((F7.out.far lR _ _).far lR _ _).far lR _ _).far lR _ _).far lR _ _).drew,(Bl.set5 R7.out).drew⟩ ?_
        clear r0 r1 r2 r3 r4 g0 g1 g2 g3 g4 x0 x1 x2 x3 x4 k7 k8
        intro wz ⟨FZ,RZ⟩
        obtain ⟨r0,r1,r2,r3,r4⟩:=RZ.cells5
        refine bodyPost_ret (v:=.tuple #[.agg #[.string lab,.string op7,.slice ea en ec,.slice ga gn gc,.int .i64 tta],.bool true]) (by simp [results,Tryz.results50,go_sem, *]) rfl ?_
        exact ⟨_,_,_,_,_,_,_,_,_,_,_,rfl,M7.out.mono (by omega),FZ.only,FZ.par⟩
      | true=>
       obtain ⟨o0,ho0⟩:∃ x,op7.toList.isEmpty=x:=⟨_,rfl⟩
       cases o0 with
       | false=>
        go_upto_region 14 with fail
        go_region
        all_goals
         go_wp2_with fail
         refine zaa (P:=bodyPost _ _ _ _ _) (F:=fun W=>Fr w b g cap ts s7 W∧Bl W R #[.string lab,.string op7,.slice ea en ec,.slice ga gn gc,.int .i64 tta] 102)
          ⟨(((((F7.out.far lR _ _).far lR _ _).far lR _ _).far lR _ _).far lR _ _).drew,(Bl.set5 R7.out).drew⟩ ?_
         clear r0 r1 r2 r3 r4 g0 g1 g2 g3 g4 x0 x1 x2 x3 x4 k7 k8
         intro wz ⟨FZ,RZ⟩
         obtain ⟨r0,r1,r2,r3,r4⟩:=RZ.cells5
         refine bodyPost_ret (v:=.tuple #[.agg #[.string lab,.string op7,.slice ea en ec,.slice ga gn gc,.int .i64 tta],.bool true]) (by simp [results,Tryz.results50,go_sem, *]) rfl ?_
         exact ⟨_,_,_,_,_,_,_,_,_,_,_,rfl,M7.out.mono (by omega),FZ.only,FZ.par⟩
       | true=>
        go_upto_region 14 with fail
        go_region
        all_goals
         go_wp2_with fail
         refine zaa (P:=bodyPost _ _ _ _ _) (F:=fun W=>Fr w b g cap ts s7 W∧Bl W R #[.string lab,.string op7,.slice ea en ec,.slice ga gn gc,.int .i64 tta] 102)
          ⟨(((((F7.out.far lR _ _).far lR _ _).far lR _ _).far lR _ _).far lR _ _).drew,(Bl.set5 R7.out).drew⟩ ?_
         clear r0 r1 r2 r3 r4 g0 g1 g2 g3 g4 x0 x1 x2 x3 x4 k7 k8
         intro wz ⟨FZ,RZ⟩
         obtain ⟨r0,r1,r2,r3,r4⟩:=RZ.cells5
         refine bodyPost_ret (v:=.tuple #[.agg #[.string lab,.string op7,.slice ea en ec,.slice ga gn gc,.int .i64 tta],.bool false]) (by simp [results,Tryz.results50,go_sem, *]) rfl ?_
         exact ⟨_,_,_,_,_,_,_,_,_,_,_,rfl,M7.out.mono (by omega),FZ.only,FZ.par⟩
     | false=>
      clear t0 t3 k5 Z5
      go_wp2_with fail
      refine (zaO ⟨#[41]⟩ (M1.out.good _ HG.out) (by omega) F5.out.par).mono ?_
      rintro e w6 ⟨rq,s6,rfl,⟨hm,ht,hf⟩,ho,hp⟩
      have F6:=hd_ (F5.out.call ho hp)
      have R6:=hd_ (R5.out.only ho (by omega))
      have X6:=hd_ (X5.out.only ho (by omega))
      have M6:=hd_ (M1.out.trans hm)
      clear hm ht hf ho hp F5 R5 X5
      cases rq with
      | true=>
       have x1:=(X6.out.cell (o:=1) rfl).1
       have y1:=(X6.out.cell (o:=1) rfl).2
       have k6:=X6.out.lt
       go_upto_region 14 with fail
       refine zaa (P:=Code.wp _ _ _ _) (F:=fun W=>Fr w b g cap ts s6 W∧Bl W R #[.string ⟨#[]⟩,.string ⟨#[]⟩,.slice none 0 0,.slice none 0 0,.int .i64 0] 102∧Bl W X #[.string lab,.string ⟨#[41]⟩,.slice none 0 0,.slice none 0 0,.int .i64 tta] 102)
        ⟨F6.out.far lX _ _,R6.out.other (by omega) _ _,by simpa using X6.out.set 1 (.string ⟨#[41]⟩)⟩ ?_
       clear x1 y1 k6 F6 R6 X6
       intro w7 ⟨F7,R7,X7⟩
       have F7:=hd_ F7
       have R7:=hd_ R7
       have X7:=hd_ X7
       obtain ⟨r0,r1,r2,r3,r4⟩:=R7.out.cells5
       obtain ⟨g0,g1,g2,g3,g4⟩:=R7.out.free5
       obtain ⟨x0,x1,x2,x3,x4⟩:=X7.out.cells5
       have k7:=R7.out.lt
       have k8:=X7.out.lt
       obtain ⟨l0,hl0⟩:∃ x,lab.toList.isEmpty=x:=⟨_,rfl⟩
       cases l0 with
       | false=>
        go_upto_region 14 with fail
        go_region
        all_goals
         go_wp2_with fail
         refine zaa (P:=bodyPost _ _ _ _ _) (F:=fun W=>Fr w b g cap ts s6 W∧Bl W R #[.string lab,.string ⟨#[41]⟩,.slice none 0 0,.slice none 0 0,.int .i64 tta] 102)
          ⟨(((((F7.out.far lR _ _).far lR _ _).far lR _ _).far lR _ _).far lR _ _).drew,(Bl.set5 R7.out).drew⟩ ?_
         clear r0 r1 r2 r3 r4 g0 g1 g2 g3 g4 x0 x1 x2 x3 x4 k7 k8
         intro wz ⟨FZ,RZ⟩
         obtain ⟨r0,r1,r2,r3,r4⟩:=RZ.cells5
         refine bodyPost_ret (v:=.tuple #[.agg #[.string lab,.string ⟨#[41]⟩,.slice none 0 0,.slice none 0 0,.int .i64 tta],.bool true]) (by simp [results,Tryz.results50,go_sem, *]) rfl ?_
         exact ⟨_,_,_,_,_,_,_,_,_,_,_,rfl,M6.out.mono (by omega),FZ.only,FZ.par⟩
       | true=>
        go_upto_region 14 with fail
        go_region
        all_goals
         go_wp2_with fail
         refine zaa (P:=bodyPost _ _ _ _ _) (F:=fun W=>Fr w b g cap ts s6 W∧Bl W R #[.string lab,.string ⟨#[41]⟩,.slice none 0 0,.slice none 0 0,.int .i64 tta] 102)
          ⟨(((((F7.out.far lR _ _).far lR _ _).far lR _ _).far lR _ _).far lR _ _).drew,(Bl.set5 R7.out).drew⟩ ?_
         clear r0 r1 r2 r3 r4 g0 g1 g2 g3 g4 x0 x1 x2 x3 x4 k7 k8
         intro wz ⟨FZ,RZ⟩
         obtain ⟨r0,r1,r2,r3,r4⟩:=RZ.cells5
         refine bodyPost_ret (v:=.tuple #[.agg #[.string lab,.string ⟨#[41]⟩,.slice none 0 0,.slice none 0 0,.int .i64 tta],.bool true]) (by simp [results,Tryz.results50,go_sem, *]) rfl ?_
         exact ⟨_,_,_,_,_,_,_,_,_,_,_,rfl,M6.out.mono (by omega),FZ.only,FZ.par⟩
      | false=>
       obtain ⟨r0,r1,r2,r3,r4⟩:=R6.out.cells5
       obtain ⟨g0,g1,g2,g3,g4⟩:=R6.out.free5
       obtain ⟨x0,x1,x2,x3,x4⟩:=X6.out.cells5
       have k7:=R6.out.lt
       have k8:=X6.out.lt
       obtain ⟨l0,hl0⟩:∃ x,lab.toList.isEmpty=x:=⟨_,rfl⟩
       cases l0 with
       | false=>
        go_upto_region 14 with fail
        go_region
        all_goals
         go_wp2_with fail
         refine zaa (P:=bodyPost _ _ _ _ _) (F:=fun W=>Fr w b g cap ts s6 W∧Bl W R #[.string lab,.string ⟨#[]⟩,.slice none 0 0,.slice none 0 0,.int .i64 tta] 102)
          ⟨(((((F6.out.far lR _ _).far lR _ _).far lR _ _).far lR _ _).far lR _ _).drew,(Bl.set5 R6.out).drew⟩ ?_
         clear r0 r1 r2 r3 r4 g0 g1 g2 g3 g4 x0 x1 x2 x3 x4 k7 k8
         intro wz ⟨FZ,RZ⟩
         obtain ⟨r0,r1,r2,r3,r4⟩:=RZ.cells5
         refine bodyPost_ret (v:=.tuple #[.agg #[.string lab,.string ⟨#[]⟩,.slice none 0 0,.slice none 0 0,.int .i64 tta],.bool true]) (by simp [results,Tryz.results50,go_sem, *]) rfl ?_
         exact ⟨_,_,_,_,_,_,_,_,_,_,_,rfl,M6.out.mono (by omega),FZ.only,FZ.par⟩
       | true=>
        go_upto_region 14 with fail
        go_region
        all_goals
         go_wp2_with fail
         refine zaa (P:=bodyPost _ _ _ _ _) (F:=fun W=>Fr w b g cap ts s6 W∧Bl W R #[.string lab,.string ⟨#[]⟩,.slice none 0 0,.slice none 0 0,.int .i64 tta] 102)
          ⟨(((((F6.out.far lR _ _).far lR _ _).far lR _ _).far lR _ _).far lR _ _).drew,(Bl.set5 R6.out).drew⟩ ?_
         clear r0 r1 r2 r3 r4 g0 g1 g2 g3 g4 x0 x1 x2 x3 x4 k7 k8
         intro wz ⟨FZ,RZ⟩
         obtain ⟨r0,r1,r2,r3,r4⟩:=RZ.cells5
         refine bodyPost_ret (v:=.tuple #[.agg #[.string lab,.string ⟨#[]⟩,.slice none 0 0,.slice none 0 0,.int .i64 tta],.bool false]) (by simp [results,Tryz.results50,go_sem, *]) rfl ?_
         exact ⟨_,_,_,_,_,_,_,_,_,_,_,rfl,M6.out.mono (by omega),FZ.only,FZ.par⟩
end Go.Proofs.YtdpkjpjkdmkkpaaGreatDoor
