/- The reference's parser, weakly: stmt at IF. -/
import Derived.Test.YtdpkjpjkdmkkpaaGreatDoorQD
set_option maxRecDepth 100000
set_option maxHeartbeats 16000000
namespace Go.Proofs.YtdpkjpjkdmkkpaaGreatDoor
open Go.RowKit Lx Pa
def zm0 (t:Tok):Prop:=t.tok≠2∧wOf t=[73,70]
theorem zj0 {deep:Int} (h1:1≤deep) (h9:deep≤32) (hS:zdj (deep+1)):zky deep zm0:=by
 intro b g cap k ts s hg hk htok hP w hx
 have F0:=hd_ (Fr.start hx)
 have HG:=hd_ hg
 have HCD:Hid (cst (deep+1)+6=cst deep∧cst deep≤300):=hd_ (by unfold cst;omega)
 have hcd:cst (deep+1)≤300:=by have:=HCD.out;omega
 have HSS:=hd_ hS
 obtain ⟨ia,hi9,hz0,hz1,hz2⟩:=info_parts zje
 have HA:=hd_ (And.intro hi9 (And.intro hz0 (And.intro hz1 hz2)))
 clear hi9 hz0 hz1 hz2
 have hwd:IntKind.i64.wrap (deep+1)=deep+1:=IntWalk.i64_in _ (by omega)
 have Ms1:Hid (Mv ts 0 s (Pa.up s)):=hd_ (Mv.up hx.ends htok)
 have Ls1:Hid (s.i < (Pa.up s).i):=hd_ (by show s.i < s.i+1;omega)
 have HN:=hd_ (fun W (hW:Par W b g cap ts s)=>zdA (k:=k) hg (by omega) W hW)
 clear hg hx hS htok
 obtain ⟨s1,hs1⟩:∃ x,Pa.up s=x:=⟨_,rfl⟩
 rw [hs1] at HN Ms1 Ls1
 clear hs1
 go_enter Tryz.func87,Tryz.ntmps87
 have hbw:=F0.out.lt.1
 have n0:w.heap.size≠b:=by omega
 go_wp2_with fail
 refine (HN.out _ (F0.out.alloc _).par).mono ?_
 rintro e w1 ⟨tk,tkd,tnn,tx,tta,rfl,ht,ho,hp⟩
 rw [ht] at hP
 have F1:=hd_ ((F0.out.alloc _).call ho hp)
 have R1:=hd_ ((Bl.new w #[.int .i64 0,.int .i64 0,.int .i64 0,.int .i64 0,.string ⟨#[]⟩,.string ⟨#[]⟩,.slice none 0 0,.int .i64 0,.slice none 0 0,.slice none 0 0,.slice none 0 0,.slice none 0 0,.int .i64 0] 154).only ho n0)
 obtain ⟨txb,hxb⟩:∃ x:ByteArray,(⟨tx.toArray⟩:ByteArray)=x:=⟨_,rfl⟩
 rw [hxb]
 have hP2:(tk==2)=false∧(txb.toList==[73,70])=true:=by
  have h3:txb.toList=[73,70]:=by rw [← hxb];exact hP.2
  exact ⟨by simpa using hP.1,by rw [h3];rfl⟩
 clear hP
 clear ho hp ht hxb F0 HN
 go_upto_region 3 with fail
 refine zaa (P:=Code.wp _ _ _ _) (F:=fun W=>Fr w b g cap ts s1 W∧Bl W w.heap.size #[.int .i64 0,.int .i64 0,.int .i64 0,.int .i64 0,.string ⟨#[]⟩,.string ⟨#[]⟩,.slice none 0 0,.int .i64 0,.slice none 0 0,.slice none 0 0,.slice none 0 0,.slice none 0 0,.int .i64 0] 154∧Bl W w1.heap.size #[.int .i64 tk,.int .i64 tkd,.int .i64 tnn,.string txb,.int .i64 tta] 107∧Bl W (w1.heap.size+1) #[.int .i64 0,.int .i64 0,.int .i64 0,.int .i64 0,.string ⟨#[]⟩,.string ⟨#[]⟩,.slice none 0 0,.int .i64 0,.slice none 0 0,.slice none 0 0,.slice none 0 0,.slice none 0 0,.int .i64 tta] 154)
  ⟨(F1.out.alloc _).alloc _,(R1.out.alloc _).alloc _,(Bl.new _ _ _).alloc _,Bl.newAt _ (by simp)⟩ ?_
 have hRl:=R1.out.lt
 have hb1:=F1.out.size
 clear F1 R1
 intro w2 ⟨F2,R2,T2,E2⟩
 obtain ⟨Y,hY⟩:∃ Y,w1.heap.size+1=Y:=⟨_,rfl⟩
 rw [hY] at E2 ⊢
 obtain ⟨Z,hZ⟩:∃ Z,w1.heap.size=Z:=⟨_,rfl⟩
 rw [hZ] at T2 ⊢
 obtain ⟨R,hR⟩:∃ R,w.heap.size=R:=⟨_,rfl⟩
 have n1:R≠b:=by omega
 have nY:Y≠b:=by omega
 have nR:R≠Y:=by omega
 have hRY:R < Y:=by omega
 have lR:w.heap.size≤R:=by omega
 have lY:w.heap.size≤Y:=by omega
 have hbY:b < Y+1:=by omega
 rw [hR] at R2 ⊢
 clear hY hZ hR hRl hb1 n0 hbw
 obtain ⟨t0,t1,t2,t3,t4⟩:=T2.cells5
 have k5:=T2.lt
 have F2:=hd_ F2
 have R2:=hd_ R2
 have E2:=hd_ E2
 clear T2
 obtain ⟨h2b,hc0⟩:=hP2
 have q0:=E2.out.cells13.1
 have g0:=E2.out.free13.1
 have k3:=E2.out.lt
 go_upto_region 9 with fail
 refine zaa (P:=Code.wp _ _ _ _) (F:=fun W=>Fr w b g cap ts s1 W∧Bl W R #[.int .i64 0,.int .i64 0,.int .i64 0,.int .i64 0,.string ⟨#[]⟩,.string ⟨#[]⟩,.slice none 0 0,.int .i64 0,.slice none 0 0,.slice none 0 0,.slice none 0 0,.slice none 0 0,.int .i64 0] 154∧Bl W Y #[.int .i64 2,.int .i64 0,.int .i64 0,.int .i64 0,.string ⟨#[]⟩,.string ⟨#[]⟩,.slice none 0 0,.int .i64 0,.slice none 0 0,.slice none 0 0,.slice none 0 0,.slice none 0 0,.int .i64 tta] 154)
  ⟨F2.out.far lY _ _,R2.out.other nR _ _,by simpa using E2.out.set 0 (.int .i64 2)⟩ ?_
 clear q0 g0 k3 F2 R2 E2
 intro w3 ⟨F3,R3,E3⟩
 have F3:=hd_ F3
 have R3:=hd_ R3
 have E3:=hd_ E3
 go_wp2_with fail
 refine (zeD _ _ _ _ _ _ (Ms1.out.good k HG.out) (by omega) w3 F3.out.par).mono ?_
 rintro e w4 ⟨v,s4,rfl,⟨op,kd,nn,nm,fl,a,ln,c,ta,rfl⟩,hm,ho,hp⟩
 have F4:=hd_ (Fr.call F3.out ho hp)
 have R4:=hd_ (Bl.only R3.out ho n1)
 have E4:=hd_ (Bl.only E3.out ho nY)
 have Ms4:=hd_ (Ms1.out.trans hm)
 have Ls4:Hid (s.i < s4.i):=hd_ (ll_ Ls1.out hm.le)
 clear hm ho hp F3 R3 E3 Ms1 Ls1
 go_upto_region 10 with fail
 have lY4:=E4.out.lt
 refine zaa (P:=Code.wp _ _ _ _) (F:=fun W=>Fr w b g cap ts s4 W∧Bl W R #[.int .i64 0,.int .i64 0,.int .i64 0,.int .i64 0,.string ⟨#[]⟩,.string ⟨#[]⟩,.slice none 0 0,.int .i64 0,.slice none 0 0,.slice none 0 0,.slice none 0 0,.slice none 0 0,.int .i64 0] 154∧Bl W Y #[.int .i64 2,.int .i64 0,.int .i64 0,.int .i64 0,.string ⟨#[]⟩,.string ⟨#[]⟩,.slice none 0 0,.int .i64 0,.slice none 0 0,.slice none 0 0,.slice none 0 0,.slice none 0 0,.int .i64 tta] 154∧Bl W w4.heap.size #[.int .i64 op,.int .i64 kd,.int .i64 nn,.string nm,.string fl,.slice a ln c,.int .i64 ta] 112)
  ⟨F4.out.alloc _,R4.out.alloc _,E4.out.alloc _,Bl.new _ _ _⟩ ?_
 clear F4 R4 E4
 intro w5 ⟨F5,R5,E5,BX5⟩
 have F5:=hd_ F5
 have R5:=hd_ R5
 have E5:=hd_ E5
 have BX5:=hd_ BX5
 obtain ⟨X,hX⟩:∃ x,w4.heap.size=x:=⟨_,rfl⟩
 rw [hX] at BX5 ⊢
 have nX:X≠b:=by omega
 have nXY:X≠Y:=by omega
 have lX:Y < X:=by omega
 clear lY4
 clear hX
 go_wp2_with fail
 refine (zan ⟨#[84,72,69,78]⟩ (Ms4.out.good k HG.out) (by omega) F5.out.par).mono ?_
 rintro e w6 ⟨_,s6,rfl,rfl,hm,ho,hp⟩
 have F6:=hd_ (Fr.call F5.out ho hp)
 have R6:=hd_ (Bl.only R5.out ho n1)
 have E6:=hd_ (Bl.only E5.out ho nY)
 have BX6:=hd_ (Bl.only BX5.out ho nX)
 have Ms6:=hd_ (Ms4.out.trans hm)
 have Ls6:Hid (s.i < s6.i):=hd_ (ll_ Ls4.out hm.le)
 clear hm ho hp F5 R5 E5 BX5 Ms4 Ls4
 have OA6:Hid (w6.ownsRow (Y+1) 201 3 (.slice none 0 0) 0 []):=hd_ ⟨by simp,.inl ⟨rfl,rfl⟩⟩
 go_upto_region 11 with fail
 go_cut [] from 36 to 47 (fun wx=>∃ (s8:PS) (ya:Option Addr) (yc:Nat) (cs8:List Value),(Mv ts (cst (deep+1)) s6 s8∧s6.i≤s8.i)∧Fr w b g cap ts s8 wx∧Bl wx R #[.int .i64 0,.int .i64 0,.int .i64 0,.int .i64 0,.string ⟨#[]⟩,.string ⟨#[]⟩,.slice none 0 0,.int .i64 0,.slice none 0 0,.slice none 0 0,.slice none 0 0,.slice none 0 0,.int .i64 0] 154∧Bl wx Y #[.int .i64 2,.int .i64 0,.int .i64 0,.int .i64 0,.string ⟨#[]⟩,.string ⟨#[]⟩,.slice none 0 0,.int .i64 0,.slice none 0 0,.slice ya (0+1) yc,.slice none 0 0,.slice none 0 0,.int .i64 tta] 154∧wx.ownsRow (Y+1) 201 3 (.slice ya (0+1) yc) (0+1) cs8)
 case first=>
  have o5:=E6.out.cells13.2.2.2.2.2.2.2.2.2.1
  have k3:=E6.out.lt
  obtain ⟨x0,x1,x2,x3,x4,x5,x6⟩:=BX6.out.cells7
  have k4:=BX6.out.lt
  go_region_law (first
   | (go_simp;go_at_call 55;refine (HSS.out _ _ _ _ _ _ (Ms6.out.good k HG.out) (by omega) _ (by first | exact F6.out.drew.par | exact (F6.out.drew.alloc _).par)).mono ?_;rintro e w7 ⟨v,s8,rfl,⟨ba,bn,bc,rfl⟩,hm,ho,hp⟩;have F7:Hid (Fr w b g cap ts s8 w7):=hd_ (Fr.call (s:=s6) (by first | exact F6.out.drew | exact F6.out.drew.alloc _) ho hp);have R7:Hid (Bl w7 R #[.int .i64 0,.int .i64 0,.int .i64 0,.int .i64 0,.string ⟨#[]⟩,.string ⟨#[]⟩,.slice none 0 0,.int .i64 0,.slice none 0 0,.slice none 0 0,.slice none 0 0,.slice none 0 0,.int .i64 0] 154):=hd_ (Bl.only (by first | exact R6.out.drew | exact R6.out.drew.alloc _) ho n1);have E7:Hid (Bl w7 Y #[.int .i64 2,.int .i64 0,.int .i64 0,.int .i64 0,.string ⟨#[]⟩,.string ⟨#[]⟩,.slice none 0 0,.int .i64 0,.slice none 0 0,.slice none 0 0,.slice none 0 0,.slice none 0 0,.int .i64 tta] 154):=hd_ (Bl.only (by first | exact E6.out.drew | exact E6.out.drew.alloc _) ho nY);have BX7:Hid (Bl w7 X #[.int .i64 op,.int .i64 kd,.int .i64 nn,.string nm,.string fl,.slice a ln c,.int .i64 ta] 112):=hd_ (Bl.only (by first | exact BX6.out.drew | exact BX6.out.drew.alloc _) ho nX);have OA7:Hid (w7.ownsRow (Y+1) 201 3 (.slice none 0 0) 0 []):=hd_ (zam (by first | exact zae OA6.out br_.drew nl_ | exact zae (zae OA6.out br_.drew nl_) (br_.alloc nl_ _) nl_) ho (by omega));have M8:=hd_ hm;have hz8:=(E7.out.lt);have o1:=E7.out.cells13.2.2.2.2.2.2.2.2.2.1;obtain ⟨u0,u1,u2,u3,u4,u5,u6⟩:=BX7.out.cells7;have k7:=BX7.out.lt;clear hm ho hp)
   | (refine step_append_lies _ (by rfl) _ _ _ (by rfl) ((Y+1)) 201 ia _ 3 72 Tryz.underlying152 HA.out.1 HA.out.2.1 HA.out.2.2.1 HA.out.2.2.2 rfl (by omega) (.slice none 0 0) 0 [] (by rfl) (zae OA7.out ((Below.refl w7.heap.size w7).alloc nl_ _) nl_) ⟨w7.heap.size,0,none⟩ 1 1 [.slice (some ⟨w6.heap.size,0,none⟩) 1 1,.slice none 0 0,.slice ba bn bc] (by first | rfl | (simp [Act.eval,Act.put];done)) (by rfl) (World.news_of_block (cs:=#[.slice (some ⟨w6.heap.size,0,none⟩) 1 1,.slice none 0 0,.slice ba bn bc]) (t:=201) (fr:=(0,0)) (by first | exact heap_alloc_new _ _ | exact zaS _ _ _)) (by simp [Value.oneCell']) (by omega) (by simp only [maxLen];omega) (by omega) (by simp;omega) (w7.heap.size+1) (by simp) ?_;intro g9 cp9 w8 hown hgrow hat hlt9;have E8:=hd_ ((E7.out.alloc _).grown hgrow (zaB OA7.out (by omega)));have R8:=hd_ ((R7.out.alloc _).grown hgrow (zaB OA7.out (by omega)));have F8:=hd_ ((F7.out.alloc _).grown hgrow (fun k hk=>by have:=(OA7.out.lt k hk).1;omega));have OA8:=hd_ hown;have o2:=E8.out.cells13.2.2.2.2.2.2.2.2.2.1;have f2:=E8.out.free13.2.2.2.2.2.2.2.2.2.1;have k5':=E8.out.lt;clear hown hgrow hlt9)
   | (refine step_append_lies _ (by rfl) _ _ _ (by rfl) ((Y+1)) 201 ia _ 3 72 Tryz.underlying152 HA.out.1 HA.out.2.1 HA.out.2.2.1 HA.out.2.2.2 rfl (by omega) (.slice none 0 0) 0 [] (by rfl) (zae (zae OA7.out ((Below.refl w7.heap.size w7).alloc nl_ _) nl_) (br_.alloc nl_ _) nl_) ⟨(w7.heap.size+1),0,none⟩ 1 1 [.slice (some ⟨w7.heap.size,0,none⟩) 1 1,.slice none 0 0,.slice ba bn bc] (by first | rfl | (simp [Act.eval,Act.put];done)) (by rfl) (World.news_of_block (cs:=#[.slice (some ⟨w7.heap.size,0,none⟩) 1 1,.slice none 0 0,.slice ba bn bc]) (t:=201) (fr:=(0,0)) (by first | exact heap_alloc_new _ _ | exact zaS _ _ _)) (by simp [Value.oneCell']) (by omega) (by simp only [maxLen];omega) (by omega) (by simp;omega) ((w7.heap.size+1)+1) (by simp) ?_;intro g9 cp9 w8 hown hgrow hat hlt9;have E8:=hd_ (((E7.out.alloc _).alloc _).grown hgrow (zaB OA7.out (by omega)));have R8:=hd_ (((R7.out.alloc _).alloc _).grown hgrow (zaB OA7.out (by omega)));have F8:=hd_ (((F7.out.alloc _).alloc _).grown hgrow (fun k hk=>by have:=(OA7.out.lt k hk).1;omega));have OA8:=hd_ hown;have o2:=E8.out.cells13.2.2.2.2.2.2.2.2.2.1;have f2:=E8.out.free13.2.2.2.2.2.2.2.2.2.1;have k5':=E8.out.lt;clear hown hgrow hlt9))
  all_goals
   go_wp2_with fail
   go_meet
   exact ⟨s8,some ⟨g9,0,none⟩,cp9,_,⟨M8.out,M8.out.le⟩,F8.out.far lY _ _,R8.out.other nR _ _,by simpa using E8.out.set 9 (.slice (some ⟨g9,0,none⟩) (0+1) cp9),zbE OA8.out (Nat.lt_succ_self Y)⟩
 case rest=>
  obtain ⟨s7,ya7,yc7,cz7,⟨hm,hl⟩,hF,hR,hE,hOA⟩:=hcut
  obtain ⟨w7,hwc⟩:∃ x,wc=x:=⟨_,rfl⟩
  rw [hwc] at hF hR hE hOA ⊢
  clear hwc
  have F7:=hd_ hF
  have R7:=hd_ hR
  have E7:=hd_ hE
  have OA7:=hd_ hOA
  have Ms7:=hd_ (Ms6.out.trans hm)
  have Ls7:Hid (s.i < s7.i):=hd_ (ll_ Ls6.out hl)
  have LE7:Hid (s6.i≤s7.i):=hd_ hl
  clear hm hl hF hR hE hOA F6 R6 E6 BX6 OA6 Ms6 Ls6
  have MI:=hd_ (Ms7.out.mono (by omega):Mv ts (cst (deep+1)+1) s s7)
  go_wp2_with fail
  go_loopw [] (fun wr=>RRel (∃ (si:PS) (fa:Option Addr) (fc:Nat) (n:Nat) (cs:List Value),n≤si.i∧s.i < si.i∧Hid (Mv ts (cst (deep+1)+1) s si)∧Hid (Fr w b g cap ts si wr)∧Hid (Bl wr R #[.int .i64 0,.int .i64 0,.int .i64 0,.int .i64 0,.string ⟨#[]⟩,.string ⟨#[]⟩,.slice none 0 0,.int .i64 0,.slice none 0 0,.slice none 0 0,.slice none 0 0,.slice none 0 0,.int .i64 0] 154)∧Hid (Bl wr Y #[.int .i64 2,.int .i64 0,.int .i64 0,.int .i64 0,.string ⟨#[]⟩,.string ⟨#[]⟩,.slice none 0 0,.int .i64 0,.slice none 0 0,.slice fa n fc,.slice none 0 0,.slice none 0 0,.int .i64 tta] 154)∧Hid (wr.ownsRow (Y+1) 201 3 (.slice fa n fc) n cs))) (fun wr=>200000 - (intOf ((wr.cell? ⟨b,1,none⟩).getD undef)).toNat)
  case atStart=>exact RRel.mk ⟨s7,_,_,1,_,by have:=Ls7.out;omega,Ls7.out,MI,F7,R7,E7,OA7⟩
  case round=>
   obtain ⟨si,fa,fc,n,cs,hn,hsi,Msi,F8,R8,E8,OA8⟩:=hrel.it
   have Lsi:=hd_ hsi
   clear hrel hsi MI Ms7 Ls7 LE7 F7 R7 E7 OA7
   obtain ⟨w8,rfl⟩:∃ w9,w9=wr:=⟨_,rfl⟩
   have HMI:=hd_ F8.out.par.pb.cells.2.1
   have hfew:=zat (Msi.out.good k HG.out) (by omega) F8.out.par
   go_wp2_with fail
   refine (zaO ⟨#[69,76,83,73,70]⟩ (Msi.out.good k HG.out) (by omega) F8.out.par).mono ?_
   rintro e w9 ⟨r,s9,rfl,⟨hm,ht,hf⟩,ho,hp⟩
   have F9:=hd_ (Fr.call F8.out ho hp)
   have R9:=hd_ (Bl.only R8.out ho n1)
   have E9:=hd_ (Bl.only E8.out ho nY)
   have OA9:=hd_ (zam OA8.out ho (by omega))
   clear ho hp F8 R8 E8 OA8
   cases r with
   | true=>
    have Ms9:=hd_ (Msi.out.trans hm)
    have Ls9:Hid (s.i < s9.i):=hd_ (ll_ Lsi.out hm.le)
    have Ms9:=hd_ (Ms9.out.zero (ht rfl).2.1)
    have Ks9:Hid (si.i < s9.i):=hd_ (by have:=(ht rfl).2.2;omega)
    clear hm ht hf Msi
    go_wp2_with fail
    refine (zeD _ _ _ _ _ _ (Ms9.out.good k HG.out) (by omega) w9 F9.out.par).mono ?_
    rintro e w10 ⟨v,s10,rfl,⟨op,kd,nn,nm,fl,a,ln,c,ta,rfl⟩,hm,ho,hp⟩
    have F10:=hd_ (Fr.call F9.out ho hp)
    have R10:=hd_ (Bl.only R9.out ho n1)
    have E10:=hd_ (Bl.only E9.out ho nY)
    have OA10:=hd_ (zam OA9.out ho (by omega))
    have Ms10:=hd_ (Ms9.out.trans hm)
    have Ls10:Hid (s.i < s10.i):=hd_ (ll_ Ls9.out hm.le)
    have Ks10:Hid (si.i < s10.i):=hd_ (ll_ Ks9.out hm.le)
    clear hm ho hp F9 R9 E9 OA9 Ms9 Ls9 Ks9
    go_upto_region 14 with fail
    have lY10:=E10.out.lt
    have jA10:=OA10.out.lt
    refine zaa (P:=Code.wp _ _ _ _) (F:=fun W=>Fr w b g cap ts s10 W∧Bl W R #[.int .i64 0,.int .i64 0,.int .i64 0,.int .i64 0,.string ⟨#[]⟩,.string ⟨#[]⟩,.slice none 0 0,.int .i64 0,.slice none 0 0,.slice none 0 0,.slice none 0 0,.slice none 0 0,.int .i64 0] 154∧Bl W Y #[.int .i64 2,.int .i64 0,.int .i64 0,.int .i64 0,.string ⟨#[]⟩,.string ⟨#[]⟩,.slice none 0 0,.int .i64 0,.slice none 0 0,.slice fa n fc,.slice none 0 0,.slice none 0 0,.int .i64 tta] 154∧Bl W w10.heap.size #[.int .i64 op,.int .i64 kd,.int .i64 nn,.string nm,.string fl,.slice a ln c,.int .i64 ta] 112∧W.ownsRow (Y+1) 201 3 (.slice fa n fc) n cs)
     ⟨F10.out.alloc _,R10.out.alloc _,E10.out.alloc _,Bl.new _ _ _,zae OA10.out (br_.alloc nl_ _) nl_⟩ ?_
    clear F10 R10 E10 OA10
    intro w11 ⟨F11,R11,E11,BX11,OA11⟩
    have F11:=hd_ F11
    have R11:=hd_ R11
    have E11:=hd_ E11
    have BX11:=hd_ BX11
    have OA11:=hd_ OA11
    obtain ⟨X,hX⟩:∃ x,w10.heap.size=x:=⟨_,rfl⟩
    rw [hX] at BX11 ⊢
    have nX:X≠b:=by omega
    have nXY:X≠Y:=by omega
    have lX:Y < X:=by omega
    clear lY10
    clear hX
    go_wp2_with fail
    refine (zan ⟨#[84,72,69,78]⟩ (Ms10.out.good k HG.out) (by omega) F11.out.par).mono ?_
    rintro e w12 ⟨_,s12,rfl,rfl,hm,ho,hp⟩
    have F12:=hd_ (Fr.call F11.out ho hp)
    have R12:=hd_ (Bl.only R11.out ho n1)
    have E12:=hd_ (Bl.only E11.out ho nY)
    have BX12:=hd_ (Bl.only BX11.out ho nX)
    have OA12:=hd_ (zam OA11.out ho (by omega))
    have Ms12:=hd_ (Ms10.out.trans hm)
    have Ls12:Hid (s.i < s12.i):=hd_ (ll_ Ls10.out hm.le)
    have Ks12:Hid (si.i < s12.i):=hd_ (ll_ Ks10.out hm.le)
    clear hm ho hp F11 R11 E11 BX11 OA11 Ms10 Ls10 Ks10
    have HL2:=Ks12
    clear Ks12
    go_upto_region 15 with fail
    have o5:=E12.out.cells13.2.2.2.2.2.2.2.2.2.1
    have k3:=E12.out.lt
    obtain ⟨x0,x1,x2,x3,x4,x5,x6⟩:=BX12.out.cells7
    have k4:=BX12.out.lt
    go_region_law (first
      | (go_simp;go_at_call 55;refine (HSS.out _ _ _ _ _ _ (Ms12.out.good k HG.out) (by omega) _ (by first | exact F12.out.drew.par | exact (F12.out.drew.alloc _).par)).mono ?_;rintro e w13 ⟨v,s8,rfl,⟨ba,bn,bc,rfl⟩,hm,ho,hp⟩;have F13:Hid (Fr w b g cap ts s8 w13):=hd_ (Fr.call (s:=s12) (by first | exact F12.out.drew | exact F12.out.drew.alloc _) ho hp);have R13:Hid (Bl w13 R #[.int .i64 0,.int .i64 0,.int .i64 0,.int .i64 0,.string ⟨#[]⟩,.string ⟨#[]⟩,.slice none 0 0,.int .i64 0,.slice none 0 0,.slice none 0 0,.slice none 0 0,.slice none 0 0,.int .i64 0] 154):=hd_ (Bl.only (by first | exact R12.out.drew | exact R12.out.drew.alloc _) ho n1);have E13:Hid (Bl w13 Y #[.int .i64 2,.int .i64 0,.int .i64 0,.int .i64 0,.string ⟨#[]⟩,.string ⟨#[]⟩,.slice none 0 0,.int .i64 0,.slice none 0 0,.slice fa n fc,.slice none 0 0,.slice none 0 0,.int .i64 tta] 154):=hd_ (Bl.only (by first | exact E12.out.drew | exact E12.out.drew.alloc _) ho nY);have BX13:Hid (Bl w13 X #[.int .i64 op,.int .i64 kd,.int .i64 nn,.string nm,.string fl,.slice a ln c,.int .i64 ta] 112):=hd_ (Bl.only (by first | exact BX12.out.drew | exact BX12.out.drew.alloc _) ho nX);have OA13:Hid (w13.ownsRow (Y+1) 201 3 (.slice fa n fc) n cs):=hd_ (zam (by first | exact zae OA12.out br_.drew nl_ | exact zae (zae OA12.out br_.drew nl_) (br_.alloc nl_ _) nl_) ho (by omega));have M8:=hd_ hm;have hz8:=(E13.out.lt);have o1:=E13.out.cells13.2.2.2.2.2.2.2.2.2.1;obtain ⟨u0,u1,u2,u3,u4,u5,u6⟩:=BX13.out.cells7;have k7:=BX13.out.lt;clear hm ho hp)
      | (refine step_append_lies _ (by rfl) _ _ _ (by rfl) ((Y+1)) 201 ia _ 3 72 Tryz.underlying152 HA.out.1 HA.out.2.1 HA.out.2.2.1 HA.out.2.2.2 rfl (by omega) (.slice fa n fc) n cs (by rfl) (zae OA13.out ((Below.refl w13.heap.size w13).alloc nl_ _) nl_) ⟨w13.heap.size,0,none⟩ 1 1 [.slice (some ⟨w12.heap.size,0,none⟩) 1 1,.slice none 0 0,.slice ba bn bc] (by first | rfl | (simp [Act.eval,Act.put];done)) (by rfl) (World.news_of_block (cs:=#[.slice (some ⟨w12.heap.size,0,none⟩) 1 1,.slice none 0 0,.slice ba bn bc]) (t:=201) (fr:=(0,0)) (by first | exact heap_alloc_new _ _ | exact zaS _ _ _)) (by simp [Value.oneCell']) (by omega) (by simp only [maxLen];omega) (by omega) (by simp;omega) (w13.heap.size+1) (by simp) ?_;intro g9 cp9 w14 hown hgrow hat hlt9;have E14:=hd_ ((E13.out.alloc _).grown hgrow (zaB OA13.out (by omega)));have R14:=hd_ ((R13.out.alloc _).grown hgrow (zaB OA13.out (by omega)));have F14:=hd_ ((F13.out.alloc _).grown hgrow (fun k hk=>by have:=(OA13.out.lt k hk).1;omega));have OA14:=hd_ hown;have o2:=E14.out.cells13.2.2.2.2.2.2.2.2.2.1;have f2:=E14.out.free13.2.2.2.2.2.2.2.2.2.1;have k5':=E14.out.lt;clear hown hgrow hlt9)
      | (refine step_append_lies _ (by rfl) _ _ _ (by rfl) ((Y+1)) 201 ia _ 3 72 Tryz.underlying152 HA.out.1 HA.out.2.1 HA.out.2.2.1 HA.out.2.2.2 rfl (by omega) (.slice fa n fc) n cs (by rfl) (zae (zae OA13.out ((Below.refl w13.heap.size w13).alloc nl_ _) nl_) (br_.alloc nl_ _) nl_) ⟨(w13.heap.size+1),0,none⟩ 1 1 [.slice (some ⟨w13.heap.size,0,none⟩) 1 1,.slice none 0 0,.slice ba bn bc] (by first | rfl | (simp [Act.eval,Act.put];done)) (by rfl) (World.news_of_block (cs:=#[.slice (some ⟨w13.heap.size,0,none⟩) 1 1,.slice none 0 0,.slice ba bn bc]) (t:=201) (fr:=(0,0)) (by first | exact heap_alloc_new _ _ | exact zaS _ _ _)) (by simp [Value.oneCell']) (by omega) (by simp only [maxLen];omega) (by omega) (by simp;omega) ((w13.heap.size+1)+1) (by simp) ?_;intro g9 cp9 w14 hown hgrow hat hlt9;have E14:=hd_ (((E13.out.alloc _).alloc _).grown hgrow (zaB OA13.out (by omega)));have R14:=hd_ (((R13.out.alloc _).alloc _).grown hgrow (zaB OA13.out (by omega)));have F14:=hd_ (((F13.out.alloc _).alloc _).grown hgrow (fun k hk=>by have:=(OA13.out.lt k hk).1;omega));have OA14:=hd_ hown;have o2:=E14.out.cells13.2.2.2.2.2.2.2.2.2.1;have f2:=E14.out.free13.2.2.2.2.2.2.2.2.2.1;have k5':=E14.out.lt;clear hown hgrow hlt9))
    all_goals
     go_wp2_with fail
     go_roundw
     case rel=>exact RRel.mk ⟨s8,some ⟨g9,0,none⟩,cp9,n+1,_,by have:=HL2.out;have:=M8.out.le;omega,by have:=HL2.out;have:=M8.out.le;have:=Lsi.out;omega,hd_ ((Ms12.out.trans M8.out).mono (by omega)),hd_ (F14.out.far lY _ _),hd_ (R14.out.other nR _ _),hd_ (by simpa using E14.out.set 9 (.slice (some ⟨g9,0,none⟩) (n+1) cp9)),hd_ (zbE OA14.out (Nat.lt_succ_self Y))⟩
     case measure=>
      have y1:=(F14.out.far lY 9 (.slice (some ⟨g9,0,none⟩) (n+1) cp9)).par.pb.cells.2.1
      have y2:=HMI.out
      have y3:=zat ((Ms12.out.trans M8.out).good k HG.out) (by omega) F14.out.par
      have y4:=HL2.out
      have y5:=M8.out.le
      simp [y1,y2,intOf];omega
   | false=>
    obtain rfl:=hf rfl
    clear hm ht hf
    go_wp2_with fail
    refine (zaO ⟨#[69,76,83,69]⟩ (Msi.out.good k HG.out) (by omega) F9.out.par).mono ?_
    rintro e w10 ⟨r,s10,rfl,⟨hm,ht,hf⟩,ho,hp⟩
    have F10:=hd_ (Fr.call F9.out ho hp)
    have R10:=hd_ (Bl.only R9.out ho n1)
    have E10:=hd_ (Bl.only E9.out ho nY)
    have OA10:=hd_ (zam OA9.out ho (by omega))
    clear ho hp F9 R9 E9 OA9
    cases r with
    | true=>
     have Ms10:=hd_ (Msi.out.trans hm)
     have Ls10:Hid (s.i < s10.i):=hd_ (ll_ Lsi.out hm.le)
     have Ms10:=hd_ (Ms10.out.zero (ht rfl).2.1)
     clear hm ht hf Msi Lsi
     go_upto_region 17 with fail
     go_cut [] from 68 to 77 (fun wx=>∃ (s8:PS) (ya:Option Addr) (yc:Nat) (cs8:List Value),(Mv ts (cst (deep+1)) s10 s8∧s10.i≤s8.i)∧Fr w b g cap ts s8 wx∧Bl wx R #[.int .i64 0,.int .i64 0,.int .i64 0,.int .i64 0,.string ⟨#[]⟩,.string ⟨#[]⟩,.slice none 0 0,.int .i64 0,.slice none 0 0,.slice none 0 0,.slice none 0 0,.slice none 0 0,.int .i64 0] 154∧Bl wx Y #[.int .i64 2,.int .i64 0,.int .i64 0,.int .i64 0,.string ⟨#[]⟩,.string ⟨#[]⟩,.slice none 0 0,.int .i64 0,.slice none 0 0,.slice ya (n+1) yc,.slice none 0 0,.slice none 0 0,.int .i64 tta] 154∧wx.ownsRow (Y+1) 201 3 (.slice ya (n+1) yc) (n+1) cs8)
     case first=>
      have o5:=E10.out.cells13.2.2.2.2.2.2.2.2.2.1
      have k3:=E10.out.lt
      go_region_law (first
       | (go_simp;go_at_call 55;refine (HSS.out _ _ _ _ _ _ (Ms10.out.good k HG.out) (by omega) _ (by first | exact F10.out.drew.par | exact (F10.out.drew.alloc _).par)).mono ?_;rintro e w11 ⟨v,s8,rfl,⟨ba,bn,bc,rfl⟩,hm,ho,hp⟩;have F11:Hid (Fr w b g cap ts s8 w11):=hd_ (Fr.call (s:=s10) (by first | exact F10.out.drew | exact F10.out.drew.alloc _) ho hp);have R11:Hid (Bl w11 R #[.int .i64 0,.int .i64 0,.int .i64 0,.int .i64 0,.string ⟨#[]⟩,.string ⟨#[]⟩,.slice none 0 0,.int .i64 0,.slice none 0 0,.slice none 0 0,.slice none 0 0,.slice none 0 0,.int .i64 0] 154):=hd_ (Bl.only (by first | exact R10.out.drew | exact R10.out.drew.alloc _) ho n1);have E11:Hid (Bl w11 Y #[.int .i64 2,.int .i64 0,.int .i64 0,.int .i64 0,.string ⟨#[]⟩,.string ⟨#[]⟩,.slice none 0 0,.int .i64 0,.slice none 0 0,.slice fa n fc,.slice none 0 0,.slice none 0 0,.int .i64 tta] 154):=hd_ (Bl.only (by first | exact E10.out.drew | exact E10.out.drew.alloc _) ho nY);have OA11:Hid (w11.ownsRow (Y+1) 201 3 (.slice fa n fc) n cs):=hd_ (zam (by first | exact zae OA10.out br_.drew nl_ | exact zae (zae OA10.out br_.drew nl_) (br_.alloc nl_ _) nl_) ho (by omega));have M8:=hd_ hm;have hz8:=(E11.out.lt);have o1:=E11.out.cells13.2.2.2.2.2.2.2.2.2.1;clear hm ho hp)
       | (refine step_append_lies _ (by rfl) _ _ _ (by rfl) ((Y+1)) 201 ia _ 3 72 Tryz.underlying152 HA.out.1 HA.out.2.1 HA.out.2.2.1 HA.out.2.2.2 rfl (by omega) (.slice fa n fc) n cs (by rfl) (zae OA11.out ((Below.refl w11.heap.size w11).alloc nl_ _) nl_) ⟨w11.heap.size,0,none⟩ 1 1 [.slice none 0 0,.slice none 0 0,.slice ba bn bc] (by first | rfl | (simp [Act.eval,Act.put];done)) (by rfl) (World.news_of_block (cs:=#[.slice none 0 0,.slice none 0 0,.slice ba bn bc]) (t:=201) (fr:=(0,0)) (by first | exact heap_alloc_new _ _ | exact zaS _ _ _)) (by simp [Value.oneCell']) (by omega) (by simp only [maxLen];omega) (by omega) (by simp;omega) (w11.heap.size+1) (by simp) ?_;intro g9 cp9 w12 hown hgrow hat hlt9;have E12:=hd_ ((E11.out.alloc _).grown hgrow (zaB OA11.out (by omega)));have R12:=hd_ ((R11.out.alloc _).grown hgrow (zaB OA11.out (by omega)));have F12:=hd_ ((F11.out.alloc _).grown hgrow (fun k hk=>by have:=(OA11.out.lt k hk).1;omega));have OA12:=hd_ hown;have o2:=E12.out.cells13.2.2.2.2.2.2.2.2.2.1;have f2:=E12.out.free13.2.2.2.2.2.2.2.2.2.1;have k5':=E12.out.lt;clear hown hgrow hlt9))
      all_goals
       go_wp2_with fail
       go_meet
       exact ⟨s8,some ⟨g9,0,none⟩,cp9,_,⟨M8.out,M8.out.le⟩,F12.out.far lY _ _,R12.out.other nR _ _,by simpa using E12.out.set 9 (.slice (some ⟨g9,0,none⟩) (n+1) cp9),zbE OA12.out (Nat.lt_succ_self Y)⟩
     case rest=>
      obtain ⟨s11,ya11,yc11,cz11,⟨hm,hl⟩,hF,hR,hE,hOA⟩:=hcut
      obtain ⟨w11,hwc⟩:∃ x,wc=x:=⟨_,rfl⟩
      rw [hwc] at hF hR hE hOA ⊢
      clear hwc
      have F11:=hd_ hF
      have R11:=hd_ hR
      have E11:=hd_ hE
      have OA11:=hd_ hOA
      have Ms11:=hd_ (Ms10.out.trans hm)
      have Ls11:Hid (s.i < s11.i):=hd_ (ll_ Ls10.out hl)
      have LE11:Hid (s10.i≤s11.i):=hd_ hl
      clear hm hl hF hR hE hOA F10 R10 E10 OA10 Ms10 Ls10
      clear OA11
      go_wp2_with fail
      refine (zan ⟨#[69,78,68,95,73,70]⟩ (Ms11.out.good k HG.out) (by omega) F11.out.par).mono ?_
      rintro e w12 ⟨_,s12,rfl,rfl,hm,ho,hp⟩
      have F12:=hd_ (Fr.call F11.out ho hp)
      have R12:=hd_ (Bl.only R11.out ho n1)
      have E12:=hd_ (Bl.only E11.out ho nY)
      have Ms12:=hd_ (Ms11.out.trans hm)
      have Ls12:Hid (s.i < s12.i):=hd_ (ll_ Ls11.out hm.le)
      clear hm ho hp F11 R11 E11 Ms11 Ls11
      go_wp2_with fail
      refine (zan ⟨#[59]⟩ (Ms12.out.good k HG.out) (by omega) F12.out.par).mono ?_
      rintro e w13 ⟨_,s13,rfl,rfl,hm,ho,hp⟩
      have F13:=hd_ (Fr.call F12.out ho hp)
      have R13:=hd_ (Bl.only R12.out ho n1)
      have E13:=hd_ (Bl.only E12.out ho nY)
      have Ms13:=hd_ (Ms12.out.trans hm)
      have Ls13:Hid (s.i < s13.i):=hd_ (ll_ Ls12.out hm.le)
      clear hm ho hp F12 R12 E12 Ms12 Ls12
      obtain ⟨q0,q1,q2,q3,q4,q5,q6,q7,q8,q9,q10,q11,q12⟩:=E13.out.cells13
      have k3:=E13.out.lt
      obtain ⟨r0,r1,r2,r3,r4,r5,r6,r7,r8,r9,r10,r11,r12⟩:=R13.out.cells13
      obtain ⟨g0,g1,g2,g3,g4,g5,g6,g7,g8,g9,g10,g11,g12⟩:=R13.out.free13
      have k2:=R13.out.lt
      go_wp2_with fail
      refine zaa (P:=bodyPost _ _ _ _ _) (F:=fun W=>Fr w b g cap ts s13 W∧Bl W R #[.int .i64 2,.int .i64 0,.int .i64 0,.int .i64 0,.string ⟨#[]⟩,.string ⟨#[]⟩,.slice none 0 0,.int .i64 0,.slice none 0 0,.slice ya11 (n+1) yc11,.slice none 0 0,.slice none 0 0,.int .i64 tta] 154)
       ⟨(((((((((((((F13.out.far lR _ _).far lR _ _).far lR _ _).far lR _ _).far lR _ _).far lR _ _).far lR _ _).far lR _ _).far lR _ _).far lR _ _).far lR _ _).far lR _ _).far lR _ _),R13.out.set13⟩ ?_
      clear q0 q1 q2 q3 q4 q5 q6 q7 q8 q9 q10 q11 q12 k3 r0 r1 r2 r3 r4 r5 r6 r7 r8 r9 r10 r11 r12 g0 g1 g2 g3 g4 g5 g6 g7 g8 g9 g10 g11 g12 k2
      intro wz ⟨FZ,RZ⟩
      obtain ⟨r0,r1,r2,r3,r4,r5,r6,r7,r8,r9,r10,r11,r12⟩:=RZ.cells13
      refine bodyPost_ret (v:=.agg #[.int .i64 2,.int .i64 0,.int .i64 0,.int .i64 0,.string ⟨#[]⟩,.string ⟨#[]⟩,.slice none 0 0,.int .i64 0,.slice none 0 0,.slice ya11 (n+1) yc11,.slice none 0 0,.slice none 0 0,.int .i64 tta]) (by simp [results,Tryz.results87,go_sem, *]) rfl ?_
      exact ⟨_,_,rfl,⟨_,_,_,_,_,_,_,_,_,_,_,_,_,_,_,_,_,_,_,_,_,_,_,rfl⟩,⟨Ms13.out.mono (by have:=HCD.out;omega),Ls13.out⟩,FZ.only,FZ.par⟩
    | false=>
     obtain rfl:=hf rfl
     clear hm ht hf
     clear OA10
     go_wp2_with fail
     refine (zan ⟨#[69,78,68,95,73,70]⟩ (Msi.out.good k HG.out) (by omega) F10.out.par).mono ?_
     rintro e w11 ⟨_,s11,rfl,rfl,hm,ho,hp⟩
     have F11:=hd_ (Fr.call F10.out ho hp)
     have R11:=hd_ (Bl.only R10.out ho n1)
     have E11:=hd_ (Bl.only E10.out ho nY)
     have Ms11:=hd_ (Msi.out.trans hm)
     have Ls11:Hid (s.i < s11.i):=hd_ (ll_ Lsi.out hm.le)
     clear hm ho hp F10 R10 E10 Msi Lsi
     go_wp2_with fail
     refine (zan ⟨#[59]⟩ (Ms11.out.good k HG.out) (by omega) F11.out.par).mono ?_
     rintro e w12 ⟨_,s12,rfl,rfl,hm,ho,hp⟩
     have F12:=hd_ (Fr.call F11.out ho hp)
     have R12:=hd_ (Bl.only R11.out ho n1)
     have E12:=hd_ (Bl.only E11.out ho nY)
     have Ms12:=hd_ (Ms11.out.trans hm)
     have Ls12:Hid (s.i < s12.i):=hd_ (ll_ Ls11.out hm.le)
     clear hm ho hp F11 R11 E11 Ms11 Ls11
     obtain ⟨q0,q1,q2,q3,q4,q5,q6,q7,q8,q9,q10,q11,q12⟩:=E12.out.cells13
     have k3:=E12.out.lt
     obtain ⟨r0,r1,r2,r3,r4,r5,r6,r7,r8,r9,r10,r11,r12⟩:=R12.out.cells13
     obtain ⟨g0,g1,g2,g3,g4,g5,g6,g7,g8,g9,g10,g11,g12⟩:=R12.out.free13
     have k2:=R12.out.lt
     go_wp2_with fail
     refine zaa (P:=bodyPost _ _ _ _ _) (F:=fun W=>Fr w b g cap ts s12 W∧Bl W R #[.int .i64 2,.int .i64 0,.int .i64 0,.int .i64 0,.string ⟨#[]⟩,.string ⟨#[]⟩,.slice none 0 0,.int .i64 0,.slice none 0 0,.slice fa n fc,.slice none 0 0,.slice none 0 0,.int .i64 tta] 154)
      ⟨(((((((((((((F12.out.far lR _ _).far lR _ _).far lR _ _).far lR _ _).far lR _ _).far lR _ _).far lR _ _).far lR _ _).far lR _ _).far lR _ _).far lR _ _).far lR _ _).far lR _ _),R12.out.set13⟩ ?_
     clear q0 q1 q2 q3 q4 q5 q6 q7 q8 q9 q10 q11 q12 k3 r0 r1 r2 r3 r4 r5 r6 r7 r8 r9 r10 r11 r12 g0 g1 g2 g3 g4 g5 g6 g7 g8 g9 g10 g11 g12 k2
     intro wz ⟨FZ,RZ⟩
     obtain ⟨r0,r1,r2,r3,r4,r5,r6,r7,r8,r9,r10,r11,r12⟩:=RZ.cells13
     refine bodyPost_ret (v:=.agg #[.int .i64 2,.int .i64 0,.int .i64 0,.int .i64 0,.string ⟨#[]⟩,.string ⟨#[]⟩,.slice none 0 0,.int .i64 0,.slice none 0 0,.slice fa n fc,.slice none 0 0,.slice none 0 0,.int .i64 tta]) (by simp [results,Tryz.results87,go_sem, *]) rfl ?_
     exact ⟨_,_,rfl,⟨_,_,_,_,_,_,_,_,_,_,_,_,_,_,_,_,_,_,_,_,_,_,_,rfl⟩,⟨Ms12.out.mono (by have:=HCD.out;omega),Ls12.out⟩,FZ.only,FZ.par⟩
end Go.Proofs.YtdpkjpjkdmkkpaaGreatDoor
