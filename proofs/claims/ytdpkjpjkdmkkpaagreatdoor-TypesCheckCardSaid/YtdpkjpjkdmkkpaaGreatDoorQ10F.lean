/- The reference's parser, weakly: stmt at FOR. -/
import Derived.Test.YtdpkjpjkdmkkpaaGreatDoorQD
set_option maxRecDepth 100000
set_option maxHeartbeats 16000000
namespace Go.Proofs.YtdpkjpjkdmkkpaaGreatDoor
open Go.RowKit Lx Pa
def zmZ (t:Tok):Prop:=t.tok≠2∧wOf t=[70,79,82]
theorem zjZ {deep:Int} (h1:1≤deep) (h9:deep≤32) (hS:zdj (deep+1)):zky deep zmZ:=by
 intro b g cap k ts s hg hk htok hP w hx
 have F0:=hd_ (Fr.start hx)
 have HG:=hd_ hg
 have HCD:Hid (cst (deep+1)+6=cst deep∧cst deep≤300):=hd_ (by unfold cst;omega)
 have hcd:cst (deep+1)≤300:=by have:=HCD.out;omega
 have HSS:=hd_ hS
 obtain ⟨i0,hi9,hz0,hz1,hz2⟩:=info_parts zfm
 have HI:=hd_ (And.intro hi9 (And.intro hz0 (And.intro hz1 hz2)))
 clear hi9 hz0 hz1 hz2
 have hwd:IntKind.i64.wrap (deep+1)=deep+1:=IntWalk.i64_in _ (by omega)
 have Ms1:Hid (Mv ts 0 s (Pa.up s)):=hd_ (Mv.up hx.ends htok)
 have Ls1:Hid (s.i < (Pa.up s).i):=hd_ (by show s.i < s.i+1;omega)
 have HN:=hd_ (fun W (hW:Par W b g cap ts s)=>zdA (k:=k) hg (by omega) W hW)
 clear hg hx hS htok
 obtain ⟨s1,hs1⟩:∃ x,Pa.up s=x:=⟨_,rfl⟩
 rw [hs1] at HN Ms1 Ls1
 clear hs1
 go_enter Tryz.func87,Tryz.ntmps87
 have hbw:=F0.out.lt.1
 have n0:w.heap.size≠b:=by omega
 go_wp2_with fail
 refine (HN.out _ (F0.out.alloc _).par).mono ?_
 rintro e w1 ⟨tk,tkd,tnn,tx,tta,rfl,ht,ho,hp⟩
 rw [ht] at hP
 have F1:=hd_ ((F0.out.alloc _).call ho hp)
 have R1:=hd_ ((Bl.new w #[.int .i64 0,.int .i64 0,.int .i64 0,.int .i64 0,.string ⟨#[]⟩,.string ⟨#[]⟩,.slice none 0 0,.int .i64 0,.slice none 0 0,.slice none 0 0,.slice none 0 0,.slice none 0 0,.int .i64 0] 154).only ho n0)
 obtain ⟨txb,hxb⟩:∃ x:ByteArray,(⟨tx.toArray⟩:ByteArray)=x:=⟨_,rfl⟩
 rw [hxb]
 have hP2:(tk==2)=false∧(txb.toList==[73,70])=false∧(txb.toList==[67,65,83,69])=false∧(txb.toList==[70,79,82])=true:=by
  have h3:txb.toList=[70,79,82]:=by rw [← hxb];exact hP.2
  exact ⟨by simpa using hP.1,by rw [h3];rfl,by rw [h3];rfl,by rw [h3];rfl⟩
 clear hP
 clear ho hp ht hxb F0 HN
 go_upto_region 3 with fail
 refine zaa (P:=Code.wp _ _ _ _) (F:=fun W=>Fr w b g cap ts s1 W∧Bl W w.heap.size #[.int .i64 0,.int .i64 0,.int .i64 0,.int .i64 0,.string ⟨#[]⟩,.string ⟨#[]⟩,.slice none 0 0,.int .i64 0,.slice none 0 0,.slice none 0 0,.slice none 0 0,.slice none 0 0,.int .i64 0] 154∧Bl W w1.heap.size #[.int .i64 tk,.int .i64 tkd,.int .i64 tnn,.string txb,.int .i64 tta] 107∧Bl W (w1.heap.size+1) #[.int .i64 0,.int .i64 0,.int .i64 0,.int .i64 0,.string ⟨#[]⟩,.string ⟨#[]⟩,.slice none 0 0,.int .i64 0,.slice none 0 0,.slice none 0 0,.slice none 0 0,.slice none 0 0,.int .i64 tta] 154)
  ⟨(F1.out.alloc _).alloc _,(R1.out.alloc _).alloc _,(Bl.new _ _ _).alloc _,Bl.newAt _ (by simp)⟩ ?_
 have hRl:=R1.out.lt
 have hb1:=F1.out.size
 clear F1 R1
 intro w2 ⟨F2,R2,T2,E2⟩
 obtain ⟨Y,hY⟩:∃ Y,w1.heap.size+1=Y:=⟨_,rfl⟩
 rw [hY] at E2 ⊢
 obtain ⟨Z,hZ⟩:∃ Z,w1.heap.size=Z:=⟨_,rfl⟩
 rw [hZ] at T2 ⊢
 obtain ⟨R,hR⟩:∃ R,w.heap.size=R:=⟨_,rfl⟩
 have n1:R≠b:=by omega
 have nY:Y≠b:=by omega
 have nR:R≠Y:=by omega
 have hRY:R < Y:=by omega
 have lR:w.heap.size≤R:=by omega
 have lY:w.heap.size≤Y:=by omega
 have hbY:b < Y+1:=by omega
 rw [hR] at R2 ⊢
 clear hY hZ hR hRl hb1 n0 hbw
 obtain ⟨t0,t1,t2,t3,t4⟩:=T2.cells5
 have k5:=T2.lt
 have F2:=hd_ F2
 have R2:=hd_ R2
 have E2:=hd_ E2
 clear T2
 obtain ⟨h2b,hc0,hc1,hc2⟩:=hP2
 have q0:=E2.out.cells13.1
 have g0:=E2.out.free13.1
 have k3:=E2.out.lt
 go_upto_region 43 with fail
 refine zaa (P:=Code.wp _ _ _ _) (F:=fun W=>Fr w b g cap ts s1 W∧Bl W R #[.int .i64 0,.int .i64 0,.int .i64 0,.int .i64 0,.string ⟨#[]⟩,.string ⟨#[]⟩,.slice none 0 0,.int .i64 0,.slice none 0 0,.slice none 0 0,.slice none 0 0,.slice none 0 0,.int .i64 0] 154∧Bl W Y #[.int .i64 4,.int .i64 0,.int .i64 0,.int .i64 0,.string ⟨#[]⟩,.string ⟨#[]⟩,.slice none 0 0,.int .i64 0,.slice none 0 0,.slice none 0 0,.slice none 0 0,.slice none 0 0,.int .i64 tta] 154)
  ⟨F2.out.far lY _ _,R2.out.other nR _ _,by simpa using E2.out.set 0 (.int .i64 4)⟩ ?_
 clear q0 g0 k3 F2 R2 E2
 intro w3 ⟨F3,R3,E3⟩
 have F3:=hd_ F3
 have R3:=hd_ R3
 have E3:=hd_ E3
 go_wp2_with fail
 refine (zb8 (Ms1.out.good k HG.out) (by omega) F3.out.par).mono ?_
 rintro e w4 ⟨ntk,ntd,ntn,ntx,nta,s4,rfl,hm,_,ho,hp⟩
 have F4:=hd_ (F3.out.call ho hp)
 have R4:=hd_ (R3.out.only ho n1)
 have E4:=hd_ (E3.out.only ho nY)
 have Ms4:=hd_ (Ms1.out.trans hm)
 have Ls4:Hid (s.i < s4.i):=hd_ (ll_ Ls1.out hm.le)
 clear hm ho hp F3 R3 E3 Ms1 Ls1
 obtain ⟨q0,q1,q2,q3,q4,q5,q6,q7,q8,q9,q10,q11,q12⟩:=E4.out.cells13
 obtain ⟨g0,g1,g2,g3,g4,g5,g6,g7,g8,g9,g10,g11,g12⟩:=E4.out.free13
 have k3:=E4.out.lt
 go_upto_region 45 with fail
 refine zaa (P:=Code.wp _ _ _ _) (F:=fun W=>Fr w b g cap ts s4 W∧Bl W R #[.int .i64 0,.int .i64 0,.int .i64 0,.int .i64 0,.string ⟨#[]⟩,.string ⟨#[]⟩,.slice none 0 0,.int .i64 0,.slice none 0 0,.slice none 0 0,.slice none 0 0,.slice none 0 0,.int .i64 0] 154∧Bl W Y #[.int .i64 4,.int .i64 2,.int .i64 0,.int .i64 0,.string ntx,.string ⟨#[]⟩,.slice none 0 0,.int .i64 nta,.slice none 0 0,.slice none 0 0,.slice none 0 0,.slice none 0 0,.int .i64 tta] 154)
  ⟨((((((((F4.out.far lY _ _).far lY _ _).far lY _ _).far lY _ _).far lY _ _).far lY _ _).far lY _ _)).alloc _,((((((((R4.out.other nR _ _).other nR _ _).other nR _ _).other nR _ _).other nR _ _).other nR _ _).other nR _ _)).alloc _,(E4.out.put13).alloc _⟩ ?_
 clear q0 q1 q2 q3 q4 q5 q6 q7 q8 q9 q10 q11 q12 g0 g1 g2 g3 g4 g5 g6 g7 g8 g9 g10 g11 g12 k3 F4 R4 E4
 intro w5 ⟨F5,R5,E5⟩
 have F5:=hd_ F5
 have R5:=hd_ R5
 have E5:=hd_ E5
 go_wp2_with fail
 refine (zan ⟨#[58,61]⟩ (Ms4.out.good k HG.out) (by omega) F5.out.par).mono ?_
 rintro e w6 ⟨_,s6,rfl,rfl,hm,ho,hp⟩
 have F6:=hd_ (F5.out.call ho hp)
 have R6:=hd_ (R5.out.only ho n1)
 have E6:=hd_ (E5.out.only ho nY)
 have Ms6:=hd_ (Ms4.out.trans hm)
 have Ls6:Hid (s.i < s6.i):=hd_ (ll_ Ls4.out hm.le)
 clear hm ho hp F5 R5 E5 Ms4 Ls4
 obtain ⟨cs,hcs⟩:∃ l:List Value,l=[]:=⟨_,rfl⟩
 have O6:Hid (w6.ownsRow (Y+1) 112 7 (.slice none 0 0) 0 cs):=hd_ (by rw [hcs];exact ⟨by simp,.inl ⟨rfl,rfl⟩⟩)
 clear hcs
 go_upto_region 46 with fail
 go_cut [] from 172 to 178 (fun wx=>∃ (s8:PS) (ya:Option Addr) (yc:Nat) (cs:List Value),(Mv ts 2 s s8∧s.i < s8.i)∧Fr w b g cap ts s8 wx∧Bl wx R #[.int .i64 0,.int .i64 0,.int .i64 0,.int .i64 0,.string ⟨#[]⟩,.string ⟨#[]⟩,.slice none 0 0,.int .i64 0,.slice none 0 0,.slice none 0 0,.slice none 0 0,.slice none 0 0,.int .i64 0] 154∧Bl wx Y #[.int .i64 4,.int .i64 2,.int .i64 0,.int .i64 0,.string ntx,.string ⟨#[]⟩,.slice none 0 0,.int .i64 nta,.slice ya 1 yc,.slice none 0 0,.slice none 0 0,.slice none 0 0,.int .i64 tta] 154∧wx.ownsRow (Y+1) 112 7 (.slice ya 1 yc) 1 cs)
 case first=>
  have o5:=E6.out.cells13.2.2.2.2.2.2.2.2.1
  have k3:=E6.out.lt
  go_region_law (first
   | (go_simp;go_at_call 114;refine (zeD _ _ _ _ _ _ (Ms6.out.good k HG.out) (by omega) _ F6.out.drew.par).mono ?_;rintro e w7 ⟨v,s8,rfl,⟨op,kd,nn,nm,fl,a,ln,c,ta,rfl⟩,hm,ho,hp⟩;have F7:=hd_ (F6.out.drew.call ho hp);have R7:=hd_ (R6.out.drew.only ho n1);have E7:=hd_ (E6.out.drew.only ho nY);have O7:Hid (w7.ownsRow (Y+1) 112 7 (.slice none 0 0) 0 cs):=hd_ (zam (zae O6.out br_.drew nl_) ho hbY);have M8:=hd_ ((Ms6.out.trans hm).mono (by omega):Mv ts 2 s s8);have L8:Hid (s.i < s8.i):=hd_ (ll_ Ls6.out hm.le);have o1:=E7.out.cells13.2.2.2.2.2.2.2.2.1;have k6:=E7.out.lt;clear hm ho hp)
   | (refine step_append_lies _ (by rfl) _ _ _ (by rfl) (Y+1) 112 i0 _ 7 88 Tryz.underlying52 HI.out.1 HI.out.2.1 HI.out.2.2.1 HI.out.2.2.2 rfl (by omega) (.slice none 0 0) 0 cs (by rfl) (zae O7.out ((Below.refl w7.heap.size w7).alloc nl_ _) nl_) ⟨w7.heap.size,0,none⟩ 1 1 [.int .i64 op,.int .i64 kd,.int .i64 nn,.string nm,.string fl,.slice a ln c,.int .i64 ta] (by rfl) (by rfl) (World.news_of_block (cs:=#[.int .i64 op,.int .i64 kd,.int .i64 nn,.string nm,.string fl,.slice a ln c,.int .i64 ta]) (t:=112) (fr:=(0,0)) (heap_alloc_new _ _)) (by simp [Value.oneCell']) (by omega) (by simp only [maxLen];omega) (by omega) (by simp;omega) (w7.heap.size+1) (by simp) ?_;intro g9 cp9 w8 hown hgrow hat hlt9;have E8:=hd_ ((E7.out.alloc _).grown hgrow (zaB O7.out (by omega)));have R8:=hd_ ((R7.out.alloc _).grown hgrow (zaB O7.out (by omega)));have F8:=hd_ ((F7.out.alloc _).grown hgrow (fun k hk=>by have:=(O7.out.lt k hk).1;omega));have O8:=hd_ hown;have o2:=E8.out.cells13.2.2.2.2.2.2.2.2.1;have f2:=E8.out.free13.2.2.2.2.2.2.2.2.1;have k5':=E8.out.lt;clear hown hgrow hat hlt9))
  all_goals
   go_wp2_with fail
   go_meet
   exact ⟨s8,some ⟨g9,0,none⟩,cp9,_,⟨M8.out,L8.out⟩,F8.out.far lY _ _,R8.out.other nR _ _,by simpa using E8.out.set 8 (.slice (some ⟨g9,0,none⟩) 1 cp9),zbE O8.out (Nat.lt_succ_self Y)⟩
 case rest=>
  obtain ⟨s7,ya7,yc7,cs7,⟨hm,hl⟩,hF,hR,hE,hO⟩:=hcut
  obtain ⟨w7,hwc⟩:∃ x,wc=x:=⟨_,rfl⟩
  rw [hwc] at hF hR hE hO ⊢
  obtain ⟨cs9,hcs⟩:∃ x,cs7=x:=⟨_,rfl⟩
  rw [hcs] at hO
  clear hwc hcs cs O6
  obtain ⟨cs,hcs⟩:∃ x,cs9=x:=⟨_,rfl⟩
  rw [hcs] at hO
  clear hcs
  have Ms7:=hd_ hm
  have Ls7:=hd_ hl
  have F7:=hd_ hF
  have R7:=hd_ hR
  have E7:=hd_ hE
  have O7:=hd_ hO
  clear hm hl hF hR hE hO F6 R6 E6 Ms6 Ls6
  go_wp2_with fail
  refine (zan ⟨#[84,79]⟩ (Ms7.out.good k HG.out) (by omega) F7.out.par).mono ?_
  rintro e w8 ⟨_,s8,rfl,rfl,hm,ho,hp⟩
  have F8:=hd_ (F7.out.call ho hp)
  have R8:=hd_ (R7.out.only ho n1)
  have E8:=hd_ (E7.out.only ho nY)
  have Ms8:=hd_ (Ms7.out.trans hm)
  have Ls8:Hid (s.i < s8.i):=hd_ (ll_ Ls7.out hm.le)
  have O8:=hd_ (zam O7.out ho hbY)
  clear hm ho hp F7 R7 E7 Ms7 Ls7 O7
  go_upto_region 48 with fail
  go_cut [] from 181 to 187 (fun wx=>∃ (s8:PS) (ya:Option Addr) (yc:Nat) (cs:List Value),(Mv ts 3 s s8∧s.i < s8.i)∧Fr w b g cap ts s8 wx∧Bl wx R #[.int .i64 0,.int .i64 0,.int .i64 0,.int .i64 0,.string ⟨#[]⟩,.string ⟨#[]⟩,.slice none 0 0,.int .i64 0,.slice none 0 0,.slice none 0 0,.slice none 0 0,.slice none 0 0,.int .i64 0] 154∧Bl wx Y #[.int .i64 4,.int .i64 2,.int .i64 0,.int .i64 0,.string ntx,.string ⟨#[]⟩,.slice none 0 0,.int .i64 nta,.slice ya 2 yc,.slice none 0 0,.slice none 0 0,.slice none 0 0,.int .i64 tta] 154∧wx.ownsRow (Y+1) 112 7 (.slice ya 2 yc) 2 cs)
  case first=>
   have o5:=E8.out.cells13.2.2.2.2.2.2.2.2.1
   have k3:=E8.out.lt
   go_region_law (first
    | (go_simp;go_at_call 114;refine (zeD _ _ _ _ _ _ (Ms8.out.good k HG.out) (by omega) _ F8.out.drew.par).mono ?_;rintro e w9 ⟨v,s8,rfl,⟨op,kd,nn,nm,fl,a,ln,c,ta,rfl⟩,hm,ho,hp⟩;have F9:=hd_ (F8.out.drew.call ho hp);have R9:=hd_ (R8.out.drew.only ho n1);have E9:=hd_ (E8.out.drew.only ho nY);have O9:Hid (w9.ownsRow (Y+1) 112 7 (.slice ya7 1 yc7) 1 cs):=hd_ (zam (zae O8.out br_.drew nl_) ho hbY);have M8:=hd_ ((Ms8.out.trans hm).mono (by omega):Mv ts 3 s s8);have L8:Hid (s.i < s8.i):=hd_ (ll_ Ls8.out hm.le);have o1:=E9.out.cells13.2.2.2.2.2.2.2.2.1;have k6:=E9.out.lt;clear hm ho hp)
    | (refine step_append_lies _ (by rfl) _ _ _ (by rfl) (Y+1) 112 i0 _ 7 88 Tryz.underlying52 HI.out.1 HI.out.2.1 HI.out.2.2.1 HI.out.2.2.2 rfl (by omega) (.slice ya7 1 yc7) 1 cs (by rfl) (zae O9.out ((Below.refl w9.heap.size w9).alloc nl_ _) nl_) ⟨w9.heap.size,0,none⟩ 1 1 [.int .i64 op,.int .i64 kd,.int .i64 nn,.string nm,.string fl,.slice a ln c,.int .i64 ta] (by rfl) (by rfl) (World.news_of_block (cs:=#[.int .i64 op,.int .i64 kd,.int .i64 nn,.string nm,.string fl,.slice a ln c,.int .i64 ta]) (t:=112) (fr:=(0,0)) (heap_alloc_new _ _)) (by simp [Value.oneCell']) (by omega) (by simp only [maxLen];omega) (by omega) (by simp;omega) (w9.heap.size+1) (by simp) ?_;intro g9 cp9 w10 hown hgrow hat hlt9;have E10:=hd_ ((E9.out.alloc _).grown hgrow (zaB O9.out (by omega)));have R10:=hd_ ((R9.out.alloc _).grown hgrow (zaB O9.out (by omega)));have F10:=hd_ ((F9.out.alloc _).grown hgrow (fun k hk=>by have:=(O9.out.lt k hk).1;omega));have O10:=hd_ hown;have o2:=E10.out.cells13.2.2.2.2.2.2.2.2.1;have f2:=E10.out.free13.2.2.2.2.2.2.2.2.1;have k5':=E10.out.lt;clear hown hgrow hat hlt9))
   all_goals
    go_wp2_with fail
    go_meet
    exact ⟨s8,some ⟨g9,0,none⟩,cp9,_,⟨M8.out,L8.out⟩,F10.out.far lY _ _,R10.out.other nR _ _,by simpa using E10.out.set 8 (.slice (some ⟨g9,0,none⟩) 2 cp9),zbE O10.out (Nat.lt_succ_self Y)⟩
  case rest=>
   obtain ⟨s9,ya9,yc9,cs9,⟨hm,hl⟩,hF,hR,hE,hO⟩:=hcut
   obtain ⟨w9,hwc⟩:∃ x,wc=x:=⟨_,rfl⟩
   rw [hwc] at hF hR hE hO ⊢
   obtain ⟨cs9,hcs⟩:∃ x,cs9=x:=⟨_,rfl⟩
   rw [hcs] at hO
   clear hwc hcs cs O8
   obtain ⟨cs,hcs⟩:∃ x,cs9=x:=⟨_,rfl⟩
   rw [hcs] at hO
   clear hcs
   have Ms9:=hd_ hm
   have Ls9:=hd_ hl
   have F9:=hd_ hF
   have R9:=hd_ hR
   have E9:=hd_ hE
   have O9:=hd_ hO
   clear hm hl hF hR hE hO F8 R8 E8 Ms8 Ls8
   go_wp2_with fail
   refine (zaO ⟨#[66,89]⟩ (Ms9.out.good k HG.out) (by omega) F9.out.par).mono ?_
   rintro e w10 ⟨r,s10,rfl,⟨hm,ht,hf⟩,ho,hp⟩
   clear ht hf
   have F10:=hd_ (F9.out.call ho hp)
   have R10:=hd_ (R9.out.only ho n1)
   have E10:=hd_ (E9.out.only ho nY)
   have Ms10:=hd_ (Ms9.out.trans hm)
   have Ls10:Hid (s.i < s10.i):=hd_ (ll_ Ls9.out hm.le)
   have O10:=hd_ (zam O9.out ho hbY)
   clear hm ho hp F9 R9 E9 Ms9 Ls9 O9
   cases r with
   | true=>
    go_upto_region 50 with fail
    go_cut [] from 190 to 196 (fun wx=>∃ (s8:PS) (ya:Option Addr) (yc:Nat) (cs:List Value),(Mv ts 4 s s8∧s.i < s8.i)∧Fr w b g cap ts s8 wx∧Bl wx R #[.int .i64 0,.int .i64 0,.int .i64 0,.int .i64 0,.string ⟨#[]⟩,.string ⟨#[]⟩,.slice none 0 0,.int .i64 0,.slice none 0 0,.slice none 0 0,.slice none 0 0,.slice none 0 0,.int .i64 0] 154∧Bl wx Y #[.int .i64 4,.int .i64 2,.int .i64 0,.int .i64 0,.string ntx,.string ⟨#[]⟩,.slice none 0 0,.int .i64 nta,.slice ya 3 yc,.slice none 0 0,.slice none 0 0,.slice none 0 0,.int .i64 tta] 154∧wx.ownsRow (Y+1) 112 7 (.slice ya 3 yc) 3 cs)
    case first=>
     have o5:=E10.out.cells13.2.2.2.2.2.2.2.2.1
     have k3:=E10.out.lt
     go_region_law (first
      | (go_simp;go_at_call 114;refine (zeD _ _ _ _ _ _ (Ms10.out.good k HG.out) (by omega) _ F10.out.drew.par).mono ?_;rintro e w11 ⟨v,s8,rfl,⟨op,kd,nn,nm,fl,a,ln,c,ta,rfl⟩,hm,ho,hp⟩;have F11:=hd_ (F10.out.drew.call ho hp);have R11:=hd_ (R10.out.drew.only ho n1);have E11:=hd_ (E10.out.drew.only ho nY);have O11:Hid (w11.ownsRow (Y+1) 112 7 (.slice ya9 2 yc9) 2 cs):=hd_ (zam (zae O10.out br_.drew nl_) ho hbY);have M8:=hd_ ((Ms10.out.trans hm).mono (by omega):Mv ts 4 s s8);have L8:Hid (s.i < s8.i):=hd_ (ll_ Ls10.out hm.le);have o1:=E11.out.cells13.2.2.2.2.2.2.2.2.1;have k6:=E11.out.lt;clear hm ho hp)
      | (refine step_append_lies _ (by rfl) _ _ _ (by rfl) (Y+1) 112 i0 _ 7 88 Tryz.underlying52 HI.out.1 HI.out.2.1 HI.out.2.2.1 HI.out.2.2.2 rfl (by omega) (.slice ya9 2 yc9) 2 cs (by rfl) (zae O11.out ((Below.refl w11.heap.size w11).alloc nl_ _) nl_) ⟨w11.heap.size,0,none⟩ 1 1 [.int .i64 op,.int .i64 kd,.int .i64 nn,.string nm,.string fl,.slice a ln c,.int .i64 ta] (by rfl) (by rfl) (World.news_of_block (cs:=#[.int .i64 op,.int .i64 kd,.int .i64 nn,.string nm,.string fl,.slice a ln c,.int .i64 ta]) (t:=112) (fr:=(0,0)) (heap_alloc_new _ _)) (by simp [Value.oneCell']) (by omega) (by simp only [maxLen];omega) (by omega) (by simp;omega) (w11.heap.size+1) (by simp) ?_;intro g9 cp9 w12 hown hgrow hat hlt9;have E12:=hd_ ((E11.out.alloc _).grown hgrow (zaB O11.out (by omega)));have R12:=hd_ ((R11.out.alloc _).grown hgrow (zaB O11.out (by omega)));have F12:=hd_ ((F11.out.alloc _).grown hgrow (fun k hk=>by have:=(O11.out.lt k hk).1;omega));have O12:=hd_ hown;have o2:=E12.out.cells13.2.2.2.2.2.2.2.2.1;have f2:=E12.out.free13.2.2.2.2.2.2.2.2.1;have k5':=E12.out.lt;clear hown hgrow hat hlt9))
     all_goals
      go_wp2_with fail
      go_meet
      exact ⟨s8,some ⟨g9,0,none⟩,cp9,_,⟨M8.out,L8.out⟩,F12.out.far lY _ _,R12.out.other nR _ _,by simpa using E12.out.set 8 (.slice (some ⟨g9,0,none⟩) 3 cp9),zbE O12.out (Nat.lt_succ_self Y)⟩
    case rest=>
     obtain ⟨s11,ya11,yc11,cs11,⟨hm,hl⟩,hF,hR,hE,hO⟩:=hcut
     obtain ⟨w11,hwc⟩:∃ x,wc=x:=⟨_,rfl⟩
     rw [hwc] at hF hR hE hO ⊢
     obtain ⟨cs9,hcs⟩:∃ x,cs11=x:=⟨_,rfl⟩
     rw [hcs] at hO
     clear hwc hcs cs O10
     obtain ⟨cs,hcs⟩:∃ x,cs9=x:=⟨_,rfl⟩
     rw [hcs] at hO
     clear hcs
     have Ms11:=hd_ hm
     have Ls11:=hd_ hl
     have F11:=hd_ hF
     have R11:=hd_ hR
     have E11:=hd_ hE
     have O11:=hd_ hO
     clear hm hl hF hR hE hO F10 R10 E10 Ms10 Ls10
     go_wp2_with fail
     refine (zan ⟨#[68,79]⟩ (Ms11.out.good k HG.out) (by omega) F11.out.par).mono ?_
     rintro e w12 ⟨_,s12,rfl,rfl,hm,ho,hp⟩
     have F12:=hd_ (F11.out.call ho hp)
     have R12:=hd_ (R11.out.only ho n1)
     have E12:=hd_ (E11.out.only ho nY)
     have Ms12:=hd_ (Ms11.out.trans hm)
     have Ls12:Hid (s.i < s12.i):=hd_ (ll_ Ls11.out hm.le)
     have O12:=hd_ (zam O11.out ho hbY)
     clear hm ho hp F11 R11 E11 Ms11 Ls11 O11
     go_wp2_with fail
     refine (HSS.out _ _ _ _ _ _ (Ms12.out.good k HG.out) (by omega) w12 F12.out.par).mono ?_
     rintro e w13 ⟨v,s13,rfl,⟨ba,bn,bc,rfl⟩,hm,ho,hp⟩
     have F13:=hd_ (F12.out.call ho hp)
     have R13:=hd_ (R12.out.only ho n1)
     have E13:=hd_ (E12.out.only ho nY)
     have Ms13:=hd_ (Ms12.out.trans hm)
     have Ls13:Hid (s.i < s13.i):=hd_ (ll_ Ls12.out hm.le)
     clear hm ho hp F12 R12 E12 Ms12 Ls12
     have q0:=E13.out.cells13.2.2.2.2.2.2.2.2.2.2.1
     have g0:=E13.out.free13.2.2.2.2.2.2.2.2.2.2.1
     have k3:=E13.out.lt
     go_upto_region 53 with fail
     refine zaa (P:=Code.wp _ _ _ _) (F:=fun W=>Fr w b g cap ts s13 W∧Bl W R #[.int .i64 0,.int .i64 0,.int .i64 0,.int .i64 0,.string ⟨#[]⟩,.string ⟨#[]⟩,.slice none 0 0,.int .i64 0,.slice none 0 0,.slice none 0 0,.slice none 0 0,.slice none 0 0,.int .i64 0] 154∧Bl W Y #[.int .i64 4,.int .i64 2,.int .i64 0,.int .i64 0,.string ntx,.string ⟨#[]⟩,.slice none 0 0,.int .i64 nta,.slice ya11 3 yc11,.slice none 0 0,.slice ba bn bc,.slice none 0 0,.int .i64 tta] 154)
      ⟨F13.out.far lY _ _,R13.out.other nR _ _,by simpa using E13.out.set 10 (.slice ba bn bc)⟩ ?_
     clear q0 g0 k3 F13 R13 E13
     intro w14 ⟨F14,R14,E14⟩
     have F14:=hd_ F14
     have R14:=hd_ R14
     have E14:=hd_ E14
     go_wp2_with fail
     refine (zan ⟨#[69,78,68,95,70,79,82]⟩ (Ms13.out.good k HG.out) (by omega) F14.out.par).mono ?_
     rintro e w15 ⟨_,s15,rfl,rfl,hm,ho,hp⟩
     have F15:=hd_ (F14.out.call ho hp)
     have R15:=hd_ (R14.out.only ho n1)
     have E15:=hd_ (E14.out.only ho nY)
     have Ms15:=hd_ (Ms13.out.trans hm)
     have Ls15:Hid (s.i < s15.i):=hd_ (ll_ Ls13.out hm.le)
     clear hm ho hp F14 R14 E14 Ms13 Ls13
     go_wp2_with fail
     refine (zan ⟨#[59]⟩ (Ms15.out.good k HG.out) (by omega) F15.out.par).mono ?_
     rintro e w16 ⟨_,s16,rfl,rfl,hm,ho,hp⟩
     have F16:=hd_ (F15.out.call ho hp)
     have R16:=hd_ (R15.out.only ho n1)
     have E16:=hd_ (E15.out.only ho nY)
     have Ms16:=hd_ (Ms15.out.trans hm)
     have Ls16:Hid (s.i < s16.i):=hd_ (ll_ Ls15.out hm.le)
     clear hm ho hp F15 R15 E15 Ms15 Ls15
     obtain ⟨q0,q1,q2,q3,q4,q5,q6,q7,q8,q9,q10,q11,q12⟩:=E16.out.cells13
     have k3:=E16.out.lt
     obtain ⟨r0,r1,r2,r3,r4,r5,r6,r7,r8,r9,r10,r11,r12⟩:=R16.out.cells13
     obtain ⟨g0,g1,g2,g3,g4,g5,g6,g7,g8,g9,g10,g11,g12⟩:=R16.out.free13
     have k2:=R16.out.lt
     go_wp2_with fail
     refine zaa (P:=bodyPost _ _ _ _ _) (F:=fun W=>Fr w b g cap ts s16 W∧Bl W R #[.int .i64 4,.int .i64 2,.int .i64 0,.int .i64 0,.string ntx,.string ⟨#[]⟩,.slice none 0 0,.int .i64 nta,.slice ya11 3 yc11,.slice none 0 0,.slice ba bn bc,.slice none 0 0,.int .i64 tta] 154)
      ⟨(((((((((((((F16.out.far lR _ _).far lR _ _).far lR _ _).far lR _ _).far lR _ _).far lR _ _).far lR _ _).far lR _ _).far lR _ _).far lR _ _).far lR _ _).far lR _ _).far lR _ _),R16.out.set13⟩ ?_
     clear q0 q1 q2 q3 q4 q5 q6 q7 q8 q9 q10 q11 q12 k3 r0 r1 r2 r3 r4 r5 r6 r7 r8 r9 r10 r11 r12 g0 g1 g2 g3 g4 g5 g6 g7 g8 g9 g10 g11 g12 k2
     intro wz ⟨FZ,RZ⟩
     obtain ⟨r0,r1,r2,r3,r4,r5,r6,r7,r8,r9,r10,r11,r12⟩:=RZ.cells13
     refine bodyPost_ret (v:=.agg #[.int .i64 4,.int .i64 2,.int .i64 0,.int .i64 0,.string ntx,.string ⟨#[]⟩,.slice none 0 0,.int .i64 nta,.slice ya11 3 yc11,.slice none 0 0,.slice ba bn bc,.slice none 0 0,.int .i64 tta]) (by simp [results,Tryz.results87,go_sem, *]) rfl ?_
     exact ⟨_,_,rfl,⟨_,_,_,_,_,_,_,_,_,_,_,_,_,_,_,_,_,_,_,_,_,_,_,rfl⟩,⟨Ms16.out.mono (by have:=HCD.out;omega),Ls16.out⟩,FZ.only,FZ.par⟩
   | false=>
    go_wp2_with fail
    refine (zan ⟨#[68,79]⟩ (Ms10.out.good k HG.out) (by omega) F10.out.par).mono ?_
    rintro e w11 ⟨_,s11,rfl,rfl,hm,ho,hp⟩
    have F11:=hd_ (F10.out.call ho hp)
    have R11:=hd_ (R10.out.only ho n1)
    have E11:=hd_ (E10.out.only ho nY)
    have Ms11:=hd_ (Ms10.out.trans hm)
    have Ls11:Hid (s.i < s11.i):=hd_ (ll_ Ls10.out hm.le)
    have O11:=hd_ (zam O10.out ho hbY)
    clear hm ho hp F10 R10 E10 Ms10 Ls10 O10
    go_wp2_with fail
    refine (HSS.out _ _ _ _ _ _ (Ms11.out.good k HG.out) (by omega) w11 F11.out.par).mono ?_
    rintro e w12 ⟨v,s12,rfl,⟨ba,bn,bc,rfl⟩,hm,ho,hp⟩
    have F12:=hd_ (F11.out.call ho hp)
    have R12:=hd_ (R11.out.only ho n1)
    have E12:=hd_ (E11.out.only ho nY)
    have Ms12:=hd_ (Ms11.out.trans hm)
    have Ls12:Hid (s.i < s12.i):=hd_ (ll_ Ls11.out hm.le)
    clear hm ho hp F11 R11 E11 Ms11 Ls11
    have q0:=E12.out.cells13.2.2.2.2.2.2.2.2.2.2.1
    have g0:=E12.out.free13.2.2.2.2.2.2.2.2.2.2.1
    have k3:=E12.out.lt
    go_upto_region 53 with fail
    refine zaa (P:=Code.wp _ _ _ _) (F:=fun W=>Fr w b g cap ts s12 W∧Bl W R #[.int .i64 0,.int .i64 0,.int .i64 0,.int .i64 0,.string ⟨#[]⟩,.string ⟨#[]⟩,.slice none 0 0,.int .i64 0,.slice none 0 0,.slice none 0 0,.slice none 0 0,.slice none 0 0,.int .i64 0] 154∧Bl W Y #[.int .i64 4,.int .i64 2,.int .i64 0,.int .i64 0,.string ntx,.string ⟨#[]⟩,.slice none 0 0,.int .i64 nta,.slice ya9 2 yc9,.slice none 0 0,.slice ba bn bc,.slice none 0 0,.int .i64 tta] 154)
     ⟨F12.out.far lY _ _,R12.out.other nR _ _,by simpa using E12.out.set 10 (.slice ba bn bc)⟩ ?_
    clear q0 g0 k3 F12 R12 E12
    intro w13 ⟨F13,R13,E13⟩
    have F13:=hd_ F13
    have R13:=hd_ R13
    have E13:=hd_ E13
    go_wp2_with fail
    refine (zan ⟨#[69,78,68,95,70,79,82]⟩ (Ms12.out.good k HG.out) (by omega) F13.out.par).mono ?_
    rintro e w14 ⟨_,s14,rfl,rfl,hm,ho,hp⟩
    have F14:=hd_ (F13.out.call ho hp)
    have R14:=hd_ (R13.out.only ho n1)
    have E14:=hd_ (E13.out.only ho nY)
    have Ms14:=hd_ (Ms12.out.trans hm)
    have Ls14:Hid (s.i < s14.i):=hd_ (ll_ Ls12.out hm.le)
    clear hm ho hp F13 R13 E13 Ms12 Ls12
    go_wp2_with fail
    refine (zan ⟨#[59]⟩ (Ms14.out.good k HG.out) (by omega) F14.out.par).mono ?_
    rintro e w15 ⟨_,s15,rfl,rfl,hm,ho,hp⟩
    have F15:=hd_ (F14.out.call ho hp)
    have R15:=hd_ (R14.out.only ho n1)
    have E15:=hd_ (E14.out.only ho nY)
    have Ms15:=hd_ (Ms14.out.trans hm)
    have Ls15:Hid (s.i < s15.i):=hd_ (ll_ Ls14.out hm.le)
    clear hm ho hp F14 R14 E14 Ms14 Ls14
    obtain ⟨q0,q1,q2,q3,q4,q5,q6,q7,q8,q9,q10,q11,q12⟩:=E15.out.cells13
    have k3:=E15.out.lt
    obtain ⟨r0,r1,r2,r3,r4,r5,r6,r7,r8,r9,r10,r11,r12⟩:=R15.out.cells13
    obtain ⟨g0,g1,g2,g3,g4,g5,g6,g7,g8,g9,g10,g11,g12⟩:=R15.out.free13
    have k2:=R15.out.lt
    go_wp2_with fail
    refine zaa (P:=bodyPost _ _ _ _ _) (F:=fun W=>Fr w b g cap ts s15 W∧Bl W R #[.int .i64 4,.int .i64 2,.int .i64 0,.int .i64 0,.string ntx,.string ⟨#[]⟩,.slice none 0 0,.int .i64 nta,.slice ya9 2 yc9,.slice none 0 0,.slice ba bn bc,.slice none 0 0,.int .i64 tta] 154)
     ⟨(((((((((((((F15.out.far lR _ _).far lR _ _).far lR _ _).far lR _ _).far lR _ _).far lR _ _).far lR _ _).far lR _ _).far lR _ _).far lR _ _).far lR _ _).far lR _ _).far lR _ _),R15.out.set13⟩ ?_
    clear q0 q1 q2 q3 q4 q5 q6 q7 q8 q9 q10 q11 q12 k3 r0 r1 r2 r3 r4 r5 r6 r7 r8 r9 r10 r11 r12 g0 g1 g2 g3 g4 g5 g6 g7 g8 g9 g10 g11 g12 k2
    intro wz ⟨FZ,RZ⟩
    obtain ⟨r0,r1,r2,r3,r4,r5,r6,r7,r8,r9,r10,r11,r12⟩:=RZ.cells13
    refine bodyPost_ret (v:=.agg #[.int .i64 4,.int .i64 2,.int .i64 0,.int .i64 0,.string ntx,.string ⟨#[]⟩,.slice none 0 0,.int .i64 nta,.slice ya9 2 yc9,.slice none 0 0,.slice ba bn bc,.slice none 0 0,.int .i64 tta]) (by simp [results,Tryz.results87,go_sem, *]) rfl ?_
    exact ⟨_,_,rfl,⟨_,_,_,_,_,_,_,_,_,_,_,_,_,_,_,_,_,_,_,_,_,_,_,rfl⟩,⟨Ms15.out.mono (by have:=HCD.out;omega),Ls15.out⟩,FZ.only,FZ.par⟩
end Go.Proofs.YtdpkjpjkdmkkpaaGreatDoor
