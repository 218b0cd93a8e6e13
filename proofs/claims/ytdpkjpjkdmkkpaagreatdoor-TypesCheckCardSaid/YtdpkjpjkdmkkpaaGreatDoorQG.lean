/- The reference's parser, weakly: stmt at CASE. -/
import Derived.Test.YtdpkjpjkdmkkpaaGreatDoorQ10A
import Derived.Test.YtdpkjpjkdmkkpaaGreatDoorQ10F
import Derived.Test.YtdpkjpjkdmkkpaaGreatDoorQ10I
set_option maxRecDepth 100000
set_option maxHeartbeats 16000000
namespace Go.Proofs.YtdpkjpjkdmkkpaaGreatDoor
open Go.RowKit Lx Pa
def zmY (t:Tok):Prop:=t.tok≠2∧wOf t=[67,65,83,69]
theorem zjY {deep:Int} (h1:1≤deep) (h9:deep≤32) (hS:zdj (deep+1)):zky deep zmY:=by
 intro b g cap k ts s hg hk htok hP w hx
 have F0:=hd_ (Fr.start hx)
 have HG:=hd_ hg
 have HCD:Hid (cst (deep+1)+6=cst deep∧cst deep≤300):=hd_ (by unfold cst;omega)
 have hcd:cst (deep+1)≤300:=by have:=HCD.out;omega
 have HSS:=hd_ hS
 obtain ⟨ia,hi9,hz0,hz1,hz2⟩:=info_parts zje
 obtain ⟨il,hj9,hj0,hj1,hj2⟩:=info_parts zma
 have HB:=hd_ (And.intro hj9 (And.intro hj0 (And.intro hj1 hj2)))
 clear hj9 hj0 hj1 hj2
 have HA:=hd_ (And.intro hi9 (And.intro hz0 (And.intro hz1 hz2)))
 clear hi9 hz0 hz1 hz2
 have hwd:IntKind.i64.wrap (deep+1)=deep+1:=IntWalk.i64_in _ (by omega)
 have Ms1:Hid (Mv ts 0 s (Pa.up s)):=hd_ (Mv.up hx.ends htok)
 have Ls1:Hid (s.i < (Pa.up s).i):=hd_ (by show s.i < s.i+1;omega)
 have HN:=hd_ (fun W (hW:Par W b g cap ts s)=>zdA (k:=k) hg (by omega) W hW)
 have hf0:=zaV
 clear hg hx hS htok
 obtain ⟨s1,hs1⟩:∃ x,Pa.up s=x:=⟨_,rfl⟩
 rw [hs1] at HN Ms1 Ls1
 clear hs1
 go_enter Tryz.func87,Tryz.ntmps87
 have hbw:=F0.out.lt.1
 have n0:w.heap.size≠b:=by omega
 go_wp2_with fail
 refine (HN.out _ (F0.out.alloc _).par).mono ?_
 rintro e w1 ⟨tk,tkd,tnn,tx,tta,rfl,ht,ho,hp⟩
 rw [ht] at hP
 have F1:=hd_ ((F0.out.alloc _).call ho hp)
 have R1:=hd_ ((Bl.new w #[.int .i64 0,.int .i64 0,.int .i64 0,.int .i64 0,.string ⟨#[]⟩,.string ⟨#[]⟩,.slice none 0 0,.int .i64 0,.slice none 0 0,.slice none 0 0,.slice none 0 0,.slice none 0 0,.int .i64 0] 154).only ho n0)
 obtain ⟨txb,hxb⟩:∃ x:ByteArray,(⟨tx.toArray⟩:ByteArray)=x:=⟨_,rfl⟩
 rw [hxb]
 have hP2:(tk==2)=false∧(txb.toList==[73,70])=false∧(txb.toList==[67,65,83,69])=true:=by
  have h3:txb.toList=[67,65,83,69]:=by rw [← hxb];exact hP.2
  exact ⟨by simpa using hP.1,by rw [h3];rfl,by rw [h3];rfl⟩
 clear hP
 clear ho hp ht hxb F0 HN
 go_upto_region 3 with fail
 refine zaa (P:=Code.wp _ _ _ _) (F:=fun W=>Fr w b g cap ts s1 W∧Bl W w.heap.size #[.int .i64 0,.int .i64 0,.int .i64 0,.int .i64 0,.string ⟨#[]⟩,.string ⟨#[]⟩,.slice none 0 0,.int .i64 0,.slice none 0 0,.slice none 0 0,.slice none 0 0,.slice none 0 0,.int .i64 0] 154∧Bl W w1.heap.size #[.int .i64 tk,.int .i64 tkd,.int .i64 tnn,.string txb,.int .i64 tta] 107∧Bl W (w1.heap.size+1) #[.int .i64 0,.int .i64 0,.int .i64 0,.int .i64 0,.string ⟨#[]⟩,.string ⟨#[]⟩,.slice none 0 0,.int .i64 0,.slice none 0 0,.slice none 0 0,.slice none 0 0,.slice none 0 0,.int .i64 tta] 154)
  ⟨(F1.out.alloc _).alloc _,(R1.out.alloc _).alloc _,(Bl.new _ _ _).alloc _,Bl.newAt _ (by simp)⟩ ?_
 have hRl:=R1.out.lt
 have hb1:=F1.out.size
 clear F1 R1
 intro w2 ⟨F2,R2,T2,E2⟩
 obtain ⟨Y,hY⟩:∃ Y,w1.heap.size+1=Y:=⟨_,rfl⟩
 rw [hY] at E2 ⊢
 obtain ⟨Z,hZ⟩:∃ Z,w1.heap.size=Z:=⟨_,rfl⟩
 rw [hZ] at T2 ⊢
 obtain ⟨R,hR⟩:∃ R,w.heap.size=R:=⟨_,rfl⟩
 have n1:R≠b:=by omega
 have nY:Y≠b:=by omega
 have nR:R≠Y:=by omega
 have hRY:R < Y:=by omega
 have lR:w.heap.size≤R:=by omega
 have lY:w.heap.size≤Y:=by omega
 have hbY:b < Y+1:=by omega
 rw [hR] at R2 ⊢
 clear hY hZ hR hRl hb1 n0 hbw
 obtain ⟨t0,t1,t2,t3,t4⟩:=T2.cells5
 have k5:=T2.lt
 have F2:=hd_ F2
 have R2:=hd_ R2
 have E2:=hd_ E2
 clear T2
 obtain ⟨h2b,hc0,hc1⟩:=hP2
 have q0:=E2.out.cells13.1
 have g0:=E2.out.free13.1
 have k3:=E2.out.lt
 go_upto_region 21 with fail
 refine zaa (P:=Code.wp _ _ _ _) (F:=fun W=>Fr w b g cap ts s1 W∧Bl W R #[.int .i64 0,.int .i64 0,.int .i64 0,.int .i64 0,.string ⟨#[]⟩,.string ⟨#[]⟩,.slice none 0 0,.int .i64 0,.slice none 0 0,.slice none 0 0,.slice none 0 0,.slice none 0 0,.int .i64 0] 154∧Bl W Y #[.int .i64 3,.int .i64 0,.int .i64 0,.int .i64 0,.string ⟨#[]⟩,.string ⟨#[]⟩,.slice none 0 0,.int .i64 0,.slice none 0 0,.slice none 0 0,.slice none 0 0,.slice none 0 0,.int .i64 tta] 154)
  ⟨F2.out.far lY _ _,R2.out.other nR _ _,by simpa using E2.out.set 0 (.int .i64 3)⟩ ?_
 clear q0 g0 k3 F2 R2 E2
 intro w3 ⟨F3,R3,E3⟩
 have F3:=hd_ F3
 have R3:=hd_ R3
 have E3:=hd_ E3
 go_wp2_with fail
 refine (zeD _ _ _ _ _ _ (Ms1.out.good k HG.out) (by omega) w3 F3.out.par).mono ?_
 rintro e w4 ⟨v,s4,rfl,⟨op,kd,nn,nm,fl,a,ln,c,ta,rfl⟩,hm,ho,hp⟩
 have F4:=hd_ (Fr.call F3.out ho hp)
 have R4:=hd_ (Bl.only R3.out ho n1)
 have E4:=hd_ (Bl.only E3.out ho nY)
 have Ms4:=hd_ (Ms1.out.trans hm)
 have Ls4:Hid (s.i < s4.i):=hd_ (ll_ Ls1.out hm.le)
 clear hm ho hp F3 R3 E3 Ms1 Ls1
 have q0:=E4.out.cells13.2.2.2.2.2.2.2.2.1
 have g0:=E4.out.free13.2.2.2.2.2.2.2.2.1
 have k3:=E4.out.lt
 go_upto_region 22 with fail
 refine zaa (P:=Code.wp _ _ _ _) (F:=fun W=>Fr w b g cap ts s4 W∧Bl W R #[.int .i64 0,.int .i64 0,.int .i64 0,.int .i64 0,.string ⟨#[]⟩,.string ⟨#[]⟩,.slice none 0 0,.int .i64 0,.slice none 0 0,.slice none 0 0,.slice none 0 0,.slice none 0 0,.int .i64 0] 154∧Bl W Y #[.int .i64 3,.int .i64 0,.int .i64 0,.int .i64 0,.string ⟨#[]⟩,.string ⟨#[]⟩,.slice none 0 0,.int .i64 0,.slice (some ⟨w4.heap.size,0,none⟩) 1 1,.slice none 0 0,.slice none 0 0,.slice none 0 0,.int .i64 tta] 154)
  ⟨(F4.out.far lY _ _).alloc _,(R4.out.other nR _ _).alloc _,Bl.alloc (vs:=#[.int .i64 3,.int .i64 0,.int .i64 0,.int .i64 0,.string ⟨#[]⟩,.string ⟨#[]⟩,.slice none 0 0,.int .i64 0,.slice (some ⟨w4.heap.size,0,none⟩) 1 1,.slice none 0 0,.slice none 0 0,.slice none 0 0,.int .i64 tta]) (by simpa using E4.out.set 8 (.slice (some ⟨w4.heap.size,0,none⟩) 1 1)) _⟩ ?_
 clear q0 g0 k3 F4 R4 E4
 intro w5 ⟨F5,R5,E5⟩
 have F5:=hd_ F5
 have R5:=hd_ R5
 have E5:=hd_ E5
 obtain ⟨G4,hG⟩:∃ x,w4.heap.size=x:=⟨_,rfl⟩
 rw [hG] at E5 ⊢
 clear hG
 go_wp2_with fail
 refine (zan ⟨#[79,70]⟩ (Ms4.out.good k HG.out) (by omega) F5.out.par).mono ?_
 rintro e w6 ⟨_,s6,rfl,rfl,hm,ho,hp⟩
 have F6:=hd_ (Fr.call F5.out ho hp)
 have R6:=hd_ (Bl.only R5.out ho n1)
 have E6:=hd_ (Bl.only E5.out ho nY)
 have Ms6:=hd_ (Ms4.out.trans hm)
 have Ls6:Hid (s.i < s6.i):=hd_ (ll_ Ls4.out hm.le)
 clear hm ho hp F5 R5 E5 Ms4 Ls4
 have OA6:Hid (w6.ownsRow (Y+1) 201 3 (.slice none 0 0) 0 []):=hd_ ⟨by simp,.inl ⟨rfl,rfl⟩⟩
 have MI:=hd_ (Ms6.out.mono (by omega):Mv ts (cst (deep+1)+1) s s6)
 go_wp2_with fail
 go_loopw [9] (fun v9 wr=>RRel (∃ (si:PS) (fa:Option Addr) (fc:Nat) (n:Nat) (cs:List Value) (fq:Bool),v9=.bool fq∧Hid (n≤si.i+1∧(si.err=0→n≤si.i))∧s.i < si.i∧Hid (Mv ts (cst (deep+1)+1) s si)∧Hid (Fr w b g cap ts si wr)∧Hid (Bl wr R #[.int .i64 0,.int .i64 0,.int .i64 0,.int .i64 0,.string ⟨#[]⟩,.string ⟨#[]⟩,.slice none 0 0,.int .i64 0,.slice none 0 0,.slice none 0 0,.slice none 0 0,.slice none 0 0,.int .i64 0] 154)∧Hid (Bl wr Y #[.int .i64 3,.int .i64 0,.int .i64 0,.int .i64 0,.string ⟨#[]⟩,.string ⟨#[]⟩,.slice none 0 0,.int .i64 0,.slice (some ⟨G4,0,none⟩) 1 1,.slice fa n fc,.slice none 0 0,.slice none 0 0,.int .i64 tta] 154)∧Hid (wr.ownsRow (Y+1) 201 3 (.slice fa n fc) n cs))) (fun _ wr=>ms2 (intOf ((wr.cell? ⟨b,1,none⟩).getD undef)) (intOf ((wr.cell? ⟨b,2,none⟩).getD undef)))
 case atStart=>exact RRel.mk ⟨s6,_,_,0,_,true,rfl,hd_ ⟨Nat.zero_le _,fun _=>Nat.zero_le _⟩,Ls6.out,MI,F6,R6,E6,OA6⟩
 case round=>
  obtain ⟨si,fa,fc,n,cs,fq,hfq,HNN,hsi,Msi,F7,R7,E7,OA7⟩:=hrel.it
  subst hfq
  have Lsi:=hd_ hsi
  clear hrel hsi MI Ms6 Ls6 F6 R6 E6 OA6
  obtain ⟨w7,rfl⟩:∃ w9,w9=wr:=⟨_,rfl⟩
  have HMI:=hd_ F7.out.par.pb.cells.2.1
  have HME:=hd_ F7.out.par.pb.cells.2.2.1
  have hfew:=zat (Msi.out.good k HG.out) (by omega) F7.out.par
  have d2:=F7.out.par.pb.cells.2.2.1
  have k1:=F7.out.par.pb.lt
  go_upto_region 24 with fail
  go_cut [106] from 89 to 106 (fun v106 wx=>∃ r:Bool,v106=.bool r∧Hid (r=true→si.err=0)∧Fr w b g cap ts si wx∧Bl wx R #[.int .i64 0,.int .i64 0,.int .i64 0,.int .i64 0,.string ⟨#[]⟩,.string ⟨#[]⟩,.slice none 0 0,.int .i64 0,.slice none 0 0,.slice none 0 0,.slice none 0 0,.slice none 0 0,.int .i64 0] 154∧Bl wx Y #[.int .i64 3,.int .i64 0,.int .i64 0,.int .i64 0,.string ⟨#[]⟩,.string ⟨#[]⟩,.slice none 0 0,.int .i64 0,.slice (some ⟨G4,0,none⟩) 1 1,.slice fa n fc,.slice none 0 0,.slice none 0 0,.int .i64 tta] 154∧wx.ownsRow (Y+1) 201 3 (.slice fa n fc) n cs)
  case first=>
   by_cases he:si.err=0
   ·rw [he] at d2
    have HE0:=hd_ he
    clear he
    cases fq with
    | true=>
     go_wp2_with fail
     go_meet
     exact ⟨true,rfl,hd_ (fun _=>HE0.out),F7.out,R7.out,E7.out,OA7.out⟩
    | false=>
     go_wp2_with fail
     refine (zcb (Msi.out.good k HG.out) F7.out.par).mono ?_
     rintro e wt ⟨tk9,tkd9,tnn9,tx9,tta9,rfl,_,hb⟩
     have Ft:=hd_ (F7.out.below hb)
     have Rt:=hd_ (R7.out.below hb)
     have Et:=hd_ (E7.out.below hb)
     have OAt:=hd_ (zae OA7.out hb nl_)
     clear hb
     by_cases htk:tk9=3
     ·subst htk
      go_wp2_with fail
      go_meet
      exact ⟨true,rfl,hd_ (fun _=>HE0.out),Ft.out,Rt.out,Et.out,OAt.out⟩
     ·have ht3:(tk9==3)=false:=by simpa using htk
      obtain ⟨rq,hrq⟩:∃ r,is ts si [45]=r:=⟨_,rfl⟩
      have HIS:=hd_ (fun W (hW:Par W b g cap ts si)=>zb9 (x:=⟨#[45]⟩) hrq (Msi.out.good k HG.out).1 W hW)
      clear htk hrq
      go_wp2_with fail
      refine (HIS.out _ Ft.out.par).mono ?_
      rintro e wu ⟨rfl,hb⟩
      have Fu:=hd_ (Ft.out.below hb)
      have Ru:=hd_ (Rt.out.below hb)
      have Eu:=hd_ (Et.out.below hb)
      have OAu:=hd_ (zae OAt.out hb nl_)
      clear hb
      go_wp2_with fail
      go_meet
      exact ⟨rq,rfl,hd_ (fun _=>HE0.out),Fu.out,Ru.out,Eu.out,OAu.out⟩
   ·have he2:(si.err==0)=false:=by simpa using he
    clear he
    go_wp2_with fail
    go_meet
    exact ⟨false,rfl,hd_ (fun h=>by cases h),F7.out,R7.out,E7.out,OA7.out⟩
  case rest=>
   obtain ⟨r,rfl,HER,F8,R8,E8,OA8⟩:=hcut
   clear d2 k1 F7 R7 E7 OA7
   obtain ⟨w8,hwc⟩:∃ x,wc=x:=⟨_,rfl⟩
   rw [hwc] at F8 R8 E8 OA8 ⊢
   clear hwc
   have F8:=hd_ F8
   have R8:=hd_ R8
   have E8:=hd_ E8
   have OA8:=hd_ OA8
   have hn:n≤si.i+1:=HNN.out.1
   cases r with
   | true=>
    have Msi:=hd_ (Msi.out.zero (HER.out rfl))
    have HE0:=hd_ (HER.out rfl)
    have HNZ:=HNN.out.2 (HER.out rfl)
    clear HER HNN hn
    go_upto_region 27 with fail
    have lY8:=E8.out.lt
    have jA8:=OA8.out.lt
    refine zaa (P:=Code.wp _ _ _ _) (F:=fun W=>Fr w b g cap ts si W∧Bl W R #[.int .i64 0,.int .i64 0,.int .i64 0,.int .i64 0,.string ⟨#[]⟩,.string ⟨#[]⟩,.slice none 0 0,.int .i64 0,.slice none 0 0,.slice none 0 0,.slice none 0 0,.slice none 0 0,.int .i64 0] 154∧Bl W Y #[.int .i64 3,.int .i64 0,.int .i64 0,.int .i64 0,.string ⟨#[]⟩,.string ⟨#[]⟩,.slice none 0 0,.int .i64 0,.slice (some ⟨G4,0,none⟩) 1 1,.slice fa n fc,.slice none 0 0,.slice none 0 0,.int .i64 tta] 154∧Bl W w8.heap.size #[.slice none 0 0,.slice none 0 0,.slice none 0 0] 201∧W.ownsRow (Y+1) 201 3 (.slice fa n fc) n cs)
     ⟨F8.out.alloc _,R8.out.alloc _,E8.out.alloc _,Bl.new _ _ _,zae OA8.out (br_.alloc nl_ _) nl_⟩ ?_
    clear F8 R8 E8 OA8
    intro w9 ⟨F9,R9,E9,BV9,OA9⟩
    have F9:=hd_ F9
    have R9:=hd_ R9
    have E9:=hd_ E9
    have BV9:=hd_ BV9
    have OA9:=hd_ OA9
    obtain ⟨V,hV⟩:∃ x,w8.heap.size=x:=⟨_,rfl⟩
    rw [hV] at BV9 ⊢
    have nV:V≠b:=by omega
    have nVY:V≠Y:=by omega
    have lV:Y < V:=by omega
    clear lY8
    have HOB:Hid (∀ q,(Value.slice fa n fc).ownBlock=some q→q < V):=hd_ (fun q hq=>by have:=(jA8 q hq).2;omega)
    clear jA8 hV
    have HOV:Hid (some V≠(Value.slice fa n fc).ownBlock):=hd_ (fun h=>by have:=HOB.out V h.symm;omega)
    have OL9:Hid (w9.ownsRow (V+1) 202 14 (.slice none 0 0) 0 []):=hd_ ⟨by simp,.inl ⟨rfl,rfl⟩⟩
    go_wp2_with fail
    go_loopw [11] (fun v11 wr=>RRel (∃ (sj:PS) (la:Option Addr) (lc:Nat) (m:Nat) (csl:List Value) (bq:Bool),v11=.bool bq∧Hid (m≤sj.i+1∧(sj.err=0→m≤sj.i))∧Hid (bq=true∨si.i < sj.i∨sj.err≠0)∧si.i≤sj.i∧Hid (Mv ts 0 s sj)∧Hid (Fr w b g cap ts sj wr)∧Hid (Bl wr R #[.int .i64 0,.int .i64 0,.int .i64 0,.int .i64 0,.string ⟨#[]⟩,.string ⟨#[]⟩,.slice none 0 0,.int .i64 0,.slice none 0 0,.slice none 0 0,.slice none 0 0,.slice none 0 0,.int .i64 0] 154)∧Hid (Bl wr Y #[.int .i64 3,.int .i64 0,.int .i64 0,.int .i64 0,.string ⟨#[]⟩,.string ⟨#[]⟩,.slice none 0 0,.int .i64 0,.slice (some ⟨G4,0,none⟩) 1 1,.slice fa n fc,.slice none 0 0,.slice none 0 0,.int .i64 tta] 154)∧Hid (Bl wr V #[.slice none 0 0,.slice la m lc,.slice none 0 0] 201)∧Hid (wr.ownsRow (Y+1) 201 3 (.slice fa n fc) n cs)∧Hid (wr.ownsRow (V+1) 202 14 (.slice la m lc) m csl))) (fun _ wr=>ms2 (intOf ((wr.cell? ⟨b,1,none⟩).getD undef)) (intOf ((wr.cell? ⟨b,2,none⟩).getD undef)))
    case atStart=>exact RRel.mk ⟨si,none,0,0,_,true,rfl,hd_ ⟨Nat.zero_le _,fun _=>Nat.zero_le _⟩,hd_ (.inl rfl),Nat.le_refl _,Msi,F9,R9,E9,BV9,OA9,OL9⟩
    case round=>
     obtain ⟨sj,la,lc,m,csl,bq,rfl,HMM,HPP,hij,Msj,F10,R10,E10,BV10,OA10,OL10⟩:=hrel.it
     have Lsj:Hid (s.i < sj.i):=hd_ (ll_ Lsi.out hij)
     clear hrel Msi F9 R9 E9 BV9 OA9 OL9
     obtain ⟨w10,rfl⟩:∃ w9,w9=wr:=⟨_,rfl⟩
     have HMJ:=hd_ F10.out.par.pb.cells.2.1
     have HMF:=hd_ F10.out.par.pb.cells.2.2.1
     have hfewj:=zat (Msj.out.good k HG.out) (by omega) F10.out.par
     have d2:=F10.out.par.pb.cells.2.2.1
     have k1:=F10.out.par.pb.lt
     go_upto_region 28 with fail
     go_cut [114] from 107 to 114 (fun v114 wx=>∃ r:Bool,v114=.bool r∧Hid ((r=true→sj.err=0)∧(r=false→bq=false∨sj.err≠0))∧Fr w b g cap ts sj wx∧Bl wx R #[.int .i64 0,.int .i64 0,.int .i64 0,.int .i64 0,.string ⟨#[]⟩,.string ⟨#[]⟩,.slice none 0 0,.int .i64 0,.slice none 0 0,.slice none 0 0,.slice none 0 0,.slice none 0 0,.int .i64 0] 154∧Bl wx Y #[.int .i64 3,.int .i64 0,.int .i64 0,.int .i64 0,.string ⟨#[]⟩,.string ⟨#[]⟩,.slice none 0 0,.int .i64 0,.slice (some ⟨G4,0,none⟩) 1 1,.slice fa n fc,.slice none 0 0,.slice none 0 0,.int .i64 tta] 154∧Bl wx V #[.slice none 0 0,.slice la m lc,.slice none 0 0] 201∧wx.ownsRow (Y+1) 201 3 (.slice fa n fc) n cs∧wx.ownsRow (V+1) 202 14 (.slice la m lc) m csl)
     case first=>
      cases bq with
      | false=>
       go_wp2_with fail
       go_meet
       exact ⟨false,rfl,hd_ ⟨(fun h=>by cases h),fun _=>by first | exact .inl rfl | exact .inl trivial⟩,F10.out,R10.out,E10.out,BV10.out,OA10.out,OL10.out⟩
      | true=>
       by_cases he:sj.err=0
       ·rw [he] at d2
        have HF0:=hd_ he
        clear he
        go_wp2_with fail
        go_meet
        exact ⟨true,rfl,hd_ ⟨(fun _=>HF0.out),(fun h=>by cases h)⟩,F10.out,R10.out,E10.out,BV10.out,OA10.out,OL10.out⟩
       ·have he2:(sj.err==0)=false:=by simpa using he
        have HF0:=hd_ he
        clear he
        go_wp2_with fail
        go_meet
        exact ⟨false,rfl,hd_ ⟨(fun h=>by cases h),fun _=>.inr HF0.out⟩,F10.out,R10.out,E10.out,BV10.out,OA10.out,OL10.out⟩
     case rest=>
      obtain ⟨r,rfl,HER,F11,R11,E11,BV11,OA11,OL11⟩:=hcut
      clear d2 k1 F10 R10 E10 BV10 OA10 OL10
      obtain ⟨w11,hwc⟩:∃ x,wc=x:=⟨_,rfl⟩
      rw [hwc] at F11 R11 E11 BV11 OA11 OL11 ⊢
      clear hwc
      have F11:=hd_ F11
      have R11:=hd_ R11
      have E11:=hd_ E11
      have BV11:=hd_ BV11
      have OA11:=hd_ OA11
      have OL11:=hd_ OL11
      cases r with
      | true=>
       have HF0:=hd_ (HER.out.1 rfl)
       have hm0:=HMM.out.2 (HER.out.1 rfl)
       clear HER HMM HPP
       go_wp2_with fail
       refine (zfC (Msj.out.good k HG.out) (by omega) F11.out.par).mono ?_
       rintro e w12 ⟨v,s12,rfl,⟨opA,kdA,nnA,nmA,flA,aA,lnA,cA,taA,rfl⟩,hm,hl,ho,hp⟩
       have HL:=hd_ hl
       have HLE:Hid (sj.i≤s12.i):=hd_ hm.le
       clear hl
       have F12:=hd_ (Fr.call F11.out ho hp)
       have R12:=hd_ (Bl.only R11.out ho n1)
       have E12:=hd_ (Bl.only E11.out ho nY)
       have BV12:=hd_ (Bl.only BV11.out ho nV)
       have OA12:=hd_ (zam OA11.out ho (by omega))
       have OL12:=hd_ (zam OL11.out ho (by omega))
       have Ms12:=hd_ (Msj.out.trans hm)
       have Ls12:Hid (s.i < s12.i):=hd_ (ll_ Lsj.out hm.le)
       clear hm ho hp F11 R11 E11 BV11 OA11 OL11 Msj Lsj
       go_upto_region 31 with fail
       have lY12:=E12.out.lt
       have lV12:=BV12.out.lt
       have jA12:=OA12.out.lt
       have jL12:=OL12.out.lt
       refine zaa (P:=Code.wp _ _ _ _) (F:=fun W=>Fr w b g cap ts s12 W∧Bl W R #[.int .i64 0,.int .i64 0,.int .i64 0,.int .i64 0,.string ⟨#[]⟩,.string ⟨#[]⟩,.slice none 0 0,.int .i64 0,.slice none 0 0,.slice none 0 0,.slice none 0 0,.slice none 0 0,.int .i64 0] 154∧Bl W Y #[.int .i64 3,.int .i64 0,.int .i64 0,.int .i64 0,.string ⟨#[]⟩,.string ⟨#[]⟩,.slice none 0 0,.int .i64 0,.slice (some ⟨G4,0,none⟩) 1 1,.slice fa n fc,.slice none 0 0,.slice none 0 0,.int .i64 tta] 154∧Bl W V #[.slice none 0 0,.slice la m lc,.slice none 0 0] 201∧Bl W w12.heap.size #[.int .i64 opA,.int .i64 kdA,.int .i64 nnA,.string nmA,.string flA,.slice aA lnA cA,.int .i64 taA] 112∧W.ownsRow (Y+1) 201 3 (.slice fa n fc) n cs∧W.ownsRow (V+1) 202 14 (.slice la m lc) m csl)
        ⟨F12.out.alloc _,R12.out.alloc _,E12.out.alloc _,BV12.out.alloc _,Bl.new _ _ _,zae OA12.out (br_.alloc nl_ _) nl_,zae OL12.out (br_.alloc nl_ _) nl_⟩ ?_
       clear F12 R12 E12 BV12 OA12 OL12
       intro w13 ⟨F13,R13,E13,BV13,BX13,OA13,OL13⟩
       have F13:=hd_ F13
       have R13:=hd_ R13
       have E13:=hd_ E13
       have BV13:=hd_ BV13
       have BX13:=hd_ BX13
       have OA13:=hd_ OA13
       have OL13:=hd_ OL13
       obtain ⟨X,hX⟩:∃ x,w12.heap.size=x:=⟨_,rfl⟩
       rw [hX] at BX13 ⊢
       have nX:X≠b:=by omega
       have nXY:X≠Y:=by omega
       have lX:Y < X:=by omega
       have nXV:X≠V:=by omega
       have lXV:V < X:=by omega
       clear lY12 lV12
       clear hX jA12 jL12
       obtain ⟨x0,x1,x2,x3,x4,x5,x6⟩:=BX13.out.cells7
       have kx:=BX13.out.lt
       go_upto_region 32 with fail
       have lY13:=E13.out.lt
       have lV13:=BV13.out.lt
       have lX13:=BX13.out.lt
       have jA13:=OA13.out.lt
       have jL13:=OL13.out.lt
       refine zaa (P:=Code.wp _ _ _ _) (F:=fun W=>Fr w b g cap ts s12 W∧Bl W R #[.int .i64 0,.int .i64 0,.int .i64 0,.int .i64 0,.string ⟨#[]⟩,.string ⟨#[]⟩,.slice none 0 0,.int .i64 0,.slice none 0 0,.slice none 0 0,.slice none 0 0,.slice none 0 0,.int .i64 0] 154∧Bl W Y #[.int .i64 3,.int .i64 0,.int .i64 0,.int .i64 0,.string ⟨#[]⟩,.string ⟨#[]⟩,.slice none 0 0,.int .i64 0,.slice (some ⟨G4,0,none⟩) 1 1,.slice fa n fc,.slice none 0 0,.slice none 0 0,.int .i64 tta] 154∧Bl W V #[.slice none 0 0,.slice la m lc,.slice none 0 0] 201∧Bl W X #[.int .i64 opA,.int .i64 kdA,.int .i64 nnA,.string nmA,.string flA,.slice aA lnA cA,.int .i64 taA] 112∧Bl W w13.heap.size #[.int .i64 opA,.int .i64 kdA,.int .i64 nnA,.string nmA,.string flA,.slice aA lnA cA,.int .i64 taA] 112∧W.ownsRow (Y+1) 201 3 (.slice fa n fc) n cs∧W.ownsRow (V+1) 202 14 (.slice la m lc) m csl)
        ⟨F13.out.alloc _,R13.out.alloc _,E13.out.alloc _,BV13.out.alloc _,BX13.out.alloc _,Bl.new _ _ _,zae OA13.out (br_.alloc nl_ _) nl_,zae OL13.out (br_.alloc nl_ _) nl_⟩ ?_
       clear F13 R13 E13 BV13 BX13 OA13 OL13
       intro w14 ⟨F14,R14,E14,BV14,BX14,BZ14,OA14,OL14⟩
       have F14:=hd_ F14
       have R14:=hd_ R14
       have E14:=hd_ E14
       have BV14:=hd_ BV14
       have BX14:=hd_ BX14
       have BZ14:=hd_ BZ14
       have OA14:=hd_ OA14
       have OL14:=hd_ OL14
       obtain ⟨Z,hZ⟩:∃ x,w13.heap.size=x:=⟨_,rfl⟩
       rw [hZ] at BZ14 ⊢
       have nZ:Z≠b:=by omega
       have nZY:Z≠Y:=by omega
       have lZ:Y < Z:=by omega
       have nZV:Z≠V:=by omega
       have lZV:V < Z:=by omega
       have nZX:Z≠X:=by omega
       have lZX:X < Z:=by omega
       clear lY13 lV13 lX13
       have HOA:Hid (some Z≠(Value.slice fa n fc).ownBlock):=hd_ (fun h=>by have:=(jA13 Z h.symm).2;omega)
       have HOL:Hid (some Z≠(Value.slice la m lc).ownBlock):=hd_ (fun h=>by have:=(jL13 Z h.symm).2;omega)
       clear jA13 jL13 hZ x0 x1 x2 x3 x4 x5 x6 kx
       go_wp2_with fail
       refine (zaO ⟨#[46,46]⟩ (Ms12.out.good k HG.out) (by omega) F14.out.par).mono ?_
       rintro e w15 ⟨r,s15,rfl,⟨hm,ht,hf⟩,ho,hp⟩
       have F15:=hd_ (Fr.call F14.out ho hp)
       have R15:=hd_ (Bl.only R14.out ho n1)
       have E15:=hd_ (Bl.only E14.out ho nY)
       have BV15:=hd_ (Bl.only BV14.out ho nV)
       have BX15:=hd_ (Bl.only BX14.out ho nX)
       have BZ15:=hd_ (Bl.only BZ14.out ho nZ)
       have OA15:=hd_ (zam OA14.out ho (by omega))
       have OL15:=hd_ (zam OL14.out ho (by omega))
       clear ho hp F14 R14 E14 BV14 BX14 BZ14 OA14 OL14
       cases r with
       | true=>
        have HLE:=hd_ (lt_ HLE.out hm.le)
        have HL:=hd_ (HL.out.imp (fun h=>ll_ h hm.le) hm.err)
        have Ms15:=hd_ (Ms12.out.trans hm)
        have Ls15:Hid (s.i < s15.i):=hd_ (ll_ Ls12.out hm.le)
        clear hm ht hf Ms12 Ls12
        go_wp2_with fail
        refine (zfC (Ms15.out.good k HG.out) (by omega) F15.out.par).mono ?_
        rintro e w16 ⟨v,s16,rfl,⟨opB,kdB,nnB,nmB,flB,aB,lnB,cB,taB,rfl⟩,hm,hl,ho,hp⟩
        have HLE:=hd_ (lt_ HLE.out hm.le)
        have HL:=hd_ (HL.out.imp (fun h=>ll_ h hm.le) hm.err)
        clear hl
        have F16:=hd_ (Fr.call F15.out ho hp)
        have R16:=hd_ (Bl.only R15.out ho n1)
        have E16:=hd_ (Bl.only E15.out ho nY)
        have BV16:=hd_ (Bl.only BV15.out ho nV)
        have BX16:=hd_ (Bl.only BX15.out ho nX)
        have BZ16:=hd_ (Bl.only BZ15.out ho nZ)
        have OA16:=hd_ (zam OA15.out ho (by omega))
        have OL16:=hd_ (zam OL15.out ho (by omega))
        have Ms16:=hd_ (Ms15.out.trans hm)
        have Ls16:Hid (s.i < s16.i):=hd_ (ll_ Ls15.out hm.le)
        clear hm ho hp F15 R15 E15 BV15 BX15 BZ15 OA15 OL15 Ms15 Ls15
        obtain ⟨z0,z1,z2,z3,z4,z5,z6⟩:=BZ16.out.cells7
        obtain ⟨y0,y1,y2,y3,y4,y5,y6⟩:=BZ16.out.free7
        have kz:=BZ16.out.lt
        go_upto_region 34 with fail
        refine zaa (P:=Code.wp _ _ _ _) (F:=fun W=>Fr w b g cap ts s16 W∧Bl W R #[.int .i64 0,.int .i64 0,.int .i64 0,.int .i64 0,.string ⟨#[]⟩,.string ⟨#[]⟩,.slice none 0 0,.int .i64 0,.slice none 0 0,.slice none 0 0,.slice none 0 0,.slice none 0 0,.int .i64 0] 154∧Bl W Y #[.int .i64 3,.int .i64 0,.int .i64 0,.int .i64 0,.string ⟨#[]⟩,.string ⟨#[]⟩,.slice none 0 0,.int .i64 0,.slice (some ⟨G4,0,none⟩) 1 1,.slice fa n fc,.slice none 0 0,.slice none 0 0,.int .i64 tta] 154∧Bl W V #[.slice none 0 0,.slice la m lc,.slice none 0 0] 201∧Bl W X #[.int .i64 opA,.int .i64 kdA,.int .i64 nnA,.string nmA,.string flA,.slice aA lnA cA,.int .i64 taA] 112∧Bl W Z #[.int .i64 opB,.int .i64 kdB,.int .i64 nnB,.string nmB,.string flB,.slice aB lnB cB,.int .i64 taB] 112∧W.ownsRow (Y+1) 201 3 (.slice fa n fc) n cs∧W.ownsRow (V+1) 202 14 (.slice la m lc) m csl)
         ⟨(((((((F16.out.far (by omega) _ _).far (by omega) _ _).far (by omega) _ _).far (by omega) _ _).far (by omega) _ _).far (by omega) _ _).far (by omega) _ _),(((((((R16.out.other (by omega) _ _).other (by omega) _ _).other (by omega) _ _).other (by omega) _ _).other (by omega) _ _).other (by omega) _ _).other (by omega) _ _),(((((((E16.out.other (by omega) _ _).other (by omega) _ _).other (by omega) _ _).other (by omega) _ _).other (by omega) _ _).other (by omega) _ _).other (by omega) _ _),(((((((BV16.out.other (by omega) _ _).other (by omega) _ _).other (by omega) _ _).other (by omega) _ _).other (by omega) _ _).other (by omega) _ _).other (by omega) _ _),(((((((BX16.out.other (by omega) _ _).other (by omega) _ _).other (by omega) _ _).other (by omega) _ _).other (by omega) _ _).other (by omega) _ _).other (by omega) _ _),BZ16.out.set7,(zaj (zaj (zaj (zaj (zaj (zaj (zaj OA16.out HOA.out) HOA.out) HOA.out) HOA.out) HOA.out) HOA.out) HOA.out),(zaj (zaj (zaj (zaj (zaj (zaj (zaj OL16.out HOL.out) HOL.out) HOL.out) HOL.out) HOL.out) HOL.out) HOL.out)⟩ ?_
        clear z0 z1 z2 z3 z4 z5 z6 y0 y1 y2 y3 y4 y5 y6 kz F16 R16 E16 BV16 BX16 BZ16 OA16 OL16
        intro w17 ⟨F17,R17,E17,BV17,BX17,BZ17,OA17,OL17⟩
        have F17:=hd_ F17
        have R17:=hd_ R17
        have E17:=hd_ E17
        have BV17:=hd_ BV17
        have BX17:=hd_ BX17
        have BZ17:=hd_ BZ17
        have OA17:=hd_ OA17
        have OL17:=hd_ OL17
        obtain ⟨x0,x1,x2,x3,x4,x5,x6⟩:=BX17.out.cells7
        have kx:=BX17.out.lt
        obtain ⟨z0,z1,z2,z3,z4,z5,z6⟩:=BZ17.out.cells7
        have kz:=BZ17.out.lt
        have u1:=(BV17.out.cell (o:=1) rfl).1
        have k7:=BV17.out.lt
        go_upto_region 29 with (at_builtin;refine wpList_append_lies _ (by rfl) _ _ _ (by rfl) (V+1) 202 il _ 14 176 Tryz.underlying199 HB.out.1 HB.out.2.1 HB.out.2.2.1 HB.out.2.2.2 rfl (by omega) (.slice la m lc) m csl (by rfl) (zae OL17.out ((Below.refl w17.heap.size w17).alloc nl_ _) nl_) ⟨w17.heap.size,0,none⟩ 1 1 [.int .i64 opA,.int .i64 kdA,.int .i64 nnA,.string nmA,.string flA,.slice aA lnA cA,.int .i64 taA,.int .i64 opB,.int .i64 kdB,.int .i64 nnB,.string nmB,.string flB,.slice aB lnB cB,.int .i64 taB] (by first | rfl | (simp [Act.eval,Act.put];done)) (by rfl) (World.news_of_block (cs:=#[.int .i64 opA,.int .i64 kdA,.int .i64 nnA,.string nmA,.string flA,.slice aA lnA cA,.int .i64 taA,.int .i64 opB,.int .i64 kdB,.int .i64 nnB,.string nmB,.string flB,.slice aB lnB cB,.int .i64 taB]) (t:=202) (fr:=(0,0)) (heap_alloc_new _ _)) (by simp [Value.oneCell']) (by omega) (by simp only [maxLen];omega) (by omega) (by simp;omega) (w17.heap.size+1) (by simp) ?_;intro g9 cp9 w18 hown hgrow hat hlt9;have E18:=hd_ ((E17.out.alloc _).grown hgrow (zaB OL17.out (by omega)));have R18:=hd_ ((R17.out.alloc _).grown hgrow (zaB OL17.out (by omega)));have BV18:=hd_ ((BV17.out.alloc _).grown hgrow (zaB OL17.out (by omega)));have F18:=hd_ ((F17.out.alloc _).grown hgrow (fun k hk=>by have:=(OL17.out.lt k hk).1;omega));have OA18:=hd_ (World.ownsRow.kept (zae OA17.out (br_.alloc nl_ _) nl_) hgrow (zgp HOB.out OL17.out));have OL18:=hd_ hown;have v1:=(BV18.out.cell (o:=1) rfl).1;have f1:=(BV18.out.cell (o:=1) rfl).2;have k7':=BV18.out.lt;clear hown hgrow hat hlt9)
        obtain ⟨cs9,hcs⟩:∃ c,c=csl++[.int .i64 opA,.int .i64 kdA,.int .i64 nnA,.string nmA,.string flA,.slice aA lnA cA,.int .i64 taA,.int .i64 opB,.int .i64 kdB,.int .i64 nnB,.string nmB,.string flB,.slice aB lnB cB,.int .i64 taB]:=⟨_,rfl⟩
        rw [← hcs] at OL18
        clear hcs
        refine zaa (P:=Code.wp _ _ _ _) (F:=fun W=>Fr w b g cap ts s16 W∧Bl W R #[.int .i64 0,.int .i64 0,.int .i64 0,.int .i64 0,.string ⟨#[]⟩,.string ⟨#[]⟩,.slice none 0 0,.int .i64 0,.slice none 0 0,.slice none 0 0,.slice none 0 0,.slice none 0 0,.int .i64 0] 154∧Bl W Y #[.int .i64 3,.int .i64 0,.int .i64 0,.int .i64 0,.string ⟨#[]⟩,.string ⟨#[]⟩,.slice none 0 0,.int .i64 0,.slice (some ⟨G4,0,none⟩) 1 1,.slice fa n fc,.slice none 0 0,.slice none 0 0,.int .i64 tta] 154∧Bl W V #[.slice none 0 0,.slice (some ⟨g9,0,none⟩) (m+1) cp9,.slice none 0 0] 201∧W.ownsRow (Y+1) 201 3 (.slice fa n fc) n cs∧W.ownsRow (V+1) 202 14 (.slice (some ⟨g9,0,none⟩) (m+1) cp9) (m+1) cs9)
         ⟨F18.out.far (by omega) _ _,R18.out.other (by omega) _ _,E18.out.other (by omega) _ _,by simpa using BV18.out.set 1 (.slice (some ⟨g9,0,none⟩) (m+1) cp9),zaj OA18.out HOV.out,zbE OL18.out (Nat.lt_succ_self V)⟩ ?_
        clear x0 x1 x2 x3 x4 x5 x6 kx z0 z1 z2 z3 z4 z5 z6 kz u1 k7 v1 f1 k7' F17 R17 E17 BV17 BX17 BZ17 OA17 OL17 F18 R18 E18 BV18 OA18 OL18
        intro w19 ⟨F19,R19,E19,BV19,OA19,OL19⟩
        have F19:=hd_ F19
        have R19:=hd_ R19
        have E19:=hd_ E19
        have BV19:=hd_ BV19
        have OA19:=hd_ OA19
        have OL19:=hd_ OL19
        go_wp2_with fail
        refine (zaO ⟨#[44]⟩ (Ms16.out.good k HG.out) (by omega) F19.out.par).mono ?_
        rintro e w20 ⟨r,s20,rfl,⟨hm,ht,hf⟩,ho,hp⟩
        clear ht hf
        have HLE:=hd_ (lt_ HLE.out hm.le)
        have HL:=hd_ (HL.out.imp (fun h=>ll_ h hm.le) hm.err)
        have F20:=hd_ (Fr.call F19.out ho hp)
        have R20:=hd_ (Bl.only R19.out ho n1)
        have E20:=hd_ (Bl.only E19.out ho nY)
        have BV20:=hd_ (Bl.only BV19.out ho nV)
        have OA20:=hd_ (zam OA19.out ho (by omega))
        have OL20:=hd_ (zam OL19.out ho (by omega))
        have Ms20:=hd_ (Ms16.out.trans hm)
        have Ls20:Hid (s.i < s20.i):=hd_ (ll_ Ls16.out hm.le)
        clear hm ho hp F19 R19 E19 BV19 OA19 OL19 Ms16 Ls16
        have hfewn:=zat (Ms20.out.good k HG.out) (by omega) F20.out.par
        go_wp2_with fail
        go_roundw
        case rel=>exact RRel.mk ⟨s20,_,_,m+1,_,r,rfl,hd_ (zkY hm0 HLE.out HL.out),hd_ (.inr (HL.out.imp (fun h=>Nat.lt_of_le_of_lt hij h) id)),lt_ hij HLE.out,hd_ (Ms20.out.mono (by omega)),F20,R20,E20,BV20,OA20,OL20⟩
        case measure=>
         have y1:=F20.out.par.pb.cells.2.1
         have y2:=F20.out.par.pb.cells.2.2.1
         have y3:=HMJ.out
         have y4:=HMF.out
         simp only [y1,y2,y3,y4,Option.getD_some,intOf]
         exact zgj HF0.out HL.out HLE.out hfewn
       | false=>
        have HLE:=hd_ (lt_ HLE.out hm.le)
        have HL:=hd_ (HL.out.imp (fun h=>ll_ h hm.le) hm.err)
        have Ms15:=hd_ (Ms12.out.trans hm)
        have Ls15:Hid (s.i < s15.i):=hd_ (ll_ Ls12.out hm.le)
        clear hm ht hf Ms12 Ls12
        obtain ⟨x0,x1,x2,x3,x4,x5,x6⟩:=BX15.out.cells7
        have kx:=BX15.out.lt
        obtain ⟨z0,z1,z2,z3,z4,z5,z6⟩:=BZ15.out.cells7
        have kz:=BZ15.out.lt
        have u1:=(BV15.out.cell (o:=1) rfl).1
        have k7:=BV15.out.lt
        go_upto_region 29 with (at_builtin;refine wpList_append_lies _ (by rfl) _ _ _ (by rfl) (V+1) 202 il _ 14 176 Tryz.underlying199 HB.out.1 HB.out.2.1 HB.out.2.2.1 HB.out.2.2.2 rfl (by omega) (.slice la m lc) m csl (by rfl) (zae OL15.out ((Below.refl w15.heap.size w15).alloc nl_ _) nl_) ⟨w15.heap.size,0,none⟩ 1 1 [.int .i64 opA,.int .i64 kdA,.int .i64 nnA,.string nmA,.string flA,.slice aA lnA cA,.int .i64 taA,.int .i64 opA,.int .i64 kdA,.int .i64 nnA,.string nmA,.string flA,.slice aA lnA cA,.int .i64 taA] (by first | rfl | (simp [Act.eval,Act.put];done)) (by rfl) (World.news_of_block (cs:=#[.int .i64 opA,.int .i64 kdA,.int .i64 nnA,.string nmA,.string flA,.slice aA lnA cA,.int .i64 taA,.int .i64 opA,.int .i64 kdA,.int .i64 nnA,.string nmA,.string flA,.slice aA lnA cA,.int .i64 taA]) (t:=202) (fr:=(0,0)) (heap_alloc_new _ _)) (by simp [Value.oneCell']) (by omega) (by simp only [maxLen];omega) (by omega) (by simp;omega) (w15.heap.size+1) (by simp) ?_;intro g9 cp9 w16 hown hgrow hat hlt9;have E16:=hd_ ((E15.out.alloc _).grown hgrow (zaB OL15.out (by omega)));have R16:=hd_ ((R15.out.alloc _).grown hgrow (zaB OL15.out (by omega)));have BV16:=hd_ ((BV15.out.alloc _).grown hgrow (zaB OL15.out (by omega)));have F16:=hd_ ((F15.out.alloc _).grown hgrow (fun k hk=>by have:=(OL15.out.lt k hk).1;omega));have OA16:=hd_ (World.ownsRow.kept (zae OA15.out (br_.alloc nl_ _) nl_) hgrow (zgp HOB.out OL15.out));have OL16:=hd_ hown;have v1:=(BV16.out.cell (o:=1) rfl).1;have f1:=(BV16.out.cell (o:=1) rfl).2;have k7':=BV16.out.lt;clear hown hgrow hat hlt9)
        obtain ⟨cs9,hcs⟩:∃ c,c=csl++[.int .i64 opA,.int .i64 kdA,.int .i64 nnA,.string nmA,.string flA,.slice aA lnA cA,.int .i64 taA,.int .i64 opA,.int .i64 kdA,.int .i64 nnA,.string nmA,.string flA,.slice aA lnA cA,.int .i64 taA]:=⟨_,rfl⟩
        rw [← hcs] at OL16
        clear hcs
        refine zaa (P:=Code.wp _ _ _ _) (F:=fun W=>Fr w b g cap ts s15 W∧Bl W R #[.int .i64 0,.int .i64 0,.int .i64 0,.int .i64 0,.string ⟨#[]⟩,.string ⟨#[]⟩,.slice none 0 0,.int .i64 0,.slice none 0 0,.slice none 0 0,.slice none 0 0,.slice none 0 0,.int .i64 0] 154∧Bl W Y #[.int .i64 3,.int .i64 0,.int .i64 0,.int .i64 0,.string ⟨#[]⟩,.string ⟨#[]⟩,.slice none 0 0,.int .i64 0,.slice (some ⟨G4,0,none⟩) 1 1,.slice fa n fc,.slice none 0 0,.slice none 0 0,.int .i64 tta] 154∧Bl W V #[.slice none 0 0,.slice (some ⟨g9,0,none⟩) (m+1) cp9,.slice none 0 0] 201∧W.ownsRow (Y+1) 201 3 (.slice fa n fc) n cs∧W.ownsRow (V+1) 202 14 (.slice (some ⟨g9,0,none⟩) (m+1) cp9) (m+1) cs9)
         ⟨F16.out.far (by omega) _ _,R16.out.other (by omega) _ _,E16.out.other (by omega) _ _,by simpa using BV16.out.set 1 (.slice (some ⟨g9,0,none⟩) (m+1) cp9),zaj OA16.out HOV.out,zbE OL16.out (Nat.lt_succ_self V)⟩ ?_
        clear x0 x1 x2 x3 x4 x5 x6 kx z0 z1 z2 z3 z4 z5 z6 kz u1 k7 v1 f1 k7' F15 R15 E15 BV15 BX15 BZ15 OA15 OL15 F16 R16 E16 BV16 OA16 OL16
        intro w17 ⟨F17,R17,E17,BV17,OA17,OL17⟩
        have F17:=hd_ F17
        have R17:=hd_ R17
        have E17:=hd_ E17
        have BV17:=hd_ BV17
        have OA17:=hd_ OA17
        have OL17:=hd_ OL17
        go_wp2_with fail
        refine (zaO ⟨#[44]⟩ (Ms15.out.good k HG.out) (by omega) F17.out.par).mono ?_
        rintro e w18 ⟨r,s18,rfl,⟨hm,ht,hf⟩,ho,hp⟩
        clear ht hf
        have HLE:=hd_ (lt_ HLE.out hm.le)
        have HL:=hd_ (HL.out.imp (fun h=>ll_ h hm.le) hm.err)
        have F18:=hd_ (Fr.call F17.out ho hp)
        have R18:=hd_ (Bl.only R17.out ho n1)
        have E18:=hd_ (Bl.only E17.out ho nY)
        have BV18:=hd_ (Bl.only BV17.out ho nV)
        have OA18:=hd_ (zam OA17.out ho (by omega))
        have OL18:=hd_ (zam OL17.out ho (by omega))
        have Ms18:=hd_ (Ms15.out.trans hm)
        have Ls18:Hid (s.i < s18.i):=hd_ (ll_ Ls15.out hm.le)
        clear hm ho hp F17 R17 E17 BV17 OA17 OL17 Ms15 Ls15
        have hfewn:=zat (Ms18.out.good k HG.out) (by omega) F18.out.par
        go_wp2_with fail
        go_roundw
        case rel=>exact RRel.mk ⟨s18,_,_,m+1,_,r,rfl,hd_ (zkY hm0 HLE.out HL.out),hd_ (.inr (HL.out.imp (fun h=>Nat.lt_of_le_of_lt hij h) id)),lt_ hij HLE.out,hd_ (Ms18.out.mono (by omega)),F18,R18,E18,BV18,OA18,OL18⟩
        case measure=>
         have y1:=F18.out.par.pb.cells.2.1
         have y2:=F18.out.par.pb.cells.2.2.1
         have y3:=HMJ.out
         have y4:=HMF.out
         simp only [y1,y2,y3,y4,Option.getD_some,intOf]
         exact zgj HF0.out HL.out HLE.out hfewn
      | false=>
       have HQ:Hid (si.i < sj.i∨sj.err≠0):=hd_ (by
        rcases HER.out.2 rfl with h | h
        ·rcases HPP.out with h2 | h2
         ·rw [h] at h2;cases h2
         ·exact h2
        ·exact .inr h)
       have HLE:=hd_ hij
       clear HER HPP HMM OL11
       go_wp2_with fail
       refine (zan ⟨#[58]⟩ (Msj.out.good k HG.out) (by omega) F11.out.par).mono ?_
       rintro e w12 ⟨_,s12,rfl,rfl,hm,ho,hp⟩
       have HLE:=hd_ (lt_ HLE.out hm.le)
       have HQ:=hd_ (HQ.out.imp (fun h=>ll_ h hm.le) hm.err)
       have F12:=hd_ (Fr.call F11.out ho hp)
       have R12:=hd_ (Bl.only R11.out ho n1)
       have E12:=hd_ (Bl.only E11.out ho nY)
       have BV12:=hd_ (Bl.only BV11.out ho nV)
       have OA12:=hd_ (zam OA11.out ho (by omega))
       have Ms12:=hd_ (Msj.out.trans hm)
       have Ls12:Hid (s.i < s12.i):=hd_ (ll_ Lsj.out hm.le)
       clear hm ho hp F11 R11 E11 BV11 OA11 Msj Lsj
       go_wp2_with fail
       refine (HSS.out _ _ _ _ _ _ (Ms12.out.good k HG.out) (by omega) w12 F12.out.par).mono ?_
       rintro e w13 ⟨v,s13,rfl,⟨ba,bn,bc,rfl⟩,hm,ho,hp⟩
       have HLE:=hd_ (lt_ HLE.out hm.le)
       have HQ:=hd_ (HQ.out.imp (fun h=>ll_ h hm.le) hm.err)
       have F13:=hd_ (Fr.call F12.out ho hp)
       have R13:=hd_ (Bl.only R12.out ho n1)
       have E13:=hd_ (Bl.only E12.out ho nY)
       have BV13:=hd_ (Bl.only BV12.out ho nV)
       have OA13:=hd_ (zam OA12.out ho (by omega))
       have Ms13:=hd_ (Ms12.out.trans hm)
       have Ls13:Hid (s.i < s13.i):=hd_ (ll_ Ls12.out hm.le)
       clear hm ho hp F12 R12 E12 BV12 OA12 Ms12 Ls12
       have u2:=(BV13.out.cell (o:=2) rfl).1
       have f2:=(BV13.out.cell (o:=2) rfl).2
       have k7:=BV13.out.lt
       go_upto_region 37 with fail
       refine zaa (P:=Code.wp _ _ _ _) (F:=fun W=>Fr w b g cap ts s13 W∧Bl W R #[.int .i64 0,.int .i64 0,.int .i64 0,.int .i64 0,.string ⟨#[]⟩,.string ⟨#[]⟩,.slice none 0 0,.int .i64 0,.slice none 0 0,.slice none 0 0,.slice none 0 0,.slice none 0 0,.int .i64 0] 154∧Bl W Y #[.int .i64 3,.int .i64 0,.int .i64 0,.int .i64 0,.string ⟨#[]⟩,.string ⟨#[]⟩,.slice none 0 0,.int .i64 0,.slice (some ⟨G4,0,none⟩) 1 1,.slice fa n fc,.slice none 0 0,.slice none 0 0,.int .i64 tta] 154∧Bl W V #[.slice none 0 0,.slice la m lc,.slice ba bn bc] 201∧W.ownsRow (Y+1) 201 3 (.slice fa n fc) n cs)
        ⟨F13.out.far (by omega) _ _,R13.out.other (by omega) _ _,E13.out.other (by omega) _ _,by simpa using BV13.out.set 2 (.slice ba bn bc),zaj OA13.out HOV.out⟩ ?_
       clear u2 f2 k7 F13 R13 E13 BV13 OA13
       intro w14 ⟨F14,R14,E14,BV14,OA14⟩
       have F14:=hd_ F14
       have R14:=hd_ R14
       have E14:=hd_ E14
       have BV14:=hd_ BV14
       have OA14:=hd_ OA14
       have u0:=(BV14.out.cell (o:=0) rfl).1
       have u1:=(BV14.out.cell (o:=1) rfl).1
       have u2:=(BV14.out.cell (o:=2) rfl).1
       have k7:=BV14.out.lt
       have o5:=E14.out.cells13.2.2.2.2.2.2.2.2.2.1
       have k3:=E14.out.lt
       go_upto_region 25 with (at_builtin;refine wpList_append_lies _ (by rfl) _ _ _ (by rfl) (Y+1) 201 ia _ 3 72 Tryz.underlying152 HA.out.1 HA.out.2.1 HA.out.2.2.1 HA.out.2.2.2 rfl (by omega) (.slice fa n fc) n cs (by rfl) (zae OA14.out ((Below.refl w14.heap.size w14).alloc nl_ _) nl_) ⟨w14.heap.size,0,none⟩ 1 1 [.slice none 0 0,.slice la m lc,.slice ba bn bc] (by first | rfl | (simp [Act.eval,Act.put];done)) (by rfl) (World.news_of_block (cs:=#[.slice none 0 0,.slice la m lc,.slice ba bn bc]) (t:=201) (fr:=(0,0)) (heap_alloc_new _ _)) (by simp [Value.oneCell']) (by omega) (by simp only [maxLen];omega) (by omega) (by simp;omega) (w14.heap.size+1) (by simp) ?_;intro g9 cp9 w15 hown hgrow hat hlt9;have E15:=hd_ ((E14.out.alloc _).grown hgrow (zaB OA14.out (by omega)));have R15:=hd_ ((R14.out.alloc _).grown hgrow (zaB OA14.out (by omega)));have F15:=hd_ ((F14.out.alloc _).grown hgrow (fun k hk=>by have:=(OA14.out.lt k hk).1;omega));have OA15:=hd_ hown;have o2:=E15.out.cells13.2.2.2.2.2.2.2.2.2.1;have f2:=E15.out.free13.2.2.2.2.2.2.2.2.2.1;have k5':=E15.out.lt;clear hown hgrow hat hlt9)
       obtain ⟨cs9,hcs⟩:∃ c,c=cs++[.slice none 0 0,.slice la m lc,.slice ba bn bc]:=⟨_,rfl⟩
       rw [← hcs] at OA15
       clear hcs
       refine zaa (P:=Code.wp _ _ _ _) (F:=fun W=>Fr w b g cap ts s13 W∧Bl W R #[.int .i64 0,.int .i64 0,.int .i64 0,.int .i64 0,.string ⟨#[]⟩,.string ⟨#[]⟩,.slice none 0 0,.int .i64 0,.slice none 0 0,.slice none 0 0,.slice none 0 0,.slice none 0 0,.int .i64 0] 154∧Bl W Y #[.int .i64 3,.int .i64 0,.int .i64 0,.int .i64 0,.string ⟨#[]⟩,.string ⟨#[]⟩,.slice none 0 0,.int .i64 0,.slice (some ⟨G4,0,none⟩) 1 1,.slice (some ⟨g9,0,none⟩) (n+1) cp9,.slice none 0 0,.slice none 0 0,.int .i64 tta] 154∧W.ownsRow (Y+1) 201 3 (.slice (some ⟨g9,0,none⟩) (n+1) cp9) (n+1) cs9)
        ⟨F15.out.far lY _ _,R15.out.other nR _ _,by simpa using E15.out.set 9 (.slice (some ⟨g9,0,none⟩) (n+1) cp9),zbE OA15.out (Nat.lt_succ_self Y)⟩ ?_
       clear u0 u1 u2 k7 o5 k3 o2 f2 k5' F14 R14 E14 BV14 OA14 F15 R15 E15 OA15
       intro w16 ⟨F16,R16,E16,OA16⟩
       have F16:=hd_ F16
       have R16:=hd_ R16
       have E16:=hd_ E16
       have OA16:=hd_ OA16
       have hfewn:=zat (Ms13.out.good k HG.out) (by omega) F16.out.par
       go_wp2_with fail
       go_roundw
       case rel=>exact RRel.mk ⟨s13,_,_,n+1,_,false,rfl,hd_ (zkY HNZ HLE.out HQ.out),Ls13.out,hd_ (Ms13.out.mono (by omega)),F16,R16,E16,OA16⟩
       case measure=>
        have y1:=F16.out.par.pb.cells.2.1
        have y2:=F16.out.par.pb.cells.2.2.1
        have y3:=HMI.out
        have y4:=HME.out
        simp only [y1,y2,y3,y4,Option.getD_some,intOf]
        exact zgj HE0.out HQ.out HLE.out hfewn
   | false=>
    go_wp2_with fail
    refine (zaO ⟨#[69,76,83,69]⟩ (Msi.out.good k HG.out) (by omega) F8.out.par).mono ?_
    rintro e w9 ⟨r,s9,rfl,⟨hm,ht,hf⟩,ho,hp⟩
    have F9:=hd_ (Fr.call F8.out ho hp)
    have R9:=hd_ (Bl.only R8.out ho n1)
    have E9:=hd_ (Bl.only E8.out ho nY)
    have OA9:=hd_ (zam OA8.out ho (by omega))
    clear ho hp F8 R8 E8 OA8
    cases r with
    | true=>
     have Ms9:=hd_ (Msi.out.trans hm)
     have Ls9:Hid (s.i < s9.i):=hd_ (ll_ Lsi.out hm.le)
     have Ms9:=hd_ (Ms9.out.zero (ht rfl).2.1)
     clear hm ht hf Msi Lsi
     go_upto_region 39 with fail
     go_cut [] from 147 to 156 (fun wx=>∃ (s8:PS) (ya:Option Addr) (yc:Nat) (cs8:List Value),(Mv ts (cst (deep+1)) s9 s8∧s9.i≤s8.i)∧Fr w b g cap ts s8 wx∧Bl wx R #[.int .i64 0,.int .i64 0,.int .i64 0,.int .i64 0,.string ⟨#[]⟩,.string ⟨#[]⟩,.slice none 0 0,.int .i64 0,.slice none 0 0,.slice none 0 0,.slice none 0 0,.slice none 0 0,.int .i64 0] 154∧Bl wx Y #[.int .i64 3,.int .i64 0,.int .i64 0,.int .i64 0,.string ⟨#[]⟩,.string ⟨#[]⟩,.slice none 0 0,.int .i64 0,.slice (some ⟨G4,0,none⟩) 1 1,.slice ya (n+1) yc,.slice none 0 0,.slice none 0 0,.int .i64 tta] 154∧wx.ownsRow (Y+1) 201 3 (.slice ya (n+1) yc) (n+1) cs8)
     case first=>
      have o5:=E9.out.cells13.2.2.2.2.2.2.2.2.2.1
      have k3:=E9.out.lt
      go_region_law (first
       | (go_simp;go_at_call 55;refine (HSS.out _ _ _ _ _ _ (Ms9.out.good k HG.out) (by omega) _ (by first | exact F9.out.drew.par | exact (F9.out.drew.alloc _).par)).mono ?_;rintro e w10 ⟨v,s8,rfl,⟨ba,bn,bc,rfl⟩,hm,ho,hp⟩;have F10:Hid (Fr w b g cap ts s8 w10):=hd_ (Fr.call (s:=s9) (by first | exact F9.out.drew | exact F9.out.drew.alloc _) ho hp);have R10:Hid (Bl w10 R #[.int .i64 0,.int .i64 0,.int .i64 0,.int .i64 0,.string ⟨#[]⟩,.string ⟨#[]⟩,.slice none 0 0,.int .i64 0,.slice none 0 0,.slice none 0 0,.slice none 0 0,.slice none 0 0,.int .i64 0] 154):=hd_ (Bl.only (by first | exact R9.out.drew | exact R9.out.drew.alloc _) ho n1);have E10:Hid (Bl w10 Y #[.int .i64 3,.int .i64 0,.int .i64 0,.int .i64 0,.string ⟨#[]⟩,.string ⟨#[]⟩,.slice none 0 0,.int .i64 0,.slice (some ⟨G4,0,none⟩) 1 1,.slice fa n fc,.slice none 0 0,.slice none 0 0,.int .i64 tta] 154):=hd_ (Bl.only (by first | exact E9.out.drew | exact E9.out.drew.alloc _) ho nY);have OA10:Hid (w10.ownsRow (Y+1) 201 3 (.slice fa n fc) n cs):=hd_ (zam (by first | exact zae OA9.out br_.drew nl_ | exact zae (zae OA9.out br_.drew nl_) (br_.alloc nl_ _) nl_) ho (by omega));have M8:=hd_ hm;have hz8:=(E10.out.lt);have o1:=E10.out.cells13.2.2.2.2.2.2.2.2.2.1;clear hm ho hp)
       | (refine step_append_lies _ (by rfl) _ _ _ (by rfl) ((Y+1)) 201 ia _ 3 72 Tryz.underlying152 HA.out.1 HA.out.2.1 HA.out.2.2.1 HA.out.2.2.2 rfl (by omega) (.slice fa n fc) n cs (by rfl) (zae OA10.out ((Below.refl w10.heap.size w10).alloc nl_ _) nl_) ⟨w10.heap.size,0,none⟩ 1 1 [.slice none 0 0,.slice none 0 0,.slice ba bn bc] (by first | rfl | (simp [Act.eval,Act.put];done)) (by rfl) (World.news_of_block (cs:=#[.slice none 0 0,.slice none 0 0,.slice ba bn bc]) (t:=201) (fr:=(0,0)) (by first | exact heap_alloc_new _ _ | exact zaS _ _ _)) (by simp [Value.oneCell']) (by omega) (by simp only [maxLen];omega) (by omega) (by simp;omega) (w10.heap.size+1) (by simp) ?_;intro g9 cp9 w11 hown hgrow hat hlt9;have E11:=hd_ ((E10.out.alloc _).grown hgrow (zaB OA10.out (by omega)));have R11:=hd_ ((R10.out.alloc _).grown hgrow (zaB OA10.out (by omega)));have F11:=hd_ ((F10.out.alloc _).grown hgrow (fun k hk=>by have:=(OA10.out.lt k hk).1;omega));have OA11:=hd_ hown;have o2:=E11.out.cells13.2.2.2.2.2.2.2.2.2.1;have f2:=E11.out.free13.2.2.2.2.2.2.2.2.2.1;have k5':=E11.out.lt;clear hown hgrow hlt9))
      all_goals
       go_wp2_with fail
       go_meet
       exact ⟨s8,some ⟨g9,0,none⟩,cp9,_,⟨M8.out,M8.out.le⟩,F11.out.far lY _ _,R11.out.other nR _ _,by simpa using E11.out.set 9 (.slice (some ⟨g9,0,none⟩) (n+1) cp9),zbE OA11.out (Nat.lt_succ_self Y)⟩
     case rest=>
      obtain ⟨s10,ya10,yc10,cz10,⟨hm,hl⟩,hF,hR,hE,hOA⟩:=hcut
      obtain ⟨w10,hwc⟩:∃ x,wc=x:=⟨_,rfl⟩
      rw [hwc] at hF hR hE hOA ⊢
      clear hwc
      have F10:=hd_ hF
      have R10:=hd_ hR
      have E10:=hd_ hE
      have OA10:=hd_ hOA
      have Ms10:=hd_ (Ms9.out.trans hm)
      have Ls10:Hid (s.i < s10.i):=hd_ (ll_ Ls9.out hl)
      have LE10:Hid (s9.i≤s10.i):=hd_ hl
      clear hm hl hF hR hE hOA F9 R9 E9 OA9 Ms9 Ls9
      clear OA10
      go_wp2_with fail
      refine (zan ⟨#[69,78,68,95,67,65,83,69]⟩ (Ms10.out.good k HG.out) (by omega) F10.out.par).mono ?_
      rintro e w11 ⟨_,s11,rfl,rfl,hm,ho,hp⟩
      have F11:=hd_ (Fr.call F10.out ho hp)
      have R11:=hd_ (Bl.only R10.out ho n1)
      have E11:=hd_ (Bl.only E10.out ho nY)
      have Ms11:=hd_ (Ms10.out.trans hm)
      have Ls11:Hid (s.i < s11.i):=hd_ (ll_ Ls10.out hm.le)
      clear hm ho hp F10 R10 E10 Ms10 Ls10
      go_wp2_with fail
      refine (zan ⟨#[59]⟩ (Ms11.out.good k HG.out) (by omega) F11.out.par).mono ?_
      rintro e w12 ⟨_,s12,rfl,rfl,hm,ho,hp⟩
      have F12:=hd_ (Fr.call F11.out ho hp)
      have R12:=hd_ (Bl.only R11.out ho n1)
      have E12:=hd_ (Bl.only E11.out ho nY)
      have Ms12:=hd_ (Ms11.out.trans hm)
      have Ls12:Hid (s.i < s12.i):=hd_ (ll_ Ls11.out hm.le)
      clear hm ho hp F11 R11 E11 Ms11 Ls11
      obtain ⟨q0,q1,q2,q3,q4,q5,q6,q7,q8,q9,q10,q11,q12⟩:=E12.out.cells13
      have k3:=E12.out.lt
      obtain ⟨r0,r1,r2,r3,r4,r5,r6,r7,r8,r9,r10,r11,r12⟩:=R12.out.cells13
      obtain ⟨g0,g1,g2,g3,g4,g5,g6,g7,g8,g9,g10,g11,g12⟩:=R12.out.free13
      have k2:=R12.out.lt
      go_wp2_with fail
      refine zaa (P:=bodyPost _ _ _ _ _) (F:=fun W=>Fr w b g cap ts s12 W∧Bl W R #[.int .i64 3,.int .i64 0,.int .i64 0,.int .i64 0,.string ⟨#[]⟩,.string ⟨#[]⟩,.slice none 0 0,.int .i64 0,.slice (some ⟨G4,0,none⟩) 1 1,.slice ya10 (n+1) yc10,.slice none 0 0,.slice none 0 0,.int .i64 tta] 154)
       ⟨(((((((((((((F12.out.far lR _ _).far lR _ _).far lR _ _).far lR _ _).far lR _ _).far lR _ _).far lR _ _).far lR _ _).far lR _ _).far lR _ _).far lR _ _).far lR _ _).far lR _ _),R12.out.set13⟩ ?_
      clear q0 q1 q2 q3 q4 q5 q6 q7 q8 q9 q10 q11 q12 k3 r0 r1 r2 r3 r4 r5 r6 r7 r8 r9 r10 r11 r12 g0 g1 g2 g3 g4 g5 g6 g7 g8 g9 g10 g11 g12 k2
      intro wz ⟨FZ,RZ⟩
      obtain ⟨r0,r1,r2,r3,r4,r5,r6,r7,r8,r9,r10,r11,r12⟩:=RZ.cells13
      refine bodyPost_ret (v:=.agg #[.int .i64 3,.int .i64 0,.int .i64 0,.int .i64 0,.string ⟨#[]⟩,.string ⟨#[]⟩,.slice none 0 0,.int .i64 0,.slice (some ⟨G4,0,none⟩) 1 1,.slice ya10 (n+1) yc10,.slice none 0 0,.slice none 0 0,.int .i64 tta]) (by simp [results,Tryz.results87,go_sem, *]) rfl ?_
      exact ⟨_,_,rfl,⟨_,_,_,_,_,_,_,_,_,_,_,_,_,_,_,_,_,_,_,_,_,_,_,rfl⟩,⟨Ms12.out.mono (by have:=HCD.out;omega),Ls12.out⟩,FZ.only,FZ.par⟩
    | false=>
     obtain rfl:=hf rfl
     clear hm ht hf
     clear OA9
     go_wp2_with fail
     refine (zan ⟨#[69,78,68,95,67,65,83,69]⟩ (Msi.out.good k HG.out) (by omega) F9.out.par).mono ?_
     rintro e w10 ⟨_,s10,rfl,rfl,hm,ho,hp⟩
     have F10:=hd_ (Fr.call F9.out ho hp)
     have R10:=hd_ (Bl.only R9.out ho n1)
     have E10:=hd_ (Bl.only E9.out ho nY)
     have Ms10:=hd_ (Msi.out.trans hm)
     have Ls10:Hid (s.i < s10.i):=hd_ (ll_ Lsi.out hm.le)
     clear hm ho hp F9 R9 E9 Msi Lsi
     go_wp2_with fail
     refine (zan ⟨#[59]⟩ (Ms10.out.good k HG.out) (by omega) F10.out.par).mono ?_
     rintro e w11 ⟨_,s11,rfl,rfl,hm,ho,hp⟩
     have F11:=hd_ (Fr.call F10.out ho hp)
     have R11:=hd_ (Bl.only R10.out ho n1)
     have E11:=hd_ (Bl.only E10.out ho nY)
     have Ms11:=hd_ (Ms10.out.trans hm)
     have Ls11:Hid (s.i < s11.i):=hd_ (ll_ Ls10.out hm.le)
     clear hm ho hp F10 R10 E10 Ms10 Ls10
     obtain ⟨q0,q1,q2,q3,q4,q5,q6,q7,q8,q9,q10,q11,q12⟩:=E11.out.cells13
     have k3:=E11.out.lt
     obtain ⟨r0,r1,r2,r3,r4,r5,r6,r7,r8,r9,r10,r11,r12⟩:=R11.out.cells13
     obtain ⟨g0,g1,g2,g3,g4,g5,g6,g7,g8,g9,g10,g11,g12⟩:=R11.out.free13
     have k2:=R11.out.lt
     go_wp2_with fail
     refine zaa (P:=bodyPost _ _ _ _ _) (F:=fun W=>Fr w b g cap ts s11 W∧Bl W R #[.int .i64 3,.int .i64 0,.int .i64 0,.int .i64 0,.string ⟨#[]⟩,.string ⟨#[]⟩,.slice none 0 0,.int .i64 0,.slice (some ⟨G4,0,none⟩) 1 1,.slice fa n fc,.slice none 0 0,.slice none 0 0,.int .i64 tta] 154)
      ⟨(((((((((((((F11.out.far lR _ _).far lR _ _).far lR _ _).far lR _ _).far lR _ _).far lR _ _).far lR _ _).far lR _ _).far lR _ _).far lR _ _).far lR _ _).far lR _ _).far lR _ _),R11.out.set13⟩ ?_
     clear q0 q1 q2 q3 q4 q5 q6 q7 q8 q9 q10 q11 q12 k3 r0 r1 r2 r3 r4 r5 r6 r7 r8 r9 r10 r11 r12 g0 g1 g2 g3 g4 g5 g6 g7 g8 g9 g10 g11 g12 k2
     intro wz ⟨FZ,RZ⟩
     obtain ⟨r0,r1,r2,r3,r4,r5,r6,r7,r8,r9,r10,r11,r12⟩:=RZ.cells13
     refine bodyPost_ret (v:=.agg #[.int .i64 3,.int .i64 0,.int .i64 0,.int .i64 0,.string ⟨#[]⟩,.string ⟨#[]⟩,.slice none 0 0,.int .i64 0,.slice (some ⟨G4,0,none⟩) 1 1,.slice fa n fc,.slice none 0 0,.slice none 0 0,.int .i64 tta]) (by simp [results,Tryz.results87,go_sem, *]) rfl ?_
     exact ⟨_,_,rfl,⟨_,_,_,_,_,_,_,_,_,_,_,_,_,_,_,_,_,_,_,_,_,_,_,rfl⟩,⟨Ms11.out.mono (by have:=HCD.out;omega),Ls11.out⟩,FZ.only,FZ.par⟩
theorem zli {deep:Int} (h1:1≤deep) (h9:deep≤32) (hS:zdj (deep+1)):zmW deep:=by
 intro b g cap k ts s hg hk htok w hx
 by_cases h2:(T ts s).tok=2
 ·exact zgx h1 h9 hS b g cap k ts s hg hk htok (.inl h2) w hx
 by_cases hI:wOf (T ts s)=[73,70]
 ·exact zj0 h1 h9 hS b g cap k ts s hg hk htok ⟨h2,hI⟩ w hx
 by_cases hC:wOf (T ts s)=[67,65,83,69]
 ·exact zjY h1 h9 hS b g cap k ts s hg hk htok ⟨h2,hC⟩ w hx
 by_cases hF:wOf (T ts s)=[70,79,82]
 ·exact zjZ h1 h9 hS b g cap k ts s hg hk htok ⟨h2,hF⟩ w hx
 ·exact zgx h1 h9 hS b g cap k ts s hg hk htok (.inr ⟨by simp [hI],by simp [hC],by simp [hF]⟩) w hx
theorem zep:∀ (n:Nat) (deep:Int),1≤deep→deep+n=33→zdj deep
 | 0,_,h1,h2=>zgw h1 fun h3=>absurd h2 (by omega)
 | n+1,deep,h1,h2=>zgw h1 fun h3=>zli h1 h3 (zep n (deep+1) (by omega) (by omega))
theorem znB:zdj 1:=zep 32 1 (by decide) (by decide)
end Go.Proofs.YtdpkjpjkdmkkpaaGreatDoor
