/- The reference's Instruction List, weakly: line, operand (package rungref14). -/
import Derived.Test.YtdpkjpjkdmkkpaaGreatDoorQE
set_option maxRecDepth 100000
set_option maxHeartbeats 16000000
namespace Go.Proofs.YtdpkjpjkdmkkpaaGreatDoor
open Go.RowKit Lx Pa
theorem zfD {b g cap k:Nat} {ts:List Tok} {s:PS} (hg:Pa.Good ts k s) (hk:k≤49000) (w:World) (hx:Par w b g cap ts s) :
  Calls Tryz.prog 48 #[.pointer (some ⟨b,0,none⟩)] w fun e w'=>∃ s',e=.returned (.tuple #[])∧(Mv ts 0 s s'∧(s.i < s'.i∨s'.err≠0))∧Only b w w'∧Par w' b g cap ts s':=by
 have F0:=hd_ (Fr.start hx)
 have HG:=hd_ hg
 have hf0:=zaV
 have hf4:=zbc
 have HEN:=hd_ hx.ends
 have hfew:=zat hg (by omega) hx
 have d2:=hx.pb.cells.2.2.1
 have k1:=hx.pb.lt
 clear hx hg
 by_cases he:s.err=0
 ·rw [he] at d2
  clear he
  go_enter Tryz.func48,Tryz.ntmps48
  go_wp2_with fail
  refine (zcb HG.out F0.out.par).mono ?_
  rintro e w1 ⟨tk,tkd,tnn,tx,tta,rfl,ht,hb⟩
  have F1:=hd_ (F0.out.below hb)
  have HT:=hd_ ht
  clear hb ht d2 k1 F0
  by_cases htk:tk=7
  ·subst htk
   obtain ⟨-,d1,-,-,f1,-,-⟩:=F1.out.par.pb.cells
   have k1:=F1.out.par.pb.lt
   have iw:IntKind.i64.wrap ((s.i:Int)+1)=(s.i:Int)+1:=IntWalk.i64_in _ (by omega)
   go_wp2_with fail
   have F2:=hd_ (F1.out.up1 (s':=up s) rfl (i':=(s.i:Int)+1) (by simp))
   go_end0
   exact ⟨up s,rfl,⟨Mv.up HEN.out (by rw [HT.out];simp),.inl (by show s.i < s.i+1;omega)⟩,F2.out.only,F2.out.par⟩
  ·have ht1:(tk==7)=false:=by simpa using htk
   have ht2:(tk != 7)=true:=by simpa using htk
   clear htk
   go_wp2_with fail
   refine (zcb HG.out F1.out.par).mono ?_
   rintro e w2 ⟨tk2,tkd2,tnn2,tx2,tta2,rfl,_,hb⟩
   have F2:=hd_ (F1.out.below hb)
   clear hb F1
   go_wp2_with fail
   refine (zb7 (a:=tta2) (e:=130) (by decide) F2.out.par).mono ?_
   rintro e w3 ⟨s3,rfl,⟨hm,h3⟩,ho,hp⟩
   have F3:=hd_ (F2.out.call ho hp)
   have H3:=hd_ (And.intro hm h3)
   clear hm h3 ho hp
   go_wp2_with fail
   refine bodyPost_ret (v:=.tuple #[]) (by simp [results,Tryz.results48,go_sem]) rfl ?_
   exact ⟨s3,rfl,⟨H3.out.1,.inr H3.out.2⟩,F3.out.only,F3.out.par⟩
 ·have h8:(s.err != 0)=true:=by simpa using he
  have HE:=hd_ he
  clear he
  go_enter Tryz.func48,Tryz.ntmps48
  go_wp2_with fail
  refine bodyPost_ret (v:=.tuple #[]) (by simp [results,Tryz.results48,go_sem]) rfl ?_
  exact ⟨s,rfl,⟨Mv.refl ts s,.inr HE.out⟩,F0.out.only,F0.out.par⟩
theorem zhu {w0 W0:World} {b g cap k X:Nat} {ts:List Tok} {s:PS} {lab op:ByteArray} {ea ga:Option Addr} {en ec gn gc:Nat} {ta:Int} (hg:Pa.Good ts k s) (hk:k≤40000) (hop:op.size≤1000000) (hX:w0.heap.size≤X) (hXb:X≠b)
  {Yb:Nat} {yvs:Array Value} {yT:TypeId} (hYb:Yb≠b) (hYX:Yb≠X) (hY:Bl W0 Yb yvs yT)
  (hF:Fr w0 b g cap ts s W0) (hB:Bl W0 X #[.string lab,.string op,.slice ea en ec,.slice ga gn gc,.int .i64 ta] 102) :
  Calls Tryz.prog 86 #[.pointer (some ⟨b,0,none⟩),.pointer (some ⟨X,0,none⟩)] W0 fun e W'=>∃ s' op' ea' en' ec' ga' gn' gc',e=.returned (.tuple #[])∧Mv ts 12 s s'∧Fr w0 b g cap ts s' W'∧Bl W' X #[.string lab,.string op',.slice ea' en' ec',.slice ga' gn' gc',.int .i64 ta] 102∧Bl W' Yb yvs yT:=by
 obtain ⟨w0',hw0⟩:∃ x,W0=x:=⟨_,rfl⟩
 rw [hw0] at hF hB hY ⊢
 clear hw0
 have F0:=hd_ hF
 have B0:=hd_ hB
 have Y0:=hd_ hY
 have HG:=hd_ hg
 have Ms:Hid (Mv ts 0 s s):=hd_ (Mv.refl ts s)
 have hf0:=zaV
 have hfew:=zat hg (by omega) hF.par
 clear hF hB hg hY
 go_enter Tryz.func86,Tryz.ntmps86
 have u1:=(B0.out.cell (o:=1) rfl).1
 have k7:=B0.out.lt
 go_upto_region 0 with fail
 obtain ⟨c4_0,hc4_0⟩:∃ x,(op.toList==[74,77,80])=x:=⟨_,rfl⟩
 obtain ⟨c4_1,hc4_1⟩:∃ x,(op.toList==[74,77,80,67])=x:=⟨_,rfl⟩
 obtain ⟨c4_2,hc4_2⟩:∃ x,(op.toList==[74,77,80,67,78])=x:=⟨_,rfl⟩
 go_cut [4] from 9 to 27 (fun v wx=>∃ r:Bool,v=.bool r∧wx=w0')
 case first=>
  cases c4_0
  all_goals cases c4_1
  all_goals cases c4_2
  all_goals
   go_wp2_with fail
   go_meet
   exact ⟨_,rfl,rfl⟩
 case rest=>
  obtain ⟨jm,rfl,hwc⟩:=hcut
  rw [hwc]
  clear hwc
  clear hc4_0 hc4_1 hc4_2
  go_upto_region 1 with fail
  obtain ⟨c5_0,hc5_0⟩:∃ x,(op.toList==[67,65,76])=x:=⟨_,rfl⟩
  obtain ⟨c5_1,hc5_1⟩:∃ x,(op.toList==[67,65,76,67])=x:=⟨_,rfl⟩
  obtain ⟨c5_2,hc5_2⟩:∃ x,(op.toList==[67,65,76,67,78])=x:=⟨_,rfl⟩
  go_cut [5] from 28 to 46 (fun v wx=>∃ r:Bool,v=.bool r∧wx=w0')
  case first=>
   cases c5_0
   all_goals cases c5_1
   all_goals cases c5_2
   all_goals
    go_wp2_with fail
    go_meet
    exact ⟨_,rfl,rfl⟩
  case rest=>
   obtain ⟨cl,rfl,hwc⟩:=hcut
   rw [hwc]
   clear hwc
   clear hc5_0 hc5_1 hc5_2 u1 k7
   go_wp2_with fail
   refine (zcb (Ms.out.good _ HG.out) F0.out.par).mono ?_
   rintro e w1 ⟨tk,tkd,tnn,tx,tta,rfl,_,hb⟩
   have F1:=hd_ (F0.out.below hb)
   have B1:=hd_ (B0.out.below hb)
   have Y1:=hd_ (Y0.out.below hb)
   clear hb F0 B0 Y0
   obtain ⟨nb,hnb⟩:∃ x,(tk==7)=x:=⟨_,rfl⟩
   cases nb with
   | true=>
    go_wp2_with fail
    go_end0
    exact ⟨_,_,_,_,_,_,_,_,rfl,Ms.out.mono (by omega),F1.out,B1.out,Y1.out⟩
   | false=>
    cases cl with
    | true=>
     cases jm with
     | true=>
      go_wp2_with fail
      refine (zb8 (Ms.out.good _ HG.out) (by omega) F1.out.par).mono ?_
      rintro e w2 ⟨ntk,ntd,ntn,ntx,nta,s2,rfl,hm,_,ho,hp⟩
      have F2:=hd_ (F1.out.call ho hp)
      have B2:=hd_ (B1.out.only ho hXb)
      have Y2:=hd_ (Y1.out.only ho hYb)
      have Ms2:=hd_ (Ms.out.trans hm)
      clear hm ho hp F1 B1 Y1 Ms
      have u2:=(B2.out.cell (o:=2) rfl).1
      have f2:=(B2.out.cell (o:=2) rfl).2
      have k7:=B2.out.lt
      go_wp2_with fail
      refine zaa (P:=bodyPost _ _ _ _ _) (F:=fun W=>Fr w0 b g cap ts s2 W∧Bl W X #[.string lab,.string op,.slice (some ⟨w2.heap.size+1,0,none⟩) 1 1,.slice ga gn gc,.int .i64 ta] 102∧Bl W Yb yvs yT)
       ⟨((F2.out.far hX _ _).alloc _).alloc _,Bl.alloc (vs:=#[.string lab,.string op,.slice (some ⟨w2.heap.size+1,0,none⟩) 1 1,.slice ga gn gc,.int .i64 ta]) (Bl.alloc (vs:=#[.string lab,.string op,.slice (some ⟨w2.heap.size+1,0,none⟩) 1 1,.slice ga gn gc,.int .i64 ta]) (by simpa using B2.out.set 2 (.slice (some ⟨w2.heap.size+1,0,none⟩) 1 1)) _) _,((Y2.out.other hYX _ _).alloc _).alloc _⟩ ?_
      clear u2 f2 k7
      intro wz ⟨FZ,XZ,YZ⟩
      go_end0
      exact ⟨_,_,_,_,_,_,_,_,rfl,Ms2.out.mono (by omega),FZ,XZ,YZ⟩
     | false=>
      go_wp2_with fail
      refine (zb8 (Ms.out.good _ HG.out) (by omega) F1.out.par).mono ?_
      rintro e w2 ⟨ntk,ntd,ntn,ntx,nta,s2,rfl,hm,_,ho,hp⟩
      have F2:=hd_ (F1.out.call ho hp)
      have B2:=hd_ (B1.out.only ho hXb)
      have Y2:=hd_ (Y1.out.only ho hYb)
      have Ms2:=hd_ (Ms.out.trans hm)
      clear hm ho hp F1 B1 Y1 Ms
      have u2:=(B2.out.cell (o:=2) rfl).1
      have f2:=(B2.out.cell (o:=2) rfl).2
      have k7:=B2.out.lt
      go_upto_region 15 with fail
      refine zaa (P:=Code.wp _ _ _ _) (F:=fun W=>Fr w0 b g cap ts s2 W∧Bl W X #[.string lab,.string op,.slice (some ⟨w2.heap.size+1,0,none⟩) 1 1,.slice ga gn gc,.int .i64 ta] 102∧Bl W Yb yvs yT)
       ⟨((F2.out.far hX _ _).alloc _).alloc _,Bl.alloc (vs:=#[.string lab,.string op,.slice (some ⟨w2.heap.size+1,0,none⟩) 1 1,.slice ga gn gc,.int .i64 ta]) (Bl.alloc (vs:=#[.string lab,.string op,.slice (some ⟨w2.heap.size+1,0,none⟩) 1 1,.slice ga gn gc,.int .i64 ta]) (by simpa using B2.out.set 2 (.slice (some ⟨w2.heap.size+1,0,none⟩) 1 1)) _) _,((Y2.out.other hYX _ _).alloc _).alloc _⟩ ?_
      clear u2 f2 k7 F2 B2 Y2
      intro w3 ⟨F3,B3,Y3⟩
      have F3:=hd_ F3
      have Y3:=hd_ Y3
      obtain ⟨G,hG⟩:∃ x,w2.heap.size+1=x:=⟨_,rfl⟩
      rw [hG] at B3 ⊢
      clear hG
      have B3:=hd_ B3
      go_wp2_with fail
      refine (zii true (Ms2.out.good _ HG.out) (by omega) w3 F3.out.par).mono ?_
      rintro e w4 ⟨v,s4,rfl,⟨qa,qn,qc,rfl⟩,hm,ho,hp⟩
      have F4:=hd_ (F3.out.call ho hp)
      have B4:=hd_ (B3.out.only ho hXb)
      have Y4:=hd_ (Y3.out.only ho hYb)
      have Ms4:=hd_ (Ms2.out.trans hm)
      clear hm ho hp F3 B3 Y3 Ms2
      have u3:=(B4.out.cell (o:=3) rfl).1
      have f3:=(B4.out.cell (o:=3) rfl).2
      have k7:=B4.out.lt
      go_wp2_with fail
      refine zaa (P:=bodyPost _ _ _ _ _) (F:=fun W=>Fr w0 b g cap ts s4 W∧Bl W X #[.string lab,.string op,.slice (some ⟨G,0,none⟩) 1 1,.slice qa qn qc,.int .i64 ta] 102∧Bl W Yb yvs yT)
       ⟨F4.out.far hX _ _,by simpa using B4.out.set 3 (.slice qa qn qc),Y4.out.other hYX _ _⟩ ?_
      clear u3 f3 k7
      intro wz ⟨FZ,XZ,YZ⟩
      go_end0
      exact ⟨_,_,_,_,_,_,_,_,rfl,Ms4.out.mono (by omega),FZ,XZ,YZ⟩
    | false=>
     go_wp2_with fail
     refine (zaO ⟨#[40]⟩ (Ms.out.good _ HG.out) (by omega) F1.out.par).mono ?_
     rintro e w2 ⟨r,s2,rfl,⟨hm,ht,hf⟩,ho,hp⟩
     clear ht hf
     have F2:=hd_ (F1.out.call ho hp)
     have B2:=hd_ (B1.out.only ho hXb)
     have Y2:=hd_ (Y1.out.only ho hYb)
     have Ms2:=hd_ (Ms.out.trans hm)
     clear hm ho hp F1 B1 Y1 Ms
     cases r with
     | true=>
      have u1:=(B2.out.cell (o:=1) rfl).1
      have f1:=(B2.out.cell (o:=1) rfl).2
      have k7:=B2.out.lt
      have hlen:(op.size:Int)+((⟨#[40]⟩:ByteArray).size:Int)≤9223372036854775807:=by
       have:(⟨#[40]⟩:ByteArray).size=1:=rfl
       omega
      go_upto_region 7 with fail
      refine zaa (P:=Code.wp _ _ _ _) (F:=fun W=>Fr w0 b g cap ts s2 W∧Bl W Yb yvs yT∧∃ o2,Bl W X #[.string lab,.string o2,.slice ea en ec,.slice ga gn gc,.int .i64 ta] 102)
       ⟨F2.out.far hX _ _,Y2.out.other hYX _ _,_,by simpa using B2.out.set 1 (.string (op++⟨#[40]⟩))⟩ ?_
      clear u1 f1 k7 hlen F2 B2 Y2
      intro w3 ⟨F3,Y3,o2,B3⟩
      have F3:=hd_ F3
      have Y3:=hd_ Y3
      have B3:=hd_ B3
      go_wp2_with fail
      refine (zcb (Ms2.out.good _ HG.out) F3.out.par).mono ?_
      rintro e w4 ⟨tk4,tkd4,tnn4,tx4,tta4,rfl,_,hb⟩
      have F4:=hd_ (F3.out.below hb)
      have B4:=hd_ (B3.out.below hb)
      have Y4:=hd_ (Y3.out.below hb)
      clear hb F3 B3 Y3
      obtain ⟨n4,hn4⟩:∃ x,(tk4 != 7)=x:=⟨_,rfl⟩
      cases n4 with
      | true=>
       go_wp2_with fail
       refine (zcF (Ms2.out.good _ HG.out) (by omega) w4 F4.out.par).mono ?_
       rintro e w5 ⟨v,s5,rfl,⟨eo,ekd,enn,enm,efl,exa,exn,exc,eta,rfl⟩,hm,ho,hp⟩
       have F5:=hd_ (F4.out.call ho hp)
       have B5:=hd_ (B4.out.only ho hXb)
       have Y5:=hd_ (Y4.out.only ho hYb)
       have Ms5:=hd_ (Ms2.out.trans hm)
       clear hm ho hp F4 B4 Y4 Ms2
       have u2:=(B5.out.cell (o:=2) rfl).1
       have f2:=(B5.out.cell (o:=2) rfl).2
       have k7:=B5.out.lt
       go_wp2_with fail
       refine zaa (P:=bodyPost _ _ _ _ _) (F:=fun W=>Fr w0 b g cap ts s5 W∧Bl W X #[.string lab,.string o2,.slice (some ⟨w5.heap.size,0,none⟩) 1 1,.slice ga gn gc,.int .i64 ta] 102∧Bl W Yb yvs yT)
        ⟨(F5.out.far hX _ _).alloc _,Bl.alloc (vs:=#[.string lab,.string o2,.slice (some ⟨w5.heap.size,0,none⟩) 1 1,.slice ga gn gc,.int .i64 ta]) (by simpa using B5.out.set 2 (.slice (some ⟨w5.heap.size,0,none⟩) 1 1)) _,(Y5.out.other hYX _ _).alloc _⟩ ?_
       clear u2 f2 k7
       intro wz ⟨FZ,XZ,YZ⟩
       go_end0
       exact ⟨_,_,_,_,_,_,_,_,rfl,Ms5.out.mono (by omega),FZ,XZ,YZ⟩
      | false=>
       go_wp2_with fail
       go_end0
       exact ⟨_,_,_,_,_,_,_,_,rfl,Ms2.out.mono (by omega),F4.out,B4.out,Y4.out⟩
     | false=>
      cases jm with
      | true=>
       go_wp2_with fail
       refine (zb8 (Ms2.out.good _ HG.out) (by omega) F2.out.par).mono ?_
       rintro e w3 ⟨ntk,ntd,ntn,ntx,nta,s3,rfl,hm,_,ho,hp⟩
       have F3:=hd_ (F2.out.call ho hp)
       have B3:=hd_ (B2.out.only ho hXb)
       have Y3:=hd_ (Y2.out.only ho hYb)
       have Ms3:=hd_ (Ms2.out.trans hm)
       clear hm ho hp F2 B2 Y2 Ms2
       have u2:=(B3.out.cell (o:=2) rfl).1
       have f2:=(B3.out.cell (o:=2) rfl).2
       have k7:=B3.out.lt
       go_wp2_with fail
       refine zaa (P:=bodyPost _ _ _ _ _) (F:=fun W=>Fr w0 b g cap ts s3 W∧Bl W X #[.string lab,.string op,.slice (some ⟨w3.heap.size+1,0,none⟩) 1 1,.slice ga gn gc,.int .i64 ta] 102∧Bl W Yb yvs yT)
        ⟨((F3.out.far hX _ _).alloc _).alloc _,Bl.alloc (vs:=#[.string lab,.string op,.slice (some ⟨w3.heap.size+1,0,none⟩) 1 1,.slice ga gn gc,.int .i64 ta]) (Bl.alloc (vs:=#[.string lab,.string op,.slice (some ⟨w3.heap.size+1,0,none⟩) 1 1,.slice ga gn gc,.int .i64 ta]) (by simpa using B3.out.set 2 (.slice (some ⟨w3.heap.size+1,0,none⟩) 1 1)) _) _,((Y3.out.other hYX _ _).alloc _).alloc _⟩ ?_
       clear u2 f2 k7
       intro wz ⟨FZ,XZ,YZ⟩
       go_end0
       exact ⟨_,_,_,_,_,_,_,_,rfl,Ms3.out.mono (by omega),FZ,XZ,YZ⟩
      | false=>
       go_wp2_with fail
       refine (zcF (Ms2.out.good _ HG.out) (by omega) w2 F2.out.par).mono ?_
       rintro e w3 ⟨v,s3,rfl,⟨eo,ekd,enn,enm,efl,exa,exn,exc,eta,rfl⟩,hm,ho,hp⟩
       have F3:=hd_ (F2.out.call ho hp)
       have B3:=hd_ (B2.out.only ho hXb)
       have Y3:=hd_ (Y2.out.only ho hYb)
       have Ms3:=hd_ (Ms2.out.trans hm)
       clear hm ho hp F2 B2 Y2 Ms2
       have u2:=(B3.out.cell (o:=2) rfl).1
       have f2:=(B3.out.cell (o:=2) rfl).2
       have k7:=B3.out.lt
       go_wp2_with fail
       refine zaa (P:=bodyPost _ _ _ _ _) (F:=fun W=>Fr w0 b g cap ts s3 W∧Bl W X #[.string lab,.string op,.slice (some ⟨w3.heap.size,0,none⟩) 1 1,.slice ga gn gc,.int .i64 ta] 102∧Bl W Yb yvs yT)
        ⟨(F3.out.far hX _ _).alloc _,Bl.alloc (vs:=#[.string lab,.string op,.slice (some ⟨w3.heap.size,0,none⟩) 1 1,.slice ga gn gc,.int .i64 ta]) (by simpa using B3.out.set 2 (.slice (some ⟨w3.heap.size,0,none⟩) 1 1)) _,(Y3.out.other hYX _ _).alloc _⟩ ?_
       clear u2 f2 k7
       intro wz ⟨FZ,XZ,YZ⟩
       go_end0
       exact ⟨_,_,_,_,_,_,_,_,rfl,Ms3.out.mono (by omega),FZ,XZ,YZ⟩
end Go.Proofs.YtdpkjpjkdmkkpaaGreatDoor
