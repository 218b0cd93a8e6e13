/- The walk through the reference's Parse of an Instruction List (package rungref14), any text. -/
import Derived.Test.YtdpkjpjkdmkkpaaGreatDoorQ15
set_option maxRecDepth 100000
set_option maxHeartbeats 16000000
namespace Go.Proofs.YtdpkjpjkdmkkpaaGreatDoor
open Ad Go.RowKit Lx Pa
theorem zkL:(Tryz.prog.info? 102).map (fun i=>(i.zero,i.size,i.bytes))=some (some (.agg #[.string ⟨#[]⟩,.string ⟨#[]⟩,.slice none 0 0,.slice none 0 0,.int .i64 0]),5,88):=by kernel_rfl
theorem Mv.lines {ts:List Tok} {s:PS} (he:zaE ts):Mv ts 0 s (Pa.lines ts s):=
 ⟨fun _ h=>h.lines he,fun h h2=>h (Rf.lines_0 h2),Rf.lines_le⟩
theorem zjU {b g cap k:Nat} {ts:List Tok} {s:PS} (hg:Pa.Good ts k s) (hk:k≤49000) (w:World) (hx:Par w b g cap ts s) :
  Calls Tryz.prog 52 #[.pointer (some ⟨b,0,none⟩)] w (zfd w b g cap ts s 0 (fun v=>v=.tuple #[])):=
 (zch rfl (hg.mono (by omega)) w hx).mono fun _ _ ⟨he,ho,hp⟩=>⟨_,_,he,rfl,Mv.lines hx.ends,ho,hp⟩
theorem zhv {x:ByteArray} (hs:x.size≤2500) (w:World) :
  Calls Tryz.prog 27 #[.string x] w (zh0 true w):=by
 have hlen:x.data.toList.length=x.size:=rfl
 cases hr:zaP x.data.toList true with
 | error q=>
  obtain ⟨p,e9⟩:=q
  have h9:=zef hr
  have HTK:=hd_ (fun W=>zb1 (s:=x) (il:=true) hr (by omega) W)
  have he:(e9 != 0)=true:=by simpa using h9
  have HE:=hd_ h9
  clear h9 hr hs
  go_enter Tryz.func27,Tryz.ntmps27
  go_wp2_with fail
  refine (HTK.out _).mono ?_
  rintro e w1 ⟨rfl,hb1⟩
  have R1:=hd_ ((Bl.new w #[.string ⟨#[]⟩,.slice none 0 0,.slice none 0 0,.bool false,.slice none 0 0,.slice none 0 0] 28).below hb1)
  have B1:Hid (Below w.heap.size w w1):=hd_ (((Below.refl _ w).alloc nl_ _).trans (hb1.mono (by simp)))
  clear hb1 HTK
  obtain ⟨r0,r1,r2,r3,r4,r5⟩:=R1.out.cells6
  obtain ⟨g0,g1,g2,g3,g4,g5⟩:=R1.out.free6
  have k3:=R1.out.lt
  go_wp2_with fail
  refine zaa (P:=bodyPost _ _ _ _ _) (F:=fun W=>Bl W w.heap.size #[.string ⟨#[]⟩,.slice none 0 0,.slice none 0 0,.bool false,.slice none 0 0,.slice none 0 0] 28∧Below w.heap.size w W)
   ⟨R1.out.set6,((((((B1.out.setCell nl_ _).setCell nl_ _).setCell nl_ _).setCell nl_ _).setCell nl_ _).setCell nl_ _)⟩ ?_
  clear r0 r1 r2 r3 r4 r5 g0 g1 g2 g3 g4 g5 k3
  intro wz ⟨RZ,BZ⟩
  obtain ⟨r0,r1,r2,r3,r4,r5⟩:=RZ.cells6
  refine bodyPost_ret (v:=.tuple #[.agg #[.string ⟨#[]⟩,.slice none 0 0,.slice none 0 0,.bool false,.slice none 0 0,.slice none 0 0],.int .i64 p,.int .i64 e9]) (by simp [results,Tryz.results27,go_sem, *]) rfl ?_
  exact ⟨_,_,_,rfl,zbn,BZ,fun h=>absurd h HE.out⟩
 | ok ts=>
  obtain ⟨hen,hle,hg0,hD⟩:=zf9 (by omega) hr
  obtain ⟨⟨d,s1⟩,hd⟩:∃ p,Pa.decls ts true ⟨0,0,0⟩=p:=⟨_,rfl⟩
  obtain ⟨hg1,hdt⟩:=hD d s1 hd
  have HG1:=hd_ hg1
  have HDT:=hd_ hdt
  have HTX:=hd_ (fun t (ht:t ∈ ts)=>(Rf.tokens_T hr t ht).len)
  have HTK:=hd_ (fun W=>zb1 (s:=x) (il:=true) hr (by omega) W)
  have HD:=hd_ (fun b g cap W (hW:Par W b g cap ts ⟨0,0,0⟩)=>zd9 hd hg0 (by omega) W hW)
  obtain ⟨i0,hi9,hz0,hz1,hz2⟩:=info_parts zkL
  have HI:=hd_ (And.intro hi9 (And.intro hz0 (And.intro hz1 hz2)))
  have hpos:=hen.1
  have HEN:=hd_ hen
  have HLE:=hd_ hle
  have hf0:=zaV
  have hf4:=zbc
  clear hr hd hg0 hg1 hdt hD hs hen hle hi9 hz0 hz1 hz2
  go_enter Tryz.func27,Tryz.ntmps27
  go_wp2_with fail
  refine (HTK.out _).mono ?_
  rintro e w1 ⟨v,rfl,hown,hb1⟩
  obtain ⟨g,cap,rfl,hg1,hg2⟩:=hown.form hpos
  have TC1:=hd_ (TC.own hown rfl)
  have R1:=hd_ ((Bl.new w _ _).below hb1)
  have B1:Hid (Below w.heap.size w w1):=hd_ (((Below.refl _ w).alloc nl_ _).trans (hb1.mono (by simp)))
  have hsz:w.heap.size+1≤w1.heap.size:=by have:=hb1.size;simpa using this
  clear hown hb1 HTK
  go_upto_region 5 with fail
  refine zaa (P:=Code.wp _ _ _ _) (F:=fun W=>Par W w1.heap.size g cap ts ⟨0,0,0⟩∧Bl W w.heap.size #[.string ⟨#[]⟩,.slice none 0 0,.slice none 0 0,.bool false,.slice none 0 0,.slice none 0 0] 28∧Below w.heap.size w W∧w1.heap.size+1≤W.heap.size)
   ⟨⟨Bl.new _ _ _,TC1.out.below (br_.alloc nl_ _),by omega,HEN.out,HLE.out⟩,R1.out.alloc _,B1.out.alloc (by omega) _,by simp⟩ ?_
  intro w2 ⟨P2,R2,B2,hsz2⟩
  have F2:=hd_ (Fr.start P2)
  have R2:=hd_ R2
  have B2:=hd_ B2
  obtain ⟨b,hbq⟩:∃ b,w1.heap.size=b:=⟨_,rfl⟩
  rw [hbq] at F2 hsz2 hsz ⊢
  clear P2 TC1 R1 B1 hbq
  have n1:w.heap.size≠b:=by omega
  go_wp2_with fail
  refine (HD.out _ _ _ _ F2.out.par).mono ?_
  rintro e w3 ⟨row,rfl,hd,ho,hp⟩
  obtain ⟨vs,vv,rfl,hd2,hd3⟩:=hd
  obtain ⟨va,vn,vc,rfl⟩:=hd2.shape
  obtain ⟨ua,un,uc,rfl⟩:=hd3.shape
  have D:Hid (∀ fa n fc,zaF w3 (Btw w2.heap.size w3.heap.size) true d [.string ⟨d.name.toArray⟩,.slice va vn vc,.slice ua un uc,.bool true,.slice none 0 0,.slice fa n fc]):=hd_ (fun fa n fc=>⟨_,_,_,_,_,_,_,_,rfl,hd2,hd3⟩)
  have F3:=hd_ (F2.out.call ho hp)
  have R3:=hd_ (R2.out.only ho n1)
  have M3:=hd_ (Mid.refl (lo:=w2.heap.size) (Nat.le_refl w3.heap.size))
  have hsz3:=ho.size
  clear hd2 hd3 ho hp HD
  have nP:w3.heap.size≠b:=by omega
  go_upto_region 6 with fail
  refine zaa (P:=Code.wp _ _ _ _) (F:=fun W=>Fr w2 b g cap ts s1 W∧Bl W w.heap.size #[.string ⟨#[]⟩,.slice none 0 0,.slice none 0 0,.bool false,.slice none 0 0,.slice none 0 0] 28∧Bl W w3.heap.size #[.string ⟨d.name.toArray⟩,.slice va vn vc,.slice ua un uc,.bool true,.slice none 0 0,.slice none 0 0] 28∧Mid w2.heap.size w3.heap.size w3 W)
   ⟨F3.out.alloc _,R3.out.alloc _,Bl.new _ _ _,M3.out.alloc _⟩ ?_
  clear F3 R3 M3 F2 R2
  intro w4 ⟨F4,R4,O4,M4⟩
  have F4:=hd_ F4
  have R4:=hd_ R4
  have O4:=hd_ O4
  have M4:=hd_ M4
  go_wp2_with fail
  refine (zfD HG1.out (by omega) w4 F4.out.par).mono ?_
  rintro e w5 ⟨s2,rfl,⟨hm,_⟩,ho,hp⟩
  have F5:=hd_ (F4.out.call ho hp)
  have R5:=hd_ (R4.out.only ho n1)
  have O5:=hd_ (O4.out.only ho nP)
  have M5:=hd_ (M4.out.only (by omega) ho)
  have C5:Hid (w5.ownsRow (w3.heap.size+1) 102 5 (.slice none 0 0) 0 []):=hd_ ⟨by simp,.inl ⟨rfl,rfl⟩⟩
  have V5:=hd_ (hm.mono (by omega):Mv ts 12 s1 s2)
  clear hm ho hp F4 R4 O4 M4
  go_wp2_with fail
  go_loopw [] (fun wr=>RRel (∃ (si:PS) (fa:Option Addr) (fc n:Nat) (cs:List Value),Hid (n≤si.i+1∧(si.err=0→n≤si.i))∧Hid (Mv ts 12 s1 si)∧Hid (Fr w2 b g cap ts si wr)∧Hid (Bl wr w.heap.size #[.string ⟨#[]⟩,.slice none 0 0,.slice none 0 0,.bool false,.slice none 0 0,.slice none 0 0] 28)∧Hid (Bl wr w3.heap.size #[.string ⟨d.name.toArray⟩,.slice va vn vc,.slice ua un uc,.bool true,.slice none 0 0,.slice fa n fc] 28)∧Hid (Mid w2.heap.size w3.heap.size w3 wr)∧Hid (wr.ownsRow (w3.heap.size+1) 102 5 (.slice fa n fc) n cs))) (fun wr=>ms2 (intOf ((wr.cell? ⟨b,1,none⟩).getD undef)) (intOf ((wr.cell? ⟨b,2,none⟩).getD undef)))
  case atStart=>exact RRel.mk ⟨s2,none,0,0,_,hd_ ⟨Nat.zero_le _,fun _=>Nat.zero_le _⟩,V5,F5,R5,O5,M5,C5⟩
  case round=>
   obtain ⟨si,fa,fc,n,cs,HNN,V6,F6,R6,O6,M6,C6⟩:=hrel.it
   clear hrel V5 F5 R5 O5 M5 C5
   obtain ⟨w6,rfl⟩:∃ w9,w9=wr:=⟨_,rfl⟩
   have HMI:=hd_ F6.out.par.pb.cells.2.1
   have HME:=hd_ F6.out.par.pb.cells.2.2.1
   have hfew:=zat (V6.out.good _ HG1.out) (by omega) F6.out.par
   have d2:=F6.out.par.pb.cells.2.2.1
   have k1:=F6.out.par.pb.lt
   go_upto_region 7 with fail
   go_cut [39] from 30 to 39 (fun v wx=>∃ r:Bool,v=.bool r∧Hid (r=true→si.err=0)∧Fr w2 b g cap ts si wx∧Bl wx w.heap.size #[.string ⟨#[]⟩,.slice none 0 0,.slice none 0 0,.bool false,.slice none 0 0,.slice none 0 0] 28∧Bl wx w3.heap.size #[.string ⟨d.name.toArray⟩,.slice va vn vc,.slice ua un uc,.bool true,.slice none 0 0,.slice fa n fc] 28∧Mid w2.heap.size w3.heap.size w3 wx∧wx.ownsRow (w3.heap.size+1) 102 5 (.slice fa n fc) n cs)
   case first=>
    by_cases he:si.err=0
    ·rw [he] at d2
     have HE0:=hd_ he
     clear he
     obtain ⟨rq,hrq⟩:∃ r,is ts si [69,78,68,95,80,82,79,71,82,65,77]=r:=⟨_,rfl⟩
     have HIS:=hd_ (fun W (hW:Par W b g cap ts si)=>zb9 (x:=⟨#[69,78,68,95,80,82,79,71,82,65,77]⟩) hrq (V6.out.good _ HG1.out).1 W hW)
     clear hrq
     go_wp2_with fail
     refine (HIS.out _ F6.out.par).mono ?_
     rintro e wu ⟨rfl,hb⟩
     have Fu:=F6.out.below hb
     have Ru:=R6.out.below hb
     have Ou:=O6.out.below hb
     have Mu:=M6.out.below hb
     have Cu:=zae C6.out hb nl_
     have HU:=hd_ (And.intro Fu (And.intro Ru (And.intro Ou (And.intro Mu Cu))))
     clear hb Fu Ru Ou Mu Cu
     cases rq with
     | true=>
      go_wp2_with fail
      go_meet
      exact ⟨false,rfl,hd_ (fun h=>by cases h),HU.out⟩
     | false=>
      go_wp2_with fail
      go_meet
      exact ⟨true,rfl,hd_ (fun _=>HE0.out),HU.out⟩
    ·have he2:(si.err==0)=false:=by simpa using he
     clear he
     go_wp2_with fail
     go_meet
     exact ⟨false,rfl,hd_ (fun h=>by cases h),F6.out,R6.out,O6.out,M6.out,C6.out⟩
   case rest=>
    obtain ⟨r,rfl,HER,F7,R7,O7,M7,C7⟩:=hcut
    clear d2 k1 F6 R6 O6 M6 C6
    obtain ⟨w7,hwc⟩:∃ x,wc=x:=⟨_,rfl⟩
    rw [hwc] at F7 R7 O7 M7 C7 ⊢
    clear hwc
    have F7:=hd_ F7
    have R7:=hd_ R7
    have O7:=hd_ O7
    have M7:=hd_ M7
    have C7:=hd_ C7
    cases r with
    | true=>
     have HE0:=hd_ (HER.out rfl)
     have HNZ:=HNN.out.2 (HER.out rfl)
     have V7:=hd_ (V6.out.zero (HER.out rfl))
     clear HER HNN V6
     go_wp2_with fail
     refine (zk9 (V7.out.good _ HG1.out) (by omega) HTX.out w7 F7.out.par).mono ?_
     rintro e w8 ⟨lab,op,ea,en,ec,ga,gn,gc,ita,r,s8,rfl,hm,ho,hp⟩
     have F8:=hd_ (F7.out.call ho hp)
     have R8:=hd_ (R7.out.only ho n1)
     have O8:=hd_ (O7.out.only ho nP)
     have M8:=hd_ (M7.out.only (by omega) ho)
     have C8:=hd_ (zam C7.out ho (by omega))
     have V8:=hd_ (V7.out.trans hm)
     have P8:Hid (si.i≤s8.i):=hd_ hm.le
     clear hm ho hp F7 R7 O7 M7 C7 V7
     go_upto_region 9 with fail
     refine zaa (P:=Code.wp _ _ _ _) (F:=fun W=>Fr w2 b g cap ts s8 W∧Bl W w.heap.size #[.string ⟨#[]⟩,.slice none 0 0,.slice none 0 0,.bool false,.slice none 0 0,.slice none 0 0] 28∧Bl W w3.heap.size #[.string ⟨d.name.toArray⟩,.slice va vn vc,.slice ua un uc,.bool true,.slice none 0 0,.slice fa n fc] 28∧Mid w2.heap.size w3.heap.size w3 W∧W.ownsRow (w3.heap.size+1) 102 5 (.slice fa n fc) n cs∧Bl W w8.heap.size #[.string lab,.string op,.slice ea en ec,.slice ga gn gc,.int .i64 ita] 102)
      ⟨F8.out.alloc _,R8.out.alloc _,O8.out.alloc _,M8.out.alloc _,zae C8.out (br_.alloc nl_ _) nl_,Bl.new _ _ _⟩ ?_
     have lO:=O8.out.lt
     clear F8 R8 O8 M8 C8
     intro w9 ⟨F9,R9,O9,M9,C9,X9⟩
     have F9:=hd_ F9
     have R9:=hd_ R9
     have O9:=hd_ O9
     have M9:=hd_ M9
     have C9:=hd_ C9
     obtain ⟨X,hX⟩:∃ x,w8.heap.size=x:=⟨_,rfl⟩
     rw [hX] at X9 lO ⊢
     clear hX
     have X9:=hd_ X9
     cases r with
     | true=>
      obtain ⟨x0,x1,x2,x3,x4⟩:=X9.out.cells5
      have kx:=X9.out.lt
      have o5:=(O9.out.cell (o:=5) rfl).1
      have k9:=O9.out.lt
      go_upto_region 11 with (at_builtin;refine wpList_append_lies _ (by rfl) _ _ _ (by rfl) (w3.heap.size+1) 102 i0 _ 5 88 Tryz.underlying26 HI.out.1 HI.out.2.1 HI.out.2.2.1 HI.out.2.2.2 rfl (by omega) (.slice fa n fc) n cs (by rfl) (zae C9.out ((Below.refl w9.heap.size w9).alloc nl_ _) nl_) ⟨w9.heap.size,0,none⟩ 1 1 [.string lab,.string op,.slice ea en ec,.slice ga gn gc,.int .i64 ita] (by first | rfl | (simp [Act.eval,Act.put];done)) (by rfl) (World.news_of_block (cs:=#[.string lab,.string op,.slice ea en ec,.slice ga gn gc,.int .i64 ita]) (t:=102) (fr:=(0,0)) (heap_alloc_new _ _)) (by simp [Value.oneCell']) (by omega) (by simp only [maxLen];omega) (by omega) (by simp;omega) (w9.heap.size+1) (by simp) ?_;intro g9 cp9 w10 hown hgrow hat hlt9;have F10:=hd_ ((F9.out.alloc _).grown hgrow (fun k hk=>by have:=(C9.out.lt k hk).1;omega));have R10:=hd_ ((R9.out.alloc _).grown hgrow (zaB C9.out (by omega)));have O10:=hd_ ((O9.out.alloc _).grown hgrow (zaB C9.out (by omega)));have M10:=hd_ ((M9.out.alloc _).grown hgrow (fun k hk=>by have:=(C9.out.lt k hk).1;omega));have C10:=hd_ hown;have o5:=(O10.out.cell (o:=5) rfl).1;have f5:=(O10.out.cell (o:=5) rfl).2;have k9:=O10.out.lt;clear hown hgrow hat hlt9)
      refine zaa (P:=Code.wp _ _ _ _) (F:=fun W=>Fr w2 b g cap ts s8 W∧Bl W w.heap.size #[.string ⟨#[]⟩,.slice none 0 0,.slice none 0 0,.bool false,.slice none 0 0,.slice none 0 0] 28∧Bl W w3.heap.size #[.string ⟨d.name.toArray⟩,.slice va vn vc,.slice ua un uc,.bool true,.slice none 0 0,.slice (some ⟨g9,0,none⟩) (n+1) cp9] 28∧Mid w2.heap.size w3.heap.size w3 W∧W.ownsRow (w3.heap.size+1) 102 5 (.slice (some ⟨g9,0,none⟩) (n+1) cp9) (n+1) (cs++[.string lab,.string op,.slice ea en ec,.slice ga gn gc,.int .i64 ita]))
       ⟨F10.out.far (by omega) _ _,R10.out.other (by omega) _ _,by simpa using O10.out.set 5 (.slice (some ⟨g9,0,none⟩) (n+1) cp9),M10.out.setHigh nl_ _ _,zbE C10.out (Nat.lt_succ_self _)⟩ ?_
      clear x0 x1 x2 x3 x4 kx o5 k9 f5 F9 R9 O9 M9 C9 X9 F10 R10 O10 M10 C10
      intro w11 ⟨F11,R11,O11,M11,C11⟩
      have F11:=hd_ F11
      have R11:=hd_ R11
      have O11:=hd_ O11
      have M11:=hd_ M11
      have C11:=hd_ C11
      go_wp2_with fail
      refine (zfD (V8.out.good _ HG1.out) (by omega) w11 F11.out.par).mono ?_
      rintro e w12 ⟨s9,rfl,⟨hm,hl⟩,ho,hp⟩
      have F12:=hd_ (F11.out.call ho hp)
      have R12:=hd_ (R11.out.only ho n1)
      have O12:=hd_ (O11.out.only ho nP)
      have M12:=hd_ (M11.out.only (by omega) ho)
      have C12:=hd_ (zam C11.out ho (by omega))
      have V9:=hd_ (V8.out.trans hm)
      have P9:Hid (si.i≤s9.i):=hd_ (lt_ P8.out hm.le)
      have L9:Hid (si.i < s9.i∨s9.err≠0):=hd_ (hl.imp (fun h=>Nat.lt_of_le_of_lt P8.out h) id)
      clear hm hl ho hp F11 R11 O11 M11 C11
      have hfew9:=zat (V9.out.good _ HG1.out) (by omega) F12.out.par
      go_wp2_with fail
      go_roundw
      case rel=>exact RRel.mk ⟨s9,_,_,n+1,_,hd_ (zkY HNZ P9.out L9.out),hd_ (V9.out.mono (by omega)),F12,R12,O12,M12,C12⟩
      case measure=>
       have y1:=F12.out.par.pb.cells.2.1
       have y2:=F12.out.par.pb.cells.2.2.1
       have y3:=HMI.out
       have y4:=HME.out
       simp only [y1,y2,y3,y4,Option.getD_some,intOf]
       exact zgj HE0.out L9.out P9.out hfew9
     | false=>
      clear X9
      go_wp2_with fail
      refine (zfD (V8.out.good _ HG1.out) (by omega) w9 F9.out.par).mono ?_
      rintro e w10 ⟨s9,rfl,⟨hm,hl⟩,ho,hp⟩
      have F10:=hd_ (F9.out.call ho hp)
      have R10:=hd_ (R9.out.only ho n1)
      have O10:=hd_ (O9.out.only ho nP)
      have M10:=hd_ (M9.out.only (by omega) ho)
      have C10:=hd_ (zam C9.out ho (by omega))
      have V9:=hd_ (V8.out.trans hm)
      have P9:Hid (si.i≤s9.i):=hd_ (lt_ P8.out hm.le)
      have L9:Hid (si.i < s9.i∨s9.err≠0):=hd_ (hl.imp (fun h=>Nat.lt_of_le_of_lt P8.out h) id)
      clear hm hl ho hp F9 R9 O9 M9 C9
      have hfew9:=zat (V9.out.good _ HG1.out) (by omega) F10.out.par
      go_wp2_with fail
      go_roundw
      case rel=>exact RRel.mk ⟨s9,_,_,n,_,hd_ ⟨by have:=P9.out;omega,fun _=>by have:=P9.out;omega⟩,hd_ (V9.out.mono (by omega)),F10,R10,O10,M10,C10⟩
      case measure=>
       have y1:=F10.out.par.pb.cells.2.1
       have y2:=F10.out.par.pb.cells.2.2.1
       have y3:=HMI.out
       have y4:=HME.out
       simp only [y1,y2,y3,y4,Option.getD_some,intOf]
       exact zgj HE0.out L9.out P9.out hfew9
    | false=>
     clear HER HNN C7 HI
     go_wp2_with fail
     refine (zan ⟨#[69,78,68,95,80,82,79,71,82,65,77]⟩ (V6.out.good _ HG1.out) (by omega) F7.out.par).mono ?_
     rintro e w8 ⟨_,s8,rfl,rfl,hm,ho,hp⟩
     have F8:=hd_ (F7.out.call ho hp)
     have R8:=hd_ (R7.out.only ho n1)
     have O8:=hd_ (O7.out.only ho nP)
     have M8:=hd_ (M7.out.only (by omega) ho)
     have V8:=hd_ (V6.out.trans hm)
     clear hm ho hp F7 R7 O7 M7 V6
     go_wp2_with fail
     refine (zjU (V8.out.good _ HG1.out) (by omega) w8 F8.out.par).mono ?_
     rintro e w9 ⟨_,s3,rfl,rfl,hm,ho,hp⟩
     have F9:=hd_ (F8.out.call ho hp)
     have R9:=hd_ (R8.out.only ho n1)
     have O9:=hd_ (O8.out.only ho nP)
     have M9:=hd_ (M8.out.only (by omega) ho)
     have V9:=hd_ (V8.out.trans hm)
     clear hm ho hp F8 R8 O8 M8 V8
     obtain ⟨-,-,d2,d3,-,-,-⟩:=F9.out.par.pb.cells
     have k1:=F9.out.par.pb.lt
     by_cases he:s3.err=0
     ·have HE2:=hd_ he
      rw [he] at d2
      clear he
      have e3:((0:Int)==0)=true:=rfl
      have e4:((0:Int) != 0)=false:=rfl
      go_wp2_with fail
      refine (zcb (V9.out.good _ HG1.out) F9.out.par).mono ?_
      rintro e w10 ⟨tk,kd,nn,tx,ta,rfl,_,hb⟩
      have F10:=hd_ (F9.out.below hb)
      have R10:=hd_ (R9.out.below hb)
      have O10:=hd_ (O9.out.below hb)
      have M10:=hd_ (M9.out.below hb)
      clear hb d2 d3 k1 F9 R9 O9 M9
      by_cases htk:tk=0
      ·subst htk
       obtain ⟨-,-,d2,-,-,-,-⟩:=F10.out.par.pb.cells
       rw [HE2.out] at d2
       have k1:=F10.out.par.pb.lt
       obtain ⟨q0,q1,q2,q3,q4,q5⟩:=O10.out.cells6
       obtain ⟨r0,r1,r2,r3,r4,r5⟩:=R10.out.cells6
       obtain ⟨g0,g1,g2,g3,g4,g5⟩:=R10.out.free6
       have k2:=O10.out.lt
       have k3:=R10.out.lt
       have BZ:Hid (Below w.heap.size w w10):=hd_ (B2.out.trans (F10.out.only.below (by omega) (by omega)))
       go_wp2_with fail
       refine zaa (P:=bodyPost _ _ _ _ _) (F:=fun W=>Bl W w.heap.size #[.string ⟨d.name.toArray⟩,.slice va vn vc,.slice ua un uc,.bool true,.slice none 0 0,.slice fa n fc] 28∧Mid w2.heap.size w3.heap.size w3 W∧Below w.heap.size w W)
        ⟨R10.out.set6,((((((M10.out.set (by omega) _ _).set (by omega) _ _).set (by omega) _ _).set (by omega) _ _).set (by omega) _ _).set (by omega) _ _),((((((BZ.out.setCell nl_ _).setCell nl_ _).setCell nl_ _).setCell nl_ _).setCell nl_ _).setCell nl_ _)⟩ ?_
       clear q0 q1 q2 q3 q4 q5 r0 r1 r2 r3 r4 r5 g0 g1 g2 g3 g4 g5 k2 k3 d2 k1
       intro wz ⟨RZ,MZ,BZ⟩
       obtain ⟨r0,r1,r2,r3,r4,r5⟩:=RZ.cells6
       refine bodyPost_ret (v:=.tuple #[.agg #[.string ⟨d.name.toArray⟩,.slice va vn vc,.slice ua un uc,.bool true,.slice none 0 0,.slice fa n fc],.int .i64 0,.int .i64 0]) (by simp [results,Tryz.results27,go_sem, *]) rfl ?_
       have h1:s1.err=0:=by
        by_cases h:s1.err=0
        ·exact h
        ·exact absurd HE2.out (V9.out.err h)
       exact ⟨_,_,_,rfl,⟨_,_,_,_,_,_,_,_,_,_,_,_,_,_,rfl⟩,BZ,fun _=>⟨d,(HDT.out h1).1,(HDT.out h1).2,(D.out _ _ _).keeps (MZ.keeps (by omega))⟩⟩
      ·have ht1:(tk==0)=false:=by simpa using htk
       have ht2:(tk != 0)=true:=by simpa using htk
       clear htk
       go_wp2_with fail
       refine (zcb (V9.out.good _ HG1.out) F10.out.par).mono ?_
       rintro e w11 ⟨tk8,kd8,nn8,tx8,ta8,rfl,_,hb⟩
       have F11:=hd_ (F10.out.below hb)
       have R11:=hd_ (R10.out.below hb)
       clear hb F10 R10 O10 M10 ht1 ht2
       go_wp2_with fail
       refine (zb7 (a:=ta8) (e:=130) (by decide) F11.out.par).mono ?_
       rintro e w12 ⟨s12,rfl,⟨_,h9⟩,ho,hp⟩
       have F12:=hd_ (F11.out.call ho hp)
       have R12:=hd_ (R11.out.only ho n1)
       have H9:=hd_ h9
       have h8:(s12.err != 0)=true:=by simpa using h9
       have BZ9:Hid (Below w.heap.size w w12):=hd_ (B2.out.trans (F12.out.only.below (by omega) (by omega)))
       clear ho hp h9 F11 R11
       obtain ⟨-,-,d2,d3,-,-,-⟩:=F12.out.par.pb.cells
       have k1:=F12.out.par.pb.lt
       obtain ⟨r0,r1,r2,r3,r4,r5⟩:=R12.out.cells6
       obtain ⟨g0,g1,g2,g3,g4,g5⟩:=R12.out.free6
       have k3:=R12.out.lt
       have n2:b≠w.heap.size:=fun h=>n1 h.symm
       go_upto_region 17 with fail
       go_region
       all_goals
        go_wp2_with fail
        refine zaa (P:=bodyPost _ _ _ _ _) (F:=fun W=>Bl W w.heap.size #[.string ⟨#[]⟩,.slice none 0 0,.slice none 0 0,.bool false,.slice none 0 0,.slice none 0 0] 28∧Below w.heap.size w W)
         ⟨R12.out.set6.drew,(((((((BZ9.out.setCell nl_ _).setCell nl_ _).setCell nl_ _).setCell nl_ _).setCell nl_ _).setCell nl_ _)).drew⟩ ?_
        clear r0 r1 r2 r3 r4 r5 g0 g1 g2 g3 g4 g5 k3 d2 d3 k1
        intro wz ⟨RZ,BZ⟩
        obtain ⟨r0,r1,r2,r3,r4,r5⟩:=RZ.cells6
        refine bodyPost_ret (v:=.tuple #[.agg #[.string ⟨#[]⟩,.slice none 0 0,.slice none 0 0,.bool false,.slice none 0 0,.slice none 0 0],.int .i64 s12.at_,.int .i64 s12.err]) (by simp [results,Tryz.results27,go_sem, *]) rfl ?_
        exact ⟨_,_,_,rfl,zbn,BZ,fun h=>absurd h H9.out⟩
     ·have h3:(s3.err==0)=false:=by simpa using he
      have h8:(s3.err != 0)=true:=by simpa using he
      have H9:=hd_ he
      have BZ6:Hid (Below w.heap.size w w9):=hd_ (B2.out.trans (F9.out.only.below (by omega) (by omega)))
      clear he
      obtain ⟨r0,r1,r2,r3,r4,r5⟩:=R9.out.cells6
      obtain ⟨g0,g1,g2,g3,g4,g5⟩:=R9.out.free6
      have k3:=R9.out.lt
      have n2:b≠w.heap.size:=fun h=>n1 h.symm
      go_upto_region 17 with fail
      go_region
      all_goals
       go_wp2_with fail
       refine zaa (P:=bodyPost _ _ _ _ _) (F:=fun W=>Bl W w.heap.size #[.string ⟨#[]⟩,.slice none 0 0,.slice none 0 0,.bool false,.slice none 0 0,.slice none 0 0] 28∧Below w.heap.size w W)
        ⟨R9.out.set6.drew,(((((((BZ6.out.setCell nl_ _).setCell nl_ _).setCell nl_ _).setCell nl_ _).setCell nl_ _).setCell nl_ _)).drew⟩ ?_
       clear r0 r1 r2 r3 r4 r5 g0 g1 g2 g3 g4 g5 k3 d2 d3 k1
       intro wz ⟨RZ,BZ⟩
       obtain ⟨r0,r1,r2,r3,r4,r5⟩:=RZ.cells6
       refine bodyPost_ret (v:=.tuple #[.agg #[.string ⟨#[]⟩,.slice none 0 0,.slice none 0 0,.bool false,.slice none 0 0,.slice none 0 0],.int .i64 s3.at_,.int .i64 s3.err]) (by simp [results,Tryz.results27,go_sem, *]) rfl ?_
       exact ⟨_,_,_,rfl,zbn,BZ,fun h=>absurd h H9.out⟩
def zkx (il:Bool) (w:World) (e:Ending) (w':World):Prop:=
 ∃ row ok,e=.returned (.tuple #[.agg row.toArray,.bool ok])∧zlO row∧Below w.heap.size w w'∧(ok=true→∃ d,Rf.DeclT d∧zbj d∧zaF w' (Btw w.heap.size w'.heap.size) il d row)
theorem zmm (x:ByteArray) (il:Bool) (w:World):Calls Tryz.prog 9 #[.string x,.bool il] w (zkx il w):=by
 by_cases hs:x.size≤2500
 ·have h1:¬ (2500:Int) < x.size:=by omega
  cases il with
  | true=>
   go_enter Tryz.func9,Tryz.ntmps9
   go_wp2_with fail
   refine (zhv hs (w.alloc (.cells #[.string ⟨#[]⟩,.slice none 0 0,.slice none 0 0,.bool false,.slice none 0 0,.slice none 0 0] 28))).mono ?_
   rintro e w1 ⟨row,at9,er,rfl,⟨nb,va,vn,vc,ua,un,uc,il,bda,bdn,bdc,lna,lnn,lnc,rfl⟩,hb,hd⟩
   have R1:=hd_ ((Bl.new w #[.string ⟨#[]⟩,.slice none 0 0,.slice none 0 0,.bool false,.slice none 0 0,.slice none 0 0] 28).below hb)
   have B1:Hid (Below w.heap.size w w1):=hd_ (zal ((Below.refl _ w).alloc nl_ _) hb (by simp))
   have HD:=hd_ hd
   clear hb hd
   go_upto_region 5 with fail
   refine zaa (P:=Code.wp _ _ _ _) (F:=fun W=>Bl W w.heap.size #[.string ⟨#[]⟩,.slice none 0 0,.slice none 0 0,.bool false,.slice none 0 0,.slice none 0 0] 28∧Bl W w1.heap.size #[.string nb,.slice va vn vc,.slice ua un uc,.bool il,.slice bda bdn bdc,.slice lna lnn lnc] 28∧Below w.heap.size w W∧Mid (w.heap.size+1) w1.heap.size w1 W)
    ⟨R1.out.alloc _,Bl.new _ _ _,B1.out.alloc B1.out.size _,(Mid.refl nl_).alloc _⟩ ?_
   have l1:=R1.out.lt
   clear R1 B1
   intro w2 ⟨R2,P2,B2,M2⟩
   have R2:=hd_ R2
   have P2:=hd_ P2
   have B2:=hd_ B2
   have M2:=hd_ M2
   obtain ⟨q0,q1,q2,q3,q4,q5⟩:=P2.out.cells6
   obtain ⟨r0,r1,r2,r3,r4,r5⟩:=R2.out.cells6
   obtain ⟨g0,g1,g2,g3,g4,g5⟩:=R2.out.free6
   have k2:=P2.out.lt
   have k3:=R2.out.lt
   obtain ⟨eb,heb⟩:∃ x,(er==0)=x:=⟨_,rfl⟩
   go_wp2_with fail
   refine zaa (P:=bodyPost _ _ _ _ _) (F:=fun W=>Bl W w.heap.size #[.string nb,.slice va vn vc,.slice ua un uc,.bool il,.slice bda bdn bdc,.slice lna lnn lnc] 28∧Below w.heap.size w W∧Mid (w.heap.size+1) w1.heap.size w1 W)
    ⟨R2.out.set6,((((((B2.out.setCell nl_ _).setCell nl_ _).setCell nl_ _).setCell nl_ _).setCell nl_ _).setCell nl_ _),((((((M2.out.set (by omega) _ _).set (by omega) _ _).set (by omega) _ _).set (by omega) _ _).set (by omega) _ _).set (by omega) _ _)⟩ ?_
   clear q0 q1 q2 q3 q4 q5 r0 r1 r2 r3 r4 r5 g0 g1 g2 g3 g4 g5 k2 k3
   intro wz ⟨RZ,BZ,MZ⟩
   obtain ⟨r0,r1,r2,r3,r4,r5⟩:=RZ.cells6
   refine bodyPost_ret (v:=.tuple #[.agg #[.string nb,.slice va vn vc,.slice ua un uc,.bool il,.slice bda bdn bdc,.slice lna lnn lnc],.bool eb]) (by simp [results,Tryz.results9,go_sem, *]) rfl ?_
   refine ⟨_,eb,rfl,⟨_,_,_,_,_,_,_,_,_,_,_,_,_,_,rfl⟩,BZ,fun h=>?_⟩
   obtain ⟨d,h1,h2,h3⟩:=HD.out (by rw [h] at heb;simpa using heb)
   rw [show (w.alloc (.cells #[.string ⟨#[]⟩,.slice none 0 0,.slice none 0 0,.bool false,.slice none 0 0,.slice none 0 0] 28)).heap.size=w.heap.size+1 by simp] at h3
   exact ⟨d,h1,h2,h3.keeps (MZ.keeps (by omega))⟩
  | false=>
   go_enter Tryz.func9,Tryz.ntmps9
   go_wp2_with fail
   refine (zjX hs (w.alloc (.cells #[.string ⟨#[]⟩,.slice none 0 0,.slice none 0 0,.bool false,.slice none 0 0,.slice none 0 0] 28))).mono ?_
   rintro e w1 ⟨row,at9,er,rfl,⟨nb,va,vn,vc,ua,un,uc,il,bda,bdn,bdc,lna,lnn,lnc,rfl⟩,hb,hd⟩
   have R1:=hd_ ((Bl.new w #[.string ⟨#[]⟩,.slice none 0 0,.slice none 0 0,.bool false,.slice none 0 0,.slice none 0 0] 28).below hb)
   have B1:Hid (Below w.heap.size w w1):=hd_ (zal ((Below.refl _ w).alloc nl_ _) hb (by simp))
   have HD:=hd_ hd
   clear hb hd
   go_upto_region 7 with fail
   refine zaa (P:=Code.wp _ _ _ _) (F:=fun W=>Bl W w.heap.size #[.string ⟨#[]⟩,.slice none 0 0,.slice none 0 0,.bool false,.slice none 0 0,.slice none 0 0] 28∧Bl W w1.heap.size #[.string nb,.slice va vn vc,.slice ua un uc,.bool il,.slice bda bdn bdc,.slice lna lnn lnc] 28∧Below w.heap.size w W∧Mid (w.heap.size+1) w1.heap.size w1 W)
    ⟨R1.out.alloc _,Bl.new _ _ _,B1.out.alloc B1.out.size _,(Mid.refl nl_).alloc _⟩ ?_
   have l1:=R1.out.lt
   clear R1 B1
   intro w2 ⟨R2,P2,B2,M2⟩
   have R2:=hd_ R2
   have P2:=hd_ P2
   have B2:=hd_ B2
   have M2:=hd_ M2
   obtain ⟨q0,q1,q2,q3,q4,q5⟩:=P2.out.cells6
   obtain ⟨r0,r1,r2,r3,r4,r5⟩:=R2.out.cells6
   obtain ⟨g0,g1,g2,g3,g4,g5⟩:=R2.out.free6
   have k2:=P2.out.lt
   have k3:=R2.out.lt
   obtain ⟨eb,heb⟩:∃ x,(er==0)=x:=⟨_,rfl⟩
   go_wp2_with fail
   refine zaa (P:=bodyPost _ _ _ _ _) (F:=fun W=>Bl W w.heap.size #[.string nb,.slice va vn vc,.slice ua un uc,.bool il,.slice bda bdn bdc,.slice lna lnn lnc] 28∧Below w.heap.size w W∧Mid (w.heap.size+1) w1.heap.size w1 W)
    ⟨R2.out.set6,((((((B2.out.setCell nl_ _).setCell nl_ _).setCell nl_ _).setCell nl_ _).setCell nl_ _).setCell nl_ _),((((((M2.out.set (by omega) _ _).set (by omega) _ _).set (by omega) _ _).set (by omega) _ _).set (by omega) _ _).set (by omega) _ _)⟩ ?_
   clear q0 q1 q2 q3 q4 q5 r0 r1 r2 r3 r4 r5 g0 g1 g2 g3 g4 g5 k2 k3
   intro wz ⟨RZ,BZ,MZ⟩
   obtain ⟨r0,r1,r2,r3,r4,r5⟩:=RZ.cells6
   refine bodyPost_ret (v:=.tuple #[.agg #[.string nb,.slice va vn vc,.slice ua un uc,.bool il,.slice bda bdn bdc,.slice lna lnn lnc],.bool eb]) (by simp [results,Tryz.results9,go_sem, *]) rfl ?_
   refine ⟨_,eb,rfl,⟨_,_,_,_,_,_,_,_,_,_,_,_,_,_,rfl⟩,BZ,fun h=>?_⟩
   obtain ⟨d,h1,h2,h3⟩:=HD.out (by rw [h] at heb;simpa using heb)
   rw [show (w.alloc (.cells #[.string ⟨#[]⟩,.slice none 0 0,.slice none 0 0,.bool false,.slice none 0 0,.slice none 0 0] 28)).heap.size=w.heap.size+1 by simp] at h3
   exact ⟨d,h1,h2,h3.keeps (MZ.keeps (by omega))⟩
 ·have h1:(2500:Int) < x.size:=by omega
  clear hs
  go_enter Tryz.func9,Tryz.ntmps9
  go_wp2_with fail
  refine zaa (P:=bodyPost _ _ _ _ _) (F:=fun W=>Bl W w.heap.size #[.string ⟨#[]⟩,.slice none 0 0,.slice none 0 0,.bool false,.slice none 0 0,.slice none 0 0] 28∧Below w.heap.size w W)
   ⟨Bl.new _ _ _,br_.alloc nl_ _⟩ ?_
  intro wz ⟨RZ,BZ⟩
  obtain ⟨r0,r1,r2,r3,r4,r5⟩:=RZ.cells6
  refine bodyPost_ret (v:=.tuple #[.agg #[.string ⟨#[]⟩,.slice none 0 0,.slice none 0 0,.bool false,.slice none 0 0,.slice none 0 0],.bool false]) (by simp [results,Tryz.results9,go_sem, *]) rfl ?_
  exact ⟨_,_,rfl,zbn,BZ,fun h=>by cases h⟩
end Go.Proofs.YtdpkjpjkdmkkpaaGreatDoor
