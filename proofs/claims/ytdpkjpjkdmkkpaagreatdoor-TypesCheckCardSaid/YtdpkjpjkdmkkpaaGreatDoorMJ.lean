/- The walk through the reference lexer's token: numbers, addresses, signs; all of it. -/
import Derived.Test.YtdpkjpjkdmkkpaaGreatDoorMH
import Derived.Test.YtdpkjpjkdmkkpaaGreatDoorMI
set_option maxRecDepth 100000
set_option maxHeartbeats 16000000
namespace Go.Proofs.YtdpkjpjkdmkkpaaGreatDoor
open Ad Go.RowKit Lx
theorem zfQ {s:ByteArray} {a b:Nat} {r:Tok × Nat × Int} (hr:zbQ (Lx.number (s.data.toList.drop a))=r) (hL:lett (cAt s.data.toList a)=false) (hG:dig (cAt s.data.toList a)=true) (hs:s.size≤4294967000) (ha:a < s.size) (w:World) (hx:ScB w b s a) :
  Calls Tryz.prog 80 #[.pointer (some ⟨b,0,none⟩)] w (za3 s a b (upBy a r) w):=by
 have HC:=hd_ (fun W (hW:ScB W b s (a:Int))=>zb0 (i:=0) hs (by omega) (by omega) W hW)
 have HX:=hd_ hx
 have hlt:=hx.lt
 have hss:s.size≤4294967000:=hs
 have a0:(a:Int) < s.size:=by omega
 obtain ⟨c,hc⟩:∃ c,cAt s.data.toList a=c:=⟨_,rfl⟩
 rw [Nat.add_zero,hc] at HC
 obtain ⟨⟨N,Z,E⟩,hq⟩:∃ q,Lx.number (s.data.toList.drop a)=q:=⟨_,rfl⟩
 have hE:=zc9 (l:=s.data.toList.drop a)
 rw [hq] at hE hr
 have HE:=hd_ hE
 have HN:=hd_ (fun W (hW:ScB W b s (a:Int))=>zdd hq hs (by omega) W hW)
 rw [hc] at hL hG
 have HL:=hd_ hL
 have HG:=hd_ hG
 have HR:=hd_ hr
 have hres:(E≠0)∨(E=0∧4294967295 < N)∨(E=0∧N≤4294967295):=by omega
 clear hr hL hG hs ha hx hc hq hE
 rcases hres with hE | ⟨rfl,hv⟩ | ⟨rfl,hv⟩
 ·obtain ⟨x00,x01,g00,g01⟩:=HX.out.cells
  go_enter Tryz.func80,Tryz.ntmps80
  go_upto_region 2 with fail
  have hT0:=TkS.start (A:=(a:Int)) HX.out
  obtain ⟨W0,hW0⟩:∃ W0,W0=(w.alloc (.cells #[.int .i64 0,.int .i64 0,.int .i64 0,.string ⟨#[]⟩,.int .i64 0] 107)).alloc (.cells #[.int .i64 0,.int .i64 0,.int .i64 0,.string ⟨#[]⟩,.int .i64 a] 107):=⟨_,rfl⟩
  rw [← hW0] at hT0 ⊢
  have HT0:=hd_ hT0
  clear hT0 hW0 x00 x01 g00 g01
  obtain ⟨c40,c41,c42,c43,c44,f40,f41,f42,f43,f44⟩:=blk5 HT0.out.tk;obtain ⟨c60,c61,c62,c63,c64,f60,f61,f62,f63,f64⟩:=blk5 HT0.out.an
  obtain ⟨x0,x1,g0,g1⟩:=HT0.out.sc.cells
  have hbl0:=HT0.out.sc.lt
  go_wp2_with (first | (go_at_call 79;refine (HC.out _ (by exact HT0.out.sc)).mono ?_;rintro e w3 ⟨rfl,nn3,rfl⟩) | (go_at_call 101;refine (zap _ _).mono ?_;rintro e w4 ⟨rfl,rfl⟩;rw [HL.out]) | (go_at_call 102;refine (zar _ _).mono ?_;rintro e w5 ⟨rfl,rfl⟩;rw [HG.out]))
  refine (HN.out _ (by exact HT0.out.sc)).mono ?_
  rintro e w6 ⟨hok,herr,ho6,a6,ha6,hs6⟩
  obtain rfl:=herr hE
  have HT6:=hd_ ((HT0.out.drewN _).call hs6 ho6)
  clear hok herr ho6 hs6 c40 c41 c42 c43 c44 f40 f41 f42 f43 f44 c60 c61 c62 c63 c64 f60 f61 f62 f63 f64
  obtain ⟨c40,c41,c42,c43,c44,f40,f41,f42,f43,f44⟩:=blk5 HT6.out.tk;obtain ⟨c60,c61,c62,c63,c64,f60,f61,f62,f63,f64⟩:=blk5 HT6.out.an
  go_wp2
  refine bodyPost_ret (v:=.tuple #[.agg #[.int .i64 0,.int .i64 0,.int .i64 0,.string ⟨#[]⟩,.int .i64 a],.int .i64 120]) (by simp [results,Tryz.results80,go_sem, *]) rfl ?_
  exact zbl (by rw [← HR.out];simp only [zbQ,upBy];rw [if_neg (fun h=>hE h.1)];exact HE.out hE) (by decide) (by (repeat (refine Only.setFar ?_ (by omega) _ _));exact HT6.out.on)
 ·obtain ⟨x00,x01,g00,g01⟩:=HX.out.cells
  go_enter Tryz.func80,Tryz.ntmps80
  go_upto_region 2 with fail
  have hT0:=TkS.start (A:=(a:Int)) HX.out
  obtain ⟨W0,hW0⟩:∃ W0,W0=(w.alloc (.cells #[.int .i64 0,.int .i64 0,.int .i64 0,.string ⟨#[]⟩,.int .i64 0] 107)).alloc (.cells #[.int .i64 0,.int .i64 0,.int .i64 0,.string ⟨#[]⟩,.int .i64 a] 107):=⟨_,rfl⟩
  rw [← hW0] at hT0 ⊢
  have HT0:=hd_ hT0
  clear hT0 hW0 x00 x01 g00 g01
  obtain ⟨c40,c41,c42,c43,c44,f40,f41,f42,f43,f44⟩:=blk5 HT0.out.tk;obtain ⟨c60,c61,c62,c63,c64,f60,f61,f62,f63,f64⟩:=blk5 HT0.out.an
  obtain ⟨x0,x1,g0,g1⟩:=HT0.out.sc.cells
  have hbl0:=HT0.out.sc.lt
  go_wp2_with (first | (go_at_call 79;refine (HC.out _ (by exact HT0.out.sc)).mono ?_;rintro e w3 ⟨rfl,nn3,rfl⟩) | (go_at_call 101;refine (zap _ _).mono ?_;rintro e w4 ⟨rfl,rfl⟩;rw [HL.out]) | (go_at_call 102;refine (zar _ _).mono ?_;rintro e w5 ⟨rfl,rfl⟩;rw [HG.out]))
  refine (HN.out _ (by exact HT0.out.sc)).mono ?_
  rintro e w6 ⟨hok,herr,ho6,a6,ha6,hs6⟩
  obtain ⟨how,hhow,rfl,hs7⟩:=hok rfl
  have HT6:=hd_ ((HT0.out.drewN _).call hs7 ho6)
  clear hok herr ho6 hs6 hs7 c40 c41 c42 c43 c44 f40 f41 f42 f43 f44 c60 c61 c62 c63 c64 f60 f61 f62 f63 f64
  obtain ⟨c40,c41,c42,c43,c44,f40,f41,f42,f43,f44⟩:=blk5 HT6.out.tk;obtain ⟨c60,c61,c62,c63,c64,f60,f61,f62,f63,f64⟩:=blk5 HT6.out.an
  have eh:(how==0)=false:=by rcases hhow with rfl | rfl <;> decide
  go_wp2
  refine bodyPost_ret (v:=.tuple #[.agg #[.int .i64 0,.int .i64 0,.int .i64 0,.string ⟨#[]⟩,.int .i64 a],.int .i64 121]) (by simp [results,Tryz.results80,go_sem, *]) rfl ?_
  exact zbl (by rw [← HR.out];simp only [zbQ,upBy];rw [if_pos ⟨by trivial,hv⟩]) (by decide) (by (repeat (refine Only.setFar ?_ (by omega) _ _));exact HT6.out.on)
 ·obtain ⟨x00,x01,g00,g01⟩:=HX.out.cells
  go_enter Tryz.func80,Tryz.ntmps80
  go_upto_region 2 with fail
  have hT0:=TkS.start (A:=(a:Int)) HX.out
  obtain ⟨W0,hW0⟩:∃ W0,W0=(w.alloc (.cells #[.int .i64 0,.int .i64 0,.int .i64 0,.string ⟨#[]⟩,.int .i64 0] 107)).alloc (.cells #[.int .i64 0,.int .i64 0,.int .i64 0,.string ⟨#[]⟩,.int .i64 a] 107):=⟨_,rfl⟩
  rw [← hW0] at hT0 ⊢
  have HT0:=hd_ hT0
  clear hT0 hW0 x00 x01 g00 g01
  obtain ⟨c40,c41,c42,c43,c44,f40,f41,f42,f43,f44⟩:=blk5 HT0.out.tk;obtain ⟨c60,c61,c62,c63,c64,f60,f61,f62,f63,f64⟩:=blk5 HT0.out.an
  obtain ⟨x0,x1,g0,g1⟩:=HT0.out.sc.cells
  have hbl0:=HT0.out.sc.lt
  go_wp2_with (first | (go_at_call 79;refine (HC.out _ (by exact HT0.out.sc)).mono ?_;rintro e w3 ⟨rfl,nn3,rfl⟩) | (go_at_call 101;refine (zap _ _).mono ?_;rintro e w4 ⟨rfl,rfl⟩;rw [HL.out]) | (go_at_call 102;refine (zar _ _).mono ?_;rintro e w5 ⟨rfl,rfl⟩;rw [HG.out]))
  refine (HN.out _ (by exact HT0.out.sc)).mono ?_
  rintro e w6 ⟨hok,herr,ho6,a6,ha6,hs6⟩
  obtain ⟨how,hhow,rfl,hs7⟩:=hok rfl
  have HT6:=hd_ ((HT0.out.drewN _).call hs7 ho6)
  clear hok herr ho6 hs6 hs7 c40 c41 c42 c43 c44 f40 f41 f42 f43 f44 c60 c61 c62 c63 c64 f60 f61 f62 f63 f64
  obtain ⟨c40,c41,c42,c43,c44,f40,f41,f42,f43,f44⟩:=blk5 HT6.out.tk;obtain ⟨c60,c61,c62,c63,c64,f60,f61,f62,f63,f64⟩:=blk5 HT6.out.an
  have eh:(how==0)=false:=by rcases hhow with rfl | rfl <;> decide
  go_wp2
  refine bodyPost_ret (v:=.tuple #[.agg #[.int .i64 3,.int .i64 0,.int .i64 N,.string ⟨#[]⟩,.int .i64 a],.int .i64 0]) (by simp [results,Tryz.results80,go_sem, *]) rfl ?_
  exact zhP (tx:=⟨#[]⟩) (by rw [← HR.out];simp only [zbQ,upBy];rw [if_neg (fun h=>by omega)]) (by (repeat (refine Only.setFar ?_ (by omega) _ _));exact HT6.out.on) (by (repeat (refine ScB.setFar ?_ (by omega) _ _));exact HT6.out.sc)
theorem zlg {p:UInt8→Bool} (h0:p 0=false) {s:ByteArray} {a i z:Nat} (hz:span p (s.data.toList.drop a)=z) (hi:i≤z):p (cAt s.data.toList (a+i))=decide (i < z):=by
 rw [← zbu]
 obtain ⟨l,hl⟩:∃ l,s.data.toList.drop a=l:=⟨_,rfl⟩
 rw [hl] at hz ⊢
 clear hl
 induction l generalizing i z with
 | nil=>
  simp [span] at hz
  subst hz
  have:i=0:=by omega
  subst this
  show p 0=_
  rw [h0];rfl
 | cons c l ih=>
  simp only [span] at hz
  cases i with
  | zero=>
   show p c=_
   cases hc:p c with
   | true=>rw [hc,if_pos rfl] at hz;simp;omega
   | false=>rw [hc] at hz;simp at hz;simp;omega
  | succ i=>
   cases hc:p c with
   | true=>
    rw [hc,if_pos rfl] at hz
    have:=ih (i:=i) (z:=z - 1) (by omega) (by omega)
    show p (cAt l i)=_
    rw [this]
    simp only [decide_eq_decide]
    omega
   | false=>rw [hc] at hz;simp at hz;omega
theorem zh8 (l:List UInt8) (z:Nat) (e:Int):(zb3 l z e)=if e≠0 then (tok0,0,e) else (⟨5,0,0,l.take z,0⟩,z,0):=rfl
theorem zhE {s:ByteArray} {a b:Nat} {r:Tok × Nat × Int} (hr:zb3 (s.data.toList.drop a) (1+span zdU (s.data.toList.drop (a+1))) (aParse ((s.data.toList.drop a).take (1+span zdU (s.data.toList.drop (a+1))))).2.2=r) (hP:(cAt s.data.toList a).toNat=37) (hs:s.size≤4294967000) (ha:a < s.size) (w:World) (hx:ScB w b s a) :
  Calls Tryz.prog 80 #[.pointer (some ⟨b,0,none⟩)] w (za3 s a b (upBy a r) w):=by
 have HC:=hd_ (fun W (hW:ScB W b s (a:Int))=>zb0 (i:=0) hs (by omega) (by omega) W hW)
 have HX:=hd_ hx
 have hlt:=hx.lt
 have hss:s.size≤4294967000:=hs
 have a0:(a:Int) < s.size:=by omega
 obtain ⟨c,hc⟩:∃ c,cAt s.data.toList a=c:=⟨_,rfl⟩
 rw [Nat.add_zero,hc] at HC
 obtain ⟨z,hz⟩:∃ z,span zdU (s.data.toList.drop (a+1))=z:=⟨_,rfl⟩
 have hzs:=zdf zdU (s.data.toList.drop (a+1))
 rw [hz,List.length_drop,show s.data.toList.length=s.size from rfl] at hzs
 have HW:=hd_ (fun i (hi:i≤z)=>zlg (p:=zdU) (by decide) (s:=s) (a:=a+1) hz hi)
 obtain ⟨X,hX⟩:∃ X,s.extract a (a+1+z)=X:=⟨_,rfl⟩
 have hXl:X.data.toList=(s.data.toList.drop a).take (1+z):=by
  rw [← hX,ByteArray.data_extract]
  simp only [Array.toList_extract,List.extract_eq_take_drop]
  rw [show a+1+z - a=1+z by omega]
 rw [hz,← hXl] at hr
 obtain ⟨⟨p1,p2,p3⟩,hp⟩:∃ q,aParse X.data.toList=q:=⟨_,rfl⟩
 have hXs:X.size≤140737488351232:=by rw [← hX];simp [ByteArray.size_extract];omega
 have hp3:p3=0∨p3=100:=by
  rcases ziT X.data.toList with h | ⟨q1,q2,_,_,h,_⟩ <;> rw [hp] at h <;> injection h with _ h <;> injection h with _ h
  ·exact .inr h
  ·exact .inl h
 rw [hp] at hr
 have HPQ:=hd_ (fun W=>zei ((zfy X.data.toList).trans hp) hXs W)
 have HS:=hd_ hs
 have HP:Hid (a+1+z≤s.size):=hd_ (by omega)
 have HXE:=hd_ hX
 have HR:Hid (zb3 (s.data.toList.drop a) (1+z) p3=r):=hd_ hr
 have HXL:=hd_ hXl
 rw [hc] at hP
 obtain ⟨e37,el,ed⟩:((c.toNat:Int)==37)=true∧lett c=false∧dig c=false:=⟨by simp [hP],by simp [lett,hP],by simp [dig,hP]⟩
 have HL:=hd_ el
 have HG:=hd_ ed
 have q0:IntKind.i64.wrap ((a:Int)+1)=(a:Int)+1:=IntWalk.i64_in _ (by omega)
 clear hr hs ha hx hc hP hz hzs hX hXl hp hXs el ed
 obtain ⟨x00,x01,g00,g01⟩:=HX.out.cells
 go_enter Tryz.func80,Tryz.ntmps80
 go_upto_region 2 with fail
 have hT0:=TkS.start (A:=(a:Int)) HX.out
 obtain ⟨W0,hW0⟩:∃ W0,W0=(w.alloc (.cells #[.int .i64 0,.int .i64 0,.int .i64 0,.string ⟨#[]⟩,.int .i64 0] 107)).alloc (.cells #[.int .i64 0,.int .i64 0,.int .i64 0,.string ⟨#[]⟩,.int .i64 a] 107):=⟨_,rfl⟩
 rw [← hW0] at hT0 ⊢
 have HT0:=hd_ hT0
 clear hT0 hW0 x00 x01 g00 g01
 obtain ⟨c40,c41,c42,c43,c44,f40,f41,f42,f43,f44⟩:=blk5 HT0.out.tk;obtain ⟨c60,c61,c62,c63,c64,f60,f61,f62,f63,f64⟩:=blk5 HT0.out.an
 obtain ⟨x0,x1,g0,g1⟩:=HT0.out.sc.cells
 have hbl0:=HT0.out.sc.lt
 go_wp2_with (first | (go_at_call 79;refine (HC.out _ (by exact HT0.out.sc)).mono ?_;rintro e w3 ⟨rfl,nn3,rfl⟩) | (go_at_call 101;refine (zap _ _).mono ?_;rintro e w4 ⟨rfl,rfl⟩;rw [HL.out]) | (go_at_call 102;refine (zar _ _).mono ?_;rintro e w5 ⟨rfl,rfl⟩;rw [HG.out]))
 go_loopw [] (fun wr=>∃ i:Nat,i≤z∧Hid (TkS w b s ((a+1+i:Nat):Int) 0 0 0 ⟨#[]⟩ a wr)) (fun wr=>s.size - (intOf ((wr.cell? ⟨b,1,none⟩).getD undef)).toNat)
 case atStart=>exact ⟨0,by omega,hd_ (by rw [show ((a+1+0:Nat):Int)=(a:Int)+1 by omega];exact (HT0.out.drewN _).move _)⟩
 case round=>
  clear HT0 c40 c41 c42 c43 c44 f40 f41 f42 f43 f44 c60 c61 c62 c63 c64 f60 f61 f62 f63 f64 x0 x1 g0 g1 hbl0 HC HL HG q0 e37
  obtain ⟨i,hi,HT⟩:=hrel
  obtain ⟨WR,rfl⟩:∃ WR,WR=wr:=⟨_,rfl⟩
  obtain ⟨q,hq⟩:∃ q,a+1+i=q:=⟨_,rfl⟩
  rw [hq] at HT
  have HQ:=hd_ hq
  have hqs:q≤s.size:=by have:=HP.out;omega
  have hwb:=HW.out i hi
  have HC:=hd_ (fun W (hW:ScB W b s (q:Int))=>zb0 (i:=0) HS.out hqs (by omega) W hW)
  rw [hq] at hwb
  obtain ⟨c,hc⟩:∃ c,cAt s.data.toList q=c:=⟨_,rfl⟩
  rw [Nat.add_zero,hc] at HC
  rw [hc] at hwb
  obtain ⟨c40,c41,c42,c43,c44,f40,f41,f42,f43,f44⟩:=blk5 HT.out.tk;obtain ⟨c60,c61,c62,c63,c64,f60,f61,f62,f63,f64⟩:=blk5 HT.out.an
  obtain ⟨x0,x1,g0,g1⟩:=HT.out.sc.cells
  have hbl:=HT.out.sc.lt
  have q1:IntKind.i64.wrap ((q:Int)+1)=(q:Int)+1:=IntWalk.i64_in _ (by omega)
  clear hc hq
  obtain ⟨l1,hl1⟩:∃ l,lett c=l:=⟨_,rfl⟩
  obtain ⟨l2,hl2⟩:∃ l,dig c=l:=⟨_,rfl⟩
  obtain ⟨l3,hl3⟩:∃ l,((c.toNat:Int) != 95)=l:=⟨_,rfl⟩
  obtain ⟨l4,hl4⟩:∃ l,((c.toNat:Int)==46)=l:=⟨_,rfl⟩
  have HL:=hd_ hl1
  have HG:=hd_ hl2
  have hwb2:((l1&&l3) || l2 || l4)=decide (i < z):=by
   rw [← hwb,← hl1,← hl2,← hl3,← hl4]
   unfold zdU
   have k1:(c.toNat==95)=!((c.toNat:Int) != 95):=by rw [Bool.eq_iff_iff];simp;omega
   have k2:(c.toNat==46)=((c.toNat:Int)==46):=by rw [Bool.eq_iff_iff];simp;omega
   rw [k1,k2,Bool.not_not]
  clear hl1 hl2 hwb
  have hwy:(((l1=true∧l3=true)∨(l1=true∧l3=false∧l2=true)∨(l1=true∧l3=false∧l2=false∧l4=true)∨(l1=false∧l2=true)∨(l1=false∧l2=false∧l4=true))∧i < z)∨(((l1=true∧l3=false∧l2=false∧l4=false)∨(l1=false∧l2=false∧l4=false))∧i=z):=by
   cases l1 <;> cases l2 <;> cases l3 <;> cases l4 <;> simp at hwb2 <;> simp <;> omega
  clear hwb2
  rcases hwy with ⟨hb,hiz⟩ | ⟨hb,hiz⟩
  ·rcases hb with ⟨rfl,rfl⟩ | ⟨rfl,rfl,rfl⟩ | ⟨rfl,rfl,rfl,rfl⟩ | ⟨rfl,rfl⟩ | ⟨rfl,rfl,rfl⟩
   all_goals
    go_wp2_with (first | (go_at_call 79;refine (HC.out _ (by exact HT.out.sc)).mono ?_;rintro e w3 ⟨rfl,nn3,rfl⟩) | (go_at_call 101;refine (zap _ _).mono ?_;rintro e w4 ⟨rfl,rfl⟩;rw [HL.out]) | (go_at_call 102;refine (zar _ _).mono ?_;rintro e w5 ⟨rfl,rfl⟩;rw [HG.out]))
    go_roundw
    case rel=>
     refine ⟨i+1,by omega,hd_ ?_⟩
     rw [show ((a+1+(i+1):Nat):Int)=(q:Int)+1 by have:=HQ.out;omega]
     first | exact (HT.out.drewN _).move _ | exact ((HT.out.drewN _).drewN _).move _ | exact (((HT.out.drewN _).drewN _).drewN _).move _
    case measure=>
     have h5:=fun nd=>(((HT.out.drewN nd).move ((q:Int)+1)).sc).cells.2.1
     simp [h5,x1,intOf];have:=HQ.out;have:=HP.out;omega
  ·have HI:=hd_ hiz
   have q0:(a:Int)≤q:=by have:=HQ.out;omega
   have q2:(q:Int)≤s.size:=by omega
   have q3:0≤(a:Int):=by omega
   have q4:0≤(q:Int):=by omega
   have hqe:a+1+z=q:=by have:=HQ.out;omega
   have hext:s.extract a q=X:=by rw [← HXE.out,hqe]
   have HQE:=hd_ hqe
   clear hiz hqe
   rcases hp3 with rfl | rfl
   ·rcases hb with ⟨rfl,rfl,rfl,rfl⟩ | ⟨rfl,rfl,rfl⟩
    all_goals
     go_wp2_with (first | (go_at_call 79;refine (HC.out _ (by exact HT.out.sc)).mono ?_;rintro e w3 ⟨rfl,nn3,rfl⟩) | (go_at_call 101;refine (zap _ _).mono ?_;rintro e w4 ⟨rfl,rfl⟩;rw [HL.out]) | (go_at_call 102;refine (zar _ _).mono ?_;rintro e w5 ⟨rfl,rfl⟩;rw [HG.out]))
     go_region
     all_goals
      go_wp2_with (go_at_call 40;refine (HPQ.out _).mono ?_;rintro e w9 ⟨rfl,hb9⟩;have HT9:Hid (TkS w b s (q:Int) 5 0 0 X a w9):=hd_ (by first | exact (((HT.out.drewN _).set0 5).set3 X).below hb9 | exact ((((HT.out.drewN _).drewN _).set0 5).set3 X).below hb9 | exact (((((HT.out.drewN _).drewN _).drewN _).set0 5).set3 X).below hb9 | exact ((((((HT.out.drewN _).drewN _).drewN _).drewN _).set0 5).set3 X).below hb9);clear hb9 c40 c41 c42 c43 c44 f40 f41 f42 f43 f44 c60 c61 c62 c63 c64 f60 f61 f62 f63 f64;obtain ⟨c40,c41,c42,c43,c44,f40,f41,f42,f43,f44⟩:=blk5 HT9.out.tk;obtain ⟨c60,c61,c62,c63,c64,f60,f61,f62,f63,f64⟩:=blk5 HT9.out.an)
      refine bodyPost_ret (v:=.tuple #[.agg #[.int .i64 5,.int .i64 0,.int .i64 0,.string X,.int .i64 a],.int .i64 0]) (by simp [results,Tryz.results80,go_sem, *]) rfl ?_
      exact zhP (q:=q) (by rw [← HR.out,zh8,if_neg (by simp),← HXL.out];simp only [upBy];rw [← HQE.out,Nat.add_assoc]) (by (repeat (refine Only.setFar ?_ (by omega) _ _));exact HT9.out.on) (by (repeat (refine ScB.setFar ?_ (by omega) _ _));exact HT9.out.sc)
   ·rcases hb with ⟨rfl,rfl,rfl,rfl⟩ | ⟨rfl,rfl,rfl⟩
    all_goals
     go_wp2_with (first | (go_at_call 79;refine (HC.out _ (by exact HT.out.sc)).mono ?_;rintro e w3 ⟨rfl,nn3,rfl⟩) | (go_at_call 101;refine (zap _ _).mono ?_;rintro e w4 ⟨rfl,rfl⟩;rw [HL.out]) | (go_at_call 102;refine (zar _ _).mono ?_;rintro e w5 ⟨rfl,rfl⟩;rw [HG.out]))
     go_region
     all_goals
      go_wp2_with (go_at_call 40;refine (HPQ.out _).mono ?_;rintro e w9 ⟨rfl,hb9⟩;have HT9:Hid (TkS w b s (q:Int) 5 0 0 X a w9):=hd_ (by first | exact (((HT.out.drewN _).set0 5).set3 X).below hb9 | exact ((((HT.out.drewN _).drewN _).set0 5).set3 X).below hb9 | exact (((((HT.out.drewN _).drewN _).drewN _).set0 5).set3 X).below hb9 | exact ((((((HT.out.drewN _).drewN _).drewN _).drewN _).set0 5).set3 X).below hb9);clear hb9 c40 c41 c42 c43 c44 f40 f41 f42 f43 f44 c60 c61 c62 c63 c64 f60 f61 f62 f63 f64;obtain ⟨c40,c41,c42,c43,c44,f40,f41,f42,f43,f44⟩:=blk5 HT9.out.tk;obtain ⟨c60,c61,c62,c63,c64,f60,f61,f62,f63,f64⟩:=blk5 HT9.out.an)
      refine bodyPost_ret (v:=.tuple #[.agg #[.int .i64 5,.int .i64 0,.int .i64 0,.string X,.int .i64 a],.int .i64 100]) (by simp [results,Tryz.results80,go_sem, *]) rfl ?_
      exact zbl (by rw [← HR.out,zh8,if_pos (by simp)];rfl) (by decide) (by (repeat (refine Only.setFar ?_ (by omega) _ _));exact HT9.out.on)
theorem zfk {w:World} {g b o p:Nat} {u v:Value} (h:w.cell? ⟨g,o,none⟩=some v) (hne:g≠b):(w.setCell ⟨b,p,none⟩ u).cell? ⟨g,o,none⟩=some v:=by
 unfold World.cell? at h ⊢
 rw [Below.heap_setCell _ _ _ _ (by simpa using hne)]
 exact h
theorem zle (j:Nat) (hj:j < 21) (W:World):(W.alloc (.cells (SG.map fun l=>Value.string ⟨l.toArray⟩).toArray 9)).cell? ⟨W.heap.size,j,none⟩=some (.string (mkS (SG.getD j []))):=by
 rw [World.cell?_alloc_at _ _ _ _ rfl]
 exact zmy j hj
theorem zny (j:Nat) (hj:j < 21):1≤(SG.getD j []).length∧(SG.getD j []).length≤2:=by
 have key:∀ j,j < 21→1≤(SG.getD j []).length∧(SG.getD j []).length≤2:=by decide
 exact key j hj
theorem zhF {s:ByteArray} {a b:Nat} {r:Tok × Nat × Int} (hr:zcT (s.data.toList.drop a) SG=r) (hL:lett (cAt s.data.toList a)=false) (hG:dig (cAt s.data.toList a)=false) (hP:(cAt s.data.toList a).toNat≠37) (hs:s.size≤4294967000) (ha:a < s.size) (w:World) (hx:ScB w b s a) :
  Calls Tryz.prog 80 #[.pointer (some ⟨b,0,none⟩)] w (za3 s a b (upBy a r) w):=by
 have HC:=hd_ (fun W (hW:ScB W b s (a:Int))=>zb0 (i:=0) hs (by omega) (by omega) W hW)
 have HX:=hd_ hx
 have hlt:=hx.lt
 have hss:s.size≤4294967000:=hs
 have a0:(a:Int) < s.size:=by omega
 obtain ⟨c,hc⟩:∃ c,cAt s.data.toList a=c:=⟨_,rfl⟩
 rw [Nat.add_zero,hc] at HC
 rw [hc] at hL hG hP
 have HL:=hd_ hL
 have HG:=hd_ hG
 have HR0:Hid (zcT (s.data.toList.drop a) (SG.drop 0)=r):=hd_ hr
 have e37:((c.toNat:Int)==37)=false:=by simp;omega
 have ha1:a≤s.size:=by omega
 clear hr hL hG hs ha hx hc hP
 obtain ⟨x00,x01,g00,g01⟩:=HX.out.cells
 go_enter Tryz.func80,Tryz.ntmps80
 go_upto_region 2 with fail
 have hT0:=TkS.start (A:=(a:Int)) HX.out
 obtain ⟨W0,hW0⟩:∃ W0,W0=(w.alloc (.cells #[.int .i64 0,.int .i64 0,.int .i64 0,.string ⟨#[]⟩,.int .i64 0] 107)).alloc (.cells #[.int .i64 0,.int .i64 0,.int .i64 0,.string ⟨#[]⟩,.int .i64 a] 107):=⟨_,rfl⟩
 rw [← hW0] at hT0 ⊢
 have HT0:=hd_ hT0
 clear hT0 hW0 x00 x01 g00 g01
 obtain ⟨c40,c41,c42,c43,c44,f40,f41,f42,f43,f44⟩:=blk5 HT0.out.tk;obtain ⟨c60,c61,c62,c63,c64,f60,f61,f62,f63,f64⟩:=blk5 HT0.out.an
 obtain ⟨x0,x1,g0,g1⟩:=HT0.out.sc.cells
 have hbl0:=HT0.out.sc.lt
 go_wp2_with (first | (go_at_call 79;refine (HC.out _ (by exact HT0.out.sc)).mono ?_;rintro e w3 ⟨rfl,nn3,rfl⟩) | (go_at_call 101;refine (zap _ _).mono ?_;rintro e w4 ⟨rfl,rfl⟩;rw [HL.out]) | (go_at_call 102;refine (zar _ _).mono ?_;rintro e w5 ⟨rfl,rfl⟩;rw [HG.out]))
 have hT1:=HT0.out.drewN nn3
 obtain ⟨W1,hW1⟩:∃ W1,W1=W0.drewN nn3:=⟨_,rfl⟩
 rw [← hW1] at hT1 ⊢
 have hcell:=fun j hj=>zle j hj W1
 obtain ⟨W2,hW2⟩:∃ W2,W2=W1.alloc (.cells (SG.map fun l=>Value.string ⟨l.toArray⟩).toArray 9):=⟨_,rfl⟩
 have hT2:=hT1.below (br_.alloc nl_ (.cells (SG.map fun l=>Value.string ⟨l.toArray⟩).toArray 9))
 have hgoal:W1.alloc (.cells (SG.map fun l=>Value.string ⟨l.toArray⟩).toArray 9)=W1.alloc (.cells #[.string ⟨#[58,61]⟩,.string ⟨#[46,46]⟩,.string ⟨#[60,61]⟩,.string ⟨#[62,61]⟩,.string ⟨#[60,62]⟩,.string ⟨#[61,62]⟩,.string ⟨#[58]⟩,.string ⟨#[59]⟩,.string ⟨#[44]⟩,.string ⟨#[46]⟩,.string ⟨#[40]⟩,.string ⟨#[41]⟩,.string ⟨#[91]⟩,.string ⟨#[93]⟩,.string ⟨#[61]⟩,.string ⟨#[60]⟩,.string ⟨#[62]⟩,.string ⟨#[43]⟩,.string ⟨#[45]⟩,.string ⟨#[42]⟩,.string ⟨#[47]⟩] 9):=rfl
 rw [← hgoal]
 rw [← hW2] at hcell hT2 ⊢
 have HCL:=hd_ hcell
 have HT2:=hd_ hT2
 obtain ⟨g,hg⟩:∃ g,W0.heap.size=g:=⟨_,rfl⟩
 have hg2:W1.heap.size=g:=by rw [hW1];exact hg
 rw [hg2] at HCL
 rw [hg]
 have hgb:b < g:=by rw [← hg];have:=HT0.out.sc.lt;exact this
 have hgw:w.heap.size+1 < g:=by
  rw [← hg]
  have h:=HT0.out.tk
  rcases Nat.lt_or_ge (w.heap.size+1) W0.heap.size with h1 | h1
  ·exact h1
  ·rw [Array.getElem?_eq_none h1] at h;cases h
 clear hT1 hT2 hcell hW1 hW2 hgoal hg hg2 HT0 c40 c41 c42 c43 c44 f40 f41 f42 f43 f44 c60 c61 c62 c63 c64 f60 f61 f62 f63 f64 x0 x1 g0 g1 hbl0 HC HL HG e37
 obtain ⟨c40,c41,c42,c43,c44,f40,f41,f42,f43,f44⟩:=blk5 HT2.out.tk;obtain ⟨c60,c61,c62,c63,c64,f60,f61,f62,f63,f64⟩:=blk5 HT2.out.an
 obtain ⟨x0,x1,g0,g1⟩:=HT2.out.sc.cells
 have hbl:=HT2.out.sc.lt
 go_loopw [13] (fun ii wr=>∃ i:Nat,i≤21∧ii=.int .i64 i∧Hid (zcT (s.data.toList.drop a) (SG.drop i)=r)∧∃ nd,wr=W2.drewN nd) (fun ii _=>21 - (intOf ii).toNat)
 case atStart=>exact ⟨0,by omega,rfl,HR0,0,rfl⟩
 case round=>
  clear HR0
  obtain ⟨i,hi,rfl,HD,nd,rfl⟩:=hrel
  by_cases hlt2:i < 21
  ·have hc:=HCL.out i hlt2
   have hsg:=zmz (s.data.toList.drop a) i hlt2
   have hln:=zny i hlt2
   obtain ⟨gl,hgl⟩:∃ gl,SG.getD i []=gl:=⟨_,rfl⟩
   rw [hgl] at hc hsg hln
   rw [HD.out] at hsg
   obtain ⟨h,hh⟩:∃ h,mkS gl=h:=⟨_,rfl⟩
   have hsz:h.size=gl.length:=by rw [← hh];simp [mkS,ByteArray.size]
   rw [hh] at hc
   rw [← hsz] at hln
   have i0:0≤(i:Int):=by omega
   have i1:(i:Int) < 21:=by omega
   obtain ⟨m0,m1⟩:=hln
   have hcs:=fun nd v=>zfk (b:=b) (p:=1) (u:=v) (show (W2.drewN nd).cell? ⟨g,i,none⟩=some (.string h) from hc) (by omega)
   have hct:=fun nd v v'=>zfk (b:=w.heap.size+1) (p:=0) (u:=v') (hcs nd v) (by omega)
   have HM:=hd_ hsz
   have w1:IntKind.i64.wrap ((a:Int)+h.size)=(a:Int)+h.size:=IntWalk.i64_in _ (by omega)
   have b0:0≤(a:Int):=by omega
   have b1:0≤(a:Int)+h.size:=by omega
   have b2:((a:Int)+h.size).toNat=a+h.size:=by omega
   have b3:(a:Int)≤(a:Int)+h.size:=by omega
   clear hsz hgl HD
   by_cases hfit:a+h.size≤s.size
   ·have f1:(a:Int)+h.size≤s.size:=by omega
    have hpe:=zlF (s:=s) (a:=a) (h:=gl) (by rw [← HM.out];exact hfit)
    rw [← HM.out] at hpe
    have hbt:h.toList=gl:=by rw [← hh,ByteArray.toList_eq];simp [mkS]
    obtain ⟨d,hd⟩:∃ d,((s.extract a (a+h.size)).toList==h.toList)=d:=⟨_,rfl⟩
    rw [← hbt,hd] at hpe
    have HPE:=hd_ hpe
    have HBT:=hd_ hbt
    have HSG:=hd_ hsg
    have hh2:h.data.toList=gl:=by rw [← hh];simp [mkS]
    have HH2:=hd_ hh2
    clear hpe hbt hh hsg hh2
    cases d with
    | false=>
     go_wp2
     go_quiet (fail)
     go_wp2
     go_roundw
     case rel=>
      refine ⟨i+1,by omega,by go_num,hd_ ?_,_,rfl⟩
      have h1:=HSG.out
      rw [← HBT.out,← HPE.out] at h1
      simpa using h1.symm
     case measure=>simp [intOf];omega
    | true=>
     go_wp2
     go_quiet (fail)
     go_upto_region 43 with fail
     go_cut [] from 227 to 239 (fun wx=>TkS w b s ((a:Int)+h.size) 0 0 0 ⟨#[]⟩ a wx∧wx.cell? ⟨g,i,none⟩=some (.string h))
     case first=>
      go_region
      all_goals go_wp2_with fail
      all_goals go_meet
      all_goals exact ⟨by first | exact (HT2.out.drewN _).move _ | exact ((HT2.out.drewN _).move _).drewN 1 | exact ((HT2.out.drewN _).drewN _).move _,by first | exact hcs _ _ | exact hcs _ _⟩
     case rest=>
     clear hcs hct c40 c41 c42 c43 c44 f40 f41 f42 f43 f44 c60 c61 c62 c63 c64 f60 f61 f62 f63 f64 x0 x1 g0 g1 hbl
     obtain ⟨hT3,hc3⟩:=hcut
     have HT3:=hd_ hT3
     clear hT3
     obtain ⟨c40,c41,c42,c43,c44,f40,f41,f42,f43,f44⟩:=blk5 HT3.out.tk;obtain ⟨c60,c61,c62,c63,c64,f60,f61,f62,f63,f64⟩:=blk5 HT3.out.an
     have hgl:=zac hc3
     have hc4:=zfk (b:=w.heap.size+1) (p:=0) (u:=.int .i64 6) hc3 (by omega)
     go_upto_region 44 with fail
     go_cut [] from 240 to 245 (fun wx=>TkS w b s ((a:Int)+h.size) 6 0 0 h a wx)
     case first=>
      go_region
      all_goals go_wp2_with fail
      all_goals go_meet
      all_goals first | exact ((HT3.out.set0 6).set3 h) | exact ((HT3.out.set0 6).set3 h).drewN 1 | exact ((HT3.out.drewN 1).set0 6).set3 h
     case rest=>
     clear c40 c41 c42 c43 c44 f40 f41 f42 f43 f44 c60 c61 c62 c63 c64 f60 f61 f62 f63 f64 hc3 hc4
     have HT9:=hd_ hcut
     clear hcut HT3
     obtain ⟨c40,c41,c42,c43,c44,f40,f41,f42,f43,f44⟩:=blk5 HT9.out.tk;obtain ⟨c60,c61,c62,c63,c64,f60,f61,f62,f63,f64⟩:=blk5 HT9.out.an
     go_wp2
     refine bodyPost_ret (v:=.tuple #[.agg #[.int .i64 6,.int .i64 0,.int .i64 0,.string h,.int .i64 a],.int .i64 0]) (by simp [results,Tryz.results80,go_sem, *]) rfl ?_
     refine zhP (q:=a+h.size) ?_ (by (repeat (refine Only.setFar ?_ (by omega) _ _));exact HT9.out.on) (by rw [show ((a+h.size:Nat):Int)=(a:Int)+h.size by omega];(repeat (refine ScB.setFar ?_ (by omega) _ _));exact HT9.out.sc)
     have h1:=HSG.out
     rw [← HBT.out,← HPE.out,if_pos rfl] at h1
     rw [h1]
     simp only [upBy]
     rw [HBT.out,← HM.out,HH2.out]
   ·have f1:¬ (a:Int)+h.size≤s.size:=by omega
    have f2:decide ((a:Int)+h.size≤s.size)=false:=by simp;omega
    have hno:Lib.hasPrefix (s.data.toList.drop a) gl=false:=zgu (by rw [← HM.out];exact hfit) ha1
    have HSG:=hd_ hsg
    have HNO:=hd_ hno
    clear hno hh hsg
    go_wp2
    go_quiet (fail)
    go_wp2
    go_roundw
    case rel=>
     refine ⟨i+1,by omega,by go_num,hd_ ?_,_,rfl⟩
     have h1:=HSG.out
     rw [HNO.out] at h1
     simpa using h1.symm
    case measure=>simp [intOf];omega
  ·have h3:i=21:=by omega
   have HE:Hid ((tok0,0,120)=r):=hd_ (by have h:=HD.out;rw [h3] at h;exact h)
   have i1:¬ (i:Int) < 21:=by omega
   clear HD h3
   go_wp2
   refine bodyPost_ret (v:=.tuple #[.agg #[.int .i64 0,.int .i64 0,.int .i64 0,.string ⟨#[]⟩,.int .i64 a],.int .i64 120]) (by simp [results,Tryz.results80,go_sem, *]) rfl ?_
   exact zbl (by rw [← HE.out];rfl) (by decide) (by (repeat (refine Only.setFar ?_ (by omega) _ _));exact HT2.out.on.drewN _)
theorem zgM {s:ByteArray} {a b:Nat} {r:Tok × Nat × Int} (hr:zbZ (s.data.toList.drop a)=r) (hN:(cAt s.data.toList a).toNat≠10) (hs:s.size≤4294967000) (ha:a < s.size) (w:World) (hx:ScB w b s a) :
  Calls Tryz.prog 80 #[.pointer (some ⟨b,0,none⟩)] w (za3 s a b (upBy a r) w):=by
 have hcons:s.data.toList.drop a=cAt s.data.toList a::s.data.toList.drop (a+1):=by
  rw [zeO ha];exact zc2 ha
 rw [hcons] at hr
 simp only [zbZ] at hr
 by_cases hL:lett (cAt s.data.toList a)=true
 ·rw [if_pos ⟨hN,hL⟩,← hcons] at hr
  exact zhG hr hL hs ha w hx
 ·have hL':lett (cAt s.data.toList a)=false:=by simpa using hL
  rw [if_neg (fun h=>hL h.2)] at hr
  simp only [zdk] at hr
  rw [if_neg hN,if_neg hL] at hr
  by_cases hG:dig (cAt s.data.toList a)=true
  ·rw [if_pos hG,← hcons] at hr
   exact zfQ hr hL' hG hs ha w hx
  ·have hG':dig (cAt s.data.toList a)=false:=by simpa using hG
   rw [if_neg hG] at hr
   by_cases hP:(cAt s.data.toList a).toNat=37
   ·rw [if_pos hP,← hcons] at hr
    exact zhE hr hP hs ha w hx
   ·rw [if_neg hP,← hcons] at hr
    exact zhF hr hL' hG' hP hs ha w hx
end Go.Proofs.YtdpkjpjkdmkkpaaGreatDoor
