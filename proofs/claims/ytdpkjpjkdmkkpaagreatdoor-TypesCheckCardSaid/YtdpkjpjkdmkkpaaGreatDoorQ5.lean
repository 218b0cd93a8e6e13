/- The reference's parser, weakly: unary. -/
import Derived.Test.YtdpkjpjkdmkkpaaGreatDoorQB
import Derived.Test.YtdpkjpjkdmkkpaaGreatDoorMU
set_option maxRecDepth 100000
set_option maxHeartbeats 16000000
namespace Go.Proofs.YtdpkjpjkdmkkpaaGreatDoor
open Go.RowKit Lx Pa
theorem zhq {w:World} {lo G sz:Nat} {vs:Array Value} {T:TypeId} (h:Bl w G vs T) (hl:lo≤G) (hs:vs.size=1*sz:=by rfl):w.ownsRow lo T sz (.slice (some ⟨G,0,none⟩) 1 1) 1 vs.toList:=by
 refine ⟨by rw [Array.length_toList,hs],.inr ⟨G,1,vs,rfl,hl,h,Nat.le_refl _,by decide,hs,?_⟩⟩
 rw [← hs,← Array.length_toList,List.take_length]
theorem zcS {w:World} {X Z o:Nat} {u a0 a1 a2 a3 a4 a5 a6:Value} (h:w.cell? ⟨Z,o,none⟩=some u) (hn:X≠Z) :
  (((((((w.setCell ⟨X,0,none⟩ a0).setCell ⟨X,1,none⟩ a1).setCell ⟨X,2,none⟩ a2).setCell ⟨X,3,none⟩ a3).setCell ⟨X,4,none⟩ a4).setCell ⟨X,5,none⟩ a5).setCell ⟨X,6,none⟩ a6).cell? ⟨Z,o,none⟩=some u:=by
 have key:∀ (W:World) (k:Nat) (v:Value),(W.setCell ⟨X,k,none⟩ v).cell? ⟨Z,o,none⟩=W.cell? ⟨Z,o,none⟩:=fun W k v=>World.cell?_setCell_other _ _ _ _ (fun h=>hn (by injection h))
 rw [key,key,key,key,key,key,key,h]
theorem zam {w w':World} {b lo sz n:Nat} {T:TypeId} {fv:Value} {cs:List Value} (h:w.ownsRow lo T sz fv n cs) (ho:Only b w w') (hb:b < lo):w'.ownsRow lo T sz fv n cs:=by
 refine h.kept ho.grown ?_
 cases hv:fv.ownBlock with
 | none=>exact .inl rfl
 | some k=>have:=(h.lt k hv).1;exact .inr (by simp;omega)
theorem zaj {w:World} {X o lo sz n:Nat} {T:TypeId} {fv u:Value} {cs:List Value} (h:w.ownsRow lo T sz fv n cs) (hne:some X≠fv.ownBlock):(w.setCell ⟨X,o,none⟩ u).ownsRow lo T sz fv n cs:=by
 refine h.kept ((Only.refl X w).setCell o u).grown ?_
 cases hv:fv.ownBlock with
 | none=>exact .inl rfl
 | some k=>exact .inr (fun h9=>hne (by rw [hv];exact h9.symm))
theorem zfm:(Tryz.prog.info? 112).map (fun i=>(i.zero,i.size,i.bytes))=some (some (.agg #[.int .i64 0,.int .i64 0,.int .i64 0,.string ⟨#[]⟩,.string ⟨#[]⟩,.slice none 0 0,.int .i64 0]),7,88):=by kernel_rfl
theorem zj1 {deep:Int} (h0:0≤deep) (h9:deep≤32) (hE:zjc (deep+1)) (hV:VarC deep) (hU:deep+1≤32→zh1 (deep+1)):zh1 deep:=by
 intro b g cap k ts s hg hk w hx
 have F0:=hd_ (Fr.start hx)
 have HG:=hd_ hg
 have n1:w.heap.size≠b:=by have:=hx.pb.lt;omega
 have HLE:=hd_ hx.le
 have HEN:=hd_ hx.ends
 have HEX:=hd_ hE
 have HVA:=hd_ hV
 have HUN:=hd_ hU
 have M0:=hd_ (Mv.refl ts s)
 have hf4:=zbc
 obtain ⟨i0,hi9,hz0,hz1,hz2⟩:=info_parts zfm
 have HI:=hd_ (And.intro hi9 (And.intro hz0 (And.intro hz1 hz2)))
 clear hi9 hz0 hz1 hz2
 have hwd:IntKind.i64.wrap (deep+1)=deep+1:=IntWalk.i64_in _ (by omega)
 clear hg hx hE hV hU
 go_enter Tryz.func138,Tryz.ntmps138
 go_wp2_with fail
 refine (zcb HG.out (F0.out.alloc _).par).mono ?_
 rintro e w1 ⟨tk,tkd,tnn,tx,tta,rfl,ht,hb⟩
 have F1:=hd_ ((F0.out.alloc _).below hb)
 have R1:=hd_ ((Bl.new w #[.int .i64 0,.int .i64 0,.int .i64 0,.string ⟨#[]⟩,.string ⟨#[]⟩,.slice none 0 0,.int .i64 0] 112).below hb)
 have HT:=hd_ ht
 obtain ⟨txb,hxb⟩:∃ x:ByteArray,(⟨tx.toArray⟩:ByteArray)=x:=⟨_,rfl⟩
 rw [hxb]
 clear hb ht hxb F0
 go_upto_region 2 with fail
 refine zaa (P:=Code.wp _ _ _ _) (F:=fun W=>Fr w b g cap ts s W∧Bl W w.heap.size #[.int .i64 0,.int .i64 0,.int .i64 0,.string ⟨#[]⟩,.string ⟨#[]⟩,.slice none 0 0,.int .i64 0] 112∧Bl W w1.heap.size #[.int .i64 tk,.int .i64 tkd,.int .i64 tnn,.string txb,.int .i64 tta] 107)
  ⟨F1.out.alloc _,R1.out.alloc _,Bl.new _ _ _⟩ ?_
 have hZ1:w1.heap.size≠b:=by have:=F1.out.size;have:=F1.out.lt.1;omega
 have hZ0:w.heap.size < w1.heap.size:=R1.out.lt
 clear F1 R1
 intro w2 ⟨F2,R2,T2⟩
 obtain ⟨Z,hZ⟩:∃ Z,w1.heap.size=Z:=⟨_,rfl⟩
 rw [hZ] at T2 hZ1 hZ0 ⊢
 clear hZ
 have F2:=hd_ F2
 have R2:=hd_ R2
 have T2:=hd_ T2
 go_wp2_with fail
 refine (zaO ⟨#[45]⟩ (M0.out.good k HG.out) (by omega) F2.out.par).mono ?_
 rintro e w3 ⟨r,s3,rfl,⟨hm,ht,hf⟩,ho,hp⟩
 have F3:=hd_ (F2.out.call ho hp)
 have R3:=hd_ (R2.out.only ho n1)
 have T3:=hd_ (T2.out.only ho hZ1)
 clear ho hp
 clear F2 R2 T2
 cases r with
 | true=>
  have M3:=hd_ ((M0.out.trans hm).zero (ht rfl).2.1)
  clear hm ht hf M0
  by_cases hdp:32 < deep+1
  ·go_wp2_with fail
   refine (zcb (M3.out.good k HG.out) F3.out.par).mono ?_
   rintro e w4 ⟨tk2,tkd2,tnn2,tx2,tta2,rfl,ht,hb⟩
   have F4:=hd_ (F3.out.below hb)
   have R4:=hd_ (R3.out.below hb)
   have T4:=hd_ (T3.out.below hb)
   clear hb ht
   go_wp2_with fail
   refine (zb7 (by decide) F4.out.par).mono ?_
   rintro e w5 ⟨s5,rfl,⟨hm,_⟩,ho,hp⟩
   have F5:=hd_ (F4.out.call ho hp)
   have R5:=hd_ (R4.out.only ho n1)
   have T5:=hd_ (T4.out.only ho hZ1)
   have M5:=hd_ ((M3.out.trans hm).mono (by omega:0+0≤1))
   clear ho hp hm
   obtain ⟨r0,r1,r2,r3,r4,r5,r6⟩:=R5.out.cells7
   obtain ⟨g0,g1,g2,g3,g4,g5,g6⟩:=R5.out.free7
   have k2:=R5.out.lt
   go_wp2_with fail
   refine zaa (P:=bodyPost _ _ _ _ _) (F:=fun W=>Fr w b g cap ts s5 W∧Bl W w.heap.size #[.int .i64 0,.int .i64 0,.int .i64 0,.string ⟨#[]⟩,.string ⟨#[]⟩,.slice none 0 0,.int .i64 0] 112)
    ⟨((((((F5.out.far nl_ _ _).far nl_ _ _).far nl_ _ _).far nl_ _ _).far nl_ _ _).far nl_ _ _).far nl_ _ _,R5.out.set7⟩ ?_
   clear r0 r1 r2 r3 r4 r5 r6 g0 g1 g2 g3 g4 g5 g6 k2
   intro wz ⟨FZ,RZ⟩
   obtain ⟨r0,r1,r2,r3,r4,r5,r6⟩:=RZ.cells7
   refine bodyPost_ret (v:=.agg #[.int .i64 0,.int .i64 0,.int .i64 0,.string ⟨#[]⟩,.string ⟨#[]⟩,.slice none 0 0,.int .i64 0]) (by simp [results,Tryz.results138,go_sem, *]) rfl ?_
   exact ⟨_,_,rfl,⟨_,_,_,_,_,_,_,_,_,rfl⟩,M5.out,FZ.only,FZ.par⟩
  ·have hdu:deep+1≤32:=by omega
   have HUD:=hd_ (HUN.out hdu)
   obtain ⟨t0,t1,t2,t3,t4⟩:=T3.out.cells5
   have k5:=T3.out.lt
   obtain ⟨bn,hbn⟩:∃ x,(txb.toList==[78,79,84])=x:=⟨_,rfl⟩
   obtain ⟨opn,hopn⟩:∃ x:Int,(if bn=true then 4 else 3)=x:=⟨_,rfl⟩
   have HOP:=hd_ hopn
   clear hopn
   go_upto_region 8 with fail
   refine zaa (P:=Code.wp _ _ _ _) (F:=fun W=>Fr w b g cap ts s3 W∧Bl W w.heap.size #[.int .i64 0,.int .i64 0,.int .i64 0,.string ⟨#[]⟩,.string ⟨#[]⟩,.slice none 0 0,.int .i64 0] 112∧Bl W Z #[.int .i64 tk,.int .i64 tkd,.int .i64 tnn,.string txb,.int .i64 tta] 107∧Bl W w3.heap.size #[.int .i64 3,.int .i64 0,.int .i64 0,.string ⟨#[]⟩,.string ⟨#[]⟩,.slice none 0 0,.int .i64 tta] 112)
    ⟨F3.out.alloc _,R3.out.alloc _,T3.out.alloc _,Bl.new _ _ _⟩ ?_
   have hY1:w3.heap.size≠b:=by have:=F3.out.size;have:=F3.out.lt.1;omega
   have hY0:w.heap.size < w3.heap.size:=R3.out.lt
   clear F3 R3 T3 t0 t1 t2 t3 t4 k5
   intro w4 ⟨F4,R4,T4,E4⟩
   obtain ⟨Y,hY⟩:∃ Y,w3.heap.size=Y:=⟨_,rfl⟩
   rw [hY] at E4 hY1 hY0 ⊢
   clear hY
   obtain ⟨-,-,-,t3,-⟩:=T4.cells5
   have k5:=T4.lt
   obtain ⟨q0,-,-,-,-,-,-⟩:=E4.cells7
   obtain ⟨f0,-,-,-,-,-,-⟩:=E4.free7
   have k3:=E4.lt
   have F4:=hd_ F4
   have R4:=hd_ R4
   have E4:=hd_ E4
   clear T4
   cases bn with
   | true=>
    obtain rfl:(4:Int)=opn:=HOP.out
    go_upto_region 10 with fail
    refine zaa (P:=Code.wp _ _ _ _) (F:=fun W=>Fr w b g cap ts s3 W∧Bl W w.heap.size #[.int .i64 0,.int .i64 0,.int .i64 0,.string ⟨#[]⟩,.string ⟨#[]⟩,.slice none 0 0,.int .i64 0] 112∧Bl W Y #[.int .i64 4,.int .i64 0,.int .i64 0,.string ⟨#[]⟩,.string ⟨#[]⟩,.slice none 0 0,.int .i64 tta] 112)
     ⟨F4.out.far (X:=Y) (by omega) _ _,R4.out.other (Y:=Y) (by omega) _ _,by simpa using E4.out.set 0 (.int .i64 4)⟩ ?_
    clear q0 f0 k3 t3 k5 F4 R4 E4
    intro w5 ⟨F5,R5,E5⟩
    have F5:=hd_ F5
    have R5:=hd_ R5
    have E5:=hd_ E5
    go_wp2_with fail
    refine (HUD.out _ _ _ _ _ _ (M3.out.good k HG.out) (by omega) w5 F5.out.par).mono ?_
    rintro e w6 ⟨v,s6,rfl,⟨op5,kd5,nn5,nm5,fl5,a5,ln5,c5,ta5,rfl⟩,hm,ho,hp⟩
    have F6:=hd_ (F5.out.call ho hp)
    have R6:=hd_ (R5.out.only ho n1)
    have E6:=hd_ (E5.out.only ho hY1)
    have M6:=hd_ (M3.out.trans hm)
    clear hm ho hp F5 R5 E5 M3
    obtain ⟨-,-,-,-,-,q5,-⟩:=E6.out.cells7
    obtain ⟨-,-,-,-,-,f5,-⟩:=E6.out.free7
    have k3:=E6.out.lt
    go_upto_region 11 with fail
    refine zaa (P:=Code.wp _ _ _ _) (F:=fun W=>Fr w b g cap ts s6 W∧Bl W w.heap.size #[.int .i64 0,.int .i64 0,.int .i64 0,.string ⟨#[]⟩,.string ⟨#[]⟩,.slice none 0 0,.int .i64 0] 112∧Bl W Y #[.int .i64 4,.int .i64 0,.int .i64 0,.string ⟨#[]⟩,.string ⟨#[]⟩,.slice (some ⟨w6.heap.size,0,none⟩) 1 1,.int .i64 tta] 112)
     ⟨(F6.out.far (X:=Y) (by omega) _ _).alloc _,(R6.out.other (Y:=Y) (by omega) _ _).alloc _,(Bl.alloc (vs:=#[.int .i64 4,.int .i64 0,.int .i64 0,.string ⟨#[]⟩,.string ⟨#[]⟩,.slice (some ⟨w6.heap.size,0,none⟩) 1 1,.int .i64 tta]) (by simpa using E6.out.set 5 (.slice (some ⟨w6.heap.size,0,none⟩) 1 1)) _)⟩ ?_
    clear q5 f5 k3 F6 R6 E6
    intro w9 ⟨F9,R9,E9⟩
    have F9:=hd_ F9
    have R9:=hd_ R9
    have E9:=hd_ E9
    obtain ⟨q0,q1,q2,q3,q4,q5,q6⟩:=E9.out.cells7
    have k3:=E9.out.lt
    obtain ⟨r0,r1,r2,r3,r4,r5,r6⟩:=R9.out.cells7
    obtain ⟨g0,g1,g2,g3,g4,g5,g6⟩:=R9.out.free7
    have k2:=R9.out.lt
    go_wp2_with fail
    refine zaa (P:=bodyPost _ _ _ _ _) (F:=fun W=>Fr w b g cap ts s6 W∧Bl W w.heap.size #[.int .i64 4,.int .i64 0,.int .i64 0,.string ⟨#[]⟩,.string ⟨#[]⟩,.slice (some ⟨w6.heap.size,0,none⟩) 1 1,.int .i64 tta] 112)
     ⟨((((((F9.out.far nl_ _ _).far nl_ _ _).far nl_ _ _).far nl_ _ _).far nl_ _ _).far nl_ _ _).far nl_ _ _,R9.out.set7⟩ ?_
    clear r0 r1 r2 r3 r4 r5 r6 g0 g1 g2 g3 g4 g5 g6 k2
    clear q0 q1 q2 q3 q4 q5 q6 k3
    intro wz ⟨FZ,RZ⟩
    obtain ⟨r0,r1,r2,r3,r4,r5,r6⟩:=RZ.cells7
    refine bodyPost_ret (v:=.agg #[.int .i64 4,.int .i64 0,.int .i64 0,.string ⟨#[]⟩,.string ⟨#[]⟩,.slice (some ⟨w6.heap.size,0,none⟩) 1 1,.int .i64 tta]) (by simp [results,Tryz.results138,go_sem, *]) rfl ?_
    exact ⟨_,_,rfl,⟨_,_,_,_,_,_,_,_,_,rfl⟩,M6.out,FZ.only,FZ.par⟩
   | false=>
    obtain rfl:(3:Int)=opn:=HOP.out
    clear q0 f0 k3
    have F5:=F4
    have R5:=R4
    have E5:=E4
    clear F4 R4 E4
    have hww:w4=w4:=rfl
    obtain ⟨w5,hw2⟩:∃ W,w4=W:=⟨_,rfl⟩
    rw [hw2] at F5 R5 E5 t3 k5 ⊢
    clear hw2 hww
    go_wp2_with fail
    clear t3 k5
    refine (HUD.out _ _ _ _ _ _ (M3.out.good k HG.out) (by omega) w5 F5.out.par).mono ?_
    rintro e w6 ⟨v,s6,rfl,⟨op5,kd5,nn5,nm5,fl5,a5,ln5,c5,ta5,rfl⟩,hm,ho,hp⟩
    have F6:=hd_ (F5.out.call ho hp)
    have R6:=hd_ (R5.out.only ho n1)
    have E6:=hd_ (E5.out.only ho hY1)
    have M6:=hd_ (M3.out.trans hm)
    clear hm ho hp F5 R5 E5 M3
    obtain ⟨-,-,-,-,-,q5,-⟩:=E6.out.cells7
    obtain ⟨-,-,-,-,-,f5,-⟩:=E6.out.free7
    have k3:=E6.out.lt
    go_upto_region 11 with fail
    refine zaa (P:=Code.wp _ _ _ _) (F:=fun W=>Fr w b g cap ts s6 W∧Bl W w.heap.size #[.int .i64 0,.int .i64 0,.int .i64 0,.string ⟨#[]⟩,.string ⟨#[]⟩,.slice none 0 0,.int .i64 0] 112∧Bl W Y #[.int .i64 3,.int .i64 0,.int .i64 0,.string ⟨#[]⟩,.string ⟨#[]⟩,.slice (some ⟨w6.heap.size,0,none⟩) 1 1,.int .i64 tta] 112)
     ⟨(F6.out.far (X:=Y) (by omega) _ _).alloc _,(R6.out.other (Y:=Y) (by omega) _ _).alloc _,(Bl.alloc (vs:=#[.int .i64 3,.int .i64 0,.int .i64 0,.string ⟨#[]⟩,.string ⟨#[]⟩,.slice (some ⟨w6.heap.size,0,none⟩) 1 1,.int .i64 tta]) (by simpa using E6.out.set 5 (.slice (some ⟨w6.heap.size,0,none⟩) 1 1)) _)⟩ ?_
    clear q5 f5 k3 F6 R6 E6
    intro w9 ⟨F9,R9,E9⟩
    have F9:=hd_ F9
    have R9:=hd_ R9
    have E9:=hd_ E9
    obtain ⟨q0,q1,q2,q3,q4,q5,q6⟩:=E9.out.cells7
    have k3:=E9.out.lt
    obtain ⟨r0,r1,r2,r3,r4,r5,r6⟩:=R9.out.cells7
    obtain ⟨g0,g1,g2,g3,g4,g5,g6⟩:=R9.out.free7
    have k2:=R9.out.lt
    go_wp2_with fail
    refine zaa (P:=bodyPost _ _ _ _ _) (F:=fun W=>Fr w b g cap ts s6 W∧Bl W w.heap.size #[.int .i64 3,.int .i64 0,.int .i64 0,.string ⟨#[]⟩,.string ⟨#[]⟩,.slice (some ⟨w6.heap.size,0,none⟩) 1 1,.int .i64 tta] 112)
     ⟨((((((F9.out.far nl_ _ _).far nl_ _ _).far nl_ _ _).far nl_ _ _).far nl_ _ _).far nl_ _ _).far nl_ _ _,R9.out.set7⟩ ?_
    clear r0 r1 r2 r3 r4 r5 r6 g0 g1 g2 g3 g4 g5 g6 k2
    clear q0 q1 q2 q3 q4 q5 q6 k3
    intro wz ⟨FZ,RZ⟩
    obtain ⟨r0,r1,r2,r3,r4,r5,r6⟩:=RZ.cells7
    refine bodyPost_ret (v:=.agg #[.int .i64 3,.int .i64 0,.int .i64 0,.string ⟨#[]⟩,.string ⟨#[]⟩,.slice (some ⟨w6.heap.size,0,none⟩) 1 1,.int .i64 tta]) (by simp [results,Tryz.results138,go_sem, *]) rfl ?_
    exact ⟨_,_,rfl,⟨_,_,_,_,_,_,_,_,_,rfl⟩,M6.out,FZ.only,FZ.par⟩
 | false=>
  obtain rfl:=hf rfl
  clear hm ht hf
  go_wp2_with fail
  refine (zaO ⟨#[78,79,84]⟩ (M0.out.good k HG.out) (by omega) F3.out.par).mono ?_
  rintro e w4 ⟨r,s4,rfl,⟨hm,ht,hf⟩,ho,hp⟩
  have F4:=hd_ (F3.out.call ho hp)
  have R4:=hd_ (R3.out.only ho n1)
  have T4:=hd_ (T3.out.only ho hZ1)
  clear ho hp
  clear F3 R3 T3
  cases r with
  | true=>
   have M4:=hd_ ((M0.out.trans hm).zero (ht rfl).2.1)
   clear hm ht hf M0
   by_cases hdp:32 < deep+1
   ·go_wp2_with fail
    refine (zcb (M4.out.good k HG.out) F4.out.par).mono ?_
    rintro e w5 ⟨tk2,tkd2,tnn2,tx2,tta2,rfl,ht,hb⟩
    have F5:=hd_ (F4.out.below hb)
    have R5:=hd_ (R4.out.below hb)
    have T5:=hd_ (T4.out.below hb)
    clear hb ht
    go_wp2_with fail
    refine (zb7 (by decide) F5.out.par).mono ?_
    rintro e w6 ⟨s6,rfl,⟨hm,_⟩,ho,hp⟩
    have F6:=hd_ (F5.out.call ho hp)
    have R6:=hd_ (R5.out.only ho n1)
    have T6:=hd_ (T5.out.only ho hZ1)
    have M6:=hd_ ((M4.out.trans hm).mono (by omega:0+0≤1))
    clear ho hp hm
    obtain ⟨r0,r1,r2,r3,r4,r5,r6⟩:=R6.out.cells7
    obtain ⟨g0,g1,g2,g3,g4,g5,g6⟩:=R6.out.free7
    have k2:=R6.out.lt
    go_wp2_with fail
    refine zaa (P:=bodyPost _ _ _ _ _) (F:=fun W=>Fr w b g cap ts s6 W∧Bl W w.heap.size #[.int .i64 0,.int .i64 0,.int .i64 0,.string ⟨#[]⟩,.string ⟨#[]⟩,.slice none 0 0,.int .i64 0] 112)
     ⟨((((((F6.out.far nl_ _ _).far nl_ _ _).far nl_ _ _).far nl_ _ _).far nl_ _ _).far nl_ _ _).far nl_ _ _,R6.out.set7⟩ ?_
    clear r0 r1 r2 r3 r4 r5 r6 g0 g1 g2 g3 g4 g5 g6 k2
    intro wz ⟨FZ,RZ⟩
    obtain ⟨r0,r1,r2,r3,r4,r5,r6⟩:=RZ.cells7
    refine bodyPost_ret (v:=.agg #[.int .i64 0,.int .i64 0,.int .i64 0,.string ⟨#[]⟩,.string ⟨#[]⟩,.slice none 0 0,.int .i64 0]) (by simp [results,Tryz.results138,go_sem, *]) rfl ?_
    exact ⟨_,_,rfl,⟨_,_,_,_,_,_,_,_,_,rfl⟩,M6.out,FZ.only,FZ.par⟩
   ·have hdu:deep+1≤32:=by omega
    have HUD:=hd_ (HUN.out hdu)
    obtain ⟨t0,t1,t2,t3,t4⟩:=T4.out.cells5
    have k5:=T4.out.lt
    obtain ⟨bn,hbn⟩:∃ x,(txb.toList==[78,79,84])=x:=⟨_,rfl⟩
    obtain ⟨opn,hopn⟩:∃ x:Int,(if bn=true then 4 else 3)=x:=⟨_,rfl⟩
    have HOP:=hd_ hopn
    clear hopn
    go_upto_region 8 with fail
    refine zaa (P:=Code.wp _ _ _ _) (F:=fun W=>Fr w b g cap ts s4 W∧Bl W w.heap.size #[.int .i64 0,.int .i64 0,.int .i64 0,.string ⟨#[]⟩,.string ⟨#[]⟩,.slice none 0 0,.int .i64 0] 112∧Bl W Z #[.int .i64 tk,.int .i64 tkd,.int .i64 tnn,.string txb,.int .i64 tta] 107∧Bl W w4.heap.size #[.int .i64 3,.int .i64 0,.int .i64 0,.string ⟨#[]⟩,.string ⟨#[]⟩,.slice none 0 0,.int .i64 tta] 112)
     ⟨F4.out.alloc _,R4.out.alloc _,T4.out.alloc _,Bl.new _ _ _⟩ ?_
    have hY1:w4.heap.size≠b:=by have:=F4.out.size;have:=F4.out.lt.1;omega
    have hY0:w.heap.size < w4.heap.size:=R4.out.lt
    clear F4 R4 T4 t0 t1 t2 t3 t4 k5
    intro w5 ⟨F5,R5,T5,E5⟩
    obtain ⟨Y,hY⟩:∃ Y,w4.heap.size=Y:=⟨_,rfl⟩
    rw [hY] at E5 hY1 hY0 ⊢
    clear hY
    obtain ⟨-,-,-,t3,-⟩:=T5.cells5
    have k5:=T5.lt
    obtain ⟨q0,-,-,-,-,-,-⟩:=E5.cells7
    obtain ⟨f0,-,-,-,-,-,-⟩:=E5.free7
    have k3:=E5.lt
    have F5:=hd_ F5
    have R5:=hd_ R5
    have E5:=hd_ E5
    clear T5
    cases bn with
    | true=>
     obtain rfl:(4:Int)=opn:=HOP.out
     go_upto_region 10 with fail
     refine zaa (P:=Code.wp _ _ _ _) (F:=fun W=>Fr w b g cap ts s4 W∧Bl W w.heap.size #[.int .i64 0,.int .i64 0,.int .i64 0,.string ⟨#[]⟩,.string ⟨#[]⟩,.slice none 0 0,.int .i64 0] 112∧Bl W Y #[.int .i64 4,.int .i64 0,.int .i64 0,.string ⟨#[]⟩,.string ⟨#[]⟩,.slice none 0 0,.int .i64 tta] 112)
      ⟨F5.out.far (X:=Y) (by omega) _ _,R5.out.other (Y:=Y) (by omega) _ _,by simpa using E5.out.set 0 (.int .i64 4)⟩ ?_
     clear q0 f0 k3 t3 k5 F5 R5 E5
     intro w6 ⟨F6,R6,E6⟩
     have F6:=hd_ F6
     have R6:=hd_ R6
     have E6:=hd_ E6
     go_wp2_with fail
     refine (HUD.out _ _ _ _ _ _ (M4.out.good k HG.out) (by omega) w6 F6.out.par).mono ?_
     rintro e w7 ⟨v,s7,rfl,⟨op5,kd5,nn5,nm5,fl5,a5,ln5,c5,ta5,rfl⟩,hm,ho,hp⟩
     have F7:=hd_ (F6.out.call ho hp)
     have R7:=hd_ (R6.out.only ho n1)
     have E7:=hd_ (E6.out.only ho hY1)
     have M7:=hd_ (M4.out.trans hm)
     clear hm ho hp F6 R6 E6 M4
     obtain ⟨-,-,-,-,-,q5,-⟩:=E7.out.cells7
     obtain ⟨-,-,-,-,-,f5,-⟩:=E7.out.free7
     have k3:=E7.out.lt
     go_upto_region 11 with fail
     refine zaa (P:=Code.wp _ _ _ _) (F:=fun W=>Fr w b g cap ts s7 W∧Bl W w.heap.size #[.int .i64 0,.int .i64 0,.int .i64 0,.string ⟨#[]⟩,.string ⟨#[]⟩,.slice none 0 0,.int .i64 0] 112∧Bl W Y #[.int .i64 4,.int .i64 0,.int .i64 0,.string ⟨#[]⟩,.string ⟨#[]⟩,.slice (some ⟨w7.heap.size,0,none⟩) 1 1,.int .i64 tta] 112)
      ⟨(F7.out.far (X:=Y) (by omega) _ _).alloc _,(R7.out.other (Y:=Y) (by omega) _ _).alloc _,(Bl.alloc (vs:=#[.int .i64 4,.int .i64 0,.int .i64 0,.string ⟨#[]⟩,.string ⟨#[]⟩,.slice (some ⟨w7.heap.size,0,none⟩) 1 1,.int .i64 tta]) (by simpa using E7.out.set 5 (.slice (some ⟨w7.heap.size,0,none⟩) 1 1)) _)⟩ ?_
     clear q5 f5 k3 F7 R7 E7
     intro w9 ⟨F9,R9,E9⟩
     have F9:=hd_ F9
     have R9:=hd_ R9
     have E9:=hd_ E9
     obtain ⟨q0,q1,q2,q3,q4,q5,q6⟩:=E9.out.cells7
     have k3:=E9.out.lt
     obtain ⟨r0,r1,r2,r3,r4,r5,r6⟩:=R9.out.cells7
     obtain ⟨g0,g1,g2,g3,g4,g5,g6⟩:=R9.out.free7
     have k2:=R9.out.lt
     go_wp2_with fail
     refine zaa (P:=bodyPost _ _ _ _ _) (F:=fun W=>Fr w b g cap ts s7 W∧Bl W w.heap.size #[.int .i64 4,.int .i64 0,.int .i64 0,.string ⟨#[]⟩,.string ⟨#[]⟩,.slice (some ⟨w7.heap.size,0,none⟩) 1 1,.int .i64 tta] 112)
      ⟨((((((F9.out.far nl_ _ _).far nl_ _ _).far nl_ _ _).far nl_ _ _).far nl_ _ _).far nl_ _ _).far nl_ _ _,R9.out.set7⟩ ?_
     clear r0 r1 r2 r3 r4 r5 r6 g0 g1 g2 g3 g4 g5 g6 k2
     clear q0 q1 q2 q3 q4 q5 q6 k3
     intro wz ⟨FZ,RZ⟩
     obtain ⟨r0,r1,r2,r3,r4,r5,r6⟩:=RZ.cells7
     refine bodyPost_ret (v:=.agg #[.int .i64 4,.int .i64 0,.int .i64 0,.string ⟨#[]⟩,.string ⟨#[]⟩,.slice (some ⟨w7.heap.size,0,none⟩) 1 1,.int .i64 tta]) (by simp [results,Tryz.results138,go_sem, *]) rfl ?_
     exact ⟨_,_,rfl,⟨_,_,_,_,_,_,_,_,_,rfl⟩,M7.out,FZ.only,FZ.par⟩
    | false=>
     obtain rfl:(3:Int)=opn:=HOP.out
     clear q0 f0 k3
     have F6:=F5
     have R6:=R5
     have E6:=E5
     clear F5 R5 E5
     have hww:w5=w5:=rfl
     obtain ⟨w6,hw2⟩:∃ W,w5=W:=⟨_,rfl⟩
     rw [hw2] at F6 R6 E6 t3 k5 ⊢
     clear hw2 hww
     go_wp2_with fail
     clear t3 k5
     refine (HUD.out _ _ _ _ _ _ (M4.out.good k HG.out) (by omega) w6 F6.out.par).mono ?_
     rintro e w7 ⟨v,s7,rfl,⟨op5,kd5,nn5,nm5,fl5,a5,ln5,c5,ta5,rfl⟩,hm,ho,hp⟩
     have F7:=hd_ (F6.out.call ho hp)
     have R7:=hd_ (R6.out.only ho n1)
     have E7:=hd_ (E6.out.only ho hY1)
     have M7:=hd_ (M4.out.trans hm)
     clear hm ho hp F6 R6 E6 M4
     obtain ⟨-,-,-,-,-,q5,-⟩:=E7.out.cells7
     obtain ⟨-,-,-,-,-,f5,-⟩:=E7.out.free7
     have k3:=E7.out.lt
     go_upto_region 11 with fail
     refine zaa (P:=Code.wp _ _ _ _) (F:=fun W=>Fr w b g cap ts s7 W∧Bl W w.heap.size #[.int .i64 0,.int .i64 0,.int .i64 0,.string ⟨#[]⟩,.string ⟨#[]⟩,.slice none 0 0,.int .i64 0] 112∧Bl W Y #[.int .i64 3,.int .i64 0,.int .i64 0,.string ⟨#[]⟩,.string ⟨#[]⟩,.slice (some ⟨w7.heap.size,0,none⟩) 1 1,.int .i64 tta] 112)
      ⟨(F7.out.far (X:=Y) (by omega) _ _).alloc _,(R7.out.other (Y:=Y) (by omega) _ _).alloc _,(Bl.alloc (vs:=#[.int .i64 3,.int .i64 0,.int .i64 0,.string ⟨#[]⟩,.string ⟨#[]⟩,.slice (some ⟨w7.heap.size,0,none⟩) 1 1,.int .i64 tta]) (by simpa using E7.out.set 5 (.slice (some ⟨w7.heap.size,0,none⟩) 1 1)) _)⟩ ?_
     clear q5 f5 k3 F7 R7 E7
     intro w9 ⟨F9,R9,E9⟩
     have F9:=hd_ F9
     have R9:=hd_ R9
     have E9:=hd_ E9
     obtain ⟨q0,q1,q2,q3,q4,q5,q6⟩:=E9.out.cells7
     have k3:=E9.out.lt
     obtain ⟨r0,r1,r2,r3,r4,r5,r6⟩:=R9.out.cells7
     obtain ⟨g0,g1,g2,g3,g4,g5,g6⟩:=R9.out.free7
     have k2:=R9.out.lt
     go_wp2_with fail
     refine zaa (P:=bodyPost _ _ _ _ _) (F:=fun W=>Fr w b g cap ts s7 W∧Bl W w.heap.size #[.int .i64 3,.int .i64 0,.int .i64 0,.string ⟨#[]⟩,.string ⟨#[]⟩,.slice (some ⟨w7.heap.size,0,none⟩) 1 1,.int .i64 tta] 112)
      ⟨((((((F9.out.far nl_ _ _).far nl_ _ _).far nl_ _ _).far nl_ _ _).far nl_ _ _).far nl_ _ _).far nl_ _ _,R9.out.set7⟩ ?_
     clear r0 r1 r2 r3 r4 r5 r6 g0 g1 g2 g3 g4 g5 g6 k2
     clear q0 q1 q2 q3 q4 q5 q6 k3
     intro wz ⟨FZ,RZ⟩
     obtain ⟨r0,r1,r2,r3,r4,r5,r6⟩:=RZ.cells7
     refine bodyPost_ret (v:=.agg #[.int .i64 3,.int .i64 0,.int .i64 0,.string ⟨#[]⟩,.string ⟨#[]⟩,.slice (some ⟨w7.heap.size,0,none⟩) 1 1,.int .i64 tta]) (by simp [results,Tryz.results138,go_sem, *]) rfl ?_
     exact ⟨_,_,rfl,⟨_,_,_,_,_,_,_,_,_,rfl⟩,M7.out,FZ.only,FZ.par⟩
  | false=>
   obtain rfl:=hf rfl
   clear hm ht hf
   clear hf4
   obtain ⟨rn,hrn⟩:∃ r,zd1 ts s4=r:=⟨_,rfl⟩
   go_wp2_with fail
   refine (zda hrn (M0.out.good k HG.out).1 w4 F4.out.par).mono ?_
   rintro e w5 ⟨rfl,hb⟩
   have F5:=hd_ (F4.out.below hb)
   have R5:=hd_ (R4.out.below hb)
   have T5:=hd_ (T4.out.below hb)
   clear hb hrn F4 R4 T4
   cases rn with
   | true=>
    go_wp2_with fail
    refine (zhs (M0.out.good k HG.out) (by omega) F5.out.par).mono ?_
    rintro e w6 ⟨v,s6,rfl,⟨op,kd,nn,nm,fl,a,ln,c,ta,rfl⟩,hm,ho,hp⟩
    have F6:=hd_ (F5.out.call ho hp)
    have R6:=hd_ (R5.out.only ho n1)
    have T6:=hd_ (T5.out.only ho hZ1)
    have M6:=hd_ ((M0.out.trans hm).mono (by omega:0+0≤1))
    clear hm ho hp F5 R5 T5
    obtain ⟨r0,r1,r2,r3,r4,r5,r6⟩:=R6.out.cells7
    obtain ⟨g0,g1,g2,g3,g4,g5,g6⟩:=R6.out.free7
    have k2:=R6.out.lt
    go_wp2_with fail
    refine zaa (P:=bodyPost _ _ _ _ _) (F:=fun W=>Fr w b g cap ts s6 W∧Bl W w.heap.size #[.int .i64 op,.int .i64 kd,.int .i64 nn,.string nm,.string fl,.slice a ln c,.int .i64 ta] 112)
     ⟨((((((F6.out.far nl_ _ _).far nl_ _ _).far nl_ _ _).far nl_ _ _).far nl_ _ _).far nl_ _ _).far nl_ _ _,R6.out.set7⟩ ?_
    clear r0 r1 r2 r3 r4 r5 r6 g0 g1 g2 g3 g4 g5 g6 k2
    intro wz ⟨FZ,RZ⟩
    obtain ⟨r0,r1,r2,r3,r4,r5,r6⟩:=RZ.cells7
    refine bodyPost_ret (v:=.agg #[.int .i64 op,.int .i64 kd,.int .i64 nn,.string nm,.string fl,.slice a ln c,.int .i64 ta]) (by simp [results,Tryz.results138,go_sem, *]) rfl ?_
    exact ⟨_,_,rfl,⟨_,_,_,_,_,_,_,_,_,rfl⟩,M6.out,FZ.only,FZ.par⟩
   | false=>
    go_wp2_with fail
    refine (zaO ⟨#[40]⟩ (M0.out.good k HG.out) (by omega) F5.out.par).mono ?_
    rintro e w6 ⟨r,s6,rfl,⟨hm,ht,hf⟩,ho,hp⟩
    have F6:=hd_ (F5.out.call ho hp)
    have R6:=hd_ (R5.out.only ho n1)
    have T6:=hd_ (T5.out.only ho hZ1)
    clear ho hp
    clear F5 R5 T5
    cases r with
    | true=>
     have M6:=hd_ ((M0.out.trans hm).zero (ht rfl).2.1)
     clear hm ht hf M0
     go_wp2_with fail
     refine (HEX.out _ _ _ _ _ _ (M6.out.good k HG.out) (by omega) w6 F6.out.par).mono ?_
     rintro e w7 ⟨v,s7,rfl,⟨op,kd,nn,nm,fl,a,ln,c,ta,rfl⟩,hm,ho,hp⟩
     have F7:=hd_ (F6.out.call ho hp)
     have R7:=hd_ (R6.out.only ho n1)
     have T7:=hd_ (T6.out.only ho hZ1)
     have M7:=hd_ (M6.out.trans hm)
     clear hm ho hp F6 R6 T6 T7 M6
     go_upto_region 16 with fail
     refine zaa (P:=Code.wp _ _ _ _) (F:=fun W=>Fr w b g cap ts s7 W∧Bl W w.heap.size #[.int .i64 0,.int .i64 0,.int .i64 0,.string ⟨#[]⟩,.string ⟨#[]⟩,.slice none 0 0,.int .i64 0] 112∧Bl W w7.heap.size #[.int .i64 op,.int .i64 kd,.int .i64 nn,.string nm,.string fl,.slice a ln c,.int .i64 ta] 112)
      ⟨F7.out.alloc _,R7.out.alloc _,Bl.new _ _ _⟩ ?_
     have hY1:w7.heap.size≠b:=by have:=F7.out.size;have:=F7.out.lt.1;omega
     have hY0:w.heap.size < w7.heap.size:=R7.out.lt
     clear F7 R7
     intro w8 ⟨F8,R8,E8⟩
     obtain ⟨Y,hY⟩:∃ Y,w7.heap.size=Y:=⟨_,rfl⟩
     rw [hY] at E8 hY1 hY0 ⊢
     clear hY
     have F8:=hd_ F8
     have R8:=hd_ R8
     have E8:=hd_ E8
     go_wp2_with fail
     refine (zan ⟨#[41]⟩ (M7.out.good k HG.out) (by omega) F8.out.par).mono ?_
     rintro e w9 ⟨_,s9,rfl,rfl,hm,ho,hp⟩
     have F9:=hd_ (F8.out.call ho hp)
     have R9:=hd_ (R8.out.only ho n1)
     have E9:=hd_ (E8.out.only ho hY1)
     have M9:=hd_ (M7.out.trans hm)
     clear hm ho hp F8 R8 E8
     obtain ⟨q0,q1,q2,q3,q4,q5,q6⟩:=E9.out.cells7
     have k3:=E9.out.lt
     obtain ⟨r0,r1,r2,r3,r4,r5,r6⟩:=R9.out.cells7
     obtain ⟨g0,g1,g2,g3,g4,g5,g6⟩:=R9.out.free7
     have k2:=R9.out.lt
     go_wp2_with fail
     refine zaa (P:=bodyPost _ _ _ _ _) (F:=fun W=>Fr w b g cap ts s9 W∧Bl W w.heap.size #[.int .i64 op,.int .i64 kd,.int .i64 nn,.string nm,.string fl,.slice a ln c,.int .i64 ta] 112)
      ⟨((((((F9.out.far nl_ _ _).far nl_ _ _).far nl_ _ _).far nl_ _ _).far nl_ _ _).far nl_ _ _).far nl_ _ _,R9.out.set7⟩ ?_
     clear r0 r1 r2 r3 r4 r5 r6 g0 g1 g2 g3 g4 g5 g6 k2
     clear q0 q1 q2 q3 q4 q5 q6 k3
     intro wz ⟨FZ,RZ⟩
     obtain ⟨r0,r1,r2,r3,r4,r5,r6⟩:=RZ.cells7
     refine bodyPost_ret (v:=.agg #[.int .i64 op,.int .i64 kd,.int .i64 nn,.string nm,.string fl,.slice a ln c,.int .i64 ta]) (by simp [results,Tryz.results138,go_sem, *]) rfl ?_
     exact ⟨_,_,rfl,⟨_,_,_,_,_,_,_,_,_,rfl⟩,M9.out,FZ.only,FZ.par⟩
    | false=>
     obtain rfl:=hf rfl
     clear hm ht hf
     obtain ⟨t0,t1,t2,t3,t4⟩:=T6.out.cells5
     have k5:=T6.out.lt
     obtain ⟨d0,d1,d2,d3,f1,f2,f3⟩:=F6.out.par.pb.cells
     have k1:=F6.out.par.pb.lt
     obtain ⟨LB,hLB⟩:∃ n,ts.length=n:=⟨_,rfl⟩
     have hle:=HLE.out
     have hi0:=(M0.out.good k HG.out).1
     rw [hLB] at d0 hle hi0
     by_cases htk:tk=2
     ·obtain ⟨he0,hlt⟩:=zlS HEN.out (M0.out.good k HG.out).1 (by rw [HT.out];show tk≠0;omega)
      rw [hLB] at hlt
      obtain ⟨nt,hnt⟩:∃ t,ts[s6.i+1]? = some t:=⟨ts[s6.i+1]'(by omega),List.getElem?_eq_getElem _⟩
      obtain ⟨e0,-,-,e3,-⟩:=F6.out.par.tc.cells hnt
      have HNT:=hd_ hnt
      have HLT:=hd_ hlt
      have kg:=zac e0
      have z0:IntKind.i64.wrap ((s6.i:Int)+1)=(s6.i:Int)+1:=IntWalk.i64_in _ (by omega)
      have z1:(s6.i:Int)+1 < (LB:Int):=by omega
      have z2:0≤(s6.i:Int)+1:=by omega
      have z3:((s6.i:Int)+1).toNat=s6.i+1:=by omega
      obtain ⟨ntk,ntd,ntn,ntx,nta⟩:=nt
      simp only at e0 e3
      obtain ⟨ntb,hntb⟩:∃ x:ByteArray,(⟨ntx.toArray⟩:ByteArray)=x:=⟨_,rfl⟩
      rw [hntb] at e3
      have c1:(tk==2)=true:=by simp [htk]
      obtain ⟨c3,hc3⟩:∃ x,(ntk==6)=x:=⟨_,rfl⟩
      obtain ⟨c4,hc4⟩:∃ x,(ntb.toList==[40])=x:=⟨_,rfl⟩
      have HC3:Hid (c3=true→ntk=6):=hd_ (fun h=>by rw [h] at hc3;simpa using hc3)
      clear hntb htk he0 hlt hnt
      cases c3 with
      | false=>
       go_upto_region 18 with fail
       go_quiet (fail)
       refine zaa (P:=Exit.then _ _ _ _) (F:=fun W=>Fr w b g cap ts s6 W∧Bl W w.heap.size #[.int .i64 0,.int .i64 0,.int .i64 0,.string ⟨#[]⟩,.string ⟨#[]⟩,.slice none 0 0,.int .i64 0] 112)
        ⟨F6.out.below (br_.drewN _),R6.out.below (br_.drewN _)⟩ ?_
       clear e0 e3 kg z0 z1 z2 z3 F6 R6 T6 t0 t1 t2 t3 t4 k5 d0 d1 d2 d3 f1 f2 f3 k1
       intro w7 ⟨F7,R7⟩
       have F7:=hd_ F7
       have R7:=hd_ R7
       go_wp2_with fail
       refine (HVA.out _ _ _ _ _ _ (M0.out.good k HG.out) (by omega) w7 F7.out.par).mono ?_
       rintro e w8 ⟨v,s8,rfl,⟨op,kd,nn,nm,fl,a,ln,c,ta,rfl⟩,⟨hm,_⟩,ho,hp⟩
       have F8:=hd_ (F7.out.call ho hp)
       have R8:=hd_ (R7.out.only ho n1)
       have M8:=hd_ ((M0.out.trans hm).mono (by omega:0+1≤1))
       clear hm ho hp F7 R7
       obtain ⟨r0,r1,r2,r3,r4,r5,r6⟩:=R8.out.cells7
       obtain ⟨g0,g1,g2,g3,g4,g5,g6⟩:=R8.out.free7
       have k2:=R8.out.lt
       go_wp2_with fail
       refine zaa (P:=bodyPost _ _ _ _ _) (F:=fun W=>Fr w b g cap ts s8 W∧Bl W w.heap.size #[.int .i64 op,.int .i64 kd,.int .i64 nn,.string nm,.string fl,.slice a ln c,.int .i64 ta] 112)
        ⟨((((((F8.out.far nl_ _ _).far nl_ _ _).far nl_ _ _).far nl_ _ _).far nl_ _ _).far nl_ _ _).far nl_ _ _,R8.out.set7⟩ ?_
       clear r0 r1 r2 r3 r4 r5 r6 g0 g1 g2 g3 g4 g5 g6 k2
       intro wz ⟨FZ,RZ⟩
       obtain ⟨r0,r1,r2,r3,r4,r5,r6⟩:=RZ.cells7
       refine bodyPost_ret (v:=.agg #[.int .i64 op,.int .i64 kd,.int .i64 nn,.string nm,.string fl,.slice a ln c,.int .i64 ta]) (by simp [results,Tryz.results138,go_sem, *]) rfl ?_
       exact ⟨_,_,rfl,⟨_,_,_,_,_,_,_,_,_,rfl⟩,M8.out,FZ.only,FZ.par⟩
      | true=>
       have hntk:=HC3.out rfl
       subst hntk
       cases c4 with
       | false=>
        go_upto_region 18 with fail
        go_quiet (fail)
        refine zaa (P:=Exit.then _ _ _ _) (F:=fun W=>Fr w b g cap ts s6 W∧Bl W w.heap.size #[.int .i64 0,.int .i64 0,.int .i64 0,.string ⟨#[]⟩,.string ⟨#[]⟩,.slice none 0 0,.int .i64 0] 112)
         ⟨F6.out.below (br_.drewN _),R6.out.below (br_.drewN _)⟩ ?_
        clear e0 e3 kg z0 z1 z2 z3 F6 R6 T6 t0 t1 t2 t3 t4 k5 d0 d1 d2 d3 f1 f2 f3 k1
        intro w7 ⟨F7,R7⟩
        have F7:=hd_ F7
        have R7:=hd_ R7
        go_wp2_with fail
        refine (HVA.out _ _ _ _ _ _ (M0.out.good k HG.out) (by omega) w7 F7.out.par).mono ?_
        rintro e w8 ⟨v,s8,rfl,⟨op,kd,nn,nm,fl,a,ln,c,ta,rfl⟩,⟨hm,_⟩,ho,hp⟩
        have F8:=hd_ (F7.out.call ho hp)
        have R8:=hd_ (R7.out.only ho n1)
        have M8:=hd_ ((M0.out.trans hm).mono (by omega:0+1≤1))
        clear hm ho hp F7 R7
        obtain ⟨r0,r1,r2,r3,r4,r5,r6⟩:=R8.out.cells7
        obtain ⟨g0,g1,g2,g3,g4,g5,g6⟩:=R8.out.free7
        have k2:=R8.out.lt
        go_wp2_with fail
        refine zaa (P:=bodyPost _ _ _ _ _) (F:=fun W=>Fr w b g cap ts s8 W∧Bl W w.heap.size #[.int .i64 op,.int .i64 kd,.int .i64 nn,.string nm,.string fl,.slice a ln c,.int .i64 ta] 112)
         ⟨((((((F8.out.far nl_ _ _).far nl_ _ _).far nl_ _ _).far nl_ _ _).far nl_ _ _).far nl_ _ _).far nl_ _ _,R8.out.set7⟩ ?_
        clear r0 r1 r2 r3 r4 r5 r6 g0 g1 g2 g3 g4 g5 g6 k2
        intro wz ⟨FZ,RZ⟩
        obtain ⟨r0,r1,r2,r3,r4,r5,r6⟩:=RZ.cells7
        refine bodyPost_ret (v:=.agg #[.int .i64 op,.int .i64 kd,.int .i64 nn,.string nm,.string fl,.slice a ln c,.int .i64 ta]) (by simp [results,Tryz.results138,go_sem, *]) rfl ?_
        exact ⟨_,_,rfl,⟨_,_,_,_,_,_,_,_,_,rfl⟩,M8.out,FZ.only,FZ.par⟩
       | true=>
        go_upto_region 18 with fail
        go_quiet (fail)
        refine zaa (P:=Exit.then _ _ _ _) (F:=fun W=>Fr w b g cap ts s6 W∧Bl W w.heap.size #[.int .i64 0,.int .i64 0,.int .i64 0,.string ⟨#[]⟩,.string ⟨#[]⟩,.slice none 0 0,.int .i64 0] 112∧Bl W Z #[.int .i64 tk,.int .i64 tkd,.int .i64 tnn,.string txb,.int .i64 tta] 107)
         ⟨F6.out.below (br_.drewN _),R6.out.below (br_.drewN _),T6.out.below (br_.drewN _)⟩ ?_
        clear e0 e3 kg z0 z1 z2 z3 F6 R6 T6 t0 t1 t2 t3 t4 k5 d0 d1 d2 d3 f1 f2 f3 k1 hc3 hc4 HC3 c1 hi0 hle
        intro w7 ⟨F7,R7,T7⟩
        obtain ⟨d0,d1,d2,d3,f1,f2,f3⟩:=F7.par.pb.cells
        have k1:=F7.par.pb.lt
        have z2:IntKind.i64.wrap ((s6.i:Int)+2)=(s6.i:Int)+2:=IntWalk.i64_in _ (by have:=HLT.out;have:=HLE.out;omega)
        have F7:=hd_ F7
        have R7:=hd_ R7
        have T7:=hd_ T7
        have M8:Hid (Mv ts 0 s6 ⟨s6.i+2,s6.err,s6.at_⟩):=hd_ ⟨fun kk hkk=>⟨fun h0=>by
         have h1:=HLT.out
         rcases Nat.lt_or_ge (s6.i+2) ts.length with h2 | h2
         ·exact h2
         ·have h3:=HEN.out.2 _ (by rw [show ts.length - 1=s6.i+1 by omega];exact HNT.out)
          simp at h3,by have:=HLT.out;show s6.i+2≤_;omega⟩,fun h=>h,by show s6.i≤s6.i+2;omega⟩
        go_upto_region 20 with fail
        refine zaa (P:=Code.wp _ _ _ _) (F:=fun W=>Fr w b g cap ts ⟨s6.i+2,s6.err,s6.at_⟩ W∧Bl W w.heap.size #[.int .i64 0,.int .i64 0,.int .i64 0,.string ⟨#[]⟩,.string ⟨#[]⟩,.slice none 0 0,.int .i64 0] 112∧Bl W Z #[.int .i64 tk,.int .i64 tkd,.int .i64 tnn,.string txb,.int .i64 tta] 107)
         ⟨F7.out.set1 (i:=s6.i+2) (by simp),R7.out.other n1 _ _,T7.out.other hZ1 _ _⟩ ?_
        clear d0 d1 d2 d3 f1 f2 f3 k1 z2 F7 R7 T7 HLT HNT
        intro w8 ⟨F8,R8,T8⟩
        obtain ⟨s8,hs8⟩:∃ x:PS,(⟨s6.i+2,s6.err,s6.at_⟩:PS)=x:=⟨_,rfl⟩
        rw [hs8] at F8 M8
        clear hs8
        obtain ⟨t0,t1,t2,t3,t4⟩:=T8.cells5
        have k5:=T8.lt
        have F8:=hd_ F8
        have R8:=hd_ R8
        have T8:=hd_ T8
        go_cut [8] from 108 to 117 (fun v8 wx=>∃ (X:Nat) (fv:Value) (cs:List Value) (sx:PS),v8=.pointer (some ⟨X,0,none⟩)∧w.heap.size < X∧X≠b∧Mv ts 1 s6 sx∧Fr w b g cap ts sx wx∧Bl wx w.heap.size #[.int .i64 0,.int .i64 0,.int .i64 0,.string ⟨#[]⟩,.string ⟨#[]⟩,.slice none 0 0,.int .i64 0] 112∧Bl wx X #[.int .i64 19,.int .i64 0,.int .i64 0,.string txb,.string ⟨#[]⟩,fv,.int .i64 tta] 112∧wx.ownsRow (w.heap.size+1) 112 7 fv 1 cs∧some X≠fv.ownBlock)
        case first=>
         obtain ⟨X8,hX8⟩:∃ x,w8.heap.size=x:=⟨_,rfl⟩
         have hb8:X8≠b:=by have:=F8.out.lt.1;have:=F8.out.size;omega
         have hk8:w.heap.size < X8:=by have:=R8.out.lt;omega
         have hZ8:Z < X8:=by have:=T8.out.lt;omega
         have hZ9:X8≠Z:=by omega
         have HWS:Hid (∀ W,W=w8.drew∨W=(w8.alloc (.cells #[.int .i64 0,.int .i64 0,.int .i64 0,.string ⟨#[]⟩,.string ⟨#[]⟩,.slice none 0 0,.int .i64 0] 112)).drew→Fr w b g cap ts s8 W∧Bl W w.heap.size #[.int .i64 0,.int .i64 0,.int .i64 0,.string ⟨#[]⟩,.string ⟨#[]⟩,.slice none 0 0,.int .i64 0] 112∧Bl W Z #[.int .i64 tk,.int .i64 tkd,.int .i64 tnn,.string txb,.int .i64 tta] 107):=hd_ (by
          rintro W (rfl | rfl)
          ·exact ⟨F8.out.drew,R8.out.drew,T8.out.drew⟩
          ·exact ⟨(F8.out.alloc _).drew,(R8.out.alloc _).drew,(T8.out.alloc _).drew⟩)
         have HNW:Hid (∀ W,W=(w8.alloc (.cells #[.int .i64 0,.int .i64 0,.int .i64 0,.string ⟨#[]⟩,.string ⟨#[]⟩,.slice none 0 0,.int .i64 0] 112)).drew→Bl W X8 #[.int .i64 0,.int .i64 0,.int .i64 0,.string ⟨#[]⟩,.string ⟨#[]⟩,.slice none 0 0,.int .i64 0] 112):=hd_ (by rintro W rfl;exact (Bl.newAt w8 hX8.symm).drew)
         go_region_held3 (fun W=>W.cell? ⟨Z,3,none⟩=some (.string txb)∧W.cell? ⟨Z,4,none⟩=some (.int .i64 tta)) (first | with_reducible exact ⟨u3,u4⟩ | with_reducible exact ⟨zcS (zbm _ u3) hZ9,zcS (zbm _ u4) hZ9⟩ | with_reducible exact ⟨zbm _ (zcS u3 hZ9),zbm _ (zcS u4 hZ9)⟩ | go_keep) (first | (go_at_call 114;refine (HEX.out _ _ _ _ _ _ (M8.out.good k HG.out) (by omega) _ (HWS.out _ (by first | exact .inl (by with_reducible rfl) | exact .inr (by with_reducible rfl))).1.par).mono ?_;rintro e w9 ⟨v,s9,rfl,⟨op,kd,nn,nm,fl,a,ln,c,ta,rfl⟩,hm,ho,hp⟩;have F9:=hd_ ((HWS.out _ (by first | exact .inl (by with_reducible rfl) | exact .inr (by with_reducible rfl))).1.call ho hp);have R9:=hd_ ((HWS.out _ (by first | exact .inl (by with_reducible rfl) | exact .inr (by with_reducible rfl))).2.1.only ho n1);have T9:=hd_ ((HWS.out _ (by first | exact .inl (by with_reducible rfl) | exact .inr (by with_reducible rfl))).2.2.only ho hZ1);have M9:=hd_ (M8.out.trans hm);have HO:=hd_ ho;obtain ⟨u0,u1,u2,u3,u4⟩:=T9.out.cells5;have k6:=T9.out.lt;(try (have E9:=hd_ (Bl.only (HNW.out _ (by with_reducible rfl)) ho hb8);obtain ⟨v0,v1,v2,v3,v4,v5,v6⟩:=E9.out.cells7;obtain ⟨x0,x1,x2,x3,x4,x5,x6⟩:=E9.out.free7;have k7:=E9.out.lt));clear hm ho hp))
         ·go_wp2_with fail
          go_meet
          exact ⟨w9.heap.size+1,.slice (some ⟨w9.heap.size,0,none⟩) 1 1,[.int .i64 op,.int .i64 kd,.int .i64 nn,.string nm,.string fl,.slice a ln c,.int .i64 ta],s9,rfl,by have:=R9.out.lt;omega,by have:=F9.out.lt.1;have:=F9.out.size;omega,M9.out,(F9.out.alloc _).alloc _,(R9.out.alloc _).alloc _,Bl.newAt _ (by simp),zhq ((Bl.new _ _ _).alloc _) (by have:=R9.out.lt;omega),by intro h;injection h with h;change _=w9.heap.size at h;omega⟩
         ·go_wp2_with fail
          go_meet
          exact ⟨w9.heap.size,.slice (some ⟨w9.heap.size+1,0,none⟩) 1 1,[.int .i64 op,.int .i64 kd,.int .i64 nn,.string nm,.string fl,.slice a ln c,.int .i64 ta],s9,rfl,R9.out.lt,by have:=F9.out.lt.1;have:=F9.out.size;omega,M9.out,(F9.out.alloc _).alloc _,(R9.out.alloc _).alloc _,(Bl.new _ _ _).alloc _,zhq (Bl.newAt _ (by simp)) (by have:=R9.out.lt;omega),by intro h;injection h with h;change _=w9.heap.size+1 at h;omega⟩
         ·go_wp2_with fail
          go_meet
          exact ⟨X8,.slice (some ⟨w9.heap.size,0,none⟩) 1 1,[.int .i64 op,.int .i64 kd,.int .i64 nn,.string nm,.string fl,.slice a ln c,.int .i64 ta],s9,rfl,hk8,hb8,M9.out,(((((((F9.out.far (X:=X8) (by omega) _ _).far (X:=X8) (by omega) _ _).far (X:=X8) (by omega) _ _).far (X:=X8) (by omega) _ _).far (X:=X8) (by omega) _ _).far (X:=X8) (by omega) _ _).far (X:=X8) (by omega) _ _).alloc _,(((((((R9.out.other (Y:=X8) (by omega) _ _).other (Y:=X8) (by omega) _ _).other (Y:=X8) (by omega) _ _).other (Y:=X8) (by omega) _ _).other (Y:=X8) (by omega) _ _).other (Y:=X8) (by omega) _ _).other (Y:=X8) (by omega) _ _).alloc _,E9.out.set7.alloc _,zhq (Bl.newAt _ (by simp)) (by have:=R9.out.lt;omega),by have:=E9.out.lt;intro h;injection h with h;change _=w9.heap.size at h;omega⟩
        case rest=>
         obtain ⟨X,fv,cs,sx,rfl,hX0,hX1,hm,hF,hR,hE,hO,hN⟩:=hcut
         have M9:=hd_ hm
         have F9:=hd_ hF
         have R9:=hd_ hR
         have E9:=hd_ hE
         have O9:=hd_ hO
         have N9:=hd_ hN
         clear hm hF hR hE hO hN F8 R8 T8 M8 t0 t1 t2 t3 t4 k5
         go_wp2_with fail
         go_loopw [] (fun wr=>RRel (∃ (si:PS) (fv:Value) (n:Nat) (cs:List Value),n≤si.i+1∧Hid (Mv ts 1 s6 si)∧Hid (Fr w b g cap ts si wr)∧Hid (Bl wr w.heap.size #[.int .i64 0,.int .i64 0,.int .i64 0,.string ⟨#[]⟩,.string ⟨#[]⟩,.slice none 0 0,.int .i64 0] 112)∧Hid (Bl wr X #[.int .i64 19,.int .i64 0,.int .i64 0,.string txb,.string ⟨#[]⟩,fv,.int .i64 tta] 112)∧Hid (wr.ownsRow (w.heap.size+1) 112 7 fv n cs)∧Hid (some X≠fv.ownBlock))) (fun wr=>200000 - (intOf ((wr.cell? ⟨b,1,none⟩).getD undef)).toNat)
         case atStart=>exact RRel.mk ⟨sx,_,1,_,by omega,M9,F9,R9,E9,O9,N9⟩
         case round=>
          obtain ⟨si,fv,n,cs,hn,M3,F3,R3,E3,O3,N3⟩:=hrel.it
          clear hrel M9 F9 R9 E9 O9 N9
          obtain ⟨w3,rfl⟩:∃ w3,w3=wr:=⟨_,rfl⟩
          have HMI:=hd_ F3.out.par.pb.cells.2.1
          have hfew:=zat (M3.out.good k HG.out) (by omega) F3.out.par
          obtain ⟨fa,fc,rfl⟩:=zb4 O3.out
          go_wp2_with fail
          refine (zaO ⟨#[44]⟩ (M3.out.good k HG.out) (by omega) F3.out.par).mono ?_
          rintro e w4 ⟨r,s4,rfl,⟨hm,ht,hf⟩,ho,hp⟩
          have F4:=hd_ (F3.out.call ho hp)
          have R4:=hd_ (R3.out.only ho n1)
          have E4:=hd_ (E3.out.only ho hX1)
          have O4:Hid (w4.ownsRow (w.heap.size+1) 112 7 (.slice fa n fc) n cs):=hd_ (zam O3.out ho (by have:=F3.out.lt.1;omega))
          clear ho hp F3 R3 E3 O3
          cases r with
          | true=>
           have M4:=hd_ ((M3.out.trans hm).zero (ht rfl).2.1)
           have L4:s4.i=si.i+1:=(ht rfl).2.2
           clear hm ht hf M3
           obtain ⟨-,-,-,-,-,o5,-⟩:=E4.out.cells7
           have k3:=E4.out.lt
           have hbl:b < w.heap.size+1:=by have:=F4.out.lt.1;omega
           go_upto_region 22 with fail
           go_region_law (first
            | (go_simp;go_at_call 114;refine (HEX.out _ _ _ _ _ _ (M4.out.good k HG.out) (by omega) _ F4.out.drew.par).mono ?_;rintro e w5 ⟨v,s5,rfl,⟨op,kd,nn,nm,fl,a,ln,c,ta,rfl⟩,hm,ho,hp⟩;have F5:=hd_ (F4.out.drew.call ho hp);have R5:=hd_ (R4.out.drew.only ho n1);have E5:=hd_ (E4.out.drew.only ho hX1);have O5:Hid (w5.ownsRow (w.heap.size+1) 112 7 (.slice fa n fc) n cs):=hd_ (zam (zae O4.out br_.drew nl_) ho hbl);have M5:=hd_ (M4.out.trans hm);have L5:s4.i≤s5.i:=hm.le;have o1:=E5.out.cells7.2.2.2.2.2.1;have k6:=E5.out.lt;clear hm ho hp)
            | (refine step_append_lies _ (by rfl) _ _ _ (by rfl) (w.heap.size+1) 112 i0 _ 7 88 Tryz.underlying52 HI.out.1 HI.out.2.1 HI.out.2.2.1 HI.out.2.2.2 rfl (by omega) (.slice fa n fc) n cs (by rfl) (zae O5.out ((Below.refl w5.heap.size w5).alloc nl_ _) nl_) ⟨w5.heap.size,0,none⟩ 1 1 [.int .i64 op,.int .i64 kd,.int .i64 nn,.string nm,.string fl,.slice a ln c,.int .i64 ta] (by rfl) (by rfl) (World.news_of_block (cs:=#[.int .i64 op,.int .i64 kd,.int .i64 nn,.string nm,.string fl,.slice a ln c,.int .i64 ta]) (t:=112) (fr:=(0,0)) (heap_alloc_new _ _)) (by simp [Value.oneCell']) (by omega) (by simp only [maxLen];omega) (by omega) (by have:=F5.out.size;simp;omega) (w5.heap.size+1) (by simp) ?_;intro g9 cp9 w6 hown hgrow hat hlt9;have E6:=hd_ ((E5.out.alloc _).grown hgrow N3.out);have R6:=hd_ ((R5.out.alloc _).grown hgrow (zaB O5.out (by omega)));have F6:=hd_ ((F5.out.alloc _).grown hgrow (fun k hk=>by have:=(O5.out.lt k hk).1;omega));have O6:=hd_ hown;have N6:Hid (some X≠(Value.slice (some ⟨g9,0,none⟩) (n+1) cp9).ownBlock):=hd_ (by intro h;have h2:some X=some g9:=h;rcases hat with h3 | h3;exact N3.out (by rw [h3,h2]);injection h2 with h2;omega);have o2:=E6.out.cells7.2.2.2.2.2.1;have f2:=E6.out.free7.2.2.2.2.2.1;have k5:=E6.out.lt;clear hown hgrow hat hlt9))
           all_goals
            go_wp2_with fail
            go_roundw
            case rel=>exact RRel.mk ⟨s5,.slice (some ⟨g9,0,none⟩) (n+1) cp9,n+1,_,by omega,M5,hd_ (F6.out.far (X:=X) (by omega) _ _),hd_ (R6.out.other (Y:=X) (by omega) _ _),hd_ (by simpa using E6.out.set 5 (.slice (some ⟨g9,0,none⟩) (n+1) cp9)),hd_ (zaj O6.out N6.out),N6⟩
            case measure=>
             have y1:=(F6.out.far (X:=X) (by omega) 5 (.slice (some ⟨g9,0,none⟩) (n+1) cp9)).par.pb.cells.2.1
             have y2:=HMI.out
             have y3:=zat (M5.out.good k HG.out) (by omega) F6.out.par
             simp [y1,y2,intOf];omega
          | false=>
           obtain rfl:=hf rfl
           clear hm ht hf
           go_wp2_with fail
           refine (zan ⟨#[41]⟩ (M3.out.good k HG.out) (by omega) F4.out.par).mono ?_
           rintro e w5 ⟨_,s5,rfl,rfl,hm,ho,hp⟩
           have F5:=hd_ (F4.out.call ho hp)
           have R5:=hd_ (R4.out.only ho n1)
           have E5:=hd_ (E4.out.only ho hX1)
           have M5:=hd_ ((M3.out.trans hm).mono (by omega:1+0≤1))
           clear hm ho hp F4 R4 E4 O4
           obtain ⟨q0,q1,q2,q3,q4,q5,q6⟩:=E5.out.cells7
           have k3:=E5.out.lt
           obtain ⟨r0,r1,r2,r3,r4,r5,r6⟩:=R5.out.cells7
           obtain ⟨g0,g1,g2,g3,g4,g5,g6⟩:=R5.out.free7
           have k2:=R5.out.lt
           go_wp2_with fail
           refine zaa (P:=bodyPost _ _ _ _ _) (F:=fun W=>Fr w b g cap ts s5 W∧Bl W w.heap.size #[.int .i64 19,.int .i64 0,.int .i64 0,.string txb,.string ⟨#[]⟩,.slice fa n fc,.int .i64 tta] 112)
            ⟨((((((F5.out.far nl_ _ _).far nl_ _ _).far nl_ _ _).far nl_ _ _).far nl_ _ _).far nl_ _ _).far nl_ _ _,R5.out.set7⟩ ?_
           clear r0 r1 r2 r3 r4 r5 r6 g0 g1 g2 g3 g4 g5 g6 k2
           clear q0 q1 q2 q3 q4 q5 q6 k3
           intro wz ⟨FZ,RZ⟩
           obtain ⟨r0,r1,r2,r3,r4,r5,r6⟩:=RZ.cells7
           refine bodyPost_ret (v:=.agg #[.int .i64 19,.int .i64 0,.int .i64 0,.string txb,.string ⟨#[]⟩,.slice fa n fc,.int .i64 tta]) (by simp [results,Tryz.results138,go_sem, *]) rfl ?_
           exact ⟨_,_,rfl,⟨_,_,_,_,_,_,_,_,_,rfl⟩,M5.out,FZ.only,FZ.par⟩
     ·have c1:(tk==2)=false:=by simpa using htk
      go_upto_region 18 with fail
      go_quiet (fail)
      refine zaa (P:=Exit.then _ _ _ _) (F:=fun W=>Fr w b g cap ts s6 W∧Bl W w.heap.size #[.int .i64 0,.int .i64 0,.int .i64 0,.string ⟨#[]⟩,.string ⟨#[]⟩,.slice none 0 0,.int .i64 0] 112)
       ⟨F6.out.below (br_.drewN _),R6.out.below (br_.drewN _)⟩ ?_
      clear F6 R6 T6 t0 t1 t2 t3 t4 k5 d0 d1 d2 d3 f1 f2 f3 k1
      intro w7 ⟨F7,R7⟩
      have F7:=hd_ F7
      have R7:=hd_ R7
      go_wp2_with fail
      refine (HVA.out _ _ _ _ _ _ (M0.out.good k HG.out) (by omega) w7 F7.out.par).mono ?_
      rintro e w8 ⟨v,s8,rfl,⟨op,kd,nn,nm,fl,a,ln,c,ta,rfl⟩,⟨hm,_⟩,ho,hp⟩
      have F8:=hd_ (F7.out.call ho hp)
      have R8:=hd_ (R7.out.only ho n1)
      have M8:=hd_ ((M0.out.trans hm).mono (by omega:0+1≤1))
      clear hm ho hp F7 R7
      obtain ⟨r0,r1,r2,r3,r4,r5,r6⟩:=R8.out.cells7
      obtain ⟨g0,g1,g2,g3,g4,g5,g6⟩:=R8.out.free7
      have k2:=R8.out.lt
      go_wp2_with fail
      refine zaa (P:=bodyPost _ _ _ _ _) (F:=fun W=>Fr w b g cap ts s8 W∧Bl W w.heap.size #[.int .i64 op,.int .i64 kd,.int .i64 nn,.string nm,.string fl,.slice a ln c,.int .i64 ta] 112)
       ⟨((((((F8.out.far nl_ _ _).far nl_ _ _).far nl_ _ _).far nl_ _ _).far nl_ _ _).far nl_ _ _).far nl_ _ _,R8.out.set7⟩ ?_
      clear r0 r1 r2 r3 r4 r5 r6 g0 g1 g2 g3 g4 g5 g6 k2
      intro wz ⟨FZ,RZ⟩
      obtain ⟨r0,r1,r2,r3,r4,r5,r6⟩:=RZ.cells7
      refine bodyPost_ret (v:=.agg #[.int .i64 op,.int .i64 kd,.int .i64 nn,.string nm,.string fl,.slice a ln c,.int .i64 ta]) (by simp [results,Tryz.results138,go_sem, *]) rfl ?_
      exact ⟨_,_,rfl,⟨_,_,_,_,_,_,_,_,_,rfl⟩,M8.out,FZ.only,FZ.par⟩
end Go.Proofs.YtdpkjpjkdmkkpaaGreatDoor
