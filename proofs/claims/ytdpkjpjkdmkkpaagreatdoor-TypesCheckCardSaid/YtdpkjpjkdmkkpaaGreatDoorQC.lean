/- The reference's parser, weakly: Expr; expressions as deep as they come; Operand. -/
import Derived.Test.YtdpkjpjkdmkkpaaGreatDoorQ5
set_option maxRecDepth 100000
set_option maxHeartbeats 16000000
namespace Go.Proofs.YtdpkjpjkdmkkpaaGreatDoor
open Go.RowKit Lx Pa
theorem zfB {deep:Int} (hB:deep≤32→BinC 1 deep):zjc deep:=by
 intro b g cap k ts s hg hk w hx
 have F0:=hd_ (Fr.start hx)
 have HG:=hd_ hg
 have n1:w.heap.size≠b:=by have:=hx.pb.lt;omega
 have HBI:=hd_ hB
 have M0:=hd_ (Mv.refl ts s)
 have hf4:=zbc
 clear hg hx hB
 go_enter Tryz.func114,Tryz.ntmps114
 by_cases hd:32 < deep
 ·go_wp2_with fail
  refine (zcb HG.out (F0.out.alloc _).par).mono ?_
  rintro e w1 ⟨tk,kd,nn,tx,ta,rfl,ht,hb⟩
  have F1:=hd_ ((F0.out.alloc _).below hb)
  have R1:=hd_ ((Bl.new w #[.int .i64 0,.int .i64 0,.int .i64 0,.string ⟨#[]⟩,.string ⟨#[]⟩,.slice none 0 0,.int .i64 0] 112).below hb)
  clear hb ht F0
  go_wp2_with fail
  refine (zb7 (by decide) F1.out.par).mono ?_
  rintro e w2 ⟨s2,rfl,⟨hm,_⟩,ho,hp⟩
  have F2:=hd_ (F1.out.call ho hp)
  have R2:=hd_ (R1.out.only ho n1)
  have M2:=hd_ ((M0.out.trans hm).mono (by omega:0+0≤1))
  clear ho hp hm F1 R1 hf4
  obtain ⟨r0,r1,r2,r3,r4,r5,r6⟩:=R2.out.cells7
  obtain ⟨g0,g1,g2,g3,g4,g5,g6⟩:=R2.out.free7
  have k2:=R2.out.lt
  go_wp2_with fail
  refine zaa (P:=bodyPost _ _ _ _ _) (F:=fun W=>Fr w b g cap ts s2 W∧Bl W w.heap.size #[.int .i64 0,.int .i64 0,.int .i64 0,.string ⟨#[]⟩,.string ⟨#[]⟩,.slice none 0 0,.int .i64 0] 112)
   ⟨((((((F2.out.far nl_ _ _).far nl_ _ _).far nl_ _ _).far nl_ _ _).far nl_ _ _).far nl_ _ _).far nl_ _ _,R2.out.set7⟩ ?_
  clear r0 r1 r2 r3 r4 r5 r6 g0 g1 g2 g3 g4 g5 g6 k2
  intro wz ⟨FZ,RZ⟩
  obtain ⟨r0,r1,r2,r3,r4,r5,r6⟩:=RZ.cells7
  refine bodyPost_ret (v:=.agg #[.int .i64 0,.int .i64 0,.int .i64 0,.string ⟨#[]⟩,.string ⟨#[]⟩,.slice none 0 0,.int .i64 0]) (by simp [results,Tryz.results114,go_sem, *]) rfl ?_
  exact ⟨_,_,rfl,⟨_,_,_,_,_,_,_,_,_,rfl⟩,M2.out,FZ.only,FZ.par⟩
 ·have HBD:=hd_ (HBI.out (by omega) b g cap k ts s HG.out hk)
  clear hf4
  go_wp2_with fail
  refine (HBD.out _ (F0.out.alloc _).par).mono ?_
  rintro e w1 ⟨v,s1,rfl,⟨op,kd,nn,nm,fl,a,ln,c,ta,rfl⟩,hm,ho,hp⟩
  have F1:=hd_ ((F0.out.alloc _).call ho hp)
  have R1:=hd_ ((Bl.new w #[.int .i64 0,.int .i64 0,.int .i64 0,.string ⟨#[]⟩,.string ⟨#[]⟩,.slice none 0 0,.int .i64 0] 112).only ho n1)
  have M1:=hd_ hm
  clear hm ho hp F0
  obtain ⟨r0,r1,r2,r3,r4,r5,r6⟩:=R1.out.cells7
  obtain ⟨g0,g1,g2,g3,g4,g5,g6⟩:=R1.out.free7
  have k2:=R1.out.lt
  go_wp2_with fail
  refine zaa (P:=bodyPost _ _ _ _ _) (F:=fun W=>Fr w b g cap ts s1 W∧Bl W w.heap.size #[.int .i64 op,.int .i64 kd,.int .i64 nn,.string nm,.string fl,.slice a ln c,.int .i64 ta] 112)
   ⟨((((((F1.out.far nl_ _ _).far nl_ _ _).far nl_ _ _).far nl_ _ _).far nl_ _ _).far nl_ _ _).far nl_ _ _,R1.out.set7⟩ ?_
  clear r0 r1 r2 r3 r4 r5 r6 g0 g1 g2 g3 g4 g5 g6 k2
  intro wz ⟨FZ,RZ⟩
  obtain ⟨r0,r1,r2,r3,r4,r5,r6⟩:=RZ.cells7
  refine bodyPost_ret (v:=.agg #[.int .i64 op,.int .i64 kd,.int .i64 nn,.string nm,.string fl,.slice a ln c,.int .i64 ta]) (by simp [results,Tryz.results114,go_sem, *]) rfl ?_
  exact ⟨_,_,rfl,⟨_,_,_,_,_,_,_,_,_,rfl⟩,M1.out,FZ.only,FZ.par⟩
theorem znc:∀ (n:Nat) (deep:Int),0≤deep→33 - deep≤n→zjc deep∧(deep≤32→zh1 deep):=by
 intro n
 induction n with
 | zero=>
  intro deep h0 h1
  exact ⟨zfB (fun h=>by omega),fun h=>by omega⟩
 | succ n ih=>
  intro deep h0 h1
  by_cases hd:deep≤32
  ·obtain ⟨hE,hU⟩:=ih (deep+1) (by omega) (by push_cast at h1;omega)
   have hV:=zjV h0 (by omega) hE
   have hUn:=zj1 h0 hd hE hV hU
   have b7:BinC (6+1) deep:=zht (by omega) hUn
   have b6:BinC (5+1) deep:=zbA (by omega) (by omega) b7
   have b5:BinC (4+1) deep:=zbA (by omega) (by omega) b6
   have b4:BinC (3+1) deep:=zbA (by omega) (by omega) b5
   have b3:BinC (2+1) deep:=zbA (by omega) (by omega) b4
   have b2:BinC (1+1) deep:=zbA (by omega) (by omega) b3
   have b1:BinC 1 deep:=zbA (by omega) (by omega) b2
   exact ⟨zfB (fun _=>b1),fun _=>hUn⟩
  ·exact ⟨zfB (fun h=>by omega),fun h=>by omega⟩
theorem zeD:zjc 1:=(znc 40 1 (by omega) (by omega)).1
theorem var1:VarC 1:=zjV (by omega) (by omega) (znc 40 2 (by omega) (by omega)).1
theorem Bl.cells9 {W:World} {X:Nat} {T:TypeId} {v0 v1 v2 v3 v4 v5 v6 v7 v8:Value} (h:Bl W X #[v0,v1,v2,v3,v4,v5,v6,v7,v8] T):W.cell? ⟨X,0,none⟩=some v0∧W.cell? ⟨X,1,none⟩=some v1∧W.cell? ⟨X,2,none⟩=some v2∧W.cell? ⟨X,3,none⟩=some v3∧W.cell? ⟨X,4,none⟩=some v4∧W.cell? ⟨X,5,none⟩=some v5∧W.cell? ⟨X,6,none⟩=some v6∧W.cell? ⟨X,7,none⟩=some v7∧W.cell? ⟨X,8,none⟩=some v8:=
 ⟨(h.cell rfl).1,(h.cell rfl).1,(h.cell rfl).1,(h.cell rfl).1,(h.cell rfl).1,(h.cell rfl).1,(h.cell rfl).1,(h.cell rfl).1,(h.cell rfl).1⟩
theorem Bl.free9 {W:World} {X:Nat} {T:TypeId} {v0 v1 v2 v3 v4 v5 v6 v7 v8:Value} (h:Bl W X #[v0,v1,v2,v3,v4,v5,v6,v7,v8] T):W.frozen? ⟨X,0,none⟩=false∧W.frozen? ⟨X,1,none⟩=false∧W.frozen? ⟨X,2,none⟩=false∧W.frozen? ⟨X,3,none⟩=false∧W.frozen? ⟨X,4,none⟩=false∧W.frozen? ⟨X,5,none⟩=false∧W.frozen? ⟨X,6,none⟩=false∧W.frozen? ⟨X,7,none⟩=false∧W.frozen? ⟨X,8,none⟩=false:=
 ⟨(h.cell (o:=0) rfl).2,(h.cell (o:=1) rfl).2,(h.cell (o:=2) rfl).2,(h.cell (o:=3) rfl).2,(h.cell (o:=4) rfl).2,(h.cell (o:=5) rfl).2,(h.cell (o:=6) rfl).2,(h.cell (o:=7) rfl).2,(h.cell (o:=8) rfl).2⟩
theorem Bl.cells13 {W:World} {X:Nat} {T:TypeId} {v0 v1 v2 v3 v4 v5 v6 v7 v8 v9 v10 v11 v12:Value} (h:Bl W X #[v0,v1,v2,v3,v4,v5,v6,v7,v8,v9,v10,v11,v12] T):W.cell? ⟨X,0,none⟩=some v0∧W.cell? ⟨X,1,none⟩=some v1∧W.cell? ⟨X,2,none⟩=some v2∧W.cell? ⟨X,3,none⟩=some v3∧W.cell? ⟨X,4,none⟩=some v4∧W.cell? ⟨X,5,none⟩=some v5∧W.cell? ⟨X,6,none⟩=some v6∧W.cell? ⟨X,7,none⟩=some v7∧W.cell? ⟨X,8,none⟩=some v8∧W.cell? ⟨X,9,none⟩=some v9∧W.cell? ⟨X,10,none⟩=some v10∧W.cell? ⟨X,11,none⟩=some v11∧W.cell? ⟨X,12,none⟩=some v12:=
 ⟨(h.cell rfl).1,(h.cell rfl).1,(h.cell rfl).1,(h.cell rfl).1,(h.cell rfl).1,(h.cell rfl).1,(h.cell rfl).1,(h.cell rfl).1,(h.cell rfl).1,(h.cell rfl).1,(h.cell rfl).1,(h.cell rfl).1,(h.cell rfl).1⟩
theorem Bl.free13 {W:World} {X:Nat} {T:TypeId} {v0 v1 v2 v3 v4 v5 v6 v7 v8 v9 v10 v11 v12:Value} (h:Bl W X #[v0,v1,v2,v3,v4,v5,v6,v7,v8,v9,v10,v11,v12] T):W.frozen? ⟨X,0,none⟩=false∧W.frozen? ⟨X,1,none⟩=false∧W.frozen? ⟨X,2,none⟩=false∧W.frozen? ⟨X,3,none⟩=false∧W.frozen? ⟨X,4,none⟩=false∧W.frozen? ⟨X,5,none⟩=false∧W.frozen? ⟨X,6,none⟩=false∧W.frozen? ⟨X,7,none⟩=false∧W.frozen? ⟨X,8,none⟩=false∧W.frozen? ⟨X,9,none⟩=false∧W.frozen? ⟨X,10,none⟩=false∧W.frozen? ⟨X,11,none⟩=false∧W.frozen? ⟨X,12,none⟩=false:=
 ⟨(h.cell (o:=0) rfl).2,(h.cell (o:=1) rfl).2,(h.cell (o:=2) rfl).2,(h.cell (o:=3) rfl).2,(h.cell (o:=4) rfl).2,(h.cell (o:=5) rfl).2,(h.cell (o:=6) rfl).2,(h.cell (o:=7) rfl).2,(h.cell (o:=8) rfl).2,(h.cell (o:=9) rfl).2,(h.cell (o:=10) rfl).2,(h.cell (o:=11) rfl).2,(h.cell (o:=12) rfl).2⟩
theorem Bl.put9 {W:World} {X:Nat} {T:TypeId} {v0 v1 v2 v3 v4 v5 v6 v7 v8 u0 u1 u2 u3 u4 u5 u6:Value} (h:Bl W X #[v0,v1,v2,v3,v4,v5,v6,v7,v8] T):Bl (((((((W.setCell ⟨X,1,none⟩ u0).setCell ⟨X,2,none⟩ u1).setCell ⟨X,3,none⟩ u2).setCell ⟨X,4,none⟩ u3).setCell ⟨X,5,none⟩ u4).setCell ⟨X,6,none⟩ u5).setCell ⟨X,7,none⟩ u6) X #[v0,u0,u1,u2,u3,u4,u5,u6,v8] T:=by
 simpa using (((((((h.set 1 u0).set 2 u1).set 3 u2).set 4 u3).set 5 u4).set 6 u5).set 7 u6)
theorem Bl.put13 {W:World} {X:Nat} {T:TypeId} {v0 v1 v2 v3 v4 v5 v6 v7 v8 v9 v10 v11 v12 u0 u1 u2 u3 u4 u5 u6:Value} (h:Bl W X #[v0,v1,v2,v3,v4,v5,v6,v7,v8,v9,v10,v11,v12] T):Bl (((((((W.setCell ⟨X,1,none⟩ u0).setCell ⟨X,2,none⟩ u1).setCell ⟨X,3,none⟩ u2).setCell ⟨X,4,none⟩ u3).setCell ⟨X,5,none⟩ u4).setCell ⟨X,6,none⟩ u5).setCell ⟨X,7,none⟩ u6) X #[v0,u0,u1,u2,u3,u4,u5,u6,v8,v9,v10,v11,v12] T:=by
 simpa using (((((((h.set 1 u0).set 2 u1).set 3 u2).set 4 u3).set 5 u4).set 6 u5).set 7 u6)
def SlV (v:Value):Prop:=∃ a n c,v=.slice a n c
theorem zcF {b g cap k:Nat} {ts:List Tok} {s:PS} (hg:Pa.Good ts k s) (hk:k≤49000) (w:World) (hx:Par w b g cap ts s) :
  Calls Tryz.prog 110 #[.pointer (some ⟨b,0,none⟩)] w (zfd w b g cap ts s 1 ExV):=by
 have F0:=hd_ (Fr.start hx)
 have HG:=hd_ hg
 have n1:w.heap.size≠b:=by have:=hx.pb.lt;omega
 have M0:=hd_ (Mv.refl ts s)
 obtain ⟨rn,hrn⟩:∃ r,zd1 ts s=r:=⟨_,rfl⟩
 obtain ⟨rm,hrm⟩:∃ r,is ts s (⟨#[45]⟩:ByteArray).data.toList=r:=⟨_,rfl⟩
 have HNU:=hd_ (fun W hW=>zda (b:=b) (g:=g) (cap:=cap) hrn hg.1 W hW)
 have HIS:=hd_ (fun W hW=>zb9 (b:=b) (g:=g) (cap:=cap) hrm hg.1 W hW)
 clear hg hx hrn hrm
 go_enter Tryz.func110,Tryz.ntmps110
 go_wp2_with fail
 refine (HNU.out _ (F0.out.alloc _).par).mono ?_
 rintro e w1 ⟨rfl,hb⟩
 have F1:=hd_ ((F0.out.alloc _).below hb)
 have R1:=hd_ ((Bl.new w #[.int .i64 0,.int .i64 0,.int .i64 0,.string ⟨#[]⟩,.string ⟨#[]⟩,.slice none 0 0,.int .i64 0] 112).below hb)
 clear hb F0
 cases rn with
 | true=>
  go_wp2_with fail
  refine (zfC (M0.out.good k HG.out) (by omega) F1.out.par).mono ?_
  rintro e w5 ⟨v,s5,rfl,⟨op,kd,nn,nm,fl,a,ln,c,ta,rfl⟩,hm,_,ho,hp⟩
  have F5:=hd_ (F1.out.call ho hp)
  have R5:=hd_ (R1.out.only ho n1)
  have M5:=hd_ ((M0.out.trans hm).mono (by omega:0+0≤1))
  clear hm ho hp
  obtain ⟨r0,r1,r2,r3,r4,r5,r6⟩:=R5.out.cells7
  obtain ⟨g0,g1,g2,g3,g4,g5,g6⟩:=R5.out.free7
  have k2:=R5.out.lt
  go_wp2_with fail
  refine zaa (P:=bodyPost _ _ _ _ _) (F:=fun W=>Fr w b g cap ts s5 W∧Bl W w.heap.size #[.int .i64 op,.int .i64 kd,.int .i64 nn,.string nm,.string fl,.slice a ln c,.int .i64 ta] 112)
   ⟨((((((F5.out.far nl_ _ _).far nl_ _ _).far nl_ _ _).far nl_ _ _).far nl_ _ _).far nl_ _ _).far nl_ _ _,R5.out.set7⟩ ?_
  clear r0 r1 r2 r3 r4 r5 r6 g0 g1 g2 g3 g4 g5 g6 k2
  intro wz ⟨FZ,RZ⟩
  obtain ⟨r0,r1,r2,r3,r4,r5,r6⟩:=RZ.cells7
  refine bodyPost_ret (v:=.agg #[.int .i64 op,.int .i64 kd,.int .i64 nn,.string nm,.string fl,.slice a ln c,.int .i64 ta]) (by simp [results,Tryz.results110,go_sem, *]) rfl ?_
  exact ⟨_,_,rfl,⟨_,_,_,_,_,_,_,_,_,rfl⟩,M5.out,FZ.only,FZ.par⟩
 | false=>
  go_wp2_with fail
  refine (HIS.out _ F1.out.par).mono ?_
  rintro e w2 ⟨rfl,hb⟩
  have F2:=hd_ (F1.out.below hb)
  have R2:=hd_ (R1.out.below hb)
  clear hb F1 R1
  cases rm with
  | true=>
   go_wp2_with fail
   refine (zfC (M0.out.good k HG.out) (by omega) F2.out.par).mono ?_
   rintro e w5 ⟨v,s5,rfl,⟨op,kd,nn,nm,fl,a,ln,c,ta,rfl⟩,hm,_,ho,hp⟩
   have F5:=hd_ (F2.out.call ho hp)
   have R5:=hd_ (R2.out.only ho n1)
   have M5:=hd_ ((M0.out.trans hm).mono (by omega:0+0≤1))
   clear hm ho hp
   obtain ⟨r0,r1,r2,r3,r4,r5,r6⟩:=R5.out.cells7
   obtain ⟨g0,g1,g2,g3,g4,g5,g6⟩:=R5.out.free7
   have k2:=R5.out.lt
   go_wp2_with fail
   refine zaa (P:=bodyPost _ _ _ _ _) (F:=fun W=>Fr w b g cap ts s5 W∧Bl W w.heap.size #[.int .i64 op,.int .i64 kd,.int .i64 nn,.string nm,.string fl,.slice a ln c,.int .i64 ta] 112)
    ⟨((((((F5.out.far nl_ _ _).far nl_ _ _).far nl_ _ _).far nl_ _ _).far nl_ _ _).far nl_ _ _).far nl_ _ _,R5.out.set7⟩ ?_
   clear r0 r1 r2 r3 r4 r5 r6 g0 g1 g2 g3 g4 g5 g6 k2
   intro wz ⟨FZ,RZ⟩
   obtain ⟨r0,r1,r2,r3,r4,r5,r6⟩:=RZ.cells7
   refine bodyPost_ret (v:=.agg #[.int .i64 op,.int .i64 kd,.int .i64 nn,.string nm,.string fl,.slice a ln c,.int .i64 ta]) (by simp [results,Tryz.results110,go_sem, *]) rfl ?_
   exact ⟨_,_,rfl,⟨_,_,_,_,_,_,_,_,_,rfl⟩,M5.out,FZ.only,FZ.par⟩
  | false=>
   go_wp2_with fail
   refine (var1 _ _ _ _ _ _ (M0.out.good k HG.out) (by omega) w2 F2.out.par).mono ?_
   rintro e w5 ⟨v,s5,rfl,⟨op,kd,nn,nm,fl,a,ln,c,ta,rfl⟩,⟨hm,_⟩,ho,hp⟩
   have F5:=hd_ (F2.out.call ho hp)
   have R5:=hd_ (R2.out.only ho n1)
   have M5:=hd_ ((M0.out.trans hm).mono (by omega:0+1≤1))
   clear hm ho hp
   obtain ⟨r0,r1,r2,r3,r4,r5,r6⟩:=R5.out.cells7
   obtain ⟨g0,g1,g2,g3,g4,g5,g6⟩:=R5.out.free7
   have k2:=R5.out.lt
   go_wp2_with fail
   refine zaa (P:=bodyPost _ _ _ _ _) (F:=fun W=>Fr w b g cap ts s5 W∧Bl W w.heap.size #[.int .i64 op,.int .i64 kd,.int .i64 nn,.string nm,.string fl,.slice a ln c,.int .i64 ta] 112)
    ⟨((((((F5.out.far nl_ _ _).far nl_ _ _).far nl_ _ _).far nl_ _ _).far nl_ _ _).far nl_ _ _).far nl_ _ _,R5.out.set7⟩ ?_
   clear r0 r1 r2 r3 r4 r5 r6 g0 g1 g2 g3 g4 g5 g6 k2
   intro wz ⟨FZ,RZ⟩
   obtain ⟨r0,r1,r2,r3,r4,r5,r6⟩:=RZ.cells7
   refine bodyPost_ret (v:=.agg #[.int .i64 op,.int .i64 kd,.int .i64 nn,.string nm,.string fl,.slice a ln c,.int .i64 ta]) (by simp [results,Tryz.results110,go_sem, *]) rfl ?_
   exact ⟨_,_,rfl,⟨_,_,_,_,_,_,_,_,_,rfl⟩,M5.out,FZ.only,FZ.par⟩
theorem zlV:(Tryz.prog.info? 221).map (fun i=>(i.zero,i.size,i.bytes))=some (some (.agg #[.string ⟨#[]⟩,.int .i64 0,.int .i64 0,.int .i64 0,.string ⟨#[]⟩,.string ⟨#[]⟩,.slice none 0 0,.int .i64 0,.int .i64 0]),9,112):=by kernel_rfl
theorem zii {b g cap k:Nat} {ts:List Tok} {s:PS} (il:Bool) (hg:Pa.Good ts k s) (hk:k≤48000) (w:World) (hx:Par w b g cap ts s) :
  Calls Tryz.prog 111 #[.pointer (some ⟨b,0,none⟩),.bool il] w (zfd w b g cap ts s 2 SlV):=by
 have F0:=hd_ (Fr.start hx)
 have HG:=hd_ hg
 have n1:w.heap.size≠b:=by have:=hx.pb.lt;omega
 have M0:=hd_ (Mv.refl ts s)
 obtain ⟨i0,hi9,hz0,hz1,hz2⟩:=info_parts zlV
 have HI:=hd_ (And.intro hi9 (And.intro hz0 (And.intro hz1 hz2)))
 have HEX:=hd_ zeD
 clear hg hx hi9 hz0 hz1 hz2
 go_enter Tryz.func111,Tryz.ntmps111
 go_wp2_with fail
 refine (zan ⟨#[40]⟩ HG.out (by omega) F0.out.par).mono ?_
 rintro e w1 ⟨_,s1,rfl,rfl,hm,ho,hp⟩
 have F1:=hd_ (F0.out.call ho hp)
 have M1:=hd_ ((M0.out.trans hm).mono (by omega:0+0≤0))
 clear hm ho hp F0
 go_wp2_with fail
 refine (zaO ⟨#[41]⟩ (M1.out.good k HG.out) (by omega) F1.out.par).mono ?_
 rintro e w2 ⟨r,s2,rfl,⟨hm,ht,hf⟩,ho,hp⟩
 have F2:=hd_ (F1.out.call ho hp)
 have M2:=hd_ ((M1.out.trans hm).mono (by omega:0+0≤2))
 clear hm ht hf ho hp F1
 cases r with
 | true=>
  go_wp2_with fail
  go_ret
  exact ⟨_,_,rfl,⟨_,_,_,rfl⟩,M2.out,F2.out.only,F2.out.par⟩
 | false=>
  have O2:Hid (w2.ownsRow w.heap.size 221 9 (.slice none 0 0) 0 []):=hd_ ⟨by simp,.inl ⟨rfl,rfl⟩⟩
  go_wp2_with fail
  go_loopw [5,6] (fun v5 v6 wr=>RRel (∃ (si:PS) (fv:Value) (n:Nat) (cs:List Value) (r:Bool),fv=v5∧v6=.bool r∧n≤si.i∧Hid (Mv ts 2 s si)∧Hid (Fr w b g cap ts si wr)∧Hid (wr.ownsRow w.heap.size 221 9 fv n cs))) (fun _ _ wr=>200000 - (intOf ((wr.cell? ⟨b,1,none⟩).getD undef)).toNat)
  case atStart=>exact RRel.mk ⟨s2,_,0,_,true,rfl,rfl,by omega,M2,F2,O2⟩
  case round=>
   obtain ⟨si,fv,n,cs,r,hfv,rfl,hn,M3,F3,O3⟩:=hrel.it
   subst hfv
   clear hrel M2 F2 O2
   obtain ⟨w3,rfl⟩:∃ w3,w3=wr:=⟨_,rfl⟩
   obtain ⟨fa,fc,rfl⟩:=zb4 O3.out
   have HMI:=hd_ F3.out.par.pb.cells.2.1
   have hfew:=zat (M3.out.good k HG.out) (by omega) F3.out.par
   obtain ⟨d0,d1,d2,d3,f1,f2,f3⟩:=F3.out.par.pb.cells
   have k1:=F3.out.par.pb.lt
   have hend:∀ q:Bool,q=(r&&(si.err==0))→q=false→True:=fun _ _ _=>trivial
   clear hend
   by_cases hgo:r=true∧si.err=0
   ·obtain ⟨rfl,he⟩:=hgo
    rw [he] at d2
    have M3z:=hd_ (M3.out.zero he)
    clear he M3
    go_wp2_with fail
    refine (zb8 (M3z.out.good k HG.out) (by omega) F3.out.par).mono ?_
    rintro e w4 ⟨tk,kd4,nn4,nx,nt,s4,rfl,hm,hlt,ho,hp⟩
    have F4:=hd_ (F3.out.call ho hp)
    have O4:=hd_ (zam O3.out ho F3.out.lt.1)
    have M4:=hd_ (M3z.out.trans hm)
    have L4:Hid (si.i < s4.i):=hd_ hlt
    clear hm hlt ho hp F3 O3 M3z d0 d1 d2 d3 f1 f2 f3 k1
    go_upto_region 9 with fail
    refine zaa (P:=Code.wp _ _ _ _) (F:=fun W=>Fr w b g cap ts s4 W∧Bl W w4.heap.size #[.int .i64 tk,.int .i64 kd4,.int .i64 nn4,.string nx,.int .i64 nt] 107∧W.ownsRow w.heap.size 221 9 (.slice fa n fc) n cs)
     ⟨F4.out.alloc _,Bl.new _ _ _,zae O4.out (br_.alloc nl_ _) nl_⟩ ?_
    have hZ1:w4.heap.size≠b:=by have:=F4.out.size;have:=F4.out.lt.1;omega
    have hZ0:w.heap.size≤w4.heap.size:=F4.out.size
    clear F4 O4
    intro w5 ⟨F5,T5,O5⟩
    obtain ⟨Z,hZ⟩:∃ Z,w4.heap.size=Z:=⟨_,rfl⟩
    rw [hZ] at T5 hZ1 hZ0 ⊢
    clear hZ
    have F5:=hd_ F5
    have T5:=hd_ T5
    have O5:=hd_ O5
    go_wp2_with fail
    refine (zan ⟨#[58,61]⟩ (M4.out.good k HG.out) (by omega) F5.out.par).mono ?_
    rintro e w6 ⟨_,s6,rfl,rfl,hm,ho,hp⟩
    have F6:=hd_ (F5.out.call ho hp)
    have T6:=hd_ (T5.out.only ho hZ1)
    have O6:=hd_ (zam O5.out ho F5.out.lt.1)
    have M6:=hd_ (M4.out.trans hm)
    have L6:Hid (s4.i≤s6.i):=hd_ hm.le
    clear hm ho hp F5 T5 O5 M4
    obtain ⟨-,-,-,t3,t4⟩:=T6.out.cells5
    have k5:=T6.out.lt
    go_upto_region 11 with fail
    refine zaa (P:=Code.wp _ _ _ _) (F:=fun W=>Fr w b g cap ts s6 W∧Bl W w6.heap.size #[.string nx,.int .i64 0,.int .i64 0,.int .i64 0,.string ⟨#[]⟩,.string ⟨#[]⟩,.slice none 0 0,.int .i64 0,.int .i64 nt] 221∧W.ownsRow w.heap.size 221 9 (.slice fa n fc) n cs)
     ⟨F6.out.alloc _,Bl.new _ _ _,zae O6.out (br_.alloc nl_ _) nl_⟩ ?_
    have hY1:w6.heap.size≠b:=by have:=F6.out.size;have:=F6.out.lt.1;omega
    have hY0:w.heap.size≤w6.heap.size:=F6.out.size
    have HYO:Hid (some w6.heap.size≠(Value.slice fa n fc).ownBlock):=hd_ (fun h=>by have:=(O6.out.lt _ h.symm).2;omega)
    clear F6 O6 T6 t3 t4 k5
    intro w7 ⟨F7,E7,O7⟩
    obtain ⟨Y,hY⟩:∃ Y,w6.heap.size=Y:=⟨_,rfl⟩
    rw [hY] at E7 hY1 hY0 HYO ⊢
    clear hY
    have F7:=hd_ F7
    have E7:=hd_ E7
    have O7:=hd_ O7
    cases il with
    | true=>
     go_wp2_with fail
     refine (zcF (M6.out.good k HG.out) (by omega) w7 F7.out.par).mono ?_
     rintro e w8 ⟨v,s8,rfl,⟨op,kd,nn,nm,fl,a,ln,c,ta,rfl⟩,hm,ho,hp⟩
     have F8:=hd_ (F7.out.call ho hp)
     have E8:=hd_ (E7.out.only ho hY1)
     have O8:=hd_ (zam O7.out ho F7.out.lt.1)
     have M8:=hd_ ((M6.out.trans hm).mono (by omega:0+1+0+1≤2))
     have L8:Hid (s6.i≤s8.i):=hd_ hm.le
     clear hm ho hp F7 E7 O7 M6
     obtain ⟨-,q1,q2,q3,q4,q5,q6,q7,-⟩:=E8.out.cells9
     obtain ⟨-,x1,x2,x3,x4,x5,x6,x7,-⟩:=E8.out.free9
     have k3:=E8.out.lt
     go_upto_region 14 with fail
     refine zaa (P:=Code.wp _ _ _ _) (F:=fun W=>Fr w b g cap ts s8 W∧Bl W Y #[.string nx,.int .i64 op,.int .i64 kd,.int .i64 nn,.string nm,.string fl,.slice a ln c,.int .i64 ta,.int .i64 nt] 221∧W.ownsRow w.heap.size 221 9 (.slice fa n fc) n cs)
      ⟨((((((F8.out.far hY0 _ _).far hY0 _ _).far hY0 _ _).far hY0 _ _).far hY0 _ _).far hY0 _ _).far hY0 _ _,E8.out.put9,zaj (zaj (zaj (zaj (zaj (zaj (zaj O8.out HYO.out) HYO.out) HYO.out) HYO.out) HYO.out) HYO.out) HYO.out⟩ ?_
     clear q1 q2 q3 q4 q5 q6 q7 x1 x2 x3 x4 x5 x6 x7 k3 F8 E8 O8
     intro w9 ⟨F9,E9,O9⟩
     obtain ⟨p0,p1,p2,p3,p4,p5,p6,p7,p8⟩:=E9.cells9
     have kp:=E9.lt
     have F9:=hd_ F9
     have O9:=hd_ O9
     have y9:=zat (M8.out.good k HG.out) (by omega) F9.out.par
     clear E9
     go_wp2_with (at_builtin;refine wpList_append_lies _ (by rfl) _ _ _ (by rfl) w.heap.size 221 i0 _ 9 112 Tryz.underlying100 HI.out.1 HI.out.2.1 HI.out.2.2.1 HI.out.2.2.2 rfl (by omega) (.slice fa n fc) n cs (by rfl) (zae O9.out ((Below.refl w9.heap.size w9).alloc nl_ _) nl_) ⟨w9.heap.size,0,none⟩ 1 1 [.string nx,.int .i64 op,.int .i64 kd,.int .i64 nn,.string nm,.string fl,.slice a ln c,.int .i64 ta,.int .i64 nt] (by rfl) (by rfl) (World.news_of_block (cs:=#[.string nx,.int .i64 op,.int .i64 kd,.int .i64 nn,.string nm,.string fl,.slice a ln c,.int .i64 ta,.int .i64 nt]) (t:=221) (fr:=(0,0)) (heap_alloc_new _ _)) (by simp [Value.oneCell']) (by omega) (by simp only [maxLen];omega) (by omega) (by have:=F9.out.size;simp;omega) (w9.heap.size+1) (by simp) ?_;intro g9 cp9 w10 hown hgrow hat hlt9;have F10:=hd_ ((F9.out.alloc _).grown hgrow (fun k hk=>(O9.out.lt k hk).1));have O10:=hd_ hown;clear hown hgrow hat hlt9 p0 p1 p2 p3 p4 p5 p6 p7 p8 kp)
     refine (zaO ⟨#[44]⟩ (M8.out.good k HG.out) (by omega) F10.out.par).mono ?_
     rintro e w11 ⟨r,s11,rfl,⟨hm,ht,hf⟩,ho,hp⟩
     have F11:=hd_ (F10.out.call ho hp)
     have O11:=hd_ (zam O10.out ho F10.out.lt.1)
     have M11:=hd_ ((M8.out.trans hm).mono (by omega:2+0≤2))
     have L11:Hid (n+1≤s11.i∧si.i < s11.i):=hd_ (by have:=hm.le;have:=L4.out;have:=L6.out;have:=L8.out;omega)
     clear hm ht hf ho hp F10 O10
     go_wp2_with fail
     go_roundw
     case rel=>exact RRel.mk ⟨s11,_,n+1,_,r,rfl,rfl,L11.out.1,M11,F11,O11⟩
     case measure=>
      have y1:=F11.out.par.pb.cells.2.1
      have y2:=HMI.out
      have y3:=zat (M11.out.good k HG.out) (by omega) F11.out.par
      have y4:=L11.out.2
      simp [y1,y2,intOf];omega
    | false=>
     go_wp2_with fail
     refine (HEX.out _ _ _ _ _ _ (M6.out.good k HG.out) (by omega) w7 F7.out.par).mono ?_
     rintro e w8 ⟨v,s8,rfl,⟨op,kd,nn,nm,fl,a,ln,c,ta,rfl⟩,hm,ho,hp⟩
     have F8:=hd_ (F7.out.call ho hp)
     have E8:=hd_ (E7.out.only ho hY1)
     have O8:=hd_ (zam O7.out ho F7.out.lt.1)
     have M8:=hd_ ((M6.out.trans hm).mono (by omega:0+1+0+1≤2))
     have L8:Hid (s6.i≤s8.i):=hd_ hm.le
     clear hm ho hp F7 E7 O7 M6
     obtain ⟨-,q1,q2,q3,q4,q5,q6,q7,-⟩:=E8.out.cells9
     obtain ⟨-,x1,x2,x3,x4,x5,x6,x7,-⟩:=E8.out.free9
     have k3:=E8.out.lt
     go_upto_region 14 with fail
     refine zaa (P:=Code.wp _ _ _ _) (F:=fun W=>Fr w b g cap ts s8 W∧Bl W Y #[.string nx,.int .i64 op,.int .i64 kd,.int .i64 nn,.string nm,.string fl,.slice a ln c,.int .i64 ta,.int .i64 nt] 221∧W.ownsRow w.heap.size 221 9 (.slice fa n fc) n cs)
      ⟨((((((F8.out.far hY0 _ _).far hY0 _ _).far hY0 _ _).far hY0 _ _).far hY0 _ _).far hY0 _ _).far hY0 _ _,E8.out.put9,zaj (zaj (zaj (zaj (zaj (zaj (zaj O8.out HYO.out) HYO.out) HYO.out) HYO.out) HYO.out) HYO.out) HYO.out⟩ ?_
     clear q1 q2 q3 q4 q5 q6 q7 x1 x2 x3 x4 x5 x6 x7 k3 F8 E8 O8
     intro w9 ⟨F9,E9,O9⟩
     obtain ⟨p0,p1,p2,p3,p4,p5,p6,p7,p8⟩:=E9.cells9
     have kp:=E9.lt
     have F9:=hd_ F9
     have O9:=hd_ O9
     have y9:=zat (M8.out.good k HG.out) (by omega) F9.out.par
     clear E9
     go_wp2_with (at_builtin;refine wpList_append_lies _ (by rfl) _ _ _ (by rfl) w.heap.size 221 i0 _ 9 112 Tryz.underlying100 HI.out.1 HI.out.2.1 HI.out.2.2.1 HI.out.2.2.2 rfl (by omega) (.slice fa n fc) n cs (by rfl) (zae O9.out ((Below.refl w9.heap.size w9).alloc nl_ _) nl_) ⟨w9.heap.size,0,none⟩ 1 1 [.string nx,.int .i64 op,.int .i64 kd,.int .i64 nn,.string nm,.string fl,.slice a ln c,.int .i64 ta,.int .i64 nt] (by rfl) (by rfl) (World.news_of_block (cs:=#[.string nx,.int .i64 op,.int .i64 kd,.int .i64 nn,.string nm,.string fl,.slice a ln c,.int .i64 ta,.int .i64 nt]) (t:=221) (fr:=(0,0)) (heap_alloc_new _ _)) (by simp [Value.oneCell']) (by omega) (by simp only [maxLen];omega) (by omega) (by have:=F9.out.size;simp;omega) (w9.heap.size+1) (by simp) ?_;intro g9 cp9 w10 hown hgrow hat hlt9;have F10:=hd_ ((F9.out.alloc _).grown hgrow (fun k hk=>(O9.out.lt k hk).1));have O10:=hd_ hown;clear hown hgrow hat hlt9 p0 p1 p2 p3 p4 p5 p6 p7 p8 kp)
     refine (zaO ⟨#[44]⟩ (M8.out.good k HG.out) (by omega) F10.out.par).mono ?_
     rintro e w11 ⟨r,s11,rfl,⟨hm,ht,hf⟩,ho,hp⟩
     have F11:=hd_ (F10.out.call ho hp)
     have O11:=hd_ (zam O10.out ho F10.out.lt.1)
     have M11:=hd_ ((M8.out.trans hm).mono (by omega:2+0≤2))
     have L11:Hid (n+1≤s11.i∧si.i < s11.i):=hd_ (by have:=hm.le;have:=L4.out;have:=L6.out;have:=L8.out;omega)
     clear hm ht hf ho hp F10 O10
     go_wp2_with fail
     go_roundw
     case rel=>exact RRel.mk ⟨s11,_,n+1,_,r,rfl,rfl,L11.out.1,M11,F11,O11⟩
     case measure=>
      have y1:=F11.out.par.pb.cells.2.1
      have y2:=HMI.out
      have y3:=zat (M11.out.good k HG.out) (by omega) F11.out.par
      have y4:=L11.out.2
      simp [y1,y2,intOf];omega
   ·have hq:(r&&(si.err==0))=false:=by
     cases r with
     | false=>rfl
     | true=>
      have h:¬ si.err=0:=fun h=>hgo ⟨rfl,h⟩
      simp [h]
    clear hgo
    cases r with
    | false=>
     clear hq
     go_wp2_with fail
     refine (zan ⟨#[41]⟩ (M3.out.good k HG.out) (by omega) F3.out.par).mono ?_
     rintro e w9 ⟨_,s9,rfl,rfl,hm,ho,hp⟩
     have F9:=hd_ (F3.out.call ho hp)
     have M9:=hd_ ((M3.out.trans hm).mono (by omega:2+0≤2))
     clear hm ho hp F3 O3
     go_wp2_with fail
     go_ret
     exact ⟨_,_,rfl,⟨_,_,_,rfl⟩,M9.out,F9.out.only,F9.out.par⟩
    | true=>
     have he:(si.err==0)=false:=by simpa using hq
     clear hq
     go_wp2_with fail
     refine (zan ⟨#[41]⟩ (M3.out.good k HG.out) (by omega) F3.out.par).mono ?_
     rintro e w9 ⟨_,s9,rfl,rfl,hm,ho,hp⟩
     have F9:=hd_ (F3.out.call ho hp)
     have M9:=hd_ ((M3.out.trans hm).mono (by omega:2+0≤2))
     clear hm ho hp F3 O3
     go_wp2_with fail
     go_ret
     exact ⟨_,_,rfl,⟨_,_,_,rfl⟩,M9.out,F9.out.only,F9.out.par⟩
end Go.Proofs.YtdpkjpjkdmkkpaaGreatDoor
