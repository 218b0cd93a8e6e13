/- The walks through the reference's parser: literal, bound, kind. -/
import Derived.Test.YtdpkjpjkdmkkpaaGreatDoorML
set_option maxRecDepth 100000
set_option maxHeartbeats 16000000
namespace Go.Proofs.YtdpkjpjkdmkkpaaGreatDoor
open Go.RowKit Lx Pa
def litV (l:Pa.Lit):Value:=.agg #[.int .i64 l.op,.int .i64 l.kind,.int .i64 l.n,.string ⟨#[]⟩,.string ⟨#[]⟩,.slice none 0 0,.int .i64 l.at_]
theorem zb6 {b g cap:Nat} {ts:List Tok} {s s':PS} {l:Pa.Lit} (hr:Pa.literal ts s=(l,s')) (hg:Pa.Good ts 50000 s) (w:World) (hx:Par w b g cap ts s) :
  Calls Tryz.prog 126 #[.pointer (some ⟨b,0,none⟩)] w (zbC w b g cap ts (litV l) s'):=by
 have F0:=hd_ (Fr.start hx)
 obtain ⟨t,ht⟩:∃ t,T ts s=t:=⟨_,rfl⟩
 obtain ⟨q,hq⟩:∃ q,zd1 ts s=q:=⟨_,rfl⟩
 have HT:=hd_ (fun W (hW:Par W b g cap ts s)=>zbH ht hg.1 W hW)
 have HN:=hd_ (fun W (hW:Par W b g cap ts s)=>zda hq hg.1 W hW)
 have hqn:q=true→t.tok=3∨t.tok=4:=by
  intro h
  rw [h] at hq
  unfold zd1 at hq
  rw [ht] at hq
  simp only [Bool.and_eq_true,Bool.or_eq_true,decide_eq_true_eq] at hq
  exact hq.2
 have hb9:s.i≤200000:=by have:=hg.2;have:=hx.le;omega
 have n1:w.heap.size≠b:=by have:=hx.pb.lt;omega
 unfold Pa.literal at hr
 rw [hq,ht] at hr
 obtain ⟨tk,kd,nn,tx,ta⟩:=t
 simp only [tokV] at HT
 simp only at hr hqn
 cases q with
 | false=>
  rw [if_neg (by simp)] at hr
  injection hr with hr1 hr2
  subst hr1
  have HF:=hd_ (fun W (hW:Par W b g cap ts s)=>za1 hr2 W hW)
  clear hx hg hr2 hq hqn hb9 ht
  go_enter Tryz.func126,Tryz.ntmps126
  go_wp2_with fail
  refine (HT.out _ (F0.out.alloc _).par).mono ?_
  rintro e w1 ⟨rfl,hb1⟩
  have F1:=hd_ ((F0.out.alloc _).below hb1)
  have R1:=hd_ ((Bl.new _ _ _).below hb1)
  clear hb1
  go_wp2_with fail
  refine (HN.out _ (F1.out.alloc _).par).mono ?_
  rintro e w2 ⟨rfl,hb2⟩
  have F2:=hd_ ((F1.out.alloc _).below hb2)
  have R2:=hd_ ((R1.out.alloc _).below hb2)
  have T2:=hd_ ((Bl.new _ _ _).below hb2)
  obtain ⟨-,-,-,-,q4⟩:=T2.out.cells5
  have k2:=T2.out.lt
  clear hb2
  go_wp2_with fail
  refine (HF.out _ F2.out.par).mono ?_
  rintro e w3 ⟨rfl,ho,hp⟩
  have F3:=hd_ (F2.out.call ho hp)
  have R3:=hd_ (R2.out.only ho n1)
  clear ho hp q4 k2 T2
  obtain ⟨r0,r1,r2,r3,r4,r5,r6⟩:=R3.out.cells7
  obtain ⟨g0,g1,g2,g3,g4,g5,g6⟩:=R3.out.free7
  have kR:=R3.out.lt
  go_wp2_with fail
  refine zaa (P:=bodyPost _ _ _ _ _) (F:=fun W=>Fr w b g cap ts s' W∧Bl W w.heap.size #[.int .i64 0,.int .i64 0,.int .i64 0,.string ⟨#[]⟩,.string ⟨#[]⟩,.slice none 0 0,.int .i64 0] 112)
   ⟨((((((((F3.out).far nl_ _ _).far nl_ _ _).far nl_ _ _).far nl_ _ _).far nl_ _ _).far nl_ _ _).far nl_ _ _),R3.out.set7⟩ ?_
  clear r0 r1 r2 r3 r4 r5 r6 g0 g1 g2 g3 g4 g5 g6 kR
  intro W2 ⟨F9,R9⟩
  obtain ⟨r0,r1,r2,r3,r4,r5,r6⟩:=R9.cells7
  refine bodyPost_ret (v:=.agg #[.int .i64 0,.int .i64 0,.int .i64 0,.string ⟨#[]⟩,.string ⟨#[]⟩,.slice none 0 0,.int .i64 0]) (by simp [results,Tryz.results126,go_sem, *]) rfl ?_
  exact F9.post rfl
 | true=>
  rw [if_pos rfl] at hr
  injection hr with hr1 hr2
  have HS:=hd_ hr2
  have HL:=hd_ hr1
  have hw:=hqn rfl
  have i5:IntKind.i64.wrap ((s.i:Int)+1)=(s.i:Int)+1:=IntWalk.i64_in _ (by omega)
  clear hx hg hr2 hr1 hq hqn hb9 ht
  rcases hw with h3 | h4
  ·have e4:(tk==4)=false:=by simp [h3]
   have HL2:Hid (litV l=.agg #[.int .i64 1,.int .i64 kd,.int .i64 nn,.string ⟨#[]⟩,.string ⟨#[]⟩,.slice none 0 0,.int .i64 ta]):=hd_ (by rw [← HL.out];simp [litV,h3])
   clear h3 HL
   go_enter Tryz.func126,Tryz.ntmps126
   go_wp2_with fail
   refine (HT.out _ (F0.out.alloc _).par).mono ?_
   rintro e w1 ⟨rfl,hb1⟩
   have F1:=hd_ ((F0.out.alloc _).below hb1)
   have R1:=hd_ ((Bl.new _ _ _).below hb1)
   clear hb1
   go_wp2_with fail
   refine (HN.out _ (F1.out.alloc _).par).mono ?_
   rintro e w2 ⟨rfl,hb2⟩
   have F2:=hd_ ((F1.out.alloc _).below hb2)
   have R2:=hd_ ((R1.out.alloc _).below hb2)
   have T2:=hd_ ((Bl.new _ _ _).below hb2)
   obtain ⟨-,c1,-,-,f1,-,-⟩:=F2.out.par.pb.cells
   have k1:=F2.out.par.pb.lt
   have n3:w1.heap.size≠b:=by have:=F0.out.lt;have:=F1.out.size;omega
   clear hb2
   go_upto_region 6 with fail
   refine zaa (P:=Code.wp _ _ _ _) (F:=fun W=>Fr w b g cap ts ⟨s.i+1,s.err,s.at_⟩ W∧Bl W w.heap.size _ 112∧Bl W w1.heap.size #[.int .i64 tk,.int .i64 kd,.int .i64 nn,.string ⟨tx.toArray⟩,.int .i64 ta] 107)
    ⟨F2.out.set1 (by simp),R2.out.other n1 _ _,T2.out.other n3 _ _⟩ ?_
   clear c1 f1 k1 T2 R2 R1 F2 F1
   intro W ⟨F2,R2,T2⟩
   have F2:=hd_ F2
   have R2:=hd_ R2
   have k3:=T2.lt
   obtain ⟨q0,q1,q2,q3,q4⟩:=T2.cells5
   clear T2
   go_upto_region 9 with fail
   refine zaa (P:=Code.wp _ _ _ _) (F:=fun W'=>Fr w b g cap ts ⟨s.i+1,s.err,s.at_⟩ W'∧Bl W' w.heap.size _ 112∧Bl W' W.heap.size #[.int .i64 1,.int .i64 kd,.int .i64 nn,.string ⟨#[]⟩,.string ⟨#[]⟩,.slice none 0 0,.int .i64 ta] 112)
    ⟨F2.out.alloc _,R2.out.alloc _,Bl.new _ _ _⟩ ?_
   clear q0 q1 q2 q3 q4 k3
   intro W3 ⟨F3,R3,E3⟩
   have F3:=hd_ F3
   have R3:=hd_ R3
   have k3:=E3.lt
   obtain ⟨q0,q1,q2,q3,q4,q5,q6⟩:=E3.cells7
   clear E3 F2 R2
   obtain ⟨r0,r1,r2,r3,r4,r5,r6⟩:=R3.out.cells7
   obtain ⟨g0,g1,g2,g3,g4,g5,g6⟩:=R3.out.free7
   have kR:=R3.out.lt
   go_wp2_with fail
   refine zaa (P:=bodyPost _ _ _ _ _) (F:=fun W=>Fr w b g cap ts ⟨s.i+1,s.err,s.at_⟩ W∧Bl W w.heap.size #[.int .i64 1,.int .i64 kd,.int .i64 nn,.string ⟨#[]⟩,.string ⟨#[]⟩,.slice none 0 0,.int .i64 ta] 112)
    ⟨((((((((F3.out).far nl_ _ _).far nl_ _ _).far nl_ _ _).far nl_ _ _).far nl_ _ _).far nl_ _ _).far nl_ _ _),R3.out.set7⟩ ?_
   clear q0 q1 q2 q3 q4 q5 q6 k3 r0 r1 r2 r3 r4 r5 r6 g0 g1 g2 g3 g4 g5 g6 kR
   intro W2 ⟨F9,R9⟩
   obtain ⟨r0,r1,r2,r3,r4,r5,r6⟩:=R9.cells7
   refine bodyPost_ret (v:=.agg #[.int .i64 1,.int .i64 kd,.int .i64 nn,.string ⟨#[]⟩,.string ⟨#[]⟩,.slice none 0 0,.int .i64 ta]) (by simp [results,Tryz.results126,go_sem, *]) rfl ?_
   rw [HL2.out]
   exact HS.out▸F9.post rfl
  ·have e4:(tk==4)=true:=by simp [h4]
   have HL2:Hid (litV l=.agg #[.int .i64 1,.int .i64 11,.int .i64 nn,.string ⟨#[]⟩,.string ⟨#[]⟩,.slice none 0 0,.int .i64 ta]):=hd_ (by rw [← HL.out];simp [litV,h4])
   clear h4 HL
   go_enter Tryz.func126,Tryz.ntmps126
   go_wp2_with fail
   refine (HT.out _ (F0.out.alloc _).par).mono ?_
   rintro e w1 ⟨rfl,hb1⟩
   have F1:=hd_ ((F0.out.alloc _).below hb1)
   have R1:=hd_ ((Bl.new _ _ _).below hb1)
   clear hb1
   go_wp2_with fail
   refine (HN.out _ (F1.out.alloc _).par).mono ?_
   rintro e w2 ⟨rfl,hb2⟩
   have F2:=hd_ ((F1.out.alloc _).below hb2)
   have R2:=hd_ ((R1.out.alloc _).below hb2)
   have T2:=hd_ ((Bl.new _ _ _).below hb2)
   obtain ⟨-,c1,-,-,f1,-,-⟩:=F2.out.par.pb.cells
   have k1:=F2.out.par.pb.lt
   have n3:w1.heap.size≠b:=by have:=F0.out.lt;have:=F1.out.size;omega
   clear hb2
   go_upto_region 6 with fail
   refine zaa (P:=Code.wp _ _ _ _) (F:=fun W=>Fr w b g cap ts ⟨s.i+1,s.err,s.at_⟩ W∧Bl W w.heap.size _ 112∧Bl W w1.heap.size #[.int .i64 tk,.int .i64 kd,.int .i64 nn,.string ⟨tx.toArray⟩,.int .i64 ta] 107)
    ⟨F2.out.set1 (by simp),R2.out.other n1 _ _,T2.out.other n3 _ _⟩ ?_
   clear c1 f1 k1 T2 R2 R1 F2 F1
   intro W ⟨F2,R2,T2⟩
   have F2:=hd_ F2
   have R2:=hd_ R2
   have k3:=T2.lt
   obtain ⟨q0,q1,q2,q3,q4⟩:=T2.cells5
   clear T2
   go_upto_region 9 with fail
   refine zaa (P:=Code.wp _ _ _ _) (F:=fun W'=>Fr w b g cap ts ⟨s.i+1,s.err,s.at_⟩ W'∧Bl W' w.heap.size _ 112∧Bl W' W.heap.size #[.int .i64 1,.int .i64 11,.int .i64 nn,.string ⟨#[]⟩,.string ⟨#[]⟩,.slice none 0 0,.int .i64 ta] 112)
    ⟨F2.out.alloc _,R2.out.alloc _,Bl.new _ _ _⟩ ?_
   clear q0 q1 q2 q3 q4 k3
   intro W3 ⟨F3,R3,E3⟩
   have F3:=hd_ F3
   have R3:=hd_ R3
   have k3:=E3.lt
   obtain ⟨q0,q1,q2,q3,q4,q5,q6⟩:=E3.cells7
   clear E3 F2 R2
   obtain ⟨r0,r1,r2,r3,r4,r5,r6⟩:=R3.out.cells7
   obtain ⟨g0,g1,g2,g3,g4,g5,g6⟩:=R3.out.free7
   have kR:=R3.out.lt
   go_wp2_with fail
   refine zaa (P:=bodyPost _ _ _ _ _) (F:=fun W=>Fr w b g cap ts ⟨s.i+1,s.err,s.at_⟩ W∧Bl W w.heap.size #[.int .i64 1,.int .i64 11,.int .i64 nn,.string ⟨#[]⟩,.string ⟨#[]⟩,.slice none 0 0,.int .i64 ta] 112)
    ⟨((((((((F3.out).far nl_ _ _).far nl_ _ _).far nl_ _ _).far nl_ _ _).far nl_ _ _).far nl_ _ _).far nl_ _ _),R3.out.set7⟩ ?_
   clear q0 q1 q2 q3 q4 q5 q6 k3 r0 r1 r2 r3 r4 r5 r6 g0 g1 g2 g3 g4 g5 g6 kR
   intro W2 ⟨F9,R9⟩
   obtain ⟨r0,r1,r2,r3,r4,r5,r6⟩:=R9.cells7
   refine bodyPost_ret (v:=.agg #[.int .i64 1,.int .i64 11,.int .i64 nn,.string ⟨#[]⟩,.string ⟨#[]⟩,.slice none 0 0,.int .i64 ta]) (by simp [results,Tryz.results126,go_sem, *]) rfl ?_
   rw [HL2.out]
   exact HS.out▸F9.post rfl
theorem zez (n:Int):wrap64 n=IntKind.i64.wrap n:=by
 simp only [wrap64,IntKind.wrap,IntKind.bits,IntKind.signed];simp;try omega
theorem zaA {x:List UInt8} (k:Nat) (h1:1≤k) (h2:k≤11):(zaw k=(⟨x.toArray⟩:ByteArray))=(x=kindName k):=by
 have hk:∀ k:Nat,1≤k→k≤11→zaw k=⟨(kindName k).toArray⟩:=by
  intro k h1 h2
  have h3:k=1∨k=2∨k=3∨k=4∨k=5∨k=6∨k=7∨k=8∨k=9∨k=10∨k=11:=by omega
  rcases h3 with rfl | rfl | rfl | rfl | rfl | rfl | rfl | rfl | rfl | rfl | rfl <;> decide
 rw [hk k h1 h2]
 apply propext
 constructor
 ·intro h
  have:=congrArg (fun b:ByteArray=>b.data.toList) h
  simpa using this.symm
 ·intro h;rw [h]
theorem zd2 (x:List UInt8):Pa.kindOf x=((kindOf ⟨x.toArray⟩:Nat):Int):=by
 unfold Pa.kindOf Go.Proofs.YtdpkjpjkdmkkpaaGreatDoor.kindOf
 simp only [zeF]
 have d1:(zaw (1)=(⟨x.toArray⟩:ByteArray))=(x=kindName 1):=@zaA x 1 (by omega) (by omega)
 have d2:(zaw (1+1)=(⟨x.toArray⟩:ByteArray))=(x=kindName 2):=@zaA x 2 (by omega) (by omega)
 have d3:(zaw (1+1+1)=(⟨x.toArray⟩:ByteArray))=(x=kindName 3):=@zaA x 3 (by omega) (by omega)
 have d4:(zaw (1+1+1+1)=(⟨x.toArray⟩:ByteArray))=(x=kindName 4):=@zaA x 4 (by omega) (by omega)
 have d5:(zaw (1+1+1+1+1)=(⟨x.toArray⟩:ByteArray))=(x=kindName 5):=@zaA x 5 (by omega) (by omega)
 have d6:(zaw (1+1+1+1+1+1)=(⟨x.toArray⟩:ByteArray))=(x=kindName 6):=@zaA x 6 (by omega) (by omega)
 have d7:(zaw (1+1+1+1+1+1+1)=(⟨x.toArray⟩:ByteArray))=(x=kindName 7):=@zaA x 7 (by omega) (by omega)
 have d8:(zaw (1+1+1+1+1+1+1+1)=(⟨x.toArray⟩:ByteArray))=(x=kindName 8):=@zaA x 8 (by omega) (by omega)
 have d9:(zaw (1+1+1+1+1+1+1+1+1)=(⟨x.toArray⟩:ByteArray))=(x=kindName 9):=@zaA x 9 (by omega) (by omega)
 have d10:(zaw (1+1+1+1+1+1+1+1+1+1)=(⟨x.toArray⟩:ByteArray))=(x=kindName 10):=@zaA x 10 (by omega) (by omega)
 have d11:(zaw (1+1+1+1+1+1+1+1+1+1+1)=(⟨x.toArray⟩:ByteArray))=(x=kindName 11):=@zaA x 11 (by omega) (by omega)
 by_cases c1:x=kindName 1
 ·rw [if_pos c1,if_pos (d1.mpr c1)];rfl
 rw [if_neg c1,if_neg (fun h=>c1 (d1.mp h))]
 by_cases c2:x=kindName 2
 ·rw [if_pos c2,if_pos (d2.mpr c2)];rfl
 rw [if_neg c2,if_neg (fun h=>c2 (d2.mp h))]
 by_cases c3:x=kindName 3
 ·rw [if_pos c3,if_pos (d3.mpr c3)];rfl
 rw [if_neg c3,if_neg (fun h=>c3 (d3.mp h))]
 by_cases c4:x=kindName 4
 ·rw [if_pos c4,if_pos (d4.mpr c4)];rfl
 rw [if_neg c4,if_neg (fun h=>c4 (d4.mp h))]
 by_cases c5:x=kindName 5
 ·rw [if_pos c5,if_pos (d5.mpr c5)];rfl
 rw [if_neg c5,if_neg (fun h=>c5 (d5.mp h))]
 by_cases c6:x=kindName 6
 ·rw [if_pos c6,if_pos (d6.mpr c6)];rfl
 rw [if_neg c6,if_neg (fun h=>c6 (d6.mp h))]
 by_cases c7:x=kindName 7
 ·rw [if_pos c7,if_pos (d7.mpr c7)];rfl
 rw [if_neg c7,if_neg (fun h=>c7 (d7.mp h))]
 by_cases c8:x=kindName 8
 ·rw [if_pos c8,if_pos (d8.mpr c8)];rfl
 rw [if_neg c8,if_neg (fun h=>c8 (d8.mp h))]
 by_cases c9:x=kindName 9
 ·rw [if_pos c9,if_pos (d9.mpr c9)];rfl
 rw [if_neg c9,if_neg (fun h=>c9 (d9.mp h))]
 by_cases c10:x=kindName 10
 ·rw [if_pos c10,if_pos (d10.mpr c10)];rfl
 rw [if_neg c10,if_neg (fun h=>c10 (d10.mp h))]
 by_cases c11:x=kindName 11
 ·rw [if_pos c11,if_pos (d11.mpr c11)];rfl
 rw [if_neg c11,if_neg (fun h=>c11 (d11.mp h))]
 rfl
theorem zgr {b g cap:Nat} {ts:List Tok} {s s':PS} {n:Int} (hr:Pa.bound ts s=(n,s')) (hg:Pa.Good ts 50000 s) (w:World) (hx:Par w b g cap ts s) :
  Calls Tryz.prog 127 #[.pointer (some ⟨b,0,none⟩)] w (zbC w b g cap ts (.int .i64 n) s'):=by
 have F0:=hd_ (Fr.start hx)
 obtain ⟨m,hm⟩:∃ m,is ts s [45]=m:=⟨_,rfl⟩
 obtain ⟨s1,hs1⟩:∃ s1,(if m=true then up s else s)=s1:=⟨_,rfl⟩
 have hb9:s.i≤200000:=by have:=hg.2;have:=hx.le;omega
 have he:eat ts s [45]=(m,s1):=by
  unfold eat
  rw [hm,← hs1]
  cases m <;> rfl
 have HE:=hd_ (fun W (hW:Par W b g cap ts s)=>zbr (x:=⟨#[45]⟩) he hg.1 hb9 W hW)
 have hg1:Pa.Good ts 50000 s1:=by
  rw [← hs1]
  cases m with
  | true=>rw [if_pos rfl];exact hg.up hx.ends (za2 hm)
  | false=>rw [if_neg (by simp)];exact hg
 have hb91:s1.i≤200000:=by have:=hg1.2;have:=hx.le;omega
 obtain ⟨t,ht⟩:∃ t,T ts s1=t:=⟨_,rfl⟩
 have HT:=hd_ (fun W (hW:Par W b g cap ts s1)=>zbH ht hg1.1 W hW)
 unfold Pa.bound at hr
 simp only [hm,hs1,ht] at hr
 have i5:IntKind.i64.wrap ((s1.i:Int)+1)=(s1.i:Int)+1:=IntWalk.i64_in _ (by omega)
 obtain ⟨tk,kd,nn,tx,ta⟩:=t
 simp only [tokV] at HT
 simp only at hr
 clear hx hg hg1 hm hs1 hb9 hb91 he ht
 by_cases h3:tk=3
 ·by_cases h0:kd=0
  ·rw [if_pos ⟨h3,h0⟩] at hr
   injection hr with hr1 hr2
   have HS:=hd_ hr2
   have e1:(tk != 3)=false:=by simp [h3]
   have e2:(kd != 0)=false:=by simp [h0]
   clear hr2 h3 h0
   cases m with
   | true=>
    rw [if_pos rfl] at hr1
    have hn:IntKind.i64.wrap (-nn)=n:=hr1
    clear hr1
    go_enter Tryz.func127,Tryz.ntmps127
    go_wp2_with fail
    refine (HE.out _ F0.out.par).mono ?_
    rintro e w1 ⟨rfl,ho,hp⟩
    have F1:=hd_ (F0.out.call ho hp)
    clear ho hp
    go_wp2_with fail
    refine (HT.out _ F1.out.par).mono ?_
    rintro e w2 ⟨rfl,hb2⟩
    have F2:=hd_ (F1.out.below hb2)
    obtain ⟨-,c1,-,-,f1,-,-⟩:=F2.out.par.pb.cells
    have k1:=F2.out.par.pb.lt
    clear hb2
    have HN:=hd_ hn
    clear hn
    go_wp2
    go_ret
    exact ((F2.out.up1 HS.out (by simp)).alloc _).post (zaf (by rw [← HN.out];exact zez _))
   | false=>
    rw [if_neg (by simp)] at hr1
    subst hr1
    go_enter Tryz.func127,Tryz.ntmps127
    go_wp2_with fail
    refine (HE.out _ F0.out.par).mono ?_
    rintro e w1 ⟨rfl,ho,hp⟩
    have F1:=hd_ (F0.out.call ho hp)
    clear ho hp
    go_wp2_with fail
    refine (HT.out _ F1.out.par).mono ?_
    rintro e w2 ⟨rfl,hb2⟩
    have F2:=hd_ (F1.out.below hb2)
    obtain ⟨-,c1,-,-,f1,-,-⟩:=F2.out.par.pb.cells
    have k1:=F2.out.par.pb.lt
    clear hb2
    go_wp2
    go_ret
    exact ((F2.out.up1 HS.out (by simp)).alloc _).post rfl
  ·rw [if_neg (fun h=>h0 h.2)] at hr
   injection hr with hr1 hr2
   subst hr1
   have HF:=hd_ (fun W (hW:Par W b g cap ts s1)=>za1 hr2 W hW)
   have e1:(tk != 3)=false:=by simp [h3]
   have e2:(kd != 0)=true:=by simp [h0]
   clear hr2 h3 h0 i5
   go_enter Tryz.func127,Tryz.ntmps127
   go_wp2_with fail
   refine (HE.out _ F0.out.par).mono ?_
   rintro e w1 ⟨rfl,ho,hp⟩
   have F1:=hd_ (F0.out.call ho hp)
   clear ho hp
   go_wp2_with fail
   refine (HT.out _ F1.out.par).mono ?_
   rintro e w2 ⟨rfl,hb2⟩
   have F2:=hd_ (F1.out.below hb2)
   clear hb2
   go_wp2_with fail
   refine (HF.out _ (F2.out.alloc _).par).mono ?_
   rintro e w3 ⟨rfl,ho,hp⟩
   have F3:=hd_ ((F2.out.alloc _).call ho hp)
   clear ho hp
   go_wp2
   go_ret
   exact F3.out.post rfl
 ·rw [if_neg (fun h=>h3 h.1)] at hr
  injection hr with hr1 hr2
  subst hr1
  have HF:=hd_ (fun W (hW:Par W b g cap ts s1)=>za1 hr2 W hW)
  have e1:(tk != 3)=true:=by simp [h3]
  clear hr2 h3 i5
  go_enter Tryz.func127,Tryz.ntmps127
  go_wp2_with fail
  refine (HE.out _ F0.out.par).mono ?_
  rintro e w1 ⟨rfl,ho,hp⟩
  have F1:=hd_ (F0.out.call ho hp)
  clear ho hp
  go_wp2_with fail
  refine (HT.out _ F1.out.par).mono ?_
  rintro e w2 ⟨rfl,hb2⟩
  have F2:=hd_ (F1.out.below hb2)
  clear hb2
  go_wp2_with fail
  refine (HF.out _ (F2.out.alloc _).par).mono ?_
  rintro e w3 ⟨rfl,ho,hp⟩
  have F3:=hd_ ((F2.out.alloc _).call ho hp)
  clear ho hp
  go_wp2
  go_ret
  exact F3.out.post rfl
theorem zfz {b g cap:Nat} {ts:List Tok} {s s':PS} {n:Int} (hr:Pa.kind ts s=(n,s')) (hg:Pa.Good ts 50000 s) (w:World) (hx:Par w b g cap ts s) :
  Calls Tryz.prog 107 #[.pointer (some ⟨b,0,none⟩)] w (zbC w b g cap ts (.int .i64 n) s'):=by
 have F0:=hd_ (Fr.start hx)
 have hb9:s.i≤200000:=by have:=hg.2;have:=hx.le;omega
 obtain ⟨t,ht⟩:∃ t,T ts s=t:=⟨_,rfl⟩
 have HT:=hd_ (fun W (hW:Par W b g cap ts s)=>zbH ht hg.1 W hW)
 unfold Pa.kind at hr
 simp only [ht] at hr
 obtain ⟨tk,kd,nn,tx,ta⟩:=t
 simp only [tokV] at HT
 simp only at hr
 obtain ⟨k,hk⟩:∃ k:Int,(if tk=1 then Pa.kindOf tx else 0)=k:=⟨_,rfl⟩
 rw [hk] at hr
 obtain ⟨s1,hs1⟩:∃ s1,(if k=0 then fail s ta 130 else s)=s1:=⟨_,rfl⟩
 rw [hs1] at hr
 injection hr with hr1 hr2
 subst hr1
 have HS:=hd_ hr2
 have i5:IntKind.i64.wrap ((s1.i:Int)+1)=(s1.i:Int)+1:=IntWalk.i64_in _ (by
  have:s1.i=s.i:=by
   rw [← hs1]
   split
   ·exact zjp _ _ _
   ·rfl
  omega)
 clear hx hg hb9 ht hr2
 by_cases h1:tk=1
 ·rw [if_pos h1] at hk
  have e1:(tk==1)=true:=by simp [h1]
  obtain ⟨r,hrk⟩:∃ r,kindOf ⟨tx.toArray⟩=r:=⟨_,rfl⟩
  have hkr:(r:Int)=k:=by rw [← hk,zd2,hrk]
  have HK:=hd_ (fun W=>zbg hrk W)
  subst hkr
  clear hk hrk h1
  by_cases h0:(r:Int)=0
  ·rw [if_pos h0] at hs1
   have HF:=hd_ (fun W (hW:Par W b g cap ts s)=>za1 hs1 W hW)
   have e2:((r:Int)==0)=true:=by simpa using h0
   clear hs1 h0
   go_enter Tryz.func107,Tryz.ntmps107
   go_wp2_with fail
   refine (HT.out _ F0.out.par).mono ?_
   rintro e w1 ⟨rfl,hb1⟩
   have F1:=hd_ (F0.out.below hb1)
   clear hb1
   go_wp2_with fail
   refine (HK.out _).mono ?_
   rintro e w2 ⟨rfl,hb2⟩
   have F2:=hd_ ((F1.out.alloc _).below hb2)
   have T2:=hd_ ((Bl.new _ _ _).below hb2)
   clear hb2
   obtain ⟨-,-,-,-,q4⟩:=T2.out.cells5
   have k2:=T2.out.lt
   go_wp2_with fail
   refine (HF.out _ F2.out.par).mono ?_
   rintro e w3 ⟨rfl,ho,hp⟩
   have F3:=hd_ (F2.out.call ho hp)
   clear ho hp q4 k2 T2
   obtain ⟨-,c1,-,-,f1,-,-⟩:=F3.out.par.pb.cells
   have k1:=F3.out.par.pb.lt
   go_wp2
   go_ret
   first | exact (F3.out.up1 HS.out (by simp)).post rfl | exact ((F3.out.up1 HS.out (by simp)).alloc _).post rfl
  ·rw [if_neg h0] at hs1
   subst hs1
   have e2:((r:Int)==0)=false:=by simpa using h0
   clear h0
   go_enter Tryz.func107,Tryz.ntmps107
   go_wp2_with fail
   refine (HT.out _ F0.out.par).mono ?_
   rintro e w1 ⟨rfl,hb1⟩
   have F1:=hd_ (F0.out.below hb1)
   clear hb1
   go_wp2_with fail
   refine (HK.out _).mono ?_
   rintro e w2 ⟨rfl,hb2⟩
   have F2:=hd_ ((F1.out.alloc _).below hb2)
   have T2:=hd_ ((Bl.new _ _ _).below hb2)
   clear hb2
   clear T2
   obtain ⟨-,c1,-,-,f1,-,-⟩:=F2.out.par.pb.cells
   have k1:=F2.out.par.pb.lt
   go_wp2
   go_ret
   first | exact (F2.out.up1 HS.out (by simp)).post rfl | exact ((F2.out.up1 HS.out (by simp)).alloc _).post rfl
 ·rw [if_neg h1] at hk
  subst hk
  rw [if_pos rfl] at hs1
  have HF:=hd_ (fun W (hW:Par W b g cap ts s)=>za1 hs1 W hW)
  have e1:(tk==1)=false:=by simp [h1]
  clear hs1 h1
  go_enter Tryz.func107,Tryz.ntmps107
  go_wp2_with fail
  refine (HT.out _ F0.out.par).mono ?_
  rintro e w1 ⟨rfl,hb1⟩
  have F1:=hd_ (F0.out.below hb1)
  clear hb1
  go_wp2_with fail
  refine (HF.out _ (F1.out.alloc _).par).mono ?_
  rintro e w3 ⟨rfl,ho,hp⟩
  have F3:=hd_ ((F1.out.alloc _).call ho hp)
  clear ho hp
  obtain ⟨-,c1,-,-,f1,-,-⟩:=F3.out.par.pb.cells
  have k1:=F3.out.par.pb.lt
  go_wp2
  go_ret
  first | exact (F3.out.up1 HS.out (by simp)).post rfl | exact ((F3.out.up1 HS.out (by simp)).alloc _).post rfl
def zmT (w:World) (b g cap:Nat) (ts:List Tok) (x:Ex) (s':PS) (e:Ending) (w':World):Prop:=
 ∃ row,e=.returned (.agg row.toArray)∧zaX w' (Btw w.heap.size w'.heap.size) x row∧Only b w w'∧Par w' b g cap ts s'
def litC (l:Pa.Lit):List Value:=[.int .i64 l.op,.int .i64 l.kind,.int .i64 l.n,.string ⟨#[]⟩,.string ⟨#[]⟩,.slice none 0 0,.int .i64 l.at_]
theorem zaX.lit (w:World) (P:Nat→Prop) (l:Pa.Lit):zaX w P (zjo l) (litC l):=by
 rw [zjo,zaX]
 exact ⟨_,[],rfl,.inl ⟨rfl,rfl,rfl⟩,by rw [zbB]⟩
theorem zaX.one {w:World} {P:Nat→Prop} {a c:Nat} (l:Pa.Lit) (ta:Int) (hP:P a) (hc:zcd w a (litC l)) :
  zaX w P (zcI (.neg l ta)) [.int .i64 3,.int .i64 0,.int .i64 0,.string ⟨#[]⟩,.string ⟨#[]⟩,.slice (some ⟨a,0,none⟩) 1 c,.int .i64 ta]:=by
 rw [zcI,zaX]
 refine ⟨_,litC l,rfl,.inr ⟨a,c,rfl,hP,hc,by simp⟩,?_⟩
 rw [zbB]
 exact ⟨litC l,[],by simp,zaX.lit _ _ _,by rw [zbB]⟩
theorem Bl.cellsAt {W:World} {X:Nat} {vs:Array Value} {T:TypeId} (h:Bl W X vs T):zaC W X vs.toList:=by
 intro j u hj
 exact (h.cell (by simpa using hj)).1
theorem Bl.cellsF {W:World} {X:Nat} {vs:Array Value} {T:TypeId} (h:Bl W X vs T):zcd W X vs.toList:=⟨h.cellsAt,_,_,h⟩
theorem zjR {b g cap:Nat} {ts:List Tok} {s s':PS} {n:Ini} (hr:Pa.lit ts s=(n,s')) (hg:Pa.Good ts 50000 s) (w:World) (hx:Par w b g cap ts s) :
  Calls Tryz.prog 115 #[.pointer (some ⟨b,0,none⟩)] w (zmT w b g cap ts (zcI n) s'):=by
 have F0:=hd_ (Fr.start hx)
 have n1:w.heap.size≠b:=by have:=hx.pb.lt;omega
 obtain ⟨t,ht⟩:∃ t,T ts s=t:=⟨_,rfl⟩
 have HT:=hd_ (fun W (hW:Par W b g cap ts s)=>zbH ht hg.1 W hW)
 obtain ⟨m,hm⟩:∃ m,is ts s [45]=m:=⟨_,rfl⟩
 obtain ⟨s1,hs1⟩:∃ s1,(if m=true then up s else s)=s1:=⟨_,rfl⟩
 have hb9:s.i≤200000:=by have:=hg.2;have:=hx.le;omega
 have he:eat ts s [45]=(m,s1):=by
  unfold eat
  rw [hm,← hs1]
  cases m <;> rfl
 have HE:=hd_ (fun W (hW:Par W b g cap ts s)=>zbr (x:=⟨#[45]⟩) he hg.1 hb9 W hW)
 have hg1:Pa.Good ts 50000 s1:=by
  rw [← hs1]
  cases m with
  | true=>rw [if_pos rfl];exact hg.up hx.ends (za2 hm)
  | false=>rw [if_neg (by simp)];exact hg
 obtain ⟨u,hu⟩:∃ u,T ts s1=u:=⟨_,rfl⟩
 have HU:=hd_ (fun W (hW:Par W b g cap ts s1)=>zbH hu hg1.1 W hW)
 obtain ⟨s2,hs2⟩:∃ s2,(if u.tok=3 then s1 else fail s1 u.at_ 130)=s2:=⟨_,rfl⟩
 have hg2:Pa.Good ts 50000 s2:=by
  rw [← hs2]
  split
  ·exact hg1
  ·exact (hg1.fail _ _ (by decide)).1
 unfold Pa.lit at hr
 simp only [hm,ht] at hr
 cases m with
 | false=>
  rw [if_neg (by simp)] at hr hs1
  subst hs1
  obtain ⟨l,hl⟩:∃ l,(Pa.literal ts s).1=l:=⟨_,rfl⟩
  injection hr with hr1 hr2
  rw [hl] at hr1
  have HL:=hd_ (fun W (hW:Par W b g cap ts s)=>zb6 (l:=l) (s':=s') (by rw [← hl,← hr2]) hg W hW)
  subst hr1
  obtain ⟨tk,kd,nn,tx,ta⟩:=t
  simp only [tokV] at HT
  simp only [litV] at HL
  clear hx hg hg1 hg2 hs2 HU hu u hb9 he ht hr2 hl hm
  go_enter Tryz.func115,Tryz.ntmps115
  go_wp2_with fail
  refine (HT.out _ (F0.out.alloc _).par).mono ?_
  rintro e w1 ⟨rfl,hb1⟩
  have F1:=hd_ ((F0.out.alloc _).below hb1)
  have R1:=hd_ ((Bl.new _ _ _).below hb1)
  have n3:w1.heap.size≠b:=by have:=F0.out.lt;have:=F1.out.size;omega
  clear hb1
  go_wp2_with fail
  refine (HE.out _ (F1.out.alloc _).par).mono ?_
  rintro e w2 ⟨rfl,ho,hp⟩
  have F2:=hd_ ((F1.out.alloc _).call ho hp)
  have R2:=hd_ ((R1.out.alloc _).only ho n1)
  have T2:=hd_ ((Bl.new _ _ _).only ho n3)
  clear ho hp
  go_wp2_with fail
  refine (HL.out _ F2.out.par).mono ?_
  rintro e w3 ⟨rfl,ho,hp⟩
  have F3:=hd_ (F2.out.call ho hp)
  have R3:=hd_ (R2.out.only ho n1)
  clear ho hp T2 R2
  obtain ⟨lo,lk,ln,la⟩:=l
  obtain ⟨r0,r1,r2,r3,r4,r5,r6⟩:=R3.out.cells7
  obtain ⟨g0,g1,g2,g3,g4,g5,g6⟩:=R3.out.free7
  have kR:=R3.out.lt
  go_wp2_with fail
  refine zaa (P:=bodyPost _ _ _ _ _) (F:=fun W=>Fr w b g cap ts s' W∧Bl W w.heap.size #[.int .i64 lo,.int .i64 lk,.int .i64 ln,.string ⟨#[]⟩,.string ⟨#[]⟩,.slice none 0 0,.int .i64 la] 112)
   ⟨(((((((F3.out.far nl_ _ _).far nl_ _ _).far nl_ _ _).far nl_ _ _).far nl_ _ _).far nl_ _ _).far nl_ _ _),R3.out.set7⟩ ?_
  clear r0 r1 r2 r3 r4 r5 r6 g0 g1 g2 g3 g4 g5 g6 kR
  intro W2 ⟨F9,R9⟩
  obtain ⟨r0,r1,r2,r3,r4,r5,r6⟩:=R9.cells7
  refine bodyPost_ret (v:=.agg #[.int .i64 lo,.int .i64 lk,.int .i64 ln,.string ⟨#[]⟩,.string ⟨#[]⟩,.slice none 0 0,.int .i64 la]) (by simp [results,Tryz.results115,go_sem, *]) rfl ?_
  exact ⟨litC ⟨lo,lk,ln,la⟩,rfl,zaX.lit _ _ _,F9.only,F9.par⟩
 | true=>
  rw [if_pos rfl] at hr hs1
  simp only [hs1,hu,hs2] at hr
  obtain ⟨l,hl⟩:∃ l,(Pa.literal ts s2).1=l:=⟨_,rfl⟩
  rw [hl] at hr
  injection hr with hr1 hr2
  have HL:=hd_ (fun W (hW:Par W b g cap ts s2)=>zb6 (l:=l) (s':=s') (by rw [← hl,← hr2]) hg2 W hW)
  subst hr1
  have HD:=hd_ (fun (W:World) (P:Nat→Prop) (a c:Nat) (h1:P a) (h2:zcd W a (litC l))=>zaX.one (c:=c) l t.at_ h1 h2)
  have HC:Hid (litC l=[.int .i64 l.op,.int .i64 l.kind,.int .i64 l.n,.string ⟨#[]⟩,.string ⟨#[]⟩,.slice none 0 0,.int .i64 l.at_]):=hd_ rfl
  simp only [litV] at HL
  obtain ⟨lo,lk,ln,la⟩:=l
  obtain ⟨tk,kd,nn,tx,ta⟩:=t
  obtain ⟨uk,ud,un,ux,ua⟩:=u
  simp only [tokV] at HT HU
  simp only at HL HD HC hs2
  clear hx hg hg1 hg2 hb9 he ht hr2 hl hm hs1 hu
  have hf0:=zaV
  have hf4:=zbc
  by_cases h3:uk=3
  ·rw [if_pos h3] at hs2
   subst hs2
   have e1:(uk != 3)=false:=by simp [h3]
   clear h3
   go_enter Tryz.func115,Tryz.ntmps115
   go_wp2_with fail
   refine (HT.out _ (F0.out.alloc _).par).mono ?_
   rintro e w1 ⟨rfl,hb1⟩
   have F1:=hd_ ((F0.out.alloc _).below hb1)
   have R1:=hd_ ((Bl.new _ _ _).below hb1)
   have n3:w1.heap.size≠b:=by have:=F0.out.lt;have:=F1.out.size;omega
   clear hb1
   go_wp2_with fail
   refine (HE.out _ (F1.out.alloc _).par).mono ?_
   rintro e w2 ⟨rfl,ho,hp⟩
   have F2:=hd_ ((F1.out.alloc _).call ho hp)
   have R2:=hd_ ((R1.out.alloc _).only ho n1)
   have T2:=hd_ ((Bl.new _ _ _).only ho n3)
   clear ho hp
   go_wp2_with fail
   refine (HU.out _ F2.out.par).mono ?_
   rintro e w3 ⟨rfl,hb3⟩
   have F3:=hd_ (F2.out.below hb3)
   have R3:=hd_ (R2.out.below hb3)
   have T3:=hd_ (T2.out.below hb3)
   clear hb3 R2 T2
   have q4:=T3.out.cells5.2.2.2.2
   have k3:=T3.out.lt
   have k9:=R3.out.lt
   go_upto_region 6 with fail
   go_region_with ((go_at_call 126;refine (HL.out _ F3.out.drew.par).mono ?_;rintro e w6 ⟨rfl,ho,hp⟩;have F6:=hd_ (F3.out.drew.call ho hp);have R6:=hd_ (R3.out.drew.only ho n1);have T6:=hd_ (T3.out.drew.only ho n3);have p4:=T6.out.cells5.2.2.2.2;have k6:=T6.out.lt;have k7:=R6.out.lt;obtain ⟨r0,r1,r2,r3,r4,r5,r6⟩:=R6.out.cells7;obtain ⟨g0,g1,g2,g3,g4,g5,g6⟩:=R6.out.free7;clear ho hp))
   all_goals
    refine zaa (P:=Exit.then _ _ _ _) (F:=fun W=>Fr w b g cap ts s' W∧Bl W w.heap.size #[.int .i64 3,.int .i64 0,.int .i64 0,.string ⟨#[]⟩,.string ⟨#[]⟩,.slice (some ⟨w6.heap.size,0,none⟩) 1 1,.int .i64 ta] 112∧Bl W w6.heap.size #[.int .i64 lo,.int .i64 lk,.int .i64 ln,.string ⟨#[]⟩,.string ⟨#[]⟩,.slice none 0 0,.int .i64 la] 112)
     ⟨((((((((F6.out.far nl_ _ _).far nl_ _ _).far nl_ _ _).far nl_ _ _).far nl_ _ _).far nl_ _ _).far nl_ _ _).alloc _),R6.out.set7.alloc _,Bl.newAt _ (by simp)⟩ ?_
    clear r0 r1 r2 r3 r4 r5 r6 g0 g1 g2 g3 g4 g5 g6 k7 k6 p4
    intro W2 ⟨F9,R9,E9⟩
    go_wp2_with fail
    obtain ⟨r0,r1,r2,r3,r4,r5,r6⟩:=R9.cells7
    refine bodyPost_ret (v:=.agg #[.int .i64 3,.int .i64 0,.int .i64 0,.string ⟨#[]⟩,.string ⟨#[]⟩,.slice (some ⟨w6.heap.size,0,none⟩) 1 1,.int .i64 ta]) (by simp [results,Tryz.results115,go_sem, *]) rfl ?_
    exact ⟨_,rfl,HD.out _ _ _ _ ⟨F6.out.size,E9.lt⟩ (by rw [HC.out];exact E9.cellsF),F9.only,F9.par⟩
  ·rw [if_neg h3] at hs2
   have HF:=hd_ (fun W (hW:Par W b g cap ts s1)=>za1 hs2 W hW)
   have e1:(uk != 3)=true:=by simp [h3]
   clear h3 hs2
   go_enter Tryz.func115,Tryz.ntmps115
   go_wp2_with fail
   refine (HT.out _ (F0.out.alloc _).par).mono ?_
   rintro e w1 ⟨rfl,hb1⟩
   have F1:=hd_ ((F0.out.alloc _).below hb1)
   have R1:=hd_ ((Bl.new _ _ _).below hb1)
   have n3:w1.heap.size≠b:=by have:=F0.out.lt;have:=F1.out.size;omega
   clear hb1
   go_wp2_with fail
   refine (HE.out _ (F1.out.alloc _).par).mono ?_
   rintro e w2 ⟨rfl,ho,hp⟩
   have F2:=hd_ ((F1.out.alloc _).call ho hp)
   have R2:=hd_ ((R1.out.alloc _).only ho n1)
   have T2:=hd_ ((Bl.new _ _ _).only ho n3)
   clear ho hp
   go_wp2_with fail
   refine (HU.out _ F2.out.par).mono ?_
   rintro e w3 ⟨rfl,hb3⟩
   have F3:=hd_ (F2.out.below hb3)
   have R3:=hd_ (R2.out.below hb3)
   have T3:=hd_ (T2.out.below hb3)
   clear hb3 R2 T2
   go_wp2_with fail
   refine (HU.out _ F3.out.par).mono ?_
   rintro e w4 ⟨rfl,hb3⟩
   have F4:=hd_ (F3.out.below hb3)
   have R4:=hd_ (R3.out.below hb3)
   have T4:=hd_ (T3.out.below hb3)
   clear hb3 R3 T3
   go_wp2_with fail
   refine (HF.out _ F4.out.par).mono ?_
   rintro e w3 ⟨rfl,ho,hp⟩
   have F3:=hd_ (F4.out.call ho hp)
   have R3:=hd_ (R4.out.only ho n1)
   have T3:=hd_ (T4.out.only ho n3)
   clear ho hp R4 T4
   have q4:=T3.out.cells5.2.2.2.2
   have k3:=T3.out.lt
   have k9:=R3.out.lt
   go_upto_region 6 with fail
   go_region_with ((go_at_call 126;refine (HL.out _ F3.out.drew.par).mono ?_;rintro e w6 ⟨rfl,ho,hp⟩;have F6:=hd_ (F3.out.drew.call ho hp);have R6:=hd_ (R3.out.drew.only ho n1);have T6:=hd_ (T3.out.drew.only ho n3);have p4:=T6.out.cells5.2.2.2.2;have k6:=T6.out.lt;have k7:=R6.out.lt;obtain ⟨r0,r1,r2,r3,r4,r5,r6⟩:=R6.out.cells7;obtain ⟨g0,g1,g2,g3,g4,g5,g6⟩:=R6.out.free7;clear ho hp))
   all_goals
    refine zaa (P:=Exit.then _ _ _ _) (F:=fun W=>Fr w b g cap ts s' W∧Bl W w.heap.size #[.int .i64 3,.int .i64 0,.int .i64 0,.string ⟨#[]⟩,.string ⟨#[]⟩,.slice (some ⟨w6.heap.size,0,none⟩) 1 1,.int .i64 ta] 112∧Bl W w6.heap.size #[.int .i64 lo,.int .i64 lk,.int .i64 ln,.string ⟨#[]⟩,.string ⟨#[]⟩,.slice none 0 0,.int .i64 la] 112)
     ⟨((((((((F6.out.far nl_ _ _).far nl_ _ _).far nl_ _ _).far nl_ _ _).far nl_ _ _).far nl_ _ _).far nl_ _ _).alloc _),R6.out.set7.alloc _,Bl.newAt _ (by simp)⟩ ?_
    clear r0 r1 r2 r3 r4 r5 r6 g0 g1 g2 g3 g4 g5 g6 k7 k6 p4
    intro W2 ⟨F9,R9,E9⟩
    go_wp2_with fail
    obtain ⟨r0,r1,r2,r3,r4,r5,r6⟩:=R9.cells7
    refine bodyPost_ret (v:=.agg #[.int .i64 3,.int .i64 0,.int .i64 0,.string ⟨#[]⟩,.string ⟨#[]⟩,.slice (some ⟨w6.heap.size,0,none⟩) 1 1,.int .i64 ta]) (by simp [results,Tryz.results115,go_sem, *]) rfl ?_
    exact ⟨_,rfl,HD.out _ _ _ _ ⟨F6.out.size,E9.lt⟩ (by rw [HC.out];exact E9.cellsF),F9.only,F9.par⟩
theorem zgt {b g cap:Nat} {ts:List Tok} {s s':PS} {n:Int} {il:Bool} (hr:Pa.lined ts il s=(n,s')) (hg:Pa.Good ts 50000 s) (w:World) (hx:Par w b g cap ts s) :
  Calls Tryz.prog 109 #[.pointer (some ⟨b,0,none⟩),.bool il] w (zbC w b g cap ts (.int .i64 n) s'):=by
 have F0:=hd_ (Fr.start hx)
 cases il with
 | false=>
  have HB:=hd_ (fun W (hW:Par W b g cap ts s)=>zgr (n:=n) (s':=s') (by rw [← hr];unfold Pa.lined;rw [if_neg (by simp)]) hg W hW)
  clear hr hg hx
  go_enter Tryz.func109,Tryz.ntmps109
  go_wp2_with fail
  refine (HB.out _ F0.out.par).mono ?_
  rintro e w1 ⟨rfl,ho,hp⟩
  have F1:=hd_ (F0.out.call ho hp)
  clear ho hp
  go_wp2
  go_ret
  exact F1.out.post rfl
 | true=>
  obtain ⟨m,hm⟩:∃ m,is ts s [45]=m:=⟨_,rfl⟩
  have HI:=hd_ (fun W (hW:Par W b g cap ts s)=>zb9 (x:=⟨#[45]⟩) hm hg.1 W hW)
  cases m with
  | false=>
   have HB:=hd_ (fun W (hW:Par W b g cap ts s)=>zgr (n:=n) (s':=s') (by rw [← hr];unfold Pa.lined;rw [hm,if_neg (by simp)]) hg W hW)
   clear hr hg hx hm
   go_enter Tryz.func109,Tryz.ntmps109
   go_wp2_with fail
   refine (HI.out _ F0.out.par).mono ?_
   rintro e w1 ⟨rfl,hb1⟩
   have F1:=hd_ (F0.out.below hb1)
   clear hb1
   go_wp2_with fail
   refine (HB.out _ F1.out.par).mono ?_
   rintro e w2 ⟨rfl,ho,hp⟩
   have F2:=hd_ (F1.out.call ho hp)
   clear ho hp
   go_wp2
   go_ret
   exact F2.out.post rfl
  | true=>
   have hg0:=hg.up hx.ends (za2 hm)
   have hb9:s.i≤200000:=by have:=hg.2;have:=hx.le;omega
   obtain ⟨s1,hs1⟩:∃ s1,lines ts (up s)=s1:=⟨_,rfl⟩
   have HL:=hd_ (fun W (hW:Par W b g cap ts (up s))=>zch hs1 hg0 W hW)
   have hg1:Pa.Good ts 50000 s1:=hs1▸hg0.lines hx.ends
   have hb91:s1.i≤200000:=by have:=hg1.2;have:=hx.le;omega
   obtain ⟨t,ht⟩:∃ t,T ts s1=t:=⟨_,rfl⟩
   have HT:=hd_ (fun W (hW:Par W b g cap ts s1)=>zbH ht hg1.1 W hW)
   unfold Pa.lined at hr
   rw [hm,Bool.and_true,if_pos rfl] at hr
   simp only [hs1,ht] at hr
   have i4:IntKind.i64.wrap ((s.i:Int)+1)=(s.i:Int)+1:=IntWalk.i64_in _ (by omega)
   have i5:IntKind.i64.wrap ((s1.i:Int)+1)=(s1.i:Int)+1:=IntWalk.i64_in _ (by omega)
   obtain ⟨tk,kd,nn,tx,ta⟩:=t
   simp only [tokV] at HT
   simp only at hr
   clear hx hg hg0 hg1 hm hs1 hb9 hb91 ht
   by_cases h3:tk=3
   ·by_cases h0:kd=0
    ·rw [if_pos ⟨h3,h0⟩] at hr
     injection hr with hr1 hr2
     have HS:=hd_ hr2
     have HN:Hid (IntKind.i64.wrap (-nn)=n):=hd_ hr1
     have e1:(tk != 3)=false:=by simp [h3]
     have e2:(kd != 0)=false:=by simp [h0]
     clear hr2 hr1 h3 h0
     go_enter Tryz.func109,Tryz.ntmps109
     go_wp2_with fail
     refine (HI.out _ F0.out.par).mono ?_
     rintro e w1 ⟨rfl,hb1⟩
     have F1:=hd_ (F0.out.below hb1)
     clear hb1
     obtain ⟨-,c1,-,-,f1,-,-⟩:=F1.out.par.pb.cells
     have k1:=F1.out.par.pb.lt
     go_wp2_with fail
     refine (HL.out _ (F1.out.up1 rfl (by simp)).par).mono ?_
     rintro e w2 ⟨rfl,ho,hp⟩
     have F2:=hd_ ((F1.out.up1 rfl (by simp)).call ho hp)
     clear ho hp c1 f1 k1
     go_wp2_with fail
     refine (HT.out _ F2.out.par).mono ?_
     rintro e w3 ⟨rfl,hb3⟩
     have F3:=hd_ (F2.out.below hb3)
     clear hb3
     obtain ⟨-,c1,-,-,f1,-,-⟩:=F3.out.par.pb.cells
     have k1:=F3.out.par.pb.lt
     go_wp2
     go_ret
     exact ((F3.out.up1 HS.out (by simp)).alloc _).post (zaf (by rw [← HN.out];exact zez _))
    ·rw [if_neg (fun h=>h0 h.2)] at hr
     injection hr with hr1 hr2
     subst hr1
     have HF:=hd_ (fun W (hW:Par W b g cap ts s1)=>za1 hr2 W hW)
     have e1:(tk != 3)=false:=by simp [h3]
     have e2:(kd != 0)=true:=by simp [h0]
     clear hr2 h3 h0 i5
     go_enter Tryz.func109,Tryz.ntmps109
     go_wp2_with fail
     refine (HI.out _ F0.out.par).mono ?_
     rintro e w1 ⟨rfl,hb1⟩
     have F1:=hd_ (F0.out.below hb1)
     clear hb1
     obtain ⟨-,c1,-,-,f1,-,-⟩:=F1.out.par.pb.cells
     have k1:=F1.out.par.pb.lt
     go_wp2_with fail
     refine (HL.out _ (F1.out.up1 rfl (by simp)).par).mono ?_
     rintro e w2 ⟨rfl,ho,hp⟩
     have F2:=hd_ ((F1.out.up1 rfl (by simp)).call ho hp)
     clear ho hp c1 f1 k1
     go_wp2_with fail
     refine (HT.out _ F2.out.par).mono ?_
     rintro e w3 ⟨rfl,hb3⟩
     have F3:=hd_ (F2.out.below hb3)
     clear hb3
     go_wp2_with fail
     refine (HF.out _ (F3.out.alloc _).par).mono ?_
     rintro e w4 ⟨rfl,ho,hp⟩
     have F4:=hd_ ((F3.out.alloc _).call ho hp)
     clear ho hp
     go_wp2
     go_ret
     exact F4.out.post rfl
   ·rw [if_neg (fun h=>h3 h.1)] at hr
    injection hr with hr1 hr2
    subst hr1
    have HF:=hd_ (fun W (hW:Par W b g cap ts s1)=>za1 hr2 W hW)
    have e1:(tk != 3)=true:=by simp [h3]
    clear hr2 h3 i5
    go_enter Tryz.func109,Tryz.ntmps109
    go_wp2_with fail
    refine (HI.out _ F0.out.par).mono ?_
    rintro e w1 ⟨rfl,hb1⟩
    have F1:=hd_ (F0.out.below hb1)
    clear hb1
    obtain ⟨-,c1,-,-,f1,-,-⟩:=F1.out.par.pb.cells
    have k1:=F1.out.par.pb.lt
    go_wp2_with fail
    refine (HL.out _ (F1.out.up1 rfl (by simp)).par).mono ?_
    rintro e w2 ⟨rfl,ho,hp⟩
    have F2:=hd_ ((F1.out.up1 rfl (by simp)).call ho hp)
    clear ho hp c1 f1 k1
    go_wp2_with fail
    refine (HT.out _ F2.out.par).mono ?_
    rintro e w3 ⟨rfl,hb3⟩
    have F3:=hd_ (F2.out.below hb3)
    clear hb3
    go_wp2_with fail
    refine (HF.out _ (F3.out.alloc _).par).mono ?_
    rintro e w4 ⟨rfl,ho,hp⟩
    have F4:=hd_ ((F3.out.alloc _).call ho hp)
    clear ho hp
    go_wp2
    go_ret
    exact F4.out.post rfl
end Go.Proofs.YtdpkjpjkdmkkpaaGreatDoor
