/- The reference's parser, weakly: level, next. -/
import Derived.Test.YtdpkjpjkdmkkpaaGreatDoorQA
import Derived.Test.YtdpkjpjkdmkkpaaGreatDoorMS
set_option maxRecDepth 100000
set_option maxHeartbeats 16000000
namespace Go.Proofs.YtdpkjpjkdmkkpaaGreatDoor
open Go.RowKit Lx Pa
def zdi:List (List UInt8):=[[42],[47],[77,79,68],[43],[45],[60],[62],[60,61],[62,61],[61],[60,62],[65,78,68],[88,79,82],[79,82]]
def ziN:List Int:=[6,6,6,5,5,4,4,4,4,4,4,3,2,1]
def intC (l:List Int):List Value:=l.map fun n=>Value.int .i64 n
theorem zjT (tk kd nn ta:Int) (tx:ByteArray) (w:World) :
  Calls Tryz.prog 139 #[.agg #[.int .i64 tk,.int .i64 kd,.int .i64 nn,.string tx,.int .i64 ta]] w fun e w'=>∃ l op,e=.returned (.tuple #[.int .i64 l,.int .i64 op])∧(l≠0→tk≠0)∧Below w.heap.size w w':=by
 have B0:Hid (Below w.heap.size w (w.alloc (.cells #[.int .i64 tk,.int .i64 kd,.int .i64 nn,.string tx,.int .i64 ta] 107))):=hd_ (br_.alloc nl_ _)
 have P0:Hid (Bl (w.alloc (.cells #[.int .i64 tk,.int .i64 kd,.int .i64 nn,.string tx,.int .i64 ta] 107)) w.heap.size #[.int .i64 tk,.int .i64 kd,.int .i64 nn,.string tx,.int .i64 ta] 107):=hd_ (Bl.new _ _ _)
 go_enter Tryz.func139,Tryz.ntmps139
 by_cases hw:tk=1∨tk=6
 ·have hne:tk≠0:=by omega
  have HNE:=hd_ hne
  go_upto_region 1 with fail
  refine zaa (P:=Code.wp _ _ _ _) (F:=fun W=>Bl W w.heap.size #[.int .i64 tk,.int .i64 kd,.int .i64 nn,.string tx,.int .i64 ta] 107∧Below w.heap.size w W) ⟨P0.out,B0.out⟩ ?_
  clear P0 B0
  intro w1 ⟨P1,B1⟩
  obtain ⟨p0,-,-,p3,-⟩:=P1.cells5
  have kp:=P1.lt
  have P1:=hd_ P1
  have B1:=hd_ B1
  have hgo:∀ (c1:Bool),(tk != 1)=c1→(c1=false∨(tk != 6)=false):=by
   intro c1 h1
   rcases hw with rfl | rfl
   ·left;rw [← h1];rfl
   ·right;rfl
  obtain ⟨c1,hc1⟩:∃ c,(tk != 1)=c:=⟨_,rfl⟩
  have hc2:=hgo c1 hc1
  clear hgo hw hne
  cases c1 with
  | false=>
   clear hc2
   go_upto_region 5 with fail
   refine zaa (P:=Code.wp _ _ _ _) (F:=fun W=>Bl W w.heap.size #[.int .i64 tk,.int .i64 kd,.int .i64 nn,.string tx,.int .i64 ta] 107∧zaC W w1.heap.size (strC zdi)∧zaC W (w1.heap.size+1) (intC ziN)∧Below w.heap.size w W)
    ⟨(P1.out.alloc _).alloc _,(Bl.alloc (Bl.new w1 #[.string ⟨#[42]⟩,.string ⟨#[47]⟩,.string ⟨#[77,79,68]⟩,.string ⟨#[43]⟩,.string ⟨#[45]⟩,.string ⟨#[60]⟩,.string ⟨#[62]⟩,.string ⟨#[60,61]⟩,.string ⟨#[62,61]⟩,.string ⟨#[61]⟩,.string ⟨#[60,62]⟩,.string ⟨#[65,78,68]⟩,.string ⟨#[88,79,82]⟩,.string ⟨#[79,82]⟩] 9) _).cellsAt,(Bl.newAt (w1.alloc (.cells #[.string ⟨#[42]⟩,.string ⟨#[47]⟩,.string ⟨#[77,79,68]⟩,.string ⟨#[43]⟩,.string ⟨#[45]⟩,.string ⟨#[60]⟩,.string ⟨#[62]⟩,.string ⟨#[60,61]⟩,.string ⟨#[62,61]⟩,.string ⟨#[61]⟩,.string ⟨#[60,62]⟩,.string ⟨#[65,78,68]⟩,.string ⟨#[88,79,82]⟩,.string ⟨#[79,82]⟩] 9)) (X:=w1.heap.size+1) (vs:=#[.int .i64 6,.int .i64 6,.int .i64 6,.int .i64 5,.int .i64 5,.int .i64 4,.int .i64 4,.int .i64 4,.int .i64 4,.int .i64 4,.int .i64 4,.int .i64 3,.int .i64 2,.int .i64 1]) (T:=3) (by simp)).cellsAt,(B1.out.alloc B1.out.size _).alloc (lt_ B1.out.size (by simp)) _⟩ ?_
   intro w2 ⟨P2,C2,D2,B2⟩
   clear P1 B1 p0 p3 kp
   obtain ⟨-,-,-,p3,-⟩:=P2.cells5
   have kp:=P2.lt
   obtain ⟨G,hG⟩:∃ G,w1.heap.size=G:=⟨_,rfl⟩
   rw [hG] at C2 D2 ⊢
   clear hG P2
   have C2:=hd_ C2
   have D2:=hd_ D2
   have B2:=hd_ B2
   go_wp2_with fail
   go_loopw [6] (fun v6 wr=>RRel (∃ i:Nat,i≤14∧v6=.int .i64 i∧∃ nd,wr=w2.drewN nd)) (fun v6 _=>14 - (intOf v6).toNat)
   case atStart=>exact RRel.mk ⟨0,by omega,rfl,0,rfl⟩
   case round=>
    obtain ⟨i,hi,rfl,nd,rfl⟩:=hrel.it
    clear hrel
    by_cases hlt:i < 14
    ·obtain ⟨a,ha⟩:∃ a,zdi[i]? = some a:=⟨zdi[i]'hlt,List.getElem?_eq_getElem hlt⟩
     obtain ⟨l,hl⟩:∃ l,ziN[i]? = some l:=⟨ziN[i]'hlt,List.getElem?_eq_getElem hlt⟩
     obtain ⟨ab,hab⟩:∃ ab:ByteArray,(⟨a.toArray⟩:ByteArray)=ab:=⟨_,rfl⟩
     have d1:=C2.out i (.string ab) (by simp [strC,ha,hab])
     have d2:=D2.out i (.int .i64 l) (by simp [intC,hl])
     have kg:=zac d1
     have kh:=zac d2
     have z0:0≤(i:Int):=by omega
     have z1:(i:Int) < 14:=by omega
     have z2:(i:Int).toNat=i:=by omega
     have z3:IntKind.i64.wrap ((i:Int)+1)=(i:Int)+1:=IntWalk.i64_in _ (by omega)
     have z4:IntKind.i64.wrap (5+(i:Int))=5+(i:Int):=IntWalk.i64_in _ (by omega)
     clear ha hl hab
     obtain ⟨r,hr⟩:∃ r,(ab.toList==tx.toList)=r:=⟨_,rfl⟩
     go_upto_region 8 with fail
     cases r with
     | true=>
      go_region
      go_wp2_with fail
      go_returns
      first | exact ⟨_,_,rfl,fun _=>HNE.out,(B2.out.drewN _).drew⟩ | exact ⟨_,⟨_,rfl⟩,fun _=>HNE.out,(B2.out.drewN _).drew⟩
     | false=>
      go_region
      go_wp2_with fail
      go_roundw
      case rel=>exact RRel.mk ⟨i+1,by omega,by simp,nd+1,rfl⟩
      case measure=>simp [intOf];omega
    ·have z1:¬ (i:Int) < 14:=by omega
     go_wp2_with fail
     go_returns
     first | exact ⟨_,_,rfl,fun h=>absurd rfl h,B2.out.drewN _⟩ | exact ⟨_,⟨_,rfl⟩,fun h=>absurd rfl h,B2.out.drewN _⟩
  | true=>
   have hc3:(tk != 6)=false:=by rcases hc2 with h | h;cases h;exact h
   clear hc2
   go_upto_region 5 with fail
   refine zaa (P:=Code.wp _ _ _ _) (F:=fun W=>Bl W w.heap.size #[.int .i64 tk,.int .i64 kd,.int .i64 nn,.string tx,.int .i64 ta] 107∧zaC W w1.heap.size (strC zdi)∧zaC W (w1.heap.size+1) (intC ziN)∧Below w.heap.size w W)
    ⟨(P1.out.alloc _).alloc _,(Bl.alloc (Bl.new w1 #[.string ⟨#[42]⟩,.string ⟨#[47]⟩,.string ⟨#[77,79,68]⟩,.string ⟨#[43]⟩,.string ⟨#[45]⟩,.string ⟨#[60]⟩,.string ⟨#[62]⟩,.string ⟨#[60,61]⟩,.string ⟨#[62,61]⟩,.string ⟨#[61]⟩,.string ⟨#[60,62]⟩,.string ⟨#[65,78,68]⟩,.string ⟨#[88,79,82]⟩,.string ⟨#[79,82]⟩] 9) _).cellsAt,(Bl.newAt (w1.alloc (.cells #[.string ⟨#[42]⟩,.string ⟨#[47]⟩,.string ⟨#[77,79,68]⟩,.string ⟨#[43]⟩,.string ⟨#[45]⟩,.string ⟨#[60]⟩,.string ⟨#[62]⟩,.string ⟨#[60,61]⟩,.string ⟨#[62,61]⟩,.string ⟨#[61]⟩,.string ⟨#[60,62]⟩,.string ⟨#[65,78,68]⟩,.string ⟨#[88,79,82]⟩,.string ⟨#[79,82]⟩] 9)) (X:=w1.heap.size+1) (vs:=#[.int .i64 6,.int .i64 6,.int .i64 6,.int .i64 5,.int .i64 5,.int .i64 4,.int .i64 4,.int .i64 4,.int .i64 4,.int .i64 4,.int .i64 4,.int .i64 3,.int .i64 2,.int .i64 1]) (T:=3) (by simp)).cellsAt,(B1.out.alloc B1.out.size _).alloc (lt_ B1.out.size (by simp)) _⟩ ?_
   intro w2 ⟨P2,C2,D2,B2⟩
   clear P1 B1 p0 p3 kp
   obtain ⟨-,-,-,p3,-⟩:=P2.cells5
   have kp:=P2.lt
   obtain ⟨G,hG⟩:∃ G,w1.heap.size=G:=⟨_,rfl⟩
   rw [hG] at C2 D2 ⊢
   clear hG P2
   have C2:=hd_ C2
   have D2:=hd_ D2
   have B2:=hd_ B2
   go_wp2_with fail
   go_loopw [6] (fun v6 wr=>RRel (∃ i:Nat,i≤14∧v6=.int .i64 i∧∃ nd,wr=w2.drewN nd)) (fun v6 _=>14 - (intOf v6).toNat)
   case atStart=>exact RRel.mk ⟨0,by omega,rfl,0,rfl⟩
   case round=>
    obtain ⟨i,hi,rfl,nd,rfl⟩:=hrel.it
    clear hrel
    by_cases hlt:i < 14
    ·obtain ⟨a,ha⟩:∃ a,zdi[i]? = some a:=⟨zdi[i]'hlt,List.getElem?_eq_getElem hlt⟩
     obtain ⟨l,hl⟩:∃ l,ziN[i]? = some l:=⟨ziN[i]'hlt,List.getElem?_eq_getElem hlt⟩
     obtain ⟨ab,hab⟩:∃ ab:ByteArray,(⟨a.toArray⟩:ByteArray)=ab:=⟨_,rfl⟩
     have d1:=C2.out i (.string ab) (by simp [strC,ha,hab])
     have d2:=D2.out i (.int .i64 l) (by simp [intC,hl])
     have kg:=zac d1
     have kh:=zac d2
     have z0:0≤(i:Int):=by omega
     have z1:(i:Int) < 14:=by omega
     have z2:(i:Int).toNat=i:=by omega
     have z3:IntKind.i64.wrap ((i:Int)+1)=(i:Int)+1:=IntWalk.i64_in _ (by omega)
     have z4:IntKind.i64.wrap (5+(i:Int))=5+(i:Int):=IntWalk.i64_in _ (by omega)
     clear ha hl hab
     obtain ⟨r,hr⟩:∃ r,(ab.toList==tx.toList)=r:=⟨_,rfl⟩
     go_upto_region 8 with fail
     cases r with
     | true=>
      go_region
      go_wp2_with fail
      go_returns
      first | exact ⟨_,_,rfl,fun _=>HNE.out,(B2.out.drewN _).drew⟩ | exact ⟨_,⟨_,rfl⟩,fun _=>HNE.out,(B2.out.drewN _).drew⟩
     | false=>
      go_region
      go_wp2_with fail
      go_roundw
      case rel=>exact RRel.mk ⟨i+1,by omega,by simp,nd+1,rfl⟩
      case measure=>simp [intOf];omega
    ·have z1:¬ (i:Int) < 14:=by omega
     go_wp2_with fail
     go_returns
     first | exact ⟨_,_,rfl,fun h=>absurd rfl h,B2.out.drewN _⟩ | exact ⟨_,⟨_,rfl⟩,fun h=>absurd rfl h,B2.out.drewN _⟩
 ·have h1:(tk != 1)=true:=by simp;omega
  have h6:(tk != 6)=true:=by simp;omega
  go_wp2_with fail
  go_returns
  first | exact ⟨_,_,rfl,fun h=>absurd rfl h,B0.out⟩ | exact ⟨_,⟨_,rfl⟩,fun h=>absurd rfl h,B0.out⟩
theorem zdA {b g cap k:Nat} {ts:List Tok} {s:PS} (hg:Pa.Good ts k s) (hk:k≤50000) (w:World) (hx:Par w b g cap ts s) :
  Calls Tryz.prog 112 #[.pointer (some ⟨b,0,none⟩)] w fun e w'=>∃ tk kd nn tx ta,e=.returned (.agg #[.int .i64 tk,.int .i64 kd,.int .i64 nn,.string ⟨tx.toArray⟩,.int .i64 ta])∧T ts s=⟨tk,kd,nn,tx,ta⟩∧Only b w w'∧Par w' b g cap ts (Pa.up s):=by
 have F0:=hd_ (Fr.start hx)
 have HG:=hd_ hg
 have n1:w.heap.size≠b:=by have:=hx.pb.lt;omega
 have hfew:=zat hg hk hx
 clear hg hx
 go_enter Tryz.func112,Tryz.ntmps112
 go_wp2_with fail
 refine (zcb HG.out (F0.out.alloc _).par).mono ?_
 rintro e w1 ⟨tk,kd,nn,tx,ta,rfl,ht,hb⟩
 have F1:=hd_ ((F0.out.alloc _).below hb)
 have R1:=hd_ ((Bl.new w #[.int .i64 0,.int .i64 0,.int .i64 0,.string ⟨#[]⟩,.int .i64 0] 107).below hb)
 have HT:=hd_ ht
 obtain ⟨txb,hxb⟩:∃ x:ByteArray,(⟨tx.toArray⟩:ByteArray)=x:=⟨_,rfl⟩
 have HXB:=hd_ hxb
 rw [hxb]
 clear hb ht hxb F0
 go_upto_region 2 with fail
 refine zaa (P:=Code.wp _ _ _ _) (F:=fun W=>Fr w b g cap ts s W∧Bl W w.heap.size #[.int .i64 0,.int .i64 0,.int .i64 0,.string ⟨#[]⟩,.int .i64 0] 107∧Bl W w1.heap.size #[.int .i64 tk,.int .i64 kd,.int .i64 nn,.string txb,.int .i64 ta] 107)
  ⟨F1.out.alloc _,R1.out.alloc _,Bl.new _ _ _⟩ ?_
 have hY1:w1.heap.size≠b:=by have:=F1.out.size;have:=F1.out.lt.1;omega
 have hY0:w.heap.size < w1.heap.size:=R1.out.lt
 clear F1 R1
 intro w2 ⟨F2,R2,E2⟩
 obtain ⟨d0,d1,d2,d3,f1,f2,f3⟩:=F2.par.pb.cells
 have k1:=F2.par.pb.lt
 have z2:IntKind.i64.wrap ((s.i:Int)+1)=(s.i:Int)+1:=IntWalk.i64_in _ (by omega)
 have F2:=hd_ F2
 have R2:=hd_ R2
 have E2:=hd_ E2
 go_upto_region 3 with fail
 refine zaa (P:=Code.wp _ _ _ _) (F:=fun W=>Fr w b g cap ts (Pa.up s) W∧Bl W w.heap.size #[.int .i64 0,.int .i64 0,.int .i64 0,.string ⟨#[]⟩,.int .i64 0] 107∧Bl W w1.heap.size #[.int .i64 tk,.int .i64 kd,.int .i64 nn,.string txb,.int .i64 ta] 107)
  ⟨F2.out.up1 rfl rfl,R2.out.other n1 _ _,E2.out.other hY1 _ _⟩ ?_
 clear d0 d1 d2 d3 f1 f2 f3 k1 z2 F2 R2 E2
 intro w3 ⟨F3,R3,E3⟩
 obtain ⟨q0,q1,q2,q3,q4⟩:=E3.cells5
 obtain ⟨r0,r1,r2,r3,r4⟩:=R3.cells5
 obtain ⟨g0,g1,g2,g3,g4⟩:=R3.free5
 have k2:=R3.lt
 have k3:=E3.lt
 have F3:=hd_ F3
 have R3:=hd_ R3
 go_wp2_with fail
 refine zaa (P:=bodyPost _ _ _ _ _) (F:=fun W=>Fr w b g cap ts (Pa.up s) W∧Bl W w.heap.size #[.int .i64 tk,.int .i64 kd,.int .i64 nn,.string txb,.int .i64 ta] 107)
  ⟨((((F3.out.far nl_ _ _).far nl_ _ _).far nl_ _ _).far nl_ _ _).far nl_ _ _,R3.out.set5⟩ ?_
 clear q0 q1 q2 q3 q4 r0 r1 r2 r3 r4 g0 g1 g2 g3 g4 k2 k3
 intro wz ⟨FZ,RZ⟩
 obtain ⟨r0,r1,r2,r3,r4⟩:=RZ.cells5
 refine bodyPost_ret (v:=.agg #[.int .i64 tk,.int .i64 kd,.int .i64 nn,.string txb,.int .i64 ta]) (by simp [results,Tryz.results112,go_sem, *]) rfl ?_
 exact ⟨tk,kd,nn,tx,ta,by rw [HXB.out],HT.out,FZ.only,FZ.par⟩
def zh1 (deep:Int):Prop:=∀ (b g cap k:Nat) (ts:List Tok) (s:PS) (_:Pa.Good ts k s) (_:k≤49000) (w:World) (_:Par w b g cap ts s),
 Calls Tryz.prog 138 #[.pointer (some ⟨b,0,none⟩),.int .i64 deep] w (zfd w b g cap ts s 1 ExV)
def BinC (fr deep:Int):Prop:=∀ (b g cap k:Nat) (ts:List Tok) (s:PS) (_:Pa.Good ts k s) (_:k≤49000) (w:World) (_:Par w b g cap ts s),
 Calls Tryz.prog 130 #[.pointer (some ⟨b,0,none⟩),.int .i64 fr,.int .i64 deep] w (zfd w b g cap ts s 1 ExV)
theorem zht {fr deep:Int} (h6:6 < fr) (hU:zh1 deep):BinC fr deep:=by
 intro b g cap k ts s hg hk w hx
 have F0:=hd_ (Fr.start hx)
 have HG:=hd_ hg
 have n1:w.heap.size≠b:=by have:=hx.pb.lt;omega
 have HUN:=hd_ (hU b g cap k ts s hg hk)
 clear hg hx hU
 go_enter Tryz.func130,Tryz.ntmps130
 go_wp2_with fail
 refine (HUN.out _ (F0.out.alloc _).par).mono ?_
 rintro e w1 ⟨v,s1,rfl,⟨op,kd,nn,nm,fl,a,ln,c,ta,rfl⟩,hm,ho,hp⟩
 have F1:=hd_ ((F0.out.alloc _).call ho hp)
 have R1:=hd_ ((Bl.new w #[.int .i64 0,.int .i64 0,.int .i64 0,.string ⟨#[]⟩,.string ⟨#[]⟩,.slice none 0 0,.int .i64 0] 112).only ho n1)
 have M1:=hd_ hm
 clear hm ho hp F0
 obtain ⟨r0,r1,r2,r3,r4,r5,r6⟩:=R1.out.cells7
 obtain ⟨g0,g1,g2,g3,g4,g5,g6⟩:=R1.out.free7
 have k2:=R1.out.lt
 go_wp2_with fail
 refine zaa (P:=bodyPost _ _ _ _ _) (F:=fun W=>Fr w b g cap ts s1 W∧Bl W w.heap.size #[.int .i64 op,.int .i64 kd,.int .i64 nn,.string nm,.string fl,.slice a ln c,.int .i64 ta] 112)
  ⟨((((((F1.out.far nl_ _ _).far nl_ _ _).far nl_ _ _).far nl_ _ _).far nl_ _ _).far nl_ _ _).far nl_ _ _,R1.out.set7⟩ ?_
 clear r0 r1 r2 r3 r4 r5 r6 g0 g1 g2 g3 g4 g5 g6 k2
 intro wz ⟨FZ,RZ⟩
 obtain ⟨r0,r1,r2,r3,r4,r5,r6⟩:=RZ.cells7
 refine bodyPost_ret (v:=.agg #[.int .i64 op,.int .i64 kd,.int .i64 nn,.string nm,.string fl,.slice a ln c,.int .i64 ta]) (by simp [results,Tryz.results130,go_sem, *]) rfl ?_
 exact ⟨_,_,rfl,⟨_,_,_,_,_,_,_,_,_,rfl⟩,M1.out,FZ.only,FZ.par⟩
theorem zbA {fr deep:Int} (h1:1≤fr) (h6:fr≤6) (hB:BinC (fr+1) deep):BinC fr deep:=by
 intro b g cap k ts s hg hk w hx
 have F0:=hd_ (Fr.start hx)
 have HG:=hd_ hg
 have n1:w.heap.size≠b:=by have:=hx.pb.lt;omega
 have HLE:=hd_ hx.le
 have HEN:=hd_ hx.ends
 have HBI:=hd_ hB
 have hwf:IntKind.i64.wrap (fr+1)=fr+1:=IntWalk.i64_in _ (by omega)
 have hn6:¬ 6 < fr:=by omega
 clear hg hx hB
 go_enter Tryz.func130,Tryz.ntmps130
 go_wp2_with fail
 refine (HBI.out _ _ _ _ _ _ HG.out hk _ (F0.out.alloc _).par).mono ?_
 rintro e w1 ⟨v,s1,rfl,⟨op1,kd1,nn1,nm1,fl1,a1,ln1,c1,ta1,rfl⟩,hm,ho,hp⟩
 have F1:=hd_ ((F0.out.alloc _).call ho hp)
 have R1:=hd_ ((Bl.new w #[.int .i64 0,.int .i64 0,.int .i64 0,.string ⟨#[]⟩,.string ⟨#[]⟩,.slice none 0 0,.int .i64 0] 112).only ho n1)
 have M1:=hd_ hm
 clear hm ho hp F0
 go_upto_region 4 with fail
 refine zaa (P:=Code.wp _ _ _ _) (F:=fun W=>Fr w b g cap ts s1 W∧Bl W w.heap.size #[.int .i64 0,.int .i64 0,.int .i64 0,.string ⟨#[]⟩,.string ⟨#[]⟩,.slice none 0 0,.int .i64 0] 112∧Bl W w1.heap.size #[.int .i64 op1,.int .i64 kd1,.int .i64 nn1,.string nm1,.string fl1,.slice a1 ln1 c1,.int .i64 ta1] 112)
  ⟨F1.out.alloc _,R1.out.alloc _,Bl.new _ _ _⟩ ?_
 have hY1:w1.heap.size≠b:=by have:=F1.out.size;have:=F1.out.lt.1;omega
 have hY0:w.heap.size < w1.heap.size:=R1.out.lt
 clear F1 R1
 intro w2 ⟨F2,R2,E2⟩
 obtain ⟨Y,hY⟩:∃ Y,w1.heap.size=Y:=⟨_,rfl⟩
 rw [hY] at E2 hY1 hY0 ⊢
 clear hY
 have F2:=hd_ F2
 have R2:=hd_ R2
 have E2:=hd_ E2
 go_wp2_with fail
 go_loopw [] (fun wr=>RRel (∃ (si:PS) (op kd nn:Int) (nm fl:ByteArray) (a:Option Addr) (ln c:Nat) (ta:Int),Hid (Mv ts 1 s si)∧Hid (Fr w b g cap ts si wr)∧Hid (Bl wr w.heap.size #[.int .i64 0,.int .i64 0,.int .i64 0,.string ⟨#[]⟩,.string ⟨#[]⟩,.slice none 0 0,.int .i64 0] 112)∧Hid (Bl wr Y #[.int .i64 op,.int .i64 kd,.int .i64 nn,.string nm,.string fl,.slice a ln c,.int .i64 ta] 112))) (fun wr=>200000 - (intOf ((wr.cell? ⟨b,1,none⟩).getD undef)).toNat)
 case atStart=>exact RRel.mk ⟨s1,_,_,_,_,_,_,_,_,_,M1,F2,R2,E2⟩
 case round=>
  obtain ⟨si,op,kd,nn,nm,fl,a,ln,c,ta,MI,F3,R3,E3⟩:=hrel.it
  clear hrel M1 F2 R2 E2
  obtain ⟨w3,rfl⟩:∃ w3,w3=wr:=⟨_,rfl⟩
  have HMI:=hd_ F3.out.par.pb.cells.2.1
  obtain ⟨d0,d1,d2,d3,f1,f2,f3⟩:=F3.out.par.pb.cells
  have k1:=F3.out.par.pb.lt
  have hfew:=zat (MI.out.good k HG.out) (by omega) F3.out.par
  by_cases he:si.err=0
  ·rw [he] at d2
   have z2:IntKind.i64.wrap ((si.i:Int)+1)=(si.i:Int)+1:=IntWalk.i64_in _ (by omega)
   have HE0:=hd_ he
   clear he
   go_wp2_with fail
   refine (zcb (MI.out.good k HG.out) F3.out.par).mono ?_
   rintro e w4 ⟨tk,tkd,tnn,tx,tta,rfl,ht,hb⟩
   have F4:=hd_ (F3.out.below hb)
   have R4:=hd_ (R3.out.below hb)
   have E4:=hd_ (E3.out.below hb)
   have HT:=hd_ ht
   obtain ⟨txb,hxb⟩:∃ x:ByteArray,(⟨tx.toArray⟩:ByteArray)=x:=⟨_,rfl⟩
   rw [hxb]
   clear hb ht hxb F3 R3 E3 d0 d1 d2 d3 f1 f2 f3 k1
   go_upto_region 6 with fail
   refine zaa (P:=Code.wp _ _ _ _) (F:=fun W=>Fr w b g cap ts si W∧Bl W w.heap.size #[.int .i64 0,.int .i64 0,.int .i64 0,.string ⟨#[]⟩,.string ⟨#[]⟩,.slice none 0 0,.int .i64 0] 112∧Bl W Y #[.int .i64 op,.int .i64 kd,.int .i64 nn,.string nm,.string fl,.slice a ln c,.int .i64 ta] 112∧Bl W w4.heap.size #[.int .i64 tk,.int .i64 tkd,.int .i64 tnn,.string txb,.int .i64 tta] 107)
    ⟨F4.out.alloc _,R4.out.alloc _,E4.out.alloc _,Bl.new _ _ _⟩ ?_
   have hZ1:w4.heap.size≠b:=by have:=F4.out.size;have:=F4.out.lt.1;omega
   have hZ0:Y < w4.heap.size:=E4.out.lt
   clear F4 R4 E4
   intro w5 ⟨F5,R5,E5,T5⟩
   obtain ⟨Z,hZ⟩:∃ Z,w4.heap.size=Z:=⟨_,rfl⟩
   rw [hZ] at T5 hZ1 hZ0 ⊢
   clear hZ
   obtain ⟨t0,t1,t2,t3,t4⟩:=T5.cells5
   have k5:=T5.lt
   have F5:=hd_ F5
   have R5:=hd_ R5
   have E5:=hd_ E5
   have T5:=hd_ T5
   go_wp2_with fail
   refine (zjT tk tkd tnn tta txb w5).mono ?_
   rintro e w6 ⟨l,lo,rfl,hl,hb⟩
   have F6:=hd_ (F5.out.below hb)
   have R6:=hd_ (R5.out.below hb)
   have E6:=hd_ (E5.out.below hb)
   have T6:=hd_ (T5.out.below hb)
   have HL:=hd_ hl
   clear hb hl F5 R5 E5 T5 t0 t1 t2 t3 t4 k5
   by_cases hlf:l=fr
   ·subst hlf
    have e1:(l != l)=false:=by simp
    have HMU:Hid (Mv ts 0 si (Pa.up si)):=hd_ (Mv.up HEN.out (by rw [HT.out];exact HL.out (by omega)))
    obtain ⟨d0,d1,d2,d3,f1,f2,f3⟩:=F6.out.par.pb.cells
    have k1:=F6.out.par.pb.lt
    go_upto_region 10 with fail
    refine zaa (P:=Code.wp _ _ _ _) (F:=fun W=>Fr w b g cap ts (Pa.up si) W∧Bl W w.heap.size #[.int .i64 0,.int .i64 0,.int .i64 0,.string ⟨#[]⟩,.string ⟨#[]⟩,.slice none 0 0,.int .i64 0] 112∧Bl W Y #[.int .i64 op,.int .i64 kd,.int .i64 nn,.string nm,.string fl,.slice a ln c,.int .i64 ta] 112∧Bl W Z #[.int .i64 tk,.int .i64 tkd,.int .i64 tnn,.string txb,.int .i64 tta] 107)
     ⟨F6.out.up1 rfl rfl,R6.out.other n1 _ _,E6.out.other hY1 _ _,T6.out.other hZ1 _ _⟩ ?_
    clear d0 d1 d2 d3 f1 f2 f3 k1 F6 R6 E6 T6
    intro w7 ⟨F7,R7,E7,T7⟩
    have MU:=hd_ ((MI.out.zero HE0.out).trans HMU.out)
    have hiu:(Pa.up si).i=si.i+1:=rfl
    obtain ⟨su,hsu⟩:∃ su,Pa.up si=su:=⟨_,rfl⟩
    rw [hsu] at F7 MU hiu
    clear hsu
    obtain ⟨-,-,-,-,t4⟩:=T7.cells5
    have kt:=T7.lt
    obtain ⟨q0,q1,q2,q3,q4,q5,q6⟩:=E7.cells7
    have k3:=E7.lt
    have F7:=hd_ F7
    have R7:=hd_ R7
    have E7:=hd_ E7
    have T7:=hd_ T7
    go_cut [] from 21 to 57 (fun wx=>∃ (s8:PS) (op kd nn:Int) (nm fl:ByteArray) (a:Option Addr) (ln c:Nat) (ta:Int),(Mv ts 1 s s8∧si.i < s8.i)∧Fr w b g cap ts s8 wx∧Bl wx w.heap.size #[.int .i64 0,.int .i64 0,.int .i64 0,.string ⟨#[]⟩,.string ⟨#[]⟩,.slice none 0 0,.int .i64 0] 112∧Bl wx Y #[.int .i64 op,.int .i64 kd,.int .i64 nn,.string nm,.string fl,.slice a ln c,.int .i64 ta] 112)
    case first=>
     go_region_with ((go_at_call 130;refine (HBI.out _ _ _ _ _ _ (MU.out.good k HG.out) (by omega) _ F7.out.drew.par).mono ?_;rintro e w8 ⟨v8,s8,rfl,⟨op8,kd8,nn8,nm8,fl8,a8,ln8,c8,ta8,rfl⟩,hm,ho,hp⟩;have F8:=hd_ (F7.out.drew.call ho hp);have R8:=hd_ (R7.out.drew.only ho n1);have E8:=hd_ (E7.out.drew.only ho hY1);have T8:=hd_ (T7.out.drew.only ho hZ1);have M8:=hd_ ((MU.out.trans hm).mono nl_);have L8:si.i < s8.i:=ll_ (by omega) hm.le;obtain ⟨p0,p1,p2,p3,p4,p5,p6⟩:=E8.out.cells7;obtain ⟨m0,m1,m2,m3,m4,m5,m6⟩:=E8.out.free7;have u4:=T8.out.cells5.2.2.2.2;have k6:=E8.out.lt;have k7:=T8.out.lt;clear hm ho hp))
     all_goals
      go_wp2_with fail
      go_meet
      exact ⟨s8,_,_,_,_,_,_,_,_,_,⟨M8.out,L8⟩,(((((((F8.out.far (X:=Y) (by omega) _ _).far (X:=Y) (by omega) _ _).far (X:=Y) (by omega) _ _).far (X:=Y) (by omega) _ _).far (X:=Y) (by omega) _ _).far (X:=Y) (by omega) _ _).far (X:=Y) (by omega) _ _).alloc _,(((((((R8.out.other (Y:=Y) (by omega) _ _).other (Y:=Y) (by omega) _ _).other (Y:=Y) (by omega) _ _).other (Y:=Y) (by omega) _ _).other (Y:=Y) (by omega) _ _).other (Y:=Y) (by omega) _ _).other (Y:=Y) (by omega) _ _).alloc _,E8.out.set7.alloc _⟩
    case rest=>
     obtain ⟨s9,op9,kd9,nn9,nm9,fl9,a9,ln9,c9,ta9,⟨hm,hlt⟩,hF,hR,hE⟩:=hcut
     have F9:=hd_ hF
     have R9:=hd_ hR
     have E9:=hd_ hE
     have M9:=hd_ hm
     have HLT:=hd_ hlt
     clear hF hR hE hm hlt F7 R7 E7 T7 MU hiu t4 kt q0 q1 q2 q3 q4 q5 q6 k3
     by_cases h4:l=4
     ·have e4:(l==4)=true:=by simp [h4]
      have hl4:=hd_ h4
      clear h4
      obtain ⟨q0,q1,q2,q3,q4,q5,q6⟩:=E9.out.cells7
      obtain ⟨r0,r1,r2,r3,r4,r5,r6⟩:=R9.out.cells7
      obtain ⟨g0,g1,g2,g3,g4,g5,g6⟩:=R9.out.free7
      have k2:=R9.out.lt
      have k3:=E9.out.lt
      go_wp2_with fail
      refine zaa (P:=bodyPost _ _ _ _ _) (F:=fun W=>Fr w b g cap ts s9 W∧Bl W w.heap.size #[.int .i64 op9,.int .i64 kd9,.int .i64 nn9,.string nm9,.string fl9,.slice a9 ln9 c9,.int .i64 ta9] 112)
       ⟨((((((F9.out.far nl_ _ _).far nl_ _ _).far nl_ _ _).far nl_ _ _).far nl_ _ _).far nl_ _ _).far nl_ _ _,R9.out.set7⟩ ?_
      clear q0 q1 q2 q3 q4 q5 q6 r0 r1 r2 r3 r4 r5 r6 g0 g1 g2 g3 g4 g5 g6 k2 k3
      intro wz ⟨FZ,RZ⟩
      obtain ⟨r0,r1,r2,r3,r4,r5,r6⟩:=RZ.cells7
      refine bodyPost_ret (v:=.agg #[.int .i64 op9,.int .i64 kd9,.int .i64 nn9,.string nm9,.string fl9,.slice a9 ln9 c9,.int .i64 ta9]) (by simp [results,Tryz.results130,go_sem, *]) rfl ?_
      exact ⟨_,_,rfl,⟨_,_,_,_,_,_,_,_,_,rfl⟩,M9.out,FZ.only,FZ.par⟩
     ·have e4:(l==4)=false:=by simpa using h4
      clear h4
      go_wp2_with fail
      go_roundw
      case rel=>exact RRel.mk ⟨s9,_,_,_,_,_,_,_,_,_,M9,F9,R9,E9⟩
      case measure=>
       have y1:=F9.out.par.pb.cells.2.1
       have y2:=HMI.out
       have y3:=zat (M9.out.good k HG.out) (by omega) F9.out.par
       have y4:=HLT.out
       simp [y1,y2,intOf];omega
   ·have e1:(l != fr)=true:=by simpa using hlf
    obtain ⟨q0,q1,q2,q3,q4,q5,q6⟩:=E6.out.cells7
    obtain ⟨r0,r1,r2,r3,r4,r5,r6⟩:=R6.out.cells7
    obtain ⟨g0,g1,g2,g3,g4,g5,g6⟩:=R6.out.free7
    have k2:=R6.out.lt
    have k3:=E6.out.lt
    go_wp2_with fail
    refine zaa (P:=bodyPost _ _ _ _ _) (F:=fun W=>Fr w b g cap ts si W∧Bl W w.heap.size #[.int .i64 op,.int .i64 kd,.int .i64 nn,.string nm,.string fl,.slice a ln c,.int .i64 ta] 112)
     ⟨((((((F6.out.far nl_ _ _).far nl_ _ _).far nl_ _ _).far nl_ _ _).far nl_ _ _).far nl_ _ _).far nl_ _ _,R6.out.set7⟩ ?_
    clear q0 q1 q2 q3 q4 q5 q6 r0 r1 r2 r3 r4 r5 r6 g0 g1 g2 g3 g4 g5 g6 k2 k3
    intro wz ⟨FZ,RZ⟩
    obtain ⟨r0,r1,r2,r3,r4,r5,r6⟩:=RZ.cells7
    refine bodyPost_ret (v:=.agg #[.int .i64 op,.int .i64 kd,.int .i64 nn,.string nm,.string fl,.slice a ln c,.int .i64 ta]) (by simp [results,Tryz.results130,go_sem, *]) rfl ?_
    exact ⟨_,_,rfl,⟨_,_,_,_,_,_,_,_,_,rfl⟩,MI.out,FZ.only,FZ.par⟩
  ·have he2:(si.err==0)=false:=by simp [he]
   clear he
   obtain ⟨q0,q1,q2,q3,q4,q5,q6⟩:=E3.out.cells7
   obtain ⟨r0,r1,r2,r3,r4,r5,r6⟩:=R3.out.cells7
   obtain ⟨g0,g1,g2,g3,g4,g5,g6⟩:=R3.out.free7
   have k2:=R3.out.lt
   have k3:=E3.out.lt
   go_wp2_with fail
   refine zaa (P:=bodyPost _ _ _ _ _) (F:=fun W=>Fr w b g cap ts si W∧Bl W w.heap.size #[.int .i64 op,.int .i64 kd,.int .i64 nn,.string nm,.string fl,.slice a ln c,.int .i64 ta] 112)
    ⟨((((((F3.out.far nl_ _ _).far nl_ _ _).far nl_ _ _).far nl_ _ _).far nl_ _ _).far nl_ _ _).far nl_ _ _,R3.out.set7⟩ ?_
   clear q0 q1 q2 q3 q4 q5 q6 r0 r1 r2 r3 r4 r5 r6 g0 g1 g2 g3 g4 g5 g6 k2 k3
   intro wz ⟨FZ,RZ⟩
   obtain ⟨r0,r1,r2,r3,r4,r5,r6⟩:=RZ.cells7
   refine bodyPost_ret (v:=.agg #[.int .i64 op,.int .i64 kd,.int .i64 nn,.string nm,.string fl,.slice a ln c,.int .i64 ta]) (by simp [results,Tryz.results130,go_sem, *]) rfl ?_
   exact ⟨_,_,rfl,⟨_,_,_,_,_,_,_,_,_,rfl⟩,MI.out,FZ.only,FZ.par⟩
end Go.Proofs.YtdpkjpjkdmkkpaaGreatDoor
