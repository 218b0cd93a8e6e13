/- The walks through the reference's parser: structure. -/
import Derived.Test.YtdpkjpjkdmkkpaaGreatDoorMO
set_option maxRecDepth 100000
set_option maxHeartbeats 16000000
namespace Go.Proofs.YtdpkjpjkdmkkpaaGreatDoor
open Go.RowKit Lx Pa
def zlQ (w:World) (b g cap:Nat) (ts:List Tok) (p:zad) (s':PS) (e:Ending) (w':World):Prop:=
 ∃ row,e=.returned (.agg row.toArray)∧zbT w' (Btw w.heap.size w'.heap.size) p row∧Only b w w'∧Par w' b g cap ts s'
theorem zfA {b g cap k:Nat} {ts:List Tok} {s s':PS} {p:zad} {il:Bool} (hr:Pa.structure_ ts il s=(p,s')) (hg:Pa.Good ts k s) (hk:k≤40000) (w:World) (hx:Par w b g cap ts s) :
  Calls Tryz.prog 83 #[.pointer (some ⟨b,0,none⟩),.bool il] w (zlQ w b g cap ts p s'):=by
 have F0:=hd_ (Fr.start hx)
 have hle:=hx.le
 have hen:=hx.ends
 have hlt:=hx.pb.lt
 have hg:Pa.Good ts (k+0) s:=hg
 obtain ⟨n,h_n⟩:∃ n,T ts s=n:=⟨_,rfl⟩
 have HTn:=hd_ (fun W (hW:Par W b g cap ts s)=>zbH h_n hg.1 W hW)
 obtain ⟨s0,h_s0⟩:∃ s0,Pa.name ts s=s0:=⟨_,rfl⟩
 have H0:=hd_ (fun W (hW:Par W b g cap ts s)=>zcr h_n h_s0 hg.1 (by have:=hg.2;omega) W hW)
 have g_s0:Pa.Good ts (k+1) s0:=h_s0▸hg.name hen
 obtain ⟨s1,h_s1⟩:∃ s1,Pa.step ts il s0=s1:=⟨_,rfl⟩
 have H1:=hd_ (fun W (hW:Par W b g cap ts s0)=>zau h_s1 (g_s0.mono (by omega)) W hW)
 have g_s1:Pa.Good ts (k+1) s1:=h_s1▸g_s0.step hen il
 obtain ⟨s2,h_s2⟩:∃ s2,Pa.must ts s1 [58]=s2:=⟨_,rfl⟩
 have H2:=hd_ (fun W (hW:Par W b g cap ts s1)=>zaD (x:=⟨#[58]⟩) h_s2 g_s1.1 (by have:=g_s1.2;omega) W hW)
 have g_s2:Pa.Good ts (k+1) s2:=h_s2▸g_s1.must hen _
 obtain ⟨s3,h_s3⟩:∃ s3,Pa.step ts il s2=s3:=⟨_,rfl⟩
 have H3:=hd_ (fun W (hW:Par W b g cap ts s2)=>zau h_s3 (g_s2.mono (by omega)) W hW)
 have g_s3:Pa.Good ts (k+1) s3:=h_s3▸g_s2.step hen il
 obtain ⟨s4,h_s4⟩:∃ s4,Pa.must ts s3 [83,84,82,85,67,84]=s4:=⟨_,rfl⟩
 have H4:=hd_ (fun W (hW:Par W b g cap ts s3)=>zaD (x:=⟨#[83,84,82,85,67,84]⟩) h_s4 g_s3.1 (by have:=g_s3.2;omega) W hW)
 have g_s4:Pa.Good ts (k+1) s4:=h_s4▸g_s3.must hen _
 obtain ⟨sH,h_sH⟩:∃ sH,Pa.step ts il s4=sH:=⟨_,rfl⟩
 have H5:=hd_ (fun W (hW:Par W b g cap ts s4)=>zau h_sH (g_s4.mono (by omega)) W hW)
 have g_sH:Pa.Good ts (k+1) sH:=h_sH▸g_s4.step hen il
 obtain ⟨L,h_L⟩:∃ L,(Pa.items ts il [69,78,68,95,83,84,82,85,67,84] (Pa.field ts il) (ts.length+1) s4).1=L:=⟨_,rfl⟩
 obtain ⟨s5,h_s5⟩:∃ s5,(Pa.items ts il [69,78,68,95,83,84,82,85,67,84] (Pa.field ts il) (ts.length+1) s4).2=s5:=⟨_,rfl⟩
 have g_s5:Pa.Good ts (k+3) s5:=h_s5▸zbz hen (fun k s hs=>hs.field hen il) (ts.length+1) (k+3) _ (g_s4.mono (by omega)) (by omega)
 obtain ⟨s6,h_s6⟩:∃ s6,Pa.must ts s5 [69,78,68,95,83,84,82,85,67,84]=s6:=⟨_,rfl⟩
 have H6:=hd_ (fun W (hW:Par W b g cap ts s5)=>zaD (x:=⟨#[69,78,68,95,83,84,82,85,67,84]⟩) h_s6 g_s5.1 (by have:=g_s5.2;omega) W hW)
 have g_s6:Pa.Good ts (k+3) s6:=h_s6▸g_s5.must hen _
 obtain ⟨s7,h_s7⟩:∃ s7,Pa.step ts il s6=s7:=⟨_,rfl⟩
 have H7:=hd_ (fun W (hW:Par W b g cap ts s6)=>zau h_s7 (g_s6.mono (by omega)) W hW)
 have g_s7:Pa.Good ts (k+3) s7:=h_s7▸g_s6.step hen il
 obtain ⟨s8,h_s8⟩:∃ s8,Pa.must ts s7 [59]=s8:=⟨_,rfl⟩
 have H8:=hd_ (fun W (hW:Par W b g cap ts s7)=>zaD (x:=⟨#[59]⟩) h_s8 g_s7.1 (by have:=g_s7.2;omega) W hW)
 have g_s8:Pa.Good ts (k+3) s8:=h_s8▸g_s7.must hen _
 unfold Pa.structure_ Pa.sSTRUCT Pa.sEND_STRUCT at hr
 simp only [h_n,h_s0,h_s1,h_s2,h_s3,h_s4,h_L,h_s5,h_s6,h_s7,h_s8] at hr
 injection hr with hr1 hr2
 have HP:=hd_ hr1
 subst hr2
 clear hr1
 have HG4:=hd_ g_s4
 have HSH:=hd_ h_sH
 have HLE:=hd_ hle
 have HEN:=hd_ hen
 have HK:=hd_ hk
 have HIT:=hd_ (And.intro h_L h_s5)
 have n1:w.heap.size≠b:=by omega
 obtain ⟨i0,hi,hz0,hz1,hz2⟩:=info_parts zks
 have HI:=hd_ (And.intro hi (And.intro hz0 (And.intro hz1 hz2)))
 clear hi hz0 hz1 hz2
 obtain ⟨ntk,nkd,nnn,ntx,nta⟩:=n
 simp only [tokV] at H0
 clear hx hg hk hle hen HTn h_n h_s0 h_s1 h_s2 h_s3 h_s4 h_sH h_L h_s5 h_s6 h_s7 h_s8 g_s0 g_s1 g_s2 g_s3 g_s4 g_sH g_s5 g_s6 g_s7 g_s8
 go_enter Tryz.func83,Tryz.ntmps83
 go_wp2_with fail
 refine (H0.out _ (F0.out.alloc _).par).mono ?_
 rintro e w1 ⟨rfl,ho,hp⟩
 have F1:=hd_ ((F0.out.alloc _).call ho hp)
 have R1:=hd_ ((Bl.new _ _ _).only ho n1)
 clear ho hp
 have nv:w1.heap.size+1≠b:=by have:=F1.out.size;omega
 have hRO:w.heap.size≠w1.heap.size+1:=by have:=F1.out.size;omega
 have hO:w.heap.size≤w1.heap.size+1:=by have:=F1.out.size;omega
 go_wp2_with fail
 refine (H1.out _ ((F1.out.alloc _).alloc _).par).mono ?_
 rintro e w2 ⟨rfl,ho,hp⟩
 have F2:=hd_ (((F1.out.alloc _).alloc _).call ho hp)
 have R2:=hd_ (((R1.out.alloc _).alloc _).only ho n1)
 have O2:=hd_ ((Bl.newAt (X:=w1.heap.size+1) _ (by simp)).only ho nv)
 clear ho hp
 go_wp2_with fail
 refine (H2.out _ F2.out.par).mono ?_
 rintro e w3 ⟨rfl,ho,hp⟩
 have F3:=hd_ (F2.out.call ho hp)
 have R3:=hd_ (R2.out.only ho n1)
 have O3:=hd_ (O2.out.only ho nv)
 clear ho hp
 go_wp2_with fail
 refine (H3.out _ F3.out.par).mono ?_
 rintro e w4 ⟨rfl,ho,hp⟩
 have F4:=hd_ (F3.out.call ho hp)
 have R4:=hd_ (R3.out.only ho n1)
 have O4:=hd_ (O3.out.only ho nv)
 clear ho hp
 go_wp2_with fail
 refine (H4.out _ F4.out.par).mono ?_
 rintro e w5 ⟨rfl,ho,hp⟩
 have F5:=hd_ (F4.out.call ho hp)
 have R5:=hd_ (R4.out.only ho n1)
 have O5:=hd_ (O4.out.only ho nv)
 clear ho hp
 go_wp2_with fail
 refine (H5.out _ F5.out.par).mono ?_
 rintro e w6 ⟨rfl,ho,hp⟩
 have F6:=hd_ (F5.out.call ho hp)
 have R6:=hd_ (R5.out.only ho n1)
 have O6:=hd_ (O5.out.only ho nv)
 clear ho hp
 have hlo:w1.heap.size+2≤w6.heap.size:=by have:=O6.out.lt;omega
 have G6:=hd_ (GR.start (E:=za0) (T:=54) (sz:=10) w6 hlo)
 go_wp2_with fail
 go_loopw [] (fun wr=>RRel (∃ (f:Nat) (sp:PS) (acc:List PVar) (cs:List Value) (fv:Value),Hid (Pa.Good ts (k+5) sp)∧Hid (sp.err=0→ts.length < sp.i+f)∧Hid (acc++(Pa.items ts il [69,78,68,95,83,84,82,85,67,84] (Pa.field ts il) f sp).1=L∧(Pa.items ts il [69,78,68,95,83,84,82,85,67,84] (Pa.field ts il) f sp).2=s5)∧Hid (acc.length≤sp.i) ∧
  Hid (Fr w b g cap ts (Pa.step ts il sp) wr)∧Hid (Bl wr w.heap.size #[.string ⟨#[]⟩,.slice none 0 0,.int .i64 0] 64)∧Hid (Bl wr (w1.heap.size+1) #[.string ⟨ntx.toArray⟩,fv,.int .i64 nta] 64)∧Hid (GR za0 54 10 (w1.heap.size+2) wr fv acc cs))) (fun wr=>200000 - (intOf ((wr.cell? ⟨b,1,none⟩).getD undef)).toNat)
 case atStart=>
  exact RRel.mk ⟨ts.length+1,s4,[],[],.slice none 0 0,hd_ (HG4.out.mono (by omega)),hd_ (fun _=>by omega),hd_ (by simpa using HIT.out),hd_ (by simp),hd_ (HSH.out▸F6.out),R6,O6,G6⟩
 case round=>
  obtain ⟨f,sp,acc,cs,fv,HGP,HF,HTO,HAL,F7,R7,O7,G7⟩:=hrel.it
  clear hrel F1 R1 F2 R2 O2 F3 R3 O3 F4 R4 O4 F5 R5 O5 F6 R6 O6 G6 H0 H1 H2 H3 H4 H5 HG4 HSH HIT
  obtain ⟨sh,h_sh⟩:∃ sh,Pa.step ts il sp=sh:=⟨_,rfl⟩
  rw [h_sh] at F7
  obtain ⟨w7,rfl⟩:∃ w7,w7=wr:=⟨_,rfl⟩
  have g_sh:Pa.Good ts (k+5) sh:=h_sh▸HGP.out.step HEN.out il
  have hesp:sh.err=sp.err:=by rw [← h_sh];exact zdQ ts il sp
  have hisp:sp.i≤sh.i:=by rw [← h_sh];exact zax ts il sp
  obtain ⟨q,h_q⟩:∃ q,is ts sh [69,78,68,95,83,84,82,85,67,84]=q:=⟨_,rfl⟩
  have HQ:=hd_ (fun W (hW:Par W b g cap ts sh)=>zb9 (x:=⟨#[69,78,68,95,83,84,82,85,67,84]⟩) h_q g_sh.1 W hW)
  obtain ⟨-,d1,d2,-,-,-,-⟩:=F7.out.par.pb.cells
  have k1:=F7.out.par.pb.lt
  obtain ⟨va,vn,vc9,rfl,hfn⟩:=G7.out.form
  subst hfn
  by_cases h0:sh.err=0
  ·rw [h0] at d2
   cases q with
   | true=>
    have HEQ:=hd_ (zbU (one:=Pa.field ts il) (f:=f) (s:=sp) (stop:=[69,78,68,95,83,84,82,85,67,84]) (.inr (by rw [h_sh];exact h_q)))
    have HEQ2:=hd_ (show acc=L∧sh=s5 by
     have h1:=HTO.out
     rw [HEQ.out,h_sh] at h1
     simpa using h1)
    obtain ⟨h1,h2⟩:=HEQ2.out
    subst h1 h2
    clear HEQ2 HEQ HTO HF HAL HGP HI h_sh h_q g_sh hesp hisp h0
    go_wp2_with fail
    refine (HQ.out _ F7.out.par).mono ?_
    rintro e w8 ⟨rfl,hb⟩
    have F8:=hd_ (F7.out.below hb)
    have R8:=hd_ (R7.out.below hb)
    have O8:=hd_ (O7.out.below hb)
    have G8:=hd_ (G7.out.below zaz (by omega) hb)
    clear d1 d2 k1
    clear hb
    go_wp2_with fail
    refine (H6.out _ F8.out.par).mono ?_
    rintro e w9 ⟨rfl,ho,hp⟩
    have F9:=hd_ (F8.out.call ho hp)
    have R9:=hd_ (R8.out.only ho n1)
    have O9:=hd_ (O8.out.only ho nv)
    have G9:=hd_ (G8.out.only zaz (by omega) ho)
    clear ho hp
    go_wp2_with fail
    refine (H7.out _ F9.out.par).mono ?_
    rintro e w10 ⟨rfl,ho,hp⟩
    have F10:=hd_ (F9.out.call ho hp)
    have R10:=hd_ (R9.out.only ho n1)
    have O10:=hd_ (O9.out.only ho nv)
    have G10:=hd_ (G9.out.only zaz (by omega) ho)
    clear ho hp
    go_wp2_with fail
    refine (H8.out _ F10.out.par).mono ?_
    rintro e w11 ⟨rfl,ho,hp⟩
    have F11:=hd_ (F10.out.call ho hp)
    have R11:=hd_ (R10.out.only ho n1)
    have O11:=hd_ (O10.out.only ho nv)
    have G11:=hd_ (G10.out.only zaz (by omega) ho)
    clear ho hp
    obtain ⟨q0,q1,q2⟩:=O11.out.cells3
    obtain ⟨r0,r1,r2⟩:=R11.out.cells3
    obtain ⟨g0,g1,g2⟩:=R11.out.free3
    have k2:=O11.out.lt
    have k3:=R11.out.lt
    go_wp2_with fail
    refine zaa (P:=bodyPost _ _ _ _ _) (F:=fun W=>Fr w b g cap ts s8 W∧Bl W w.heap.size #[.string ⟨ntx.toArray⟩,.slice va acc.length vc9,.int .i64 nta] 64∧GR za0 54 10 (w1.heap.size+2) W (.slice va acc.length vc9) acc cs)
     ⟨((F11.out.far nl_ _ _).far nl_ _ _).far nl_ _ _,R11.out.set3,((G11.out.set zaz (by omega) _ _).set zaz (by omega) _ _).set zaz (by omega) _ _⟩ ?_
    clear q0 q1 q2 r0 r1 r2 g0 g1 g2 k2 k3
    intro wz ⟨FZ,RZ,GZ⟩
    obtain ⟨r0,r1,r2⟩:=RZ.cells3
    refine bodyPost_ret (v:=.agg #[.string ⟨ntx.toArray⟩,.slice va acc.length vc9,.int .i64 nta]) (by simp [results,Tryz.results83,go_sem, *]) rfl ?_
    refine ⟨_,rfl,?_,FZ.only,FZ.par⟩
    rw [← HP.out]
    obtain ⟨z1,z2⟩:=GZ.slice zaz (n0:=w.heap.size) (by omega)
    exact ⟨_,rfl,_,z1,zil z2⟩
   | false=>
    obtain ⟨f',rfl⟩:∃ f',f=f'+1:=⟨f - 1,by have:=HF.out (by rw [← hesp];exact h0);have:=g_sh.1 h0;omega⟩
    have HEQ:=hd_ (zc4 (one:=Pa.field ts il) (f:=f') (s:=sp) (stop:=[69,78,68,95,83,84,82,85,67,84]) (by rw [h_sh];exact h0) (by rw [h_sh];exact h_q))
    have gz:Pa.Good ts (k+0) sh:=(g_sh.zero h0).mono (by omega)
    have hle:=HLE.out
    have hen:=HEN.out
    have hk:=HK.out
    obtain ⟨m,h_m⟩:∃ m,T ts sh=m:=⟨_,rfl⟩
    have HTm:=hd_ (fun W (hW:Par W b g cap ts sh)=>zbH h_m gz.1 W hW)
    obtain ⟨a0,h_a0⟩:∃ a0,Pa.name ts sh=a0:=⟨_,rfl⟩
    have J0:=hd_ (fun W (hW:Par W b g cap ts sh)=>zcr h_m h_a0 gz.1 (by have:=gz.2;omega) W hW)
    have g_a0:Pa.Good ts (k+1) a0:=h_a0▸gz.name hen
    obtain ⟨a1,h_a1⟩:∃ a1,Pa.step ts il a0=a1:=⟨_,rfl⟩
    have J1:=hd_ (fun W (hW:Par W b g cap ts a0)=>zau h_a1 (g_a0.mono (by omega)) W hW)
    have g_a1:Pa.Good ts (k+1) a1:=h_a1▸g_a0.step hen il
    obtain ⟨a2,h_a2⟩:∃ a2,Pa.must ts a1 [58]=a2:=⟨_,rfl⟩
    have J2:=hd_ (fun W (hW:Par W b g cap ts a1)=>zaD (x:=⟨#[58]⟩) h_a2 g_a1.1 (by have:=g_a1.2;omega) W hW)
    have g_a2:Pa.Good ts (k+1) a2:=h_a2▸g_a1.must hen _
    obtain ⟨a3,h_a3⟩:∃ a3,Pa.step ts il a2=a3:=⟨_,rfl⟩
    have J3:=hd_ (fun W (hW:Par W b g cap ts a2)=>zau h_a3 (g_a2.mono (by omega)) W hW)
    have g_a3:Pa.Good ts (k+1) a3:=h_a3▸g_a2.step hen il
    obtain ⟨vk,h_vk⟩:∃ vk,(Pa.kind ts a3).1=vk:=⟨_,rfl⟩
    obtain ⟨a4,h_a4⟩:∃ a4,(Pa.kind ts a3).2=a4:=⟨_,rfl⟩
    have J4:=hd_ (fun W (hW:Par W b g cap ts a3)=>zfz (n:=vk) (s':=a4) (by rw [← h_vk,← h_a4]) (g_a3.mono (by omega)) W hW)
    have g_a4:Pa.Good ts (k+2) a4:=h_a4▸g_a3.kind hen
    obtain ⟨o,h_o⟩:∃ o,(Pa.init ts il a4).1=o:=⟨_,rfl⟩
    obtain ⟨a5,h_a5⟩:∃ a5,(Pa.init ts il a4).2=a5:=⟨_,rfl⟩
    have J5:=hd_ (fun W (hW:Par W b g cap ts a4)=>zih (o:=o) (s':=a5) (by rw [← h_o,← h_a5]) (g_a4.mono (by omega)) W hW)
    have g_a5:Pa.Good ts (k+2) a5:=h_a5▸g_a4.init hen il
    obtain ⟨a6,h_a6⟩:∃ a6,Pa.step ts il a5=a6:=⟨_,rfl⟩
    have J6:=hd_ (fun W (hW:Par W b g cap ts a5)=>zau h_a6 (g_a5.mono (by omega)) W hW)
    have g_a6:Pa.Good ts (k+2) a6:=h_a6▸g_a5.step hen il
    have hfield:Pa.field ts il sh=(⟨m.text,vk,0,0,0,[],false,[],o,m.at_⟩,a5):=by
     unfold Pa.field
     simp only [h_m,h_a0,h_a1,h_a2,h_a3,h_vk,h_a4,h_o,h_a5]
    have HFE:=hd_ hfield
    have HLF:Hid (sh.i+1≤a5.i∧a5.i≤a6.i):=hd_ ⟨by have:=zid ts il sh;rw [hfield] at this;exact this,by rw [← h_a6];exact zax ts il a5⟩
    have HG5:=hd_ g_a5
    have HSA:=hd_ h_a6
    have HER:Hid (a5.err=0→ts.length < a5.i+f'):=hd_ (fun _=>by
     have h1:=HF.out (by rw [← hesp];exact h0)
     have h2:=HLF.out.1
     omega)
    have HTN:Hid ((acc++[(⟨m.text,vk,0,0,0,[],false,[],o,m.at_⟩:PVar)])++(Pa.items ts il [69,78,68,95,83,84,82,85,67,84] (Pa.field ts il) f' a5).1=L∧(Pa.items ts il [69,78,68,95,83,84,82,85,67,84] (Pa.field ts il) f' a5).2=s5):=hd_ (by
     have h1:=HTO.out
     rw [HEQ.out,h_sh,hfield] at h1
     simpa using h1)
    have HAL2:Hid (acc.length+1≤a5.i):=hd_ (by have h1:=HAL.out;have h2:=HLF.out.1;omega)
    have hacc:acc.length≤200000:=by have h1:=HAL.out;have h2:=HGP.out.2;omega
    have hm9:sh.i < 200000:=by have:=g_sh.1 h0;omega
    obtain ⟨mtk,mkd,mnn,mtx,mta⟩:=m
    simp only [tokV] at J0
    simp only at HTN
    clear HTO HEQ HF HAL HGP HTm hfield hle hen hk h_m h_a0 h_a1 h_a2 h_a3 h_vk h_a4 h_o h_a5 h_a6 g_a0 g_a1 g_a2 g_a3 g_a4 g_a5 g_a6 gz h_sh h_q g_sh hesp hisp h0
    go_wp2_with fail
    refine (HQ.out _ F7.out.par).mono ?_
    rintro e w8 ⟨rfl,hb⟩
    have F8:=hd_ (F7.out.below hb)
    have R8:=hd_ (R7.out.below hb)
    have O8:=hd_ (O7.out.below hb)
    have G8:=hd_ (G7.out.below zaz (by omega) hb)
    clear d1 d2 k1
    clear hb
    go_wp2_with fail
    refine (J0.out _ F8.out.par).mono ?_
    rintro e w9 ⟨rfl,ho,hp⟩
    have F9:=hd_ (F8.out.call ho hp)
    have R9:=hd_ (R8.out.only ho n1)
    have O9:=hd_ (O8.out.only ho nv)
    have G9:=hd_ (G8.out.only zaz (by omega) ho)
    clear ho hp
    have nV:w9.heap.size+1≠b:=by have:=F9.out.size;omega
    have hV:w.heap.size≤w9.heap.size+1:=by have:=F9.out.size;omega
    have hRV:w.heap.size≠w9.heap.size+1:=by have:=F9.out.size;omega
    have hOV:w1.heap.size+1≠w9.heap.size+1:=by have:=O9.out.lt;omega
    go_wp2_with fail
    refine (J1.out _ ((F9.out.alloc _).alloc _).par).mono ?_
    rintro e w10 ⟨rfl,ho,hp⟩
    have F10:=hd_ (((F9.out.alloc _).alloc _).call ho hp)
    have R10:=hd_ (((R9.out.alloc _).alloc _).only ho n1)
    have O10:=hd_ (((O9.out.alloc _).alloc _).only ho nv)
    have P10:=hd_ ((((Only.refl b w9).alloc _).alloc _).trans ho)
    have V10:=hd_ ((Bl.newAt (X:=w9.heap.size+1) _ (by simp)).only ho nV)
    clear ho hp
    go_wp2_with fail
    refine (J2.out _ F10.out.par).mono ?_
    rintro e w11 ⟨rfl,ho,hp⟩
    have F11:=hd_ (F10.out.call ho hp)
    have R11:=hd_ (R10.out.only ho n1)
    have O11:=hd_ (O10.out.only ho nv)
    have V11:=hd_ (V10.out.only ho nV)
    have P11:=hd_ (P10.out.trans ho)
    clear ho hp
    go_wp2_with fail
    refine (J3.out _ F11.out.par).mono ?_
    rintro e w12 ⟨rfl,ho,hp⟩
    have F12:=hd_ (F11.out.call ho hp)
    have R12:=hd_ (R11.out.only ho n1)
    have O12:=hd_ (O11.out.only ho nv)
    have V12:=hd_ (V11.out.only ho nV)
    have P12:=hd_ (P11.out.trans ho)
    clear ho hp
    go_wp2_with fail
    refine (J4.out _ F12.out.par).mono ?_
    rintro e w13 ⟨rfl,ho,hp⟩
    have F13:=hd_ (F12.out.call ho hp)
    have R13:=hd_ (R12.out.only ho n1)
    have O13:=hd_ (O12.out.only ho nv)
    have V13:=hd_ (V12.out.only ho nV)
    have P13:=hd_ (P12.out.trans ho)
    clear ho hp
    obtain ⟨-,r1,-,-,-,-,-,-,-,-⟩:=V13.out.cells10
    obtain ⟨-,g1,-,-,-,-,-,-,-,-⟩:=V13.out.free10
    have k2:=V13.out.lt
    go_upto_region 16 with fail
    refine zaa (P:=Code.wp _ _ _ _) (F:=fun W=>Fr w b g cap ts a4 W∧Bl W w.heap.size #[.string ⟨#[]⟩,.slice none 0 0,.int .i64 0] 64∧Bl W (w1.heap.size+1) #[.string ⟨ntx.toArray⟩,.slice va acc.length vc9,.int .i64 nta] 64∧Bl W (w9.heap.size+1) #[.string ⟨mtx.toArray⟩,.int .i64 vk,.int .i64 0,.int .i64 0,.int .i64 0,.string ⟨#[]⟩,.bool false,.string ⟨#[]⟩,.slice none 0 0,.int .i64 mta] 54∧Only b w9 W∧Off (w9.heap.size+2) w13 W)
     ⟨F13.out.far hV _ _,R13.out.other hRV _ _,O13.out.other hOV _ _,by simpa using V13.out.set 1 _,P13.out.setFar (by omega) _ _,(Off.refl _ _).set (by omega) _ _⟩ ?_
    clear r1 g1 k2
    intro w14 ⟨F14,R14,O14,V14,P14,X14⟩
    have F14:=hd_ F14
    have R14:=hd_ R14
    have O14:=hd_ O14
    have V14:=hd_ V14
    have P14:=hd_ P14
    have X14:=hd_ X14
    have kV:=V14.out.lt
    go_wp2_with fail
    refine (J5.out _ F14.out.par).mono ?_
    rintro e w15 ⟨vi,rfl,hd,ho,hp⟩
    have F15:=hd_ (F14.out.call ho hp)
    have R15:=hd_ (R14.out.only ho n1)
    have O15:=hd_ (O14.out.only ho nv)
    have V15:=hd_ (V14.out.only ho nV)
    have P15:=hd_ (P14.out.trans ho)
    obtain ⟨ia,il9,ic,rfl⟩:=hd.slice
    have D:=hd_ hd
    have kL:w9.heap.size+2≤w14.heap.size:=by omega
    clear ho hp hd
    obtain ⟨-,-,-,-,-,-,-,-,r8,-⟩:=V15.out.cells10
    obtain ⟨-,-,-,-,-,-,-,-,g8,-⟩:=V15.out.free10
    have k2:=V15.out.lt
    go_upto_region 17 with fail
    refine zaa (P:=Code.wp _ _ _ _) (F:=fun W=>Fr w b g cap ts a5 W∧Bl W w.heap.size #[.string ⟨#[]⟩,.slice none 0 0,.int .i64 0] 64∧Bl W (w1.heap.size+1) #[.string ⟨ntx.toArray⟩,.slice va acc.length vc9,.int .i64 nta] 64∧Bl W (w9.heap.size+1) #[.string ⟨mtx.toArray⟩,.int .i64 vk,.int .i64 0,.int .i64 0,.int .i64 0,.string ⟨#[]⟩,.bool false,.string ⟨#[]⟩,.slice ia il9 ic,.int .i64 mta] 54∧Only b w9 W∧Off (w9.heap.size+2) w15 W)
     ⟨F15.out.far hV _ _,R15.out.other hRV _ _,O15.out.other hOV _ _,by simpa using V15.out.set 8 _,P15.out.setFar (by omega) _ _,(Off.refl _ _).set (by omega) _ _⟩ ?_
    clear r8 g8 k2
    intro w16 ⟨F16,R16,O16,V16,P16,X16⟩
    have F16:=hd_ F16
    have R16:=hd_ R16
    have O16:=hd_ O16
    have V16:=hd_ V16
    have P16:=hd_ P16
    have X16:=hd_ X16
    have DD:Hid (za0 w16 (Btw (w9.heap.size+2) w16.heap.size) (⟨mtx,vk,0,0,0,[],false,[],o,mta⟩:PVar) [.string ⟨mtx.toArray⟩,.int .i64 vk,.int .i64 0,.int .i64 0,.int .i64 0,.string ⟨#[]⟩,.bool false,.string ⟨#[]⟩,.slice ia il9 ic,.int .i64 mta]):=
     hd_ ⟨_,rfl,(zkK D.out kL).keeps (X16.out.keeps nl_)⟩
    have G16:=hd_ (G9.out.only zaz (by omega) P16.out)
    have kfv:∀ k,(Value.slice va acc.length vc9).ownBlock=some k→k < w9.heap.size:=G9.out.lt
    have kfl:∀ k,(Value.slice va acc.length vc9).ownBlock=some k→w1.heap.size+2≤k:=fun k hk=>(G9.out.own.lt k hk).1
    have KFV:=hd_ kfv
    have KFL:=hd_ kfl
    have KNO:Hid (some (w1.heap.size+1)≠(Value.slice va acc.length vc9).ownBlock):=hd_ (fun h=>by have:=kfl _ h.symm;omega)
    have KNR:Hid (some w.heap.size≠(Value.slice va acc.length vc9).ownBlock):=hd_ (fun h=>by have:=kfl _ h.symm;omega)
    clear kfv kfl P10 P11 P12 P13 V10 V11 V12 V13 D X16
    obtain ⟨q0,q1,q2,q3,q4,q5,q6,q7,q8,q9⟩:=V16.out.cells10
    obtain ⟨-,o1,-⟩:=O16.out.cells3
    have k2:=V16.out.lt
    have k3:=O16.out.lt
    have k6:w1.heap.size+2≤w9.heap.size:=by have:=O9.out.lt;omega
    have k4:w1.heap.size+2≤w16.heap.size:=by omega
    go_upto_region 9 with (at_builtin;refine wpList_append_lies _ (by rfl) _ _ _ (by rfl) (w1.heap.size+2) 54 i0 _ 10 120 Tryz.underlying24 HI.out.1 HI.out.2.1 HI.out.2.2.1 HI.out.2.2.2 rfl (by omega) (.slice va acc.length vc9) acc.length cs (by rfl) (G16.out.alloc zaz (by omega) _).own ⟨w16.heap.size,0,none⟩ 1 1 [.string ⟨mtx.toArray⟩,.int .i64 vk,.int .i64 0,.int .i64 0,.int .i64 0,.string ⟨#[]⟩,.bool false,.string ⟨#[]⟩,.slice ia il9 ic,.int .i64 mta] (by rfl) (by rfl) (World.news_of_block (cs:=#[.string ⟨mtx.toArray⟩,.int .i64 vk,.int .i64 0,.int .i64 0,.int .i64 0,.string ⟨#[]⟩,.bool false,.string ⟨#[]⟩,.slice ia il9 ic,.int .i64 mta]) (t:=54) (fr:=(0,0)) (heap_alloc_new _ _)) (by simp [Value.oneCell']) (by omega) (by simp only [maxLen];omega) (by omega) (by simp;omega) (w16.heap.size+1) (by simp) ?_;intro g9 cp w17 hown hgrow hat hlt9;have O17:=hd_ ((O16.out.alloc _).grown hgrow KNO.out);have R17:=hd_ ((R16.out.alloc _).grown hgrow KNR.out);have F17:=hd_ ((F16.out.alloc _).grown hgrow (fun k hk=>by have:=KFL.out k hk;omega));have G17:=hd_ (G16.out.app zaz DD.out (by omega) (fun k hk=>by have:=KFV.out k hk;omega) (br_.alloc nl_ _) hgrow hown (hat.imp id (fun h=>by simp;omega)));have o2:=O17.out.cells3.2.1;have g2:=O17.out.free3.2.1;have k5:=O17.out.lt;clear hown hgrow hat hlt9)
    refine zaa (P:=Code.wp _ _ _ _) (F:=fun W=>Fr w b g cap ts a5 W∧Bl W w.heap.size #[.string ⟨#[]⟩,.slice none 0 0,.int .i64 0] 64∧Bl W (w1.heap.size+1) #[.string ⟨ntx.toArray⟩,.slice (some ⟨g9,0,none⟩) (acc.length+1) cp,.int .i64 nta] 64∧GR za0 54 10 (w1.heap.size+2) W (.slice (some ⟨g9,0,none⟩) (acc.length+1) cp) (acc++[⟨mtx,vk,0,0,0,[],false,[],o,mta⟩]) (cs++[.string ⟨mtx.toArray⟩,.int .i64 vk,.int .i64 0,.int .i64 0,.int .i64 0,.string ⟨#[]⟩,.bool false,.string ⟨#[]⟩,.slice ia il9 ic,.int .i64 mta]))
     ⟨F17.out.far hO _ _,R17.out.other hRO _ _,by simpa using O17.out.set 1 _,G17.out.set zaz (by omega) _ _⟩ ?_
    clear o1 o2 g2 k5 q0 q1 q2 q3 q4 q5 q6 q7 q8 q9
    intro wy ⟨FY,RY,OY,GY⟩
    have FY:=hd_ FY
    have RY:=hd_ RY
    have OY:=hd_ OY
    have GY:=hd_ GY
    go_wp2_with fail
    refine (J6.out _ FY.out.par).mono ?_
    rintro e wx ⟨rfl,ho,hp⟩
    have FX:=hd_ (FY.out.call ho hp)
    have RX:=hd_ (RY.out.only ho n1)
    have OX:=hd_ (OY.out.only ho nv)
    have GX:=hd_ (GY.out.only zaz (by omega) ho)
    clear ho hp
    go_wp2_with fail
    go_roundw
    case rel=>exact RRel.mk ⟨f',a5,acc++[⟨mtx,vk,0,0,0,[],false,[],o,mta⟩],cs++[.string ⟨mtx.toArray⟩,.int .i64 vk,.int .i64 0,.int .i64 0,.int .i64 0,.string ⟨#[]⟩,.bool false,.string ⟨#[]⟩,.slice ia il9 ic,.int .i64 mta],.slice (some ⟨g9,0,none⟩) (acc.length+1) cp,hd_ (HG5.out.mono (by omega)),HER,HTN,hd_ (by simpa using HAL2.out),hd_ (by rw [HSA.out];exact FX.out),RX,OX,GX⟩
    case measure=>
     have q1:=FX.out.par.pb.cells.2.1
     have q2:=F7.out.par.pb.cells.2.1
     have q3:=HLF.out
     simp [q1,q2,intOf];omega
  ·have e0:(sh.err==0)=false:=by simp [h0]
   have HEQ:=hd_ (zbU (one:=Pa.field ts il) (f:=f) (s:=sp) (stop:=[69,78,68,95,83,84,82,85,67,84]) (.inl (by rw [h_sh];exact h0)))
   have HEQ2:=hd_ (show acc=L∧sh=s5 by
    have h1:=HTO.out
    rw [HEQ.out,h_sh] at h1
    simpa using h1)
   obtain ⟨h1,h2⟩:=HEQ2.out
   subst h1 h2
   clear HEQ2 HEQ HTO HF HAL HGP HI h_sh h_q g_sh hesp hisp h0
   clear d1
   have hbO:b < w1.heap.size+2:=by omega
   go_wp2_with fail
   refine (H6.out _ F7.out.par).mono ?_
   rintro e w8 ⟨rfl,ho,hp⟩
   have F8:=hd_ (F7.out.call ho hp)
   have R8:=hd_ (R7.out.only ho n1)
   have O8:=hd_ (O7.out.only ho nv)
   have G8:=hd_ (G7.out.only zaz (by omega) ho)
   clear ho hp
   go_wp2_with fail
   refine (H7.out _ F8.out.par).mono ?_
   rintro e w9 ⟨rfl,ho,hp⟩
   have F9:=hd_ (F8.out.call ho hp)
   have R9:=hd_ (R8.out.only ho n1)
   have O9:=hd_ (O8.out.only ho nv)
   have G9:=hd_ (G8.out.only zaz (by omega) ho)
   clear ho hp
   go_wp2_with fail
   refine (H8.out _ F9.out.par).mono ?_
   rintro e w10 ⟨rfl,ho,hp⟩
   have F10:=hd_ (F9.out.call ho hp)
   have R10:=hd_ (R9.out.only ho n1)
   have O10:=hd_ (O9.out.only ho nv)
   have G10:=hd_ (G9.out.only zaz (by omega) ho)
   clear ho hp
   obtain ⟨q0,q1,q2⟩:=O10.out.cells3
   obtain ⟨r0,r1,r2⟩:=R10.out.cells3
   obtain ⟨g0,g1,g2⟩:=R10.out.free3
   have k2:=O10.out.lt
   have k3:=R10.out.lt
   go_wp2_with fail
   refine zaa (P:=bodyPost _ _ _ _ _) (F:=fun W=>Fr w b g cap ts s8 W∧Bl W w.heap.size #[.string ⟨ntx.toArray⟩,.slice va acc.length vc9,.int .i64 nta] 64∧GR za0 54 10 (w1.heap.size+2) W (.slice va acc.length vc9) acc cs)
    ⟨((F10.out.far nl_ _ _).far nl_ _ _).far nl_ _ _,R10.out.set3,((G10.out.set zaz (by omega) _ _).set zaz (by omega) _ _).set zaz (by omega) _ _⟩ ?_
   clear q0 q1 q2 r0 r1 r2 g0 g1 g2 k2 k3
   intro wz ⟨FZ,RZ,GZ⟩
   obtain ⟨r0,r1,r2⟩:=RZ.cells3
   refine bodyPost_ret (v:=.agg #[.string ⟨ntx.toArray⟩,.slice va acc.length vc9,.int .i64 nta]) (by simp [results,Tryz.results83,go_sem, *]) rfl ?_
   refine ⟨_,rfl,?_,FZ.only,FZ.par⟩
   rw [← HP.out]
   obtain ⟨z1,z2⟩:=GZ.slice zaz (n0:=w.heap.size) (by omega)
   exact ⟨_,rfl,_,z1,zil z2⟩
end Go.Proofs.YtdpkjpjkdmkkpaaGreatDoor
