/- The walks through the reference's parser: variable. -/
import Derived.Test.YtdpkjpjkdmkkpaaGreatDoorMN
import Derived.Deep.CutBlock
set_option maxRecDepth 100000
set_option maxHeartbeats 16000000
namespace Go.Proofs.YtdpkjpjkdmkkpaaGreatDoor
open Go.RowKit Lx Pa
def zlT (w:World) (b g cap:Nat) (ts:List Tok) (p:PVar) (s':PS) (e:Ending) (w':World):Prop:=
 ∃ row,e=.returned (.agg row.toArray)∧za0 w' (Btw w.heap.size w'.heap.size) p row∧Only b w w'∧Par w' b g cap ts s'
theorem zkK {W:World} {lo hi n:Nat} {x:Option Ini} {v:Value} (h:IniV W (Btw lo hi) x v) (hl:n≤lo):IniV W (Btw n hi) x v:=
 h.keeps ⟨fun _ _ _=>rfl,fun _ h=>⟨by have:=h.1;omega,h.2⟩⟩
theorem IniV.slice {w:World} {P:Nat→Prop} {o:Option Ini} {v:Value} (h:IniV w P o v):∃ a ln c,v=.slice a ln c:=by
 obtain ⟨cs,h2,_⟩:=h
 rcases h2 with ⟨_,_,h2⟩ | ⟨a,c,h2,_⟩
 ·exact ⟨_,_,_,h2⟩
 ·exact ⟨_,_,_,h2⟩
theorem zgv {b g cap k:Nat} {ts:List Tok} {s s':PS} {p:PVar} {il re:Bool} (hr:Pa.variable_ ts il re s=(p,s')) (hg:Pa.Good ts k s) (hk:k≤40000) (w:World) (hx:Par w b g cap ts s) :
  Calls Tryz.prog 85 #[.pointer (some ⟨b,0,none⟩),.bool il,.bool re] w (zlT w b g cap ts p s'):=by
 have F0:=hd_ (Fr.start hx)
 have hle:=hx.le
 have hen:=hx.ends
 have hlt:=hx.pb.lt
 have hg:Pa.Good ts (k+0) s:=hg
 obtain ⟨n,h_n⟩:∃ n,T ts s=n:=⟨_,rfl⟩
 have HTn:=hd_ (fun W (hW:Par W b g cap ts s)=>zbH h_n hg.1 W hW)
 obtain ⟨s0,h_s0⟩:∃ s0,Pa.name ts s=s0:=⟨_,rfl⟩
 have H0:=hd_ (fun W (hW:Par W b g cap ts s)=>zcr h_n h_s0 hg.1 (by have:=hg.2;omega) W hW)
 have g_s0:Pa.Good ts (k+1) s0:=h_s0▸hg.name hen
 obtain ⟨s1,h_s1⟩:∃ s1,Pa.step ts il s0=s1:=⟨_,rfl⟩
 have H1:=hd_ (fun W (hW:Par W b g cap ts s0)=>zau h_s1 (g_s0.mono (by omega)) W hW)
 have g_s1:Pa.Good ts (k+1) s1:=h_s1▸g_s0.step hen il
 obtain ⟨ad,h_ad⟩:∃ ad,(Pa.vaddr ts il s1).1=ad:=⟨_,rfl⟩
 obtain ⟨s3,h_s3⟩:∃ s3,(Pa.vaddr ts il s1).2=s3:=⟨_,rfl⟩
 have g_s3:Pa.Good ts (k+2) s3:=h_s3▸g_s1.vaddr hen il
 obtain ⟨s4,h_s4⟩:∃ s4,Pa.must ts s3 [58]=s4:=⟨_,rfl⟩
 have H4:=hd_ (fun W (hW:Par W b g cap ts s3)=>zaD (x:=⟨#[58]⟩) h_s4 g_s3.1 (by have:=g_s3.2;omega) W hW)
 have g_s4:Pa.Good ts (k+2) s4:=h_s4▸g_s3.must hen _
 obtain ⟨s5,h_s5⟩:∃ s5,Pa.step ts il s4=s5:=⟨_,rfl⟩
 have H5:=hd_ (fun W (hW:Par W b g cap ts s4)=>zau h_s5 (g_s4.mono (by omega)) W hW)
 have g_s5:Pa.Good ts (k+2) s5:=h_s5▸g_s4.step hen il
 obtain ⟨t,h_t⟩:∃ t,T ts s5=t:=⟨_,rfl⟩
 have HT:=hd_ (fun W (hW:Par W b g cap ts s5)=>zbH h_t g_s5.1 W hW)
 obtain ⟨ty,h_ty⟩:∃ ty,(Pa.vtype ts il s5).1=ty:=⟨_,rfl⟩
 obtain ⟨s6,h_s6⟩:∃ s6,(Pa.vtype ts il s5).2=s6:=⟨_,rfl⟩
 have g_s6:Pa.Good ts (k+3) s6:=h_s6▸g_s5.vtype hen il
 obtain ⟨o,h_o⟩:∃ o,(Pa.init ts il s6).1=o:=⟨_,rfl⟩
 obtain ⟨s7,h_s7⟩:∃ s7,(Pa.init ts il s6).2=s7:=⟨_,rfl⟩
 have HI:=hd_ (fun W (hW:Par W b g cap ts s6)=>zih (o:=o) (s':=s7) (by rw [← h_o,← h_s7]) (g_s6.mono (by omega)) W hW)
 have g_s7:Pa.Good ts (k+3) s7:=h_s7▸g_s6.init hen il
 unfold Pa.variable_ at hr
 simp only [h_n,h_s0,h_s1,h_ad,h_s3,h_s4,h_s5,h_ty,h_s6,h_o,h_s7] at hr
 injection hr with hr1 hr2
 have HP:=hd_ hr1
 subst hr2
 clear hr1
 have HG1:=hd_ g_s1
 have HG5:=hd_ g_s5
 have HLE:=hd_ hle
 have HEN:=hd_ hen
 have HK:=hd_ hk
 have HA:=hd_ (And.intro h_ad h_s3)
 have HY:=hd_ (And.intro h_ty h_s6)
 have HTT:=hd_ h_t
 have n1:w.heap.size≠b:=by omega
 obtain ⟨ntk,nkd,nnn,ntx,nta⟩:=n
 obtain ⟨tk,kd,nn,tx,ta⟩:=t
 simp only [tokV] at H0 HT
 clear hx hg hk hle hen HTn h_n h_s0 h_s1 h_ad h_s3 h_s4 h_s5 h_ty h_s6 h_o h_s7 h_t g_s0 g_s1 g_s3 g_s4 g_s5 g_s6 g_s7
 go_enter Tryz.func85,Tryz.ntmps85
 go_wp2_with fail
 refine (H0.out _ (F0.out.alloc _).par).mono ?_
 rintro e w1 ⟨rfl,ho,hp⟩
 have F1:=hd_ ((F0.out.alloc _).call ho hp)
 have R1:=hd_ ((Bl.new _ _ _).only ho n1)
 clear ho hp
 have nv:w1.heap.size+1≠b:=by have:=F1.out.size;omega
 go_wp2_with fail
 refine (H1.out _ ((F1.out.alloc _).alloc _).par).mono ?_
 rintro e w2 ⟨rfl,ho,hp⟩
 have F2:=hd_ (((F1.out.alloc _).alloc _).call ho hp)
 have R2:=hd_ (((R1.out.alloc _).alloc _).only ho n1)
 have V2:=hd_ ((Bl.newAt (X:=w1.heap.size+1) _ (by simp)).only ho nv)
 clear ho hp
 have hV:w.heap.size≤w1.heap.size+1:=by have:=F1.out.size;omega
 have hRV:w.heap.size≠w1.heap.size+1:=by have:=F1.out.size;omega
 have HGG:=HG1.out
 have hle:=HLE.out
 have hen:=HEN.out
 have hk:=HK.out
 obtain ⟨m,h_m⟩:∃ m,is ts s1 [65,84]=m:=⟨_,rfl⟩
 obtain ⟨sE,h_sE⟩:∃ sE,(if m=true then up s1 else s1)=sE:=⟨_,rfl⟩
 have e_sE:eat ts s1 [65,84]=(m,sE):=by
  unfold eat
  rw [h_m,← h_sE]
  cases m <;> rfl
 have HE:=hd_ (fun W (hW:Par W b g cap ts s1)=>zbr (x:=⟨#[65,84]⟩) e_sE HGG.1 (by have:=HGG.2;omega) W hW)
 have g_sE:Pa.Good ts (k+1) sE:=by
  rw [← h_sE]
  cases m with
  | true=>rw [if_pos rfl];exact HGG.up hen (za2 h_m)
  | false=>rw [if_neg (by simp)];exact HGG
 go_wp2_with fail
 refine (HE.out _ F2.out.par).mono ?_
 rintro e w3 ⟨rfl,ho,hp⟩
 have F3:=hd_ (F2.out.call ho hp)
 have R3:=hd_ (R2.out.only ho n1)
 have V3:=hd_ (V2.out.only ho nv)
 clear ho hp
 go_upto_if 23 with fail
 go_cut [] from 24 (fun wx=>Fr w b g cap ts s3 wx∧Bl wx w.heap.size #[.string ⟨#[]⟩,.int .i64 0,.int .i64 0,.int .i64 0,.int .i64 0,.string ⟨#[]⟩,.bool false,.string ⟨#[]⟩,.slice none 0 0,.int .i64 0] 54∧Bl wx (w1.heap.size+1) #[.string ⟨ntx.toArray⟩,.int .i64 0,.int .i64 0,.int .i64 0,.int .i64 0,.string ⟨#[]⟩,.bool re,.string ⟨ad.toArray⟩,.slice none 0 0,.int .i64 nta] 54)
 case first=>
  have hA:=HA.out
  unfold Pa.vaddr Pa.sAT at hA
  rw [h_m] at hA
  cases m with
  | false=>
   rw [if_neg (by simp)] at hA h_sE
   obtain ⟨a1,a2⟩:=hA
   simp only at a1 a2
   subst a1 a2 h_sE
   clear HA HY HG5 HGG
   clear e_sE g_sE h_m hle hen hk
   go_wp2
   go_meet
   exact ⟨F3.out,R3.out,V3.out⟩
  | true=>
   rw [if_pos rfl] at hA h_sE
   rw [h_sE] at hA
   obtain ⟨s2,h_s2⟩:∃ s2,Pa.step ts il sE=s2:=⟨_,rfl⟩
   have H2:=hd_ (fun W (hW:Par W b g cap ts sE)=>zau h_s2 (g_sE.mono (by omega)) W hW)
   have g_s2:Pa.Good ts (k+1) s2:=h_s2▸g_sE.step hen il
   obtain ⟨t2,h_t2⟩:∃ t2,T ts s2=t2:=⟨_,rfl⟩
   have HT2:=hd_ (fun W (hW:Par W b g cap ts s2)=>zbH h_t2 g_s2.1 W hW)
   obtain ⟨sf,h_sf⟩:∃ sf,(if t2.tok=5 then s2 else fail s2 t2.at_ 130)=sf:=⟨_,rfl⟩
   simp only [h_s2,h_t2,h_sf] at hA
   obtain ⟨a1,a2⟩:=hA
   have gsf:Pa.Good ts (k+2) (up sf):=by
    rw [← h_sf]
    split
    ·rename_i h5;exact (g_s2.up hen (by rw [h_t2,h5];decide)).mono (by omega)
    ·obtain ⟨h6,h7⟩:=g_s2.fail t2.at_ 130 (by decide);exact (h6.up_any h7).mono (by omega)
   have i2:s2.i≤190000:=by have:=g_s2.2;omega
   have H8:=hd_ (fun W (hW:Par W b g cap ts (up sf))=>zau a2 (gsf.mono (by omega)) W hW)
   obtain ⟨uk,ud,un,ux,ua⟩:=t2
   simp only at a1 h_sf
   subst a1
   simp only [tokV] at HT2
   clear HA HY HG5 HGG e_sE g_sE h_m hle hen hk h_sE h_s2 h_t2 g_s2 gsf a2
   by_cases h5:uk=5
   ·rw [if_pos h5] at h_sf
    subst h_sf
    have e5:(uk != 5)=false:=by simp [h5]
    have i5:IntKind.i64.wrap ((s2.i:Int)+1)=(s2.i:Int)+1:=IntWalk.i64_in _ (by omega)
    clear h5 i2
    go_wp2_with fail
    refine (H2.out _ F3.out.par).mono ?_
    rintro e w4 ⟨rfl,ho,hp⟩
    have F4:=hd_ (F3.out.call ho hp)
    have R4:=hd_ (R3.out.only ho n1)
    have V4:=hd_ (V3.out.only ho nv)
    clear ho hp
    go_wp2_with fail
    refine (HT2.out _ F4.out.par).mono ?_
    rintro e w5 ⟨rfl,hb⟩
    have F5:=hd_ (F4.out.below hb)
    have R5:=hd_ (R4.out.below hb)
    have V5:=hd_ (V4.out.below hb)
    clear hb
    obtain ⟨-,c1,-,-,f1,-,-⟩:=F5.out.par.pb.cells
    have k1:=F5.out.par.pb.lt
    obtain ⟨-,-,-,-,-,-,-,r7,-,-⟩:=V5.out.cells10
    obtain ⟨-,-,-,-,-,-,-,g7,-,-⟩:=V5.out.free10
    have k2:=V5.out.lt
    go_upto_region 11 with fail
    refine zaa (P:=Code.wp _ _ _ _) (F:=fun W=>Fr w b g cap ts (up s2) W∧Bl W w.heap.size #[.string ⟨#[]⟩,.int .i64 0,.int .i64 0,.int .i64 0,.int .i64 0,.string ⟨#[]⟩,.bool false,.string ⟨#[]⟩,.slice none 0 0,.int .i64 0] 54∧Bl W (w1.heap.size+1) #[.string ⟨ntx.toArray⟩,.int .i64 0,.int .i64 0,.int .i64 0,.int .i64 0,.string ⟨#[]⟩,.bool re,.string ⟨ux.toArray⟩,.slice none 0 0,.int .i64 nta] 54)
     ⟨((F5.out.up1 rfl (by simp)).far hV _ _).alloc _,((R5.out.other n1 _ _).other hRV _ _).alloc _,Bl.alloc (by simpa using ((V5.out.other nv 1 _).set 7 _)) _⟩ ?_
    clear c1 f1 k1 r7 g7 k2
    intro w6 ⟨F6,R6,V6⟩
    have F6:=hd_ F6
    have R6:=hd_ R6
    have V6:=hd_ V6
    go_wp2_with fail
    refine (H8.out _ F6.out.par).mono ?_
    rintro e w7 ⟨rfl,ho,hp⟩
    have F7:=hd_ (F6.out.call ho hp)
    have R7:=hd_ (R6.out.only ho n1)
    have V7:=hd_ (V6.out.only ho nv)
    clear ho hp
    go_wp2_with fail
    go_meet
    exact ⟨F7.out,R7.out,V7.out⟩
   ·rw [if_neg h5] at h_sf
    have HF:=hd_ (fun W (hW:Par W b g cap ts s2)=>za1 h_sf W hW)
    have e5:(uk != 5)=true:=by simp [h5]
    have i5:IntKind.i64.wrap ((sf.i:Int)+1)=(sf.i:Int)+1:=IntWalk.i64_in _ (by have:sf.i=s2.i:=(by rw [← h_sf];exact zjp _ _ _);omega)
    clear h5 i2 h_sf
    go_wp2_with fail
    refine (H2.out _ F3.out.par).mono ?_
    rintro e w4 ⟨rfl,ho,hp⟩
    have F4:=hd_ (F3.out.call ho hp)
    have R4:=hd_ (R3.out.only ho n1)
    have V4:=hd_ (V3.out.only ho nv)
    clear ho hp
    go_wp2_with fail
    refine (HT2.out _ F4.out.par).mono ?_
    rintro e w5 ⟨rfl,hb⟩
    have F5:=hd_ (F4.out.below hb)
    have R5:=hd_ (R4.out.below hb)
    have V5:=hd_ (V4.out.below hb)
    clear hb
    have nt:w5.heap.size≠b:=by have:=F5.out.size;omega
    have hVt:w1.heap.size+1≠w5.heap.size:=by have:=V5.out.lt;omega
    go_wp2_with fail
    refine (HF.out _ (F5.out.alloc _).par).mono ?_
    rintro e w6 ⟨rfl,ho,hp⟩
    have F6:=hd_ ((F5.out.alloc _).call ho hp)
    have R6:=hd_ ((R5.out.alloc _).only ho n1)
    have V6:=hd_ ((V5.out.alloc _).only ho nv)
    have T6:=hd_ ((Bl.new _ _ _).only ho nt)
    clear ho hp
    obtain ⟨-,-,-,q3,-⟩:=T6.out.cells5
    have k3:=T6.out.lt
    obtain ⟨-,c1,-,-,f1,-,-⟩:=F6.out.par.pb.cells
    have k1:=F6.out.par.pb.lt
    obtain ⟨-,-,-,-,-,-,-,r7,-,-⟩:=V6.out.cells10
    obtain ⟨-,-,-,-,-,-,-,g7,-,-⟩:=V6.out.free10
    have k2:=V6.out.lt
    go_upto_region 11 with fail
    refine zaa (P:=Code.wp _ _ _ _) (F:=fun W=>Fr w b g cap ts (up sf) W∧Bl W w.heap.size #[.string ⟨#[]⟩,.int .i64 0,.int .i64 0,.int .i64 0,.int .i64 0,.string ⟨#[]⟩,.bool false,.string ⟨#[]⟩,.slice none 0 0,.int .i64 0] 54∧Bl W (w1.heap.size+1) #[.string ⟨ntx.toArray⟩,.int .i64 0,.int .i64 0,.int .i64 0,.int .i64 0,.string ⟨#[]⟩,.bool re,.string ⟨ux.toArray⟩,.slice none 0 0,.int .i64 nta] 54)
     ⟨((F6.out.up1 rfl (by simp)).far hV _ _),((R6.out.other n1 _ _).other hRV _ _),by simpa using ((V6.out.other nv 1 _).set 7 _)⟩ ?_
    clear c1 f1 k1 r7 g7 k2
    intro w7 ⟨F7,R7,V7⟩
    have F7:=hd_ F7
    have R7:=hd_ R7
    have V7:=hd_ V7
    go_wp2_with fail
    refine (H8.out _ F7.out.par).mono ?_
    rintro e w8 ⟨rfl,ho,hp⟩
    have F8:=hd_ (F7.out.call ho hp)
    have R8:=hd_ (R7.out.only ho n1)
    have V8:=hd_ (V7.out.only ho nv)
    clear ho hp
    go_wp2_with fail
    go_meet
    exact ⟨F8.out,R8.out,V8.out⟩
 case rest=>
 clear HE HA HG1 HGG F1 R1 F2 R2 V2 F3 R3 V3 H0 H1 h_m h_sE e_sE g_sE sE
 obtain ⟨F3,R3,V3⟩:=hcut
 have F3:=hd_ F3
 have R3:=hd_ R3
 have V3:=hd_ V3
 go_wp2_with fail
 refine (H4.out _ F3.out.par).mono ?_
 rintro e w4 ⟨rfl,ho,hp⟩
 have F4:=hd_ (F3.out.call ho hp)
 have R4:=hd_ (R3.out.only ho n1)
 have V4:=hd_ (V3.out.only ho nv)
 clear ho hp
 go_wp2_with fail
 refine (H5.out _ F4.out.par).mono ?_
 rintro e w5 ⟨rfl,ho,hp⟩
 have F5:=hd_ (F4.out.call ho hp)
 have R5:=hd_ (R4.out.only ho n1)
 have V5:=hd_ (V4.out.only ho nv)
 clear ho hp
 go_wp2_with fail
 refine (HT.out _ F5.out.par).mono ?_
 rintro e w6 ⟨rfl,hb⟩
 have F6:=hd_ (F5.out.below hb)
 have R6:=hd_ (R5.out.below hb)
 have V6:=hd_ (V5.out.below hb)
 clear hb
 have HGG:=HG5.out
 have hle:=HLE.out
 have hen:=HEN.out
 have hk:=HK.out
 obtain ⟨mA,h_mA⟩:∃ mA,is ts s5 [65,82,82,65,89]=mA:=⟨_,rfl⟩
 obtain ⟨sB,h_sB⟩:∃ sB,(if mA=true then up s5 else s5)=sB:=⟨_,rfl⟩
 have e_sB:eat ts s5 [65,82,82,65,89]=(mA,sB):=by
  unfold eat
  rw [h_mA,← h_sB]
  cases mA <;> rfl
 have HEA:=hd_ (fun W (hW:Par W b g cap ts s5)=>zbr (x:=⟨#[65,82,82,65,89]⟩) e_sB HGG.1 (by have:=HGG.2;omega) W hW)
 have g_sB:Pa.Good ts (k+2) sB:=by
  rw [← h_sB]
  cases mA with
  | true=>rw [if_pos rfl];exact HGG.up hen (za2 h_mA)
  | false=>rw [if_neg (by simp)];exact HGG
 go_upto_block 0 with fail
 refine zaa (P:=Code.wp _ _ _ _) (F:=fun W=>Fr w b g cap ts s5 W∧Bl W w.heap.size #[.string ⟨#[]⟩,.int .i64 0,.int .i64 0,.int .i64 0,.int .i64 0,.string ⟨#[]⟩,.bool false,.string ⟨#[]⟩,.slice none 0 0,.int .i64 0] 54∧Bl W (w1.heap.size+1) #[.string ⟨ntx.toArray⟩,.int .i64 0,.int .i64 0,.int .i64 0,.int .i64 0,.string ⟨#[]⟩,.bool re,.string ⟨ad.toArray⟩,.slice none 0 0,.int .i64 nta] 54∧Bl W w6.heap.size #[.int .i64 tk,.int .i64 kd,.int .i64 nn,.string ⟨tx.toArray⟩,.int .i64 ta] 107)
  ⟨F6.out.alloc _,R6.out.alloc _,V6.out.alloc _,Bl.new _ _ _⟩ ?_
 have hQ:w6.heap.size≠b:=by have:=F6.out.size;omega
 clear F3 R3 V3 F4 R4 V4 F5 R5 V5 F6 R6 V6 H4 H5 HT
 intro w7 ⟨F7,R7,V7,T7⟩
 have F7:=hd_ F7
 have R7:=hd_ R7
 have V7:=hd_ V7
 have T7:=hd_ T7
 go_cut [] from 56 (fun wx=>Fr w b g cap ts s6 wx∧Bl wx w.heap.size #[.string ⟨#[]⟩,.int .i64 0,.int .i64 0,.int .i64 0,.int .i64 0,.string ⟨#[]⟩,.bool false,.string ⟨#[]⟩,.slice none 0 0,.int .i64 0] 54∧Bl wx (w1.heap.size+1) #[.string ⟨ntx.toArray⟩,.int .i64 ty.1,.int .i64 ty.2.1,.int .i64 ty.2.2.1,.int .i64 ty.2.2.2.1,.string ⟨ty.2.2.2.2.toArray⟩,.bool re,.string ⟨ad.toArray⟩,.slice none 0 0,.int .i64 nta] 54)
 case first=>
  have hY:=HY.out
  unfold Pa.vtype Pa.sARRAY Pa.sOF at hY
  rw [h_mA,HTT.out] at hY
  cases mA with
  | true=>
   rw [if_pos rfl] at hY h_sB
   simp only [h_sB] at hY
   obtain ⟨c1,h_c1⟩:∃ c1,Pa.step ts il sB=c1:=⟨_,rfl⟩
   have J1:=hd_ (fun W (hW:Par W b g cap ts sB)=>zau h_c1 (g_sB.mono (by omega)) W hW)
   have g_c1:Pa.Good ts (k+2) c1:=h_c1▸g_sB.step hen il
   obtain ⟨c2,h_c2⟩:∃ c2,Pa.must ts c1 [91]=c2:=⟨_,rfl⟩
   have J2:=hd_ (fun W (hW:Par W b g cap ts c1)=>zaD (x:=⟨#[91]⟩) h_c2 g_c1.1 (by have:=g_c1.2;omega) W hW)
   have g_c2:Pa.Good ts (k+2) c2:=h_c2▸g_c1.must hen _
   obtain ⟨c3,h_c3⟩:∃ c3,Pa.step ts il c2=c3:=⟨_,rfl⟩
   have J3:=hd_ (fun W (hW:Par W b g cap ts c2)=>zau h_c3 (g_c2.mono (by omega)) W hW)
   have g_c3:Pa.Good ts (k+2) c3:=h_c3▸g_c2.step hen il
   obtain ⟨va,h_va⟩:∃ va,(Pa.lined ts il c3).1=va:=⟨_,rfl⟩
   obtain ⟨c4,h_c4⟩:∃ c4,(Pa.lined ts il c3).2=c4:=⟨_,rfl⟩
   have J4:=hd_ (fun W (hW:Par W b g cap ts c3)=>zgt (n:=va) (s':=c4) (by rw [← h_va,← h_c4]) (g_c3.mono (by omega)) W hW)
   have g_c4:Pa.Good ts (k+2) c4:=h_c4▸g_c3.lined hen il
   obtain ⟨c5,h_c5⟩:∃ c5,Pa.step ts il c4=c5:=⟨_,rfl⟩
   have J5:=hd_ (fun W (hW:Par W b g cap ts c4)=>zau h_c5 (g_c4.mono (by omega)) W hW)
   have g_c5:Pa.Good ts (k+2) c5:=h_c5▸g_c4.step hen il
   obtain ⟨c6,h_c6⟩:∃ c6,Pa.must ts c5 [46,46]=c6:=⟨_,rfl⟩
   have J6:=hd_ (fun W (hW:Par W b g cap ts c5)=>zaD (x:=⟨#[46,46]⟩) h_c6 g_c5.1 (by have:=g_c5.2;omega) W hW)
   have g_c6:Pa.Good ts (k+2) c6:=h_c6▸g_c5.must hen _
   obtain ⟨c7,h_c7⟩:∃ c7,Pa.step ts il c6=c7:=⟨_,rfl⟩
   have J7:=hd_ (fun W (hW:Par W b g cap ts c6)=>zau h_c7 (g_c6.mono (by omega)) W hW)
   have g_c7:Pa.Good ts (k+2) c7:=h_c7▸g_c6.step hen il
   obtain ⟨vb,h_vb⟩:∃ vb,(Pa.lined ts il c7).1=vb:=⟨_,rfl⟩
   obtain ⟨c8,h_c8⟩:∃ c8,(Pa.lined ts il c7).2=c8:=⟨_,rfl⟩
   have J8:=hd_ (fun W (hW:Par W b g cap ts c7)=>zgt (n:=vb) (s':=c8) (by rw [← h_vb,← h_c8]) (g_c7.mono (by omega)) W hW)
   have g_c8:Pa.Good ts (k+2) c8:=h_c8▸g_c7.lined hen il
   obtain ⟨c9,h_c9⟩:∃ c9,Pa.step ts il c8=c9:=⟨_,rfl⟩
   have J9:=hd_ (fun W (hW:Par W b g cap ts c8)=>zau h_c9 (g_c8.mono (by omega)) W hW)
   have g_c9:Pa.Good ts (k+2) c9:=h_c9▸g_c8.step hen il
   obtain ⟨c10,h_c10⟩:∃ c10,Pa.must ts c9 [93]=c10:=⟨_,rfl⟩
   have J10:=hd_ (fun W (hW:Par W b g cap ts c9)=>zaD (x:=⟨#[93]⟩) h_c10 g_c9.1 (by have:=g_c9.2;omega) W hW)
   have g_c10:Pa.Good ts (k+2) c10:=h_c10▸g_c9.must hen _
   obtain ⟨c11,h_c11⟩:∃ c11,Pa.step ts il c10=c11:=⟨_,rfl⟩
   have J11:=hd_ (fun W (hW:Par W b g cap ts c10)=>zau h_c11 (g_c10.mono (by omega)) W hW)
   have g_c11:Pa.Good ts (k+2) c11:=h_c11▸g_c10.step hen il
   obtain ⟨c12,h_c12⟩:∃ c12,Pa.must ts c11 [79,70]=c12:=⟨_,rfl⟩
   have J12:=hd_ (fun W (hW:Par W b g cap ts c11)=>zaD (x:=⟨#[79,70]⟩) h_c12 g_c11.1 (by have:=g_c11.2;omega) W hW)
   have g_c12:Pa.Good ts (k+2) c12:=h_c12▸g_c11.must hen _
   obtain ⟨c13,h_c13⟩:∃ c13,Pa.step ts il c12=c13:=⟨_,rfl⟩
   have J13:=hd_ (fun W (hW:Par W b g cap ts c12)=>zau h_c13 (g_c12.mono (by omega)) W hW)
   have g_c13:Pa.Good ts (k+2) c13:=h_c13▸g_c12.step hen il
   obtain ⟨vk,h_vk⟩:∃ vk,(Pa.kind ts c13).1=vk:=⟨_,rfl⟩
   obtain ⟨c14,h_c14⟩:∃ c14,(Pa.kind ts c13).2=c14:=⟨_,rfl⟩
   have J14:=hd_ (fun W (hW:Par W b g cap ts c13)=>zfz (n:=vk) (s':=c14) (by rw [← h_vk,← h_c14]) (g_c13.mono (by omega)) W hW)
   have g_c14:Pa.Good ts (k+3) c14:=h_c14▸g_c13.kind hen
   simp only [h_c1,h_c2,h_c3,h_c4,h_c5,h_c6,h_c7,h_c8,h_c9,h_c10,h_c11,h_c12,h_c13,h_c14,h_va,h_vb,h_vk] at hY
   obtain ⟨y1,y2⟩:=hY
   subst y1 y2
   clear HY HGG HG5 HTT hle hen hk h_mA e_sB g_c1 g_c2 g_c3 g_c4 g_c5 g_c6 g_c7 g_c8 g_c9 g_c10 g_c11 g_c12 g_c13 g_c14 h_c1 h_c2 h_c3 h_c4 h_c5 h_c6 h_c7 h_c8 h_c9 h_c10 h_c11 h_c12 h_c13 h_c14 h_va h_vb h_vk g_sB h_sB
   go_wp2_with fail
   refine (HEA.out _ F7.out.par).mono ?_
   rintro e w8 ⟨rfl,ho,hp⟩
   have F8:=hd_ (F7.out.call ho hp)
   have R8:=hd_ (R7.out.only ho n1)
   have V8:=hd_ (V7.out.only ho nv)
   have T8:=hd_ (T7.out.only ho hQ)
   clear ho hp
   obtain ⟨-,r1,-,-,-,-,-,-,-,-⟩:=V8.out.cells10
   obtain ⟨-,g1,-,-,-,-,-,-,-,-⟩:=V8.out.free10
   have k2:=V8.out.lt
   go_upto_region 18 with fail
   refine zaa (P:=Code.wp _ _ _ _) (F:=fun W=>Fr w b g cap ts sB W∧Bl W w.heap.size #[.string ⟨#[]⟩,.int .i64 0,.int .i64 0,.int .i64 0,.int .i64 0,.string ⟨#[]⟩,.bool false,.string ⟨#[]⟩,.slice none 0 0,.int .i64 0] 54∧Bl W (w1.heap.size+1) #[.string ⟨ntx.toArray⟩,.int .i64 12,.int .i64 0,.int .i64 0,.int .i64 0,.string ⟨#[]⟩,.bool re,.string ⟨ad.toArray⟩,.slice none 0 0,.int .i64 nta] 54)
    ⟨F8.out.far hV _ _,R8.out.other hRV _ _,by simpa using V8.out.set 1 _⟩ ?_
   clear r1 g1 k2
   intro w9 ⟨F9,R9,V9⟩
   have F9:=hd_ F9
   have R9:=hd_ R9
   have V9:=hd_ V9
   go_wp2_with fail
   refine (J1.out _ F9.out.par).mono ?_
   rintro e w10 ⟨rfl,ho,hp⟩
   have F10:=hd_ (F9.out.call ho hp)
   have R10:=hd_ (R9.out.only ho n1)
   have V10:=hd_ (V9.out.only ho nv)
   clear ho hp
   go_wp2_with fail
   refine (J2.out _ F10.out.par).mono ?_
   rintro e w11 ⟨rfl,ho,hp⟩
   have F11:=hd_ (F10.out.call ho hp)
   have R11:=hd_ (R10.out.only ho n1)
   have V11:=hd_ (V10.out.only ho nv)
   clear ho hp
   go_wp2_with fail
   refine (J3.out _ F11.out.par).mono ?_
   rintro e w12 ⟨rfl,ho,hp⟩
   have F12:=hd_ (F11.out.call ho hp)
   have R12:=hd_ (R11.out.only ho n1)
   have V12:=hd_ (V11.out.only ho nv)
   clear ho hp
   go_wp2_with fail
   refine (J4.out _ F12.out.par).mono ?_
   rintro e w13 ⟨rfl,ho,hp⟩
   have F13:=hd_ (F12.out.call ho hp)
   have R13:=hd_ (R12.out.only ho n1)
   have V13:=hd_ (V12.out.only ho nv)
   clear ho hp
   obtain ⟨-,-,r2,-,-,-,-,-,-,-⟩:=V13.out.cells10
   obtain ⟨-,-,g2,-,-,-,-,-,-,-⟩:=V13.out.free10
   have k2:=V13.out.lt
   go_upto_region 22 with fail
   refine zaa (P:=Code.wp _ _ _ _) (F:=fun W=>Fr w b g cap ts c4 W∧Bl W w.heap.size #[.string ⟨#[]⟩,.int .i64 0,.int .i64 0,.int .i64 0,.int .i64 0,.string ⟨#[]⟩,.bool false,.string ⟨#[]⟩,.slice none 0 0,.int .i64 0] 54∧Bl W (w1.heap.size+1) #[.string ⟨ntx.toArray⟩,.int .i64 12,.int .i64 va,.int .i64 0,.int .i64 0,.string ⟨#[]⟩,.bool re,.string ⟨ad.toArray⟩,.slice none 0 0,.int .i64 nta] 54)
    ⟨F13.out.far hV _ _,R13.out.other hRV _ _,by simpa using V13.out.set 2 _⟩ ?_
   clear r2 g2 k2
   intro w14 ⟨F14,R14,V14⟩
   have F14:=hd_ F14
   have R14:=hd_ R14
   have V14:=hd_ V14
   go_wp2_with fail
   refine (J5.out _ F14.out.par).mono ?_
   rintro e w15 ⟨rfl,ho,hp⟩
   have F15:=hd_ (F14.out.call ho hp)
   have R15:=hd_ (R14.out.only ho n1)
   have V15:=hd_ (V14.out.only ho nv)
   clear ho hp
   go_wp2_with fail
   refine (J6.out _ F15.out.par).mono ?_
   rintro e w16 ⟨rfl,ho,hp⟩
   have F16:=hd_ (F15.out.call ho hp)
   have R16:=hd_ (R15.out.only ho n1)
   have V16:=hd_ (V15.out.only ho nv)
   clear ho hp
   go_wp2_with fail
   refine (J7.out _ F16.out.par).mono ?_
   rintro e w17 ⟨rfl,ho,hp⟩
   have F17:=hd_ (F16.out.call ho hp)
   have R17:=hd_ (R16.out.only ho n1)
   have V17:=hd_ (V16.out.only ho nv)
   clear ho hp
   go_wp2_with fail
   refine (J8.out _ F17.out.par).mono ?_
   rintro e w18 ⟨rfl,ho,hp⟩
   have F18:=hd_ (F17.out.call ho hp)
   have R18:=hd_ (R17.out.only ho n1)
   have V18:=hd_ (V17.out.only ho nv)
   clear ho hp
   obtain ⟨-,-,-,r3,-,-,-,-,-,-⟩:=V18.out.cells10
   obtain ⟨-,-,-,g3,-,-,-,-,-,-⟩:=V18.out.free10
   have k2:=V18.out.lt
   go_upto_region 26 with fail
   refine zaa (P:=Code.wp _ _ _ _) (F:=fun W=>Fr w b g cap ts c8 W∧Bl W w.heap.size #[.string ⟨#[]⟩,.int .i64 0,.int .i64 0,.int .i64 0,.int .i64 0,.string ⟨#[]⟩,.bool false,.string ⟨#[]⟩,.slice none 0 0,.int .i64 0] 54∧Bl W (w1.heap.size+1) #[.string ⟨ntx.toArray⟩,.int .i64 12,.int .i64 va,.int .i64 vb,.int .i64 0,.string ⟨#[]⟩,.bool re,.string ⟨ad.toArray⟩,.slice none 0 0,.int .i64 nta] 54)
    ⟨F18.out.far hV _ _,R18.out.other hRV _ _,by simpa using V18.out.set 3 _⟩ ?_
   clear r3 g3 k2
   intro w19 ⟨F19,R19,V19⟩
   have F19:=hd_ F19
   have R19:=hd_ R19
   have V19:=hd_ V19
   go_wp2_with fail
   refine (J9.out _ F19.out.par).mono ?_
   rintro e w20 ⟨rfl,ho,hp⟩
   have F20:=hd_ (F19.out.call ho hp)
   have R20:=hd_ (R19.out.only ho n1)
   have V20:=hd_ (V19.out.only ho nv)
   clear ho hp
   go_wp2_with fail
   refine (J10.out _ F20.out.par).mono ?_
   rintro e w21 ⟨rfl,ho,hp⟩
   have F21:=hd_ (F20.out.call ho hp)
   have R21:=hd_ (R20.out.only ho n1)
   have V21:=hd_ (V20.out.only ho nv)
   clear ho hp
   go_wp2_with fail
   refine (J11.out _ F21.out.par).mono ?_
   rintro e w22 ⟨rfl,ho,hp⟩
   have F22:=hd_ (F21.out.call ho hp)
   have R22:=hd_ (R21.out.only ho n1)
   have V22:=hd_ (V21.out.only ho nv)
   clear ho hp
   go_wp2_with fail
   refine (J12.out _ F22.out.par).mono ?_
   rintro e w23 ⟨rfl,ho,hp⟩
   have F23:=hd_ (F22.out.call ho hp)
   have R23:=hd_ (R22.out.only ho n1)
   have V23:=hd_ (V22.out.only ho nv)
   clear ho hp
   go_wp2_with fail
   refine (J13.out _ F23.out.par).mono ?_
   rintro e w24 ⟨rfl,ho,hp⟩
   have F24:=hd_ (F23.out.call ho hp)
   have R24:=hd_ (R23.out.only ho n1)
   have V24:=hd_ (V23.out.only ho nv)
   clear ho hp
   go_wp2_with fail
   refine (J14.out _ F24.out.par).mono ?_
   rintro e w25 ⟨rfl,ho,hp⟩
   have F25:=hd_ (F24.out.call ho hp)
   have R25:=hd_ (R24.out.only ho n1)
   have V25:=hd_ (V24.out.only ho nv)
   clear ho hp
   obtain ⟨-,-,-,-,r4,-,-,-,-,-⟩:=V25.out.cells10
   obtain ⟨-,-,-,-,g4,-,-,-,-,-⟩:=V25.out.free10
   have k2:=V25.out.lt
   go_wp2_with fail
   go_meet
   exact ⟨F25.out.far hV _ _,R25.out.other hRV _ _,by simpa using V25.out.set 4 _⟩
  | false=>
   rw [if_neg (by simp)] at hY h_sB
   subst h_sB
   simp only at hY
   by_cases h2:tk=2
   ·rw [if_pos h2] at hY
    obtain ⟨y1,y2⟩:=hY
    have HN:=hd_ (fun W (hW:Par W b g cap ts s5)=>zcr HTT.out y2 HGG.1 (by have:=HGG.2;omega) W hW)
    simp only at y1
    subst y1
    have e2:(tk==2)=true:=by simp [h2]
    have hf3:=zdg
    simp only [tokV] at HN
    clear HY HGG HG5 HTT hle hen hk h_mA e_sB g_sB y2 h2
    go_wp2_with fail
    refine (HEA.out _ F7.out.par).mono ?_
    rintro e w8 ⟨rfl,ho,hp⟩
    have F8:=hd_ (F7.out.call ho hp)
    have R8:=hd_ (R7.out.only ho n1)
    have V8:=hd_ (V7.out.only ho nv)
    have T8:=hd_ (T7.out.only ho hQ)
    clear ho hp
    obtain ⟨q0,-,-,-,-⟩:=T8.out.cells5
    have k3:=T8.out.lt
    go_wp2_with fail
    refine (HN.out _ F8.out.par).mono ?_
    rintro e w9 ⟨rfl,ho,hp⟩
    have F9:=hd_ (F8.out.call ho hp)
    have R9:=hd_ (R8.out.only ho n1)
    have V9:=hd_ (V8.out.only ho nv)
    clear ho hp
    clear q0 k3
    obtain ⟨-,-,-,-,-,r5,-,-,-,-⟩:=V9.out.cells10
    obtain ⟨-,-,-,-,-,g5,-,-,-,-⟩:=V9.out.free10
    have k2:=V9.out.lt
    go_wp2_with fail
    go_meet
    exact ⟨F9.out.far hV _ _,R9.out.other hRV _ _,by simpa using V9.out.set 5 _⟩
   ·rw [if_neg h2] at hY
    obtain ⟨vk,h_vk⟩:∃ vk,(Pa.kind ts s5).1=vk:=⟨_,rfl⟩
    rw [h_vk] at hY
    obtain ⟨y1,y2⟩:=hY
    have HN:=hd_ (fun W (hW:Par W b g cap ts s5)=>zfz (n:=vk) (s':=s6) (by rw [← h_vk,← y2]) (HGG.mono (by omega)) W hW)
    subst y1
    have e2:(tk==2)=false:=by simp [h2]
    clear HY HGG HG5 HTT hle hen hk h_mA e_sB g_sB y2 h2 h_vk
    go_wp2_with fail
    refine (HEA.out _ F7.out.par).mono ?_
    rintro e w8 ⟨rfl,ho,hp⟩
    have F8:=hd_ (F7.out.call ho hp)
    have R8:=hd_ (R7.out.only ho n1)
    have V8:=hd_ (V7.out.only ho nv)
    have T8:=hd_ (T7.out.only ho hQ)
    clear ho hp
    obtain ⟨q0,-,-,-,-⟩:=T8.out.cells5
    have k3:=T8.out.lt
    go_wp2_with fail
    refine (HN.out _ F8.out.par).mono ?_
    rintro e w9 ⟨rfl,ho,hp⟩
    have F9:=hd_ (F8.out.call ho hp)
    have R9:=hd_ (R8.out.only ho n1)
    have V9:=hd_ (V8.out.only ho nv)
    clear ho hp
    clear q0 k3
    obtain ⟨-,r1,-,-,-,-,-,-,-,-⟩:=V9.out.cells10
    obtain ⟨-,g1,-,-,-,-,-,-,-,-⟩:=V9.out.free10
    have k2:=V9.out.lt
    go_wp2_with fail
    go_meet
    exact ⟨F9.out.far hV _ _,R9.out.other hRV _ _,by simpa using V9.out.set 1 _⟩
 case rest=>
 clear HEA HY HG5 HGG HTT h_mA h_sB e_sB g_sB sB F7 R7 V7 T7 hle hen hk
 obtain ⟨F7,R7,V7⟩:=hcut
 have F7:=hd_ F7
 have R7:=hd_ R7
 have V7:=hd_ V7
 obtain ⟨yk,yl,yh,ye,yn⟩:=ty
 simp only at V7
 go_wp2_with fail
 refine (HI.out _ F7.out.par).mono ?_
 rintro e w8 ⟨v,rfl,hd,ho,hp⟩
 have F8:=hd_ (F7.out.call ho hp)
 have R8:=hd_ (R7.out.only ho n1)
 have V8:=hd_ (V7.out.only ho nv)
 obtain ⟨va,vl,vq,rfl⟩:=hd.slice
 have D:=hd_ hd
 have kRl:=R7.out.lt
 have kVl:=V7.out.lt
 have kL:=hd_ F7.out.size
 clear ho hp hd
 obtain ⟨-,-,-,-,-,-,-,-,r8,-⟩:=V8.out.cells10
 obtain ⟨-,-,-,-,-,-,-,-,g8,-⟩:=V8.out.free10
 have k2:=V8.out.lt
 go_upto_region 35 with fail
 refine zaa (P:=Code.wp _ _ _ _) (F:=fun W=>Fr w b g cap ts s7 W∧Bl W w.heap.size #[.string ⟨#[]⟩,.int .i64 0,.int .i64 0,.int .i64 0,.int .i64 0,.string ⟨#[]⟩,.bool false,.string ⟨#[]⟩,.slice none 0 0,.int .i64 0] 54∧Bl W (w1.heap.size+1) #[.string ⟨ntx.toArray⟩,.int .i64 yk,.int .i64 yl,.int .i64 yh,.int .i64 ye,.string ⟨yn.toArray⟩,.bool re,.string ⟨ad.toArray⟩,.slice va vl vq,.int .i64 nta] 54∧Off wc.heap.size w8 W)
  ⟨F8.out.far hV _ _,R8.out.other hRV _ _,by simpa using V8.out.set 8 _,(Off.refl _ _).set kVl _ _⟩ ?_
 clear r8 g8 k2
 intro w9 ⟨F9,R9,V9,O9⟩
 have F9:=hd_ F9
 have R9:=hd_ R9
 have V9:=hd_ V9
 have O9:=hd_ O9
 obtain ⟨q0,q1,q2,q3,q4,q5,q6,q7,q8,q9⟩:=V9.out.cells10
 obtain ⟨r0,r1,r2,r3,r4,r5,r6,r7,r8,r9⟩:=R9.out.cells10
 obtain ⟨g0,g1,g2,g3,g4,g5,g6,g7,g8,g9⟩:=R9.out.free10
 have k2:=V9.out.lt
 have k3:=R9.out.lt
 go_wp2_with fail
 refine zaa (P:=bodyPost _ _ _ _ _) (F:=fun W=>Fr w b g cap ts s7 W∧Bl W w.heap.size #[.string ⟨ntx.toArray⟩,.int .i64 yk,.int .i64 yl,.int .i64 yh,.int .i64 ye,.string ⟨yn.toArray⟩,.bool re,.string ⟨ad.toArray⟩,.slice va vl vq,.int .i64 nta] 54∧Off wc.heap.size w8 W)
  ⟨((((((((((F9.out.far nl_ _ _).far nl_ _ _).far nl_ _ _).far nl_ _ _).far nl_ _ _).far nl_ _ _).far nl_ _ _).far nl_ _ _).far nl_ _ _).far nl_ _ _),R9.out.set10,((((((((((O9.out.set kRl _ _).set kRl _ _).set kRl _ _).set kRl _ _).set kRl _ _).set kRl _ _).set kRl _ _).set kRl _ _).set kRl _ _).set kRl _ _)⟩ ?_
 clear q0 q1 q2 q3 q4 q5 q6 q7 q8 q9 r0 r1 r2 r3 r4 r5 r6 r7 r8 r9 g0 g1 g2 g3 g4 g5 g6 g7 g8 g9 k2 k3
 intro wz ⟨FZ,RZ,OZ⟩
 obtain ⟨r0,r1,r2,r3,r4,r5,r6,r7,r8,r9⟩:=RZ.cells10
 refine bodyPost_ret (v:=.agg #[.string ⟨ntx.toArray⟩,.int .i64 yk,.int .i64 yl,.int .i64 yh,.int .i64 ye,.string ⟨yn.toArray⟩,.bool re,.string ⟨ad.toArray⟩,.slice va vl vq,.int .i64 nta]) (by simp [results,Tryz.results85,go_sem, *]) rfl ?_
 refine ⟨_,rfl,?_,FZ.only,FZ.par⟩
 rw [← HP.out]
 exact ⟨_,rfl,D.out.keeps (OZ.keeps kL.out)⟩
end Go.Proofs.YtdpkjpjkdmkkpaaGreatDoor
namespace Go.Proofs.YtdpkjpjkdmkkpaaGreatDoor.Pa
open Lx (Tok tok0)
theorem zbq (s:PS) (a e:Int):(fail s a e).i=s.i:=by unfold fail;split <;> rfl
theorem za8 (ts:List Tok) (s:PS) (x:List UInt8):s.i≤(must ts s x).i:=by
 unfold must;split
 ·exact Nat.le_succ _
 ·rw [zbq];exact Nat.le_refl _
theorem zfu (ts:List Tok) (s:PS):s.i+1≤(name ts s).i:=by
 unfold name;split
 ·exact Nat.le_refl _
 ·show s.i+1≤(fail s (T ts s).at_ 130).i+1;rw [zbq];exact Nat.le_refl _
theorem zft (ts:List Tok) (s:PS):s.i≤(lines ts s).i:=by
 unfold lines;split
 ·exact Nat.le_add_right _ _
 ·exact Nat.le_refl _
theorem zax (ts:List Tok) (il:Bool) (s:PS):s.i≤(step ts il s).i:=by
 unfold step;split
 ·exact zft ts s
 ·exact Nat.le_refl _
theorem zc6 (ts:List Tok) (s:PS):s.i≤(literal ts s).2.i:=by
 unfold literal;split
 ·exact Nat.le_succ _
 ·show s.i≤(fail s (T ts s).at_ 130).i;rw [zbq];exact Nat.le_refl _
theorem zmb (_ts:List Tok) (s:PS) (c:Prop) [Decidable c] (a e:Int):s.i≤(if c then s else fail s a e).i:=by
 split
 ·exact Nat.le_refl _
 ·rw [zbq];exact Nat.le_refl _
theorem zng (ts:List Tok) (s:PS):s.i≤(lit ts s).2.i:=by
 unfold lit;split
 ·exact lt_ (lt_ (Nat.le_succ _) (zmb ts (up s) _ _ _)) (zc6 ts _)
 ·exact zc6 ts s
theorem zk1 (ts:List Tok) (s:PS):s.i≤(bound ts s).2.i:=by
 unfold bound
 cases is ts s [45] with
 | true=>
  simp only [if_true]
  split
  ·show s.i≤s.i+1+1;omega
  ·show s.i≤(fail _ _ _).i;rw [zbq];exact Nat.le_succ _
 | false=>
  simp only [Bool.false_eq_true,if_false]
  split
  ·exact Nat.le_succ _
  ·show s.i≤(fail _ _ _).i;rw [zbq];exact Nat.le_refl _
theorem zie (ts:List Tok) (il:Bool) (s:PS):s.i≤(lined ts il s).2.i:=by
 unfold lined
 split
 ·have h:s.i≤(lines ts (up s)).i:=lt_ (Nat.le_succ _) (zft ts (up s))
  simp only
  split
  ·exact lt_ h (Nat.le_succ _)
  ·show s.i≤(fail _ _ _).i;rw [zbq];exact h
 ·exact zk1 ts s
theorem zhn (ts:List Tok) (s:PS):s.i≤(kind ts s).2.i:=by
 unfold kind
 dsimp only
 generalize (if (T ts s).tok=1 then kindOf (T ts s).text else 0)=k
 by_cases hk:k=0
 ·rw [if_pos hk];show s.i≤(fail _ _ _).i+1;rw [zbq];exact Nat.le_succ _
 ·rw [if_neg hk];exact Nat.le_succ _
theorem zjG (ts:List Tok) (il:Bool) (s:PS):s.i≤(init ts il s).2.i:=by
 unfold init
 have h0:=zax ts il s
 simp only
 split
 ·have h1:=zax ts il (up (step ts il s))
  have h2:s.i≤(step ts il (up (step ts il s))).i:=lt_ h0 (lt_ (Nat.le_succ _) h1)
  split
  ·refine lt_ ?_ (za8 ts _ _)
   refine lt_ ?_ (zax ts il _)
   refine lt_ ?_ (zc6 ts _)
   refine lt_ ?_ (zmb ts _ _ _ _)
   exact lt_ h2 (lt_ (Nat.le_succ _) (zft ts (up (step ts il (up (step ts il s))))))
  ·exact lt_ (lt_ (lt_ h2 (zng ts _)) (zax ts il _)) (za8 ts _ _)
 ·exact lt_ (lt_ h0 (zax ts il _)) (za8 ts _ _)
theorem zk2 (ts:List Tok) (il:Bool) (s:PS):s.i≤(vaddr ts il s).2.i:=by
 unfold vaddr
 split
 ·refine lt_ ?_ (zax ts il _)
  refine lt_ ?_ (Nat.le_succ _)
  exact lt_ (lt_ (Nat.le_succ _) (zax ts il (up s))) (zmb ts _ _ _ _)
 ·exact Nat.le_refl _
theorem zk3 (ts:List Tok) (il:Bool) (s:PS):s.i≤(vtype ts il s).2.i:=by
 unfold vtype
 split
 ·simp only
  refine lt_ ?_ (zhn ts _)
  refine lt_ ?_ (zax ts il _)
  refine lt_ ?_ (za8 ts _ _)
  refine lt_ ?_ (zax ts il _)
  refine lt_ ?_ (za8 ts _ _)
  refine lt_ ?_ (zax ts il _)
  refine lt_ ?_ (zie ts il _)
  refine lt_ ?_ (zax ts il _)
  refine lt_ ?_ (za8 ts _ _)
  refine lt_ ?_ (zax ts il _)
  refine lt_ ?_ (zie ts il _)
  refine lt_ ?_ (zax ts il _)
  refine lt_ ?_ (za8 ts _ _)
  exact lt_ (Nat.le_succ _) (zax ts il (up s))
 ·split
  ·exact lt_ (Nat.le_succ _) (zfu ts s)
  ·exact zhn ts s
theorem zid (ts:List Tok) (il:Bool) (s:PS):s.i+1≤(field ts il s).2.i:=by
 unfold field
 exact lt_ (lt_ (lt_ (lt_ (lt_ (zfu ts s) (zax ts il _)) (za8 ts _ _)) (zax ts il _)) (zhn ts _)) (zjG ts il _)
theorem zd4 (ts:List Tok) (il re:Bool) (s:PS):s.i+1≤(variable_ ts il re s).2.i:=by
 unfold variable_
 exact lt_ (lt_ (lt_ (lt_ (lt_ (lt_ (zfu ts s) (zax ts il _)) (zk2 ts il _)) (za8 ts _ _)) (zax ts il _)) (zk3 ts il _)) (zjG ts il _)
theorem zfs {α:Type} (ts:List Tok) (il:Bool) (stop:List UInt8) (one:PS→α × PS) (h:∀ s,s.i≤(one s).2.i) (f:Nat) (s:PS):s.i≤(items ts il stop one f s).2.i:=by
 induction f generalizing s with
 | zero=>exact zax ts il s
 | succ f ih=>
  simp only [items]
  split
  ·exact lt_ (lt_ (zax ts il s) (h _)) (ih _)
  ·exact zax ts il s
theorem zdl (ts:List Tok) (il:Bool) (s:PS):s.i+1≤(structure_ ts il s).2.i:=by
 unfold structure_
 simp only
 refine lt_ ?_ (za8 ts _ _)
 refine lt_ ?_ (zax ts il _)
 refine lt_ ?_ (za8 ts _ _)
 refine lt_ ?_ (zfs ts il _ _ (fun s=>lt_ (Nat.le_succ _) (zid ts il s)) _ _)
 refine lt_ ?_ (za8 ts _ _)
 refine lt_ ?_ (zax ts il _)
 refine lt_ ?_ (za8 ts _ _)
 exact lt_ (zfu ts s) (zax ts il _)
theorem zdQ (ts:List Tok) (il:Bool) (s:PS):(step ts il s).err=s.err:=by
 unfold step lines;split
 ·split <;> rfl
 ·rfl
theorem zc4 {α:Type} {ts:List Tok} {il:Bool} {stop:List UInt8} {one:PS→α × PS} {f:Nat} {s:PS} (h0:(step ts il s).err=0) (hs:is ts (step ts il s) stop=false) :
  items ts il stop one (f+1) s=((one (step ts il s)).1::(items ts il stop one f (one (step ts il s)).2).1,(items ts il stop one f (one (step ts il s)).2).2):=by
 simp only [items]
 rw [if_pos ⟨h0,hs⟩]
theorem zbU {α:Type} {ts:List Tok} {il:Bool} {stop:List UInt8} {one:PS→α × PS} {f:Nat} {s:PS} (h:(step ts il s).err≠0∨is ts (step ts il s) stop=true) :
  items ts il stop one f s=([],step ts il s):=by
 cases f with
 | zero=>rfl
 | succ f=>
  simp only [items]
  rw [if_neg]
  rintro ⟨h1,h2⟩
  rcases h with h | h
  ·exact h h1
  ·rw [h] at h2;cases h2
theorem ze8 {ts:List Tok} {il:Bool} {f:Nat} {s:PS} (h:is ts s zkf=true) :
  types ts il (f+1) s=((items ts il sEND_TYPE (structure_ ts il) (ts.length+1) (up s)).1++(types ts il f (step ts il (must ts (items ts il sEND_TYPE (structure_ ts il) (ts.length+1) (up s)).2 sEND_TYPE))).1,
   (types ts il f (step ts il (must ts (items ts il sEND_TYPE (structure_ ts il) (ts.length+1) (up s)).2 sEND_TYPE))).2):=by
 simp only [types]
 rw [if_pos h]
theorem zg0 {ts:List Tok} {il:Bool} {f:Nat} {s:PS} (h:is ts s zkf=false):types ts il f s=([],s):=by
 cases f with
 | zero=>rfl
 | succ f=>simp only [types];rw [if_neg (by simp [h])]
theorem zir {ts:List Tok} {il:Bool} {f:Nat} {s:PS} (h:is ts (step ts il s) sVAR=false):vars ts il f s=([],s):=by
 cases f with
 | zero=>rfl
 | succ f=>
  have h2:is ts (if il=true then lines ts s else s) sVAR=false:=h
  simp only [vars]
  rw [if_neg (by simp [h2])]
theorem zhU {ts:List Tok} {il:Bool} {f:Nat} {s:PS} (h:is ts (step ts il s) [86,65,82]=false):vars ts il f s=([],s):=zir h
theorem zcp {ts:List Tok} {il re:Bool} {f:Nat} {s s2 s3:PS} (h:is ts (step ts il s) sVAR=true) (h2:step ts il (must ts (step ts il s) sVAR)=s2) (hre:is ts s2 zfS=re) (h3:(if re=true then up s2 else s2)=s3) :
  vars ts il (f+1) s=((items ts il sEND_VAR (variable_ ts il re) (ts.length+1) s3).1++(vars ts il f (must ts (items ts il sEND_VAR (variable_ ts il re) (ts.length+1) s3).2 sEND_VAR)).1,
   (vars ts il f (must ts (items ts il sEND_VAR (variable_ ts il re) (ts.length+1) s3).2 sEND_VAR)).2):=by
 have h1:is ts (if il=true then lines ts s else s) sVAR=true:=h
 have h4:step ts il (must ts (if il=true then lines ts s else s) sVAR)=s2:=h2
 simp only [vars]
 rw [if_pos h1,h4,hre,h3]
theorem zh6 {ts:List Tok} {s:PS} {x:List UInt8} (h:is ts s x=true):s.err=0:=by
 unfold is at h
 simp only [Bool.and_eq_true,decide_eq_true_eq] at h
 exact h.1.1
theorem zdh {ts:List Tok} {il:Bool} (he:zaE ts) (f:Nat) (k:Nat) (s:PS) (h:Good ts k s) (hk:3≤k):Good ts k (types ts il f s).2:=by
 induction f generalizing s with
 | zero=>exact h
 | succ f ih=>
  cases hq:is ts s zkf with
  | false=>rw [zg0 hq];exact h
  | true=>
   rw [ze8 hq]
   have h1:=(h.zero (zh6 hq)).up he (za2 hq)
   have h2:=zbz (il:=il) (stop:=sEND_TYPE) (c:=2) he (fun k s hs=>hs.structure_ he il) (ts.length+1) 3 _ (h1.mono (by omega)) (by omega)
   exact ih _ (((h2.must he sEND_TYPE).step he il).mono hk)
theorem zg6 {ts:List Tok} {il:Bool} (he:zaE ts) (f:Nat) (k:Nat) (s:PS) (h:Good ts k s) (hk:5≤k):Good ts k (vars ts il f s).2:=by
 induction f generalizing s with
 | zero=>exact h
 | succ f ih=>
  cases hq:is ts (step ts il s) sVAR with
  | false=>rw [zir hq];exact h
  | true=>
   obtain ⟨s2,h2⟩:∃ s2,step ts il (must ts (step ts il s) sVAR)=s2:=⟨_,rfl⟩
   obtain ⟨re,hre⟩:∃ re,is ts s2 zfS=re:=⟨_,rfl⟩
   obtain ⟨s3,h3⟩:∃ s3,(if re=true then up s2 else s2)=s3:=⟨_,rfl⟩
   rw [zcp hq h2 hre h3]
   have g1:=(h.step he il).zero (zh6 hq)
   have g2:Good ts 0 s2:=h2▸(g1.must he sVAR).step he il
   have g3:Good ts 0 s3:=by
    rw [← h3]
    cases re with
    | true=>rw [if_pos rfl];exact g2.up he (za2 hre)
    | false=>rw [if_neg (by simp)];exact g2
   have h4:=zbz (il:=il) (stop:=sEND_VAR) (c:=4) he (fun k s hs=>hs.variable_ he il re) (ts.length+1) 5 _ (g3.mono (by omega)) (by omega)
   exact ih _ ((h4.must he sEND_VAR).mono hk)
end Go.Proofs.YtdpkjpjkdmkkpaaGreatDoor.Pa
namespace Go.Proofs.YtdpkjpjkdmkkpaaGreatDoor
open Go.RowKit Lx Pa
def zdu {α:Type} (E:World→(Nat→Prop)→α→List Value→Prop) (w:World) (P:Nat→Prop):List α→List Value→Prop
 | [],cs=>cs=[]
 | e::r,cs=>∃ row cr,cs=row++cr∧E w P e row∧zdu E w P r cr
def zfa {α:Type} (E:World→(Nat→Prop)→α→List Value→Prop):Prop:=
 ∀ (w w':World) (P P':Nat→Prop) (e:α) (row:List Value),E w P e row→zbR P P' w w'→E w' P' e row
theorem zaz:zfa za0:=fun _ _ _ _ _ _ h k=>h.keeps k
theorem zbP:zfa zbT:=fun _ _ _ _ _ _ h k=>h.keeps k
section
variable {α:Type} {E:World→(Nat→Prop)→α→List Value→Prop} {w w':World} {P P':Nat→Prop}
theorem zdu.keeps (hE:zfa E) {l:List α} {cs:List Value} (h:zdu E w P l cs) (hk:zbR P P' w w'):zdu E w' P' l cs:=by
 induction l generalizing cs with
 | nil=>exact h
 | cons e r ih=>
  obtain ⟨row,cr,h1,h2,h3⟩:=h
  exact ⟨row,cr,h1,hE _ _ _ _ _ _ h2 hk,ih h3⟩
theorem zdu.snoc {l:List α} {cs row:List Value} {p:α} (h:zdu E w P l cs) (hp:E w P p row):zdu E w P (l++[p]) (cs++row):=by
 induction l generalizing cs with
 | nil=>rw [zdu] at h;subst h;exact ⟨row,[],by simp,hp,rfl⟩
 | cons e r ih=>
  obtain ⟨r1,cr,h1,h2,h3⟩:=h
  exact ⟨r1,cr++row,by rw [h1,List.append_assoc],h2,ih h3⟩
end
theorem zil {w:World} {P:Nat→Prop} {l:List PVar} {cs:List Value} (h:zdu za0 w P l cs):zce w P l cs:=by
 induction l generalizing cs with
 | nil=>exact h
 | cons e r ih=>
  obtain ⟨row,cr,h1,h2,h3⟩:=h
  exact ⟨row,cr,h1,h2,ih h3⟩
theorem zlH {w:World} {P:Nat→Prop} {l:List zad} {cs:List Value} (h:zdu zbT w P l cs):zcB w P l cs:=by
 induction l generalizing cs with
 | nil=>exact h
 | cons e r ih=>
  obtain ⟨row,cr,h1,h2,h3⟩:=h
  exact ⟨row,cr,h1,h2,ih h3⟩
def Dat (lo:Nat) (fv:Value) (w:World) (a:Nat):Prop:=lo≤a∧a < w.heap.size∧some a≠fv.ownBlock
structure GR {α:Type} (E:World→(Nat→Prop)→α→List Value→Prop) (T:TypeId) (sz lo:Nat) (w:World) (fv:Value) (l:List α) (cs:List Value):Prop where
 own:w.ownsRow lo T sz fv l.length cs
 rows:zdu E w (Dat lo fv w) l cs
 le:lo≤w.heap.size
 nil:l=[]→fv=.slice none 0 0
section
variable {α:Type} {E:World→(Nat→Prop)→α→List Value→Prop} {T:TypeId} {sz lo:Nat} {w w':World} {fv:Value} {l:List α} {cs:List Value}
theorem GR.start (w:World) (h:lo≤w.heap.size):GR E T sz lo w (.slice none 0 0) ([]:List α) []:=⟨⟨by simp,.inl ⟨rfl,rfl⟩⟩,rfl,h,fun _=>rfl⟩
theorem GR.only (hE:zfa E) {b:Nat} (h:GR E T sz lo w fv l cs) (hb:b < lo) (ho:Only b w w'):GR E T sz lo w' fv l cs:=by
 refine ⟨h.own.kept ho.grown ?_,h.rows.keeps hE ⟨?_,?_⟩,lt_ h.le ho.size,h.nil⟩
 ·cases hv:fv.ownBlock with
  | none=>exact .inl rfl
  | some k=>have:=(h.own.lt k hv).1;exact .inr (by simp;omega)
 ·exact ho.sameOn (fun h1=>by have:=h1.1;omega)
 ·exact fun a h1=>⟨h1.1,ll_ h1.2.1 ho.size,h1.2.2⟩
theorem GR.below (hE:zfa E) (h:GR E T sz lo w fv l cs) (hl:0 < lo) (hb:Below w.heap.size w w'):GR E T sz lo w' fv l cs:=h.only hE (b:=0) hl (Only.ofBelow hb)
theorem GR.alloc (hE:zfa E) (h:GR E T sz lo w fv l cs) (hl:0 < lo) (o:Obj):GR E T sz lo (w.alloc o) fv l cs:=h.only hE (b:=0) hl (zby 0 w o)
theorem GR.set (hE:zfa E) {X:Nat} (h:GR E T sz lo w fv l cs) (hX:X < lo) (o:Nat) (v:Value):GR E T sz lo (w.setCell ⟨X,o,none⟩ v) fv l cs:=h.only hE hX ((Only.refl X w).setCell o v)
theorem GR.lt (h:GR E T sz lo w fv l cs):∀ k,fv.ownBlock=some k→k < w.heap.size:=fun k hk=>(h.own.lt k hk).2
theorem GR.app (hE:zfa E) {w1 w3:World} {p:α} {row:List Value} {g cap mid:Nat} (h:GR E T sz lo w fv l cs) (hp:E w (Btw mid w.heap.size) p row) (hm:lo≤mid) (hfm:∀ k,fv.ownBlock=some k→k < mid)
  (hb:Below w.heap.size w w1) (hg:w1.grownBy w3 fv.ownBlock) (hown:w3.ownsRow lo T sz (.slice (some ⟨g,0,none⟩) (l.length+1) cap) (l.length+1) (cs++row)) (hat:fv.ownBlock=some g∨w1.heap.size≤g) :
  GR E T sz lo w3 (.slice (some ⟨g,0,none⟩) (l.length+1) cap) (l++[p]) (cs++row):=by
 have hne:∀ a,a < w.heap.size→some a≠fv.ownBlock→some a≠some g:=by
  intro a ha h1 h2
  rcases hat with h3 | h3
  ·exact h1 (by rw [h2,h3])
  ·injection h2 with h2;have:=hb.size;omega
 have hblk:∀ a,a < w.heap.size→some a≠fv.ownBlock→w3.heap[a]? = w.heap[a]?:=fun a ha h1=>
  (hg.block a (ll_ ha hb.size) h1).trans (hb.block a ha)
 have hsz:w.heap.size≤w3.heap.size:=lt_ hb.size hg.size
 have k1:zbR (Dat lo fv w) (Dat lo (.slice (some ⟨g,0,none⟩) (l.length+1) cap) w3) w w3:=
  ⟨fun a ha hlt=>hblk a hlt ha.2.2,fun a ha=>⟨ha.1,ll_ ha.2.1 hsz,hne a ha.2.1 ha.2.2⟩⟩
 have hfa:∀ a,mid≤a→some a≠fv.ownBlock:=fun a ha h1=>by have:=hfm a h1.symm;omega
 have k2:zbR (Btw mid w.heap.size) (Dat lo (.slice (some ⟨g,0,none⟩) (l.length+1) cap) w3) w w3:=
  ⟨fun a ha hlt=>hblk a hlt (hfa a ha.1),fun a ha=>⟨by have:=ha.1;omega,ll_ ha.2 hsz,hne a ha.2 (hfa a ha.1)⟩⟩
 exact ⟨by simpa using hown,(h.rows.keeps hE k1).snoc (hE _ _ _ _ _ _ hp k2),lt_ h.le hsz,fun h9=>by simp at h9⟩
theorem GR.slice (hE:zfa E) {n0:Nat} (h:GR E T sz lo w fv l cs) (hn:n0≤lo):SlAt w (Btw n0 w.heap.size) l.length cs fv∧zdu E w (Btw n0 w.heap.size) l cs:=by
 refine ⟨?_,h.rows.keeps hE ⟨fun _ _ _=>rfl,fun a ha=>⟨by have:=ha.1;omega,ha.2.1⟩⟩⟩
 rcases h.own.2 with ⟨h1,h2⟩ | ⟨g,cap,cur,h1,h2,h3,_⟩
 ·refine .inl ⟨h2,?_,h1⟩
  have:=h.own.1
  rw [h2] at this
  simpa using this
 ·have hpos:0 < l.length:=by
   cases l with
   | nil=>have h9:=h.nil rfl;rw [h9] at h1;cases h1
   | cons _ _=>simp
  refine .inr ⟨g,cap,h1,?_,⟨?_,⟨cur,T,h3⟩⟩,hpos⟩
  ·have:=(h.own.lt g (by rw [h1];rfl))
   exact ⟨by omega,this.2⟩
  ·intro j u hj
   have h4:=h.own.cells (g:=g) (by rw [h1];rfl) j u hj
   have hadd:(⟨g,0,none⟩:Addr).add j=⟨g,j,none⟩:=by unfold Addr.add;split <;> simp_all
   rw [hadd] at h4
   exact h4
theorem GR.form (h:GR E T sz lo w fv l cs):∃ a n c,fv=.slice a n c∧n=l.length:=by
 rcases h.own.2 with ⟨h1,h2⟩ | ⟨g,cap,cur,h1,_⟩
 ·exact ⟨_,_,_,h1,h2.symm⟩
 ·exact ⟨_,_,_,h1,rfl⟩
end
section
variable {w0 W W':World} {b g cap:Nat} {ts:List Tok} {s:PS} {row:Option Nat}
theorem Fr.grown (h:Fr w0 b g cap ts s W) (hg:W.grownBy W' row) (hr:∀ k,row=some k→w0.heap.size≤k):Fr w0 b g cap ts s W':=by
 have hk:∀ k,k < w0.heap.size→W'.heap[k]? = W.heap[k]?:=fun k hk=>hg.block k (ll_ hk h.only.size) (fun e=>by have:=hr k e.symm;omega)
 have ho:Only b w0 W':=⟨hg.os.trans h.only.os,hg.tape.trans h.only.tape,hg.output.trans h.only.output,lt_ h.only.size hg.size,fun k h1 h2=>(hk k h1).trans (h.only.block k h1 h2)⟩
 have hb:PB W' b g ts.length cap s:=by
  unfold PB
  rw [hk b h.lt.1]
  exact h.par.pb
 refine ⟨ho,⟨hb,?_,h.par.ne,h.par.ends,h.par.le⟩,h.lt⟩
 intro j u hj
 have h1:=h.par.tc j u hj
 simp only [World.cell?] at h1 ⊢
 rw [hk g h.lt.2]
 exact h1
theorem Bl.grown {X:Nat} {vs:Array Value} {T:TypeId} (h:Bl W X vs T) (hg:W.grownBy W' row) (hr:some X≠row):Bl W' X vs T:=(hg.block X h.lt hr).trans h
end
theorem zks:(Tryz.prog.info? 54).map (fun i=>(i.zero,i.size,i.bytes))=some (some (.agg #[.string ⟨#[]⟩,.int .i64 0,.int .i64 0,.int .i64 0,.int .i64 0,.string ⟨#[]⟩,.bool false,.string ⟨#[]⟩,.slice none 0 0,.int .i64 0]),10,120):=by kernel_rfl
theorem zi5:(Tryz.prog.info? 64).map (fun i=>(i.zero,i.size,i.bytes))=some (some (.agg #[.string ⟨#[]⟩,.slice none 0 0,.int .i64 0]),3,48):=by kernel_rfl
section
variable {W:World} {X:Nat} {T:TypeId} {a0 a1 a2 a3 a4 a5 v0 v1 v2 v3 v4 v5:Value}
theorem Bl.set6 (h:Bl W X #[a0,a1,a2,a3,a4,a5] T):Bl ((((((W.setCell ⟨X,0,none⟩ v0).setCell ⟨X,1,none⟩ v1).setCell ⟨X,2,none⟩ v2).setCell ⟨X,3,none⟩ v3).setCell ⟨X,4,none⟩ v4).setCell ⟨X,5,none⟩ v5) X #[v0,v1,v2,v3,v4,v5] T:=by
 simpa using (((((h.set 0 v0).set 1 v1).set 2 v2).set 3 v3).set 4 v4).set 5 v5
theorem Bl.cells6 (h:Bl W X #[v0,v1,v2,v3,v4,v5] T):W.cell? ⟨X,0,none⟩=some v0∧W.cell? ⟨X,1,none⟩=some v1∧W.cell? ⟨X,2,none⟩=some v2∧W.cell? ⟨X,3,none⟩=some v3∧W.cell? ⟨X,4,none⟩=some v4∧W.cell? ⟨X,5,none⟩=some v5:=
 ⟨(h.cell rfl).1,(h.cell rfl).1,(h.cell rfl).1,(h.cell rfl).1,(h.cell rfl).1,(h.cell rfl).1⟩
theorem Bl.free6 (h:Bl W X #[v0,v1,v2,v3,v4,v5] T):W.frozen? ⟨X,0,none⟩=false∧W.frozen? ⟨X,1,none⟩=false∧W.frozen? ⟨X,2,none⟩=false∧W.frozen? ⟨X,3,none⟩=false∧W.frozen? ⟨X,4,none⟩=false∧W.frozen? ⟨X,5,none⟩=false:=
 ⟨(h.cell rfl).2,(h.cell rfl).2,(h.cell rfl).2,(h.cell rfl).2,(h.cell rfl).2,(h.cell rfl).2⟩
end
structure Mid (lo hi:Nat) (w W:World):Prop where
 blk:∀ a,lo≤a→a < hi→W.heap[a]? = w.heap[a]?
 le:hi≤W.heap.size
section
variable {lo hi b X:Nat} {w W W':World}
theorem Mid.refl (h:hi≤w.heap.size):Mid lo hi w w:=⟨fun _ _ _=>rfl,h⟩
theorem Mid.only (h:Mid lo hi w W) (hb:b < lo) (ho:Only b W W'):Mid lo hi w W':=
 ⟨fun a h1 h2=>(ho.block a (ll_ h2 h.le) (by omega)).trans (h.blk a h1 h2),lt_ h.le ho.size⟩
theorem Mid.below (h:Mid lo hi w W) (hb:Below W.heap.size W W'):Mid lo hi w W':=
 ⟨fun a h1 h2=>(hb.block a (ll_ h2 h.le)).trans (h.blk a h1 h2),lt_ h.le hb.size⟩
theorem Mid.alloc (h:Mid lo hi w W) (o:Obj):Mid lo hi w (W.alloc o):=h.below (br_.alloc nl_ o)
theorem Mid.set (h:Mid lo hi w W) (hX:X < lo) (o:Nat) (v:Value):Mid lo hi w (W.setCell ⟨X,o,none⟩ v):=h.only hX ((Only.refl X W).setCell o v)
theorem Mid.grown {row:Option Nat} (h:Mid lo hi w W) (hg:W.grownBy W' row) (hr:∀ k,row=some k→hi≤k):Mid lo hi w W':=
 ⟨fun a h1 h2=>(hg.block a (ll_ h2 h.le) (fun e=>by have:=hr a e.symm;omega)).trans (h.blk a h1 h2),lt_ h.le hg.size⟩
theorem Mid.keeps {n:Nat} (h:Mid lo hi w W) (hn:n≤lo):zbR (Btw lo hi) (Btw n W.heap.size) w W:=
 ⟨fun a ha _=>h.blk a ha.1 ha.2,fun a ha=>⟨by have:=ha.1;omega,by have:=ha.2;have:=h.le;omega⟩⟩
end
def zmV (w:World) (P:Nat→Prop) (il:Bool) (d:zaQ) (row:List Value):Prop:=
 ∃ vs vv,row=[.string ⟨d.name.toArray⟩,vs,vv,.bool il,.slice none 0 0,.slice none 0 0]∧SSl w P d.structs vs∧VSl w P d.vars vv
def zaF (w:World) (P:Nat→Prop) (il:Bool) (d:zaQ) (row:List Value):Prop:=
 ∃ vs vv bda bdn bdc lna lnn lnc,row=[.string ⟨d.name.toArray⟩,vs,vv,.bool il,.slice bda bdn bdc,.slice lna lnn lnc]∧SSl w P d.structs vs∧VSl w P d.vars vv
theorem zbT.shape {w:World} {P:Nat→Prop} {p:zad} {row:List Value} (h:zbT w P p row):∃ nm a ln c ta,row=[.string nm,.slice a ln c,.int .i64 ta]:=by
 obtain ⟨v,h1,cs,h2,_⟩:=h
 rcases h2 with ⟨_,_,h2⟩ | ⟨a,c,h2,_⟩
 ·subst h2;exact ⟨_,_,_,_,_,h1⟩
 ·subst h2;exact ⟨_,_,_,_,_,h1⟩
theorem za0.shape {w:World} {P:Nat→Prop} {p:PVar} {row:List Value} (h:za0 w P p row):∃ n0 n1 n2 n3 n4 n5 n6 n7 a ln c n9,row=[.string n0,.int .i64 n1,.int .i64 n2,.int .i64 n3,.int .i64 n4,.string n5,.bool n6,.string n7,.slice a ln c,.int .i64 n9]:=by
 obtain ⟨v,h1,h2⟩:=h
 obtain ⟨a,ln,c,rfl⟩:=h2.slice
 exact ⟨_,_,_,_,_,_,_,_,_,_,_,_,h1⟩
end Go.Proofs.YtdpkjpjkdmkkpaaGreatDoor
