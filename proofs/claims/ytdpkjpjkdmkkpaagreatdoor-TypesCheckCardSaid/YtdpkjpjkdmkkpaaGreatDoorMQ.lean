/- The walks through the reference's parser: Decls. -/
import Derived.Test.YtdpkjpjkdmkkpaaGreatDoorMP
set_option maxRecDepth 100000
set_option maxHeartbeats 16000000
namespace Go.Proofs.YtdpkjpjkdmkkpaaGreatDoor
open Go.RowKit Lx Pa
def zlJ (w:World) (b g cap:Nat) (ts:List Tok) (il:Bool) (d:zaQ) (s':PS) (e:Ending) (w':World):Prop:=
 ∃ row,e=.returned (.agg row.toArray)∧zmV w' (Btw w.heap.size w'.heap.size) il d row∧Only b w w'∧Par w' b g cap ts s'
theorem zd9 {b g cap k:Nat} {ts:List Tok} {s s':PS} {d:zaQ} {il:Bool} (hr:Pa.decls ts il s=(d,s')) (hg:Pa.Good ts k s) (hk:k≤40000) (w:World) (hx:Par w b g cap ts s) :
  Calls Tryz.prog 47 #[.pointer (some ⟨b,0,none⟩),.bool il] w (zlJ w b g cap ts il d s'):=by
 have F0:=hd_ (Fr.start hx)
 have hle:=hx.le
 have hen:=hx.ends
 have hlt:=hx.pb.lt
 have hg:Pa.Good ts (k+0) s:=hg
 obtain ⟨sa,h_sa⟩:∃ sa,Pa.step ts il s=sa:=⟨_,rfl⟩
 have H0:=hd_ (fun W (hW:Par W b g cap ts s)=>zau h_sa (hg.mono (by omega)) W hW)
 have g_sa:Pa.Good ts (k+0) sa:=h_sa▸hg.step hen il
 obtain ⟨LS,h_LS⟩:∃ LS,(Pa.types ts il (ts.length+1) sa).1=LS:=⟨_,rfl⟩
 obtain ⟨sT,h_sT⟩:∃ sT,(Pa.types ts il (ts.length+1) sa).2=sT:=⟨_,rfl⟩
 have g_sT:Pa.Good ts (k+3) sT:=h_sT▸zdh hen (ts.length+1) (k+3) _ (g_sa.mono (by omega)) (by omega)
 obtain ⟨sq,h_sq⟩:∃ sq,Pa.must ts sT [80,82,79,71,82,65,77]=sq:=⟨_,rfl⟩
 have H1:=hd_ (fun W (hW:Par W b g cap ts sT)=>zaD (x:=⟨#[80,82,79,71,82,65,77]⟩) h_sq g_sT.1 (by have:=g_sT.2;omega) W hW)
 have g_sq:Pa.Good ts (k+3) sq:=h_sq▸g_sT.must hen _
 obtain ⟨n,h_n⟩:∃ n,T ts sq=n:=⟨_,rfl⟩
 have HTn:=hd_ (fun W (hW:Par W b g cap ts sq)=>zbH h_n g_sq.1 W hW)
 obtain ⟨sn,h_sn⟩:∃ sn,Pa.name ts sq=sn:=⟨_,rfl⟩
 have H2:=hd_ (fun W (hW:Par W b g cap ts sq)=>zcr h_n h_sn g_sq.1 (by have:=g_sq.2;omega) W hW)
 have g_sn:Pa.Good ts (k+4) sn:=h_sn▸g_sq.name hen
 obtain ⟨LV,h_LV⟩:∃ LV,(Pa.vars ts il (ts.length+1) sn).1=LV:=⟨_,rfl⟩
 obtain ⟨sV,h_sV⟩:∃ sV,(Pa.vars ts il (ts.length+1) sn).2=sV:=⟨_,rfl⟩
 unfold Pa.decls Pa.sPROGRAM at hr
 simp only [h_sa,h_LS,h_sT,h_sq,h_n,h_sn,h_LV,h_sV] at hr
 injection hr with hr1 hr2
 have HP:=hd_ hr1
 subst hr2
 clear hr1
 have HGA:=hd_ g_sa
 have HGN:=hd_ g_sn
 have HLE:=hd_ hle
 have HEN:=hd_ hen
 have HK:=hd_ hk
 have HTY:=hd_ (And.intro h_LS h_sT)
 have HVA:=hd_ (And.intro h_LV h_sV)
 have n1:w.heap.size≠b:=by omega
 have nO:w.heap.size+1≠b:=by omega
 have hRO:w.heap.size≠w.heap.size+1:=by omega
 obtain ⟨i0,hi,hz0,hz1,hz2⟩:=info_parts zks
 have HI:=hd_ (And.intro hi (And.intro hz0 (And.intro hz1 hz2)))
 clear hi hz0 hz1 hz2
 obtain ⟨i1,hi,hz0,hz1,hz2⟩:=info_parts zi5
 have HJ:=hd_ (And.intro hi (And.intro hz0 (And.intro hz1 hz2)))
 clear hi hz0 hz1 hz2
 obtain ⟨ntk,nkd,nnn,ntx,nta⟩:=n
 simp only [tokV] at H2
 clear hx hg hk hle hen HTn h_sa h_LS h_sT h_sq h_n h_sn h_LV h_sV g_sa g_sT g_sq g_sn
 go_enter Tryz.func47,Tryz.ntmps47
 go_wp2_with fail
 refine (H0.out _ ((F0.out.alloc _).alloc _).par).mono ?_
 rintro e w1 ⟨rfl,ho,hp⟩
 have F1:=hd_ (((F0.out.alloc _).alloc _).call ho hp)
 have R1:=hd_ (((Bl.new w _ _).alloc _).only ho n1)
 have O1:=hd_ ((Bl.newAt (X:=w.heap.size+1) _ (by simp)).only ho nO)
 have hlo:w.heap.size+2≤w1.heap.size:=by have:=O1.out.lt;omega
 have G1:=hd_ (GR.start (E:=zbT) (T:=64) (sz:=3) w1 hlo)
 clear ho hp
 go_wp2_with fail
 go_loopw [] (fun wr=>RRel (∃ (f:Nat) (sp:PS) (acc:List zad) (cs:List Value) (fv:Value),Hid (Pa.Good ts (k+6) sp)∧Hid (sp.err=0→ts.length < sp.i+f)∧Hid (acc++(Pa.types ts il f sp).1=LS∧(Pa.types ts il f sp).2=sT)∧Hid (acc.length≤sp.i) ∧
  Hid (Fr w b g cap ts sp wr)∧Hid (Bl wr w.heap.size #[.string ⟨#[]⟩,.slice none 0 0,.slice none 0 0,.bool false,.slice none 0 0,.slice none 0 0] 28)∧Hid (Bl wr (w.heap.size+1) #[.string ⟨#[]⟩,fv,.slice none 0 0,.bool il,.slice none 0 0,.slice none 0 0] 28)∧Hid (GR zbT 64 3 (w.heap.size+2) wr fv acc cs))) (fun wr=>200000 - (intOf ((wr.cell? ⟨b,1,none⟩).getD undef)).toNat)
 case atStart=>
  exact RRel.mk ⟨ts.length+1,sa,[],[],.slice none 0 0,hd_ (HGA.out.mono (by omega)),hd_ (fun _=>by omega),hd_ (by simpa using HTY.out),hd_ (by simp),F1,R1,O1,G1⟩
 case round=>
  obtain ⟨f,sp,acc,cs,fv,HGP,HF,HTO,HAL,F2,R2,O2,G2⟩:=hrel.it
  clear hrel F1 R1 O1 G1 H0 HGA HTY
  obtain ⟨w2,rfl⟩:∃ w2,w2=wr:=⟨_,rfl⟩
  have hgp:=HGP.out
  have hbp:sp.i≤200000:=by have:=hgp.2;have:=HLE.out;have:=HK.out;omega
  obtain ⟨q,h_q⟩:∃ q,is ts sp [84,89,80,69]=q:=⟨_,rfl⟩
  obtain ⟨se,h_se⟩:∃ se,(if q=true then up sp else sp)=se:=⟨_,rfl⟩
  have he:eat ts sp [84,89,80,69]=(q,se):=by
   unfold eat
   rw [h_q,← h_se]
   cases q <;> rfl
  have HE:=hd_ (fun W (hW:Par W b g cap ts sp)=>zbr (x:=⟨#[84,89,80,69]⟩) he hgp.1 hbp W hW)
  obtain ⟨va,vn,vc9,rfl,hfn⟩:=G2.out.form
  subst hfn
  clear he hbp
  cases q with
  | true=>
   rw [if_pos rfl] at h_se
   have hsp0:=zh6 h_q
   have hspi:=hgp.1 hsp0
   obtain ⟨f',rfl⟩:∃ f',f=f'+1:=⟨f - 1,by have:=HF.out hsp0;omega⟩
   have HEQ:=hd_ (ze8 (il:=il) (f:=f') h_q)
   rw [h_se] at HEQ
   obtain ⟨A1,h_A1⟩:∃ A1,(Pa.items ts il Pa.sEND_TYPE (Pa.structure_ ts il) (ts.length+1) se).1=A1:=⟨_,rfl⟩
   obtain ⟨A2,h_A2⟩:∃ A2,(Pa.items ts il Pa.sEND_TYPE (Pa.structure_ ts il) (ts.length+1) se).2=A2:=⟨_,rfl⟩
   rw [h_A1,h_A2] at HEQ
   have gse:Pa.Good ts (k+0) se:=h_se▸((hgp.zero hsp0).up HEN.out (za2 h_q)).mono (by omega)
   have hen:=HEN.out
   have hle:=HLE.out
   have hk:=HK.out
   have gA2:Pa.Good ts (k+3) A2:=h_A2▸zbz (c:=2) hen (fun k s hs=>hs.structure_ hen il) (ts.length+1) (k+3) _ (gse.mono (by omega)) (by omega)
   obtain ⟨sm,h_sm⟩:∃ sm,Pa.must ts A2 [69,78,68,95,84,89,80,69]=sm:=⟨_,rfl⟩
   have J1:=hd_ (fun W (hW:Par W b g cap ts A2)=>zaD (x:=⟨#[69,78,68,95,84,89,80,69]⟩) h_sm gA2.1 (by have:=gA2.2;omega) W hW)
   have gsm:Pa.Good ts (k+3) sm:=h_sm▸gA2.must hen _
   obtain ⟨sx,h_sx⟩:∃ sx,Pa.step ts il sm=sx:=⟨_,rfl⟩
   have J2:=hd_ (fun W (hW:Par W b g cap ts sm)=>zau h_sx (gsm.mono (by omega)) W hW)
   have HGX:=hd_ (h_sx▸gsm.step hen il:Pa.Good ts (k+3) sx)
   have J0:=hd_ (fun W (hW:Par W b g cap ts se)=>zau (il:=il) rfl (gse.mono (by omega)) W hW)
   have hA2i:se.i≤A2.i:=by rw [← h_A2];exact zfs ts il _ _ (fun s=>lt_ (Nat.le_succ _) (zdl ts il s)) _ se
   have HXI:Hid (sp.i+1≤sx.i∧A2.i≤sx.i):=hd_ (by
    have h1:se.i=sp.i+1:=by rw [← h_se];rfl
    have h2:=za8 ts A2 [69,78,68,95,84,89,80,69]
    have h3:=zax ts il sm
    rw [h_sm] at h2
    rw [h_sx] at h3
    omega)
   have HTX:Hid (acc++A1++(Pa.types ts il f' sx).1=LS∧(Pa.types ts il f' sx).2=sT):=hd_ (by
    have h1:=HTO.out
    have h2:=HEQ.out
    unfold Pa.sEND_TYPE at h2
    rw [h_sm,h_sx] at h2
    rw [h2] at h1
    simpa using h1)
   have HFX:Hid (sx.err=0→ts.length < sx.i+f'):=hd_ (fun _=>by have h1:=HF.out hsp0;have h2:=HXI.out.1;omega)
   have HA:=hd_ (And.intro h_A1 h_A2)
   have HGE:=hd_ gse
   have HSE:Hid (se.i=sp.i+1):=hd_ (by rw [← h_se];rfl)
   have hm9:sp.i < 200000:=by omega
   have HAC:=hd_ HAL.out
   go_wp2_with fail
   refine (HE.out _ F2.out.par).mono ?_
   rintro e w3 ⟨rfl,ho,hp⟩
   have F3:=hd_ (F2.out.call ho hp)
   have R3:=hd_ (R2.out.only ho n1)
   have O3:=hd_ (O2.out.only ho nO)
   have G3:=hd_ (G2.out.only zbP (by omega) ho)
   clear ho hp
   go_wp2_with fail
   refine (J0.out _ F3.out.par).mono ?_
   rintro e w4 ⟨rfl,ho,hp⟩
   have F4:=hd_ (F3.out.call ho hp)
   have R4:=hd_ (R3.out.only ho n1)
   have O4:=hd_ (O3.out.only ho nO)
   have G4:=hd_ (G3.out.only zbP (by omega) ho)
   clear ho hp
   go_wp2_with fail
   go_loopw [] (fun wr2=>RRel (∃ (f2:Nat) (sp2:PS) (acc2:List zad) (cs2:List Value) (fv2:Value),Hid (Pa.Good ts (k+6) sp2)∧Hid (sp2.err=0→ts.length < sp2.i+f2)∧Hid (acc2++(Pa.items ts il [69,78,68,95,84,89,80,69] (Pa.structure_ ts il) f2 sp2).1=acc++A1∧(Pa.items ts il [69,78,68,95,84,89,80,69] (Pa.structure_ ts il) f2 sp2).2=A2)∧Hid (acc2.length≤sp2.i) ∧
    Hid (Fr w b g cap ts (Pa.step ts il sp2) wr2)∧Hid (Bl wr2 w.heap.size #[.string ⟨#[]⟩,.slice none 0 0,.slice none 0 0,.bool false,.slice none 0 0,.slice none 0 0] 28)∧Hid (Bl wr2 (w.heap.size+1) #[.string ⟨#[]⟩,fv2,.slice none 0 0,.bool il,.slice none 0 0,.slice none 0 0] 28)∧Hid (GR zbT 64 3 (w.heap.size+2) wr2 fv2 acc2 cs2))) (fun wr2=>200000 - (intOf ((wr2.cell? ⟨b,1,none⟩).getD undef)).toNat)
   case atStart=>
    exact RRel.mk ⟨ts.length+1,se,acc,cs,.slice va acc.length vc9,hd_ (HGE.out.mono (by omega)),hd_ (fun _=>by omega),hd_ (by have h1:=HA.out;unfold Pa.sEND_TYPE at h1;rw [h1.1,h1.2];exact ⟨rfl,rfl⟩),hd_ (by have h1:=HAC.out;have h2:=HSE.out;omega),F4,R4,O4,G4⟩
   case round=>
    obtain ⟨f2,sp2,acc2,cs2,fv2,HGP2,HF2,HTO2,HAL2,F10,R10,O10,G10⟩:=hrel.it
    clear hrel J0 HGE HA HSE
    obtain ⟨w10,rfl⟩:∃ w10,w10=wr:=⟨_,rfl⟩
    obtain ⟨sh,h_sh⟩:∃ sh,Pa.step ts il sp2=sh:=⟨_,rfl⟩
    rw [h_sh] at F10
    have g_sh:Pa.Good ts (k+6) sh:=h_sh▸HGP2.out.step HEN.out il
    have hesp:sh.err=sp2.err:=by rw [← h_sh];exact zdQ ts il sp2
    have hisp:sp2.i≤sh.i:=by rw [← h_sh];exact zax ts il sp2
    obtain ⟨q2,h_q2⟩:∃ q2,is ts sh [69,78,68,95,84,89,80,69]=q2:=⟨_,rfl⟩
    have HQ:=hd_ (fun W (hW:Par W b g cap ts sh)=>zb9 (x:=⟨#[69,78,68,95,84,89,80,69]⟩) h_q2 g_sh.1 W hW)
    obtain ⟨-,d1,d2,-,-,-,-⟩:=F10.out.par.pb.cells
    have k1:=F10.out.par.pb.lt
    obtain ⟨vb,vm,vd9,rfl,hfn⟩:=G10.out.form
    subst hfn
    by_cases h0:sh.err=0
    ·rw [h0] at d2
     cases q2 with
     | true=>
      have HEQ3:=hd_ (zbU (one:=(Pa.structure_ ts il)) (f:=f2) (s:=sp2) (stop:=[69,78,68,95,84,89,80,69]) (.inr (by rw [h_sh];exact h_q2)))
      have HEQ4:=hd_ (show acc2=acc++A1∧sh=A2 by
       have h1:=HTO2.out
       rw [HEQ3.out,h_sh] at h1
       simpa using h1)
      obtain ⟨h1,h2⟩:=HEQ4.out
      have HAL3:Hid (acc2.length≤sx.i):=hd_ (by have a1:=HAL2.out;have a2:=HXI.out.2;rw [← h2] at a2;omega)
      subst h1 h2
      clear HEQ4 HEQ3 HTO2 HF2 HAL2 HGP2 h_sh h_q2 g_sh hesp hisp h0
      go_wp2_with fail
      refine (HQ.out _ F10.out.par).mono ?_
      rintro e w11 ⟨rfl,hb⟩
      have F11:=hd_ (F10.out.below hb)
      have R11:=hd_ (R10.out.below hb)
      have O11:=hd_ (O10.out.below hb)
      have G11:=hd_ (G10.out.below zbP (by omega) hb)
      clear hb
      clear d1 d2 k1
      go_wp2_with fail
      refine (J1.out _ F11.out.par).mono ?_
      rintro e w12 ⟨rfl,ho,hp⟩
      have F12:=hd_ (F11.out.call ho hp)
      have R12:=hd_ (R11.out.only ho n1)
      have O12:=hd_ (O11.out.only ho nO)
      have G12:=hd_ (G11.out.only zbP (by omega) ho)
      clear ho hp
      go_wp2_with fail
      refine (J2.out _ F12.out.par).mono ?_
      rintro e w13 ⟨rfl,ho,hp⟩
      have F13:=hd_ (F12.out.call ho hp)
      have R13:=hd_ (R12.out.only ho n1)
      have O13:=hd_ (O12.out.only ho nO)
      have G13:=hd_ (G12.out.only zbP (by omega) ho)
      clear ho hp
      go_wp2_with fail
      go_roundw
      case rel=>exact RRel.mk ⟨f',sx,acc++A1,cs2,.slice vb (acc++A1).length vd9,hd_ (HGX.out.mono (by omega)),HFX,HTX,HAL3,F13,R13,O13,G13⟩
      case measure=>
       have q1:=F13.out.par.pb.cells.2.1
       have q2:=F2.out.par.pb.cells.2.1
       have q3:=HXI.out.1
       simp [q1,q2,intOf];omega
     | false=>
      obtain ⟨f2',rfl⟩:∃ f',f2=f'+1:=⟨f2 - 1,by have:=HF2.out (by rw [← hesp];exact h0);have:=g_sh.1 h0;omega⟩
      have HEQ3:=hd_ (zc4 (one:=(Pa.structure_ ts il)) (f:=f2') (s:=sp2) (stop:=[69,78,68,95,84,89,80,69]) (by rw [h_sh];exact h0) (by rw [h_sh];exact h_q2))
      have gz:Pa.Good ts (k+0) sh:=(g_sh.zero h0).mono (by omega)
      have hen:=HEN.out
      obtain ⟨pe,h_pe⟩:∃ pe,((Pa.structure_ ts il) sh).1=pe:=⟨_,rfl⟩
      obtain ⟨r2,h_r2⟩:∃ r2,((Pa.structure_ ts il) sh).2=r2:=⟨_,rfl⟩
      have HST:=hd_ (fun W (hW:Par W b g cap ts sh)=>zfA (p:=pe) (s':=r2) (il:=il) (by rw [← h_pe,← h_r2]) gz (by omega) W hW)
      have gr2:Pa.Good ts (k+4) r2:=h_r2▸(gz.structure_ hen il).mono (by omega)
      have J3:=hd_ (fun W (hW:Par W b g cap ts r2)=>zau (il:=il) rfl (gr2.mono (by omega)) W hW)
      have hri:sh.i+1≤r2.i:=by rw [← h_r2];exact zdl ts il sh
      have HLF:Hid (sh.i+1≤(Pa.step ts il r2).i):=hd_ (lt_ hri (zax ts il r2))
      have HG5:=hd_ gr2
      have HER:Hid (r2.err=0→ts.length < r2.i+f2'):=hd_ (fun _=>by
       have h1:=HF2.out (by rw [← hesp];exact h0)
       omega)
      have HTN:Hid ((acc2++[pe])++(Pa.items ts il [69,78,68,95,84,89,80,69] (Pa.structure_ ts il) f2' r2).1=acc++A1∧(Pa.items ts il [69,78,68,95,84,89,80,69] (Pa.structure_ ts il) f2' r2).2=A2):=hd_ (by
       have h1:=HTO2.out
       rw [HEQ3.out,h_sh,h_pe,h_r2] at h1
       simpa using h1)
      have HAL4:Hid (acc2.length+1≤r2.i):=hd_ (by have h1:=HAL2.out;omega)
      have hacc:acc2.length≤200000:=by have h1:=HAL2.out;have h2:=HGP2.out.2;omega
      have hm8:sh.i < 200000:=by have:=g_sh.1 h0;omega
      have kfl:∀ k,(Value.slice vb acc2.length vd9).ownBlock=some k→(w.heap.size+2)≤k:=fun k hk=>(G10.out.own.lt k hk).1
      have KFL:=hd_ kfl
      have KNO:Hid (some (w.heap.size+1)≠(Value.slice vb acc2.length vd9).ownBlock):=hd_ (fun h=>by have:=kfl _ h.symm;omega)
      have KNR:Hid (some w.heap.size≠(Value.slice vb acc2.length vd9).ownBlock):=hd_ (fun h=>by have:=kfl _ h.symm;omega)
      clear kfl HTO2 HEQ3 HF2 HAL2 HGP2 h_pe h_r2 gr2 gz h_sh h_q2 g_sh hesp hisp h0
      go_wp2_with fail
      refine (HQ.out _ F10.out.par).mono ?_
      rintro e w11 ⟨rfl,hb⟩
      have F11:=hd_ (F10.out.below hb)
      have R11:=hd_ (R10.out.below hb)
      have O11:=hd_ (O10.out.below hb)
      have G11:=hd_ (G10.out.below zbP (by omega) hb)
      clear hb
      clear d1 d2 k1
      have KFV:=hd_ G11.out.lt
      obtain ⟨-,o0,-,-,-,-⟩:=O11.out.cells6
      have k3:=O11.out.lt
      go_upto_region 7 with fail
      go_region_law (first
        | (go_simp;go_at_call 83;refine (HST.out _ F11.out.drew.par).mono ?_;rintro e w12 ⟨row,rfl,hd,ho,hp⟩;obtain ⟨nm9,sa9,sl9,sc9,ta9,rfl⟩:=hd.shape;have D:=hd_ hd;have kmid:w11.heap.size≤w12.heap.size:=ho.size;have KM:=hd_ kmid;clear kmid;have F12:=hd_ (F11.out.drew.call ho hp);have R12:=hd_ (R11.out.drew.only ho n1);have O12:=hd_ (O11.out.drew.only ho nO);have G12:=hd_ ((G11.out.below zbP (by omega) br_.drew).only zbP (by omega) ho);have o1:=O12.out.cells6.2.1;have k6:=O12.out.lt;clear hd ho hp)
        | (refine step_append_lies _ (by rfl) _ _ _ (by rfl) (w.heap.size+2) 64 i1 _ 3 48 Tryz.underlying23 HJ.out.1 HJ.out.2.1 HJ.out.2.2.1 HJ.out.2.2.2 rfl (by omega) (.slice vb acc2.length vd9) acc2.length cs2 (by rfl) (G12.out.alloc zbP (by omega) _).own ⟨w12.heap.size,0,none⟩ 1 1 [.string nm9,.slice sa9 sl9 sc9,.int .i64 ta9] (by rfl) (by rfl) (World.news_of_block (cs:=#[.string nm9,.slice sa9 sl9 sc9,.int .i64 ta9]) (t:=64) (fr:=(0,0)) (heap_alloc_new _ _)) (by simp [Value.oneCell']) (by omega) (by simp only [maxLen];omega) (by omega) (by have:=KM.out;have:=G11.out.le;simp;omega) (w12.heap.size+1) (by simp) ?_;intro g9 cp w13 hown hgrow hat hlt9;have O13:=hd_ ((O12.out.alloc _).grown hgrow KNO.out);have R13:=hd_ ((R12.out.alloc _).grown hgrow KNR.out);have F13:=hd_ ((F12.out.alloc _).grown hgrow (fun k hk=>by have:=KFL.out k hk;omega));have G13:=hd_ (G12.out.app zbP D.out (by exact G11.out.le) (fun k hk=>KFV.out k hk) (br_.alloc nl_ _) hgrow hown (hat.imp id (fun h=>by simp;omega)));have o2:=O13.out.cells6.2.1;have g2:=O13.out.free6.2.1;have k5:=O13.out.lt;clear hown hgrow hat hlt9))
      all_goals
       go_wp2_with fail
       refine (J3.out _ (F13.out.far (X:=(w.heap.size+1)) (by omega) _ _).par).mono ?_
       rintro e w14 ⟨rfl,ho,hp⟩
       have F14:=hd_ ((F13.out.far (X:=(w.heap.size+1)) (by omega) _ _).call ho hp)
       have R14:=hd_ ((R13.out.other hRO _ _).only ho n1)
       have O14:=hd_ (Bl.only (vs:=#[.string ⟨#[]⟩,.slice (some ⟨g9,0,none⟩) (acc2.length+1) cp,.slice none 0 0,.bool il,.slice none 0 0,.slice none 0 0]) (by simpa using O13.out.set 1 _) ho nO)
       have G14:=hd_ ((G13.out.set (X:=(w.heap.size+1)) zbP (by omega) _ _).only zbP (by omega) ho)
       clear ho hp
       go_wp2_with fail
       go_roundw
       case rel=>exact RRel.mk ⟨f2',r2,acc2++[pe],_,.slice (some ⟨g9,0,none⟩) (acc2.length+1) cp,hd_ (HG5.out.mono (by omega)),HER,HTN,hd_ (by simpa using HAL4.out),F14,R14,O14,G14⟩
       case measure=>
        have q1:=F14.out.par.pb.cells.2.1
        have q2:=F10.out.par.pb.cells.2.1
        have q3:=HLF.out
        simp [q1,q2,intOf];omega
    ·have e0:(sh.err==0)=false:=by simp [h0]
     have HEQ3:=hd_ (zbU (one:=(Pa.structure_ ts il)) (f:=f2) (s:=sp2) (stop:=[69,78,68,95,84,89,80,69]) (.inl (by rw [h_sh];exact h0)))
     have HEQ4:=hd_ (show acc2=acc++A1∧sh=A2 by
      have h1:=HTO2.out
      rw [HEQ3.out,h_sh] at h1
      simpa using h1)
     obtain ⟨h1,h2⟩:=HEQ4.out
     have HAL3:Hid (acc2.length≤sx.i):=hd_ (by have a1:=HAL2.out;have a2:=HXI.out.2;rw [← h2] at a2;omega)
     subst h1 h2
     clear HEQ4 HEQ3 HTO2 HF2 HAL2 HGP2 h_sh h_q2 g_sh hesp hisp h0
     clear d1
     go_wp2_with fail
     refine (J1.out _ F10.out.par).mono ?_
     rintro e w11 ⟨rfl,ho,hp⟩
     have F11:=hd_ (F10.out.call ho hp)
     have R11:=hd_ (R10.out.only ho n1)
     have O11:=hd_ (O10.out.only ho nO)
     have G11:=hd_ (G10.out.only zbP (by omega) ho)
     clear ho hp
     go_wp2_with fail
     refine (J2.out _ F11.out.par).mono ?_
     rintro e w12 ⟨rfl,ho,hp⟩
     have F12:=hd_ (F11.out.call ho hp)
     have R12:=hd_ (R11.out.only ho n1)
     have O12:=hd_ (O11.out.only ho nO)
     have G12:=hd_ (G11.out.only zbP (by omega) ho)
     clear ho hp
     go_wp2_with fail
     go_roundw
     case rel=>exact RRel.mk ⟨f',sx,acc++A1,cs2,.slice vb (acc++A1).length vd9,hd_ (HGX.out.mono (by omega)),HFX,HTX,HAL3,F12,R12,O12,G12⟩
     case measure=>
      have q1:=F12.out.par.pb.cells.2.1
      have q2:=F2.out.par.pb.cells.2.1
      have q3:=HXI.out.1
      simp [q1,q2,intOf];omega
  | false=>
   rw [if_neg (by simp)] at h_se
   subst h_se
   have HEQ:=hd_ (zg0 (ts:=ts) (il:=il) (f:=f) h_q)
   have HEQ2:=hd_ (show acc=LS∧sp=sT by
    have h1:=HTO.out
    rw [HEQ.out] at h1
    simpa using h1)
   obtain ⟨h1,h2⟩:=HEQ2.out
   subst h1 h2
   clear HEQ2 HEQ HTO HF HAL HGP hgp h_q
   go_wp2_with fail
   refine (HE.out _ F2.out.par).mono ?_
   rintro e w3 ⟨rfl,ho,hp⟩
   have F3:=hd_ (F2.out.call ho hp)
   have R3:=hd_ (R2.out.only ho n1)
   have O3:=hd_ (O2.out.only ho nO)
   have G3:=hd_ (G2.out.only zbP (by omega) ho)
   clear ho hp
   go_wp2_with fail
   refine (H1.out _ F3.out.par).mono ?_
   rintro e w4 ⟨rfl,ho,hp⟩
   have F4:=hd_ (F3.out.call ho hp)
   have R4:=hd_ (R3.out.only ho n1)
   have O4:=hd_ (O3.out.only ho nO)
   have G4:=hd_ (G3.out.only zbP (by omega) ho)
   clear ho hp
   go_wp2_with fail
   refine (H2.out _ F4.out.par).mono ?_
   rintro e w5 ⟨rfl,ho,hp⟩
   have F5:=hd_ (F4.out.call ho hp)
   have R5:=hd_ (R4.out.only ho n1)
   have O5:=hd_ (O4.out.only ho nO)
   have G5:=hd_ (G4.out.only zbP (by omega) ho)
   clear ho hp
   obtain ⟨r0,-,-,-,-,-⟩:=O5.out.cells6
   obtain ⟨g0,-,-,-,-,-⟩:=O5.out.free6
   have k2:=O5.out.lt
   have hf3:=zdg
   go_wp2_with fail
   refine zaa (P:=Code.wp _ _ _ _) (F:=fun W=>Fr w b g cap ts sn W∧Bl W w.heap.size #[.string ⟨#[]⟩,.slice none 0 0,.slice none 0 0,.bool false,.slice none 0 0,.slice none 0 0] 28∧Bl W (w.heap.size+1) #[.string ⟨ntx.toArray⟩,.slice va acc.length vc9,.slice none 0 0,.bool il,.slice none 0 0,.slice none 0 0] 28∧GR zbT 64 3 (w.heap.size+2) W (.slice va acc.length vc9) acc cs)
    ⟨F5.out.far (by omega) _ _,R5.out.other hRO _ _,by simpa using O5.out.set 0 _,G5.out.set zbP (by omega) _ _⟩ ?_
   clear r0 g0 k2 hf3 F2 R2 O2 G2 F3 R3 O3 G3 F4 R4 O4 G4 F5 R5 O5 G5 H1 H2
   obtain ⟨accS,rfl⟩:∃ x,x=acc:=⟨_,rfl⟩
   obtain ⟨csS,rfl⟩:∃ x,x=cs:=⟨_,rfl⟩
   intro w6 ⟨F6,R6,O6,G6⟩
   have hlo6:w.heap.size+2≤w6.heap.size:=G6.le
   have HZ:=hd_ (G6.slice zbP (n0:=w.heap.size+2) nl_)
   have F6:=hd_ F6
   have R6:=hd_ R6
   have O6:=hd_ O6
   have M6:=hd_ (Mid.refl (lo:=w.heap.size+2) (Nat.le_refl w6.heap.size))
   have G6:=hd_ (GR.start (E:=za0) (T:=54) (sz:=10) w6 nl_)
   go_loopw [] (fun wr=>RRel (∃ (f:Nat) (sp:PS) (acc:List PVar) (cs:List Value) (fv:Value),Hid (Pa.Good ts (k+6) sp)∧Hid (sp.err=0→ts.length < sp.i+f)∧Hid (acc++(Pa.vars ts il f sp).1=LV∧(Pa.vars ts il f sp).2=sV)∧Hid (acc.length≤sp.i) ∧
    Hid (Fr w b g cap ts sp wr)∧Hid (Bl wr w.heap.size #[.string ⟨#[]⟩,.slice none 0 0,.slice none 0 0,.bool false,.slice none 0 0,.slice none 0 0] 28)∧Hid (Bl wr (w.heap.size+1) #[.string ⟨ntx.toArray⟩,.slice va accS.length vc9,fv,.bool il,.slice none 0 0,.slice none 0 0] 28)∧Hid (GR za0 54 10 w6.heap.size wr fv acc cs)∧Hid (Mid (w.heap.size+2) w6.heap.size w6 wr))) (fun wr=>200000 - (intOf ((wr.cell? ⟨b,1,none⟩).getD undef)).toNat)
   case atStart=>
    exact RRel.mk ⟨ts.length+1,sn,[],[],.slice none 0 0,hd_ (HGN.out.mono (by omega)),hd_ (fun _=>by omega),hd_ (by simpa using HVA.out),hd_ (by simp),F6,R6,O6,G6,M6⟩
   case round=>
    obtain ⟨f,sp,acc,cs,fv,HGP,HF,HTO,HAL,F2,R2,O2,G2,M2⟩:=hrel.it
    clear hrel F6 R6 O6 G6 M6 HGN HVA
    obtain ⟨w2,rfl⟩:∃ w2,w2=wr:=⟨_,rfl⟩
    have hgp:=HGP.out
    have hen:=HEN.out
    have hle:=HLE.out
    have hk:=HK.out
    obtain ⟨t1,h_t1⟩:∃ t1,Pa.step ts il sp=t1:=⟨_,rfl⟩
    have g_t1:Pa.Good ts (k+6) t1:=h_t1▸hgp.step hen il
    have het:t1.err=sp.err:=by rw [← h_t1];exact zdQ ts il sp
    have hit:sp.i≤t1.i:=by rw [← h_t1];exact zax ts il sp
    obtain ⟨q,h_q⟩:∃ q,is ts t1 [86,65,82]=q:=⟨_,rfl⟩
    have HQ:=hd_ (fun W (hW:Par W b g cap ts t1)=>zb9 (x:=⟨#[86,65,82]⟩) h_q g_t1.1 W hW)
    obtain ⟨va2,vn,vc2,rfl,hfn⟩:=G2.out.form
    subst hfn
    have H1:=hd_ h_t1
    have HQE:Hid (q=false→acc=LV∧sp=sV):=hd_ (fun hq=>by
     have h1:=HTO.out
     rw [zhU (f:=f) (by rw [h_t1,h_q,hq])] at h1
     simpa using h1)
    have HHQ:=hd_ h_q
    have HGT:=hd_ g_t1
    clear hgp h_q g_t1
    go_upto_if 51 with fail
    go_cut [] from 50 to 103 (fun wx=>Hid (q=true)∧Fr w b g cap ts t1 wx∧Bl wx w.heap.size #[.string ⟨#[]⟩,.slice none 0 0,.slice none 0 0,.bool false,.slice none 0 0,.slice none 0 0] 28∧Bl wx (w.heap.size+1) #[.string ⟨ntx.toArray⟩,.slice va accS.length vc9,.slice va2 acc.length vc2,.bool il,.slice none 0 0,.slice none 0 0] 28∧GR za0 54 10 w6.heap.size wx (.slice va2 acc.length vc2) acc cs∧Mid (w.heap.size+2) w6.heap.size w6 wx)
    case first=>
     cases il with
     | false=>
      have h1:sp=t1:=H1.out
      subst h1
      clear H1 het hit
      cases q with
      | true=>
       go_wp2_with fail
       refine (HQ.out _ F2.out.par).mono ?_
       rintro e w3 ⟨rfl,hb⟩
       have F3:=hd_ (F2.out.below hb)
       have R3:=hd_ (R2.out.below hb)
       have O3:=hd_ (O2.out.below hb)
       have G3:=hd_ (G2.out.below zaz (by omega) hb)
       have M3:=hd_ (M2.out.below hb)
       clear hb
       go_wp2_with fail
       go_meet
       exact ⟨by first | exact hd_ rfl | exact hd_ trivial,F3.out,R3.out,O3.out,G3.out,M3.out⟩
      | false=>
       go_wp2_with fail
       refine (HQ.out _ F2.out.par).mono ?_
       rintro e w3 ⟨rfl,hb⟩
       have F3:=hd_ (F2.out.below hb)
       have R3:=hd_ (R2.out.below hb)
       have O3:=hd_ (O2.out.below hb)
       have G3:=hd_ (G2.out.below zaz (by omega) hb)
       have M3:=hd_ (M2.out.below hb)
       clear hb
       obtain ⟨h1,h2⟩:=HQE.out (by first | rfl | trivial)
       subst h1 h2
       obtain ⟨q0,q1,q2,q3,q4,q5⟩:=O3.out.cells6
       obtain ⟨r0,r1,r2,r3,r4,r5⟩:=R3.out.cells6
       obtain ⟨g0,g1,g2,g3,g4,g5⟩:=R3.out.free6
       have k2:=O3.out.lt
       have k3:=R3.out.lt
       go_wp2_with fail
       refine zaa (P:=bodyPost _ _ _ _ _) (F:=fun W=>Fr w b g cap ts sp W∧Bl W w.heap.size #[.string ⟨ntx.toArray⟩,.slice va accS.length vc9,.slice va2 acc.length vc2,.bool false,.slice none 0 0,.slice none 0 0] 28∧GR za0 54 10 w6.heap.size W (.slice va2 acc.length vc2) acc cs∧Mid (w.heap.size+2) w6.heap.size w6 W)
        ⟨((((((F3.out.far nl_ _ _).far nl_ _ _).far nl_ _ _).far nl_ _ _).far nl_ _ _).far nl_ _ _),R3.out.set6,((((((G3.out.set zaz (by omega) _ _).set zaz (by omega) _ _).set zaz (by omega) _ _).set zaz (by omega) _ _).set zaz (by omega) _ _).set zaz (by omega) _ _),((((((M3.out.set (by omega) _ _).set (by omega) _ _).set (by omega) _ _).set (by omega) _ _).set (by omega) _ _).set (by omega) _ _)⟩ ?_
       clear q0 q1 q2 q3 q4 q5 r0 r1 r2 r3 r4 r5 g0 g1 g2 g3 g4 g5 k2 k3
       intro wz ⟨FZ,RZ,GZ,MZ⟩
       obtain ⟨r0,r1,r2,r3,r4,r5⟩:=RZ.cells6
       refine bodyPost_ret (v:=.agg #[.string ⟨ntx.toArray⟩,.slice va accS.length vc9,.slice va2 acc.length vc2,.bool false,.slice none 0 0,.slice none 0 0]) (by simp [results,Tryz.results47,go_sem, *]) rfl ?_
       refine ⟨_,rfl,?_,FZ.only,FZ.par⟩
       rw [← HP.out]
       obtain ⟨z1,z2⟩:=HZ.out
       obtain ⟨y1,y2⟩:=GZ.slice zaz (n0:=w.heap.size) (by omega)
       exact ⟨_,_,rfl,⟨_,z1.keeps (MZ.keeps (by omega)),zlH (z2.keeps zbP (MZ.keeps (by omega)))⟩,⟨_,y1,zil y2⟩⟩
     | true=>
      have HLN:=hd_ (fun W (hW:Par W b g cap ts sp)=>zch (s':=t1) (by rw [← H1.out];rfl) (HGP.out.mono (by omega)) W hW)
      have HSP:Hid ((⟨sp.i,t1.err,t1.at_⟩:PS)=sp):=hd_ (by
       rw [← H1.out]
       show (⟨sp.i,(Pa.lines ts sp).err,(Pa.lines ts sp).at_⟩:PS)=sp
       unfold Pa.lines
       split <;> rfl)
      obtain ⟨-,d1,-,-,-,-,-⟩:=F2.out.par.pb.cells
      have k1:=F2.out.par.pb.lt
      clear H1 het hit
      cases q with
      | true=>
       go_wp2_with fail
       refine (HLN.out _ F2.out.par).mono ?_
       rintro e w3 ⟨rfl,ho,hp⟩
       have F3:=hd_ (F2.out.call ho hp)
       have R3:=hd_ (R2.out.only ho n1)
       have O3:=hd_ (O2.out.only ho nO)
       have G3:=hd_ (G2.out.only zaz (by omega) ho)
       have M3:=hd_ (M2.out.only (by omega) ho)
       clear ho hp
       clear d1 k1
       go_wp2_with fail
       refine (HQ.out _ F3.out.par).mono ?_
       rintro e w4 ⟨rfl,hb⟩
       have F4:=hd_ (F3.out.below hb)
       have R4:=hd_ (R3.out.below hb)
       have O4:=hd_ (O3.out.below hb)
       have G4:=hd_ (G3.out.below zaz (by omega) hb)
       have M4:=hd_ (M3.out.below hb)
       clear hb
       go_wp2_with fail
       go_meet
       exact ⟨by first | exact hd_ rfl | exact hd_ trivial,F4.out,R4.out,O4.out,G4.out,M4.out⟩
      | false=>
       go_wp2_with fail
       refine (HLN.out _ F2.out.par).mono ?_
       rintro e w3 ⟨rfl,ho,hp⟩
       have F3:=hd_ (F2.out.call ho hp)
       have R3:=hd_ (R2.out.only ho n1)
       have O3:=hd_ (O2.out.only ho nO)
       have G3:=hd_ (G2.out.only zaz (by omega) ho)
       have M3:=hd_ (M2.out.only (by omega) ho)
       clear ho hp
       clear d1 k1
       go_wp2_with fail
       refine (HQ.out _ F3.out.par).mono ?_
       rintro e w4 ⟨rfl,hb⟩
       have F4:=hd_ (F3.out.below hb)
       have R4:=hd_ (R3.out.below hb)
       have O4:=hd_ (O3.out.below hb)
       have G4:=hd_ (G3.out.below zaz (by omega) hb)
       have M4:=hd_ (M3.out.below hb)
       clear hb
       obtain ⟨-,d1,-,-,f1,-,-⟩:=F4.out.par.pb.cells
       have k1:=F4.out.par.pb.lt
       go_upto_region 19 with fail
       refine zaa (P:=Code.wp _ _ _ _) (F:=fun W=>Fr w b g cap ts sp W∧Bl W w.heap.size #[.string ⟨#[]⟩,.slice none 0 0,.slice none 0 0,.bool false,.slice none 0 0,.slice none 0 0] 28∧Bl W (w.heap.size+1) #[.string ⟨ntx.toArray⟩,.slice va accS.length vc9,.slice va2 acc.length vc2,.bool true,.slice none 0 0,.slice none 0 0] 28∧GR za0 54 10 w6.heap.size W (.slice va2 acc.length vc2) acc cs∧Mid (w.heap.size+2) w6.heap.size w6 W)
        ⟨HSP.out▸F4.out.set1 (i:=sp.i) rfl,R4.out.other n1 _ _,O4.out.other nO _ _,G4.out.set zaz (by omega) _ _,M4.out.set (by omega) _ _⟩ ?_
       clear d1 f1 k1
       intro w5 ⟨F5,R5,O5,G5,M5⟩
       have F5:=hd_ F5
       have R5:=hd_ R5
       have O5:=hd_ O5
       have G5:=hd_ G5
       have M5:=hd_ M5
       obtain ⟨h1,h2⟩:=HQE.out (by first | rfl | trivial)
       subst h1 h2
       obtain ⟨q0,q1,q2,q3,q4,q5⟩:=O5.out.cells6
       obtain ⟨r0,r1,r2,r3,r4,r5⟩:=R5.out.cells6
       obtain ⟨g0,g1,g2,g3,g4,g5⟩:=R5.out.free6
       have k2:=O5.out.lt
       have k3:=R5.out.lt
       go_wp2_with fail
       refine zaa (P:=bodyPost _ _ _ _ _) (F:=fun W=>Fr w b g cap ts sp W∧Bl W w.heap.size #[.string ⟨ntx.toArray⟩,.slice va accS.length vc9,.slice va2 acc.length vc2,.bool true,.slice none 0 0,.slice none 0 0] 28∧GR za0 54 10 w6.heap.size W (.slice va2 acc.length vc2) acc cs∧Mid (w.heap.size+2) w6.heap.size w6 W)
        ⟨((((((F5.out.far nl_ _ _).far nl_ _ _).far nl_ _ _).far nl_ _ _).far nl_ _ _).far nl_ _ _),R5.out.set6,((((((G5.out.set zaz (by omega) _ _).set zaz (by omega) _ _).set zaz (by omega) _ _).set zaz (by omega) _ _).set zaz (by omega) _ _).set zaz (by omega) _ _),((((((M5.out.set (by omega) _ _).set (by omega) _ _).set (by omega) _ _).set (by omega) _ _).set (by omega) _ _).set (by omega) _ _)⟩ ?_
       clear q0 q1 q2 q3 q4 q5 r0 r1 r2 r3 r4 r5 g0 g1 g2 g3 g4 g5 k2 k3
       intro wz ⟨FZ,RZ,GZ,MZ⟩
       obtain ⟨r0,r1,r2,r3,r4,r5⟩:=RZ.cells6
       refine bodyPost_ret (v:=.agg #[.string ⟨ntx.toArray⟩,.slice va accS.length vc9,.slice va2 acc.length vc2,.bool true,.slice none 0 0,.slice none 0 0]) (by simp [results,Tryz.results47,go_sem, *]) rfl ?_
       refine ⟨_,rfl,?_,FZ.only,FZ.par⟩
       rw [← HP.out]
       obtain ⟨z1,z2⟩:=HZ.out
       obtain ⟨y1,y2⟩:=GZ.slice zaz (n0:=w.heap.size) (by omega)
       exact ⟨_,_,rfl,⟨_,z1.keeps (MZ.keeps (by omega)),zlH (z2.keeps zbP (MZ.keeps (by omega)))⟩,⟨_,y1,zil y2⟩⟩
    case rest=>
     obtain ⟨hq,F23,R23,O23,G23,M23⟩:=hcut
     obtain rfl:q=true:=hq.out
     have F23:=hd_ F23
     have R23:=hd_ R23
     have O23:=hd_ O23
     have G23:=hd_ G23
     have M23:=hd_ M23
     have h_q:=HHQ.out
     have ht0:=zh6 h_q
     have hsp0:sp.err=0:=by rw [← het];exact ht0
     have hspi:=HGP.out.1 hsp0
     obtain ⟨f',rfl⟩:∃ f',f=f'+1:=⟨f - 1,by have:=HF.out hsp0;omega⟩
     have g_t1:Pa.Good ts (k+0) t1:=(HGT.out.zero ht0).mono (by omega)
     obtain ⟨t2,h_t2⟩:∃ t2,Pa.must ts t1 [86,65,82]=t2:=⟨_,rfl⟩
     have J1:=hd_ (fun W (hW:Par W b g cap ts t1)=>zaD (x:=⟨#[86,65,82]⟩) h_t2 g_t1.1 (by have:=g_t1.2;omega) W hW)
     have g_t2:Pa.Good ts (k+0) t2:=h_t2▸g_t1.must hen _
     obtain ⟨t3,h_t3⟩:∃ t3,Pa.step ts il t2=t3:=⟨_,rfl⟩
     have J2:=hd_ (fun W (hW:Par W b g cap ts t2)=>zau h_t3 (g_t2.mono (by omega)) W hW)
     have g_t3:Pa.Good ts (k+0) t3:=h_t3▸g_t2.step hen il
     obtain ⟨re,h_re⟩:∃ re,is ts t3 [82,69,84,65,73,78]=re:=⟨_,rfl⟩
     obtain ⟨t4,h_t4⟩:∃ t4,(if re=true then up t3 else t3)=t4:=⟨_,rfl⟩
     have e_t4:eat ts t3 [82,69,84,65,73,78]=(re,t4):=by
      unfold eat
      rw [h_re,← h_t4]
      cases re <;> rfl
     have JE:=hd_ (fun W (hW:Par W b g cap ts t3)=>zbr (x:=⟨#[82,69,84,65,73,78]⟩) e_t4 g_t3.1 (by have:=g_t3.2;omega) W hW)
     have g_t4:Pa.Good ts (k+0) t4:=by
      rw [← h_t4]
      cases re with
      | true=>rw [if_pos rfl];exact g_t3.up hen (za2 h_re)
      | false=>rw [if_neg (by simp)];exact g_t3
     have J0:=hd_ (fun W (hW:Par W b g cap ts t4)=>zau (il:=il) rfl (g_t4.mono (by omega)) W hW)
     have h_nx:=zcp (f:=f') (il:=il) (s:=sp) (re:=re) (s2:=t3) (s3:=t4) (by rw [h_t1];exact h_q) (by unfold Pa.sVAR;rw [h_t1,h_t2,h_t3]) h_re h_t4
     obtain ⟨A1,h_A1⟩:∃ A1,(Pa.items ts il Pa.sEND_VAR (Pa.variable_ ts il re) (ts.length+1) t4).1=A1:=⟨_,rfl⟩
     obtain ⟨A2,h_A2⟩:∃ A2,(Pa.items ts il Pa.sEND_VAR (Pa.variable_ ts il re) (ts.length+1) t4).2=A2:=⟨_,rfl⟩
     rw [h_A1,h_A2] at h_nx
     have gA2:Pa.Good ts (k+5) A2:=h_A2▸zbz (c:=4) hen (fun k s hs=>hs.variable_ hen il re) (ts.length+1) (k+5) _ (g_t4.mono (by omega)) (by omega)
     obtain ⟨sx,h_sx⟩:∃ sx,Pa.must ts A2 [69,78,68,95,86,65,82]=sx:=⟨_,rfl⟩
     have JX:=hd_ (fun W (hW:Par W b g cap ts A2)=>zaD (x:=⟨#[69,78,68,95,86,65,82]⟩) h_sx gA2.1 (by have:=gA2.2;omega) W hW)
     have HGX:=hd_ (h_sx▸gA2.must hen _:Pa.Good ts (k+5) sx)
     have hA2i:t4.i≤A2.i:=by rw [← h_A2];exact zfs ts il _ _ (fun s=>lt_ (Nat.le_succ _) (zd4 ts il re s)) _ t4
     have ht2i:t2.i=t1.i+1:=by rw [← h_t2];unfold Pa.must;rw [if_pos h_q];rfl
     have ht3i:t2.i≤t3.i:=by rw [← h_t3];exact zax ts il t2
     have ht4i:t3.i≤t4.i:=by
      rw [← h_t4]
      cases re with
      | true=>exact Nat.le_succ _
      | false=>exact Nat.le_refl _
     have HXI:Hid (sp.i+1≤sx.i∧A2.i≤sx.i):=hd_ (by
      have h2:=za8 ts A2 [69,78,68,95,86,65,82]
      rw [h_sx] at h2
      omega)
     have HTX:Hid (acc++A1++(Pa.vars ts il f' sx).1=LV∧(Pa.vars ts il f' sx).2=sV):=hd_ (by
      have h1:=HTO.out
      unfold Pa.sEND_VAR at h_nx
      rw [h_sx] at h_nx
      rw [h_nx] at h1
      simpa using h1)
     have HFX:Hid (sx.err=0→ts.length < sx.i+f'):=hd_ (fun _=>by have h1:=HF.out hsp0;have h2:=HXI.out.1;omega)
     have HA:=hd_ (And.intro h_A1 h_A2)
     have HGE:=hd_ g_t4
     have HSE:Hid (sp.i≤t4.i):=hd_ (by omega)
     have hm9:sp.i < 200000:=by omega
     have HAC:=hd_ HAL.out
     clear HTO HF HAL HGP HQE HHQ HGT HQ H1 hq h_q ht0 hsp0 hspi g_t1 h_t1 h_t2 h_t3 h_re h_t4 e_t4 g_t2 g_t3 g_t4 h_nx h_A1 h_A2 gA2 h_sx hA2i ht2i ht3i ht4i het hit
     go_wp2_with fail
     refine (J1.out _ F23.out.par).mono ?_
     rintro e w24 ⟨rfl,ho,hp⟩
     have F24:=hd_ (F23.out.call ho hp)
     have R24:=hd_ (R23.out.only ho n1)
     have O24:=hd_ (O23.out.only ho nO)
     have G24:=hd_ (G23.out.only zaz (by omega) ho)
     have M24:=hd_ (M23.out.only (by omega) ho)
     clear ho hp
     go_wp2_with fail
     refine (J2.out _ F24.out.par).mono ?_
     rintro e w25 ⟨rfl,ho,hp⟩
     have F25:=hd_ (F24.out.call ho hp)
     have R25:=hd_ (R24.out.only ho n1)
     have O25:=hd_ (O24.out.only ho nO)
     have G25:=hd_ (G24.out.only zaz (by omega) ho)
     have M25:=hd_ (M24.out.only (by omega) ho)
     clear ho hp
     go_wp2_with fail
     refine (JE.out _ F25.out.par).mono ?_
     rintro e w26 ⟨rfl,ho,hp⟩
     have F26:=hd_ (F25.out.call ho hp)
     have R26:=hd_ (R25.out.only ho n1)
     have O26:=hd_ (O25.out.only ho nO)
     have G26:=hd_ (G25.out.only zaz (by omega) ho)
     have M26:=hd_ (M25.out.only (by omega) ho)
     clear ho hp
     go_wp2_with fail
     refine (J0.out _ F26.out.par).mono ?_
     rintro e w27 ⟨rfl,ho,hp⟩
     have F27:=hd_ (F26.out.call ho hp)
     have R27:=hd_ (R26.out.only ho n1)
     have O27:=hd_ (O26.out.only ho nO)
     have G27:=hd_ (G26.out.only zaz (by omega) ho)
     have M27:=hd_ (M26.out.only (by omega) ho)
     clear ho hp
     go_wp2_with fail
     go_loopw [] (fun wr2=>RRel (∃ (f2:Nat) (sp2:PS) (acc2:List PVar) (cs2:List Value) (fv2:Value),Hid (Pa.Good ts (k+6) sp2)∧Hid (sp2.err=0→ts.length < sp2.i+f2)∧Hid (acc2++(Pa.items ts il [69,78,68,95,86,65,82] (Pa.variable_ ts il re) f2 sp2).1=acc++A1∧(Pa.items ts il [69,78,68,95,86,65,82] (Pa.variable_ ts il re) f2 sp2).2=A2)∧Hid (acc2.length≤sp2.i) ∧
      Hid (Fr w b g cap ts (Pa.step ts il sp2) wr2)∧Hid (Bl wr2 w.heap.size #[.string ⟨#[]⟩,.slice none 0 0,.slice none 0 0,.bool false,.slice none 0 0,.slice none 0 0] 28)∧Hid (Bl wr2 (w.heap.size+1) #[.string ⟨ntx.toArray⟩,.slice va accS.length vc9,fv2,.bool il,.slice none 0 0,.slice none 0 0] 28)∧Hid (GR za0 54 10 w6.heap.size wr2 fv2 acc2 cs2)∧Hid (Mid (w.heap.size+2) w6.heap.size w6 wr2))) (fun wr2=>200000 - (intOf ((wr2.cell? ⟨b,1,none⟩).getD undef)).toNat)
     case atStart=>
      exact RRel.mk ⟨ts.length+1,t4,acc,cs,.slice va2 acc.length vc2,hd_ (HGE.out.mono (by omega)),hd_ (fun _=>by omega),hd_ (by have h1:=HA.out;unfold Pa.sEND_VAR at h1;rw [h1.1,h1.2];exact ⟨rfl,rfl⟩),hd_ (by have h1:=HAC.out;have h2:=HSE.out;omega),F27,R27,O27,G27,M27⟩
     case round=>
      obtain ⟨f2,sp2,acc2,cs2,fv2,HGP2,HF2,HTO2,HAL2,F10,R10,O10,G10,M10⟩:=hrel.it
      clear hrel J0 HGE HA HSE
      obtain ⟨w10,rfl⟩:∃ w10,w10=wr:=⟨_,rfl⟩
      obtain ⟨sh,h_sh⟩:∃ sh,Pa.step ts il sp2=sh:=⟨_,rfl⟩
      rw [h_sh] at F10
      have g_sh:Pa.Good ts (k+6) sh:=h_sh▸HGP2.out.step HEN.out il
      have hesp:sh.err=sp2.err:=by rw [← h_sh];exact zdQ ts il sp2
      have hisp:sp2.i≤sh.i:=by rw [← h_sh];exact zax ts il sp2
      obtain ⟨q2,h_q2⟩:∃ q2,is ts sh [69,78,68,95,86,65,82]=q2:=⟨_,rfl⟩
      have HQ:=hd_ (fun W (hW:Par W b g cap ts sh)=>zb9 (x:=⟨#[69,78,68,95,86,65,82]⟩) h_q2 g_sh.1 W hW)
      obtain ⟨-,d1,d2,-,-,-,-⟩:=F10.out.par.pb.cells
      have k1:=F10.out.par.pb.lt
      obtain ⟨vb,vm,vd9,rfl,hfn⟩:=G10.out.form
      subst hfn
      by_cases h0:sh.err=0
      ·rw [h0] at d2
       cases q2 with
       | true=>
        have HEQ3:=hd_ (zbU (one:=(Pa.variable_ ts il re)) (f:=f2) (s:=sp2) (stop:=[69,78,68,95,86,65,82]) (.inr (by rw [h_sh];exact h_q2)))
        have HEQ4:=hd_ (show acc2=acc++A1∧sh=A2 by
         have h1:=HTO2.out
         rw [HEQ3.out,h_sh] at h1
         simpa using h1)
        obtain ⟨h1,h2⟩:=HEQ4.out
        have HAL3:Hid (acc2.length≤sx.i):=hd_ (by have a1:=HAL2.out;have a2:=HXI.out.2;rw [← h2] at a2;omega)
        subst h1 h2
        clear HEQ4 HEQ3 HTO2 HF2 HAL2 HGP2 h_sh h_q2 g_sh hesp hisp h0
        go_wp2_with fail
        refine (HQ.out _ F10.out.par).mono ?_
        rintro e w11 ⟨rfl,hb⟩
        have F11:=hd_ (F10.out.below hb)
        have R11:=hd_ (R10.out.below hb)
        have O11:=hd_ (O10.out.below hb)
        have G11:=hd_ (G10.out.below zaz (by omega) hb)
        have M11:=hd_ (M10.out.below hb)
        clear hb
        clear d1 d2 k1
        go_wp2_with fail
        refine (JX.out _ F11.out.par).mono ?_
        rintro e w12 ⟨rfl,ho,hp⟩
        have F12:=hd_ (F11.out.call ho hp)
        have R12:=hd_ (R11.out.only ho n1)
        have O12:=hd_ (O11.out.only ho nO)
        have G12:=hd_ (G11.out.only zaz (by omega) ho)
        have M12:=hd_ (M11.out.only (by omega) ho)
        clear ho hp
        go_wp2_with fail
        go_roundw
        case rel=>exact RRel.mk ⟨f',sx,acc++A1,cs2,.slice vb (acc++A1).length vd9,hd_ (HGX.out.mono (by omega)),HFX,HTX,HAL3,F12,R12,O12,G12,M12⟩
        case measure=>
         have q1:=F12.out.par.pb.cells.2.1
         have q2:=F2.out.par.pb.cells.2.1
         have q3:=HXI.out.1
         simp [q1,q2,intOf];omega
       | false=>
        obtain ⟨f2',rfl⟩:∃ f',f2=f'+1:=⟨f2 - 1,by have:=HF2.out (by rw [← hesp];exact h0);have:=g_sh.1 h0;omega⟩
        have HEQ3:=hd_ (zc4 (one:=(Pa.variable_ ts il re)) (f:=f2') (s:=sp2) (stop:=[69,78,68,95,86,65,82]) (by rw [h_sh];exact h0) (by rw [h_sh];exact h_q2))
        have gz:Pa.Good ts (k+0) sh:=(g_sh.zero h0).mono (by omega)
        have hen:=HEN.out
        obtain ⟨pe,h_pe⟩:∃ pe,((Pa.variable_ ts il re) sh).1=pe:=⟨_,rfl⟩
        obtain ⟨r2,h_r2⟩:∃ r2,((Pa.variable_ ts il re) sh).2=r2:=⟨_,rfl⟩
        have HST:=hd_ (fun W (hW:Par W b g cap ts sh)=>zgv (re:=re) (p:=pe) (s':=r2) (il:=il) (by rw [← h_pe,← h_r2]) gz (by omega) W hW)
        have gr2:Pa.Good ts (k+4) r2:=h_r2▸(gz.variable_ hen il re).mono (by omega)
        have J3:=hd_ (fun W (hW:Par W b g cap ts r2)=>zau (il:=il) rfl (gr2.mono (by omega)) W hW)
        have hri:sh.i+1≤r2.i:=by rw [← h_r2];exact zd4 ts il re sh
        have HLF:Hid (sh.i+1≤(Pa.step ts il r2).i):=hd_ (lt_ hri (zax ts il r2))
        have HG5:=hd_ gr2
        have HER:Hid (r2.err=0→ts.length < r2.i+f2'):=hd_ (fun _=>by
         have h1:=HF2.out (by rw [← hesp];exact h0)
         omega)
        have HTN:Hid ((acc2++[pe])++(Pa.items ts il [69,78,68,95,86,65,82] (Pa.variable_ ts il re) f2' r2).1=acc++A1∧(Pa.items ts il [69,78,68,95,86,65,82] (Pa.variable_ ts il re) f2' r2).2=A2):=hd_ (by
         have h1:=HTO2.out
         rw [HEQ3.out,h_sh,h_pe,h_r2] at h1
         simpa using h1)
        have HAL4:Hid (acc2.length+1≤r2.i):=hd_ (by have h1:=HAL2.out;omega)
        have hacc:acc2.length≤200000:=by have h1:=HAL2.out;have h2:=HGP2.out.2;omega
        have hm8:sh.i < 200000:=by have:=g_sh.1 h0;omega
        have kfl:∀ k,(Value.slice vb acc2.length vd9).ownBlock=some k→w6.heap.size≤k:=fun k hk=>(G10.out.own.lt k hk).1
        have KFL:=hd_ kfl
        have KNO:Hid (some (w.heap.size+1)≠(Value.slice vb acc2.length vd9).ownBlock):=hd_ (fun h=>by have:=kfl _ h.symm;omega)
        have KNR:Hid (some w.heap.size≠(Value.slice vb acc2.length vd9).ownBlock):=hd_ (fun h=>by have:=kfl _ h.symm;omega)
        clear kfl HTO2 HEQ3 HF2 HAL2 HGP2 h_pe h_r2 gr2 gz h_sh h_q2 g_sh hesp hisp h0
        go_wp2_with fail
        refine (HQ.out _ F10.out.par).mono ?_
        rintro e w11 ⟨rfl,hb⟩
        have F11:=hd_ (F10.out.below hb)
        have R11:=hd_ (R10.out.below hb)
        have O11:=hd_ (O10.out.below hb)
        have G11:=hd_ (G10.out.below zaz (by omega) hb)
        have M11:=hd_ (M10.out.below hb)
        clear hb
        clear d1 d2 k1
        have KFV:=hd_ G11.out.lt
        obtain ⟨-,-,o0,-,-,-⟩:=O11.out.cells6
        have k3:=O11.out.lt
        go_upto_region 26 with fail
        go_region_law (first
          | (go_simp;go_at_call 85;refine (HST.out _ F11.out.drew.par).mono ?_;rintro e w12 ⟨row,rfl,hd,ho,hp⟩;obtain ⟨m0,m1,m2,m3,m4,m5,m6,m7,sa9,sl9,sc9,m9,rfl⟩:=hd.shape;have D:=hd_ hd;have kmid:w11.heap.size≤w12.heap.size:=ho.size;have KM:=hd_ kmid;clear kmid;have F12:=hd_ (F11.out.drew.call ho hp);have R12:=hd_ (R11.out.drew.only ho n1);have O12:=hd_ (O11.out.drew.only ho nO);have G12:=hd_ ((G11.out.below zaz (by omega) br_.drew).only zaz (by omega) ho);have M12:=hd_ ((M11.out.below br_.drew).only (by omega) ho);have o1:=O12.out.cells6.2.2.1;have k6:=O12.out.lt;clear hd ho hp)
          | (refine step_append_lies _ (by rfl) _ _ _ (by rfl) w6.heap.size 54 i0 _ 10 120 Tryz.underlying24 HI.out.1 HI.out.2.1 HI.out.2.2.1 HI.out.2.2.2 rfl (by omega) (.slice vb acc2.length vd9) acc2.length cs2 (by rfl) (G12.out.alloc zaz (by omega) _).own ⟨w12.heap.size,0,none⟩ 1 1 [.string m0,.int .i64 m1,.int .i64 m2,.int .i64 m3,.int .i64 m4,.string m5,.bool m6,.string m7,.slice sa9 sl9 sc9,.int .i64 m9] (by rfl) (by rfl) (World.news_of_block (cs:=#[.string m0,.int .i64 m1,.int .i64 m2,.int .i64 m3,.int .i64 m4,.string m5,.bool m6,.string m7,.slice sa9 sl9 sc9,.int .i64 m9]) (t:=54) (fr:=(0,0)) (heap_alloc_new _ _)) (by simp [Value.oneCell']) (by omega) (by simp only [maxLen];omega) (by omega) (by have:=KM.out;have:=G11.out.le;simp;omega) (w12.heap.size+1) (by simp) ?_;intro g9 cp w13 hown hgrow hat hlt9;have O13:=hd_ ((O12.out.alloc _).grown hgrow KNO.out);have R13:=hd_ ((R12.out.alloc _).grown hgrow KNR.out);have F13:=hd_ ((F12.out.alloc _).grown hgrow (fun k hk=>by have:=KFL.out k hk;omega));have G13:=hd_ (G12.out.app zaz D.out (by exact G11.out.le) (fun k hk=>KFV.out k hk) (br_.alloc nl_ _) hgrow hown (hat.imp id (fun h=>by simp;omega)));have M13:=hd_ ((M12.out.alloc _).grown hgrow KFL.out);have o2:=O13.out.cells6.2.2.1;have g2:=O13.out.free6.2.2.1;have k5:=O13.out.lt;clear hown hgrow hat hlt9))
        all_goals
         go_wp2_with fail
         refine (J3.out _ (F13.out.far (X:=(w.heap.size+1)) (by omega) _ _).par).mono ?_
         rintro e w14 ⟨rfl,ho,hp⟩
         have F14:=hd_ ((F13.out.far (X:=(w.heap.size+1)) (by omega) _ _).call ho hp)
         have R14:=hd_ ((R13.out.other hRO _ _).only ho n1)
         have O14:=hd_ (Bl.only (vs:=#[.string ⟨ntx.toArray⟩,.slice va accS.length vc9,.slice (some ⟨g9,0,none⟩) (acc2.length+1) cp,.bool il,.slice none 0 0,.slice none 0 0]) (by simpa using O13.out.set 2 _) ho nO)
         have G14:=hd_ ((G13.out.set (X:=(w.heap.size+1)) zaz (by omega) _ _).only zaz (by omega) ho)
         have M14:=hd_ ((M13.out.set (X:=(w.heap.size+1)) (by omega) _ _).only (by omega) ho)
         clear ho hp
         go_wp2_with fail
         go_roundw
         case rel=>exact RRel.mk ⟨f2',r2,acc2++[pe],_,.slice (some ⟨g9,0,none⟩) (acc2.length+1) cp,hd_ (HG5.out.mono (by omega)),HER,HTN,hd_ (by simpa using HAL4.out),F14,R14,O14,G14,M14⟩
         case measure=>
          have q1:=F14.out.par.pb.cells.2.1
          have q2:=F10.out.par.pb.cells.2.1
          have q3:=HLF.out
          simp [q1,q2,intOf];omega
      ·have e0:(sh.err==0)=false:=by simp [h0]
       have HEQ3:=hd_ (zbU (one:=(Pa.variable_ ts il re)) (f:=f2) (s:=sp2) (stop:=[69,78,68,95,86,65,82]) (.inl (by rw [h_sh];exact h0)))
       have HEQ4:=hd_ (show acc2=acc++A1∧sh=A2 by
        have h1:=HTO2.out
        rw [HEQ3.out,h_sh] at h1
        simpa using h1)
       obtain ⟨h1,h2⟩:=HEQ4.out
       have HAL3:Hid (acc2.length≤sx.i):=hd_ (by have a1:=HAL2.out;have a2:=HXI.out.2;rw [← h2] at a2;omega)
       subst h1 h2
       clear HEQ4 HEQ3 HTO2 HF2 HAL2 HGP2 h_sh h_q2 g_sh hesp hisp h0
       clear d1
       go_wp2_with fail
       refine (JX.out _ F10.out.par).mono ?_
       rintro e w11 ⟨rfl,ho,hp⟩
       have F11:=hd_ (F10.out.call ho hp)
       have R11:=hd_ (R10.out.only ho n1)
       have O11:=hd_ (O10.out.only ho nO)
       have G11:=hd_ (G10.out.only zaz (by omega) ho)
       have M11:=hd_ (M10.out.only (by omega) ho)
       clear ho hp
       go_wp2_with fail
       go_roundw
       case rel=>exact RRel.mk ⟨f',sx,acc++A1,cs2,.slice vb (acc++A1).length vd9,hd_ (HGX.out.mono (by omega)),HFX,HTX,HAL3,F11,R11,O11,G11,M11⟩
       case measure=>
        have q1:=F11.out.par.pb.cells.2.1
        have q2:=F2.out.par.pb.cells.2.1
        have q3:=HXI.out.1
        simp [q1,q2,intOf];omega
end Go.Proofs.YtdpkjpjkdmkkpaaGreatDoor
