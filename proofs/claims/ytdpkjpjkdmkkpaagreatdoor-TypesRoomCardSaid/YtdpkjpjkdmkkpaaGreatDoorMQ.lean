/- The walks through the reference's parser: Decls. -/
import Derived.Test.YtdpkjpjkdmkkpaaGreatDoorMP
namespace Go.Proofs.YtdpkjpjkdmkkpaaGreatDoor
open Go.RowKit Lx Pa

/-- What Decls leaves. -/
def DecPost (w : World) (b g cap : Nat) (ts : List Tok) (il : Bool) (d : PDecl) (s' : PS) (e : Ending) (w' : World) : Prop :=
  ∃ row, e = .returned (.agg row.toArray) ∧ PVals w' (Btw w.heap.size w'.heap.size) il d row ∧ Only b w w' ∧ Par w' b g cap ts s'

set_option maxRecDepth 100000 in
set_option maxHeartbeats 4000000 in
theorem pdecls_at {b g cap k : Nat} {ts : List Tok} {s s' : PS} {d : PDecl} {il : Bool} (hr : Pa.decls ts il s = (d, s')) (hg : Pa.Good ts k s) (hk : k ≤ 40000) (w : World) (hx : Par w b g cap ts s) :
    Calls Tryz.prog 47 #[.pointer (some ⟨b, 0, none⟩), .bool il] w (DecPost w b g cap ts il d s') := by
  have F0 := Lib.hid (Fr.start hx)
  have hle := hx.le
  have hen := hx.ends
  have hlt := hx.pb.lt
  have hg : Pa.Good ts (k + 0) s := hg
  obtain ⟨sa, h_sa⟩ : ∃ sa, Pa.step ts il s = sa := ⟨_, rfl⟩
  have H0 := Lib.hid (fun W (hW : Par W b g cap ts s) => pstep_at h_sa (hg.mono (by omega)) W hW)
  have g_sa : Pa.Good ts (k + 0) sa := h_sa ▸ hg.step hen il
  obtain ⟨LS, h_LS⟩ : ∃ LS, (Pa.types ts il (ts.length + 1) sa).1 = LS := ⟨_, rfl⟩
  obtain ⟨sT, h_sT⟩ : ∃ sT, (Pa.types ts il (ts.length + 1) sa).2 = sT := ⟨_, rfl⟩
  have g_sT : Pa.Good ts (k + 3) sT := h_sT ▸ types_good hen (ts.length + 1) (k + 3) _ (g_sa.mono (by omega)) (by omega)
  obtain ⟨sq, h_sq⟩ : ∃ sq, Pa.must ts sT [80, 82, 79, 71, 82, 65, 77] = sq := ⟨_, rfl⟩
  have H1 := Lib.hid (fun W (hW : Par W b g cap ts sT) => pMust_at (x := ⟨#[80, 82, 79, 71, 82, 65, 77]⟩) h_sq g_sT.1 (by have := g_sT.2; omega) W hW)
  have g_sq : Pa.Good ts (k + 3) sq := h_sq ▸ g_sT.must hen _
  obtain ⟨n, h_n⟩ : ∃ n, T ts sq = n := ⟨_, rfl⟩
  have HTn := Lib.hid (fun W (hW : Par W b g cap ts sq) => pT_at h_n g_sq.1 W hW)
  obtain ⟨sn, h_sn⟩ : ∃ sn, Pa.name ts sq = sn := ⟨_, rfl⟩
  have H2 := Lib.hid (fun W (hW : Par W b g cap ts sq) => pName_at h_n h_sn g_sq.1 (by have := g_sq.2; omega) W hW)
  have g_sn : Pa.Good ts (k + 4) sn := h_sn ▸ g_sq.name hen
  obtain ⟨LV, h_LV⟩ : ∃ LV, (Pa.vars ts il (ts.length + 1) sn).1 = LV := ⟨_, rfl⟩
  obtain ⟨sV, h_sV⟩ : ∃ sV, (Pa.vars ts il (ts.length + 1) sn).2 = sV := ⟨_, rfl⟩
  unfold Pa.decls Pa.sPROGRAM at hr
  simp only [h_sa, h_LS, h_sT, h_sq, h_n, h_sn, h_LV, h_sV] at hr
  injection hr with hr1 hr2
  have HP := Lib.hid hr1
  subst hr2
  clear hr1
  have HGA := Lib.hid g_sa
  have HGN := Lib.hid g_sn
  have HLE := Lib.hid hle
  have HEN := Lib.hid hen
  have HK := Lib.hid hk
  have HTY := Lib.hid (And.intro h_LS h_sT)
  have HVA := Lib.hid (And.intro h_LV h_sV)
  have n1 : w.heap.size ≠ b := by omega
  have nO : w.heap.size + 1 ≠ b := by omega
  have hRO : w.heap.size ≠ w.heap.size + 1 := by omega
  obtain ⟨i0, hi, hz0, hz1, hz2⟩ := info_parts varInfo
  have HI := Lib.hid (And.intro hi (And.intro hz0 (And.intro hz1 hz2)))
  clear hi hz0 hz1 hz2
  obtain ⟨i1, hi, hz0, hz1, hz2⟩ := info_parts structInfo
  have HJ := Lib.hid (And.intro hi (And.intro hz0 (And.intro hz1 hz2)))
  clear hi hz0 hz1 hz2
  obtain ⟨ntk, nkd, nnn, ntx, nta⟩ := n
  simp only [tokV] at H2
  clear hx hg hk hle hen HTn h_sa h_LS h_sT h_sq h_n h_sn h_LV h_sV g_sa g_sT g_sq g_sn
  go_enter Tryz.func47, Tryz.ntmps47
  go_wp2_with fail
  refine (H0.out _ ((F0.out.alloc _).alloc _).par).mono ?_
  rintro e w1 ⟨rfl, ho, hp⟩
  have F1 := Lib.hid (((F0.out.alloc _).alloc _).call ho hp)
  have R1 := Lib.hid (((Bl.new w _ _).alloc _).only ho n1)
  have O1 := Lib.hid ((Bl.newAt (X := w.heap.size + 1) _ (by simp)).only ho nO)
  have hlo : w.heap.size + 2 ≤ w1.heap.size := by have := O1.out.lt; omega
  have G1 := Lib.hid (GR.start (E := SVals) (T := 64) (sz := 3) w1 hlo)
  clear ho hp
  go_wp2_with fail
  go_loopw [] (fun wr => RRel (∃ (f : Nat) (sp : PS) (acc : List PStruct) (cs : List Value) (fv : Value), Hid (Pa.Good ts (k + 6) sp) ∧ Hid (sp.err = 0 → ts.length < sp.i + f) ∧ Hid (acc ++ (Pa.types ts il f sp).1 = LS ∧ (Pa.types ts il f sp).2 = sT) ∧ Hid (acc.length ≤ sp.i) ∧
    Hid (Fr w b g cap ts sp wr) ∧ Hid (Bl wr w.heap.size #[.string ⟨#[]⟩, .slice none 0 0, .slice none 0 0, .bool false, .slice none 0 0, .slice none 0 0] 28) ∧ Hid (Bl wr (w.heap.size + 1) #[.string ⟨#[]⟩, fv, .slice none 0 0, .bool il, .slice none 0 0, .slice none 0 0] 28) ∧ Hid (GR SVals 64 3 (w.heap.size + 2) wr fv acc cs))) (fun wr => 200000 - (intOf ((wr.cell? ⟨b, 1, none⟩).getD undef)).toNat)
  case atStart =>
    exact RRel.mk ⟨ts.length + 1, sa, [], [], .slice none 0 0, Lib.hid (HGA.out.mono (by omega)), Lib.hid (fun _ => by omega), Lib.hid (by simpa using HTY.out), Lib.hid (by simp), F1, R1, O1, G1⟩
  case round =>
    obtain ⟨f, sp, acc, cs, fv, HGP, HF, HTO, HAL, F2, R2, O2, G2⟩ := hrel.it
    clear hrel F1 R1 O1 G1 H0 HGA HTY
    obtain ⟨w2, rfl⟩ : ∃ w2, w2 = wr := ⟨_, rfl⟩
    have hgp := HGP.out
    have hbp : sp.i ≤ 200000 := by have := hgp.2; have := HLE.out; have := HK.out; omega
    obtain ⟨q, h_q⟩ : ∃ q, is ts sp [84, 89, 80, 69] = q := ⟨_, rfl⟩
    obtain ⟨se, h_se⟩ : ∃ se, (if q = true then up sp else sp) = se := ⟨_, rfl⟩
    have he : eat ts sp [84, 89, 80, 69] = (q, se) := by
      unfold eat
      rw [h_q, ← h_se]
      cases q <;> rfl
    have HE := Lib.hid (fun W (hW : Par W b g cap ts sp) => pEat_at (x := ⟨#[84, 89, 80, 69]⟩) he hgp.1 hbp W hW)
    obtain ⟨va, vn, vc9, rfl, hfn⟩ := G2.out.form
    subst hfn
    clear he hbp
    cases q with
    | true =>
      rw [if_pos rfl] at h_se
      have hsp0 := is_err h_q
      have hspi := hgp.1 hsp0
      obtain ⟨f', rfl⟩ : ∃ f', f = f' + 1 := ⟨f - 1, by have := HF.out hsp0; omega⟩
      have HEQ := Lib.hid (types_next (il := il) (f := f') h_q)
      rw [h_se] at HEQ
      obtain ⟨A1, h_A1⟩ : ∃ A1, (Pa.items ts il Pa.sEND_TYPE (Pa.structure_ ts il) (ts.length + 1) se).1 = A1 := ⟨_, rfl⟩
      obtain ⟨A2, h_A2⟩ : ∃ A2, (Pa.items ts il Pa.sEND_TYPE (Pa.structure_ ts il) (ts.length + 1) se).2 = A2 := ⟨_, rfl⟩
      rw [h_A1, h_A2] at HEQ
      have gse : Pa.Good ts (k + 0) se := h_se ▸ ((hgp.zero hsp0).up HEN.out (is_tok h_q)).mono (by omega)
      have hen := HEN.out
      have hle := HLE.out
      have hk := HK.out
      have gA2 : Pa.Good ts (k + 3) A2 := h_A2 ▸ items_good (c := 2) hen (fun k s hs => hs.structure_ hen il) (ts.length + 1) (k + 3) _ (gse.mono (by omega)) (by omega)
      obtain ⟨sm, h_sm⟩ : ∃ sm, Pa.must ts A2 [69, 78, 68, 95, 84, 89, 80, 69] = sm := ⟨_, rfl⟩
      have J1 := Lib.hid (fun W (hW : Par W b g cap ts A2) => pMust_at (x := ⟨#[69, 78, 68, 95, 84, 89, 80, 69]⟩) h_sm gA2.1 (by have := gA2.2; omega) W hW)
      have gsm : Pa.Good ts (k + 3) sm := h_sm ▸ gA2.must hen _
      obtain ⟨sx, h_sx⟩ : ∃ sx, Pa.step ts il sm = sx := ⟨_, rfl⟩
      have J2 := Lib.hid (fun W (hW : Par W b g cap ts sm) => pstep_at h_sx (gsm.mono (by omega)) W hW)
      have HGX := Lib.hid (h_sx ▸ gsm.step hen il : Pa.Good ts (k + 3) sx)
      have J0 := Lib.hid (fun W (hW : Par W b g cap ts se) => pstep_at (il := il) rfl (gse.mono (by omega)) W hW)
      have hA2i : se.i ≤ A2.i := by rw [← h_A2]; exact le_items ts il _ _ (fun s => Nat.le_trans (Nat.le_succ _) (le_structure ts il s)) _ se
      have HXI : Hid (sp.i + 1 ≤ sx.i ∧ A2.i ≤ sx.i) := Lib.hid (by
        have h1 : se.i = sp.i + 1 := by rw [← h_se]; rfl
        have h2 := le_must ts A2 [69, 78, 68, 95, 84, 89, 80, 69]
        have h3 := le_step ts il sm
        rw [h_sm] at h2
        rw [h_sx] at h3
        omega)
      have HTX : Hid (acc ++ A1 ++ (Pa.types ts il f' sx).1 = LS ∧ (Pa.types ts il f' sx).2 = sT) := Lib.hid (by
        have h1 := HTO.out
        have h2 := HEQ.out
        unfold Pa.sEND_TYPE at h2
        rw [h_sm, h_sx] at h2
        rw [h2] at h1
        simpa using h1)
      have HFX : Hid (sx.err = 0 → ts.length < sx.i + f') := Lib.hid (fun _ => by have h1 := HF.out hsp0; have h2 := HXI.out.1; omega)
      have HA := Lib.hid (And.intro h_A1 h_A2)
      have HGE := Lib.hid gse
      have HSE : Hid (se.i = sp.i + 1) := Lib.hid (by rw [← h_se]; rfl)
      have hm9 : sp.i < 200000 := by omega
      have HAC := Lib.hid HAL.out
      go_wp2_with fail
      refine (HE.out _ F2.out.par).mono ?_
      rintro e w3 ⟨rfl, ho, hp⟩
      have F3 := Lib.hid (F2.out.call ho hp)
      have R3 := Lib.hid (R2.out.only ho n1)
      have O3 := Lib.hid (O2.out.only ho nO)
      have G3 := Lib.hid (G2.out.only keepS (by omega) ho)
      clear ho hp
      go_wp2_with fail
      refine (J0.out _ F3.out.par).mono ?_
      rintro e w4 ⟨rfl, ho, hp⟩
      have F4 := Lib.hid (F3.out.call ho hp)
      have R4 := Lib.hid (R3.out.only ho n1)
      have O4 := Lib.hid (O3.out.only ho nO)
      have G4 := Lib.hid (G3.out.only keepS (by omega) ho)
      clear ho hp
      go_wp2_with fail
      go_loopw [] (fun wr2 => RRel (∃ (f2 : Nat) (sp2 : PS) (acc2 : List PStruct) (cs2 : List Value) (fv2 : Value), Hid (Pa.Good ts (k + 6) sp2) ∧ Hid (sp2.err = 0 → ts.length < sp2.i + f2) ∧ Hid (acc2 ++ (Pa.items ts il [69, 78, 68, 95, 84, 89, 80, 69] (Pa.structure_ ts il) f2 sp2).1 = acc ++ A1 ∧ (Pa.items ts il [69, 78, 68, 95, 84, 89, 80, 69] (Pa.structure_ ts il) f2 sp2).2 = A2) ∧ Hid (acc2.length ≤ sp2.i) ∧
        Hid (Fr w b g cap ts (Pa.step ts il sp2) wr2) ∧ Hid (Bl wr2 w.heap.size #[.string ⟨#[]⟩, .slice none 0 0, .slice none 0 0, .bool false, .slice none 0 0, .slice none 0 0] 28) ∧ Hid (Bl wr2 (w.heap.size + 1) #[.string ⟨#[]⟩, fv2, .slice none 0 0, .bool il, .slice none 0 0, .slice none 0 0] 28) ∧ Hid (GR SVals 64 3 (w.heap.size + 2) wr2 fv2 acc2 cs2))) (fun wr2 => 200000 - (intOf ((wr2.cell? ⟨b, 1, none⟩).getD undef)).toNat)
      case atStart =>
        exact RRel.mk ⟨ts.length + 1, se, acc, cs, .slice va acc.length vc9, Lib.hid (HGE.out.mono (by omega)), Lib.hid (fun _ => by omega), Lib.hid (by have h1 := HA.out; unfold Pa.sEND_TYPE at h1; rw [h1.1, h1.2]; exact ⟨rfl, rfl⟩), Lib.hid (by have h1 := HAC.out; have h2 := HSE.out; omega), F4, R4, O4, G4⟩
      case round =>
        obtain ⟨f2, sp2, acc2, cs2, fv2, HGP2, HF2, HTO2, HAL2, F10, R10, O10, G10⟩ := hrel.it
        clear hrel J0 HGE HA HSE
        obtain ⟨w10, rfl⟩ : ∃ w10, w10 = wr := ⟨_, rfl⟩
        obtain ⟨sh, h_sh⟩ : ∃ sh, Pa.step ts il sp2 = sh := ⟨_, rfl⟩
        rw [h_sh] at F10
        have g_sh : Pa.Good ts (k + 6) sh := h_sh ▸ HGP2.out.step HEN.out il
        have hesp : sh.err = sp2.err := by rw [← h_sh]; exact step_err ts il sp2
        have hisp : sp2.i ≤ sh.i := by rw [← h_sh]; exact le_step ts il sp2
        obtain ⟨q2, h_q2⟩ : ∃ q2, is ts sh [69, 78, 68, 95, 84, 89, 80, 69] = q2 := ⟨_, rfl⟩
        have HQ := Lib.hid (fun W (hW : Par W b g cap ts sh) => pIs_at (x := ⟨#[69, 78, 68, 95, 84, 89, 80, 69]⟩) h_q2 g_sh.1 W hW)
        obtain ⟨-, d1, d2, -, -, -, -⟩ := F10.out.par.pb.cells
        have k1 := F10.out.par.pb.lt
        obtain ⟨vb, vm, vd9, rfl, hfn⟩ := G10.out.form
        subst hfn
        by_cases h0 : sh.err = 0
        · rw [h0] at d2
          cases q2 with
          | true =>
            have HEQ3 := Lib.hid (items_end (one := (Pa.structure_ ts il)) (f := f2) (s := sp2) (stop := [69, 78, 68, 95, 84, 89, 80, 69]) (.inr (by rw [h_sh]; exact h_q2)))
            have HEQ4 := Lib.hid (show acc2 = acc ++ A1 ∧ sh = A2 by
              have h1 := HTO2.out
              rw [HEQ3.out, h_sh] at h1
              simpa using h1)
            obtain ⟨h1, h2⟩ := HEQ4.out
            have HAL3 : Hid (acc2.length ≤ sx.i) := Lib.hid (by have a1 := HAL2.out; have a2 := HXI.out.2; rw [← h2] at a2; omega)
            subst h1 h2
            clear HEQ4 HEQ3 HTO2 HF2 HAL2 HGP2 h_sh h_q2 g_sh hesp hisp h0
            go_wp2_with fail
            refine (HQ.out _ F10.out.par).mono ?_
            rintro e w11 ⟨rfl, hb⟩
            have F11 := Lib.hid (F10.out.below hb)
            have R11 := Lib.hid (R10.out.below hb)
            have O11 := Lib.hid (O10.out.below hb)
            have G11 := Lib.hid (G10.out.below keepS (by omega) hb)
            clear hb
            clear d1 d2 k1
            go_wp2_with fail
            refine (J1.out _ F11.out.par).mono ?_
            rintro e w12 ⟨rfl, ho, hp⟩
            have F12 := Lib.hid (F11.out.call ho hp)
            have R12 := Lib.hid (R11.out.only ho n1)
            have O12 := Lib.hid (O11.out.only ho nO)
            have G12 := Lib.hid (G11.out.only keepS (by omega) ho)
            clear ho hp
            go_wp2_with fail
            refine (J2.out _ F12.out.par).mono ?_
            rintro e w13 ⟨rfl, ho, hp⟩
            have F13 := Lib.hid (F12.out.call ho hp)
            have R13 := Lib.hid (R12.out.only ho n1)
            have O13 := Lib.hid (O12.out.only ho nO)
            have G13 := Lib.hid (G12.out.only keepS (by omega) ho)
            clear ho hp
            go_wp2_with fail
            go_roundw
            case rel => exact RRel.mk ⟨f', sx, acc ++ A1, cs2, .slice vb (acc ++ A1).length vd9, Lib.hid (HGX.out.mono (by omega)), HFX, HTX, HAL3, F13, R13, O13, G13⟩
            case measure =>
              have q1 := F13.out.par.pb.cells.2.1
              have q2 := F2.out.par.pb.cells.2.1
              have q3 := HXI.out.1
              simp [q1, q2, intOf]; omega
          | false =>
            obtain ⟨f2', rfl⟩ : ∃ f', f2 = f' + 1 := ⟨f2 - 1, by have := HF2.out (by rw [← hesp]; exact h0); have := g_sh.1 h0; omega⟩
            have HEQ3 := Lib.hid (items_next (one := (Pa.structure_ ts il)) (f := f2') (s := sp2) (stop := [69, 78, 68, 95, 84, 89, 80, 69]) (by rw [h_sh]; exact h0) (by rw [h_sh]; exact h_q2))
            have gz : Pa.Good ts (k + 0) sh := (g_sh.zero h0).mono (by omega)
            have hen := HEN.out
            obtain ⟨pe, h_pe⟩ : ∃ pe, ((Pa.structure_ ts il) sh).1 = pe := ⟨_, rfl⟩
            obtain ⟨r2, h_r2⟩ : ∃ r2, ((Pa.structure_ ts il) sh).2 = r2 := ⟨_, rfl⟩
            have HST := Lib.hid (fun W (hW : Par W b g cap ts sh) => pstructure_at (p := pe) (s' := r2) (il := il) (by rw [← h_pe, ← h_r2]) gz (by omega) W hW)
            have gr2 : Pa.Good ts (k + 4) r2 := h_r2 ▸ (gz.structure_ hen il).mono (by omega)
            have J3 := Lib.hid (fun W (hW : Par W b g cap ts r2) => pstep_at (il := il) rfl (gr2.mono (by omega)) W hW)
            have hri : sh.i + 1 ≤ r2.i := by rw [← h_r2]; exact le_structure ts il sh
            have HLF : Hid (sh.i + 1 ≤ (Pa.step ts il r2).i) := Lib.hid (Nat.le_trans hri (le_step ts il r2))
            have HG5 := Lib.hid gr2
            have HER : Hid (r2.err = 0 → ts.length < r2.i + f2') := Lib.hid (fun _ => by
              have h1 := HF2.out (by rw [← hesp]; exact h0)
              omega)
            have HTN : Hid ((acc2 ++ [pe]) ++ (Pa.items ts il [69, 78, 68, 95, 84, 89, 80, 69] (Pa.structure_ ts il) f2' r2).1 = acc ++ A1 ∧ (Pa.items ts il [69, 78, 68, 95, 84, 89, 80, 69] (Pa.structure_ ts il) f2' r2).2 = A2) := Lib.hid (by
              have h1 := HTO2.out
              rw [HEQ3.out, h_sh, h_pe, h_r2] at h1
              simpa using h1)
            have HAL4 : Hid (acc2.length + 1 ≤ r2.i) := Lib.hid (by have h1 := HAL2.out; omega)
            have hacc : acc2.length ≤ 200000 := by have h1 := HAL2.out; have h2 := HGP2.out.2; omega
            have hm8 : sh.i < 200000 := by have := g_sh.1 h0; omega
            have kfl : ∀ k, (Value.slice vb acc2.length vd9).ownBlock = some k → (w.heap.size + 2) ≤ k := fun k hk => (G10.out.own.lt k hk).1
            have KFL := Lib.hid kfl
            have KNO : Hid (some (w.heap.size + 1) ≠ (Value.slice vb acc2.length vd9).ownBlock) := Lib.hid (fun h => by have := kfl _ h.symm; omega)
            have KNR : Hid (some w.heap.size ≠ (Value.slice vb acc2.length vd9).ownBlock) := Lib.hid (fun h => by have := kfl _ h.symm; omega)
            clear kfl HTO2 HEQ3 HF2 HAL2 HGP2 h_pe h_r2 gr2 gz h_sh h_q2 g_sh hesp hisp h0
            go_wp2_with fail
            refine (HQ.out _ F10.out.par).mono ?_
            rintro e w11 ⟨rfl, hb⟩
            have F11 := Lib.hid (F10.out.below hb)
            have R11 := Lib.hid (R10.out.below hb)
            have O11 := Lib.hid (O10.out.below hb)
            have G11 := Lib.hid (G10.out.below keepS (by omega) hb)
            clear hb
            clear d1 d2 k1
            have KFV := Lib.hid G11.out.lt
            obtain ⟨-, o0, -, -, -, -⟩ := O11.out.cells6
            have k3 := O11.out.lt
            go_upto_region 7 with fail
            go_region_law (first
                | (go_simp; go_at_call 83; refine (HST.out _ F11.out.drew.par).mono ?_; rintro e w12 ⟨row, rfl, hd, ho, hp⟩; obtain ⟨nm9, sa9, sl9, sc9, ta9, rfl⟩ := hd.shape; have D := Lib.hid hd; have kmid : w11.heap.size ≤ w12.heap.size := ho.size; have KM := Lib.hid kmid; clear kmid; have F12 := Lib.hid (F11.out.drew.call ho hp); have R12 := Lib.hid (R11.out.drew.only ho n1); have O12 := Lib.hid (O11.out.drew.only ho nO); have G12 := Lib.hid ((G11.out.below keepS (by omega) (Below.refl _ _).drew).only keepS (by omega) ho); have o1 := O12.out.cells6.2.1; have k6 := O12.out.lt; clear hd ho hp)
                | (refine step_append_lies _ (by rfl) _ _ _ (by rfl) (w.heap.size + 2) 64 i1 _ 3 48 Tryz.underlying23 HJ.out.1 HJ.out.2.1 HJ.out.2.2.1 HJ.out.2.2.2 rfl (by omega) (.slice vb acc2.length vd9) acc2.length cs2 (by rfl) (G12.out.alloc keepS (by omega) _).own ⟨w12.heap.size, 0, none⟩ 1 1 [.string nm9, .slice sa9 sl9 sc9, .int .i64 ta9] (by rfl) (by rfl) (World.news_of_block (cs := #[.string nm9, .slice sa9 sl9 sc9, .int .i64 ta9]) (t := 64) (fr := (0, 0)) (heap_alloc_new _ _)) (by simp [Value.oneCell']) (by omega) (by simp only [maxLen]; omega) (by omega) (by have := KM.out; have := G11.out.le; simp; omega) (w12.heap.size + 1) (by simp) ?_; intro g9 cp w13 hown hgrow hat hlt9; have O13 := Lib.hid ((O12.out.alloc _).grown hgrow KNO.out); have R13 := Lib.hid ((R12.out.alloc _).grown hgrow KNR.out); have F13 := Lib.hid ((F12.out.alloc _).grown hgrow (fun k hk => by have := KFL.out k hk; omega)); have G13 := Lib.hid (G12.out.app keepS D.out (by exact G11.out.le) (fun k hk => KFV.out k hk) ((Below.refl _ _).alloc (Nat.le_refl _) _) hgrow hown (hat.imp id (fun h => by simp; omega))); have o2 := O13.out.cells6.2.1; have g2 := O13.out.free6.2.1; have k5 := O13.out.lt; clear hown hgrow hat hlt9))
            all_goals
              go_wp2_with fail
              refine (J3.out _ (F13.out.far (X := (w.heap.size + 1)) (by omega) _ _).par).mono ?_
              rintro e w14 ⟨rfl, ho, hp⟩
              have F14 := Lib.hid ((F13.out.far (X := (w.heap.size + 1)) (by omega) _ _).call ho hp)
              have R14 := Lib.hid ((R13.out.other hRO _ _).only ho n1)
              have O14 := Lib.hid (Bl.only (vs := #[.string ⟨#[]⟩, .slice (some ⟨g9, 0, none⟩) (acc2.length + 1) cp, .slice none 0 0, .bool il, .slice none 0 0, .slice none 0 0]) (by simpa using O13.out.set 1 _) ho nO)
              have G14 := Lib.hid ((G13.out.set (X := (w.heap.size + 1)) keepS (by omega) _ _).only keepS (by omega) ho)
              clear ho hp
              go_wp2_with fail
              go_roundw
              case rel => exact RRel.mk ⟨f2', r2, acc2 ++ [pe], _, .slice (some ⟨g9, 0, none⟩) (acc2.length + 1) cp, Lib.hid (HG5.out.mono (by omega)), HER, HTN, Lib.hid (by simpa using HAL4.out), F14, R14, O14, G14⟩
              case measure =>
                have q1 := F14.out.par.pb.cells.2.1
                have q2 := F10.out.par.pb.cells.2.1
                have q3 := HLF.out
                simp [q1, q2, intOf]; omega
        · have e0 : (sh.err == 0) = false := by simp [h0]
          have HEQ3 := Lib.hid (items_end (one := (Pa.structure_ ts il)) (f := f2) (s := sp2) (stop := [69, 78, 68, 95, 84, 89, 80, 69]) (.inl (by rw [h_sh]; exact h0)))
          have HEQ4 := Lib.hid (show acc2 = acc ++ A1 ∧ sh = A2 by
            have h1 := HTO2.out
            rw [HEQ3.out, h_sh] at h1
            simpa using h1)
          obtain ⟨h1, h2⟩ := HEQ4.out
          have HAL3 : Hid (acc2.length ≤ sx.i) := Lib.hid (by have a1 := HAL2.out; have a2 := HXI.out.2; rw [← h2] at a2; omega)
          subst h1 h2
          clear HEQ4 HEQ3 HTO2 HF2 HAL2 HGP2 h_sh h_q2 g_sh hesp hisp h0
          clear d1
          go_wp2_with fail
          refine (J1.out _ F10.out.par).mono ?_
          rintro e w11 ⟨rfl, ho, hp⟩
          have F11 := Lib.hid (F10.out.call ho hp)
          have R11 := Lib.hid (R10.out.only ho n1)
          have O11 := Lib.hid (O10.out.only ho nO)
          have G11 := Lib.hid (G10.out.only keepS (by omega) ho)
          clear ho hp
          go_wp2_with fail
          refine (J2.out _ F11.out.par).mono ?_
          rintro e w12 ⟨rfl, ho, hp⟩
          have F12 := Lib.hid (F11.out.call ho hp)
          have R12 := Lib.hid (R11.out.only ho n1)
          have O12 := Lib.hid (O11.out.only ho nO)
          have G12 := Lib.hid (G11.out.only keepS (by omega) ho)
          clear ho hp
          go_wp2_with fail
          go_roundw
          case rel => exact RRel.mk ⟨f', sx, acc ++ A1, cs2, .slice vb (acc ++ A1).length vd9, Lib.hid (HGX.out.mono (by omega)), HFX, HTX, HAL3, F12, R12, O12, G12⟩
          case measure =>
            have q1 := F12.out.par.pb.cells.2.1
            have q2 := F2.out.par.pb.cells.2.1
            have q3 := HXI.out.1
            simp [q1, q2, intOf]; omega
    | false =>
      rw [if_neg (by simp)] at h_se
      subst h_se
      have HEQ := Lib.hid (types_end (ts := ts) (il := il) (f := f) h_q)
      have HEQ2 := Lib.hid (show acc = LS ∧ sp = sT by
        have h1 := HTO.out
        rw [HEQ.out] at h1
        simpa using h1)
      obtain ⟨h1, h2⟩ := HEQ2.out
      subst h1 h2
      clear HEQ2 HEQ HTO HF HAL HGP hgp h_q
      go_wp2_with fail
      refine (HE.out _ F2.out.par).mono ?_
      rintro e w3 ⟨rfl, ho, hp⟩
      have F3 := Lib.hid (F2.out.call ho hp)
      have R3 := Lib.hid (R2.out.only ho n1)
      have O3 := Lib.hid (O2.out.only ho nO)
      have G3 := Lib.hid (G2.out.only keepS (by omega) ho)
      clear ho hp
      go_wp2_with fail
      refine (H1.out _ F3.out.par).mono ?_
      rintro e w4 ⟨rfl, ho, hp⟩
      have F4 := Lib.hid (F3.out.call ho hp)
      have R4 := Lib.hid (R3.out.only ho n1)
      have O4 := Lib.hid (O3.out.only ho nO)
      have G4 := Lib.hid (G3.out.only keepS (by omega) ho)
      clear ho hp
      go_wp2_with fail
      refine (H2.out _ F4.out.par).mono ?_
      rintro e w5 ⟨rfl, ho, hp⟩
      have F5 := Lib.hid (F4.out.call ho hp)
      have R5 := Lib.hid (R4.out.only ho n1)
      have O5 := Lib.hid (O4.out.only ho nO)
      have G5 := Lib.hid (G4.out.only keepS (by omega) ho)
      clear ho hp
      obtain ⟨r0, -, -, -, -, -⟩ := O5.out.cells6
      obtain ⟨g0, -, -, -, -, -⟩ := O5.out.free6
      have k2 := O5.out.lt
      have hf3 := tok_field3
      go_wp2_with fail
      refine gen_world (P := Code.wp _ _ _ _) (F := fun W => Fr w b g cap ts sn W ∧ Bl W w.heap.size #[.string ⟨#[]⟩, .slice none 0 0, .slice none 0 0, .bool false, .slice none 0 0, .slice none 0 0] 28 ∧ Bl W (w.heap.size + 1) #[.string ⟨ntx.toArray⟩, .slice va acc.length vc9, .slice none 0 0, .bool il, .slice none 0 0, .slice none 0 0] 28 ∧ GR SVals 64 3 (w.heap.size + 2) W (.slice va acc.length vc9) acc cs)
        ⟨F5.out.far (by omega) _ _, R5.out.other hRO _ _, by simpa using O5.out.set 0 _, G5.out.set keepS (by omega) _ _⟩ ?_
      clear r0 g0 k2 hf3 F2 R2 O2 G2 F3 R3 O3 G3 F4 R4 O4 G4 F5 R5 O5 G5 H1 H2
      obtain ⟨accS, rfl⟩ : ∃ x, x = acc := ⟨_, rfl⟩
      obtain ⟨csS, rfl⟩ : ∃ x, x = cs := ⟨_, rfl⟩
      intro w6 ⟨F6, R6, O6, G6⟩
      have hlo6 : w.heap.size + 2 ≤ w6.heap.size := G6.le
      have HZ := Lib.hid (G6.slice keepS (n0 := w.heap.size + 2) (Nat.le_refl _))
      have F6 := Lib.hid F6
      have R6 := Lib.hid R6
      have O6 := Lib.hid O6
      have M6 := Lib.hid (Mid.refl (lo := w.heap.size + 2) (Nat.le_refl w6.heap.size))
      have G6 := Lib.hid (GR.start (E := VVals) (T := 54) (sz := 10) w6 (Nat.le_refl _))
      go_loopw [] (fun wr => RRel (∃ (f : Nat) (sp : PS) (acc : List PVar) (cs : List Value) (fv : Value), Hid (Pa.Good ts (k + 6) sp) ∧ Hid (sp.err = 0 → ts.length < sp.i + f) ∧ Hid (acc ++ (Pa.vars ts il f sp).1 = LV ∧ (Pa.vars ts il f sp).2 = sV) ∧ Hid (acc.length ≤ sp.i) ∧
        Hid (Fr w b g cap ts sp wr) ∧ Hid (Bl wr w.heap.size #[.string ⟨#[]⟩, .slice none 0 0, .slice none 0 0, .bool false, .slice none 0 0, .slice none 0 0] 28) ∧ Hid (Bl wr (w.heap.size + 1) #[.string ⟨ntx.toArray⟩, .slice va accS.length vc9, fv, .bool il, .slice none 0 0, .slice none 0 0] 28) ∧ Hid (GR VVals 54 10 w6.heap.size wr fv acc cs) ∧ Hid (Mid (w.heap.size + 2) w6.heap.size w6 wr))) (fun wr => 200000 - (intOf ((wr.cell? ⟨b, 1, none⟩).getD undef)).toNat)
      case atStart =>
        exact RRel.mk ⟨ts.length + 1, sn, [], [], .slice none 0 0, Lib.hid (HGN.out.mono (by omega)), Lib.hid (fun _ => by omega), Lib.hid (by simpa using HVA.out), Lib.hid (by simp), F6, R6, O6, G6, M6⟩
      case round =>
        obtain ⟨f, sp, acc, cs, fv, HGP, HF, HTO, HAL, F2, R2, O2, G2, M2⟩ := hrel.it
        clear hrel F6 R6 O6 G6 M6 HGN HVA
        obtain ⟨w2, rfl⟩ : ∃ w2, w2 = wr := ⟨_, rfl⟩
        have hgp := HGP.out
        have hen := HEN.out
        have hle := HLE.out
        have hk := HK.out
        obtain ⟨t1, h_t1⟩ : ∃ t1, Pa.step ts il sp = t1 := ⟨_, rfl⟩
        have g_t1 : Pa.Good ts (k + 6) t1 := h_t1 ▸ hgp.step hen il
        have het : t1.err = sp.err := by rw [← h_t1]; exact step_err ts il sp
        have hit : sp.i ≤ t1.i := by rw [← h_t1]; exact le_step ts il sp
        obtain ⟨q, h_q⟩ : ∃ q, is ts t1 [86, 65, 82] = q := ⟨_, rfl⟩
        have HQ := Lib.hid (fun W (hW : Par W b g cap ts t1) => pIs_at (x := ⟨#[86, 65, 82]⟩) h_q g_t1.1 W hW)
        obtain ⟨va2, vn, vc2, rfl, hfn⟩ := G2.out.form
        subst hfn
        have H1 := Lib.hid h_t1
        have HQE : Hid (q = false → acc = LV ∧ sp = sV) := Lib.hid (fun hq => by
          have h1 := HTO.out
          rw [types_end_v (f := f) (by rw [h_t1, h_q, hq])] at h1
          simpa using h1)
        have HHQ := Lib.hid h_q
        have HGT := Lib.hid g_t1
        clear hgp h_q g_t1
        go_upto_if 51 with fail
        go_cut [] from 50 to 103 (fun wx => Hid (q = true) ∧ Fr w b g cap ts t1 wx ∧ Bl wx w.heap.size #[.string ⟨#[]⟩, .slice none 0 0, .slice none 0 0, .bool false, .slice none 0 0, .slice none 0 0] 28 ∧ Bl wx (w.heap.size + 1) #[.string ⟨ntx.toArray⟩, .slice va accS.length vc9, .slice va2 acc.length vc2, .bool il, .slice none 0 0, .slice none 0 0] 28 ∧ GR VVals 54 10 w6.heap.size wx (.slice va2 acc.length vc2) acc cs ∧ Mid (w.heap.size + 2) w6.heap.size w6 wx)
        case first =>
          cases il with
          | false =>
            have h1 : sp = t1 := H1.out
            subst h1
            clear H1 het hit
            cases q with
            | true =>
              go_wp2_with fail
              refine (HQ.out _ F2.out.par).mono ?_
              rintro e w3 ⟨rfl, hb⟩
              have F3 := Lib.hid (F2.out.below hb)
              have R3 := Lib.hid (R2.out.below hb)
              have O3 := Lib.hid (O2.out.below hb)
              have G3 := Lib.hid (G2.out.below keepV (by omega) hb)
              have M3 := Lib.hid (M2.out.below hb)
              clear hb
              go_wp2_with fail
              go_meet
              exact ⟨by first | exact Lib.hid rfl | exact Lib.hid trivial, F3.out, R3.out, O3.out, G3.out, M3.out⟩
            | false =>
              go_wp2_with fail
              refine (HQ.out _ F2.out.par).mono ?_
              rintro e w3 ⟨rfl, hb⟩
              have F3 := Lib.hid (F2.out.below hb)
              have R3 := Lib.hid (R2.out.below hb)
              have O3 := Lib.hid (O2.out.below hb)
              have G3 := Lib.hid (G2.out.below keepV (by omega) hb)
              have M3 := Lib.hid (M2.out.below hb)
              clear hb
              obtain ⟨h1, h2⟩ := HQE.out (by first | rfl | trivial)
              subst h1 h2
              obtain ⟨q0, q1, q2, q3, q4, q5⟩ := O3.out.cells6
              obtain ⟨r0, r1, r2, r3, r4, r5⟩ := R3.out.cells6
              obtain ⟨g0, g1, g2, g3, g4, g5⟩ := R3.out.free6
              have k2 := O3.out.lt
              have k3 := R3.out.lt
              go_wp2_with fail
              refine gen_world (P := bodyPost _ _ _ _ _) (F := fun W => Fr w b g cap ts sp W ∧ Bl W w.heap.size #[.string ⟨ntx.toArray⟩, .slice va accS.length vc9, .slice va2 acc.length vc2, .bool false, .slice none 0 0, .slice none 0 0] 28 ∧ GR VVals 54 10 w6.heap.size W (.slice va2 acc.length vc2) acc cs ∧ Mid (w.heap.size + 2) w6.heap.size w6 W)
                ⟨((((((F3.out.far (Nat.le_refl _) _ _).far (Nat.le_refl _) _ _).far (Nat.le_refl _) _ _).far (Nat.le_refl _) _ _).far (Nat.le_refl _) _ _).far (Nat.le_refl _) _ _), R3.out.set6, ((((((G3.out.set keepV (by omega) _ _).set keepV (by omega) _ _).set keepV (by omega) _ _).set keepV (by omega) _ _).set keepV (by omega) _ _).set keepV (by omega) _ _), ((((((M3.out.set (by omega) _ _).set (by omega) _ _).set (by omega) _ _).set (by omega) _ _).set (by omega) _ _).set (by omega) _ _)⟩ ?_
              clear q0 q1 q2 q3 q4 q5 r0 r1 r2 r3 r4 r5 g0 g1 g2 g3 g4 g5 k2 k3
              intro wz ⟨FZ, RZ, GZ, MZ⟩
              obtain ⟨r0, r1, r2, r3, r4, r5⟩ := RZ.cells6
              refine bodyPost_ret (v := .agg #[.string ⟨ntx.toArray⟩, .slice va accS.length vc9, .slice va2 acc.length vc2, .bool false, .slice none 0 0, .slice none 0 0]) (by simp [results, Tryz.results47, go_sem, *]) rfl ?_
              refine ⟨_, rfl, ?_, FZ.only, FZ.par⟩
              rw [← HP.out]
              obtain ⟨z1, z2⟩ := HZ.out
              obtain ⟨y1, y2⟩ := GZ.slice keepV (n0 := w.heap.size) (by omega)
              exact ⟨_, _, rfl, ⟨_, z1.keeps (MZ.keeps (by omega)), rows_S (z2.keeps keepS (MZ.keeps (by omega)))⟩, ⟨_, y1, rows_V y2⟩⟩
          | true =>
            have HLN := Lib.hid (fun W (hW : Par W b g cap ts sp) => plines_at (s' := t1) (by rw [← H1.out]; rfl) (HGP.out.mono (by omega)) W hW)
            have HSP : Hid ((⟨sp.i, t1.err, t1.at_⟩ : PS) = sp) := Lib.hid (by
              rw [← H1.out]
              show (⟨sp.i, (Pa.lines ts sp).err, (Pa.lines ts sp).at_⟩ : PS) = sp
              unfold Pa.lines
              split <;> rfl)
            obtain ⟨-, d1, -, -, -, -, -⟩ := F2.out.par.pb.cells
            have k1 := F2.out.par.pb.lt
            clear H1 het hit
            cases q with
            | true =>
              go_wp2_with fail
              refine (HLN.out _ F2.out.par).mono ?_
              rintro e w3 ⟨rfl, ho, hp⟩
              have F3 := Lib.hid (F2.out.call ho hp)
              have R3 := Lib.hid (R2.out.only ho n1)
              have O3 := Lib.hid (O2.out.only ho nO)
              have G3 := Lib.hid (G2.out.only keepV (by omega) ho)
              have M3 := Lib.hid (M2.out.only (by omega) ho)
              clear ho hp
              clear d1 k1
              go_wp2_with fail
              refine (HQ.out _ F3.out.par).mono ?_
              rintro e w4 ⟨rfl, hb⟩
              have F4 := Lib.hid (F3.out.below hb)
              have R4 := Lib.hid (R3.out.below hb)
              have O4 := Lib.hid (O3.out.below hb)
              have G4 := Lib.hid (G3.out.below keepV (by omega) hb)
              have M4 := Lib.hid (M3.out.below hb)
              clear hb
              go_wp2_with fail
              go_meet
              exact ⟨by first | exact Lib.hid rfl | exact Lib.hid trivial, F4.out, R4.out, O4.out, G4.out, M4.out⟩
            | false =>
              go_wp2_with fail
              refine (HLN.out _ F2.out.par).mono ?_
              rintro e w3 ⟨rfl, ho, hp⟩
              have F3 := Lib.hid (F2.out.call ho hp)
              have R3 := Lib.hid (R2.out.only ho n1)
              have O3 := Lib.hid (O2.out.only ho nO)
              have G3 := Lib.hid (G2.out.only keepV (by omega) ho)
              have M3 := Lib.hid (M2.out.only (by omega) ho)
              clear ho hp
              clear d1 k1
              go_wp2_with fail
              refine (HQ.out _ F3.out.par).mono ?_
              rintro e w4 ⟨rfl, hb⟩
              have F4 := Lib.hid (F3.out.below hb)
              have R4 := Lib.hid (R3.out.below hb)
              have O4 := Lib.hid (O3.out.below hb)
              have G4 := Lib.hid (G3.out.below keepV (by omega) hb)
              have M4 := Lib.hid (M3.out.below hb)
              clear hb
              obtain ⟨-, d1, -, -, f1, -, -⟩ := F4.out.par.pb.cells
              have k1 := F4.out.par.pb.lt
              go_upto_region 19 with fail
              refine gen_world (P := Code.wp _ _ _ _) (F := fun W => Fr w b g cap ts sp W ∧ Bl W w.heap.size #[.string ⟨#[]⟩, .slice none 0 0, .slice none 0 0, .bool false, .slice none 0 0, .slice none 0 0] 28 ∧ Bl W (w.heap.size + 1) #[.string ⟨ntx.toArray⟩, .slice va accS.length vc9, .slice va2 acc.length vc2, .bool true, .slice none 0 0, .slice none 0 0] 28 ∧ GR VVals 54 10 w6.heap.size W (.slice va2 acc.length vc2) acc cs ∧ Mid (w.heap.size + 2) w6.heap.size w6 W)
                ⟨HSP.out ▸ F4.out.set1 (i := sp.i) rfl, R4.out.other n1 _ _, O4.out.other nO _ _, G4.out.set keepV (by omega) _ _, M4.out.set (by omega) _ _⟩ ?_
              clear d1 f1 k1
              intro w5 ⟨F5, R5, O5, G5, M5⟩
              have F5 := Lib.hid F5
              have R5 := Lib.hid R5
              have O5 := Lib.hid O5
              have G5 := Lib.hid G5
              have M5 := Lib.hid M5
              obtain ⟨h1, h2⟩ := HQE.out (by first | rfl | trivial)
              subst h1 h2
              obtain ⟨q0, q1, q2, q3, q4, q5⟩ := O5.out.cells6
              obtain ⟨r0, r1, r2, r3, r4, r5⟩ := R5.out.cells6
              obtain ⟨g0, g1, g2, g3, g4, g5⟩ := R5.out.free6
              have k2 := O5.out.lt
              have k3 := R5.out.lt
              go_wp2_with fail
              refine gen_world (P := bodyPost _ _ _ _ _) (F := fun W => Fr w b g cap ts sp W ∧ Bl W w.heap.size #[.string ⟨ntx.toArray⟩, .slice va accS.length vc9, .slice va2 acc.length vc2, .bool true, .slice none 0 0, .slice none 0 0] 28 ∧ GR VVals 54 10 w6.heap.size W (.slice va2 acc.length vc2) acc cs ∧ Mid (w.heap.size + 2) w6.heap.size w6 W)
                ⟨((((((F5.out.far (Nat.le_refl _) _ _).far (Nat.le_refl _) _ _).far (Nat.le_refl _) _ _).far (Nat.le_refl _) _ _).far (Nat.le_refl _) _ _).far (Nat.le_refl _) _ _), R5.out.set6, ((((((G5.out.set keepV (by omega) _ _).set keepV (by omega) _ _).set keepV (by omega) _ _).set keepV (by omega) _ _).set keepV (by omega) _ _).set keepV (by omega) _ _), ((((((M5.out.set (by omega) _ _).set (by omega) _ _).set (by omega) _ _).set (by omega) _ _).set (by omega) _ _).set (by omega) _ _)⟩ ?_
              clear q0 q1 q2 q3 q4 q5 r0 r1 r2 r3 r4 r5 g0 g1 g2 g3 g4 g5 k2 k3
              intro wz ⟨FZ, RZ, GZ, MZ⟩
              obtain ⟨r0, r1, r2, r3, r4, r5⟩ := RZ.cells6
              refine bodyPost_ret (v := .agg #[.string ⟨ntx.toArray⟩, .slice va accS.length vc9, .slice va2 acc.length vc2, .bool true, .slice none 0 0, .slice none 0 0]) (by simp [results, Tryz.results47, go_sem, *]) rfl ?_
              refine ⟨_, rfl, ?_, FZ.only, FZ.par⟩
              rw [← HP.out]
              obtain ⟨z1, z2⟩ := HZ.out
              obtain ⟨y1, y2⟩ := GZ.slice keepV (n0 := w.heap.size) (by omega)
              exact ⟨_, _, rfl, ⟨_, z1.keeps (MZ.keeps (by omega)), rows_S (z2.keeps keepS (MZ.keeps (by omega)))⟩, ⟨_, y1, rows_V y2⟩⟩
        case rest =>
          obtain ⟨hq, F23, R23, O23, G23, M23⟩ := hcut
          obtain rfl : q = true := hq.out
          have F23 := Lib.hid F23
          have R23 := Lib.hid R23
          have O23 := Lib.hid O23
          have G23 := Lib.hid G23
          have M23 := Lib.hid M23
          have h_q := HHQ.out
          have ht0 := is_err h_q
          have hsp0 : sp.err = 0 := by rw [← het]; exact ht0
          have hspi := HGP.out.1 hsp0
          obtain ⟨f', rfl⟩ : ∃ f', f = f' + 1 := ⟨f - 1, by have := HF.out hsp0; omega⟩
          have g_t1 : Pa.Good ts (k + 0) t1 := (HGT.out.zero ht0).mono (by omega)
          obtain ⟨t2, h_t2⟩ : ∃ t2, Pa.must ts t1 [86, 65, 82] = t2 := ⟨_, rfl⟩
          have J1 := Lib.hid (fun W (hW : Par W b g cap ts t1) => pMust_at (x := ⟨#[86, 65, 82]⟩) h_t2 g_t1.1 (by have := g_t1.2; omega) W hW)
          have g_t2 : Pa.Good ts (k + 0) t2 := h_t2 ▸ g_t1.must hen _
          obtain ⟨t3, h_t3⟩ : ∃ t3, Pa.step ts il t2 = t3 := ⟨_, rfl⟩
          have J2 := Lib.hid (fun W (hW : Par W b g cap ts t2) => pstep_at h_t3 (g_t2.mono (by omega)) W hW)
          have g_t3 : Pa.Good ts (k + 0) t3 := h_t3 ▸ g_t2.step hen il
          obtain ⟨re, h_re⟩ : ∃ re, is ts t3 [82, 69, 84, 65, 73, 78] = re := ⟨_, rfl⟩
          obtain ⟨t4, h_t4⟩ : ∃ t4, (if re = true then up t3 else t3) = t4 := ⟨_, rfl⟩
          have e_t4 : eat ts t3 [82, 69, 84, 65, 73, 78] = (re, t4) := by
            unfold eat
            rw [h_re, ← h_t4]
            cases re <;> rfl
          have JE := Lib.hid (fun W (hW : Par W b g cap ts t3) => pEat_at (x := ⟨#[82, 69, 84, 65, 73, 78]⟩) e_t4 g_t3.1 (by have := g_t3.2; omega) W hW)
          have g_t4 : Pa.Good ts (k + 0) t4 := by
            rw [← h_t4]
            cases re with
            | true => rw [if_pos rfl]; exact g_t3.up hen (is_tok h_re)
            | false => rw [if_neg (by simp)]; exact g_t3
          have J0 := Lib.hid (fun W (hW : Par W b g cap ts t4) => pstep_at (il := il) rfl (g_t4.mono (by omega)) W hW)
          have h_nx := vars_next (f := f') (il := il) (s := sp) (re := re) (s2 := t3) (s3 := t4) (by rw [h_t1]; exact h_q) (by unfold Pa.sVAR; rw [h_t1, h_t2, h_t3]) h_re h_t4
          obtain ⟨A1, h_A1⟩ : ∃ A1, (Pa.items ts il Pa.sEND_VAR (Pa.variable_ ts il re) (ts.length + 1) t4).1 = A1 := ⟨_, rfl⟩
          obtain ⟨A2, h_A2⟩ : ∃ A2, (Pa.items ts il Pa.sEND_VAR (Pa.variable_ ts il re) (ts.length + 1) t4).2 = A2 := ⟨_, rfl⟩
          rw [h_A1, h_A2] at h_nx
          have gA2 : Pa.Good ts (k + 5) A2 := h_A2 ▸ items_good (c := 4) hen (fun k s hs => hs.variable_ hen il re) (ts.length + 1) (k + 5) _ (g_t4.mono (by omega)) (by omega)
          obtain ⟨sx, h_sx⟩ : ∃ sx, Pa.must ts A2 [69, 78, 68, 95, 86, 65, 82] = sx := ⟨_, rfl⟩
          have JX := Lib.hid (fun W (hW : Par W b g cap ts A2) => pMust_at (x := ⟨#[69, 78, 68, 95, 86, 65, 82]⟩) h_sx gA2.1 (by have := gA2.2; omega) W hW)
          have HGX := Lib.hid (h_sx ▸ gA2.must hen _ : Pa.Good ts (k + 5) sx)
          have hA2i : t4.i ≤ A2.i := by rw [← h_A2]; exact le_items ts il _ _ (fun s => Nat.le_trans (Nat.le_succ _) (le_variable ts il re s)) _ t4
          have ht2i : t2.i = t1.i + 1 := by rw [← h_t2]; unfold Pa.must; rw [if_pos h_q]; rfl
          have ht3i : t2.i ≤ t3.i := by rw [← h_t3]; exact le_step ts il t2
          have ht4i : t3.i ≤ t4.i := by
            rw [← h_t4]
            cases re with
            | true => exact Nat.le_succ _
            | false => exact Nat.le_refl _
          have HXI : Hid (sp.i + 1 ≤ sx.i ∧ A2.i ≤ sx.i) := Lib.hid (by
            have h2 := le_must ts A2 [69, 78, 68, 95, 86, 65, 82]
            rw [h_sx] at h2
            omega)
          have HTX : Hid (acc ++ A1 ++ (Pa.vars ts il f' sx).1 = LV ∧ (Pa.vars ts il f' sx).2 = sV) := Lib.hid (by
            have h1 := HTO.out
            unfold Pa.sEND_VAR at h_nx
            rw [h_sx] at h_nx
            rw [h_nx] at h1
            simpa using h1)
          have HFX : Hid (sx.err = 0 → ts.length < sx.i + f') := Lib.hid (fun _ => by have h1 := HF.out hsp0; have h2 := HXI.out.1; omega)
          have HA := Lib.hid (And.intro h_A1 h_A2)
          have HGE := Lib.hid g_t4
          have HSE : Hid (sp.i ≤ t4.i) := Lib.hid (by omega)
          have hm9 : sp.i < 200000 := by omega
          have HAC := Lib.hid HAL.out
          clear HTO HF HAL HGP HQE HHQ HGT HQ H1 hq h_q ht0 hsp0 hspi g_t1 h_t1 h_t2 h_t3 h_re h_t4 e_t4 g_t2 g_t3 g_t4 h_nx h_A1 h_A2 gA2 h_sx hA2i ht2i ht3i ht4i het hit
          go_wp2_with fail
          refine (J1.out _ F23.out.par).mono ?_
          rintro e w24 ⟨rfl, ho, hp⟩
          have F24 := Lib.hid (F23.out.call ho hp)
          have R24 := Lib.hid (R23.out.only ho n1)
          have O24 := Lib.hid (O23.out.only ho nO)
          have G24 := Lib.hid (G23.out.only keepV (by omega) ho)
          have M24 := Lib.hid (M23.out.only (by omega) ho)
          clear ho hp
          go_wp2_with fail
          refine (J2.out _ F24.out.par).mono ?_
          rintro e w25 ⟨rfl, ho, hp⟩
          have F25 := Lib.hid (F24.out.call ho hp)
          have R25 := Lib.hid (R24.out.only ho n1)
          have O25 := Lib.hid (O24.out.only ho nO)
          have G25 := Lib.hid (G24.out.only keepV (by omega) ho)
          have M25 := Lib.hid (M24.out.only (by omega) ho)
          clear ho hp
          go_wp2_with fail
          refine (JE.out _ F25.out.par).mono ?_
          rintro e w26 ⟨rfl, ho, hp⟩
          have F26 := Lib.hid (F25.out.call ho hp)
          have R26 := Lib.hid (R25.out.only ho n1)
          have O26 := Lib.hid (O25.out.only ho nO)
          have G26 := Lib.hid (G25.out.only keepV (by omega) ho)
          have M26 := Lib.hid (M25.out.only (by omega) ho)
          clear ho hp
          go_wp2_with fail
          refine (J0.out _ F26.out.par).mono ?_
          rintro e w27 ⟨rfl, ho, hp⟩
          have F27 := Lib.hid (F26.out.call ho hp)
          have R27 := Lib.hid (R26.out.only ho n1)
          have O27 := Lib.hid (O26.out.only ho nO)
          have G27 := Lib.hid (G26.out.only keepV (by omega) ho)
          have M27 := Lib.hid (M26.out.only (by omega) ho)
          clear ho hp
          go_wp2_with fail
          go_loopw [] (fun wr2 => RRel (∃ (f2 : Nat) (sp2 : PS) (acc2 : List PVar) (cs2 : List Value) (fv2 : Value), Hid (Pa.Good ts (k + 6) sp2) ∧ Hid (sp2.err = 0 → ts.length < sp2.i + f2) ∧ Hid (acc2 ++ (Pa.items ts il [69, 78, 68, 95, 86, 65, 82] (Pa.variable_ ts il re) f2 sp2).1 = acc ++ A1 ∧ (Pa.items ts il [69, 78, 68, 95, 86, 65, 82] (Pa.variable_ ts il re) f2 sp2).2 = A2) ∧ Hid (acc2.length ≤ sp2.i) ∧
            Hid (Fr w b g cap ts (Pa.step ts il sp2) wr2) ∧ Hid (Bl wr2 w.heap.size #[.string ⟨#[]⟩, .slice none 0 0, .slice none 0 0, .bool false, .slice none 0 0, .slice none 0 0] 28) ∧ Hid (Bl wr2 (w.heap.size + 1) #[.string ⟨ntx.toArray⟩, .slice va accS.length vc9, fv2, .bool il, .slice none 0 0, .slice none 0 0] 28) ∧ Hid (GR VVals 54 10 w6.heap.size wr2 fv2 acc2 cs2) ∧ Hid (Mid (w.heap.size + 2) w6.heap.size w6 wr2))) (fun wr2 => 200000 - (intOf ((wr2.cell? ⟨b, 1, none⟩).getD undef)).toNat)
          case atStart =>
            exact RRel.mk ⟨ts.length + 1, t4, acc, cs, .slice va2 acc.length vc2, Lib.hid (HGE.out.mono (by omega)), Lib.hid (fun _ => by omega), Lib.hid (by have h1 := HA.out; unfold Pa.sEND_VAR at h1; rw [h1.1, h1.2]; exact ⟨rfl, rfl⟩), Lib.hid (by have h1 := HAC.out; have h2 := HSE.out; omega), F27, R27, O27, G27, M27⟩
          case round =>
            obtain ⟨f2, sp2, acc2, cs2, fv2, HGP2, HF2, HTO2, HAL2, F10, R10, O10, G10, M10⟩ := hrel.it
            clear hrel J0 HGE HA HSE
            obtain ⟨w10, rfl⟩ : ∃ w10, w10 = wr := ⟨_, rfl⟩
            obtain ⟨sh, h_sh⟩ : ∃ sh, Pa.step ts il sp2 = sh := ⟨_, rfl⟩
            rw [h_sh] at F10
            have g_sh : Pa.Good ts (k + 6) sh := h_sh ▸ HGP2.out.step HEN.out il
            have hesp : sh.err = sp2.err := by rw [← h_sh]; exact step_err ts il sp2
            have hisp : sp2.i ≤ sh.i := by rw [← h_sh]; exact le_step ts il sp2
            obtain ⟨q2, h_q2⟩ : ∃ q2, is ts sh [69, 78, 68, 95, 86, 65, 82] = q2 := ⟨_, rfl⟩
            have HQ := Lib.hid (fun W (hW : Par W b g cap ts sh) => pIs_at (x := ⟨#[69, 78, 68, 95, 86, 65, 82]⟩) h_q2 g_sh.1 W hW)
            obtain ⟨-, d1, d2, -, -, -, -⟩ := F10.out.par.pb.cells
            have k1 := F10.out.par.pb.lt
            obtain ⟨vb, vm, vd9, rfl, hfn⟩ := G10.out.form
            subst hfn
            by_cases h0 : sh.err = 0
            · rw [h0] at d2
              cases q2 with
              | true =>
                have HEQ3 := Lib.hid (items_end (one := (Pa.variable_ ts il re)) (f := f2) (s := sp2) (stop := [69, 78, 68, 95, 86, 65, 82]) (.inr (by rw [h_sh]; exact h_q2)))
                have HEQ4 := Lib.hid (show acc2 = acc ++ A1 ∧ sh = A2 by
                  have h1 := HTO2.out
                  rw [HEQ3.out, h_sh] at h1
                  simpa using h1)
                obtain ⟨h1, h2⟩ := HEQ4.out
                have HAL3 : Hid (acc2.length ≤ sx.i) := Lib.hid (by have a1 := HAL2.out; have a2 := HXI.out.2; rw [← h2] at a2; omega)
                subst h1 h2
                clear HEQ4 HEQ3 HTO2 HF2 HAL2 HGP2 h_sh h_q2 g_sh hesp hisp h0
                go_wp2_with fail
                refine (HQ.out _ F10.out.par).mono ?_
                rintro e w11 ⟨rfl, hb⟩
                have F11 := Lib.hid (F10.out.below hb)
                have R11 := Lib.hid (R10.out.below hb)
                have O11 := Lib.hid (O10.out.below hb)
                have G11 := Lib.hid (G10.out.below keepV (by omega) hb)
                have M11 := Lib.hid (M10.out.below hb)
                clear hb
                clear d1 d2 k1
                go_wp2_with fail
                refine (JX.out _ F11.out.par).mono ?_
                rintro e w12 ⟨rfl, ho, hp⟩
                have F12 := Lib.hid (F11.out.call ho hp)
                have R12 := Lib.hid (R11.out.only ho n1)
                have O12 := Lib.hid (O11.out.only ho nO)
                have G12 := Lib.hid (G11.out.only keepV (by omega) ho)
                have M12 := Lib.hid (M11.out.only (by omega) ho)
                clear ho hp
                go_wp2_with fail
                go_roundw
                case rel => exact RRel.mk ⟨f', sx, acc ++ A1, cs2, .slice vb (acc ++ A1).length vd9, Lib.hid (HGX.out.mono (by omega)), HFX, HTX, HAL3, F12, R12, O12, G12, M12⟩
                case measure =>
                  have q1 := F12.out.par.pb.cells.2.1
                  have q2 := F2.out.par.pb.cells.2.1
                  have q3 := HXI.out.1
                  simp [q1, q2, intOf]; omega
              | false =>
                obtain ⟨f2', rfl⟩ : ∃ f', f2 = f' + 1 := ⟨f2 - 1, by have := HF2.out (by rw [← hesp]; exact h0); have := g_sh.1 h0; omega⟩
                have HEQ3 := Lib.hid (items_next (one := (Pa.variable_ ts il re)) (f := f2') (s := sp2) (stop := [69, 78, 68, 95, 86, 65, 82]) (by rw [h_sh]; exact h0) (by rw [h_sh]; exact h_q2))
                have gz : Pa.Good ts (k + 0) sh := (g_sh.zero h0).mono (by omega)
                have hen := HEN.out
                obtain ⟨pe, h_pe⟩ : ∃ pe, ((Pa.variable_ ts il re) sh).1 = pe := ⟨_, rfl⟩
                obtain ⟨r2, h_r2⟩ : ∃ r2, ((Pa.variable_ ts il re) sh).2 = r2 := ⟨_, rfl⟩
                have HST := Lib.hid (fun W (hW : Par W b g cap ts sh) => pvariable_at (re := re) (p := pe) (s' := r2) (il := il) (by rw [← h_pe, ← h_r2]) gz (by omega) W hW)
                have gr2 : Pa.Good ts (k + 4) r2 := h_r2 ▸ (gz.variable_ hen il re).mono (by omega)
                have J3 := Lib.hid (fun W (hW : Par W b g cap ts r2) => pstep_at (il := il) rfl (gr2.mono (by omega)) W hW)
                have hri : sh.i + 1 ≤ r2.i := by rw [← h_r2]; exact le_variable ts il re sh
                have HLF : Hid (sh.i + 1 ≤ (Pa.step ts il r2).i) := Lib.hid (Nat.le_trans hri (le_step ts il r2))
                have HG5 := Lib.hid gr2
                have HER : Hid (r2.err = 0 → ts.length < r2.i + f2') := Lib.hid (fun _ => by
                  have h1 := HF2.out (by rw [← hesp]; exact h0)
                  omega)
                have HTN : Hid ((acc2 ++ [pe]) ++ (Pa.items ts il [69, 78, 68, 95, 86, 65, 82] (Pa.variable_ ts il re) f2' r2).1 = acc ++ A1 ∧ (Pa.items ts il [69, 78, 68, 95, 86, 65, 82] (Pa.variable_ ts il re) f2' r2).2 = A2) := Lib.hid (by
                  have h1 := HTO2.out
                  rw [HEQ3.out, h_sh, h_pe, h_r2] at h1
                  simpa using h1)
                have HAL4 : Hid (acc2.length + 1 ≤ r2.i) := Lib.hid (by have h1 := HAL2.out; omega)
                have hacc : acc2.length ≤ 200000 := by have h1 := HAL2.out; have h2 := HGP2.out.2; omega
                have hm8 : sh.i < 200000 := by have := g_sh.1 h0; omega
                have kfl : ∀ k, (Value.slice vb acc2.length vd9).ownBlock = some k → w6.heap.size ≤ k := fun k hk => (G10.out.own.lt k hk).1
                have KFL := Lib.hid kfl
                have KNO : Hid (some (w.heap.size + 1) ≠ (Value.slice vb acc2.length vd9).ownBlock) := Lib.hid (fun h => by have := kfl _ h.symm; omega)
                have KNR : Hid (some w.heap.size ≠ (Value.slice vb acc2.length vd9).ownBlock) := Lib.hid (fun h => by have := kfl _ h.symm; omega)
                clear kfl HTO2 HEQ3 HF2 HAL2 HGP2 h_pe h_r2 gr2 gz h_sh h_q2 g_sh hesp hisp h0
                go_wp2_with fail
                refine (HQ.out _ F10.out.par).mono ?_
                rintro e w11 ⟨rfl, hb⟩
                have F11 := Lib.hid (F10.out.below hb)
                have R11 := Lib.hid (R10.out.below hb)
                have O11 := Lib.hid (O10.out.below hb)
                have G11 := Lib.hid (G10.out.below keepV (by omega) hb)
                have M11 := Lib.hid (M10.out.below hb)
                clear hb
                clear d1 d2 k1
                have KFV := Lib.hid G11.out.lt
                obtain ⟨-, -, o0, -, -, -⟩ := O11.out.cells6
                have k3 := O11.out.lt
                go_upto_region 26 with fail
                go_region_law (first
                    | (go_simp; go_at_call 85; refine (HST.out _ F11.out.drew.par).mono ?_; rintro e w12 ⟨row, rfl, hd, ho, hp⟩; obtain ⟨m0, m1, m2, m3, m4, m5, m6, m7, sa9, sl9, sc9, m9, rfl⟩ := hd.shape; have D := Lib.hid hd; have kmid : w11.heap.size ≤ w12.heap.size := ho.size; have KM := Lib.hid kmid; clear kmid; have F12 := Lib.hid (F11.out.drew.call ho hp); have R12 := Lib.hid (R11.out.drew.only ho n1); have O12 := Lib.hid (O11.out.drew.only ho nO); have G12 := Lib.hid ((G11.out.below keepV (by omega) (Below.refl _ _).drew).only keepV (by omega) ho); have M12 := Lib.hid ((M11.out.below (Below.refl _ _).drew).only (by omega) ho); have o1 := O12.out.cells6.2.2.1; have k6 := O12.out.lt; clear hd ho hp)
                    | (refine step_append_lies _ (by rfl) _ _ _ (by rfl) w6.heap.size 54 i0 _ 10 120 Tryz.underlying24 HI.out.1 HI.out.2.1 HI.out.2.2.1 HI.out.2.2.2 rfl (by omega) (.slice vb acc2.length vd9) acc2.length cs2 (by rfl) (G12.out.alloc keepV (by omega) _).own ⟨w12.heap.size, 0, none⟩ 1 1 [.string m0, .int .i64 m1, .int .i64 m2, .int .i64 m3, .int .i64 m4, .string m5, .bool m6, .string m7, .slice sa9 sl9 sc9, .int .i64 m9] (by rfl) (by rfl) (World.news_of_block (cs := #[.string m0, .int .i64 m1, .int .i64 m2, .int .i64 m3, .int .i64 m4, .string m5, .bool m6, .string m7, .slice sa9 sl9 sc9, .int .i64 m9]) (t := 54) (fr := (0, 0)) (heap_alloc_new _ _)) (by simp [Value.oneCell']) (by omega) (by simp only [maxLen]; omega) (by omega) (by have := KM.out; have := G11.out.le; simp; omega) (w12.heap.size + 1) (by simp) ?_; intro g9 cp w13 hown hgrow hat hlt9; have O13 := Lib.hid ((O12.out.alloc _).grown hgrow KNO.out); have R13 := Lib.hid ((R12.out.alloc _).grown hgrow KNR.out); have F13 := Lib.hid ((F12.out.alloc _).grown hgrow (fun k hk => by have := KFL.out k hk; omega)); have G13 := Lib.hid (G12.out.app keepV D.out (by exact G11.out.le) (fun k hk => KFV.out k hk) ((Below.refl _ _).alloc (Nat.le_refl _) _) hgrow hown (hat.imp id (fun h => by simp; omega))); have M13 := Lib.hid ((M12.out.alloc _).grown hgrow KFL.out); have o2 := O13.out.cells6.2.2.1; have g2 := O13.out.free6.2.2.1; have k5 := O13.out.lt; clear hown hgrow hat hlt9))
                all_goals
                  go_wp2_with fail
                  refine (J3.out _ (F13.out.far (X := (w.heap.size + 1)) (by omega) _ _).par).mono ?_
                  rintro e w14 ⟨rfl, ho, hp⟩
                  have F14 := Lib.hid ((F13.out.far (X := (w.heap.size + 1)) (by omega) _ _).call ho hp)
                  have R14 := Lib.hid ((R13.out.other hRO _ _).only ho n1)
                  have O14 := Lib.hid (Bl.only (vs := #[.string ⟨ntx.toArray⟩, .slice va accS.length vc9, .slice (some ⟨g9, 0, none⟩) (acc2.length + 1) cp, .bool il, .slice none 0 0, .slice none 0 0]) (by simpa using O13.out.set 2 _) ho nO)
                  have G14 := Lib.hid ((G13.out.set (X := (w.heap.size + 1)) keepV (by omega) _ _).only keepV (by omega) ho)
                  have M14 := Lib.hid ((M13.out.set (X := (w.heap.size + 1)) (by omega) _ _).only (by omega) ho)
                  clear ho hp
                  go_wp2_with fail
                  go_roundw
                  case rel => exact RRel.mk ⟨f2', r2, acc2 ++ [pe], _, .slice (some ⟨g9, 0, none⟩) (acc2.length + 1) cp, Lib.hid (HG5.out.mono (by omega)), HER, HTN, Lib.hid (by simpa using HAL4.out), F14, R14, O14, G14, M14⟩
                  case measure =>
                    have q1 := F14.out.par.pb.cells.2.1
                    have q2 := F10.out.par.pb.cells.2.1
                    have q3 := HLF.out
                    simp [q1, q2, intOf]; omega
            · have e0 : (sh.err == 0) = false := by simp [h0]
              have HEQ3 := Lib.hid (items_end (one := (Pa.variable_ ts il re)) (f := f2) (s := sp2) (stop := [69, 78, 68, 95, 86, 65, 82]) (.inl (by rw [h_sh]; exact h0)))
              have HEQ4 := Lib.hid (show acc2 = acc ++ A1 ∧ sh = A2 by
                have h1 := HTO2.out
                rw [HEQ3.out, h_sh] at h1
                simpa using h1)
              obtain ⟨h1, h2⟩ := HEQ4.out
              have HAL3 : Hid (acc2.length ≤ sx.i) := Lib.hid (by have a1 := HAL2.out; have a2 := HXI.out.2; rw [← h2] at a2; omega)
              subst h1 h2
              clear HEQ4 HEQ3 HTO2 HF2 HAL2 HGP2 h_sh h_q2 g_sh hesp hisp h0
              clear d1
              go_wp2_with fail
              refine (JX.out _ F10.out.par).mono ?_
              rintro e w11 ⟨rfl, ho, hp⟩
              have F11 := Lib.hid (F10.out.call ho hp)
              have R11 := Lib.hid (R10.out.only ho n1)
              have O11 := Lib.hid (O10.out.only ho nO)
              have G11 := Lib.hid (G10.out.only keepV (by omega) ho)
              have M11 := Lib.hid (M10.out.only (by omega) ho)
              clear ho hp
              go_wp2_with fail
              go_roundw
              case rel => exact RRel.mk ⟨f', sx, acc ++ A1, cs2, .slice vb (acc ++ A1).length vd9, Lib.hid (HGX.out.mono (by omega)), HFX, HTX, HAL3, F11, R11, O11, G11, M11⟩
              case measure =>
                have q1 := F11.out.par.pb.cells.2.1
                have q2 := F2.out.par.pb.cells.2.1
                have q3 := HXI.out.1
                simp [q1, q2, intOf]; omega

end Go.Proofs.YtdpkjpjkdmkkpaaGreatDoor
