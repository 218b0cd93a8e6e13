/- The walks through package lex: typed, the rest of it. -/
import Derived.Test.YtdabnnganponpaaGreatDoorLexW4
namespace Go.Proofs.YtdabnnganponpaaGreatDoor
open Go.RowKit Lx Ad

set_option maxRecDepth 100000 in
set_option maxHeartbeats 4000000 in
theorem typed_pos {s : ByteArray} {at_ k : Nat} {r : Tok × Nat × Int} (hr : lTyped s.data.toList at_ k = r) (hat : at_ ≤ s.size) (hs : s.size ≤ 140737488351232) (hk1 : 2 ≤ k) (hk2 : k ≤ 10)
    (hn : ¬ (kSigned k = true ∧ Lib.hasPrefix (s.extract at_ s.size).data.toList [45] = true)) (w : World) :
    Calls Tryz.prog 39 #[.string s, .int .i64 at_, .int .i64 k] w fun e w' => e = tokR r ∧ Below w.heap.size w w' := by
  have hR : (s.extract at_ s.size).data.toList = s.data.toList.drop at_ := ext_drop s at_
  have hRs : (s.extract at_ s.size).size ≤ s.size := size_extract_le _ _ _
  obtain ⟨m, hm⟩ : ∃ m, Lx.number (s.extract at_ s.size).data.toList = m := ⟨_, rfl⟩
  have hmb := number_bounds (s.extract at_ s.size).data.toList
  rw [hm] at hmb
  have hmz : m.2.1 ≤ s.size := Nat.le_trans hmb.2.2 hRs
  have HM := Lib.hid hm
  have hm' : Lx.number (s.data.toList.drop at_) = m := by rw [← hm, hR]
  dsimp only [lTyped] at hr
  rw [if_neg (by omega), if_neg (by rw [← hR]; exact hn), hm'] at hr
  have HR0 := Lib.hid hr
  obtain ⟨sg, hsg⟩ : ∃ b, kSigned k = b := ⟨_, rfl⟩
  obtain ⟨hp, hhp⟩ : ∃ b, Lib.hasPrefix (s.extract at_ s.size).data.toList [45] = b := ⟨_, rfl⟩
  have HSG : Hid (∀ w, Calls Tryz.prog 65 #[.int .i64 k] w fun e w' => e = .returned (.bool sg) ∧ Below w.heap.size w w') := Lib.hid (by intro w; have := ksigned_at k (by omega) (by omega) w; rw [hsg] at this; exact this)
  have hor : sg = false ∨ sg = true ∧ hp = false := by
    rw [hsg, hhp] at hn
    cases sg <;> cases hp <;> first | exact .inl rfl | exact .inr ⟨rfl, rfl⟩ | exact absurd ⟨rfl, rfl⟩ hn
  have HZ : Hid (span wordB (s.extract at_ s.size).data.toList = span wordB (s.extract at_ s.size).data.toList) := Lib.hid rfl
  have HP := Lib.hid hhp
  obtain ⟨m1, m2, m3⟩ := m
  obtain ⟨m10, m11, -⟩ := hmb
  replace m10 : 0 ≤ m1 := m10
  replace m11 : m1 ≤ 1099511627776 := m11
  replace hmz : m2 ≤ s.size := hmz
  clear hr hm hm' hR hsg hhp hn
  have ek : ((k : Int) == 1) = false := by simp; omega
  rcases hor with rfl | ⟨rfl, rfl⟩
  all_goals
    go_enter Tryz.func39, Tryz.ntmps39
    go_wp2_with (first
      | (go_at_call 22; refine (span_typed HZ.out (Nat.le_trans hRs hs) _).mono ?_; rintro e w1 ⟨rfl, rfl⟩)
      | (go_at_call 65; refine (HSG.out _).mono ?_; rintro e w2 ⟨rfl, hb2⟩; have hk2 := Lib.hid (two_blocks hb2); clear hb2)
      | (go_at_call 16; refine (hasPrefix_any _ _ _).mono ?_; rintro e w3 ⟨rfl, rfl⟩; rw [HP.out]))
    refine (lnumber_at HM.out (Nat.le_trans hRs hs) _).mono ?_
    rintro e w3 ⟨rfl, hb3⟩
    obtain ⟨h6, h9, hb2⟩ := hk2.out
    replace h6 := blk_stays h6 hb3
    replace h9 := blk_stays h9 hb3
    have HB : Hid (Below w.heap.size w w3) := Lib.hid (btr hb2 hb3)
    have HT : Hid (TokS w k 0 w3) := Lib.hid ⟨h6, h9, HB.out⟩
    obtain ⟨c60, c61, c62, c63, c64, f60, f61, f62, f63, f64⟩ := blk5 h6
    obtain ⟨c90, c91, c92, c93, c94, f90, f91, f92, f93, f94⟩ := blk5 h9
    clear h6 h9 hb2 hk2 hb3
    by_cases hm3 : m3 = 0
    · subst hm3
      go_wp2
      have hT := HT.out.set m1
      obtain ⟨W5, hW5⟩ : ∃ W5, W5 = w3.setCell ⟨w.heap.size + 1, 2, none⟩ (.int .i64 m1) := ⟨_, rfl⟩
      rw [← hW5] at hT ⊢
      clear hW5 c60 c61 c62 c63 c64 f60 f61 f62 f63 f64 c90 c91 c92 c93 c94 f90 f91 f92 f93 f94 HT HB
      have hc := hT.c2
      obtain ⟨wv, hwv⟩ : ∃ wv, kWrap k m1 = wv := ⟨_, rfl⟩
      have HW : Hid (∀ w, Calls Tryz.prog 63 #[.int .i64 k, .int .i64 m1] w fun e w' => e = .returned (.int .i64 wv) ∧ Below w.heap.size w w') := Lib.hid (by intro w; have := kwrap_at k (by omega) (by omega) m1 ⟨by omega, by omega⟩ w; rw [hwv] at this; exact this)
      have HR : Hid ((if m1 = wv then ((⟨3, k, m1, [], 0⟩ : Tok), at_ + m2, (0 : Int)) else (tok0, 0, 163)) = r) := Lib.hid (by rw [← HR0.out, if_neg (show ¬ ((0 : Int) ≠ 0) by decide), hwv]; try rfl)
      clear hwv HR0
      go_region_held3 (fun w' => w'.cell? ⟨w.heap.size + 1, 2, none⟩ = some (.int .i64 m1) ∧ TokS w k m1 w') (first | exact ⟨TokS.c2 (by assumption), by assumption⟩ | exact ⟨TokS.c2 (TokS.drew (by assumption)), TokS.drew (by assumption)⟩) (first | (go_at_call 63; refine (HW.out _).mono ?_; rintro e w6 ⟨rfl, hb6⟩; have hs6 : TokS w k m1 w6 := TokS.below (by first | assumption | exact (by assumption : _ = some (Value.int IntKind.i64 m1) ∧ TokS w k m1 _).2 | exact hT.drew) hb6))
      obtain ⟨c60, c61, c62, c63, c64, f60, f61, f62, f63, f64⟩ := blk5 hs6.1
      obtain ⟨c90, c91, c92, c93, c94, f90, f91, f92, f93, f94⟩ := blk5 hs6.2.1
      have HB : Hid (Below w.heap.size w w6) := Lib.hid hs6.2.2
      clear hs6 hb6 hT hc
      by_cases hE : m1 = wv
      · have HE := Lib.hid hE
        subst hE
        go_wp2
        refine bodyPost_ret (v := .tuple #[tokV ⟨3, k, m1, [], 0⟩, .int .i64 ((at_ : Int) + (m2 : Int)), .int .i64 0]) (by simp [results, Tryz.results39, go_sem, tokV, *]) rfl ⟨?_, ?_⟩
        · exact tok_fin (HR.out.symm.trans (if_pos HE.out)) (by push_cast; omega)
        · go_grown
          exact HB.out
      · have HE := Lib.hid hE
        go_wp2
        refine bodyPost_ret (v := .tuple #[tokV tok0, .int .i64 0, .int .i64 163]) (by simp [results, Tryz.results39, go_sem, tokV, tok0, *]) rfl ⟨?_, ?_⟩
        · exact tok_fin (HR.out.symm.trans (if_neg HE.out)) rfl
        · go_grown
          exact HB.out
    · have HR : Hid (((tok0, 0, m3) : Tok × Nat × Int) = r) := Lib.hid (by rw [← HR0.out, if_pos hm3])
      clear HR0 HT
      go_wp2
      refine bodyPost_ret (v := .tuple #[tokV tok0, .int .i64 0, .int .i64 m3]) (by simp [results, Tryz.results39, go_sem, tokV, tok0, *]) rfl ⟨?_, ?_⟩
      · exact tok_fin HR.out.symm rfl
      · go_grown
        exact HB.out

set_option maxRecDepth 100000 in
set_option maxHeartbeats 4000000 in
theorem typed_1 {s : ByteArray} {at_ : Nat} {r : Tok × Nat × Int} (hr : lTyped s.data.toList at_ 1 = r) (hat : at_ ≤ s.size) (hs : s.size ≤ 140737488351232) (w : World) :
    Calls Tryz.prog 39 #[.string s, .int .i64 at_, .int .i64 1] w fun e w' => e = tokR r ∧ Below w.heap.size w w' := by
  have hR : (s.extract at_ s.size).data.toList = s.data.toList.drop at_ := ext_drop s at_
  have hRs : (s.extract at_ s.size).size ≤ s.size := size_extract_le _ _ _
  obtain ⟨m, hm⟩ : ∃ m, Lx.number (s.extract at_ s.size).data.toList = m := ⟨_, rfl⟩
  have hmb := number_bounds (s.extract at_ s.size).data.toList
  rw [hm] at hmb
  have hmz : m.2.1 ≤ s.size := Nat.le_trans hmb.2.2 hRs
  have HM := Lib.hid hm
  have hm' : Lx.number (s.data.toList.drop at_) = m := by rw [← hm, hR]
  dsimp only [lTyped] at hr
  obtain ⟨z, hz⟩ : ∃ z, span wordB (s.extract at_ s.size).data.toList = z := ⟨_, rfl⟩
  have HZ := Lib.hid hz
  have hz1 : z ≤ (s.extract at_ s.size).size := by rw [← hz]; exact span_le wordB (s.extract at_ s.size).data.toList
  have hw : ((s.extract at_ s.size).extract 0 z).toList = (s.data.toList.drop at_).take (span wordB (s.data.toList.drop at_)) := by
    rw [ByteArray.toList_eq, ByteArray.data_extract, Array.toList_extract, List.extract_eq_take_drop, ← hR, hz]; simp
  have hlen : ((s.data.toList.drop at_).take (span wordB (s.data.toList.drop at_))).length = z := by
    rw [← hR, hz, List.length_take]
    have : (s.extract at_ s.size).data.toList.length = (s.extract at_ s.size).size := rfl
    omega
  have hsz : (s.extract at_ s.size).size = s.size - at_ := by simp [ByteArray.size_extract]
  rw [← hw] at hr hlen
  obtain ⟨bt, hbt⟩ : ∃ b, (((s.extract at_ s.size).extract 0 z).toList == [84, 82, 85, 69]) = b := ⟨_, rfl⟩
  obtain ⟨bf, hbf⟩ : ∃ b, (((s.extract at_ s.size).extract 0 z).toList == [70, 65, 76, 83, 69]) = b := ⟨_, rfl⟩
  cases bt with
  | true =>
    have hwe : ((s.extract at_ s.size).extract 0 z).toList = strTrue := beq_iff_eq.1 hbt
    rw [if_pos ⟨rfl, .inl hwe⟩, if_pos hwe] at hr
    have hz4 : z = 4 := by rw [← hlen, hwe]; rfl
    have HR : Hid (r = (⟨3, 1, 1, [], 0⟩, at_ + 4, 0)) := Lib.hid (by rw [← hr, hwe]; rfl)
    clear hr hm hm' hR hw hlen hwe hbf HM hmb hmz hz
    subst hz4
    go_enter Tryz.func39, Tryz.ntmps39
    go_wp2_with (first
      | (go_at_call 22; refine (span_typed HZ.out (Nat.le_trans hRs hs) _).mono ?_; rintro e w1 ⟨rfl, rfl⟩))
    refine bodyPost_ret (v := .tuple #[tokV ⟨3, 1, 1, [], 0⟩, .int .i64 ((at_ : Int) + ((min 4 (s.size - at_) : Nat) : Int)), .int .i64 0]) (by simp [results, Tryz.results39, go_sem, tokV]) rfl ⟨?_, ?_⟩
    · exact tok_fin HR.out (by omega)
    · go_grown
  | false =>
    have hwn : ¬ ((s.extract at_ s.size).extract 0 z).toList = strTrue := fun h => by rw [h] at hbt; exact absurd hbt (by decide)
    cases bf with
    | true =>
      have hwe : ((s.extract at_ s.size).extract 0 z).toList = strFalse := beq_iff_eq.1 hbf
      rw [if_pos ⟨rfl, .inr hwe⟩, if_neg hwn] at hr
      have hz4 : z = 5 := by rw [← hlen, hwe]; rfl
      have HR : Hid (r = (⟨3, 1, 0, [], 0⟩, at_ + 5, 0)) := Lib.hid (by rw [← hr, hwe]; rfl)
      clear hr hm hm' hR hw hlen hwe hwn HM hmb hmz hz
      subst hz4
      go_enter Tryz.func39, Tryz.ntmps39
      go_wp2_with (first
        | (go_at_call 22; refine (span_typed HZ.out (Nat.le_trans hRs hs) _).mono ?_; rintro e w1 ⟨rfl, rfl⟩))
      refine bodyPost_ret (v := .tuple #[tokV ⟨3, 1, 0, [], 0⟩, .int .i64 ((at_ : Int) + ((min 5 (s.size - at_) : Nat) : Int)), .int .i64 0]) (by simp [results, Tryz.results39, go_sem, tokV]) rfl ⟨?_, ?_⟩
      · exact tok_fin HR.out (by omega)
      · go_grown
    | false =>
      have hwm : ¬ ((s.extract at_ s.size).extract 0 z).toList = strFalse := fun h => by rw [h] at hbf; exact absurd hbf (by decide)
      rw [if_neg (fun h => h.2.elim hwn hwm), if_neg (fun h => by cases h.1), hm'] at hr
      have HR0 := Lib.hid hr
      have HSG : Hid (∀ w, Calls Tryz.prog 65 #[.int .i64 1] w fun e w' => e = .returned (.bool false) ∧ Below w.heap.size w w') := Lib.hid ksigned_1
      have HP : Hid (True = True) := Lib.hid rfl
      obtain ⟨m1, m2, m3⟩ := m
      obtain ⟨m10, m11, -⟩ := hmb
      replace m10 : 0 ≤ m1 := m10
      replace m11 : m1 ≤ 1099511627776 := m11
      replace hmz : m2 ≤ s.size := hmz
      clear hr hm hm' hR hw hlen hwn hwm hz
      go_enter Tryz.func39, Tryz.ntmps39
      go_wp2_with (first
        | (go_at_call 22; refine (span_typed HZ.out (Nat.le_trans hRs hs) _).mono ?_; rintro e w1 ⟨rfl, rfl⟩)
        | (go_at_call 65; refine (HSG.out _).mono ?_; rintro e w2 ⟨rfl, hb2⟩; have hk2 := Lib.hid (two_blocks hb2); clear hb2)
        | (go_at_call 16; refine (hasPrefix_any _ _ _).mono ?_; rintro e w3 ⟨rfl, rfl⟩; rw [HP.out]))
      refine (lnumber_at HM.out (Nat.le_trans hRs hs) _).mono ?_
      rintro e w3 ⟨rfl, hb3⟩
      obtain ⟨h6, h9, hb2⟩ := hk2.out
      replace h6 := blk_stays h6 hb3
      replace h9 := blk_stays h9 hb3
      have HB : Hid (Below w.heap.size w w3) := Lib.hid (btr hb2 hb3)
      have HT : Hid (TokS w 1 0 w3) := Lib.hid ⟨h6, h9, HB.out⟩
      obtain ⟨c60, c61, c62, c63, c64, f60, f61, f62, f63, f64⟩ := blk5 h6
      obtain ⟨c90, c91, c92, c93, c94, f90, f91, f92, f93, f94⟩ := blk5 h9
      clear h6 h9 hb2 hk2 hb3
      by_cases hm3 : m3 = 0
      · subst hm3
        go_wp2
        have hT := HT.out.set m1
        obtain ⟨W5, hW5⟩ : ∃ W5, W5 = w3.setCell ⟨w.heap.size + 1, 2, none⟩ (.int .i64 m1) := ⟨_, rfl⟩
        rw [← hW5] at hT ⊢
        clear hW5 c60 c61 c62 c63 c64 f60 f61 f62 f63 f64 c90 c91 c92 c93 c94 f90 f91 f92 f93 f94 HT HB
        have hc := hT.c2
        obtain ⟨wv, hwv⟩ : ∃ wv, kWrap 1 m1 = wv := ⟨_, rfl⟩
        have HW : Hid (∀ w, Calls Tryz.prog 63 #[.int .i64 1, .int .i64 m1] w fun e w' => e = .returned (.int .i64 wv) ∧ Below w.heap.size w w') := Lib.hid (by intro w; have := wrap_k1 m1 w; rw [hwv] at this; exact this)
        have HR : Hid ((if m1 = wv then ((⟨3, 1, m1, [], 0⟩ : Tok), at_ + m2, (0 : Int)) else (tok0, 0, 163)) = r) := Lib.hid (by rw [← HR0.out, if_neg (show ¬ ((0 : Int) ≠ 0) by decide), hwv]; try rfl)
        clear hwv HR0
        go_region_held3 (fun w' => w'.cell? ⟨w.heap.size + 1, 2, none⟩ = some (.int .i64 m1) ∧ TokS w 1 m1 w') (first | exact ⟨TokS.c2 (by assumption), by assumption⟩ | exact ⟨TokS.c2 (TokS.drew (by assumption)), TokS.drew (by assumption)⟩) (first | (go_at_call 63; refine (HW.out _).mono ?_; rintro e w6 ⟨rfl, hb6⟩; have hs6 : TokS w 1 m1 w6 := TokS.below (by first | assumption | exact (by assumption : _ = some (Value.int IntKind.i64 m1) ∧ TokS w 1 m1 _).2 | exact hT.drew) hb6))
        obtain ⟨c60, c61, c62, c63, c64, f60, f61, f62, f63, f64⟩ := blk5 hs6.1
        obtain ⟨c90, c91, c92, c93, c94, f90, f91, f92, f93, f94⟩ := blk5 hs6.2.1
        have HB : Hid (Below w.heap.size w w6) := Lib.hid hs6.2.2
        clear hs6 hb6 hT hc
        by_cases hE : m1 = wv
        · have HE := Lib.hid hE
          subst hE
          go_wp2
          refine bodyPost_ret (v := .tuple #[tokV ⟨3, 1, m1, [], 0⟩, .int .i64 ((at_ : Int) + (m2 : Int)), .int .i64 0]) (by simp [results, Tryz.results39, go_sem, tokV, *]) rfl ⟨?_, ?_⟩
          · exact tok_fin (HR.out.symm.trans (if_pos HE.out)) (by push_cast; omega)
          · go_grown
            exact HB.out
        · have HE := Lib.hid hE
          go_wp2
          refine bodyPost_ret (v := .tuple #[tokV tok0, .int .i64 0, .int .i64 163]) (by simp [results, Tryz.results39, go_sem, tokV, tok0, *]) rfl ⟨?_, ?_⟩
          · exact tok_fin (HR.out.symm.trans (if_neg HE.out)) rfl
          · go_grown
            exact HB.out
      · have HR : Hid (((tok0, 0, m3) : Tok × Nat × Int) = r) := Lib.hid (by rw [← HR0.out, if_pos hm3])
        clear HR0 HT
        go_wp2
        refine bodyPost_ret (v := .tuple #[tokV tok0, .int .i64 0, .int .i64 m3]) (by simp [results, Tryz.results39, go_sem, tokV, tok0, *]) rfl ⟨?_, ?_⟩
        · exact tok_fin HR.out.symm rfl
        · go_grown
          exact HB.out

/-- lex.typed, whole. -/
theorem ltyped_at {s : ByteArray} {at_ k : Nat} {r : Tok × Nat × Int} (hr : lTyped s.data.toList at_ k = r) (hat : at_ ≤ s.size) (hs : s.size ≤ 140737488351232) (hk1 : 1 ≤ k) (hk2 : k ≤ 10) (w : World) :
    Calls Tryz.prog 39 #[.string s, .int .i64 at_, .int .i64 k] w fun e w' => e = tokR r ∧ Below w.heap.size w w' := by
  by_cases h1 : k = 1
  · subst h1; exact typed_1 hr hat hs w
  · by_cases hn : kSigned k = true ∧ Lib.hasPrefix (s.extract at_ s.size).data.toList [45] = true
    · exact typed_neg hr hat hs (by omega) hk2 hn.1 hn.2 w
    · exact typed_pos hr hat hs (by omega) hk2 hn w
end Go.Proofs.YtdabnnganponpaaGreatDoor
