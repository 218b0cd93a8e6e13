/- The walks through package lex: typed. -/
import Derived.Test.YtdabnnganponpaaGreatDoorLexW3
import Derived.Test.YtdabnnganponpaaGreatDoorNumW
import Derived.Test.YtdabnnganponpaaGreatDoorAddrW
import Derived.Deep.RegionHeld3
import Derived.Handy
namespace Go.Proofs.YtdabnnganponpaaGreatDoor
open Go.RowKit Lx Ad

theorem two_blocks {w w2 : World} {A B : Array Value} {t : TypeId} (hb : Below ((w.alloc (.cells A t)).alloc (.cells B t)).heap.size ((w.alloc (.cells A t)).alloc (.cells B t)) w2) :
    w2.heap[w.heap.size]? = some (.cells A t) ∧ w2.heap[w.heap.size + 1]? = some (.cells B t) ∧ Below w.heap.size w w2 := by
  refine ⟨?_, ?_, ?_⟩
  · rw [hb.block _ (by simp; omega)]; show ((w.heap.push _).push _)[_]? = _; simp [Array.getElem?_push]
  · rw [hb.block _ (by simp)]
    have h : (w.heap.push (.cells A t)).size = w.heap.size + 1 := by simp
    show ((w.heap.push _).push _)[_]? = _
    rw [← h, Array.getElem?_push_size]
  · exact btr (((Below.refl _ _).alloc (Nat.le_refl _) _).alloc (by simp) _) hb
theorem blk_stays {w w' : World} {b : Nat} {o : Obj} (h : w.heap[b]? = some o) (hb : Below w.heap.size w w') : w'.heap[b]? = some o := by
  rw [hb.block b (by
    rcases Nat.lt_or_ge b w.heap.size with h1 | h1
    · exact h1
    · rw [Array.getElem?_eq_none h1] at h; cases h)]
  exact h
theorem blk5 {w : World} {b : Nat} {v0 v1 v2 v3 v4 : Value} {t : TypeId} (h : w.heap[b]? = some (.cells #[v0, v1, v2, v3, v4] t)) :
    w.cell? ⟨b, 0, none⟩ = some v0 ∧ w.cell? ⟨b, 1, none⟩ = some v1 ∧ w.cell? ⟨b, 2, none⟩ = some v2 ∧ w.cell? ⟨b, 3, none⟩ = some v3 ∧ w.cell? ⟨b, 4, none⟩ = some v4 ∧
    w.frozen? ⟨b, 0, none⟩ = false ∧ w.frozen? ⟨b, 1, none⟩ = false ∧ w.frozen? ⟨b, 2, none⟩ = false ∧ w.frozen? ⟨b, 3, none⟩ = false ∧ w.frozen? ⟨b, 4, none⟩ = false := by
  simp [World.cell?, World.frozen?, h]

/-- The two blocks of 'typed': the result's, and t's with its number. -/
def TokS (w0 : World) (k n : Int) (w' : World) : Prop :=
  w'.heap[w0.heap.size]? = some (.cells #[.int .i64 0, .int .i64 0, .int .i64 0, .string ⟨#[]⟩, .int .i64 0] 31) ∧
  w'.heap[w0.heap.size + 1]? = some (.cells #[.int .i64 3, .int .i64 k, .int .i64 n, .string ⟨#[]⟩, .int .i64 0] 31) ∧ Below w0.heap.size w0 w'
theorem TokS.below {w0 w1 w2 : World} {k n : Int} (h : TokS w0 k n w1) (hb : Below w1.heap.size w1 w2) : TokS w0 k n w2 :=
  ⟨blk_stays h.1 hb, blk_stays h.2.1 hb, btr h.2.2 hb⟩
theorem TokS.drew {w0 w1 : World} {k n : Int} (h : TokS w0 k n w1) : TokS w0 k n w1.drew := ⟨h.1, h.2.1, h.2.2.drew⟩
theorem TokS.c2 {w0 w1 : World} {k n : Int} (h : TokS w0 k n w1) : w1.cell? ⟨w0.heap.size + 1, 2, none⟩ = some (.int .i64 n) := (blk5 h.2.1).2.2.1
theorem TokS.set {w0 w1 : World} {k n : Int} (m : Int) (h : TokS w0 k n w1) : TokS w0 k m (w1.setCell ⟨w0.heap.size + 1, 2, none⟩ (.int .i64 m)) := by
  refine ⟨?_, ?_, h.2.2.setCell (by simp) _⟩
  · rw [Below.heap_setCell _ _ _ _ (by simp)]; exact h.1
  · simp [World.setCell, Array.getElem?_modify, h.2.1]

theorem hasPrefix_any (s p : ByteArray) (w : World) :
    Calls Tryz.prog 16 #[.string s, .string p] w fun e w' => e = .returned (.bool (Lib.hasPrefix s.data.toList p.data.toList)) ∧ w = w' :=
  (Tryz.strings_HasPrefix s p w).mono fun _ _ ⟨h, k⟩ => ⟨h, k.symm⟩

theorem tok_fin {r : Tok × Nat × Int} {t : Tok} {n : Nat} {e x : Int} (h : r = (t, n, e)) (hx : x = n) :
    Ending.returned (.tuple #[tokV t, .int .i64 x, .int .i64 e]) = tokR r := by subst h; subst hx; rfl

theorem ksigned_1 (w : World) : Calls Tryz.prog 65 #[.int .i64 1] w fun e w' => e = .returned (.bool false) ∧ Below w.heap.size w w' := ksigned_at 1 (by omega) (by omega) w

theorem number_bounds (l : List UInt8) : 0 ≤ (Lx.number l).1 ∧ (Lx.number l).1 ≤ 1099511627776 ∧ (Lx.number l).2.1 ≤ l.length := by
  have h1 := digits_size l 10
  have h2 := digits_range l 10 (by omega)
  have h3 := digits_size (l.drop ((digits l 10).2 + 1)) (digits l 10).1
  have h4 := digits_range (l.drop ((digits l 10).2 + 1)) (digits l 10).1 h2.1
  simp only [Lx.number]
  split
  · exact ⟨by simp, by simp, by simp⟩
  · split
    · rename_i hc
      have hlt : (digits l 10).2 < l.length := by
        rcases Nat.lt_or_ge (digits l 10).2 l.length with h | h
        · exact h
        · rw [List.getElem?_eq_none h] at hc; cases hc.1
      rw [List.length_drop] at h3
      split
      · exact ⟨by simp, by simp, by simp⟩
      · exact ⟨h4.1, h4.2, by dsimp only; omega⟩
    · exact ⟨h2.1, h2.2, h1⟩

set_option maxRecDepth 100000 in
set_option maxHeartbeats 4000000 in
theorem typed_neg {s : ByteArray} {at_ k : Nat} {r : Tok × Nat × Int} (hr : lTyped s.data.toList at_ k = r) (hat : at_ ≤ s.size) (hs : s.size ≤ 140737488351232) (hk1 : 2 ≤ k) (hk2 : k ≤ 10)
    (hsg : kSigned k = true) (hp : Lib.hasPrefix (s.extract at_ s.size).data.toList [45] = true) (w : World) :
    Calls Tryz.prog 39 #[.string s, .int .i64 at_, .int .i64 k] w fun e w' => e = tokR r ∧ Below w.heap.size w w' := by
  have hR : (s.extract at_ s.size).data.toList = s.data.toList.drop at_ := ext_drop s at_
  have hRs : (s.extract at_ s.size).size ≤ s.size := size_extract_le _ _ _
  have hR0 : 1 ≤ (s.extract at_ s.size).size := by
    have h : (s.extract at_ s.size).data.toList.length = (s.extract at_ s.size).size := rfl
    cases hc : (s.extract at_ s.size).data.toList with
    | nil => rw [hc] at hp; exact absurd hp (by decide)
    | cons a b => rw [hc, List.length_cons] at h; omega
  obtain ⟨R1, hR1⟩ : ∃ R1, R1 = (s.extract at_ s.size).extract 1 (s.size - at_) := ⟨_, rfl⟩
  have hsz : (s.extract at_ s.size).size = s.size - at_ := by simp [ByteArray.size_extract]
  have hL1 : R1.data.toList = (s.data.toList.drop at_).drop 1 := by
    rw [hR1, ← hsz, ext_drop, hR]
  have hR1s : R1.size ≤ s.size := by rw [hR1]; exact Nat.le_trans (size_extract_le _ _ _) hRs
  obtain ⟨m, hm⟩ : ∃ m, Lx.number R1.data.toList = m := ⟨_, rfl⟩
  obtain ⟨d, hd⟩ : ∃ d, digits R1.data.toList 10 = d := ⟨_, rfl⟩
  have hd' : digits ((s.data.toList.drop at_).drop 1) 10 = d := by rw [← hd, hL1]
  have hdz : d.2 ≤ R1.size := by rw [← hd]; exact digits_size R1.data.toList 10
  have hdn := digits_range R1.data.toList 10 (by omega)
  rw [hd] at hdn
  simp only [lTyped] at hr
  rw [if_neg (by omega), if_pos ⟨hsg, by rw [← hR]; exact hp⟩, hd'] at hr
  have HSG : Hid (∀ w, Calls Tryz.prog 65 #[.int .i64 k] w fun e w' => e = .returned (.bool true) ∧ Below w.heap.size w w') := Lib.hid (by intro w; have := ksigned_at k (by omega) (by omega) w; rw [hsg] at this; exact this)
  have HP := Lib.hid hp
  have HM := Lib.hid hm
  have HD := Lib.hid hd
  obtain ⟨dn, dz⟩ := d
  obtain ⟨m1, m2, m3⟩ := m
  obtain ⟨dn0, dn1⟩ := hdn
  replace dn0 : 0 ≤ dn := dn0
  replace dn1 : dn ≤ 1099511627776 := dn1
  replace hdz : dz ≤ R1.size := hdz
  clear hsg hp hm hd hd' hR hL1 hsz
  have ek : ((k : Int) == 1) = false := by simp; omega
  have w1 : IntKind.i64.wrap ((at_ : Int) + 1) = (at_ : Int) + 1 := IntWalk.i64_in _ (by omega)
  have r1 : (1 : Int) ≤ (s.extract at_ s.size).size := by omega
  by_cases hz0 : dz = 0
  · rw [if_pos hz0] at hr
    have HR := Lib.hid hr
    clear hr
    subst hz0
    go_enter Tryz.func39, Tryz.ntmps39
    go_wp2_with (first
      | (go_at_call 65; refine (HSG.out _).mono ?_; rintro e w2 ⟨rfl, hb2⟩; have hk2 := Lib.hid (two_blocks hb2); clear hb2)
      | (go_at_call 16; refine (hasPrefix_any _ _ _).mono ?_; rintro e w3 ⟨rfl, rfl⟩; rw [HP.out]))
    go_quiet (fail)
    go_wp2_with (fail)
    rw [← hR1]
    clear hR1
    refine (lnumber_at HM.out (Nat.le_trans hR1s hs) _).mono ?_
    rintro e w3 ⟨rfl, hb3⟩
    obtain ⟨h6, h9, hb2⟩ := hk2.out
    replace h6 := blk_stays (w := w2.drewN nq) h6 hb3
    replace h9 := blk_stays (w := w2.drewN nq) h9 hb3
    have HB : Hid (Below w.heap.size w w3) := Lib.hid (btr (hb2.drewN nq) hb3)
    obtain ⟨c60, c61, c62, c63, c64, f60, f61, f62, f63, f64⟩ := blk5 h6
    obtain ⟨c90, c91, c92, c93, c94, f90, f91, f92, f93, f94⟩ := blk5 h9
    clear h6 h9 hb2 hk2 hb3
    go_wp2_with (go_at_call 40; refine (ldigits_at HD.out (Nat.le_trans hR1s hs) ⟨by omega, by omega⟩ _).mono ?_; rintro e w4 ⟨rfl, rfl⟩)
    refine bodyPost_ret (v := .tuple #[tokV tok0, .int .i64 0, .int .i64 120]) (by simp [results, Tryz.results39, go_sem, tokV, tok0, *]) rfl ⟨?_, ?_⟩
    · exact tok_fin HR.out.symm rfl
    · go_grown
      exact HB.out
  · rw [if_neg hz0] at hr
    obtain ⟨wv, hwv⟩ : ∃ wv, kWrap k (-dn) = wv := ⟨_, rfl⟩
    have HW : Hid (∀ w, Calls Tryz.prog 63 #[.int .i64 k, .int .i64 (-dn)] w fun e w' => e = .returned (.int .i64 wv) ∧ Below w.heap.size w w') := Lib.hid (by intro w; have := kwrap_at k (by omega) (by omega) (-dn) ⟨by omega, by omega⟩ w; rw [hwv] at this; exact this)
    simp only [hwv] at hr
    have HR := Lib.hid hr
    clear hr hwv
    have hz0' : ¬ ((dz : Int) = 0) := by omega
    have x1 : IntKind.i64.wrap (-1 * dn) = -dn := by rw [IntWalk.i64_in _ (by omega)]; omega
    go_enter Tryz.func39, Tryz.ntmps39
    go_wp2_with (first
      | (go_at_call 65; refine (HSG.out _).mono ?_; rintro e w2 ⟨rfl, hb2⟩; have hk2 := Lib.hid (two_blocks hb2); clear hb2)
      | (go_at_call 16; refine (hasPrefix_any _ _ _).mono ?_; rintro e w3 ⟨rfl, rfl⟩; rw [HP.out]))
    go_quiet (fail)
    go_wp2_with (fail)
    rw [← hR1]
    clear hR1
    refine (lnumber_at HM.out (Nat.le_trans hR1s hs) _).mono ?_
    rintro e w3 ⟨rfl, hb3⟩
    obtain ⟨h6, h9, hb2⟩ := hk2.out
    replace h6 := blk_stays (w := w2.drewN nq) h6 hb3
    replace h9 := blk_stays (w := w2.drewN nq) h9 hb3
    have HB : Hid (Below w.heap.size w w3) := Lib.hid (btr (hb2.drewN nq) hb3)
    have HT : Hid (TokS w k 0 w3) := Lib.hid ⟨h6, h9, HB.out⟩
    obtain ⟨c60, c61, c62, c63, c64, f60, f61, f62, f63, f64⟩ := blk5 h6
    obtain ⟨c90, c91, c92, c93, c94, f90, f91, f92, f93, f94⟩ := blk5 h9
    clear h6 h9 hb2 hk2 hb3 HB
    go_wp2_with (go_at_call 40; refine (ldigits_at HD.out (Nat.le_trans hR1s hs) ⟨by omega, by omega⟩ _).mono ?_; rintro e w4 ⟨rfl, rfl⟩)
    have hT := HT.out.set (-dn)
    obtain ⟨W5, hW5⟩ : ∃ W5, W5 = w3.setCell ⟨w.heap.size + 1, 2, none⟩ (.int .i64 (-dn)) := ⟨_, rfl⟩
    rw [← hW5] at hT ⊢
    clear hW5 c60 c61 c62 c63 c64 f60 f61 f62 f63 f64 c90 c91 c92 c93 c94 f90 f91 f92 f93 f94 HT
    have hc := hT.c2
    go_region_held3 (fun w' => w'.cell? ⟨w.heap.size + 1, 2, none⟩ = some (.int .i64 (-dn)) ∧ TokS w k (-dn) w') (first | exact ⟨TokS.c2 (by assumption), by assumption⟩ | exact ⟨TokS.c2 (TokS.drew (by assumption)), TokS.drew (by assumption)⟩) (first | (go_at_call 63; refine (HW.out _).mono ?_; rintro e w6 ⟨rfl, hb6⟩; have hs6 : TokS w k (-dn) w6 := TokS.below (by first | assumption | exact (by assumption : _ = some (Value.int IntKind.i64 (-dn)) ∧ TokS w k (-dn) _).2 | exact hT.drew) hb6))
    obtain ⟨c60, c61, c62, c63, c64, f60, f61, f62, f63, f64⟩ := blk5 hs6.1
    obtain ⟨c90, c91, c92, c93, c94, f90, f91, f92, f93, f94⟩ := blk5 hs6.2.1
    have HB : Hid (Below w.heap.size w w6) := Lib.hid hs6.2.2
    clear hs6 hb6 hT hc
    by_cases hE : -dn = wv
    · have HE := Lib.hid hE
      subst hE
      go_wp2
      refine bodyPost_ret (v := .tuple #[tokV ⟨3, k, -dn, [], 0⟩, .int .i64 ((at_ : Int) + 1 + (dz : Int)), .int .i64 0]) (by simp [results, Tryz.results39, go_sem, tokV, *]) rfl ⟨?_, ?_⟩
      · exact tok_fin (HR.out.symm.trans (if_pos HE.out)) (by push_cast; omega)
      · go_grown
        exact HB.out
    · have HE := Lib.hid hE
      go_wp2
      refine bodyPost_ret (v := .tuple #[tokV tok0, .int .i64 0, .int .i64 163]) (by simp [results, Tryz.results39, go_sem, tokV, tok0, *]) rfl ⟨?_, ?_⟩
      · exact tok_fin (HR.out.symm.trans (if_neg HE.out)) rfl
      · go_grown
        exact HB.out
end Go.Proofs.YtdabnnganponpaaGreatDoor
