/- The walks through the reference's keywords: rungref1's names and Kind, rungref12's Word. -/
import Derived.Test.YtfllgaoknigbnaaGreatDoorLexR2
namespace Go.Proofs.YtfllgaoknigbnaaGreatDoor
open Go.RowKit Lx Ad

def KN : List (List UInt8) := [[66, 79, 79, 76], [83, 73, 78, 84], [73, 78, 84], [68, 73, 78, 84], [85, 83, 73, 78, 84], [85, 73, 78, 84], [85, 68, 73, 78, 84], [66, 89, 84, 69], [87, 79, 82, 68], [68, 87, 79, 82, 68], [84, 73, 77, 69]]
theorem strs_cell (L : List (List UInt8)) (j : Nat) (hj : j < L.length) : (L.map fun l => Value.string ⟨l.toArray⟩).toArray[j]? = some (.string (mkS (L.getD j []))) := by
  rw [List.getElem?_toArray, List.getElem?_map, List.getElem?_eq_getElem hj, List.getD_eq_getElem?_getD, List.getElem?_eq_getElem hj]
  rfl
theorem kn_name : ∀ j, j < 11 → mkS (KN.getD j []) = kName (j + 1) := by
  intro j hj
  match j, hj with
  | 0, _ => rfl
  | 1, _ => rfl
  | 2, _ => rfl
  | 3, _ => rfl
  | 4, _ => rfl
  | 5, _ => rfl
  | 6, _ => rfl
  | 7, _ => rfl
  | 8, _ => rfl
  | 9, _ => rfl
  | 10, _ => rfl

theorem rnames_at (w : World) : Calls Tryz.prog 41 #[] w fun e w' => e = .returned (.slice (some ⟨w.heap.size, 0, none⟩) 11 11) ∧ w' = w.alloc (.cells (KN.map fun l => Value.string ⟨l.toArray⟩).toArray 9) := by
  go_enter Tryz.func41, Tryz.ntmps41
  go_wp2
  go_ret
  exact ⟨rfl, rfl⟩

set_option maxHeartbeats 800000 in
theorem rkind_at {x : ByteArray} {r : Nat} (hr : kindOf x = r) (w : World) :
    Calls Tryz.prog 24 #[.string x] w fun e w' => e = .returned (.int .i64 r) ∧ Below w.heap.size w w' := by
  have HR : Hid (KindAt x r 1) := Lib.hid hr
  clear hr
  go_enter Tryz.func24, Tryz.ntmps24
  go_wp2_with (go_at_call 41; refine (rnames_at _).mono ?_; rintro e w1 ⟨rfl, hw1⟩; have HW := Lib.hid hw1; clear hw1)
  have hw1 := HW.out
  have hcell : ∀ j, j < 11 → w1.cell? ⟨w.heap.size, j, none⟩ = some (.string (mkS (KN.getD j []))) := by
    intro j hj
    rw [hw1, World.cell?_alloc_at _ _ _ _ (by simp)]
    exact strs_cell KN j hj
  have HC := Lib.hid hcell
  have HB : Hid (Below w.heap.size w w1) := Lib.hid (by rw [hw1]; exact (Below.refl _ _).alloc (Nat.le_refl _) _)
  clear hcell hw1 HW
  obtain ⟨b, hb⟩ : ∃ b, w.heap.size = b := ⟨_, rfl⟩
  rw [hb] at HC ⊢
  have HBE := Lib.hid hb
  clear hb
  go_loop [4] (fun i => ∃ k : Nat, k ≤ 11 ∧ i = .int .i64 k ∧ Hid (KindAt x r (k + 1))) (fun i => 11 - (intOf i).toNat)
  case atStart => exact ⟨0, by omega, rfl, HR⟩
  case round =>
    clear HR
    obtain ⟨k, hk, rfl, HD⟩ := hrel
    by_cases hlt : k < 11
    · have hc := HC.out k hlt
      rw [kn_name k hlt] at hc
      have hhit := HD.out.hit (by omega)
      have hmiss := HD.out.miss (by omega)
      obtain ⟨a, ha⟩ : ∃ a, kName (k + 1) = a := ⟨_, rfl⟩
      rw [ha] at hc hhit hmiss
      have HH := Lib.hid hhit
      have HM := Lib.hid hmiss
      have k0 : 0 ≤ (k : Int) := by omega
      have k1 : (k : Int) < 11 := by omega
      clear hhit hmiss ha HD
      obtain ⟨d, hd⟩ : ∃ d, (a.toList == x.toList) = d := ⟨_, rfl⟩
      cases d with
      | true =>
        have HE := Lib.hid ((ba_eq_iff a x).1 hd)
        go_wp2
        go_ret
        exact ⟨ret_i64 (by rw [← HH.out HE.out]; go_num), HB.out⟩
      | false =>
        have HE : Hid (¬ a = x) := Lib.hid (fun h => by rw [(ba_eq_iff a x).2 h] at hd; cases hd)
        go_wp2
        go_round
        case rel => exact ⟨k + 1, by omega, by go_num, Lib.hid (HM.out HE.out)⟩
        case measure => simp [intOf]; omega
    · have HE : Hid (r = 0) := Lib.hid (by have := HD.out; unfold KindAt at this; rw [show 12 - (k + 1) = 0 by omega] at this; exact this.symm)
      have k1 : ¬ (k : Int) < 11 := by omega
      clear HD
      go_wp2
      go_ret
      exact ⟨ret_i64 (by rw [HE.out]; rfl), HB.out⟩

theorem kwMem_hit {x : ByteArray} {k : Nat} (hk : k < 36) (h : mkS (KW.getD k []) = x) : lWord x = true := by
  have hl : KW.length = 36 := by decide
  have hm : x ∈ KW.map mkS := by
    rw [← h, List.getD_eq_getElem?_getD, List.getElem?_eq_getElem (by omega)]
    exact List.mem_map.2 ⟨_, List.getElem_mem _, rfl⟩
  simp [lWord, (Lib.containsS_iff _ _).2 hm]
theorem kwMem_miss {x : ByteArray} (h : ∀ j, j < 36 → ¬ mkS (KW.getD j []) = x) : lWord x = (kindOf x != 0) := by
  have hl : KW.length = 36 := by decide
  have hm : Lib.containsS (KW.map mkS) x = false := by
    cases hc : Lib.containsS (KW.map mkS) x with
    | false => rfl
    | true =>
      obtain ⟨l, hl1, hl2⟩ := List.mem_map.1 ((Lib.containsS_iff _ _).1 hc)
      obtain ⟨j, hj, he⟩ := List.getElem_of_mem hl1
      exact absurd (by rw [List.getD_eq_getElem?_getD, List.getElem?_eq_getElem hj, Option.getD_some, he]; exact hl2) (h j (by omega))
  simp [lWord, hm]

set_option maxRecDepth 100000 in
set_option maxHeartbeats 1600000 in
theorem rWord_at {x : ByteArray} {r : Bool} (hr : lWord x = r) (w : World) :
    Calls Tryz.prog 12 #[.string x] w fun e w' => e = .returned (.bool r) ∧ Below w.heap.size w w' := by
  have HR := Lib.hid hr
  clear hr
  obtain ⟨kd, hkd⟩ : ∃ kd, kindOf x = kd := ⟨_, rfl⟩
  have HK := Lib.hid hkd
  clear hkd
  go_enter Tryz.func12, Tryz.ntmps12
  go_wp2
  generalize hw1 : w.alloc _ = w1
  have hcell : ∀ j, j < 36 → w1.cell? ⟨w.heap.size, j, none⟩ = some (.string (mkS (KW.getD j []))) := by
    intro j hj
    rw [← hw1, World.cell?_alloc_at _ _ _ _ (by simp)]
    exact strs_cell KW j hj
  have HC := Lib.hid hcell
  have HB : Hid (Below w.heap.size w w1) := Lib.hid (by rw [← hw1]; exact (Below.refl _ _).alloc (Nat.le_refl _) _)
  clear hcell hw1
  obtain ⟨b, hb⟩ : ∃ b, w.heap.size = b := ⟨_, rfl⟩
  rw [hb] at HC ⊢
  have HBE := Lib.hid hb
  clear hb
  go_loop [4] (fun i => ∃ k : Nat, k ≤ 36 ∧ i = .int .i64 k ∧ Hid (∀ j, j < k → ¬ mkS (KW.getD j []) = x)) (fun i => 36 - (intOf i).toNat)
  case atStart => exact ⟨0, by omega, rfl, Lib.hid (fun j hj => absurd hj (Nat.not_lt_zero _))⟩
  case round =>
    obtain ⟨k, hk, rfl, HD⟩ := hrel
    by_cases hlt : k < 36
    · have hc := HC.out k hlt
      obtain ⟨a, ha⟩ : ∃ a, mkS (KW.getD k []) = a := ⟨_, rfl⟩
      rw [ha] at hc
      have HA := Lib.hid ha
      have k0 : 0 ≤ (k : Int) := by omega
      have k1 : (k : Int) < 36 := by omega
      clear ha
      obtain ⟨d, hd⟩ : ∃ d, (a.toList == x.toList) = d := ⟨_, rfl⟩
      cases d with
      | true =>
        have HE := Lib.hid ((ba_eq_iff a x).1 hd)
        go_wp2
        go_ret
        exact ⟨by rw [← HR.out, kwMem_hit hlt (HA.out.trans HE.out)]; rfl, HB.out⟩
      | false =>
        have HE : Hid (¬ a = x) := Lib.hid (fun h => by rw [(ba_eq_iff a x).2 h] at hd; cases hd)
        go_wp2
        go_round
        case rel =>
          refine ⟨k + 1, by omega, by go_num, Lib.hid (fun j hj => ?_)⟩
          rcases Nat.lt_or_ge j k with h | h
          · exact HD.out j h
          · rw [show j = k by omega, HA.out]; exact HE.out
        case measure => simp [intOf]; omega
    · have hk36 : k = 36 := by omega
      have HE : Hid (r = (kd != 0)) := Lib.hid (by rw [← HR.out, kwMem_miss (by rw [← hk36]; exact HD.out), HK.out])
      have k1 : ¬ (k : Int) < 36 := by omega
      clear HD hk36
      by_cases h0 : kd = 0
      · subst h0
        go_wp2_with (go_at_call 24; refine (rkind_at HK.out _).mono ?_; rintro e w2 ⟨rfl, hb2⟩)
        go_ret
        exact ⟨by rw [HE.out]; rfl, bjoin HB.out hb2⟩
      · have h1 : ¬ ((kd : Nat) : Int) = 0 := by omega
        go_wp2_with (go_at_call 24; refine (rkind_at HK.out _).mono ?_; rintro e w2 ⟨rfl, hb2⟩)
        go_ret
        exact ⟨by rw [HE.out]; simp; rw [Bool.eq_iff_iff]; simp, bjoin HB.out hb2⟩
end Go.Proofs.YtfllgaoknigbnaaGreatDoor
