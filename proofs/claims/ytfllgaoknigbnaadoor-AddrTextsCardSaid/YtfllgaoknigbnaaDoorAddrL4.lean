/- The walk through the statement AddrTexts. -/
import Derived.Test.YtfllgaoknigbnaaDoorAddrL3
namespace Go.Proofs.YtfllgaoknigbnaaDoor
open Go.RowKit Ad

theorem fns_cell (j : Nat) (hj : j < 6) (w : World) :
    (w.alloc (.cells #[.int .u8 2, .int .u8 1, .int .u8 1, .int .u8 4, .int .u8 3, .int .u8 3] 5)).cell? ⟨w.heap.size, j, none⟩ = some (.int .u8 (fnOf (1 + (j : Int)))) := by
  have h : j = 0 ∨ j = 1 ∨ j = 2 ∨ j = 3 ∨ j = 4 ∨ j = 5 := by omega
  rcases h with rfl | rfl | rfl | rfl | rfl | rfl <;> exact (World.cell?_alloc_at _ _ _ _ rfl)

set_option maxRecDepth 100000 in
set_option maxHeartbeats 2000000 in
theorem addrTexts_walk (area : Int) (ar0 : -9223372036854775808 ≤ area) (ar1 : area ≤ 9223372036854775807) (off : Int) (of0 : -9223372036854775808 ≤ off) (of1 : off ≤ 9223372036854775807) (w : World) (he : Env w) :
    Calls Tryd.prog 4 #[.int .i64 area, .int .i64 off] w fun e w' => e = .returned (.bool true) ∧ Below w.heap.size w w' := by
  obtain ⟨t, ht⟩ : ∃ t, aText area off = t := ⟨_, rfl⟩
  obtain ⟨sz, hz⟩ : ∃ sz, aSize area = sz := ⟨_, rfl⟩
  obtain ⟨b, hbt⟩ : ∃ b, aBit area = b := ⟨_, rfl⟩
  obtain ⟨c, hc⟩ : ∃ c, aCoil area off = c := ⟨_, rfl⟩
  obtain ⟨J, hJ⟩ := Int.eq_ofNat_of_zero_le (Int.emod_nonneg area (show (6 : Int) ≠ 0 by omega))
  have hJ6 : (J : Int) < 6 := by have := Int.emod_lt_of_pos area (show (0 : Int) < 6 by omega); omega
  have hs0 : 0 < aSize (1 + (J : Int)) := by
    have h : J = 0 ∨ J = 1 ∨ J = 2 ∨ J = 3 ∨ J = 4 ∨ J = 5 := by omega
    rcases h with rfl | rfl | rfl | rfl | rfl | rfl <;> decide
  have hsl := aSize_le (1 + (J : Int))
  obtain ⟨s1, hs1⟩ : ∃ s1, aSize (1 + (J : Int)) = s1 := ⟨_, rfl⟩
  have hsz1 := hs1
  rw [hs1] at hs0 hsl
  obtain ⟨n1, hn1⟩ : ∃ n1, off % s1 = n1 := ⟨_, rfl⟩
  have n0 : 0 ≤ n1 := by rw [← hn1]; exact Int.emod_nonneg _ (by omega)
  have n2 : n1 < s1 := by rw [← hn1]; exact Int.emod_lt_of_pos _ hs0
  obtain ⟨t1, ht1⟩ : ∃ t1, aText (1 + (J : Int)) n1 = t1 := ⟨_, rfl⟩
  obtain ⟨c1, hc1⟩ : ∃ c1, aCoil (1 + (J : Int)) n1 = c1 := ⟨_, rfl⟩
  have hback := text_back (a := 1 + (J : Int)) (n := n1) (by omega) (by omega) n0 (by rw [hs1]; exact n2)
  rw [ht1] at hback
  have hlen := aText_len (1 + (J : Int)) n1
  rw [ht1] at hlen
  have hcp := coil_place (a := 1 + (J : Int)) (n := n1) (by omega) (by omega) n0 (by rw [hs1]; exact n2)
  rw [hc1] at hcp
  have hc1b : c1 ≤ 9223372036854775807 := by rw [← hc1]; unfold aCoil; rw [hs1]; split <;> (try split) <;> omega
  have hcell := fun W => fns_cell J (by omega) W
  have T := Lib.hid ht
  have Z := Lib.hid hz
  have B := Lib.hid hbt
  have C := Lib.hid hc
  have HJ := Lib.hid hJ
  have S1 := Lib.hid hsz1
  have N1 := Lib.hid hn1
  have T1 := Lib.hid ht1
  have C1 := Lib.hid hc1
  have BACK := Lib.hid hback
  have CP := Lib.hid hcp
  have C1B := Lib.hid hc1b
  have LEN := Lib.hid hlen
  have CELL := Lib.hid hcell
  clear ht hz hbt hc hJ hsz1 hs1 hn1 ht1 hc1 hback hcp hc1b hlen hcell
  go_enter Tryd.func4, Tryd.ntmps4
  go_wp2_with fail
  refine (known10 _ he).mono ?_; rintro e w1 ⟨rfl, hb1⟩
  go_wp2_with fail
  refine (text_at T.out _).mono ?_; rintro e w2 ⟨rfl, rfl⟩
  go_wp2_with fail
  refine (rtext_at T.out _).mono ?_; rintro e w3 ⟨rfl, hb3⟩
  have hb3' := btr hb1 hb3
  go_wp2_with fail
  refine (size_any _ _).mono ?_; rintro e w4 ⟨rfl, rfl⟩; rw [Z.out]
  go_wp2_with fail
  refine (rsize_any _ _).mono ?_; rintro e w4 ⟨rfl, rfl⟩; rw [Z.out]
  go_wp2_with fail
  refine (bit_any _ _).mono ?_; rintro e w4 ⟨rfl, rfl⟩; rw [B.out]
  go_wp2_with fail
  refine (rbit_any _ _).mono ?_; rintro e w4 ⟨rfl, rfl⟩; rw [B.out]
  go_wp2_with fail
  refine (coil_at C.out _).mono ?_; rintro e w4 ⟨rfl, rfl⟩
  go_wp2_with fail
  refine (rcoil_at C.out _).mono ?_; rintro e w4 ⟨rfl, rfl⟩
  go_wp2_with fail
  refine (hplace_at _ _ ar0 ar1 (by omega) (by omega) _).mono ?_; rintro e w4 ⟨rfl, rfl⟩; rw [HJ.out]
  go_wp2_with fail
  refine (size_any _ _).mono ?_; rintro e w4 ⟨rfl, rfl⟩; rw [S1.out]
  go_wp2_with fail
  refine (hplace_at _ _ of0 of1 (by omega) (by omega) _).mono ?_; rintro e w4 ⟨rfl, rfl⟩; rw [N1.out]
  go_wp2_with fail
  refine (text_at T1.out _).mono ?_; rintro e w4 ⟨rfl, rfl⟩
  go_wp2_with fail
  refine (aparse_at (s := ⟨t1.toArray⟩) BACK.out (by rw [Ad.size_of_list]; have := LEN.out; omega) _ (he.below hb3')).mono ?_; rintro e w5 ⟨rfl, hb5⟩
  have hb5' := btr hb3' hb5
  have hc := CELL.out w5
  have j0 : 0 ≤ (J : Int) := by omega
  have j1 : 1 + (J : Int) - 1 = (J : Int) := by omega
  have j2 : (1 + (J : Int) - 1).toNat = J := by omega
  go_wp2_with fail
  refine (coil_at C1.out _).mono ?_; rintro e w6 ⟨rfl, rfl⟩
  go_wp2_with fail
  refine (place_at CP.out C1B.out _).mono ?_; rintro e w6 ⟨rfl, rfl⟩
  go_wp2_with fail
  go_ret
  exact ⟨rfl, btr hb5' ((Below.refl _ _).alloc (Nat.le_refl _) _)⟩
end Go.Proofs.YtfllgaoknigbnaaDoor
