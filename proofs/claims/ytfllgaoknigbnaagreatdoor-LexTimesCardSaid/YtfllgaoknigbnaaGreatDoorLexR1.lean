/- The walks through the statements' own small functions: Place, ranges, digits, hex. -/
import Derived.Test.YtfllgaoknigbnaaGreatDoorLexD4
import Derived.Test.YtfllgaoknigbnaaGreatDoorAddrW
namespace Go.Proofs.YtfllgaoknigbnaaGreatDoor
open Go.RowKit Lx

theorem numF_more {base : Nat} (hb : 2 ≤ base) (f n : Nat) (h : n < base ^ (f + 1)) : numF base (f + 1) n = numF base f n := by
  induction f generalizing n with
  | zero =>
    simp only [numF]
    rw [if_pos (by rw [Nat.zero_add, Nat.pow_one] at h; exact h)]
  | succ f ih =>
    have e1 : numF base (f + 1 + 1) n = if n < base then [digB n] else numF base (f + 1) (n / base) ++ [digB (n % base)] := rfl
    have e2 : numF base (f + 1) n = if n < base then [digB n] else numF base f (n / base) ++ [digB (n % base)] := rfl
    rw [e1, e2]
    split
    · rfl
    · rw [ih (n / base)]
      rw [Nat.div_lt_iff_lt_mul (by omega), ← Nat.pow_succ]; exact h
theorem decs_small {n : Nat} (h : n < 10) : decs n = [digB n] := by rw [decs, numF, if_pos h]
theorem hexs_small {n : Nat} (h : n < 16) : hexs n = [digB n] := by rw [hexs, numF, if_pos h]
theorem decs_big {n : Nat} (h : 10 ≤ n) (hn : n < 18446744073709551616) : decs n = decs (n / 10) ++ decs (n % 10) := by
  rw [decs_small (n := n % 10) (by omega), decs, numF, if_neg (by omega), decs, numF_more (by omega) 19 (n / 10) (by omega)]
theorem hexs_big {n : Nat} (h : 16 ≤ n) (hn : n < 18446744073709551616) : hexs n = hexs (n / 16) ++ hexs (n % 16) := by
  rw [hexs_small (n := n % 16) (by omega), hexs, numF, if_neg (by omega), hexs, numF_more (by omega) 19 (n / 16) (by omega)]

theorem tmod_neg {k n : Int} (hn : 0 < n) (hk : k < 0) : -n < k.tmod n ∧ k.tmod n ≤ 0 ∧ (k.tmod n < 0 → k.tmod n + n = k % n) ∧ (0 ≤ k.tmod n → k.tmod n = k % n) := by
  have h1 := Int.tmod_eq_emod (a := k) (b := n)
  have h2 := Int.emod_nonneg k (show n ≠ 0 by omega)
  have h3 := Int.emod_lt_of_pos k hn
  by_cases hd : n ∣ k
  · rw [if_pos (.inr hd)] at h1
    have h4 := Int.emod_eq_zero_of_dvd hd
    simp at h1
    refine ⟨by omega, by omega, by omega, by omega⟩
  · rw [if_neg (by rintro (h | h); omega; exact hd h)] at h1
    have h5 : (n.natAbs : Int) = n := by omega
    rw [h5] at h1
    have h6 : k % n ≠ 0 := fun h => hd (Int.dvd_of_emod_eq_zero h)
    refine ⟨by omega, by omega, by omega, by omega⟩

set_option maxHeartbeats 400000 in
/-- runghelp.Place: the remainder that is not below 0. -/
theorem hplace_at (k n : Int) (hk : -9223372036854775808 ≤ k) (hk2 : k ≤ 9223372036854775807) (hn : 0 < n) (hn2 : n ≤ 9223372036854775807) (w : World) :
    Calls Tryz.prog 13 #[.int .i64 k, .int .i64 n] w fun e w' => e = .returned (.int .i64 (k % n)) ∧ w = w' := by
  by_cases h0 : 0 ≤ k
  · have hm : 0 ≤ k % n ∧ k % n < n := ⟨Int.emod_nonneg _ (by omega), Int.emod_lt_of_pos _ hn⟩
    obtain ⟨m0, m1⟩ := hm
    go_enter Tryz.func13, Tryz.ntmps13
    go_wp2
    go_ret
    exact ⟨rfl, rfl⟩
  · have ht := tmod_neg (k := k) hn (by omega)
    obtain ⟨t0, t1, t2, t3⟩ := ht
    have T2 := Lib.hid t2
    have T3 := Lib.hid t3
    clear t2 t3
    go_enter Tryz.func13, Tryz.ntmps13
    go_wp2
    · go_ret
      exact ⟨ret_i64 (T2.out (by assumption)), rfl⟩
    · go_ret
      exact ⟨ret_i64 (T3.out (by assumption)), rfl⟩

theorem rranges_at {k : Nat} (h1 : k < 11) (h2 : 2 ≤ k) (w : World) :
    Calls Tryz.prog 14 #[.int .i64 k] w fun e w' => e = .returned (.tuple #[.int .i64 (kLo k), .int .i64 (kHi k)]) ∧ w = w' := by
  have h : k = 2 ∨ k = 3 ∨ k = 4 ∨ k = 5 ∨ k = 6 ∨ k = 7 ∨ k = 8 ∨ k = 9 ∨ k = 10 := by omega
  rcases h with rfl | rfl | rfl | rfl | rfl | rfl | rfl | rfl | rfl
  all_goals
    go_enter Tryz.func14, Tryz.ntmps14
    go_wp2
    exact bodyPost_ret (v := .tuple #[.int .i64 _, .int .i64 _]) (by simp [results, Tryz.results14, go_sem]; exact ⟨rfl, rfl⟩) rfl ⟨rfl, rfl⟩

theorem dec_slice {n : Nat} (h : n < 10) : (⟨#[48, 49, 50, 51, 52, 53, 54, 55, 56, 57]⟩ : ByteArray).extract n (n + 1) = ⟨(decs n).toArray⟩ := by
  have h2 : n = 0 ∨ n = 1 ∨ n = 2 ∨ n = 3 ∨ n = 4 ∨ n = 5 ∨ n = 6 ∨ n = 7 ∨ n = 8 ∨ n = 9 := by omega
  rcases h2 with rfl | rfl | rfl | rfl | rfl | rfl | rfl | rfl | rfl | rfl <;> decide
theorem hex_slice {n : Nat} (h : n < 16) : (⟨#[48, 49, 50, 51, 52, 53, 54, 55, 56, 57, 65, 66, 67, 68, 69, 70]⟩ : ByteArray).extract n (n + 1) = ⟨(hexs n).toArray⟩ := by
  have h2 : n = 0 ∨ n = 1 ∨ n = 2 ∨ n = 3 ∨ n = 4 ∨ n = 5 ∨ n = 6 ∨ n = 7 ∨ n = 8 ∨ n = 9 ∨ n = 10 ∨ n = 11 ∨ n = 12 ∨ n = 13 ∨ n = 14 ∨ n = 15 := by omega
  rcases h2 with rfl | rfl | rfl | rfl | rfl | rfl | rfl | rfl | rfl | rfl | rfl | rfl | rfl | rfl | rfl | rfl <;> decide
theorem str_app (a b : List UInt8) : (⟨a.toArray⟩ : ByteArray) ++ ⟨b.toArray⟩ = ⟨(a ++ b).toArray⟩ := by
  apply ByteArray.ext; simp [ByteArray.data_append]

set_option maxHeartbeats 1000000 in
theorem rdigits_at (n : Nat) (hn : n < 18446744073709551616) (w : World) :
    Calls Tryz.prog 15 #[.int .u64 n] w fun e w' => e = .returned (.string ⟨(decs n).toArray⟩) ∧ w = w' := by
  induction n using Nat.strongRecOn generalizing w with
  | ind n ih =>
    by_cases h : n < 10
    · have hs := Lib.hid (dec_slice h)
      have e1 : IntKind.u64.wrap ((n : Int) + 1) = ((n + 1 : Nat) : Int) := by simp [IntKind.wrap, IntKind.bits, IntKind.signed]; omega
      have b0 : (0 : Int) ≤ n := by omega
      have b1 : (n : Int) < 10 := by omega
      have b2 : ((n + 1 : Nat) : Int) ≤ 10 := by omega
      have b3 : (n : Int) ≤ ((n + 1 : Nat) : Int) := by omega
      clear ih
      go_enter Tryz.func15, Tryz.ntmps15
      go_wp2
      go_ret
      exact ⟨by rw [← hs.out]; rfl, rfl⟩
    · have i1 := ih (n / 10) (by omega) (by omega)
      have i2 := ih (n % 10) (by omega) (by omega)
      have hb := Lib.hid (decs_big (n := n) (by omega) hn)
      have e1 : IntKind.u64.wrap ((n : Int).tdiv 10) = ((n / 10 : Nat) : Int) := by rw [Int.tdiv_eq_ediv_of_nonneg (by omega)]; simp [IntKind.wrap, IntKind.bits, IntKind.signed]; omega
      have e2 : IntKind.u64.wrap ((n : Int).tmod 10) = ((n % 10 : Nat) : Int) := by rw [Int.tmod_eq_emod_of_nonneg (by omega)]; simp [IntKind.wrap, IntKind.bits, IntKind.signed]; omega
      have b1 : ¬ (n : Int) < 10 := by omega
      have I1 := Lib.hid i1
      have I2 := Lib.hid i2
      have b2 : (decs (n / 10)).length + (decs (n % 10)).length ≤ 9223372036854775807 := by have := decs_len (n / 10); have := decs_len (n % 10); omega
      clear ih i1 i2
      go_enter Tryz.func15, Tryz.ntmps15
      go_wp2_with (fail)
      refine (I1.out _).mono ?_; rintro e w1 ⟨rfl, rfl⟩
      go_wp2_with (fail)
      refine (I2.out _).mono ?_; rintro e w2 ⟨rfl, rfl⟩
      go_wp2
      go_ret
      exact ⟨by rw [hb.out, ← str_app]; rfl, rfl⟩
set_option maxHeartbeats 1000000 in
theorem rhex_at (n : Nat) (hn : n < 18446744073709551616) (w : World) :
    Calls Tryz.prog 17 #[.int .u64 n] w fun e w' => e = .returned (.string ⟨(hexs n).toArray⟩) ∧ w = w' := by
  induction n using Nat.strongRecOn generalizing w with
  | ind n ih =>
    by_cases h : n < 16
    · have hs := Lib.hid (hex_slice h)
      have e1 : IntKind.u64.wrap ((n : Int) + 1) = ((n + 1 : Nat) : Int) := by simp [IntKind.wrap, IntKind.bits, IntKind.signed]; omega
      have b0 : (0 : Int) ≤ n := by omega
      have b1 : (n : Int) < 16 := by omega
      have b2 : ((n + 1 : Nat) : Int) ≤ 16 := by omega
      have b3 : (n : Int) ≤ ((n + 1 : Nat) : Int) := by omega
      clear ih
      go_enter Tryz.func17, Tryz.ntmps17
      go_wp2
      go_ret
      exact ⟨by rw [← hs.out]; rfl, rfl⟩
    · have i1 := ih (n / 16) (by omega) (by omega)
      have i2 := ih (n % 16) (by omega) (by omega)
      have hb := Lib.hid (hexs_big (n := n) (by omega) hn)
      have e1 : IntKind.u64.wrap ((n : Int).tdiv 16) = ((n / 16 : Nat) : Int) := by rw [Int.tdiv_eq_ediv_of_nonneg (by omega)]; simp [IntKind.wrap, IntKind.bits, IntKind.signed]; omega
      have e2 : IntKind.u64.wrap ((n : Int).tmod 16) = ((n % 16 : Nat) : Int) := by rw [Int.tmod_eq_emod_of_nonneg (by omega)]; simp [IntKind.wrap, IntKind.bits, IntKind.signed]; omega
      have b1 : ¬ (n : Int) < 16 := by omega
      have I1 := Lib.hid i1
      have I2 := Lib.hid i2
      have b2 : (hexs (n / 16)).length + (hexs (n % 16)).length ≤ 9223372036854775807 := by have := hexs_len (n / 16); have := hexs_len (n % 16); omega
      clear ih i1 i2
      go_enter Tryz.func17, Tryz.ntmps17
      go_wp2_with (fail)
      refine (I1.out _).mono ?_; rintro e w1 ⟨rfl, rfl⟩
      go_wp2_with (fail)
      refine (I2.out _).mono ?_; rintro e w2 ⟨rfl, rfl⟩
      go_wp2
      go_ret
      exact ⟨by rw [hb.out, ← str_app]; rfl, rfl⟩
end Go.Proofs.YtfllgaoknigbnaaGreatDoor
