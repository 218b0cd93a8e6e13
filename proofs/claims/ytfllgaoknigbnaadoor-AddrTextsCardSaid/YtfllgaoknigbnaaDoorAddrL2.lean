/- The walks through the statements of layer 10, second part. -/
import Derived.Test.YtfllgaoknigbnaaDoorAddrL
import Derived.Test.YtfllgaoknigbnaaDoorAddrX
namespace Go.Proofs.YtfllgaoknigbnaaDoor
open Go.RowKit Ad

set_option maxHeartbeats 400000 in
/-- runghelp.Place: the remainder that is not below 0. -/
theorem hplace_at (k n : Int) (hk : -9223372036854775808 ≤ k) (hk2 : k ≤ 9223372036854775807) (hn : 0 < n) (hn2 : n ≤ 9223372036854775807) (w : World) :
    Calls Tryd.prog 17 #[.int .i64 k, .int .i64 n] w fun e w' => e = .returned (.int .i64 (k % n)) ∧ w = w' := by
  by_cases h0 : 0 ≤ k
  · have hm : 0 ≤ k % n ∧ k % n < n := ⟨Int.emod_nonneg _ (by omega), Int.emod_lt_of_pos _ hn⟩
    obtain ⟨m0, m1⟩ := hm
    go_enter Tryd.func17, Tryd.ntmps17
    go_wp2
    go_ret
    exact ⟨rfl, rfl⟩
  · have ht := tmod_neg (k := k) hn (by omega)
    obtain ⟨t0, t1, t2, t3⟩ := ht
    have T2 := Lib.hid t2
    have T3 := Lib.hid t3
    clear t2 t3
    go_enter Tryd.func17, Tryd.ntmps17
    go_wp2
    · go_ret
      exact ⟨ret_i64 (T2.out (by assumption)), rfl⟩
    · go_ret
      exact ⟨ret_i64 (T3.out (by assumption)), rfl⟩

set_option maxHeartbeats 1000000 in
theorem rcoil_at {a off r : Int} (hr : aCoil a off = r) (w : World) :
    Calls Tryd.prog 16 #[.int .i64 a, .int .i64 off] w fun e w' => e = .returned (.int .i64 r) ∧ w = w' := by
  have hsz := aSize_le a
  obtain ⟨sz, hz⟩ : ∃ sz, aSize a = sz := ⟨_, rfl⟩
  rw [hz] at hsz
  rw [aCoil, hz] at hr
  have HZ := Lib.hid hz
  have HR := Lib.hid hr
  clear hz hr
  by_cases h0 : off < 0
  · go_enter Tryd.func16, Tryd.ntmps16
    go_wp2_with fail
    go_ret
    exact ⟨ret_i64 (by rw [← HR.out, if_pos (.inl h0)]), rfl⟩
  by_cases h1 : sz ≤ off
  · go_enter Tryd.func16, Tryd.ntmps16
    go_wp2_with (go_at_call 12; refine (rsize_any _ _).mono ?_; rintro e w1 ⟨rfl, rfl⟩; rw [HZ.out])
    go_ret
    exact ⟨ret_i64 (by rw [← HR.out, if_pos (.inr h1)]), rfl⟩
  have hlt : off < sz := by omega
  by_cases h3 : a = 3
  · subst h3
    have hz2 : sz = 128 := HZ.out.symm.trans aSize_3
    have HZ2 := Lib.hid hz2
    go_enter Tryd.func16, Tryd.ntmps16
    clear hz2
    go_wp2_with (go_at_call 12; refine (rsize_any _ _).mono ?_; rintro e w1 ⟨rfl, rfl⟩; rw [HZ.out])
    go_ret
    exact ⟨ret_i64 (by rw [← HR.out, if_neg (by omega), if_pos (by simp), HZ2.out]; omega), rfl⟩
  by_cases h6 : a = 6
  · subst h6
    have hz2 : sz = 64 := HZ.out.symm.trans aSize_6
    have HZ2 := Lib.hid hz2
    go_enter Tryd.func16, Tryd.ntmps16
    clear hz2
    go_wp2_with (go_at_call 12; refine (rsize_any _ _).mono ?_; rintro e w1 ⟨rfl, rfl⟩; rw [HZ.out])
    go_ret
    exact ⟨ret_i64 (by rw [← HR.out, if_neg (by omega), if_pos (by simp), HZ2.out]; omega), rfl⟩
  have e3 : (a == 3) = false := by simpa using h3
  have e6 : (a == 6) = false := by simpa using h6
  go_enter Tryd.func16, Tryd.ntmps16
  go_wp2_with (go_at_call 12; refine (rsize_any _ _).mono ?_; rintro e w1 ⟨rfl, rfl⟩; rw [HZ.out])
  go_ret
  exact ⟨ret_i64 (by rw [← HR.out, if_neg (by omega), if_neg (by simp [h3, h6])]), rfl⟩

set_option maxHeartbeats 2000000 in
theorem rplace_at2 {fn n r1 r2 : Int} (hr : aPlace fn n = (r1, r2)) (hn0 : -9223372036854775808 ≤ n) (hn : n ≤ 9223372036854775807) (w : World) :
    Calls Tryd.prog 19 #[.int .u8 fn, .int .i64 n] w fun e w' => e = .returned (.tuple #[.int .i64 r1, .int .i64 r2]) ∧ w = w' := by
  have HR := Lib.hid hr
  clear hr
  go_enter Tryd.func19, Tryd.ntmps19
  go_wp2_with (go_at_call 12; refine (rsize_any _ _).mono ?_; rintro e w1 ⟨rfl, rfl⟩; simp only [aSize_0, aSize_1, aSize_2, aSize_3, aSize_4, aSize_5, aSize_6])
  all_goals (go_ret2; refine ⟨ret2_i64 ?_, rfl⟩; rw [← HR.out]; clear HR)
  all_goals
    (try simp only [beq_iff_eq, beq_eq_false_iff_ne, ne_eq, decide_eq_true_eq, decide_eq_false_iff_not, Int.not_lt, Int.not_le] at *)
    first
      | rw [pl1 (by omega)]
      | rw [pl2 (by omega)]
      | rw [pl3 (by omega)]
      | rw [pl4 (by omega)]
      | rw [pl5 (by omega)]
    try (first
      | rw [tb0 (by omega)]
      | rw [tb1 rfl (by omega) (by simp only [aSize_0, aSize_1, aSize_2, aSize_3, aSize_4, aSize_5, aSize_6]; omega)]
      | rw [tb2 rfl rfl (by omega) (by simp only [aSize_0, aSize_1, aSize_2, aSize_3, aSize_4, aSize_5, aSize_6]; omega) (by simp only [aSize_0, aSize_1, aSize_2, aSize_3, aSize_4, aSize_5, aSize_6]; omega)]; rfl
      | rw [tb3 rfl rfl (by omega) (by simp only [aSize_0, aSize_1, aSize_2, aSize_3, aSize_4, aSize_5, aSize_6]; omega) (by simp only [aSize_0, aSize_1, aSize_2, aSize_3, aSize_4, aSize_5, aSize_6]; omega)])
end Go.Proofs.YtfllgaoknigbnaaDoor
