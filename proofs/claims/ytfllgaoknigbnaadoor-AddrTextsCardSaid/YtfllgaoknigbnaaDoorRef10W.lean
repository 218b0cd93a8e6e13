/- The walks through package rungref10. -/
import Derived.Test.YtfllgaoknigbnaaDoorAddrW2
import Derived.Test.YtfllgaoknigbnaaDoorRef10P
namespace Go.Proofs.YtfllgaoknigbnaaDoor
open Go.RowKit Ad

set_option maxHeartbeats 400000 in
theorem rsize_any (a : Int) (w : World) :
    Calls Tryd.prog 12 #[.int .i64 a] w fun e w' => e = .returned (.int .i64 (aSize a)) ∧ w = w' := by
  go_enter Tryd.func12, Tryd.ntmps12
  go_wp2
  all_goals (go_ret; exact ⟨ret_i64 (by simp_all [aSize]), rfl⟩)

set_option maxHeartbeats 400000 in
theorem rbit_any (a : Int) (w : World) :
    Calls Tryd.prog 14 #[.int .i64 a] w fun e w' => e = .returned (.bool (aBit a)) ∧ w = w' := by
  by_cases h1 : a = 1
  · subst h1
    go_enter Tryd.func14, Tryd.ntmps14
    go_wp2
    go_ret; exact ⟨ret_bool (by decide), rfl⟩
  by_cases h2 : a = 2
  · subst h2
    go_enter Tryd.func14, Tryd.ntmps14
    go_wp2
    go_ret; exact ⟨ret_bool (by decide), rfl⟩
  have e1 : (a == 1) = false := by simpa using h1
  have e2 : (a == 2) = false := by simpa using h2
  go_enter Tryd.func14, Tryd.ntmps14
  go_wp2
  go_ret; exact ⟨ret_bool (Bool.eq_iff_iff.2 (by simp [aBit, h1, h2])), rfl⟩

set_option maxHeartbeats 1000000 in
theorem rnum_at {s : ByteArray} {r : Int} (hr : rNum s.data.toList = r) (hs : s.size ≤ 140737488351232) (w : World) :
    Calls Tryd.prog 24 #[.string s] w fun e w' => e = .returned (.int .i64 r) ∧ w = w' := by
  have HR := Lib.hid hr
  clear hr
  have hl : s.data.toList.length = s.size := rfl
  have HL := Lib.hid hl
  clear hl
  by_cases h1 : s.size < 1
  · go_enter Tryd.func24, Tryd.ntmps24
    go_wp2
    go_ret; exact ⟨ret_i64 (by rw [← HR.out, rNum, if_pos (.inl (by have := HL.out; omega))]), rfl⟩
  by_cases h3 : 3 < s.size
  · go_enter Tryd.func24, Tryd.ntmps24
    go_wp2
    go_ret; exact ⟨ret_i64 (by rw [← HR.out, rNum, if_pos (.inr (.inl (by have := HL.out; omega)))]), rfl⟩
  have hp : 0 < s.size := by omega
  have h3' : s.size ≤ 3 := by omega
  have hc : ((s[0].toNat : Int) == 48) = false ∨ ((s[0].toNat : Int) == 48) = true ∧ s.size = 1 ∨ ((s[0].toNat : Int) == 48) = true ∧ 1 < s.size := by
    by_cases h : (s[0].toNat : Int) = 48
    · rw [beq_iff_eq.2 h]; simp; omega
    · rw [beq_eq_false_iff_ne.2 h]; simp
  have hmain : ¬ (((s[0].toNat : Int) == 48) = true ∧ 1 < s.size) → rDigits (s.data.toList.drop 0) 0 = r := by
    intro h
    have h' : ¬ (s.data.toList.length < 1 ∨ s.data.toList.length > 3 ∨ (s.data.toList.head? = some 48 ∧ s.data.toList.length > 1)) := by
      rw [HL.out, head_at hp]
      rintro (h | h | ⟨h4, h5⟩)
      · omega
      · omega
      · injection h4 with h4
        exact h ⟨by rw [h4]; rfl, h5⟩
    rw [← HR.out, rNum, if_neg h']; rfl
  have HM := Lib.hid hmain
  clear hmain
  rcases hc with hc | ⟨hc, h5⟩ | ⟨hc, h5⟩
  rotate_right
  · have HC := Lib.hid hc
    go_enter Tryd.func24, Tryd.ntmps24
    go_wp2
    go_ret
    have hx : s.data.toList.head? = some 48 := by
      rw [head_at hp]
      have h6 : (s[0].toNat : Int) = 48 := by simpa using HC.out
      have h7 : s[0].toNat = (48 : UInt8).toNat := by
        have : (48 : UInt8).toNat = 48 := rfl
        omega
      rw [UInt8.toNat_inj.1 h7]
    exact ⟨ret_i64 (by rw [← HR.out, rNum, if_pos (.inr (.inr ⟨hx, by have := HL.out; omega⟩))]), rfl⟩
  all_goals
    have HM' : rDigits (s.data.toList.drop 0) 0 = r := HM.out (by rw [hc]; simp; try omega)
    have HQ := Lib.hid HM'
    clear HM' HM
    go_enter Tryd.func24, Tryd.ntmps24
    go_wp2
    clear hc
    go_loop [3, 4] (fun n i => ∃ (k : Nat) (acc : Int), k ≤ s.size ∧ 0 ≤ acc ∧ acc < 1000 ∧ (k = 0 → acc = 0) ∧ (k = 1 → acc < 10) ∧ (k = 2 → acc < 100) ∧ i = .int .i64 k ∧ n = .int .i64 acc ∧ Hid (rDigits (s.data.toList.drop k) acc = r)) (fun _ i => s.size - (intOf i).toNat)
    case atStart => exact ⟨0, 0, by omega, by omega, by omega, by omega, by omega, by omega, rfl, rfl, HQ⟩
    case round =>
      obtain ⟨k, acc, hk, a0, a1, k0, k1, k2, rfl, rfl, HD⟩ := hrel
      have hacc : k = 3 ∨ acc < 100 := by omega
      by_cases hlt : k < s.size
      · by_cases hd : 48 ≤ s[k].toNat ∧ s[k].toNat ≤ 57
        · have HE := Lib.hid ((rDigits_yes hlt hd.1 hd.2).symm.trans HD.out)
          obtain ⟨d1, d2⟩ := hd
          clear HD
          go_wp2
          go_round
          case rel => exact ⟨k + 1, 10 * acc + (s[k].toNat - 48), by omega, by omega, by omega, by omega, by omega, by omega, by go_num, by go_num, HE⟩
          case measure => simp [intOf]; omega
        · have HE := Lib.hid ((rDigits_no (acc := acc) hlt hd).symm.trans HD.out)
          have hd' : (s[k].toNat : Int) < 48 ∨ (48 ≤ (s[k].toNat : Int) ∧ 57 < (s[k].toNat : Int)) := by omega
          clear HD hd
          rcases hd' with hd' | ⟨hd', hd2⟩
          all_goals
            go_wp2
            go_ret
            exact ⟨ret_i64 HE.out, rfl⟩
      · go_wp2
        go_ret
        exact ⟨ret_i64 (by rw [← HD.out, rDigits_end (by omega)]), rfl⟩

end Go.Proofs.YtfllgaoknigbnaaDoor
