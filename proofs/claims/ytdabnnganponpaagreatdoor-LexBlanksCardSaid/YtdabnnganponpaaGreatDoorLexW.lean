/- The walks through package lex: bytes, spans, digits, numbers. -/
import Derived.Test.YtdabnnganponpaaGreatDoorBase
import Derived.Test.YtdabnnganponpaaGreatDoorLexP
namespace Go.Proofs.YtdabnnganponpaaGreatDoor
open Go.RowKit Lx

set_option maxHeartbeats 400000 in
theorem ldigit_any (c : UInt8) (w : World) :
    Calls Tryz.prog 20 #[.int .u8 c.toNat] w fun e w' => e = .returned (.bool (dig c)) ∧ w = w' := by
  go_enter Tryz.func20, Tryz.ntmps20
  go_wp2
  all_goals (go_ret; exact ⟨ret_bool (Bool.eq_iff_iff.2 (by simp only [dig, Bool.and_eq_true, decide_eq_true_eq, Bool.false_eq_true, false_iff]; omega)), rfl⟩)

set_option maxHeartbeats 400000 in
theorem lletter_any (c : UInt8) (w : World) :
    Calls Tryz.prog 18 #[.int .u8 c.toNat] w fun e w' => e = .returned (.bool (lett c)) ∧ w = w' := by
  go_enter Tryz.func18, Tryz.ntmps18
  go_wp2
  all_goals (go_ret; exact ⟨ret_bool (Bool.eq_iff_iff.2 (by simp only [lett, Bool.or_eq_true, Bool.and_eq_true, decide_eq_true_eq, beq_iff_eq, true_iff]; omega)), rfl⟩)

set_option maxHeartbeats 400000 in
theorem lword1_any (c : UInt8) (w : World) :
    Calls Tryz.prog 37 #[.int .u8 c.toNat] w fun e w' => e = .returned (.bool (wordB c)) ∧ w = w' := by
  obtain ⟨a, ha⟩ : ∃ a, lett c = a := ⟨_, rfl⟩
  obtain ⟨b, hb⟩ : ∃ a, dig c = a := ⟨_, rfl⟩
  have HA := Lib.hid ha
  have HB := Lib.hid hb
  clear ha hb
  cases a <;> cases b
  all_goals
    go_enter Tryz.func37, Tryz.ntmps37
    go_wp2_with (first
      | (go_at_call 18; refine (lletter_any _ _).mono ?_; rintro e w1 ⟨rfl, rfl⟩; rw [HA.out])
      | (go_at_call 20; refine (ldigit_any _ _).mono ?_; rintro e w1 ⟨rfl, rfl⟩; rw [HB.out]))
    go_ret; exact ⟨ret_bool (by simp [wordB, HA.out, HB.out]), rfl⟩

theorem span_yes {p : UInt8 → Bool} {s : ByteArray} {k : Nat} (hk : k < s.size) (hp : p s[k] = true) :
    span p (s.data.toList.drop k) = span p (s.data.toList.drop (k + 1)) + 1 := by
  rw [List.drop_eq_getElem_cons (by simpa using hk)]
  have : s.data.toList[k]'(by simpa using hk) = s[k] := by simp [ByteArray.getElem_eq_getElem_data]
  rw [this]; simp [span, hp]
theorem span_no {p : UInt8 → Bool} {s : ByteArray} {k : Nat} (hk : k < s.size) (hp : p s[k] = false) :
    span p (s.data.toList.drop k) = 0 := by
  rw [List.drop_eq_getElem_cons (by simpa using hk)]
  have : s.data.toList[k]'(by simpa using hk) = s[k] := by simp [ByteArray.getElem_eq_getElem_data]
  rw [this]; simp [span, hp]
theorem span_out {p : UInt8 → Bool} {s : ByteArray} {k : Nat} (hk : s.size ≤ k) : span p (s.data.toList.drop k) = 0 := by
  rw [List.drop_of_length_le (by simpa using hk)]; rfl

set_option maxHeartbeats 1000000 in
theorem span_word {s : ByteArray} {r : Nat} (hr : span wordB s.data.toList = r) (hs : s.size ≤ 140737488351232) (w : World) :
    Calls Tryz.prog 22 #[.string s, .func (.func 37) #[] #[]] w fun e w' => e = .returned (.int .i64 r) ∧ w = w' := by
  have HR := Lib.hid (show 0 + span wordB (s.data.toList.drop 0) = r by simpa using hr)
  clear hr
  go_enter Tryz.func22, Tryz.ntmps22
  go_wp2
  go_loop [5] (fun n => ∃ k : Nat, k ≤ s.size ∧ n = .int .i64 k ∧ Hid (k + span wordB (s.data.toList.drop k) = r)) (fun n => s.size - (intOf n).toNat)
  case atStart => exact ⟨0, by omega, rfl, HR⟩
  case round =>
    obtain ⟨k, hk, rfl, HD⟩ := hrel
    by_cases hlt : k < s.size
    · have k0 : 0 ≤ (k : Int) := by omega
      have k1 : (k : Int) < s.size := by omega
      obtain ⟨b, hb⟩ : ∃ b, wordB s[k] = b := ⟨_, rfl⟩
      have HB := Lib.hid hb
      clear hb
      cases b
      all_goals
        go_wp2_with (go_at_call 37; refine (lword1_any _ _).mono ?_; rintro e w1 ⟨rfl, rfl⟩; rw [HB.out])
      · go_ret
        exact ⟨ret_i64 (by have := HD.out; rw [span_no hlt HB.out] at this; omega), rfl⟩
      · go_round
        case rel => exact ⟨k + 1, by omega, by go_num, Lib.hid (by have := HD.out; rw [span_yes hlt HB.out] at this; omega)⟩
        case measure => simp [intOf]; omega
    · go_wp2
      go_ret
      exact ⟨ret_i64 (by have := HD.out; rw [span_out (by omega)] at this; omega), rfl⟩
set_option maxHeartbeats 400000 in
theorem ltyped1_any (c : UInt8) (w : World) :
    Calls Tryz.prog 64 #[.int .u8 c.toNat] w fun e w' => e = .returned (.bool (wordB c)) ∧ w = w' := by
  obtain ⟨a, ha⟩ : ∃ a, lett c = a := ⟨_, rfl⟩
  obtain ⟨b, hb⟩ : ∃ a, dig c = a := ⟨_, rfl⟩
  have HA := Lib.hid ha
  have HB := Lib.hid hb
  clear ha hb
  cases a <;> cases b
  all_goals
    go_enter Tryz.func64, Tryz.ntmps64
    go_wp2_with (first
      | (go_at_call 18; refine (lletter_any _ _).mono ?_; rintro e w1 ⟨rfl, rfl⟩; rw [HA.out])
      | (go_at_call 20; refine (ldigit_any _ _).mono ?_; rintro e w1 ⟨rfl, rfl⟩; rw [HB.out]))
    go_ret; exact ⟨ret_bool (by simp [wordB, HA.out, HB.out]), rfl⟩

set_option maxHeartbeats 1000000 in
theorem span_typed {s : ByteArray} {r : Nat} (hr : span wordB s.data.toList = r) (hs : s.size ≤ 140737488351232) (w : World) :
    Calls Tryz.prog 22 #[.string s, .func (.func 64) #[] #[]] w fun e w' => e = .returned (.int .i64 r) ∧ w = w' := by
  have HR := Lib.hid (show 0 + span wordB (s.data.toList.drop 0) = r by simpa using hr)
  clear hr
  go_enter Tryz.func22, Tryz.ntmps22
  go_wp2
  go_loop [5] (fun n => ∃ k : Nat, k ≤ s.size ∧ n = .int .i64 k ∧ Hid (k + span wordB (s.data.toList.drop k) = r)) (fun n => s.size - (intOf n).toNat)
  case atStart => exact ⟨0, by omega, rfl, HR⟩
  case round =>
    obtain ⟨k, hk, rfl, HD⟩ := hrel
    by_cases hlt : k < s.size
    · have k0 : 0 ≤ (k : Int) := by omega
      have k1 : (k : Int) < s.size := by omega
      obtain ⟨b, hb⟩ : ∃ b, wordB s[k] = b := ⟨_, rfl⟩
      have HB := Lib.hid hb
      clear hb
      cases b
      all_goals
        go_wp2_with (go_at_call 64; refine (ltyped1_any _ _).mono ?_; rintro e w1 ⟨rfl, rfl⟩; rw [HB.out])
      · go_ret
        exact ⟨ret_i64 (by have := HD.out; rw [span_no hlt HB.out] at this; omega), rfl⟩
      · go_round
        case rel => exact ⟨k + 1, by omega, by go_num, Lib.hid (by have := HD.out; rw [span_yes hlt HB.out] at this; omega)⟩
        case measure => simp [intOf]; omega
    · go_wp2
      go_ret
      exact ⟨ret_i64 (by have := HD.out; rw [span_out (by omega)] at this; omega), rfl⟩
theorem nat_beq (a b : Nat) : ((a : Int) == (b : Int)) = (a == b) := by
  rw [Bool.eq_iff_iff]; simp; omega

theorem ldigit_v (c : UInt8) {v : Int} (hv : v = c.toNat) (w : World) :
    Calls Tryz.prog 20 #[.int .u8 v] w fun e w' => e = .returned (.bool (dig c)) ∧ w = w' := by subst hv; exact ldigit_any c w
theorem lletter_v (c : UInt8) {v : Int} (hv : v = c.toNat) (w : World) :
    Calls Tryz.prog 18 #[.int .u8 v] w fun e w' => e = .returned (.bool (lett c)) ∧ w = w' := by subst hv; exact lletter_any c w

set_option maxHeartbeats 1000000 in
theorem ltoken1_any (c : UInt8) (w : World) :
    Calls Tryz.prog 23 #[.int .u8 c.toNat] w fun e w' => e = .returned (.bool (addrB c)) ∧ w = w' := by
  by_cases h95 : c = 95
  · subst h95
    go_enter Tryz.func23, Tryz.ntmps23
    go_wp2_with (first
      | (go_at_call 18; refine (lletter_v 95 rfl _).mono ?_; rintro e w1 ⟨rfl, rfl⟩; rw [show lett 95 = true by decide])
      | (go_at_call 20; refine (ldigit_v 95 rfl _).mono ?_; rintro e w1 ⟨rfl, rfl⟩; rw [show dig 95 = false by decide]))
    go_ret; exact ⟨ret_bool (by decide), rfl⟩
  by_cases h46 : c = 46
  · subst h46
    go_enter Tryz.func23, Tryz.ntmps23
    go_wp2_with (first
      | (go_at_call 18; refine (lletter_v 46 rfl _).mono ?_; rintro e w1 ⟨rfl, rfl⟩; rw [show lett 46 = false by decide])
      | (go_at_call 20; refine (ldigit_v 46 rfl _).mono ?_; rintro e w1 ⟨rfl, rfl⟩; rw [show dig 46 = false by decide]))
    go_ret; exact ⟨ret_bool (by decide), rfl⟩
  have n95 : ¬ c.toNat = 95 := fun h => h95 (UInt8.toNat_inj.1 h)
  have n46 : ¬ c.toNat = 46 := fun h => h46 (UInt8.toNat_inj.1 h)
  clear h95 h46
  obtain ⟨a, ha⟩ : ∃ a, lett c = a := ⟨_, rfl⟩
  obtain ⟨b, hb⟩ : ∃ a, dig c = a := ⟨_, rfl⟩
  have HA := Lib.hid ha
  have HB := Lib.hid hb
  clear ha hb
  have hd : ((c.toNat : Int) == 95) = false := by simp; omega
  have hf : ((c.toNat : Int) == 46) = false := by simp; omega
  have HD := Lib.hid ((nat_beq c.toNat 95).symm.trans hd)
  have HF := Lib.hid ((nat_beq c.toNat 46).symm.trans hf)
  have n95i : ¬ ((c.toNat : Int) = 95) := by omega
  clear n95 n46
  cases a <;> cases b
  all_goals
    go_enter Tryz.func23, Tryz.ntmps23
    go_wp2_with (first
      | (go_at_call 18; refine (lletter_any _ _).mono ?_; rintro e w1 ⟨rfl, rfl⟩; rw [HA.out])
      | (go_at_call 20; refine (ldigit_any _ _).mono ?_; rintro e w1 ⟨rfl, rfl⟩; rw [HB.out]))
    go_ret; exact ⟨ret_bool (by simp only [addrB, HA.out, HB.out, HD.out, HF.out]; rfl), rfl⟩

set_option maxHeartbeats 1000000 in
theorem span_addr {s : ByteArray} {r : Nat} (hr : span addrB s.data.toList = r) (hs : s.size ≤ 140737488351232) (w : World) :
    Calls Tryz.prog 22 #[.string s, .func (.func 23) #[] #[]] w fun e w' => e = .returned (.int .i64 r) ∧ w = w' := by
  have HR := Lib.hid (show 0 + span addrB (s.data.toList.drop 0) = r by simpa using hr)
  clear hr
  go_enter Tryz.func22, Tryz.ntmps22
  go_wp2
  go_loop [5] (fun n => ∃ k : Nat, k ≤ s.size ∧ n = .int .i64 k ∧ Hid (k + span addrB (s.data.toList.drop k) = r)) (fun n => s.size - (intOf n).toNat)
  case atStart => exact ⟨0, by omega, rfl, HR⟩
  case round =>
    obtain ⟨k, hk, rfl, HD⟩ := hrel
    by_cases hlt : k < s.size
    · have k0 : 0 ≤ (k : Int) := by omega
      have k1 : (k : Int) < s.size := by omega
      obtain ⟨b, hb⟩ : ∃ b, addrB s[k] = b := ⟨_, rfl⟩
      have HB := Lib.hid hb
      clear hb
      cases b
      all_goals
        go_wp2_with (go_at_call 23; refine (ltoken1_any _ _).mono ?_; rintro e w1 ⟨rfl, rfl⟩; rw [HB.out])
      · go_ret
        exact ⟨ret_i64 (by have := HD.out; rw [span_no hlt HB.out] at this; omega), rfl⟩
      · go_round
        case rel => exact ⟨k + 1, by omega, by go_num, Lib.hid (by have := HD.out; rw [span_yes hlt HB.out] at this; omega)⟩
        case measure => simp [intOf]; omega
    · go_wp2
      go_ret
      exact ⟨ret_i64 (by have := HD.out; rw [span_out (by omega)] at this; omega), rfl⟩
end Go.Proofs.YtdabnnganponpaaGreatDoor
