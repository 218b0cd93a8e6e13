/- The walks through the statements of layer 10, third part. -/
import Derived.Test.YtfllgaoknigbnaaDoorAddrL2
namespace Go.Proofs.YtfllgaoknigbnaaDoor
open Go.RowKit Ad

set_option maxHeartbeats 1000000 in
theorem addrPlaces_walk (fn : Int) (_f0 : 0 ≤ fn) (_f1 : fn ≤ 255) (n : Int) (hn0 : -9223372036854775808 ≤ n) (hn1 : n ≤ 9223372036854775807) (w : World) (he : Env w) :
    Calls Tryd.prog 5 #[.int .u8 fn, .int .i64 n] w fun e w' => e = .returned (.bool true) ∧ Below w.heap.size w w' := by
  obtain ⟨a, m, h⟩ : ∃ a m, aPlace fn n = (a, m) := ⟨_, _, rfl⟩
  have hc := place_coil h
  have H := Lib.hid h
  clear h
  rcases hc with ⟨rfl, rfl⟩ | ⟨ha, ha', hc⟩
  · go_enter Tryd.func5, Tryd.ntmps5
    go_wp2_with fail
    refine (known10 _ he).mono ?_; rintro e w1 ⟨rfl, hb1⟩
    go_wp2_with fail
    refine (place_at H.out hn1 _).mono ?_; rintro e w2 ⟨rfl, rfl⟩
    go_wp2_with fail
    refine (rplace_at2 H.out hn0 hn1 _).mono ?_; rintro e w3 ⟨rfl, rfl⟩
    go_wp2_with fail
    go_ret
    exact ⟨rfl, hb1⟩
  · have HC := Lib.hid hc
    clear hc
    have e0 : (a == 0) = false := by simp; omega
    go_enter Tryd.func5, Tryd.ntmps5
    go_wp2_with fail
    refine (known10 _ he).mono ?_; rintro e w1 ⟨rfl, hb1⟩
    go_wp2_with fail
    refine (place_at H.out hn1 _).mono ?_; rintro e w2 ⟨rfl, rfl⟩
    go_wp2_with fail
    refine (rplace_at2 H.out hn0 hn1 _).mono ?_; rintro e w3 ⟨rfl, rfl⟩
    go_wp2_with fail
    refine (coil_at HC.out _).mono ?_; rintro e w4 ⟨rfl, rfl⟩
    go_wp2_with fail
    go_ret
    exact ⟨rfl, hb1⟩

theorem dec1 (n : Int) (h0 : 0 ≤ n) (h1 : n < 10) (w : World) :
    Calls Tryd.prog 26 #[.int .i64 n] w fun e w' => e = .returned (.string ⟨(dd n.toNat).toArray⟩) ∧ w = w' := by
  go_enter Tryd.func26, Tryd.ntmps26
  go_wp2
  go_ret
  refine ⟨str_ext ?_, rfl⟩
  have : ∀ m : Fin 10, ((⟨#[48, 49, 50, 51, 52, 53, 54, 55, 56, 57]⟩ : ByteArray).extract ((m : Nat) : Int).toNat (((m : Nat) : Int) + 1).toNat).data.toList = dd m := by decide
  obtain ⟨m, rfl⟩ := Int.eq_ofNat_of_zero_le h0
  have := this ⟨m, by omega⟩
  simpa using this

theorem dd_two {m : Nat} (h1 : 10 ≤ m) (h2 : m < 100) : dd (m / 10) ++ dd (m % 10) = dd m := by
  unfold dd
  rw [if_pos (show m / 10 < 10 by omega), if_pos (show m % 10 < 10 by omega), if_neg (show ¬ m < 10 by omega), if_pos h2]; rfl

set_option maxHeartbeats 400000 in
theorem dec2 (n : Int) (h0 : 0 ≤ n) (h1 : n < 100) (w : World) :
    Calls Tryd.prog 26 #[.int .i64 n] w fun e w' => e = .returned (.string ⟨(dd n.toNat).toArray⟩) ∧ w = w' := by
  by_cases h : n < 10
  · exact dec1 n h0 h w
  have hd := dd_two (m := n.toNat) (by omega) (by omega)
  have HD := Lib.hid hd
  clear hd
  have hq : 0 ≤ n / 10 ∧ n / 10 < 10 ∧ 0 ≤ n % 10 ∧ n % 10 < 10 := by omega
  obtain ⟨q0, q1, r0, r1⟩ := hq
  have l1 := dd_len (n / 10).toNat
  have l2 := dd_len (n % 10).toNat
  go_enter Tryd.func26, Tryd.ntmps26
  go_wp2_with fail
  refine (dec1 _ q0 q1 _).mono ?_; rintro e w1 ⟨rfl, rfl⟩
  go_wp2_with fail
  refine (dec1 _ r0 r1 _).mono ?_; rintro e w1 ⟨rfl, rfl⟩
  go_wp2_with fail
  go_ret
  refine ⟨str_ext ?_, rfl⟩
  rw [← HD.out]
  have e1 : (n / 10).toNat = n.toNat / 10 := by omega
  have e2 : (n % 10).toNat = n.toNat % 10 := by omega
  simp [e1, e2]

/-- The reference's heads, area by area. -/
theorem heads7_cell (a : Nat) (ha : 1 ≤ a) (ha' : a ≤ 6) (w : World) :
    (w.alloc (.cells #[.string ⟨#[]⟩, .string ⟨#[37, 73, 88]⟩, .string ⟨#[37, 81, 88]⟩, .string ⟨#[37, 77, 88]⟩, .string ⟨#[37, 73, 87]⟩, .string ⟨#[37, 81, 87]⟩, .string ⟨#[37, 77, 87]⟩] 9)).cell? ⟨w.heap.size, a, none⟩ = some (.string ⟨(aSign (a : Int)).toArray⟩) := by
  have h : a = 1 ∨ a = 2 ∨ a = 3 ∨ a = 4 ∨ a = 5 ∨ a = 6 := by omega
  rcases h with rfl | rfl | rfl | rfl | rfl | rfl <;> exact (World.cell?_alloc_at _ _ _ _ rfl)

theorem size_area {a off : Int} (h0 : 0 ≤ off) (h : off < aSize a) : 1 ≤ a ∧ a ≤ 6 := by
  unfold aSize at h
  by_cases h1 : a = 1 ∨ a = 2 ∨ a = 3
  · omega
  · rw [if_neg h1] at h
    by_cases h2 : a = 4 ∨ a = 5 ∨ a = 6
    · omega
    · rw [if_neg h2] at h; omega

set_option maxHeartbeats 1000000 in
theorem rtext_at {a off : Int} {r : List UInt8} (hr : aText a off = r) (w : World) :
    Calls Tryd.prog 10 #[.int .i64 a, .int .i64 off] w fun e w' => e = .returned (.string ⟨r.toArray⟩) ∧ Below w.heap.size w w' := by
  have hsz := aSize_le a
  have h64 := @aSize_word a
  obtain ⟨sz, hz⟩ : ∃ sz, aSize a = sz := ⟨_, rfl⟩
  have hz0 := hz
  rw [hz] at hsz h64
  rw [aText, hz] at hr
  have HZ := Lib.hid hz
  have HR := Lib.hid hr
  have H64 := Lib.hid h64
  clear hz hr h64
  by_cases h0 : off < 0
  · clear hz0
    go_enter Tryd.func10, Tryd.ntmps10
    go_wp2_with fail
    go_ret
    exact ⟨ret_str (by rw [← HR.out, if_pos (.inl h0)]), Below.refl _ _⟩
  by_cases h1 : sz ≤ off
  · clear hz0
    go_enter Tryd.func10, Tryd.ntmps10
    go_wp2_with (go_at_call 12; refine (rsize_any _ _).mono ?_; rintro e w1 ⟨rfl, rfl⟩; rw [HZ.out])
    go_ret
    exact ⟨ret_str (by rw [← HR.out, if_pos (.inr h1)]), Below.refl _ _⟩
  have hlt : off < sz := by omega
  obtain ⟨ha, ha'⟩ := size_area (a := a) (off := off) (by omega) (by rw [hz0]; exact hlt)
  clear hz0
  obtain ⟨A, rfl⟩ := Int.eq_ofNat_of_zero_le (show 0 ≤ a by omega)
  have hcell := heads7_cell A (by omega) (by omega) w
  have hb1 : 0 ≤ off / 8 ∧ off / 8 < 100 ∧ 0 ≤ off % 8 ∧ off % 8 < 100 := by omega
  obtain ⟨q0, q1, r0, r1⟩ := hb1
  have l1 := aSign_len (A : Int)
  have l2 := dd_len (off / 8).toNat
  have l3 := dd_len (off % 8).toNat
  have l4 := dd_len off.toNat
  cases hb : aBit (A : Int) with
  | true =>
    go_enter Tryd.func10, Tryd.ntmps10
    go_wp2_with (first
      | (go_at_call 12; refine (rsize_any _ _).mono ?_; rintro e w1 ⟨rfl, rfl⟩; rw [HZ.out])
      | (go_at_call 14; refine (rbit_any _ _).mono ?_; rintro e w1 ⟨rfl, rfl⟩; rw [hb])
      | (go_at_call 26; refine (dec2 _ (by omega) (by omega) _).mono ?_; rintro e w1 ⟨rfl, rfl⟩))
    go_ret
    refine ⟨str_ext (by rw [← HR.out, if_neg (by omega), hb, if_pos rfl]; simp), ?_⟩
    exact (Below.refl _ _).alloc (Nat.le_refl _) _
  | false =>
    have := H64.out hb
    go_enter Tryd.func10, Tryd.ntmps10
    go_wp2_with (first
      | (go_at_call 12; refine (rsize_any _ _).mono ?_; rintro e w1 ⟨rfl, rfl⟩; rw [HZ.out])
      | (go_at_call 14; refine (rbit_any _ _).mono ?_; rintro e w1 ⟨rfl, rfl⟩; rw [hb])
      | (go_at_call 26; refine (dec2 _ (by omega) (by omega) _).mono ?_; rintro e w1 ⟨rfl, rfl⟩))
    go_ret
    refine ⟨str_ext (by rw [← HR.out, if_neg (by omega), hb, if_neg (by simp)]; simp), ?_⟩
    exact (Below.refl _ _).alloc (Nat.le_refl _) _
end Go.Proofs.YtfllgaoknigbnaaDoor
