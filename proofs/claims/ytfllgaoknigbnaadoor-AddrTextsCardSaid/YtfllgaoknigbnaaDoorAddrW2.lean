/- The walks through package addr, second part. -/
import Derived.Test.YtfllgaoknigbnaaDoorAddrW
namespace Go.Proofs.YtfllgaoknigbnaaDoor
open Go.RowKit Ad

theorem itoa_small (n : Int) (h0 : 0 ≤ n) (h1 : n < 100) (w : World) :
    Calls Tryd.prog 25 #[.int .i64 n] w fun e w' => e = .returned (.string ⟨(dd n.toNat).toArray⟩) ∧ w = w' := by
  obtain ⟨i, rfl⟩ := Int.eq_ofNat_of_zero_le h0
  refine (Tryd.strconv_Itoa_small i (by omega) w).mono fun e w' ⟨h, k⟩ => ⟨?_, k.symm⟩
  rw [h, dd_eq (by omega)]; rfl

theorem str_ext {a b : ByteArray} (h : a.data.toList = b.data.toList) : Ending.returned (.string a) = .returned (.string b) := by rw [WideShapes.bytes_inj h]

set_option maxHeartbeats 400000 in
theorem text_at {a off : Int} {r : List UInt8} (hr : aText a off = r) (w : World) :
    Calls Tryd.prog 9 #[.int .i64 a, .int .i64 off] w fun e w' => e = .returned (.string ⟨r.toArray⟩) ∧ w = w' := by
  have hsz := aSize_le a
  have h64 := @aSize_word a
  obtain ⟨sz, hz⟩ : ∃ sz, aSize a = sz := ⟨_, rfl⟩
  rw [hz] at hsz h64
  rw [aText, hz] at hr
  have HZ := Lib.hid hz
  have HR := Lib.hid hr
  have H64 := Lib.hid h64
  clear hz hr h64
  by_cases h0 : off < 0
  · go_enter Tryd.func9, Tryd.ntmps9
    go_wp2_with fail
    go_ret
    exact ⟨ret_str (by rw [← HR.out, if_pos (.inl h0)]), rfl⟩
  by_cases h1 : sz ≤ off
  · go_enter Tryd.func9, Tryd.ntmps9
    go_wp2_with (go_at_call 11; refine (size_any _ _).mono ?_; rintro e w1 ⟨rfl, rfl⟩; rw [HZ.out])
    go_ret
    exact ⟨ret_str (by rw [← HR.out, if_pos (.inr h1)]), rfl⟩
  have hb1 : 0 ≤ off / 8 ∧ off / 8 < 100 ∧ 0 ≤ off % 8 ∧ off % 8 < 100 := by omega
  obtain ⟨q0, q1, r0, r1⟩ := hb1
  have l1 := aSign_len a
  have l2 := dd_len (off / 8).toNat
  have l3 := dd_len (off % 8).toNat
  have l4 := dd_len off.toNat
  have hlt : off < sz := by omega
  cases hb : aBit a with
  | true =>
    go_enter Tryd.func9, Tryd.ntmps9
    go_wp2_with (first
      | (go_at_call 11; refine (size_any _ _).mono ?_; rintro e w1 ⟨rfl, rfl⟩; rw [HZ.out])
      | (go_at_call 13; refine (bit_any _ _).mono ?_; rintro e w1 ⟨rfl, rfl⟩; rw [hb])
      | (go_at_call 21; refine (sign_any _ _).mono ?_; rintro e w1 ⟨rfl, rfl⟩)
      | (go_at_call 25; refine (itoa_small _ (by omega) (by omega) _).mono ?_; rintro e w1 ⟨rfl, rfl⟩))
    go_ret
    exact ⟨str_ext (by rw [← HR.out, if_neg (by omega), hb, if_pos rfl]; simp), rfl⟩
  | false =>
    have := H64.out hb
    go_enter Tryd.func9, Tryd.ntmps9
    go_wp2_with (first
      | (go_at_call 11; refine (size_any _ _).mono ?_; rintro e w1 ⟨rfl, rfl⟩; rw [HZ.out])
      | (go_at_call 13; refine (bit_any _ _).mono ?_; rintro e w1 ⟨rfl, rfl⟩; rw [hb])
      | (go_at_call 21; refine (sign_any _ _).mono ?_; rintro e w1 ⟨rfl, rfl⟩)
      | (go_at_call 25; refine (itoa_small _ (by omega) (by omega) _).mono ?_; rintro e w1 ⟨rfl, rfl⟩))
    go_ret
    exact ⟨str_ext (by rw [← HR.out, if_neg (by omega), hb, if_neg (by simp)]; simp), rfl⟩

set_option maxHeartbeats 400000 in
theorem coil_at {a off r : Int} (hr : aCoil a off = r) (w : World) :
    Calls Tryd.prog 15 #[.int .i64 a, .int .i64 off] w fun e w' => e = .returned (.int .i64 r) ∧ w = w' := by
  have hsz := aSize_le a
  obtain ⟨sz, hz⟩ : ∃ sz, aSize a = sz := ⟨_, rfl⟩
  rw [hz] at hsz
  rw [aCoil, hz] at hr
  have HZ := Lib.hid hz
  have HR := Lib.hid hr
  clear hz hr
  by_cases h0 : off < 0
  · go_enter Tryd.func15, Tryd.ntmps15
    go_wp2_with fail
    go_ret
    exact ⟨ret_i64 (by rw [← HR.out, if_pos (.inl h0)]), rfl⟩
  by_cases h1 : sz ≤ off
  · go_enter Tryd.func15, Tryd.ntmps15
    go_wp2_with (go_at_call 11; refine (size_any _ _).mono ?_; rintro e w1 ⟨rfl, rfl⟩; rw [HZ.out])
    go_ret
    exact ⟨ret_i64 (by rw [← HR.out, if_pos (.inr h1)]), rfl⟩
  have hlt : off < sz := by omega
  go_enter Tryd.func15, Tryd.ntmps15
  go_wp2_with (go_at_call 11; refine (size_any _ _).mono ?_; rintro e w1 ⟨rfl, rfl⟩; rw [HZ.out])
  all_goals (go_ret; exact ⟨ret_i64 (by rw [← HR.out, if_neg (by omega)]; simp_all), rfl⟩)

theorem ret2_i64 {a b c d : Int} (h : (a, b) = (c, d)) : Ending.returned (.tuple #[.int .i64 a, .int .i64 b]) = .returned (.tuple #[.int .i64 c, .int .i64 d]) := by
  injection h with h1 h2; rw [h1, h2]

set_option maxHeartbeats 400000 in
theorem table_at {f s n r1 r2 : Int} (hr : aTable f s n = (r1, r2)) (hn : n ≤ 9223372036854775807) (w : World) :
    Calls Tryd.prog 27 #[.int .i64 f, .int .i64 s, .int .i64 n] w fun e w' => e = .returned (.tuple #[.int .i64 r1, .int .i64 r2]) ∧ w = w' := by
  have hsz := aSize_le f
  have hsn := aSize_nn f
  obtain ⟨sz, hz⟩ : ∃ sz, aSize f = sz := ⟨_, rfl⟩
  obtain ⟨sy, hy⟩ : ∃ sy, aSize s = sy := ⟨_, rfl⟩
  rw [hz] at hsz hsn
  rw [aTable, hz, hy] at hr
  have HZ := Lib.hid hz
  have HY := Lib.hid hy
  have HR := Lib.hid hr
  clear hz hr hy
  by_cases h0 : n < 0
  · go_enter Tryd.func27, Tryd.ntmps27
    go_wp2_with fail
    go_ret2
    exact ⟨ret2_i64 (by rw [← HR.out, if_pos h0]), rfl⟩
  by_cases h1 : n < sz
  · go_enter Tryd.func27, Tryd.ntmps27
    go_wp2_with (go_at_call 11; refine (size_any _ _).mono ?_; rintro e w1 ⟨rfl, rfl⟩; rw [HZ.out])
    go_ret2
    exact ⟨ret2_i64 (by rw [← HR.out, if_neg (by omega), if_pos h1]), rfl⟩
  by_cases h2 : n - sz < sy
  · go_enter Tryd.func27, Tryd.ntmps27
    go_wp2_with fail
    refine (size_any f _).mono ?_; rintro e w1 ⟨rfl, rfl⟩; rw [HZ.out]
    go_wp2_with fail
    refine (size_any f _).mono ?_; rintro e w1 ⟨rfl, rfl⟩; rw [HZ.out]
    go_wp2_with fail
    refine (size_any s _).mono ?_; rintro e w1 ⟨rfl, rfl⟩; rw [HY.out]
    go_wp2_with fail
    refine (size_any f _).mono ?_; rintro e w1 ⟨rfl, rfl⟩; rw [HZ.out]
    go_wp2_with fail
    go_ret2
    exact ⟨ret2_i64 (by rw [← HR.out, if_neg (by omega), if_neg (by omega), if_pos h2]), rfl⟩
  · go_enter Tryd.func27, Tryd.ntmps27
    go_wp2_with fail
    refine (size_any f _).mono ?_; rintro e w1 ⟨rfl, rfl⟩; rw [HZ.out]
    go_wp2_with fail
    refine (size_any f _).mono ?_; rintro e w1 ⟨rfl, rfl⟩; rw [HZ.out]
    go_wp2_with fail
    refine (size_any s _).mono ?_; rintro e w1 ⟨rfl, rfl⟩; rw [HY.out]
    go_wp2_with fail
    go_ret2
    exact ⟨ret2_i64 (by rw [← HR.out, if_neg (by omega), if_neg (by omega), if_neg (by omega)]), rfl⟩

set_option maxHeartbeats 1000000 in
theorem place_at {fn n r1 r2 : Int} (hr : aPlace fn n = (r1, r2)) (hn : n ≤ 9223372036854775807) (w : World) :
    Calls Tryd.prog 18 #[.int .u8 fn, .int .i64 n] w fun e w' => e = .returned (.tuple #[.int .i64 r1, .int .i64 r2]) ∧ w = w' := by
  have HR := Lib.hid hr
  clear hr
  go_enter Tryd.func18, Tryd.ntmps18
  go_wp2_with fail
  all_goals first
    | (refine (table_at (r1 := r1) (r2 := r2) (by have := HR.out; simp_all [aPlace]) hn _).mono ?_
       rintro e w1 ⟨rfl, rfl⟩
       go_wp2_with fail
       go_ret2
       exact ⟨rfl, rfl⟩)
    | (go_ret2
       exact ⟨ret2_i64 (by rw [← HR.out]; simp_all [aPlace]), rfl⟩)
end Go.Proofs.YtfllgaoknigbnaaDoor
