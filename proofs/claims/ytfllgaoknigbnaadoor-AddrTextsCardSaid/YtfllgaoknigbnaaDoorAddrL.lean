/- The walks through the statements of layer 10. -/
import Derived.Test.YtfllgaoknigbnaaDoorRef10V
import Derived.Test.YtfllgaoknigbnaaDoorAddrE
namespace Go.Proofs.YtfllgaoknigbnaaDoor
open Go.RowKit Ad

theorem aparse_at {s : ByteArray} {a n z : Int} (h : aParse s.data.toList = (a, n, z)) (hs : s.size < 4294967281) (w : World) (he : Env w) :
    Calls Tryd.prog 7 #[.string s] w fun e w' => e = .returned (.tuple #[.int .i64 a, .int .i64 n, .int .i64 z]) ∧ Below w.heap.size w w' :=
  (aparse_any s hs w he).mono fun e w' ⟨h1, h2⟩ => ⟨by rw [h1, h], h2⟩

theorem rparse10_at {s : ByteArray} {a n z : Int} (h : aParse s.data.toList = (a, n, z)) (hs : s.size ≤ 140737488351232) (w : World) :
    Calls Tryd.prog 8 #[.string s] w fun e w' => e = .returned (.tuple #[.int .i64 a, .int .i64 n, .int .i64 z]) ∧ Below w.heap.size w w' :=
  (rparse_at ((parse_eq _).trans h) hs w).mono fun _ _ ⟨h1, h2⟩ => ⟨h1, h2⟩

set_option maxRecDepth 100000 in
set_option maxHeartbeats 1000000 in
theorem known10 (w : World) (he : Env w) :
    Calls Tryd.prog 6 #[] w fun e w' => e = .returned (.bool true) ∧ Below w.heap.size w w' := by
  go_enter Tryd.func6, Tryd.ntmps6
  go_wp2_with fail
  refine (aparse_at (a := 2) (n := 11) (z := 0) (by decide +kernel) (by decide) _ he).mono ?_; rintro e w1 ⟨rfl, hb1⟩
  go_wp2_with fail
  refine (aparse_at (a := 0) (n := 0) (z := 100) (by decide +kernel) (by decide) _ (he.below hb1)).mono ?_; rintro e w2 ⟨rfl, hb2⟩
  have hb2' := btr hb1 hb2
  go_wp2_with fail
  refine (aparse_at (a := 0) (n := 0) (z := 100) (by decide +kernel) (by decide) _ (he.below hb2')).mono ?_; rintro e w3 ⟨rfl, hb3⟩
  have hb3' := btr hb2' hb3
  go_wp2_with fail
  refine (place_at (r1 := 6) (r2 := 6) (by decide +kernel) (by decide) _).mono ?_; rintro e w4 ⟨rfl, rfl⟩
  go_wp2_with fail
  refine (text_at (r := [37, 81, 88, 49, 46, 51]) (by decide +kernel) _).mono ?_; rintro e w5 ⟨rfl, rfl⟩
  go_wp2_with fail
  refine (coil_at (r := 11) (by decide +kernel) _).mono ?_; rintro e w6 ⟨rfl, rfl⟩
  go_wp2_with fail
  refine (coil_at (r := 133) (by decide +kernel) _).mono ?_; rintro e w7 ⟨rfl, rfl⟩
  go_wp2_with fail
  go_ret
  exact ⟨rfl, hb3'⟩

set_option maxHeartbeats 1000000 in
theorem addrParses_walk (s : ByteArray) (hs : s.size ≤ 140737488351232) (w : World) (he : Env w) :
    Calls Tryd.prog 3 #[.string s] w fun e w' => e = .returned (.bool true) ∧ Below w.heap.size w w' := by
  by_cases hl : 100 < s.size
  · go_enter Tryd.func3, Tryd.ntmps3
    go_wp2_with (go_at_call 6; refine (known10 _ he).mono ?_; rintro e w1 ⟨rfl, hb1⟩)
    go_ret
    exact ⟨rfl, by assumption⟩
  · have hs2 : s.size < 4294967281 := by omega
    rcases parse_text s.data.toList with h | ⟨a, n, ha, ha', h, h0, h1, ht⟩
    · go_enter Tryd.func3, Tryd.ntmps3
      go_wp2_with fail
      refine (known10 _ he).mono ?_; rintro e w1 ⟨rfl, hb1⟩
      go_wp2_with fail
      refine (aparse_at h hs2 _ (he.below hb1)).mono ?_; rintro e w2 ⟨rfl, hb2⟩
      have hb2' := btr hb1 hb2
      go_wp2_with fail
      refine (rparse10_at h hs _).mono ?_; rintro e w3 ⟨rfl, hb3⟩
      have hb3' := btr hb2' hb3
      go_wp2_with fail
      go_ret
      exact ⟨rfl, hb3'⟩
    · have HT := Lib.hid ht
      have H := Lib.hid h
      clear ht h h1
      go_enter Tryd.func3, Tryd.ntmps3
      go_wp2_with fail
      refine (known10 _ he).mono ?_; rintro e w1 ⟨rfl, hb1⟩
      go_wp2_with fail
      refine (aparse_at H.out hs2 _ (he.below hb1)).mono ?_; rintro e w2 ⟨rfl, hb2⟩
      have hb2' := btr hb1 hb2
      go_wp2_with fail
      refine (rparse10_at H.out hs _).mono ?_; rintro e w3 ⟨rfl, hb3⟩
      have hb3' := btr hb2' hb3
      go_wp2_with fail
      refine (text_at HT.out _).mono ?_; rintro e w4 ⟨rfl, rfl⟩
      go_wp2_with fail
      go_ret
      exact ⟨rfl, hb3'⟩
end Go.Proofs.YtfllgaoknigbnaaDoor
