/- The walks through the reference's kinds: Width, Signed, Range. -/
import Derived.Test.YtdabnnganponpaaGreatDoorRef12C
namespace Go.Proofs.YtdabnnganponpaaGreatDoor
open Go.RowKit Lx Ad

def rLo : Nat → Int
  | 1 => 0
  | 2 => -128
  | 3 => -32768
  | 4 => -2147483648
  | 5 => 0
  | 6 => 0
  | 7 => 0
  | 8 => 0
  | 9 => 0
  | 10 => 0
  | 11 => -2147483648
  | _ => 0
def rHi : Nat → Int
  | 1 => 1
  | 2 => 127
  | 3 => 32767
  | 4 => 2147483647
  | 5 => 255
  | 6 => 65535
  | 7 => 4294967295
  | 8 => 255
  | 9 => 65535
  | 10 => 4294967295
  | 11 => 2147483647
  | _ => 0
theorem range_is (k : Nat) (h1 : 1 ≤ k) (h2 : k ≤ 11) (n : Int) : (n = kWrap k n) ↔ ¬ (n < rLo k ∨ rHi k < n) := by
  have h : k = 1 ∨ k = 2 ∨ k = 3 ∨ k = 4 ∨ k = 5 ∨ k = 6 ∨ k = 7 ∨ k = 8 ∨ k = 9 ∨ k = 10 ∨ k = 11 := by omega
  rcases h with rfl | rfl | rfl | rfl | rfl | rfl | rfl | rfl | rfl | rfl | rfl
  all_goals
    simp [kWrap, rLo, rHi, IntKind.wrap, IntKind.bits, IntKind.signed]
    omega
set_option maxHeartbeats 800000 in
theorem rsigned_1 (w : World) : Calls Tryz.prog 73 #[.int .i64 1] w fun e w' => e = .returned (.bool (kSigned 1)) ∧ w = w' := by
  go_enter Tryz.func73, Tryz.ntmps73
  go_wp2
  go_ret
  exact ⟨rfl, rfl⟩
set_option maxHeartbeats 800000 in
theorem rscalar_1 (w : World) : Calls Tryz.prog 95 #[.int .i64 1] w fun e w' => e = .returned (.bool true) ∧ w = w' := by
  go_enter Tryz.func95, Tryz.ntmps95
  go_wp2
  go_ret
  exact ⟨rfl, rfl⟩
set_option maxHeartbeats 800000 in
theorem rwidth_1 (w : World) : Calls Tryz.prog 88 #[.int .i64 1] w fun e w' => e = .returned (.int .i64 1) ∧ Below w.heap.size w w' := by
  go_enter Tryz.func88, Tryz.ntmps88
  go_wp2_with (go_at_call 95; refine (rscalar_1 _).mono ?_; rintro e w1 ⟨rfl, rfl⟩)
  go_ret
  exact ⟨rfl, (Below.refl _ _).alloc (Nat.le_refl _) _⟩
set_option maxHeartbeats 800000 in
theorem rrange_1 (w : World) : Calls Tryz.prog 75 #[.int .i64 1] w fun e w' => e = .returned (.tuple #[.int .i64 (rLo 1), .int .i64 (rHi 1)]) ∧ Below w.heap.size w w' := by
  go_enter Tryz.func75, Tryz.ntmps75
  go_wp2_with (first | (go_at_call 88; refine (rwidth_1 _).mono ?_; rintro e w1 ⟨rfl, hb1⟩) | (go_at_call 73; refine (rsigned_1 _).mono ?_; rintro e w2 ⟨rfl, rfl⟩; simp only [kSigned]))
  go_quiet (fail)
  go_wp2
  refine bodyPost_ret (v := .tuple #[.int .i64 (0), .int .i64 1]) (by simp [results, Tryz.results75, go_sem]) rfl ⟨rfl, hb1.drewN _⟩
set_option maxHeartbeats 800000 in
theorem rsigned_2 (w : World) : Calls Tryz.prog 73 #[.int .i64 2] w fun e w' => e = .returned (.bool (kSigned 2)) ∧ w = w' := by
  go_enter Tryz.func73, Tryz.ntmps73
  go_wp2
  go_ret
  exact ⟨rfl, rfl⟩
set_option maxHeartbeats 800000 in
theorem rscalar_2 (w : World) : Calls Tryz.prog 95 #[.int .i64 2] w fun e w' => e = .returned (.bool true) ∧ w = w' := by
  go_enter Tryz.func95, Tryz.ntmps95
  go_wp2
  go_ret
  exact ⟨rfl, rfl⟩
set_option maxHeartbeats 800000 in
theorem rwidth_2 (w : World) : Calls Tryz.prog 88 #[.int .i64 2] w fun e w' => e = .returned (.int .i64 8) ∧ Below w.heap.size w w' := by
  go_enter Tryz.func88, Tryz.ntmps88
  go_wp2_with (go_at_call 95; refine (rscalar_2 _).mono ?_; rintro e w1 ⟨rfl, rfl⟩)
  go_ret
  exact ⟨rfl, (Below.refl _ _).alloc (Nat.le_refl _) _⟩
set_option maxHeartbeats 800000 in
theorem rrange_2 (w : World) : Calls Tryz.prog 75 #[.int .i64 2] w fun e w' => e = .returned (.tuple #[.int .i64 (rLo 2), .int .i64 (rHi 2)]) ∧ Below w.heap.size w w' := by
  go_enter Tryz.func75, Tryz.ntmps75
  go_wp2_with (first | (go_at_call 88; refine (rwidth_2 _).mono ?_; rintro e w1 ⟨rfl, hb1⟩) | (go_at_call 73; refine (rsigned_2 _).mono ?_; rintro e w2 ⟨rfl, rfl⟩; simp only [kSigned]))
  go_quiet (fail)
  go_wp2
  refine bodyPost_ret (v := .tuple #[.int .i64 (-128), .int .i64 127]) (by simp [results, Tryz.results75, go_sem]) rfl ⟨rfl, hb1.drewN _⟩
set_option maxHeartbeats 800000 in
theorem rsigned_3 (w : World) : Calls Tryz.prog 73 #[.int .i64 3] w fun e w' => e = .returned (.bool (kSigned 3)) ∧ w = w' := by
  go_enter Tryz.func73, Tryz.ntmps73
  go_wp2
  go_ret
  exact ⟨rfl, rfl⟩
set_option maxHeartbeats 800000 in
theorem rscalar_3 (w : World) : Calls Tryz.prog 95 #[.int .i64 3] w fun e w' => e = .returned (.bool true) ∧ w = w' := by
  go_enter Tryz.func95, Tryz.ntmps95
  go_wp2
  go_ret
  exact ⟨rfl, rfl⟩
set_option maxHeartbeats 800000 in
theorem rwidth_3 (w : World) : Calls Tryz.prog 88 #[.int .i64 3] w fun e w' => e = .returned (.int .i64 16) ∧ Below w.heap.size w w' := by
  go_enter Tryz.func88, Tryz.ntmps88
  go_wp2_with (go_at_call 95; refine (rscalar_3 _).mono ?_; rintro e w1 ⟨rfl, rfl⟩)
  go_ret
  exact ⟨rfl, (Below.refl _ _).alloc (Nat.le_refl _) _⟩
set_option maxHeartbeats 800000 in
theorem rrange_3 (w : World) : Calls Tryz.prog 75 #[.int .i64 3] w fun e w' => e = .returned (.tuple #[.int .i64 (rLo 3), .int .i64 (rHi 3)]) ∧ Below w.heap.size w w' := by
  go_enter Tryz.func75, Tryz.ntmps75
  go_wp2_with (first | (go_at_call 88; refine (rwidth_3 _).mono ?_; rintro e w1 ⟨rfl, hb1⟩) | (go_at_call 73; refine (rsigned_3 _).mono ?_; rintro e w2 ⟨rfl, rfl⟩; simp only [kSigned]))
  go_quiet (fail)
  go_wp2
  refine bodyPost_ret (v := .tuple #[.int .i64 (-32768), .int .i64 32767]) (by simp [results, Tryz.results75, go_sem]) rfl ⟨rfl, hb1.drewN _⟩
set_option maxHeartbeats 800000 in
theorem rsigned_4 (w : World) : Calls Tryz.prog 73 #[.int .i64 4] w fun e w' => e = .returned (.bool (kSigned 4)) ∧ w = w' := by
  go_enter Tryz.func73, Tryz.ntmps73
  go_wp2
  go_ret
  exact ⟨rfl, rfl⟩
set_option maxHeartbeats 800000 in
theorem rscalar_4 (w : World) : Calls Tryz.prog 95 #[.int .i64 4] w fun e w' => e = .returned (.bool true) ∧ w = w' := by
  go_enter Tryz.func95, Tryz.ntmps95
  go_wp2
  go_ret
  exact ⟨rfl, rfl⟩
set_option maxHeartbeats 800000 in
theorem rwidth_4 (w : World) : Calls Tryz.prog 88 #[.int .i64 4] w fun e w' => e = .returned (.int .i64 32) ∧ Below w.heap.size w w' := by
  go_enter Tryz.func88, Tryz.ntmps88
  go_wp2_with (go_at_call 95; refine (rscalar_4 _).mono ?_; rintro e w1 ⟨rfl, rfl⟩)
  go_ret
  exact ⟨rfl, (Below.refl _ _).alloc (Nat.le_refl _) _⟩
set_option maxHeartbeats 800000 in
theorem rrange_4 (w : World) : Calls Tryz.prog 75 #[.int .i64 4] w fun e w' => e = .returned (.tuple #[.int .i64 (rLo 4), .int .i64 (rHi 4)]) ∧ Below w.heap.size w w' := by
  go_enter Tryz.func75, Tryz.ntmps75
  go_wp2_with (first | (go_at_call 88; refine (rwidth_4 _).mono ?_; rintro e w1 ⟨rfl, hb1⟩) | (go_at_call 73; refine (rsigned_4 _).mono ?_; rintro e w2 ⟨rfl, rfl⟩; simp only [kSigned]))
  go_quiet (fail)
  go_wp2
  refine bodyPost_ret (v := .tuple #[.int .i64 (-2147483648), .int .i64 2147483647]) (by simp [results, Tryz.results75, go_sem]) rfl ⟨rfl, hb1.drewN _⟩
set_option maxHeartbeats 800000 in
theorem rsigned_5 (w : World) : Calls Tryz.prog 73 #[.int .i64 5] w fun e w' => e = .returned (.bool (kSigned 5)) ∧ w = w' := by
  go_enter Tryz.func73, Tryz.ntmps73
  go_wp2
  go_ret
  exact ⟨rfl, rfl⟩
set_option maxHeartbeats 800000 in
theorem rscalar_5 (w : World) : Calls Tryz.prog 95 #[.int .i64 5] w fun e w' => e = .returned (.bool true) ∧ w = w' := by
  go_enter Tryz.func95, Tryz.ntmps95
  go_wp2
  go_ret
  exact ⟨rfl, rfl⟩
set_option maxHeartbeats 800000 in
theorem rwidth_5 (w : World) : Calls Tryz.prog 88 #[.int .i64 5] w fun e w' => e = .returned (.int .i64 8) ∧ Below w.heap.size w w' := by
  go_enter Tryz.func88, Tryz.ntmps88
  go_wp2_with (go_at_call 95; refine (rscalar_5 _).mono ?_; rintro e w1 ⟨rfl, rfl⟩)
  go_ret
  exact ⟨rfl, (Below.refl _ _).alloc (Nat.le_refl _) _⟩
set_option maxHeartbeats 800000 in
theorem rrange_5 (w : World) : Calls Tryz.prog 75 #[.int .i64 5] w fun e w' => e = .returned (.tuple #[.int .i64 (rLo 5), .int .i64 (rHi 5)]) ∧ Below w.heap.size w w' := by
  go_enter Tryz.func75, Tryz.ntmps75
  go_wp2_with (first | (go_at_call 88; refine (rwidth_5 _).mono ?_; rintro e w1 ⟨rfl, hb1⟩) | (go_at_call 73; refine (rsigned_5 _).mono ?_; rintro e w2 ⟨rfl, rfl⟩; simp only [kSigned]))
  go_quiet (fail)
  go_wp2
  refine bodyPost_ret (v := .tuple #[.int .i64 (0), .int .i64 255]) (by simp [results, Tryz.results75, go_sem]) rfl ⟨rfl, hb1.drewN _⟩
set_option maxHeartbeats 800000 in
theorem rsigned_6 (w : World) : Calls Tryz.prog 73 #[.int .i64 6] w fun e w' => e = .returned (.bool (kSigned 6)) ∧ w = w' := by
  go_enter Tryz.func73, Tryz.ntmps73
  go_wp2
  go_ret
  exact ⟨rfl, rfl⟩
set_option maxHeartbeats 800000 in
theorem rscalar_6 (w : World) : Calls Tryz.prog 95 #[.int .i64 6] w fun e w' => e = .returned (.bool true) ∧ w = w' := by
  go_enter Tryz.func95, Tryz.ntmps95
  go_wp2
  go_ret
  exact ⟨rfl, rfl⟩
set_option maxHeartbeats 800000 in
theorem rwidth_6 (w : World) : Calls Tryz.prog 88 #[.int .i64 6] w fun e w' => e = .returned (.int .i64 16) ∧ Below w.heap.size w w' := by
  go_enter Tryz.func88, Tryz.ntmps88
  go_wp2_with (go_at_call 95; refine (rscalar_6 _).mono ?_; rintro e w1 ⟨rfl, rfl⟩)
  go_ret
  exact ⟨rfl, (Below.refl _ _).alloc (Nat.le_refl _) _⟩
set_option maxHeartbeats 800000 in
theorem rrange_6 (w : World) : Calls Tryz.prog 75 #[.int .i64 6] w fun e w' => e = .returned (.tuple #[.int .i64 (rLo 6), .int .i64 (rHi 6)]) ∧ Below w.heap.size w w' := by
  go_enter Tryz.func75, Tryz.ntmps75
  go_wp2_with (first | (go_at_call 88; refine (rwidth_6 _).mono ?_; rintro e w1 ⟨rfl, hb1⟩) | (go_at_call 73; refine (rsigned_6 _).mono ?_; rintro e w2 ⟨rfl, rfl⟩; simp only [kSigned]))
  go_quiet (fail)
  go_wp2
  refine bodyPost_ret (v := .tuple #[.int .i64 (0), .int .i64 65535]) (by simp [results, Tryz.results75, go_sem]) rfl ⟨rfl, hb1.drewN _⟩
set_option maxHeartbeats 800000 in
theorem rsigned_7 (w : World) : Calls Tryz.prog 73 #[.int .i64 7] w fun e w' => e = .returned (.bool (kSigned 7)) ∧ w = w' := by
  go_enter Tryz.func73, Tryz.ntmps73
  go_wp2
  go_ret
  exact ⟨rfl, rfl⟩
set_option maxHeartbeats 800000 in
theorem rscalar_7 (w : World) : Calls Tryz.prog 95 #[.int .i64 7] w fun e w' => e = .returned (.bool true) ∧ w = w' := by
  go_enter Tryz.func95, Tryz.ntmps95
  go_wp2
  go_ret
  exact ⟨rfl, rfl⟩
set_option maxHeartbeats 800000 in
theorem rwidth_7 (w : World) : Calls Tryz.prog 88 #[.int .i64 7] w fun e w' => e = .returned (.int .i64 32) ∧ Below w.heap.size w w' := by
  go_enter Tryz.func88, Tryz.ntmps88
  go_wp2_with (go_at_call 95; refine (rscalar_7 _).mono ?_; rintro e w1 ⟨rfl, rfl⟩)
  go_ret
  exact ⟨rfl, (Below.refl _ _).alloc (Nat.le_refl _) _⟩
set_option maxHeartbeats 800000 in
theorem rrange_7 (w : World) : Calls Tryz.prog 75 #[.int .i64 7] w fun e w' => e = .returned (.tuple #[.int .i64 (rLo 7), .int .i64 (rHi 7)]) ∧ Below w.heap.size w w' := by
  go_enter Tryz.func75, Tryz.ntmps75
  go_wp2_with (first | (go_at_call 88; refine (rwidth_7 _).mono ?_; rintro e w1 ⟨rfl, hb1⟩) | (go_at_call 73; refine (rsigned_7 _).mono ?_; rintro e w2 ⟨rfl, rfl⟩; simp only [kSigned]))
  go_quiet (fail)
  go_wp2
  refine bodyPost_ret (v := .tuple #[.int .i64 (0), .int .i64 4294967295]) (by simp [results, Tryz.results75, go_sem]) rfl ⟨rfl, hb1.drewN _⟩
set_option maxHeartbeats 800000 in
theorem rsigned_8 (w : World) : Calls Tryz.prog 73 #[.int .i64 8] w fun e w' => e = .returned (.bool (kSigned 8)) ∧ w = w' := by
  go_enter Tryz.func73, Tryz.ntmps73
  go_wp2
  go_ret
  exact ⟨rfl, rfl⟩
set_option maxHeartbeats 800000 in
theorem rscalar_8 (w : World) : Calls Tryz.prog 95 #[.int .i64 8] w fun e w' => e = .returned (.bool true) ∧ w = w' := by
  go_enter Tryz.func95, Tryz.ntmps95
  go_wp2
  go_ret
  exact ⟨rfl, rfl⟩
set_option maxHeartbeats 800000 in
theorem rwidth_8 (w : World) : Calls Tryz.prog 88 #[.int .i64 8] w fun e w' => e = .returned (.int .i64 8) ∧ Below w.heap.size w w' := by
  go_enter Tryz.func88, Tryz.ntmps88
  go_wp2_with (go_at_call 95; refine (rscalar_8 _).mono ?_; rintro e w1 ⟨rfl, rfl⟩)
  go_ret
  exact ⟨rfl, (Below.refl _ _).alloc (Nat.le_refl _) _⟩
set_option maxHeartbeats 800000 in
theorem rrange_8 (w : World) : Calls Tryz.prog 75 #[.int .i64 8] w fun e w' => e = .returned (.tuple #[.int .i64 (rLo 8), .int .i64 (rHi 8)]) ∧ Below w.heap.size w w' := by
  go_enter Tryz.func75, Tryz.ntmps75
  go_wp2_with (first | (go_at_call 88; refine (rwidth_8 _).mono ?_; rintro e w1 ⟨rfl, hb1⟩) | (go_at_call 73; refine (rsigned_8 _).mono ?_; rintro e w2 ⟨rfl, rfl⟩; simp only [kSigned]))
  go_quiet (fail)
  go_wp2
  refine bodyPost_ret (v := .tuple #[.int .i64 (0), .int .i64 255]) (by simp [results, Tryz.results75, go_sem]) rfl ⟨rfl, hb1.drewN _⟩
set_option maxHeartbeats 800000 in
theorem rsigned_9 (w : World) : Calls Tryz.prog 73 #[.int .i64 9] w fun e w' => e = .returned (.bool (kSigned 9)) ∧ w = w' := by
  go_enter Tryz.func73, Tryz.ntmps73
  go_wp2
  go_ret
  exact ⟨rfl, rfl⟩
set_option maxHeartbeats 800000 in
theorem rscalar_9 (w : World) : Calls Tryz.prog 95 #[.int .i64 9] w fun e w' => e = .returned (.bool true) ∧ w = w' := by
  go_enter Tryz.func95, Tryz.ntmps95
  go_wp2
  go_ret
  exact ⟨rfl, rfl⟩
set_option maxHeartbeats 800000 in
theorem rwidth_9 (w : World) : Calls Tryz.prog 88 #[.int .i64 9] w fun e w' => e = .returned (.int .i64 16) ∧ Below w.heap.size w w' := by
  go_enter Tryz.func88, Tryz.ntmps88
  go_wp2_with (go_at_call 95; refine (rscalar_9 _).mono ?_; rintro e w1 ⟨rfl, rfl⟩)
  go_ret
  exact ⟨rfl, (Below.refl _ _).alloc (Nat.le_refl _) _⟩
set_option maxHeartbeats 800000 in
theorem rrange_9 (w : World) : Calls Tryz.prog 75 #[.int .i64 9] w fun e w' => e = .returned (.tuple #[.int .i64 (rLo 9), .int .i64 (rHi 9)]) ∧ Below w.heap.size w w' := by
  go_enter Tryz.func75, Tryz.ntmps75
  go_wp2_with (first | (go_at_call 88; refine (rwidth_9 _).mono ?_; rintro e w1 ⟨rfl, hb1⟩) | (go_at_call 73; refine (rsigned_9 _).mono ?_; rintro e w2 ⟨rfl, rfl⟩; simp only [kSigned]))
  go_quiet (fail)
  go_wp2
  refine bodyPost_ret (v := .tuple #[.int .i64 (0), .int .i64 65535]) (by simp [results, Tryz.results75, go_sem]) rfl ⟨rfl, hb1.drewN _⟩
set_option maxHeartbeats 800000 in
theorem rsigned_10 (w : World) : Calls Tryz.prog 73 #[.int .i64 10] w fun e w' => e = .returned (.bool (kSigned 10)) ∧ w = w' := by
  go_enter Tryz.func73, Tryz.ntmps73
  go_wp2
  go_ret
  exact ⟨rfl, rfl⟩
set_option maxHeartbeats 800000 in
theorem rscalar_10 (w : World) : Calls Tryz.prog 95 #[.int .i64 10] w fun e w' => e = .returned (.bool true) ∧ w = w' := by
  go_enter Tryz.func95, Tryz.ntmps95
  go_wp2
  go_ret
  exact ⟨rfl, rfl⟩
set_option maxHeartbeats 800000 in
theorem rwidth_10 (w : World) : Calls Tryz.prog 88 #[.int .i64 10] w fun e w' => e = .returned (.int .i64 32) ∧ Below w.heap.size w w' := by
  go_enter Tryz.func88, Tryz.ntmps88
  go_wp2_with (go_at_call 95; refine (rscalar_10 _).mono ?_; rintro e w1 ⟨rfl, rfl⟩)
  go_ret
  exact ⟨rfl, (Below.refl _ _).alloc (Nat.le_refl _) _⟩
set_option maxHeartbeats 800000 in
theorem rrange_10 (w : World) : Calls Tryz.prog 75 #[.int .i64 10] w fun e w' => e = .returned (.tuple #[.int .i64 (rLo 10), .int .i64 (rHi 10)]) ∧ Below w.heap.size w w' := by
  go_enter Tryz.func75, Tryz.ntmps75
  go_wp2_with (first | (go_at_call 88; refine (rwidth_10 _).mono ?_; rintro e w1 ⟨rfl, hb1⟩) | (go_at_call 73; refine (rsigned_10 _).mono ?_; rintro e w2 ⟨rfl, rfl⟩; simp only [kSigned]))
  go_quiet (fail)
  go_wp2
  refine bodyPost_ret (v := .tuple #[.int .i64 (0), .int .i64 4294967295]) (by simp [results, Tryz.results75, go_sem]) rfl ⟨rfl, hb1.drewN _⟩
set_option maxHeartbeats 800000 in
theorem rsigned_11 (w : World) : Calls Tryz.prog 73 #[.int .i64 11] w fun e w' => e = .returned (.bool (kSigned 11)) ∧ w = w' := by
  go_enter Tryz.func73, Tryz.ntmps73
  go_wp2
  go_ret
  exact ⟨rfl, rfl⟩
set_option maxHeartbeats 800000 in
theorem rscalar_11 (w : World) : Calls Tryz.prog 95 #[.int .i64 11] w fun e w' => e = .returned (.bool true) ∧ w = w' := by
  go_enter Tryz.func95, Tryz.ntmps95
  go_wp2
  go_ret
  exact ⟨rfl, rfl⟩
set_option maxHeartbeats 800000 in
theorem rwidth_11 (w : World) : Calls Tryz.prog 88 #[.int .i64 11] w fun e w' => e = .returned (.int .i64 32) ∧ Below w.heap.size w w' := by
  go_enter Tryz.func88, Tryz.ntmps88
  go_wp2_with (go_at_call 95; refine (rscalar_11 _).mono ?_; rintro e w1 ⟨rfl, rfl⟩)
  go_ret
  exact ⟨rfl, (Below.refl _ _).alloc (Nat.le_refl _) _⟩
set_option maxHeartbeats 800000 in
theorem rrange_11 (w : World) : Calls Tryz.prog 75 #[.int .i64 11] w fun e w' => e = .returned (.tuple #[.int .i64 (rLo 11), .int .i64 (rHi 11)]) ∧ Below w.heap.size w w' := by
  go_enter Tryz.func75, Tryz.ntmps75
  go_wp2_with (first | (go_at_call 88; refine (rwidth_11 _).mono ?_; rintro e w1 ⟨rfl, hb1⟩) | (go_at_call 73; refine (rsigned_11 _).mono ?_; rintro e w2 ⟨rfl, rfl⟩; simp only [kSigned]))
  go_quiet (fail)
  go_wp2
  refine bodyPost_ret (v := .tuple #[.int .i64 (-2147483648), .int .i64 2147483647]) (by simp [results, Tryz.results75, go_sem]) rfl ⟨rfl, hb1.drewN _⟩
theorem rsigned_at (k : Nat) (h1 : 1 ≤ k) (h2 : k ≤ 11) (w : World) : Calls Tryz.prog 73 #[.int .i64 k] w fun e w' => e = .returned (.bool (kSigned k)) ∧ w = w' := by
  have h : k = 1 ∨ k = 2 ∨ k = 3 ∨ k = 4 ∨ k = 5 ∨ k = 6 ∨ k = 7 ∨ k = 8 ∨ k = 9 ∨ k = 10 ∨ k = 11 := by omega
  rcases h with rfl | rfl | rfl | rfl | rfl | rfl | rfl | rfl | rfl | rfl | rfl
  · exact rsigned_1 w
  · exact rsigned_2 w
  · exact rsigned_3 w
  · exact rsigned_4 w
  · exact rsigned_5 w
  · exact rsigned_6 w
  · exact rsigned_7 w
  · exact rsigned_8 w
  · exact rsigned_9 w
  · exact rsigned_10 w
  · exact rsigned_11 w
theorem rwidth_at (k : Nat) (h1 : 1 ≤ k) (h2 : k ≤ 11) (w : World) : Calls Tryz.prog 88 #[.int .i64 k] w fun e w' => e = .returned (.int .i64 (kWidth k)) ∧ Below w.heap.size w w' := by
  have h : k = 1 ∨ k = 2 ∨ k = 3 ∨ k = 4 ∨ k = 5 ∨ k = 6 ∨ k = 7 ∨ k = 8 ∨ k = 9 ∨ k = 10 ∨ k = 11 := by omega
  rcases h with rfl | rfl | rfl | rfl | rfl | rfl | rfl | rfl | rfl | rfl | rfl
  · exact rwidth_1 w
  · exact rwidth_2 w
  · exact rwidth_3 w
  · exact rwidth_4 w
  · exact rwidth_5 w
  · exact rwidth_6 w
  · exact rwidth_7 w
  · exact rwidth_8 w
  · exact rwidth_9 w
  · exact rwidth_10 w
  · exact rwidth_11 w
theorem rrange_at (k : Nat) (h1 : 1 ≤ k) (h2 : k ≤ 11) (w : World) : Calls Tryz.prog 75 #[.int .i64 k] w fun e w' => e = .returned (.tuple #[.int .i64 (rLo k), .int .i64 (rHi k)]) ∧ Below w.heap.size w w' := by
  have h : k = 1 ∨ k = 2 ∨ k = 3 ∨ k = 4 ∨ k = 5 ∨ k = 6 ∨ k = 7 ∨ k = 8 ∨ k = 9 ∨ k = 10 ∨ k = 11 := by omega
  rcases h with rfl | rfl | rfl | rfl | rfl | rfl | rfl | rfl | rfl | rfl | rfl
  · exact rrange_1 w
  · exact rrange_2 w
  · exact rrange_3 w
  · exact rrange_4 w
  · exact rrange_5 w
  · exact rrange_6 w
  · exact rrange_7 w
  · exact rrange_8 w
  · exact rrange_9 w
  · exact rrange_10 w
  · exact rrange_11 w
end Go.Proofs.YtdabnnganponpaaGreatDoor
