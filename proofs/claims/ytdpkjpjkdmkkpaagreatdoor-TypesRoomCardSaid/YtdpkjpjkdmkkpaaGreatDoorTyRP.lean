/- The plain law of many arrays. -/
import Derived.Test.YtdpkjpjkdmkkpaaGreatDoorTyBP
namespace Go.Proofs.YtdpkjpjkdmkkpaaGreatDoor
open Go.RowKit Lx Pa

/-- The name of the variable i: v and three digits. -/
def rmName (i : Nat) : List UInt8 := [118, 48 + (i / 100).toUInt8, 48 + (i / 10 % 10).toUInt8, 48 + (i % 10).toUInt8]
def rmVar (each : Int) (i : Nat) : PVar := ⟨rmName i, 12, 1, each, 1, [], false, [], none, 10 + (i : Int)⟩
def rmBack : List UInt8 → Nat
  | [_, a, b, c] => (a.toNat - 48) * 100 + (b.toNat - 48) * 10 + (c.toNat - 48)
  | _ => 0
theorem rm_all : (List.range 300).all (fun i => decide (rmBack (rmName i) = i) && (Ty.block (rmName i) == false)) = true := by kernel_rfl
theorem rm_back {i : Nat} (h : i < 300) : rmBack (rmName i) = i := by
  have h1 := rm_all
  simp only [List.all_eq_true, List.mem_range, Bool.and_eq_true, decide_eq_true_eq] at h1
  exact (h1 i h).1
theorem rm_block {i : Nat} (h : i < 300) : Ty.block (rmName i) = false := by
  have h1 := rm_all
  simp only [List.all_eq_true, List.mem_range, Bool.and_eq_true, beq_iff_eq] at h1
  exact (h1 i h).2
theorem rm_arr {each : Int} {i : Nat} (h : i < 300) : ArrV (rmVar each i) := ⟨rfl, rfl, rfl, rfl, rm_block h⟩
theorem rm_size {each : Int} {i : Nat} (h : i < 300) (he : 1 ≤ each) (he2 : each ≤ 40) : Ty.size [] (rmVar each i) = each := by
  rw [arr_size (rm_arr h)]
  show (if each < 1 ∨ (1 : Int) < -2147483648 ∨ 2147483647 < each ∨ 256 ≤ each - 1 then 0 else each - 1 + 1) = each
  rw [if_neg (by omega)]
  omega
/-- From variable a on, m variables, with a * each cells ahead. -/
theorem rm_errs {each : Int} (he : 1 ≤ each) (he2 : each ≤ 40) : ∀ (m a : Nat) (names addrs : List (List UInt8)), a + m ≤ 300 → (∀ x ∈ names, ∃ j, j < a ∧ x = rmName j) → (a : Int) * each ≤ 4096 →
    Ty.varsErr [] ((List.range' a m).map (rmVar each)) names addrs (a * each) = if 4096 < ((a + m : Nat) : Int) * each then some (10 + 4096 / each, 155) else none := by
  intro m
  induction m with
  | zero =>
    intro a names addrs ha hn hc
    rw [if_neg (by simpa using hc)]
    rfl
  | succ m ih =>
    intro a names addrs ha hn hc
    have hne : (rmVar each a).name ∉ names := by
      intro h1
      obtain ⟨j, h2, h3⟩ := hn _ h1
      have h4 : rmBack (rmName a) = rmBack (rmName j) := by rw [← h3]; rfl
      rw [rm_back (by omega), rm_back (by omega)] at h4
      omega
    have h5 := arr_err (addrs := addrs) (rm_arr (each := each) (i := a) (by omega)) hne
    rw [rm_size (by omega) he he2, if_neg (by omega)] at h5
    rw [List.range'_succ, List.map_cons, Ty.varsErr, h5, if_neg (by simp), rm_size (by omega) he he2]
    have hs : (a : Int) * each + each = ((a + 1 : Nat) : Int) * each := by push_cast; rw [Int.add_mul]; omega
    have hm : ((a + 1 : Nat) : Int) * each ≤ ((a + (m + 1) : Nat) : Int) * each := Int.mul_le_mul_of_nonneg_right (by push_cast; omega) (by omega)
    rw [hs]
    by_cases h6 : 4096 < ((a + 1 : Nat) : Int) * each
    · rw [if_pos h6, if_pos (by omega)]
      have h7 : 4096 / each = a := by
        have h8 : each * (4096 / each) ≤ 4096 := by have := Int.mul_ediv_add_emod 4096 each; have := Int.emod_nonneg 4096 (b := each) (by omega); omega
        have h9 : 4096 < each * (4096 / each) + each := by have := Int.mul_ediv_add_emod 4096 each; have := Int.emod_lt_of_pos 4096 (b := each) (by omega); omega
        apply Int.le_antisymm
        · apply Int.lt_add_one_iff.1
          apply Int.lt_of_mul_lt_mul_right (a := each) _ (by omega)
          rw [show ((a : Int) + 1) = ((a + 1 : Nat) : Int) by push_cast; rfl]
          rw [Int.mul_comm]
          omega
        · apply Int.lt_add_one_iff.1
          apply Int.lt_of_mul_lt_mul_right (a := each) _ (by omega)
          rw [Int.add_mul, Int.mul_comm (4096 / each)]
          omega
      rw [h7]
      rfl
    · rw [if_neg h6, ih (a + 1) _ _ (by omega) (by
        intro x hx
        rcases List.mem_cons.1 hx with rfl | hx
        · exact ⟨a, by omega, rfl⟩
        · obtain ⟨j, h7, h8⟩ := hn x hx
          exact ⟨j, by omega, h8⟩) (by omega)]
      rw [show a + 1 + m = a + (m + 1) by omega]
theorem room_check {each : Int} {n : Nat} (he : 1 ≤ each) (he2 : each ≤ 40) (hn : n ≤ 260) :
    Ty.check [] ((List.range' 0 n).map (rmVar each)) = if 256 < n then some (266, 155) else if 4096 < (n : Int) * each then some (10 + 4096 / each, 155) else none := by
  unfold Ty.check
  show (match ((List.range' 0 n).map (rmVar each))[256]? with
    | some v => some (v.at_, (155 : Int))
    | none => Ty.varsErr [] ((List.range' 0 n).map (rmVar each)) [] [] 0) = _
  by_cases h : 256 < n
  · rw [if_pos h]
    rw [List.getElem?_map, List.getElem?_range' h]
    rfl
  · rw [if_neg h, List.getElem?_eq_none (by simp; omega)]
    have h2 := rm_errs he he2 n 0 [] [] (by omega) (by simp) (by simp)
    simpa using h2
theorem rm_cells {each : Int} (he : 1 ≤ each) : ∀ (m a : Nat) (i : Int), a + m ≤ 300 → ((Ty.cellsF [] ((List.range' a m).map (rmVar each)) i).length : Int) = m * each := by
  intro m
  induction m with
  | zero => intro a i _; simp [Ty.cellsF]
  | succ m ih =>
    intro a i ha
    rw [List.range'_succ, List.map_cons, Ty.cellsF]
    have h1 : (rmVar each a).addr = [] := rfl
    simp only [h1, if_true]
    rw [arr_laid (rm_arr (by omega)), List.length_append, List.length_map, List.length_range]
    have h2 := ih (a + 1) (i + 1) (by omega)
    have h3 : (rmVar each a).hi - (rmVar each a).lo + 1 = each := by show each - 1 + 1 = each; omega
    rw [h3]
    push_cast
    rw [h2, Int.add_mul]
    omega
theorem room_cells {each : Int} {n : Nat} (he : 1 ≤ each) (he2 : each ≤ 40) (hn : n ≤ 256) (h : (n : Int) * each ≤ 4096) :
    ((Ty.cells [] ((List.range' 0 n).map (rmVar each))).length : Int) = n * each := by
  have hc : Ty.check [] ((List.range' 0 n).map (rmVar each)) = none := by rw [room_check he he2 (by omega), if_neg (by omega), if_neg (by omega)]
  unfold Ty.cells
  rw [hc, if_pos rfl]
  exact rm_cells he n 0 0 (by omega)
end Go.Proofs.YtdpkjpjkdmkkpaaGreatDoor
