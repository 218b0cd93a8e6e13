/- The plain law of arrays at their bounds. -/
import Derived.Test.YtdpkjpjkdmkkpaaGreatDoorNA
import Derived.Test.YtdpkjpjkdmkkpaaGreatDoorNB
namespace Go.Proofs.YtdpkjpjkdmkkpaaGreatDoor
open Go.RowKit Lx Pa

/-- An array's cell. -/
def arrC (e : Int) (r : Bool) (lo : Int) (k : Nat) : Ty.Cell := ⟨0, [], lo + (k : Int), e, r, 0, 0, 0⟩
theorem find_arr {v : PVar} (hk : v.kind = 12) {e lo ix : Int} {r : Bool} : ∀ (m a : Nat) (i : Int),
    Ty.findF [v] v.name [] ix ((List.range' a m).map (arrC e r lo)) i = if lo + a ≤ ix ∧ ix < lo + a + m then i + (ix - lo - a) else -1 := by
  intro m
  induction m with
  | zero =>
    intro a i
    rw [if_neg (by omega)]
    rfl
  | succ m ih =>
    intro a i
    rw [List.range'_succ, List.map_cons]
    show (if v.name = v.name ∧ ([] : List UInt8) = [] ∧ (lo + (a : Int) = ix ∨ v.kind ≠ 12) then i else Ty.findF [v] v.name [] ix ((List.range' (a + 1) m).map (arrC e r lo)) (i + 1)) = _
    rw [ih]
    by_cases h : lo + (a : Int) = ix
    · rw [if_pos ⟨rfl, rfl, .inl h⟩, if_pos (by omega)]
      omega
    · rw [if_neg (by rintro ⟨_, _, h2⟩; rcases h2 with h2 | h2; exact h h2; exact h2 hk)]
      by_cases h3 : lo + ((a + 1 : Nat) : Int) ≤ ix ∧ ix < lo + ((a + 1 : Nat) : Int) + m
      · rw [if_pos h3, if_pos (by omega)]
        omega
      · rw [if_neg h3, if_neg (by omega)]
/-- A variable of the kind array, with nothing else. -/
structure ArrV (v : PVar) : Prop where
  kind : v.kind = 12
  elem : Ty.scalar v.elem = true
  addr : v.addr = []
  ini : v.init = none
  name : Ty.block v.name = false
theorem arr_size {v : PVar} (h : ArrV v) : Ty.size [] v = if v.hi < v.lo ∨ v.lo < -2147483648 ∨ 2147483647 < v.hi ∨ 256 ≤ v.hi - v.lo then 0 else v.hi - v.lo + 1 := by
  unfold Ty.size
  rw [if_neg (by rw [h.kind]; decide), if_pos h.kind]
  by_cases h2 : v.hi < v.lo ∨ v.lo < -2147483648 ∨ 2147483647 < v.hi ∨ 256 ≤ v.hi - v.lo
  · rw [if_pos (.inr h2), if_pos h2]
  · rw [if_neg (by rintro (h3 | h3); rw [h.elem] at h3; cases h3; exact h2 h3), if_neg h2]
theorem arr_err {v : PVar} {names addrs : List (List UInt8)} (h : ArrV v) (hn : v.name ∉ names) : Ty.varErr [] names addrs v = if Ty.size [] v = 0 then 152 else 0 := by
  unfold Ty.varErr
  rw [if_neg (by
    rintro (h2 | h2 | h2)
    · exact hn h2
    · rw [h.name] at h2; cases h2
    · cases h2)]
  by_cases hz : Ty.size [] v = 0
  · rw [if_pos hz, if_pos hz]
  · rw [if_neg hz, if_neg hz]
    simp [h.addr, h.ini]
theorem arr_laid {v : PVar} (h : ArrV v) (i : Int) (r : Bool) : Ty.laid [] v ⟨i, [], -1, 0, r, 0, 0, 0⟩ = (List.range (v.hi - v.lo + 1).toNat).map fun (k : Nat) => ⟨i, [], v.lo + (k : Int), v.elem, r, 0, 0, 0⟩ := by
  unfold Ty.laid
  rw [if_pos h.kind]
/-- One array at any bounds within 32 bits. -/
theorem bounds_check {v : PVar} (h : ArrV v) {n : Int} (hlo : -2147483648 ≤ v.lo) (hhi : v.hi ≤ 2147483647) (hn : v.hi = v.lo + n - 1) :
    (n < 1 ∨ 256 < n → Ty.check [] [v] = some (v.at_, 152)) ∧ (1 ≤ n ∧ n ≤ 256 → Ty.check [] [v] = none) := by
  have h1 : Ty.check [] [v] = Ty.varsErr [] [v] [] [] 0 := rfl
  have h2 := arr_err (names := []) (addrs := []) h (by simp)
  have h3 := arr_size h
  refine ⟨fun hb => ?_, fun hb => ?_⟩
  · rw [if_pos (by omega)] at h3
    rw [h3, if_pos rfl] at h2
    rw [h1, Ty.varsErr, h2, if_pos (by decide)]
  · rw [if_neg (by omega)] at h3
    rw [h3, if_neg (by omega)] at h2
    rw [h1, Ty.varsErr, h2, if_neg (by simp), h3, if_neg (by omega)]
    rfl
theorem bounds_cells {v : PVar} (h : ArrV v) {n : Int} (hlo : -2147483648 ≤ v.lo) (hhi : v.hi ≤ 2147483647) (hn : v.hi = v.lo + n - 1) :
    (n < 1 ∨ 256 < n → Ty.cells [] [v] = []) ∧ (1 ≤ n ∧ n ≤ 256 → Ty.cells [] [v] = (List.range' 0 n.toNat).map (arrC v.elem v.retain v.lo)) := by
  obtain ⟨h1, h2⟩ := bounds_check h hlo hhi hn
  refine ⟨fun hb => ?_, fun hb => ?_⟩
  · unfold Ty.cells
    rw [h1 hb, if_neg (by simp)]
  · unfold Ty.cells
    rw [h2 hb, if_pos rfl, Ty.cellsF]
    simp only [h.addr, if_true]
    rw [arr_laid h, Ty.cellsF, List.append_nil, ← List.range_eq_range', show (v.hi - v.lo + 1).toNat = n.toNat by omega]
    rfl
theorem bounds_find {v : PVar} (h : ArrV v) {n ix : Int} (hlo : -2147483648 ≤ v.lo) (hhi : v.hi ≤ 2147483647) (hn : v.hi = v.lo + n - 1) (hb : 1 ≤ n ∧ n ≤ 256) :
    Ty.find [] [v] v.name [] ix = if v.lo ≤ ix ∧ ix < v.lo + n then ix - v.lo else -1 := by
  unfold Ty.find
  rw [(bounds_cells h hlo hhi hn).2 hb, find_arr h.kind]
  by_cases h3 : v.lo ≤ ix ∧ ix < v.lo + n
  · rw [if_pos h3, if_pos (by omega)]
    omega
  · rw [if_neg h3, if_neg (by omega)]
end Go.Proofs.YtdpkjpjkdmkkpaaGreatDoor
