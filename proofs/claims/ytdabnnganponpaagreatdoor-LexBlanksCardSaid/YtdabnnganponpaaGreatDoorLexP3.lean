/- Package lex in plain words, third part: times. -/
import Derived.Test.YtdabnnganponpaaGreatDoorLexW5
namespace Go.Proofs.YtdabnnganponpaaGreatDoor
open Go.RowKit Lx

def unitS : Nat → List UInt8
  | 0 => [100] | 1 => [104] | 2 => [109] | 3 => [115] | 4 => [109, 115] | _ => []
def unitMs : Nat → Int
  | 0 => 86400000 | 1 => 3600000 | 2 => 60000 | 3 => 1000 | 4 => 1 | _ => 1

/-- The last unit from 'i' on that stands here; 'k' if there is none. -/
def unitFrom (rest : List UInt8) : Nat → Nat → Int → Int
  | 0, _, k => k
  | f + 1, i, k => unitFrom rest f (i + 1) (if Lib.hasPrefix rest (unitS i) = true then (i : Int) else k)
def unitOf (rest : List UInt8) (next size : Nat) : Int := if size = 0 then -1 else unitFrom rest (5 - next) next (-1)

def timeStep (n m : Int) (k : Nat) : Int := min (n + min m (1099511627776 / unitMs k + 1) * unitMs k) 1099511627776

/-- The parts of a time: where it ends, how long it is, which part may come next. -/
def times (l : List UInt8) : Nat → Nat → Int → Nat → Nat × Int × Nat
  | 0, at_, n, next => (at_, n, next)
  | f + 1, at_, n, next =>
    let d := digits (l.drop at_) 10
    let k := unitOf (l.drop (at_ + d.2)) next d.2
    if k < 0 then (at_, n, next)
    else times l f (at_ + d.2 + (unitS k.toNat).length) (timeStep n d.1 k.toNat) (k.toNat + 1)

/-- What stands behind the sign of a time. -/
def lTime (sign : Int) (t : Nat × Int × Nat) : Tok × Nat × Int :=
  if t.2.2 = 0 then (tok0, 0, 120)
  else if t.2.1 * sign = kWrap 11 (t.2.1 * sign) then (⟨4, 11, t.2.1 * sign, [], 0⟩, t.1, 0) else (tok0, 0, 163)
def lSpan2 (l : List UInt8) (at_ : Nat) : Tok × Nat × Int :=
  if Lib.hasPrefix (l.drop at_) [45] = true then lTime (-1) (times l 5 (at_ + 1) 0 0) else lTime 1 (times l 5 at_ 0 0)

theorem unitFrom_prefix (rest : List UInt8) (f i : Nat) (k : Int) (hk : k = -1 ∨ ∃ j : Nat, k = j ∧ j < i ∧ j < 5 ∧ Lib.hasPrefix rest (unitS j) = true) (hf : i + f = 5) :
    unitFrom rest f i k = -1 ∨ ∃ j : Nat, unitFrom rest f i k = j ∧ j < 5 ∧ Lib.hasPrefix rest (unitS j) = true := by
  induction f generalizing i k with
  | zero =>
    rcases hk with h | ⟨j, h, _, h2, h3⟩
    · exact .inl h
    · exact .inr ⟨j, h, h2, h3⟩
  | succ f ih =>
    simp only [unitFrom]
    refine ih _ _ ?_ (by omega)
    split
    · rename_i hp
      exact .inr ⟨i, rfl, by omega, by omega, hp⟩
    · rcases hk with h | ⟨j, h, h1, h2, h3⟩
      · exact .inl h
      · exact .inr ⟨j, h, by omega, h2, h3⟩
theorem unitFrom_ge (rest : List UInt8) (f i : Nat) (k : Int) (next : Nat) (hk : k = -1 ∨ (next : Int) ≤ k) (hi : next ≤ i) :
    unitFrom rest f i k = -1 ∨ (next : Int) ≤ unitFrom rest f i k := by
  induction f generalizing i k with
  | zero => exact hk
  | succ f ih =>
    simp only [unitFrom]
    refine ih _ _ ?_ (by omega)
    split
    · right; omega
    · exact hk
theorem prefix_len {l p : List UInt8} (h : Lib.hasPrefix l p = true) : p.length ≤ l.length := by
  unfold Lib.hasPrefix at h
  have := List.IsPrefix.length_le (List.isPrefixOf_iff_prefix.1 h)
  exact this
/-- What a unit that was found is. -/
theorem unitOf_is {rest : List UInt8} {next size : Nat} {k : Int} (h : unitOf rest next size = k) (hn : next ≤ 5) (hk : ¬ k < 0) :
    ∃ j : Nat, k = j ∧ next ≤ j ∧ j < 5 ∧ (unitS j).length ≤ rest.length := by
  unfold unitOf at h
  split at h
  · omega
  · have h1 := unitFrom_prefix rest (5 - next) next (-1) (.inl rfl) (by omega)
    have h2 := unitFrom_ge rest (5 - next) next (-1) next (.inl rfl) (by omega)
    rw [h] at h1 h2
    rcases h1 with h1 | ⟨j, hj, h5, hp⟩
    · omega
    · exact ⟨j, hj, by omega, h5, prefix_len hp⟩
theorem unitOf_ge {rest : List UInt8} {next size : Nat} {k : Int} (h : unitOf rest next size = k) (hn : next ≤ 5) : -1 ≤ k ∧ k < 5 := by
  by_cases hk : k < 0
  · unfold unitOf at h
    split at h
    · omega
    · have h2 := unitFrom_ge rest (5 - next) next (-1) next (.inl rfl) (by omega)
      rw [h] at h2; omega
  · obtain ⟨j, h1, h2, h3, h4⟩ := unitOf_is h hn hk
    omega
end Go.Proofs.YtdabnnganponpaaGreatDoor
