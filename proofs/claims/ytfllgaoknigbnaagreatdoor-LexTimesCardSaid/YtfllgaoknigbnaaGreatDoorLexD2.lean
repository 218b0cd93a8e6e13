/- A time written out by its parts, and what package lex's plain words read of it. -/
import Derived.Test.YtfllgaoknigbnaaGreatDoorLexP3
import Derived.Test.YtfllgaoknigbnaaGreatDoorLexD
namespace Go.Proofs.YtfllgaoknigbnaaGreatDoor
open Lx

/-- The parts of a time from the i-th on: each, or not, its number and its unit. -/
def partsT (vs : Nat → Nat) (wh : Nat → Bool) : Nat → Nat → List UInt8
  | 0, _ => []
  | f + 1, i => if wh i = true then decs (vs i) ++ unitS i ++ partsT vs wh f (i + 1) else partsT vs wh f (i + 1)
def sumT (vs : Nat → Nat) (wh : Nat → Bool) : Nat → Nat → Int → Int
  | 0, _, n => n
  | f + 1, i, n => sumT vs wh f (i + 1) (if wh i = true then n + vs i * unitMs i else n)
def nextT (wh : Nat → Bool) : Nat → Nat → Nat → Nat
  | 0, _, x => x
  | f + 1, i, x => nextT wh f (i + 1) (if wh i = true then i + 1 else x)

theorem decs_cons (n : Nat) (hn : n < 1099511627776) : ∃ c t, decs n = c :: t ∧ dig c = true := by
  have h := numF_len 10 20 n
  cases h2 : decs n with
  | nil => unfold decs at h2; rw [h2] at h; simp at h
  | cons c t => exact ⟨c, t, rfl, decs_dig hn c (by rw [h2]; simp)⟩
theorem partsT_head (vs : Nat → Nat) (wh : Nat → Bool) (hv : ∀ i, vs i < 1099511627776) (f i : Nat) : partsT vs wh f i = [] ∨ ∃ c t, partsT vs wh f i = c :: t ∧ dig c = true := by
  induction f generalizing i with
  | zero => exact .inl rfl
  | succ f ih =>
    simp only [partsT]
    split
    · right
      obtain ⟨c, t, h, hc⟩ := decs_cons (vs i) (hv i)
      exact ⟨c, t ++ (unitS i ++ partsT vs wh f (i + 1)), by rw [h]; simp, hc⟩
    · exact ih (i + 1)

theorem stops_unit (i : Nat) (hi : i < 5) (P : List UInt8) : Stops 10 (unitS i ++ P) := by
  intro c t h
  match i, hi with
  | 0, _ => simp [unitS] at h; obtain ⟨rfl, _⟩ := h; decide
  | 1, _ => simp [unitS] at h; obtain ⟨rfl, _⟩ := h; decide
  | 2, _ => simp [unitS] at h; obtain ⟨rfl, _⟩ := h; decide
  | 3, _ => simp [unitS] at h; obtain ⟨rfl, _⟩ := h; decide
  | 4, _ => simp [unitS] at h; obtain ⟨rfl, _⟩ := h; decide

theorem unit_found (i nx size : Nat) (hi : i < 5) (hnx : nx ≤ i) (hs : size ≠ 0) (P : List UInt8) (hP : P = [] ∨ ∃ c t, P = c :: t ∧ dig c = true) : unitOf (unitS i ++ P) nx size = i := by
  have hP2 : ∀ c t, P = c :: t → (115 : UInt8) ≠ c := by
    intro c t h h2
    rcases hP with h0 | ⟨c', t', h0, h1⟩
    · rw [h0] at h; cases h
    · rw [h0] at h; injection h with h3 h4; subst h3; subst h2; revert h1; decide
  have hp : ∀ j, j < 5 → Lib.hasPrefix (unitS i ++ P) (unitS j) = true → j = i ∨ (i = 4 ∧ j = 2) := by
    intro j hj h
    match i, hi, j, hj with
    | 0, _, 0, _ => simp
    | 0, _, 1, _ => simp [unitS, Lib.hasPrefix, List.isPrefixOf] at h
    | 0, _, 2, _ => simp [unitS, Lib.hasPrefix, List.isPrefixOf] at h
    | 0, _, 3, _ => simp [unitS, Lib.hasPrefix, List.isPrefixOf] at h
    | 0, _, 4, _ => simp [unitS, Lib.hasPrefix, List.isPrefixOf] at h
    | 1, _, 0, _ => simp [unitS, Lib.hasPrefix, List.isPrefixOf] at h
    | 1, _, 1, _ => simp
    | 1, _, 2, _ => simp [unitS, Lib.hasPrefix, List.isPrefixOf] at h
    | 1, _, 3, _ => simp [unitS, Lib.hasPrefix, List.isPrefixOf] at h
    | 1, _, 4, _ => simp [unitS, Lib.hasPrefix, List.isPrefixOf] at h
    | 2, _, 0, _ => simp [unitS, Lib.hasPrefix, List.isPrefixOf] at h
    | 2, _, 1, _ => simp [unitS, Lib.hasPrefix, List.isPrefixOf] at h
    | 2, _, 2, _ => simp
    | 2, _, 3, _ => simp [unitS, Lib.hasPrefix, List.isPrefixOf] at h
    | 2, _, 4, _ =>
      exfalso
      cases P with
      | nil => simp [unitS, Lib.hasPrefix, List.isPrefixOf] at h
      | cons c t =>
        have := hP2 c t rfl
        simp [unitS, Lib.hasPrefix, List.isPrefixOf] at h
        exact this h
    | 3, _, 0, _ => simp [unitS, Lib.hasPrefix, List.isPrefixOf] at h
    | 3, _, 1, _ => simp [unitS, Lib.hasPrefix, List.isPrefixOf] at h
    | 3, _, 2, _ => simp [unitS, Lib.hasPrefix, List.isPrefixOf] at h
    | 3, _, 3, _ => simp
    | 3, _, 4, _ => simp [unitS, Lib.hasPrefix, List.isPrefixOf] at h
    | 4, _, 0, _ => simp [unitS, Lib.hasPrefix, List.isPrefixOf] at h
    | 4, _, 1, _ => simp [unitS, Lib.hasPrefix, List.isPrefixOf] at h
    | 4, _, 2, _ => simp
    | 4, _, 3, _ => simp [unitS, Lib.hasPrefix, List.isPrefixOf] at h
    | 4, _, 4, _ => simp
  have hown : Lib.hasPrefix (unitS i ++ P) (unitS i) = true := List.isPrefixOf_iff_prefix.2 (List.prefix_append _ _)
  have key : ∀ f j k, j + f = 5 → unitFrom (unitS i ++ P) f j k = if j ≤ i then (i : Int) else k := by
    intro f
    induction f with
    | zero => intro j k h; rw [if_neg (by omega)]; rfl
    | succ f ih =>
      intro j k h
      simp only [unitFrom]
      rw [ih (j + 1) _ (by omega)]
      by_cases hji : j ≤ i
      · rw [if_pos hji]
        by_cases he : j = i
        · subst he
          rw [if_neg (by omega), if_pos hown]
        · rw [if_pos (by omega)]
      · rw [if_neg hji, if_neg (by omega)]
        rw [if_neg]
        intro hc
        rcases hp j (by omega) hc with h1 | h1 <;> omega
  rw [unitOf, if_neg hs, key (5 - nx) nx (-1) (by omega), if_pos hnx]

theorem step_sum {n : Int} {v i : Nat} (hi : i < 5) (h0 : 0 ≤ n) (hv : (v : Int) * unitMs i ≤ 3000000000) (hn : n ≤ 20000000000) : timeStep n v i = n + v * unitMs i := by
  unfold timeStep
  match i, hi with
  | 0, _ => simp only [unitMs] at *; omega
  | 1, _ => simp only [unitMs] at *; omega
  | 2, _ => simp only [unitMs] at *; omega
  | 3, _ => simp only [unitMs] at *; omega
  | 4, _ => simp only [unitMs] at *; omega
theorem unitMs_pos (i : Nat) (hi : i < 5) : 1 ≤ unitMs i := by
  match i, hi with
  | 0, _ => decide
  | 1, _ => decide
  | 2, _ => decide
  | 3, _ => decide
  | 4, _ => decide

theorem times_parts (vs : Nat → Nat) (wh : Nat → Bool) (hv : ∀ i, i < 5 → (vs i : Int) * unitMs i ≤ 3000000000) (hv2 : ∀ i, vs i < 1099511627776) (l : List UInt8) :
    ∀ (r i g at_ nx : Nat) (n : Int), i + r = 5 → nx ≤ i → r ≤ g → at_ ≤ l.length → l.drop at_ = partsT vs wh r i → 0 ≤ n → n ≤ i * 3000000000 →
      times l g at_ n nx = (l.length, sumT vs wh r i n, nextT wh r i nx) := by
  intro r
  induction r with
  | zero =>
    intro i g at_ nx n hi hnx hg hat hd h0 hn
    have hl : at_ = l.length := by
      have := congrArg List.length hd
      simp [partsT] at this; omega
    cases g with
    | zero => simp [times, sumT, nextT, hl]
    | succ g =>
      simp only [partsT] at hd
      simp only [times, hd, sumT, nextT]
      rw [if_pos (by simp [unitOf, digits, digF]), hl]
  | succ r ih =>
    intro i g at_ nx n hi hnx hg hat hd h0 hn
    simp only [partsT] at hd
    cases hw : wh i with
    | false =>
      rw [hw, if_neg (by simp)] at hd
      rw [ih (i + 1) g at_ nx n (by omega) (by omega) (by omega) hat hd h0 (by omega)]
      simp [sumT, nextT, hw]
    | true =>
      rw [hw, if_pos rfl, List.append_assoc] at hd
      obtain ⟨g, rfl⟩ : ∃ g', g = g' + 1 := ⟨g - 1, by omega⟩
      have hdig : digits (l.drop at_) 10 = ((vs i : Int), (decs (vs i)).length) := by
        rw [hd]; exact digits_decs (hv2 i) (stops_unit i (by omega) _)
      have hlen0 : (decs (vs i)).length ≠ 0 := by have := numF_len 10 20 (vs i); unfold decs; omega
      have hd2 : l.drop (at_ + (decs (vs i)).length) = unitS i ++ partsT vs wh r (i + 1) := by
        rw [← List.drop_drop, hd, List.drop_left]
      have hd3 : l.drop (at_ + (decs (vs i)).length + (unitS i).length) = partsT vs wh r (i + 1) := by
        rw [← List.drop_drop, hd2, List.drop_left]
      have hat3 : at_ + (decs (vs i)).length + (unitS i).length ≤ l.length := by
        have := congrArg List.length hd
        simp only [List.length_drop, List.length_append] at this
        omega
      have hu : unitOf (l.drop (at_ + (decs (vs i)).length)) nx (decs (vs i)).length = i := by
        rw [hd2]; exact unit_found i nx _ (by omega) hnx hlen0 _ (partsT_head vs wh hv2 r (i + 1))
      simp only [times, hdig, hu, Int.toNat_natCast]
      rw [if_neg (by omega), step_sum (by omega) h0 (hv i (by omega)) (by omega)]
      have hvi := hv i (by omega)
      have hp := unitMs_pos i (by omega)
      have hnn : 0 ≤ (vs i : Int) * unitMs i := Int.mul_nonneg (by omega) (by omega)
      rw [ih (i + 1) g _ (i + 1) _ (by omega) (by omega) (by omega) hat3 hd3 (by omega) (by omega)]
      simp [sumT, nextT, hw]
end Go.Proofs.YtfllgaoknigbnaaGreatDoor
