/- A direct address is the text of its place: plain laws. No program in sight. -/
import Derived.Test.YtfllgaoknigbnaaDoorRef10E
namespace Go.Proofs.YtfllgaoknigbnaaDoor.Ad

theorem cut_join {l c1 c2 : List UInt8} (h : Lib.cut l [46] = (c1, c2, true)) : l = c1 ++ [46] ++ c2 := by
  unfold Lib.cut at h
  rw [index_tw] at h
  by_cases ht : tw l < l.length
  · rw [if_pos ht, if_pos (by omega)] at h
    simp only [Prod.mk.injEq, and_true] at h
    obtain ⟨h1, h2⟩ := h
    have hd : l[tw l]? = some 46 := by
      have : ∀ l : List UInt8, tw l < l.length → l[tw l]? = some 46 := by
        intro l
        induction l with
        | nil => intro h; simp at h
        | cons x l ih =>
          intro h
          by_cases hx : x = 46
          · subst hx; simp [tw]
          · have h2 : tw (x :: l) = tw l + 1 := by unfold tw; rw [List.takeWhile_cons_of_pos (by simpa using hx)]; rfl
            rw [h2] at h ⊢
            simp at h ⊢
            exact ih h
      exact this l ht
    have : l = l.take (tw l) ++ l.drop (tw l) := (List.take_append_drop _ _).symm
    rw [List.getElem?_eq_getElem ht] at hd
    injection hd with hd
    rw [List.drop_eq_getElem_cons ht, hd] at this
    rw [← h1, ← h2]
    simpa using this
  · rw [if_neg ht, if_neg (by omega)] at h
    simp at h

theorem at_text {a n : Int} {l r : List UInt8} (h : aAt a r = some n) (hl : l = aSign a ++ r) : 0 ≤ n ∧ n < aSize a ∧ aText a n = l := by
  unfold aAt at h
  cases hb : aBit a with
  | true =>
    rw [hb, if_pos rfl] at h
    obtain ⟨c1, c2, pt, hc⟩ : ∃ c1 c2 pt, Lib.cut r [46] = (c1, c2, pt) := ⟨_, _, _, rfl⟩
    rw [hc] at h
    simp only at h
    unfold aB at h
    cases pt with
    | false => simp at h
    | true =>
      simp only [if_true] at h
      cases h2 : numOf c2 with
      | none => rw [h2] at h; simp at h
      | some n2 =>
        cases h1 : numOf c1 with
        | none => rw [h1, h2] at h; simp at h
        | some n1 =>
          rw [h1, h2] at h
          simp only at h
          split at h
          · rename_i hq
            injection h with h
            obtain ⟨q1, e1⟩ := numOf_some h1
            obtain ⟨q2, e2⟩ := numOf_some h2
            subst h
            refine ⟨by omega, hq.2, ?_⟩
            rw [aText, if_neg (by omega), hb, if_pos rfl]
            rw [show (8 * (n1 : Int) + (n2 : Int)) / 8 = (n1 : Int) by omega, show (8 * (n1 : Int) + (n2 : Int)) % 8 = (n2 : Int) by omega]
            simp only [Int.toNat_natCast]
            rw [e1, e2, hl, cut_join hc]
            simp
          · cases h
  | false =>
    rw [hb, if_neg (by simp)] at h
    unfold aW at h
    cases hn : numOf r with
    | none => rw [hn] at h; cases h
    | some m =>
      rw [hn] at h
      simp only at h
      split at h
      · rename_i hq
        injection h with h
        obtain ⟨q1, e1⟩ := numOf_some hn
        subst h
        refine ⟨by omega, hq, ?_⟩
        rw [aText, if_neg (by omega), hb, if_neg (by simp)]
        simp only [Int.toNat_natCast]
        rw [e1, hl]
      · cases h

theorem from_text (l : List UInt8) : ∀ d k, k + d = 6 → (aFrom l d k = (0, 0, 100)) ∨ ∃ j n, j < 6 ∧ aFrom l d k = (1 + ((j : Nat) : Int), n, 0) ∧ 0 ≤ n ∧ n < aSize (1 + (j : Int)) ∧ aText (1 + (j : Int)) n = l
  | 0, _, _ => .inl rfl
  | d + 1, k, hk => by
    have hk6 : k < 6 := by omega
    rw [aFrom]
    cases hp : Lib.hasPrefix l (aSign (1 + (k : Int))) with
    | false =>
      simp only [Bool.false_eq_true, if_false]
      exact from_text l d (k + 1) (by omega)
    | true =>
      simp only [if_true]
      cases ha : aAt (1 + (k : Int)) (Lib.trimPrefix l (aSign (1 + (k : Int)))) with
      | none => exact .inl rfl
      | some n =>
        have ht := (prefix_take (sign_len hk6)).1 hp
        have hl : l = aSign (1 + (k : Int)) ++ Lib.trimPrefix l (aSign (1 + (k : Int))) := by
          unfold Lib.trimPrefix
          rw [hp, if_pos rfl, sign_len hk6]
          conv => lhs; rw [← List.take_append_drop 3 l, ht]
        obtain ⟨h1, h2, h3⟩ := at_text ha hl
        exact .inr ⟨k, n, hk6, rfl, h1, h2, h3⟩

/-- What is told of any text: none, or a place, whose text it is. -/
theorem parse_text (l : List UInt8) : aParse l = (0, 0, 100) ∨ ∃ a n, 1 ≤ a ∧ a ≤ 6 ∧ aParse l = (a, n, 0) ∧ 0 ≤ n ∧ n < aSize a ∧ aText a n = l := by
  rcases from_text l 6 0 rfl with h | ⟨j, n, hj, h1, h2, h3, h4⟩
  · exact .inl h
  · exact .inr ⟨1 + (j : Int), n, by omega, by omega, h1, h2, h3, h4⟩
end Go.Proofs.YtfllgaoknigbnaaDoor.Ad
