/- The document's addresses are package addr's: plain laws. No program in sight. -/
import Derived.Test.YtdabnnganponpaaGreatDoorRef10P
namespace Go.Proofs.YtdabnnganponpaaGreatDoor.Ad

theorem index_tw : ∀ l : List UInt8, Lib.index l [46] = if tw l < l.length then (tw l : Int) else -1
  | [] => rfl
  | x :: l => by
    unfold Lib.index
    by_cases hx : x = 46
    · subst hx
      simp [tw, List.isPrefixOf]
    · have h1 : ([46] : List UInt8).isPrefixOf (x :: l) = false := by simp [List.isPrefixOf]; exact fun h => hx h.symm
      have h2 : tw (x :: l) = tw l + 1 := by unfold tw; rw [List.takeWhile_cons_of_pos (by simpa using hx)]; rfl
      rw [h1, h2, index_tw l]
      simp only [Bool.false_eq_true, if_false, List.length_cons]
      by_cases h : tw l < l.length
      · simp only [if_pos h, if_pos (show tw l + 1 < l.length + 1 by omega)]
        rw [if_neg (by simp)]; try omega
      · simp only [if_neg h, if_neg (show ¬ tw l + 1 < l.length + 1 by omega)]; rfl

theorem numOf_one (c : UInt8) : numOf [c] = if 48 ≤ c.toNat ∧ c.toNat ≤ 57 then some (c.toNat - 48) else none := by
  split
  · rename_i h
    have h1 : dd (c.toNat - 48) = [c] := by
      unfold dd; rw [if_pos (by omega), show 48 + (c.toNat - 48) = c.toNat by omega]; simp
    rw [← h1, numOf_dd (by omega)]
  · rename_i h
    cases hn : numOf [c] with
    | none => rfl
    | some n =>
      obtain ⟨h1, h2⟩ := numOf_some hn
      exfalso
      unfold dd at h2
      split at h2
      · injection h2 with h2 _
        apply h
        rw [← h2, digit_nat (by omega)]; omega
      · split at h2 <;> simp at h2

theorem numOf_len {l : List UInt8} {n : Nat} (h : numOf l = some n) : n ≤ 7 → ∃ c, l = [c] ∧ 48 ≤ c.toNat ∧ c.toNat ≤ 55 ∧ n = c.toNat - 48 := by
  intro h7
  obtain ⟨h1, rfl⟩ := numOf_some h
  refine ⟨UInt8.ofNat (48 + n), by unfold dd; rw [if_pos (by omega)], ?_, ?_, ?_⟩ <;> rw [digit_nat (by omega)] <;> omega

/-- A bit's place: the two ways to read it. -/
theorem bit_eq {a : Int} (r : List UInt8) :
    (if 0 ≤ rBitNo r ∧ rBitNo r < aSize a then some (rBitNo r) else none) = aB a (Lib.cut r [46]).2.2 (numOf (Lib.cut r [46]).1) (numOf (Lib.cut r [46]).2.1) := by
  have hi := index_tw r
  by_cases ht : tw r < r.length
  · have hc : Lib.cut r [46] = (r.take (tw r), r.drop (tw r + 1), true) := by
      unfold Lib.cut; rw [hi, if_pos ht, if_pos (by omega)]; simp
    rw [hc]
    simp only
    unfold aB
    simp only [if_true]
    by_cases h2 : r.length = tw r + 2
    · have h3 : r.drop (tw r + 1) = [r.getD (tw r + 1) 0] := by
        rw [List.drop_eq_getElem_cons (by omega), List.drop_eq_nil_of_le (by omega)]
        rw [List.getD_eq_getElem?_getD, List.getElem?_eq_getElem (by omega)]; rfl
      rw [h3, numOf_one]
      generalize hcc : r.getD (tw r + 1) 0 = c
      have hrn := rNum_eq (r.take (tw r))
      by_cases h4 : 48 ≤ c.toNat ∧ c.toNat ≤ 55
      · rw [if_pos (show 48 ≤ c.toNat ∧ c.toNat ≤ 57 by omega)]
        cases hn : numOf (r.take (tw r)) with
        | none =>
          rw [hn] at hrn
          rw [rBitNo_bad rfl (by rintro ⟨_, _, _, _, h⟩; rw [hrn] at h; simp at h), if_neg (by omega)]
        | some m =>
          rw [hn] at hrn
          simp only at hrn
          rw [rBitNo_good rfl ⟨ht, h2, by rw [hcc]; exact h4.1, by rw [hcc]; exact h4.2, by rw [hrn]; omega⟩, hrn, hcc]
          have e : ((c.toNat - 48 : Nat) : Int) = (c.toNat : Int) - 48 := by omega
          by_cases h5 : 8 * (m : Int) + ((c.toNat : Int) - 48) < aSize a
          · rw [if_pos ⟨by omega, h5⟩]; simp only; rw [if_pos ⟨by omega, by rw [e]; exact h5⟩, e]
          · rw [if_neg (by rintro ⟨_, h⟩; exact h5 h)]; simp only; rw [if_neg (by rintro ⟨_, h⟩; rw [e] at h; exact h5 h)]
      · rw [rBitNo_bad rfl (by rintro ⟨_, _, h, h', _⟩; rw [hcc] at h h'; exact h4 ⟨h, h'⟩)]
        by_cases h5 : 48 ≤ c.toNat ∧ c.toNat ≤ 57
        · rw [if_pos h5, if_neg (by omega)]
          cases numOf (r.take (tw r)) with
          | none => rfl
          | some m => simp only; rw [if_neg (by omega)]
        · rw [if_neg h5, if_neg (by omega)]
    · rw [rBitNo_bad rfl (by rintro ⟨_, h, _⟩; exact h2 h)]
      rw [if_neg (by omega)]
      cases hn : numOf (r.drop (tw r + 1)) with
      | none => rfl
      | some n =>
        cases numOf (r.take (tw r)) with
        | none => rfl
        | some m =>
          simp only
          rw [if_neg]
          rintro ⟨h7, _⟩
          obtain ⟨c, hc1, _⟩ := numOf_len hn h7
          have := congrArg List.length hc1
          simp at this
          omega
  · have hc : Lib.cut r [46] = (r, [], false) := by
      unfold Lib.cut; rw [hi, if_neg ht, if_neg (by omega)]
    rw [hc, rBitNo_bad rfl (by rintro ⟨h, _⟩; exact ht h)]
    simp [aB]

theorem place_eq (a : Int) (r : List UInt8) : (if 0 ≤ rNo a r ∧ rNo a r < aSize a then some (rNo a r) else none) = aAt a r := by
  unfold rNo aAt
  cases aBit a with
  | true => exact bit_eq r
  | false =>
    simp only [Bool.false_eq_true, if_false]
    rw [rNum_eq]
    cases numOf r with
    | none => rfl
    | some n => simp [aW]

theorem sign_len {k : Nat} (h : k < 6) : (aSign (1 + (k : Int))).length = 3 := by
  have h : k = 0 ∨ k = 1 ∨ k = 2 ∨ k = 3 ∨ k = 4 ∨ k = 5 := by omega
  rcases h with rfl | rfl | rfl | rfl | rfl | rfl <;> decide
theorem sign_inj : ∀ k j : Fin 6, aSign (1 + ((k : Nat) : Int)) = aSign (1 + ((j : Nat) : Int)) → k = j := by decide

theorem prefix_take3 {l p : List UInt8} (h : p.length = 3) : Lib.hasPrefix l p = true ↔ l.take 3 = p := by
  unfold Lib.hasPrefix
  rw [List.isPrefixOf_iff_prefix, List.prefix_iff_eq_take, h]
  exact ⟨fun h => h.symm, fun h => h.symm⟩

theorem rFrom_past {l : List UInt8} {k : Nat} (hk : k < 6) (h : l.take 3 = aSign (1 + (k : Int))) : ∀ d j, j + d = 6 → k < j → rFrom l d j = (0, 0, 100)
  | 0, _, _, _ => rfl
  | d + 1, j, hj, hkj => by
    have hne : l.take 3 ≠ aSign (1 + (j : Int)) := by
      rw [h]; intro he
      have := sign_inj ⟨k, hk⟩ ⟨j, by omega⟩ he
      simp at this
      omega
    rw [rFrom, if_pos (.inr hne)]
    exact rFrom_past hk h d (j + 1) (by omega) (by omega)

theorem from_eq (l : List UInt8) : ∀ d k, k + d = 6 → rFrom l d k = aFrom l d k
  | 0, _, _ => rfl
  | d + 1, k, hk => by
    have hk6 : k < 6 := by omega
    rw [rFrom, aFrom]
    by_cases hp : l.take 3 = aSign (1 + (k : Int))
    · have hpp := (prefix_take3 (sign_len hk6)).2 hp
      rw [hpp]
      simp only [if_true]
      have htr : Lib.trimPrefix l (aSign (1 + (k : Int))) = l.drop 3 := by
        unfold Lib.trimPrefix; rw [hpp, if_pos rfl, sign_len hk6]
      rw [htr, ← place_eq]
      by_cases h4 : l.length < 4
      · rw [if_pos (.inl h4), rFrom_past hk6 hp d (k + 1) (by omega) (by omega)]
        have hd : l.drop 3 = [] := List.drop_eq_nil_of_le (by omega)
        rw [hd]
        have hn : rNo (1 + (k : Int)) [] = -1 := by
          unfold rNo; split
          · exact rBitNo_bad rfl (by rintro ⟨h, _⟩; simp at h)
          · rfl
        rw [hn]; rfl
      · rw [if_neg (by rintro (h | h); exact h4 h; exact h hp)]
        by_cases hv : 0 ≤ rNo (1 + (k : Int)) (l.drop 3) ∧ rNo (1 + (k : Int)) (l.drop 3) < aSize (1 + (k : Int))
        · rw [if_pos hv, if_pos hv]
        · rw [if_neg hv, if_neg hv, rFrom_past hk6 hp d (k + 1) (by omega) (by omega)]
    · have hpp : Lib.hasPrefix l (aSign (1 + (k : Int))) = false := by
        cases h : Lib.hasPrefix l (aSign (1 + (k : Int))) with
        | false => rfl
        | true => exact absurd ((prefix_take3 (sign_len hk6)).1 h) hp
      rw [hpp, if_pos (.inr hp)]
      simp only [Bool.false_eq_true, if_false]
      exact from_eq l d (k + 1) (by omega)

theorem parse_eq (l : List UInt8) : rParse l = aParse l := from_eq l 6 0 rfl
end Go.Proofs.YtdabnnganponpaaGreatDoor.Ad

/- A direct address is the text of its place: plain laws. No program in sight. -/
namespace Go.Proofs.YtdabnnganponpaaGreatDoor.Ad

theorem cut_join {l c1 c2 : List UInt8} (h : Lib.cut l [46] = (c1, c2, true)) : l = c1 ++ [46] ++ c2 := by
  unfold Lib.cut at h
  rw [index_tw] at h
  by_cases ht : tw l < l.length
  · rw [if_pos ht, if_pos (by omega)] at h
    simp only [Prod.mk.injEq, and_true] at h
    obtain ⟨h1, h2⟩ := h
    have hd : l[tw l]? = some 46 := by
      have : ∀ l : List UInt8, tw l < l.length → l[tw l]? = some 46 := by
        intro l
        induction l with
        | nil => intro h; simp at h
        | cons x l ih =>
          intro h
          by_cases hx : x = 46
          · subst hx; simp [tw]
          · have h2 : tw (x :: l) = tw l + 1 := by unfold tw; rw [List.takeWhile_cons_of_pos (by simpa using hx)]; rfl
            rw [h2] at h ⊢
            simp at h ⊢
            exact ih h
      exact this l ht
    have : l = l.take (tw l) ++ l.drop (tw l) := (List.take_append_drop _ _).symm
    rw [List.getElem?_eq_getElem ht] at hd
    injection hd with hd
    rw [List.drop_eq_getElem_cons ht, hd] at this
    rw [← h1, ← h2]
    simpa using this
  · rw [if_neg ht, if_neg (by omega)] at h
    simp at h

theorem at_text {a n : Int} {l r : List UInt8} (h : aAt a r = some n) (hl : l = aSign a ++ r) : 0 ≤ n ∧ n < aSize a ∧ aText a n = l := by
  unfold aAt at h
  cases hb : aBit a with
  | true =>
    rw [hb, if_pos rfl] at h
    obtain ⟨c1, c2, pt, hc⟩ : ∃ c1 c2 pt, Lib.cut r [46] = (c1, c2, pt) := ⟨_, _, _, rfl⟩
    rw [hc] at h
    simp only at h
    unfold aB at h
    cases pt with
    | false => simp at h
    | true =>
      simp only [if_true] at h
      cases h2 : numOf c2 with
      | none => rw [h2] at h; simp at h
      | some n2 =>
        cases h1 : numOf c1 with
        | none => rw [h1, h2] at h; simp at h
        | some n1 =>
          rw [h1, h2] at h
          simp only at h
          split at h
          · rename_i hq
            injection h with h
            obtain ⟨q1, e1⟩ := numOf_some h1
            obtain ⟨q2, e2⟩ := numOf_some h2
            subst h
            refine ⟨by omega, hq.2, ?_⟩
            rw [aText, if_neg (by omega), hb, if_pos rfl]
            rw [show (8 * (n1 : Int) + (n2 : Int)) / 8 = (n1 : Int) by omega, show (8 * (n1 : Int) + (n2 : Int)) % 8 = (n2 : Int) by omega]
            simp only [Int.toNat_natCast]
            rw [e1, e2, hl, cut_join hc]
            simp
          · cases h
  | false =>
    rw [hb, if_neg (by simp)] at h
    unfold aW at h
    cases hn : numOf r with
    | none => rw [hn] at h; cases h
    | some m =>
      rw [hn] at h
      simp only at h
      split at h
      · rename_i hq
        injection h with h
        obtain ⟨q1, e1⟩ := numOf_some hn
        subst h
        refine ⟨by omega, hq, ?_⟩
        rw [aText, if_neg (by omega), hb, if_neg (by simp)]
        simp only [Int.toNat_natCast]
        rw [e1, hl]
      · cases h

theorem from_text (l : List UInt8) : ∀ d k, k + d = 6 → (aFrom l d k = (0, 0, 100)) ∨ ∃ j n, j < 6 ∧ aFrom l d k = (1 + ((j : Nat) : Int), n, 0) ∧ 0 ≤ n ∧ n < aSize (1 + (j : Int)) ∧ aText (1 + (j : Int)) n = l
  | 0, _, _ => .inl rfl
  | d + 1, k, hk => by
    have hk6 : k < 6 := by omega
    rw [aFrom]
    cases hp : Lib.hasPrefix l (aSign (1 + (k : Int))) with
    | false =>
      simp only [Bool.false_eq_true, if_false]
      exact from_text l d (k + 1) (by omega)
    | true =>
      simp only [if_true]
      cases ha : aAt (1 + (k : Int)) (Lib.trimPrefix l (aSign (1 + (k : Int)))) with
      | none => exact .inl rfl
      | some n =>
        have ht := (prefix_take3 (sign_len hk6)).1 hp
        have hl : l = aSign (1 + (k : Int)) ++ Lib.trimPrefix l (aSign (1 + (k : Int))) := by
          unfold Lib.trimPrefix
          rw [hp, if_pos rfl, sign_len hk6]
          conv => lhs; rw [← List.take_append_drop 3 l, ht]
        obtain ⟨h1, h2, h3⟩ := at_text ha hl
        exact .inr ⟨k, n, hk6, rfl, h1, h2, h3⟩

/-- What is told of any text: none, or a place, whose text it is. -/
theorem parse_text (l : List UInt8) : aParse l = (0, 0, 100) ∨ ∃ a n, 1 ≤ a ∧ a ≤ 6 ∧ aParse l = (a, n, 0) ∧ 0 ≤ n ∧ n < aSize a ∧ aText a n = l := by
  rcases from_text l 6 0 rfl with h | ⟨j, n, hj, h1, h2, h3, h4⟩
  · exact .inl h
  · exact .inr ⟨1 + (j : Int), n, by omega, by omega, h1, h2, h3, h4⟩
end Go.Proofs.YtdabnnganponpaaGreatDoor.Ad
