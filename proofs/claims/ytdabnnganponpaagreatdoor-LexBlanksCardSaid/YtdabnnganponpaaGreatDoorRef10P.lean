/- Plain words on the document's addresses (package rungref10): what its functions compute, and that it is what package addr's compute. No program in sight. -/
import Derived.Test.YtdabnnganponpaaGreatDoorAddrP
namespace Go.Proofs.YtdabnnganponpaaGreatDoor.Ad

/-- The document's number: one to three digits, no nought ahead; -1: none. -/
def rDigits : List UInt8 → Int → Int
  | [], n => n
  | c :: l, n => if 48 ≤ c.toNat ∧ c.toNat ≤ 57 then rDigits l (10 * n + (c.toNat - 48)) else -1
def rNum (l : List UInt8) : Int :=
  if l.length < 1 ∨ l.length > 3 ∨ (l.head? = some 48 ∧ l.length > 1) then -1 else rDigits l 0

theorem byte_ex (c : UInt8) (h1 : 48 ≤ c.toNat) (h2 : c.toNat ≤ 57) : ∃ d, d < 10 ∧ c = UInt8.ofNat (48 + d) := by
  refine ⟨c.toNat - 48, by omega, ?_⟩
  rw [show 48 + (c.toNat - 48) = c.toNat by omega]; simp

theorem rNum_dd : ∀ n : Fin 1000, rNum (dd n) = (n : Nat) := by decide +kernel

theorem digit_nat {d : Nat} (h : d < 10) : (UInt8.ofNat (48 + d)).toNat = 48 + d := by
  simp; omega

theorem rNum_eq (l : List UInt8) : rNum l = match numOf l with | some n => (n : Int) | none => -1 := by
  cases h : numOf l with
  | some n =>
    obtain ⟨h1, rfl⟩ := numOf_some h
    exact rNum_dd ⟨n, h1⟩
  | none =>
    simp only
    by_cases hr : rNum l = -1
    · exact hr
    exfalso
    unfold rNum at hr
    split at hr
    · exact hr rfl
    rename_i hc
    have hno : ∀ n, n < 1000 → dd n ≠ l := fun n hn he => by rw [← he, numOf_dd hn] at h; cases h
    clear h
    rcases l with _ | ⟨a, _ | ⟨b, _ | ⟨c, _ | ⟨d, t⟩⟩⟩⟩
    · simp at hc
    ·
      simp only [rDigits] at hr
      by_cases ha : 48 ≤ a.toNat ∧ a.toNat ≤ 57
      · obtain ⟨d, hd, rfl⟩ := byte_ex a ha.1 ha.2
        exact hno d (by omega) (by unfold dd; rw [if_pos hd])
      · rw [if_neg ha] at hr; exact hr rfl
    ·
      simp only [rDigits] at hr
      by_cases ha : 48 ≤ a.toNat ∧ a.toNat ≤ 57
      · rw [if_pos ha] at hr
        by_cases hb : 48 ≤ b.toNat ∧ b.toNat ≤ 57
        · obtain ⟨d, hd, rfl⟩ := byte_ex a ha.1 ha.2
          obtain ⟨e, he, rfl⟩ := byte_ex b hb.1 hb.2
          have hd0 : d ≠ 0 := by rintro rfl; simp at hc
          refine hno (10 * d + e) (by omega) ?_
          unfold dd
          rw [if_neg (by omega), if_pos (by omega), show (10 * d + e) / 10 = d by omega, show (10 * d + e) % 10 = e by omega]
        · rw [if_neg hb] at hr; exact hr rfl
      · rw [if_neg ha] at hr; exact hr rfl
    ·
      simp only [rDigits] at hr
      by_cases ha : 48 ≤ a.toNat ∧ a.toNat ≤ 57
      · rw [if_pos ha] at hr
        by_cases hb : 48 ≤ b.toNat ∧ b.toNat ≤ 57
        · rw [if_pos hb] at hr
          by_cases hcc : 48 ≤ c.toNat ∧ c.toNat ≤ 57
          · obtain ⟨d, hd, rfl⟩ := byte_ex a ha.1 ha.2
            obtain ⟨e, he, rfl⟩ := byte_ex b hb.1 hb.2
            obtain ⟨f, hf, rfl⟩ := byte_ex c hcc.1 hcc.2
            have hd0 : d ≠ 0 := by rintro rfl; simp at hc
            refine hno (100 * d + 10 * e + f) (by omega) ?_
            unfold dd
            rw [if_neg (by omega), if_neg (by omega), show (100 * d + 10 * e + f) / 100 = d by omega, show (100 * d + 10 * e + f) / 10 % 10 = e by omega, show (100 * d + 10 * e + f) % 10 = f by omega]
          · rw [if_neg hcc] at hr; exact hr rfl
        · rw [if_neg hb] at hr; exact hr rfl
      · rw [if_neg ha] at hr; exact hr rfl
    · simp at hc

/-- The document's parse, from area k + 1 on. -/
def rBitNo (r : List UInt8) : Int :=
  let k := (r.takeWhile (· != 46)).length
  if k < r.length ∧ r.length = k + 2 ∧ 48 ≤ (r.getD (k + 1) 0).toNat ∧ (r.getD (k + 1) 0).toNat ≤ 55 ∧ 0 ≤ rNum (r.take k) then 8 * rNum (r.take k) + ((r.getD (k + 1) 0).toNat - 48) else -1
def rNo (a : Int) (r : List UInt8) : Int := if aBit a then rBitNo r else rNum r
def rFrom (l : List UInt8) : Nat → Nat → Int × Int × Int
  | 0, _ => (0, 0, 100)
  | d + 1, k =>
    if l.length < 4 ∨ l.take 3 ≠ aSign (1 + (k : Int)) then rFrom l d (k + 1)
    else if 0 ≤ rNo (1 + (k : Int)) (l.drop 3) ∧ rNo (1 + (k : Int)) (l.drop 3) < aSize (1 + (k : Int)) then (1 + (k : Int), rNo (1 + (k : Int)) (l.drop 3), 0)
    else rFrom l d (k + 1)
def rParse (l : List UInt8) : Int × Int × Int := rFrom l 6 0

theorem rFrom_miss {l : List UInt8} {k : Nat} (h : k < 6) (hp : l.length < 4 ∨ l.take 3 ≠ aSign (1 + (k : Int))) : rFrom l (6 - k) k = rFrom l (6 - (k + 1)) (k + 1) := by
  rw [show 6 - k = (6 - (k + 1)) + 1 by omega, rFrom, if_pos hp]

/-- What stands at area k + 1, whose sign the text has. -/
theorem rFrom_yes {l : List UInt8} {k : Nat} {v sz : Int} (h : k < 6) (hl : ¬ l.length < 4) (hp : l.take 3 = aSign (1 + (k : Int))) (hv : rNo (1 + (k : Int)) (l.drop 3) = v) (hz : aSize (1 + (k : Int)) = sz)
    (h1 : 0 ≤ v) (h2 : v < sz) : rFrom l (6 - k) k = (1 + (k : Int), v, 0) := by
  rw [show 6 - k = (6 - (k + 1)) + 1 by omega, rFrom, if_neg (by rintro (h | h); exact hl h; exact h hp), hv, hz, if_pos ⟨h1, h2⟩]
theorem rFrom_no {l : List UInt8} {k : Nat} {v sz : Int} (h : k < 6) (hl : ¬ l.length < 4) (hp : l.take 3 = aSign (1 + (k : Int))) (hv : rNo (1 + (k : Int)) (l.drop 3) = v) (hz : aSize (1 + (k : Int)) = sz)
    (h1 : v < 0 ∨ sz ≤ v) : rFrom l (6 - k) k = rFrom l (6 - (k + 1)) (k + 1) := by
  rw [show 6 - k = (6 - (k + 1)) + 1 by omega, rFrom, if_neg (by rintro (h | h); exact hl h; exact h hp), hv, hz, if_neg (by omega)]

/-- How far a text goes before its first point. -/
def tw (l : List UInt8) : Nat := (l.takeWhile (· != 46)).length
theorem tw_step : ∀ {l : List UInt8} {j : Nat} {c : UInt8}, j ≤ tw l → l[j]? = some c → c ≠ 46 → j + 1 ≤ tw l
  | [], j, c, _, h, _ => by simp at h
  | x :: l, 0, c, _, h, hc => by
    simp at h; subst h
    unfold tw; rw [List.takeWhile_cons_of_pos (by simpa using hc)]; simp
  | x :: l, j + 1, c, hj, h, hc => by
    unfold tw at hj ⊢
    by_cases hx : x = 46
    · rw [List.takeWhile_cons_of_neg (by simpa using hx)] at hj; simp at hj
    · rw [List.takeWhile_cons_of_pos (by simpa using hx)] at hj ⊢
      simp at hj h ⊢
      exact tw_step (l := l) hj h hc
theorem tw_end : ∀ {l : List UInt8} {j : Nat}, j ≤ tw l → (l[j]? = none ∨ l[j]? = some 46) → j = tw l
  | [], j, hj, _ => by simp [tw] at hj ⊢; exact hj
  | x :: l, 0, _, h => by
    simp at h; subst h
    unfold tw; rw [List.takeWhile_cons_of_neg (by simp)]; rfl
  | x :: l, j + 1, hj, h => by
    unfold tw at hj ⊢
    by_cases hx : x = 46
    · rw [List.takeWhile_cons_of_neg (by simpa using hx)] at hj; simp at hj
    · rw [List.takeWhile_cons_of_pos (by simpa using hx)] at hj ⊢
      simp at hj h ⊢
      exact tw_end (l := l) hj (by simpa using h)
theorem rBitNo_bad {l : List UInt8} {j : Nat} (hj : j = tw l) (h : ¬ (j < l.length ∧ l.length = j + 2 ∧ 48 ≤ (l.getD (j + 1) 0).toNat ∧ (l.getD (j + 1) 0).toNat ≤ 55 ∧ 0 ≤ rNum (l.take j))) : rBitNo l = -1 := by
  subst hj; exact if_neg h
theorem rBitNo_good {l : List UInt8} {j : Nat} (hj : j = tw l) (h : j < l.length ∧ l.length = j + 2 ∧ 48 ≤ (l.getD (j + 1) 0).toNat ∧ (l.getD (j + 1) 0).toNat ≤ 55 ∧ 0 ≤ rNum (l.take j)) :
    rBitNo l = 8 * rNum (l.take j) + ((l.getD (j + 1) 0).toNat - 48) := by
  subst hj; exact if_pos h

theorem rNum_lt (l : List UInt8) : rNum l < 1000 := by
  rw [rNum_eq]
  cases h : numOf l with
  | none => simp
  | some n => have := (numOf_some h).1; simp only; omega

theorem drop_cons {s : ByteArray} {k : Nat} (h : k < s.size) : s.data.toList.drop k = s[k] :: s.data.toList.drop (k + 1) := by
  rw [List.drop_eq_getElem_cons (by simpa using h)]; rfl
theorem rDigits_yes {s : ByteArray} {k : Nat} {acc : Int} (h : k < s.size) (h1 : 48 ≤ s[k].toNat) (h2 : s[k].toNat ≤ 57) :
    rDigits (s.data.toList.drop k) acc = rDigits (s.data.toList.drop (k + 1)) (10 * acc + (s[k].toNat - 48)) := by
  rw [drop_cons h, rDigits, if_pos ⟨h1, h2⟩]
theorem rDigits_no {s : ByteArray} {k : Nat} {acc : Int} (h : k < s.size) (h1 : ¬ (48 ≤ s[k].toNat ∧ s[k].toNat ≤ 57)) : rDigits (s.data.toList.drop k) acc = -1 := by
  rw [drop_cons h, rDigits, if_neg h1]
theorem rDigits_end {s : ByteArray} {k : Nat} {acc : Int} (h : s.size ≤ k) : rDigits (s.data.toList.drop k) acc = acc := by
  rw [List.drop_eq_nil_of_le (by simpa using h)]; rfl
theorem head_at {s : ByteArray} (h : 0 < s.size) : s.data.toList.head? = some s[0] := by
  rw [List.head?_eq_getElem?, List.getElem?_eq_getElem (by simpa using h)]; rfl
end Go.Proofs.YtdabnnganponpaaGreatDoor.Ad
