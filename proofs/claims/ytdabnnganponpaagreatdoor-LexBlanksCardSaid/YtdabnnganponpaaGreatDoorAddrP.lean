/- Plain words on direct addresses: what package addr's functions compute, as functions on numbers and lists of bytes. No program in sight. -/
import Derived.Lib.ItoaNum
import Derived.Lib.AtoiAll
import Derived.Lib.IndexMore
import Derived.Lib.Strings
namespace Go.Proofs.YtdabnnganponpaaGreatDoor.Ad

def aSize (a : Int) : Int := if a = 1 ∨ a = 2 ∨ a = 3 then 128 else if a = 4 ∨ a = 5 ∨ a = 6 then 64 else 0
def aBit (a : Int) : Bool := decide (a = 1 ∨ a = 2 ∨ a = 3)
def aSign (a : Int) : List UInt8 :=
  if a = 1 then [37, 73, 88] else if a = 2 then [37, 81, 88] else if a = 3 then [37, 77, 88] else if a = 4 then [37, 73, 87] else if a = 5 then [37, 81, 87] else if a = 6 then [37, 77, 87] else []

/-- A number of up to three digits as it is written. -/
def dd (n : Nat) : List UInt8 :=
  if n < 10 then [UInt8.ofNat (48 + n)] else if n < 100 then [UInt8.ofNat (48 + n / 10), UInt8.ofNat (48 + n % 10)]
  else [UInt8.ofNat (48 + n / 100), UInt8.ofNat (48 + n / 10 % 10), UInt8.ofNat (48 + n % 10)]

theorem dd_eq {n : Nat} (h : n < 1000) : Lib.decDigits n = dd n := by
  unfold dd
  by_cases h1 : n < 10
  · rw [if_pos h1, Lib.decDigits_one h1]
  by_cases h2 : n < 100
  · rw [if_neg h1, if_pos h2, Lib.decDigits_two h1 h2]
  · rw [if_neg h1, if_neg h2, Lib.decDigits, dif_neg h1, Lib.decDigits_two (by omega) (by omega)]
    have : n / 10 / 10 = n / 100 := by omega
    simp [this]

/-- A number of up to three digits: none where the text is no such number. -/
def numOf (l : List UInt8) : Option Nat := (List.range 1000).find? fun n => dd n == l

theorem numOf_some {l : List UInt8} {n : Nat} (h : numOf l = some n) : n < 1000 ∧ dd n = l := by
  have h1 := List.find?_some h
  have h2 := List.mem_of_find?_eq_some h
  exact ⟨List.mem_range.1 h2, by simpa using h1⟩

theorem atoi_dd : ∀ n : Fin 1000, Lib.atoiAll (dd n) = .ok (n : Nat) := by decide +kernel

theorem dd_inj {n m : Nat} (hn : n < 1000) (hm : m < 1000) (h : dd n = dd m) : n = m := by
  have h1 := atoi_dd ⟨n, hn⟩
  have h2 := atoi_dd ⟨m, hm⟩
  simp only at h1 h2
  rw [h, h2] at h1
  injection h1 with h1
  omega

theorem numOf_dd {n : Nat} (hn : n < 1000) : numOf (dd n) = some n := by
  cases h : numOf (dd n) with
  | some m =>
    obtain ⟨hm, he⟩ := numOf_some h
    rw [dd_inj hm hn he]
  | none =>
    have := List.find?_eq_none.1 h n (List.mem_range.2 hn)
    simp at this

/-- An int's bounds. -/
def Is64 (n : Int) : Prop := -9223372036854775808 ≤ n ∧ n ≤ 9223372036854775807

theorem is64_sat (l : List UInt8) : Is64 (Lib.atoiSat l) := by unfold Is64 Lib.atoiSat; split <;> omega

/-- Is there such a number? -/
def numOk (l : List UInt8) : Bool := (numOf l).isSome

/-- What 'number' tells of a text: a number beside the word whether it is one. -/
def Num (l : List UInt8) (n : Int) (b : Bool) : Prop := b = numOk l ∧ Is64 n ∧ ∀ m, numOf l = some m → n = m

theorem num_bad {l : List UInt8} (h : ∀ v, Lib.atoiAll l ≠ .ok v) : numOf l = none := by
  cases hn : numOf l with
  | none => rfl
  | some n =>
    obtain ⟨h1, rfl⟩ := numOf_some hn
    exact absurd (atoi_dd ⟨n, h1⟩) (h _)

theorem nDigits_len {n : Nat} (h : (Lib.decDigits n).length ≤ 3) : n < 1000 := by
  by_cases hn : n < 1000
  · exact hn
  · exfalso
    rw [Lib.decDigits, dif_neg (by omega), Lib.decDigits, dif_neg (by omega), Lib.decDigits, dif_neg (by omega)] at h
    simp at h
    have : (Lib.decDigits (n / 10 / 10 / 10)).length = 0 := by rw [h]; rfl
    rw [Lib.decDigits_length] at this
    unfold Lib.nDigits at this
    split at this <;> omega

theorem num_ok {l : List UInt8} {v : Int} (h : Lib.atoiAll l = .ok v) : numOf l = if l.length ≤ 3 ∧ Lib.itoa v = l ∧ 0 ≤ v then some v.toNat else none := by
  split
  · rename_i hc
    obtain ⟨h1, h2, h3⟩ := hc
    have h4 : Lib.decDigits v.toNat = l := by rw [← h2]; unfold Lib.itoa; rw [if_neg (by omega)]
    have h5 : v.toNat < 1000 := nDigits_len (by rw [h4]; exact h1)
    rw [← h4, dd_eq h5, numOf_dd h5]
  · rename_i hc
    cases hn : numOf l with
    | none => rfl
    | some n =>
      exfalso
      obtain ⟨h1, rfl⟩ := numOf_some hn
      have h2 := atoi_dd ⟨n, h1⟩
      simp only at h2
      rw [h] at h2
      injection h2 with h2
      subst h2
      refine hc ⟨?_, ?_, by omega⟩
      · unfold dd; split
        · simp
        · split <;> simp
      · unfold Lib.itoa; rw [if_neg (by omega)]; simp [dd_eq h1]

/-- Behind its sign: a register's place, a bit's place. -/
def aW (a : Int) (o : Option Nat) : Option Int := match o with
  | some m => if (m : Int) < aSize a then some m else none
  | none => none
def aB (a : Int) (pt : Bool) (o1 o2 : Option Nat) : Option Int :=
  if pt then
    match o2, o1 with
    | some n, some m => if n ≤ 7 ∧ 8 * (m : Int) + n < aSize a then some (8 * (m : Int) + n) else none
    | _, _ => none
  else none
def aAt (a : Int) (rest : List UInt8) : Option Int :=
  if aBit a then aB a (Lib.cut rest [46]).2.2 (numOf (Lib.cut rest [46]).1) (numOf (Lib.cut rest [46]).2.1) else aW a (numOf rest)

/-- From area k + 1 on. -/
def aFrom (l : List UInt8) : Nat → Nat → Int × Int × Int
  | 0, _ => (0, 0, 100)
  | d + 1, k =>
    if Lib.hasPrefix l (aSign (1 + (k : Int))) then
      match aAt (1 + (k : Int)) (Lib.trimPrefix l (aSign (1 + (k : Int)))) with
      | some n => (1 + (k : Int), n, 0)
      | none => (0, 0, 100)
    else aFrom l d (k + 1)
theorem aFrom_miss {l : List UInt8} {k : Nat} (h : k < 6) (hp : Lib.hasPrefix l (aSign (1 + (k : Int))) = false) : aFrom l (6 - (k + 1)) (k + 1) = aFrom l (6 - k) k := by
  rw [show 6 - k = (6 - (k + 1)) + 1 by omega, aFrom, hp]; rfl
theorem aFrom_hit {l : List UInt8} {k : Nat} (h : k < 6) (hp : Lib.hasPrefix l (aSign (1 + (k : Int))) = true) :
    aFrom l (6 - k) k = match aAt (1 + (k : Int)) (Lib.trimPrefix l (aSign (1 + (k : Int)))) with
      | some n => (1 + (k : Int), n, 0)
      | none => (0, 0, 100) := by
  rw [show 6 - k = (6 - (k + 1)) + 1 by omega, aFrom, hp]; rfl
theorem aAt_word {a : Int} {r : List UInt8} (hb : aBit a = false) : aAt a r = aW a (numOf r) := by rw [aAt, hb]; exact if_neg Bool.false_ne_true
theorem aAt_bit {a : Int} {r : List UInt8} (hb : aBit a = true) : aAt a r = aB a (Lib.cut r [46]).2.2 (numOf (Lib.cut r [46]).1) (numOf (Lib.cut r [46]).2.1) := by rw [aAt, hb]; exact if_pos rfl
theorem numOk_some {l : List UInt8} (h : numOk l = true) : ∃ m, numOf l = some m := Option.isSome_iff_exists.1 h
theorem Num.yes {l : List UInt8} {n : Int} (h : Num l n true) : ∃ m, numOf l = some m ∧ n = (m : Int) :=
  let ⟨m, hm⟩ := numOk_some h.1.symm; ⟨m, hm, h.2.2 m hm⟩
theorem numOk_none {l : List UInt8} (h : numOk l = false) : numOf l = none := by
  cases hn : numOf l with
  | none => rfl
  | some m => simp [numOk, hn] at h
theorem Num.no {l : List UInt8} {n : Int} (h : Num l n false) : numOf l = none := numOk_none h.1.symm
def aParse (l : List UInt8) : Int × Int × Int := aFrom l 6 0

theorem Num.word {l : List UInt8} {a n sz : Int} {b : Bool} (h : Num l n b) (hs : aSize a = sz) : aW a (numOf l) = if b = true ∧ n < sz then some n else none := by
  cases b with
  | false => rw [h.no]; rfl
  | true =>
    obtain ⟨m, hm, rfl⟩ := h.yes
    rw [hm, aW, hs]; simp
theorem Num.bit {l1 l2 : List UInt8} {a n1 n2 sz : Int} {b1 b2 pt : Bool} (h1 : Num l1 n1 b1) (h2 : Num l2 n2 b2) (hs : aSize a = sz) :
    aB a pt (numOf l1) (numOf l2) = if pt = true ∧ b2 = true ∧ n2 ≤ 7 ∧ b1 = true ∧ 8 * n1 + n2 < sz then some (8 * n1 + n2) else none := by
  unfold aB
  cases pt with
  | false => simp
  | true =>
    cases b2 with
    | false => rw [h2.no]; simp
    | true =>
      obtain ⟨m2, hm2, rfl⟩ := h2.yes
      cases b1 with
      | false => rw [h1.no, hm2]; simp
      | true =>
        obtain ⟨m1, hm1, rfl⟩ := h1.yes
        rw [hm1, hm2, hs]; simp; split <;> split <;> first | rfl | omega
theorem Num.bit_no {l1 l2 : List UInt8} {a n2 : Int} {b2 pt : Bool} (h2 : Num l2 n2 b2) (hs : pt = false ∨ b2 = false ∨ 7 < n2) :
    aB a pt (numOf l1) (numOf l2) = none := by
  unfold aB
  cases pt with
  | false => simp
  | true =>
    cases b2 with
    | false => rw [h2.no]; simp
    | true =>
      obtain ⟨m2, hm2, rfl⟩ := h2.yes
      rw [hm2]
      cases numOf l1 with
      | none => rfl
      | some m1 => simp at hs; simp; omega
theorem parse_none {l : List UInt8} {k : Nat} (h : k < 6) (hp : Lib.hasPrefix l (aSign (1 + (k : Int))) = true) (hf : aFrom l (6 - k) k = aParse l)
    (ha : aAt (1 + (k : Int)) (Lib.trimPrefix l (aSign (1 + (k : Int)))) = none) : aParse l = (0, 0, 100) := by
  rw [← hf, aFrom_hit h hp, ha]
theorem parse_some {l : List UInt8} {k : Nat} {n : Int} (h : k < 6) (hp : Lib.hasPrefix l (aSign (1 + (k : Int))) = true) (hf : aFrom l (6 - k) k = aParse l)
    (ha : aAt (1 + (k : Int)) (Lib.trimPrefix l (aSign (1 + (k : Int)))) = some n) : aParse l = (1 + (k : Int), n, 0) := by
  rw [← hf, aFrom_hit h hp, ha]
theorem cut_le (l p : List UInt8) : (Lib.cut l p).1.length ≤ l.length ∧ (Lib.cut l p).2.1.length ≤ l.length := by
  unfold Lib.cut
  split
  · exact ⟨List.length_take_le' _ _, by simp⟩
  · exact ⟨Nat.le_refl _, by simp⟩
/-- A text cut at its first such piece. -/
def Cut (l p c1 c2 : List UInt8) (pt : Bool) : Prop := Lib.cut l p = (c1, c2, pt)
theorem Cut.short {l p c1 c2 : List UInt8} {pt : Bool} (h : Cut l p c1 c2 pt) {n : Nat} (hl : l.length ≤ n) : (⟨c1.toArray⟩ : ByteArray).size ≤ n ∧ (⟨c2.toArray⟩ : ByteArray).size ≤ n := by
  have := cut_le l p
  rw [show Lib.cut l p = _ from h] at this
  simp only at this
  exact ⟨by show c1.toArray.size ≤ n; rw [List.size_toArray]; omega, by show c2.toArray.size ≤ n; rw [List.size_toArray]; omega⟩
theorem Cut.at {l c1 c2 : List UInt8} {a : Int} {pt : Bool} (h : Cut l [46] c1 c2 pt) (hb : aBit a = true) : aAt a l = aB a pt (numOf c1) (numOf c2) := by
  rw [aAt_bit hb, h]
/-- A place's address. -/
def aText (a off : Int) : List UInt8 :=
  if off < 0 ∨ aSize a ≤ off then [] else if aBit a then aSign a ++ dd (off / 8).toNat ++ [46] ++ dd (off % 8).toNat else aSign a ++ dd off.toNat
/-- Its number in its table. -/
def aCoil (a off : Int) : Int := if off < 0 ∨ aSize a ≤ off then -1 else if a = 3 ∨ a = 6 then off + aSize a else off
def aTable (f s n : Int) : Int × Int := if n < 0 then (0, 0) else if n < aSize f then (f, n) else if n - aSize f < aSize s then (s, n - aSize f) else (0, 0)
/-- The area and place of a function's number. -/
def aPlace (fn n : Int) : Int × Int :=
  if fn = 1 ∨ fn = 5 ∨ fn = 15 then aTable 2 3 n else if fn = 2 then aTable 1 0 n
  else if fn = 3 ∨ fn = 6 ∨ fn = 16 ∨ fn = 22 ∨ fn = 23 then aTable 5 6 n else if fn = 4 then aTable 4 0 n else (0, 0)
theorem dd_len (n : Nat) : (dd n).length ≤ 3 := by unfold dd; split <;> (try split) <;> simp
theorem aSign_len (a : Int) : (aSign a).length ≤ 3 := by unfold aSign; repeat' (split <;> try simp)
theorem aSize_le (a : Int) : aSize a ≤ 128 := by unfold aSize; split <;> (try split) <;> omega
theorem aSize_nn (a : Int) : 0 ≤ aSize a := by unfold aSize; split <;> (try split) <;> omega
theorem aSize_word {a : Int} (h : aBit a = false) : aSize a ≤ 64 := by
  unfold aSize; rw [if_neg (by simpa [aBit] using h)]; split <;> omega
theorem size_of_list (l : List UInt8) : (⟨l.toArray⟩ : ByteArray).size = l.length := by simp [ByteArray.size]
theorem trim_le (l p : List UInt8) : (Lib.trimPrefix l p).length ≤ l.length := by
  unfold Lib.trimPrefix; split <;> simp
theorem short_trim {s : ByteArray} {p : List UInt8} (hs : s.size < 4294967281) : (⟨(Lib.trimPrefix s.data.toList p).toArray⟩ : ByteArray).size ≤ 281474976710656 := by
  rw [size_of_list]; have := trim_le s.data.toList p; have h : s.data.toList.length = s.size := rfl; omega
theorem short_trim' {s : ByteArray} {p : List UInt8} (hs : s.size < 4294967281) : (⟨(Lib.trimPrefix s.data.toList p).toArray⟩ : ByteArray).size < 4294967281 := by
  rw [size_of_list]; have := trim_le s.data.toList p; have h : s.data.toList.length = s.size := rfl; omega
end Go.Proofs.YtdabnnganponpaaGreatDoor.Ad
