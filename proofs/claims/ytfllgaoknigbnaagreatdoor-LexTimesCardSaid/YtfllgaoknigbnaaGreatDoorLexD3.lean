/- All tokens of a text that is one token; numbers behind their kinds; times; words; names and blanks: what package lex's plain words make of them. -/
import Derived.Test.YtfllgaoknigbnaaGreatDoorLexT
import Derived.Test.YtfllgaoknigbnaaGreatDoorLexD2
namespace Go.Proofs.YtfllgaoknigbnaaGreatDoor
open Lx

theorem blanks_stop {il : Bool} {l : List UInt8} {f a : Nat} {c : UInt8} {t : List UInt8} (h : l.drop a = c :: t) (hb : blankB il c = false) (hp : Lib.hasPrefix (c :: t) [40, 42] = false) :
    blanks il l (f + 1) a = .ok a := by
  rw [blanks, h]
  simp only [hb, hp]
  rfl
theorem blanks_end {il : Bool} {l : List UInt8} {f a : Nat} (h : l.drop a = []) : blanks il l f a = .ok a := by
  cases f with
  | zero => rfl
  | succ f => rw [blanks, h]
theorem blanks_skip {il : Bool} {l : List UInt8} {f a : Nat} {c : UInt8} {t : List UInt8} (h : l.drop a = c :: t) (hb : blankB il c = true) : blanks il l (f + 1) a = blanks il l f (a + 1) := by
  rw [blanks, h]
  simp only [hb]
  rfl
theorem tokens_end {il : Bool} {l : List UInt8} {f a a' : Nat} {out : List Tok} (hb : blanks il l (l.length + 1) a = .ok a') (h : a' = l.length) : tokens il l (f + 1) a out = .ok (out ++ [⟨0, 0, 0, [], a'⟩]) := by
  rw [tokens, hb]
  simp only [if_pos h]
theorem tokens_step {il : Bool} {l : List UInt8} {f a a' n : Nat} {t : Tok} {out : List Tok} (hb : blanks il l (l.length + 1) a = .ok a') (h : a' ≠ l.length) (ht : lToken (l.drop a') = (t, n, 0)) :
    tokens il l (f + 1) a out = tokens il l f (a' + n) (out ++ [{ t with at_ := a' }]) := by
  rw [tokens, hb]
  simp only [if_neg h, ht]
  rw [if_neg (by simp)]
theorem tokens_bad {il : Bool} {l : List UInt8} {f a a' n : Nat} {t : Tok} {e : Int} {out : List Tok} (hb : blanks il l (l.length + 1) a = .ok a') (h : a' ≠ l.length) (ht : lToken (l.drop a') = (t, n, e)) (he : e ≠ 0) :
    tokens il l (f + 1) a out = .error (a', e) := by
  rw [tokens, hb]
  simp only [if_neg h, ht, if_pos he]

/-- A text that is one token. -/
theorem lTokens_one {il : Bool} {l : List UInt8} {c : UInt8} {t0 : List UInt8} {t : Tok} {n : Nat} (hl : l = c :: t0) (hlen : l.length ≤ 65536) (hb : blankB il c = false) (hp : c.toNat ≠ 40)
    (ht : lToken l = (t, n, 0)) (hn : n = l.length) : lTokens l il = .ok [{ t with at_ := 0 }, ⟨0, 0, 0, [], l.length⟩] := by
  have hp2 : Lib.hasPrefix (c :: t0) [40, 42] = false := by
    unfold Lib.hasPrefix
    have : (40 : UInt8) ≠ c := fun h => hp (by rw [← h]; rfl)
    simp [List.isPrefixOf, this]
  have h0 : l.length ≠ 0 := by rw [hl]; simp
  obtain ⟨m, hm⟩ : ∃ m, l.length = m + 1 := ⟨l.length - 1, by omega⟩
  rw [lTokens, if_neg (by omega), tokens_step (a' := 0) (t := t) (n := n) (blanks_stop (c := c) (t := t0) (by simpa using hl) hb hp2) (by omega) (by simpa using ht), hm, tokens_end (a' := l.length)]
  · simp [hm]
  · rw [show 0 + n = l.length by omega]; exact blanks_end (by simp)
  · rfl
theorem lTokens_bad {il : Bool} {l : List UInt8} {c : UInt8} {t0 : List UInt8} {t : Tok} {n : Nat} {e : Int} (hl : l = c :: t0) (hlen : l.length ≤ 65536) (hb : blankB il c = false) (hp : c.toNat ≠ 40)
    (ht : lToken l = (t, n, e)) (he : e ≠ 0) : lTokens l il = .error (0, e) := by
  have hp2 : Lib.hasPrefix (c :: t0) [40, 42] = false := by
    unfold Lib.hasPrefix
    have : (40 : UInt8) ≠ c := fun h => hp (by rw [← h]; rfl)
    simp [List.isPrefixOf, this]
  have h0 : l.length ≠ 0 := by rw [hl]; simp
  rw [lTokens, if_neg (by omega), tokens_bad (a' := 0) (t := t) (n := n) (blanks_stop (c := c) (t := t0) (by simpa using hl) hb hp2) (by omega) (by simpa using ht) he]

theorem span_app (p : UInt8 → Bool) (x : List UInt8) (d : UInt8) (rest : List UInt8) (hx : ∀ c ∈ x, p c = true) (hd : p d = false) : span p (x ++ d :: rest) = x.length := by
  induction x with
  | nil => simp [span, hd]
  | cons c x ih =>
    simp only [List.cons_append, span, hx c (by simp), if_pos, List.length_cons]
    rw [ih (fun c hc => hx c (by simp [hc]))]

/-- A word, and # behind it. -/
theorem lToken_hash {c : UInt8} {x rest : List UInt8} (hc : lett c = true) (h10 : c.toNat ≠ 10) (hx : ∀ d ∈ c :: x, wordB d = true) (hk : kindOf (mkS (c :: x)) ≠ 0 ∨ ((mkS (c :: x)).toList == [84]) = true) :
    lToken (c :: x ++ 35 :: rest) = if kindOf (mkS (c :: x)) = 11 ∨ kindOf (mkS (c :: x)) = 0 then lSpan2 (c :: x ++ 35 :: rest) ((c :: x).length + 1) else lTyped (c :: x ++ 35 :: rest) ((c :: x).length + 1) (kindOf (mkS (c :: x))) := by
  have hz : span wordB (c :: x ++ 35 :: rest) = (c :: x).length := span_app wordB (c :: x) 35 rest hx (by decide)
  have ht : lToken (c :: x ++ 35 :: rest) = lWordTok (c :: x ++ 35 :: rest) := by
    simp only [List.cons_append, lToken]
    rw [if_neg h10, if_pos hc]
  rw [ht]
  simp only [lWordTok, hz, List.take_left]
  rw [if_pos ⟨by rw [List.getElem?_append_right (by omega)]; simp, hk⟩]

/-- The names of the kinds that numbers have. -/
def kNm : Nat → List UInt8
  | 2 => [83, 73, 78, 84]
  | 3 => [73, 78, 84]
  | 4 => [68, 73, 78, 84]
  | 5 => [85, 83, 73, 78, 84]
  | 6 => [85, 73, 78, 84]
  | 7 => [85, 68, 73, 78, 84]
  | 8 => [66, 89, 84, 69]
  | 9 => [87, 79, 82, 68]
  | 10 => [68, 87, 79, 82, 68]
  | _ => []
def kLo : Nat → Int
  | 2 => -128 | 3 => -32768 | 4 => -2147483648 | _ => 0
def kHi : Nat → Int
  | 2 => 127 | 3 => 32767 | 4 => 2147483647 | 5 => 255 | 6 => 65535 | 7 => 4294967295 | 8 => 255 | 9 => 65535 | _ => 4294967295

theorem kNm_ok : ∀ k, k < 11 → 2 ≤ k → ∃ c x, kNm k = c :: x ∧ lett c = true ∧ c.toNat ≠ 10 ∧ c.toNat ≠ 40 ∧ blankB false c = false ∧ (∀ d ∈ c :: x, wordB d = true) ∧ kindOf (mkS (c :: x)) = k ∧ (c :: x).length ≤ 5 := by
  intro k h1 h2
  match k, h1, h2 with
  | 2, _, _ => exact ⟨_, _, rfl, by decide⟩
  | 3, _, _ => exact ⟨_, _, rfl, by decide⟩
  | 4, _, _ => exact ⟨_, _, rfl, by decide⟩
  | 5, _, _ => exact ⟨_, _, rfl, by decide⟩
  | 6, _, _ => exact ⟨_, _, rfl, by decide⟩
  | 7, _, _ => exact ⟨_, _, rfl, by decide⟩
  | 8, _, _ => exact ⟨_, _, rfl, by decide⟩
  | 9, _, _ => exact ⟨_, _, rfl, by decide⟩
  | 10, _, _ => exact ⟨_, _, rfl, by decide⟩

theorem kWrap_iff {k : Nat} (h1 : k < 11) (h2 : 2 ≤ k) {n : Int} : n = kWrap k n ↔ kLo k ≤ n ∧ n ≤ kHi k := by
  match k, h1, h2 with
  | 2, _, _ => simp only [kWrap, kLo, kHi, IntKind.wrap, IntKind.bits, IntKind.signed]; constructor <;> intro h <;> (simp at *; omega)
  | 3, _, _ => simp only [kWrap, kLo, kHi, IntKind.wrap, IntKind.bits, IntKind.signed]; constructor <;> intro h <;> (simp at *; omega)
  | 4, _, _ => simp only [kWrap, kLo, kHi, IntKind.wrap, IntKind.bits, IntKind.signed]; constructor <;> intro h <;> (simp at *; omega)
  | 5, _, _ => simp only [kWrap, kLo, kHi, IntKind.wrap, IntKind.bits, IntKind.signed]; constructor <;> intro h <;> (simp at *; omega)
  | 6, _, _ => simp only [kWrap, kLo, kHi, IntKind.wrap, IntKind.bits, IntKind.signed]; constructor <;> intro h <;> (simp at *; omega)
  | 7, _, _ => simp only [kWrap, kLo, kHi, IntKind.wrap, IntKind.bits, IntKind.signed]; constructor <;> intro h <;> (simp at *; omega)
  | 8, _, _ => simp only [kWrap, kLo, kHi, IntKind.wrap, IntKind.bits, IntKind.signed]; constructor <;> intro h <;> (simp at *; omega)
  | 9, _, _ => simp only [kWrap, kLo, kHi, IntKind.wrap, IntKind.bits, IntKind.signed]; constructor <;> intro h <;> (simp at *; omega)
  | 10, _, _ => simp only [kWrap, kLo, kHi, IntKind.wrap, IntKind.bits, IntKind.signed]; constructor <;> intro h <;> (simp at *; omega)
theorem kSigned_iff {k : Nat} (h1 : k < 11) (h2 : 2 ≤ k) : kSigned k = true ↔ kLo k ≠ 0 := by
  match k, h1, h2 with
  | 2, _, _ => decide
  | 3, _, _ => decide
  | 4, _, _ => decide
  | 5, _, _ => decide
  | 6, _, _ => decide
  | 7, _, _ => decide
  | 8, _, _ => decide
  | 9, _, _ => decide
  | 10, _, _ => decide

theorem numF_len_le (base f n : Nat) : (numF base f n).length ≤ f + 1 := by
  induction f generalizing n with
  | zero => simp [numF]
  | succ f ih => simp only [numF]; split <;> simp; have := ih (n / base); omega

/-- A number, its sign ahead. -/
def signed (n : Int) : List UInt8 := if n < 0 then 45 :: decs (-n).toNat else decs n.toNat

theorem prefix_dig {l : List UInt8} {c : UInt8} {t : List UInt8} (h : l = c :: t) (hc : dig c = true) : Lib.hasPrefix l [45] = false := by
  subst h
  have : (45 : UInt8) ≠ c := fun h => by rw [← h] at hc; exact absurd hc (by decide)
  simp [Lib.hasPrefix, List.isPrefixOf, this]

theorem lTyped_minus {l rest : List UInt8} {at_ k : Nat} {n : Int} {z : Nat} (hl : l.drop at_ = rest) (hk : k ≠ 1) (hs : kSigned k = true) (hp : Lib.hasPrefix rest [45] = true) (hd : digits (rest.drop 1) 10 = (n, z)) (hz : z ≠ 0) :
    lTyped l at_ k = if -n = kWrap k (-n) then (⟨3, k, -n, [], 0⟩, at_ + 1 + z, 0) else (tok0, 0, 163) := by
  subst hl
  simp only [lTyped, hd, hk, hs, hp, hz, false_and, and_self, if_true, if_false]
theorem lTyped_plain {l rest : List UInt8} {at_ k : Nat} {n e : Int} {z : Nat} (hl : l.drop at_ = rest) (hk : k ≠ 1) (hs : ¬ (kSigned k = true ∧ Lib.hasPrefix rest [45] = true)) (hd : Lx.number rest = (n, z, e)) :
    lTyped l at_ k = if e ≠ 0 then (tok0, 0, e) else if n = kWrap k n then (⟨3, k, n, [], 0⟩, at_ + z, 0) else (tok0, 0, 163) := by
  subst hl
  simp only [lTyped, hd, hk, hs, false_and, if_false]

theorem lTyped_signed {k : Nat} (h1 : k < 11) (h2 : 2 ≤ k) {n : Int} (hn : -8589934592 ≤ n ∧ n ≤ 8589934592) (l : List UInt8) (at_ : Nat) (hl : l.drop at_ = signed n) :
    lTyped l at_ k = if n < 0 ∧ kLo k = 0 then (tok0, 0, 120) else if n < kLo k ∨ kHi k < n then (tok0, 0, 163) else (⟨3, k, n, [], 0⟩, at_ + (signed n).length, 0) := by
  by_cases h0 : n < 0
  · have hu : (-n).toNat < 1099511627776 := by omega
    have he : signed n = 45 :: decs (-n).toNat := by rw [signed, if_pos h0]
    have hd := digits_decs hu (Stops.nil 10)
    rw [List.append_nil] at hd
    have hlen : (decs (-n).toNat).length ≠ 0 := by have := numF_len 10 20 (-n).toNat; unfold decs; omega
    have hp : Lib.hasPrefix (45 :: decs (-n).toNat) [45] = true := by simp [Lib.hasPrefix, List.isPrefixOf]
    rw [he] at hl
    by_cases hlo : kLo k = 0
    · have hs : ¬ kSigned k = true := fun h => (kSigned_iff h1 h2).1 h hlo
      have hnum : (Lx.number (45 :: decs (-n).toNat)) = (0, 0, 120) := by
        simp [Lx.number, digits, digF, valOk, show valD 45 = -1 by decide]
      rw [lTyped_plain hl (by omega) (fun h => hs h.1) hnum, if_pos (by decide), if_pos ⟨h0, hlo⟩]
    · have hs : kSigned k = true := (kSigned_iff h1 h2).2 hlo
      rw [lTyped_minus hl (by omega) hs hp (show digits (List.drop 1 (45 :: decs (-n).toNat)) 10 = _ from hd) hlen, show -(((-n).toNat : Nat) : Int) = n by omega]
      by_cases hr : kLo k ≤ n ∧ n ≤ kHi k
      · rw [if_pos ((kWrap_iff h1 h2).2 hr), if_neg (by omega), if_neg (by omega), he]
        simp [Nat.add_assoc, Nat.add_comm]
      · rw [if_neg (fun h => hr ((kWrap_iff h1 h2).1 h)), if_neg (fun h => hlo h.2), if_pos (by omega)]
  · have hu : n.toNat < 1099511627776 := by omega
    have he : signed n = decs n.toNat := by rw [signed, if_neg h0]
    obtain ⟨c, t, hc, hcd⟩ := decs_cons n.toNat hu
    have hp := prefix_dig hc hcd
    rw [he] at hl
    rw [lTyped_plain hl (by omega) (fun h => by rw [hp] at h; simp at h) (number_decs hu), if_neg (by simp), show ((n.toNat : Nat) : Int) = n by omega]
    by_cases hr : kLo k ≤ n ∧ n ≤ kHi k
    · rw [if_pos ((kWrap_iff h1 h2).2 hr), if_neg (by omega), if_neg (by omega), he]
    · rw [if_neg (fun h => hr ((kWrap_iff h1 h2).1 h)), if_neg (by omega), if_pos (by omega)]

theorem decs_len (n : Nat) : (decs n).length ≤ 21 := numF_len_le 10 20 n
theorem hexs_len (n : Nat) : (hexs n).length ≤ 21 := numF_len_le 16 20 n
theorem signed_len (n : Int) : (signed n).length ≤ 22 := by
  unfold signed; split
  · have := decs_len (-n).toNat; simp; omega
  · have := decs_len n.toNat; omega

/-- A number of a kind, the kind's name and # ahead. -/
theorem num_law {k : Nat} (h1 : k < 11) (h2 : 2 ≤ k) {n : Int} (hn : -8589934592 ≤ n ∧ n ≤ 8589934592) :
    lTokens (kNm k ++ 35 :: signed n) false = if n < 0 ∧ kLo k = 0 then .error (0, 120) else if n < kLo k ∨ kHi k < n then .error (0, 163) else .ok [⟨3, k, n, [], 0⟩, ⟨0, 0, 0, [], (kNm k ++ 35 :: signed n).length⟩] := by
  obtain ⟨c, x, e1, e2, e3, e4, e5, e6, e7, e8⟩ := kNm_ok k h1 h2
  have hsl := signed_len n
  have hlen : (kNm k ++ 35 :: signed n).length ≤ 65536 := by rw [e1]; simp only [List.length_append, List.length_cons] at *; omega
  have hd : (kNm k ++ 35 :: signed n).drop ((c :: x).length + 1) = signed n := by rw [e1, ← List.drop_drop, List.drop_left]; rfl
  have ht : lToken (kNm k ++ 35 :: signed n) = lTyped (kNm k ++ 35 :: signed n) ((c :: x).length + 1) k := by
    rw [e1, lToken_hash e2 e3 e6 (by rw [e7]; left; omega), e7, if_neg (by omega)]
  rw [lTyped_signed h1 h2 hn _ _ hd] at ht
  by_cases ha : n < 0 ∧ kLo k = 0
  · rw [if_pos ha] at ht ⊢
    exact lTokens_bad (c := c) (t0 := x ++ 35 :: signed n) (by rw [e1]; rfl) hlen e5 e4 ht (by decide)
  · rw [if_neg ha] at ht ⊢
    by_cases hb : n < kLo k ∨ kHi k < n
    · rw [if_pos hb] at ht ⊢
      exact lTokens_bad (c := c) (t0 := x ++ 35 :: signed n) (by rw [e1]; rfl) hlen e5 e4 ht (by decide)
    · rw [if_neg hb] at ht ⊢
      exact lTokens_one (c := c) (t0 := x ++ 35 :: signed n) (by rw [e1]; rfl) hlen e5 e4 ht (by rw [e1]; simp only [List.length_append, List.length_cons]; omega)

/-- The same number in base sixteen. -/
theorem hex_law {k : Nat} (h1 : k < 11) (h2 : 2 ≤ k) {n : Nat} (hn : (n : Int) ≤ kHi k) :
    lTokens (kNm k ++ 35 :: ([49, 54, 35] ++ hexs n)) false = .ok [⟨3, k, n, [], 0⟩, ⟨0, 0, 0, [], (kNm k ++ 35 :: ([49, 54, 35] ++ hexs n)).length⟩] := by
  obtain ⟨c, x, e1, e2, e3, e4, e5, e6, e7, e8⟩ := kNm_ok k h1 h2
  have hsl := hexs_len n
  have hhi : kHi k ≤ 4294967295 := by
    match k, h1, h2 with
    | 2, _, _ => decide
    | 3, _, _ => decide
    | 4, _, _ => decide
    | 5, _, _ => decide
    | 6, _, _ => decide
    | 7, _, _ => decide
    | 8, _, _ => decide
    | 9, _, _ => decide
    | 10, _, _ => decide
  have hlo : kLo k ≤ 0 := by
    match k, h1, h2 with
    | 2, _, _ => decide
    | 3, _, _ => decide
    | 4, _, _ => decide
    | 5, _, _ => decide
    | 6, _, _ => decide
    | 7, _, _ => decide
    | 8, _, _ => decide
    | 9, _, _ => decide
    | 10, _, _ => decide
  have hlen : (kNm k ++ 35 :: ([49, 54, 35] ++ hexs n)).length ≤ 65536 := by rw [e1]; simp only [List.length_append, List.length_cons, List.length_nil] at *; omega
  have hd : (kNm k ++ 35 :: ([49, 54, 35] ++ hexs n)).drop ((c :: x).length + 1) = [49, 54, 35] ++ hexs n := by rw [e1, ← List.drop_drop, List.drop_left]; rfl
  have ht : lToken (kNm k ++ 35 :: ([49, 54, 35] ++ hexs n)) = lTyped (kNm k ++ 35 :: ([49, 54, 35] ++ hexs n)) ((c :: x).length + 1) k := by
    rw [e1, lToken_hash e2 e3 e6 (by rw [e7]; left; omega), e7, if_neg (by omega)]
  have hty : lTyped (kNm k ++ 35 :: ([49, 54, 35] ++ hexs n)) ((c :: x).length + 1) k = (⟨3, k, n, [], 0⟩, (c :: x).length + 1 + ((hexs n).length + 3), 0) := by
    rw [lTyped_plain hd (by omega) (fun h => absurd h.2 (by simp [Lib.hasPrefix, List.isPrefixOf])) (number_hexs (by omega)), if_neg (by simp), if_pos ((kWrap_iff h1 h2).2 ⟨by omega, hn⟩)]
  rw [hty] at ht
  refine lTokens_one (c := c) (t0 := x ++ 35 :: ([49, 54, 35] ++ hexs n)) (by rw [e1]; rfl) hlen e5 e4 ht (by rw [e1]; simp only [List.length_append, List.length_cons, List.length_nil]; omega)
end Go.Proofs.YtfllgaoknigbnaaGreatDoor
