/- Numbers written out, in base ten and sixteen, and what package lex's plain words read of them. -/
import Derived.Test.YtdpkjpjkdmkkpaaGreatDoorMA
import Derived.Test.YtdpkjpjkdmkkpaaGreatDoorMB
import Derived.Deep.AppendLies
import Derived.OwnWalk
import Derived.Deep.RegionHeld3
import Derived.Deep.RegionLaw
import Derived.WalkKit
import Derived.LaidEql
import Derived.Stop.Asserts
import Derived.RowKitTokens
namespace Go.Proofs.YtdpkjpjkdmkkpaaGreatDoor.Lx

/-- A digit's byte, of base 16 at most. -/
def digB (n : Nat) : UInt8 := if n < 10 then UInt8.ofNat (48 + n) else UInt8.ofNat (55 + n)
/-- A number's digits. -/
def numF (base : Nat) : Nat → Nat → List UInt8
  | 0, n => [digB n]
  | f + 1, n => if n < base then [digB n] else numF base f (n / base) ++ [digB (n % base)]
/-- In base ten, in base sixteen: numbers below 2^64. -/
def decs (n : Nat) : List UInt8 := numF 10 20 n
def hexs (n : Nat) : List UInt8 := numF 16 20 n

theorem digB_props : ∀ n, n < 16 → (valD (digB n) = (n : Int) ∧ ¬ (digB n).toNat = 95) := by decide
theorem digB_dig : ∀ n, n < 10 → dig (digB n) = true := by decide
theorem valOk_digB {n base : Nat} (h : n < base) (hb : base ≤ 16) : valOk (digB n) base = true := by
  have := (digB_props n (by omega)).1
  simp [valOk, this]; omega

theorem numF_len (base f n : Nat) : 0 < (numF base f n).length := by
  cases f with
  | zero => simp [numF]
  | succ f => simp only [numF]; split <;> simp

/-- What the reader of digits makes of a number's digits. -/
theorem digF_numF {base : Nat} (hb : 2 ≤ base) (hb2 : base ≤ 16) (f n : Nat) (hf : n < base ^ (f + 1)) (hn : n < 1099511627776) (rest : List UInt8) (ok : Bool) (i size : Nat) :
    digF base (numF base f n ++ rest) ok i 0 size = digF base rest true (i + (numF base f n).length) n (i + (numF base f n).length) := by
  have one : ∀ (m : Nat) (acc : Nat) (rest : List UInt8) (ok : Bool) (i size : Nat), m < base → acc * base + m < 1099511627776 →
      digF base (digB m :: rest) ok i acc size = digF base rest true (i + 1) ((acc * base + m : Nat) : Int) (i + 1) := by
    intro m acc rest ok i size hm hs
    rw [digF, if_neg (fun h => (digB_props m (by omega)).2 h.1), if_pos (valOk_digB hm hb2), (digB_props m (by omega)).1]
    obtain ⟨p, hp⟩ : ∃ p : Nat, acc * base = p := ⟨_, rfl⟩
    have e1 : (acc : Int) * (base : Int) = (p : Int) := by rw [← hp, Int.natCast_mul]
    have e2 : min ((acc : Int) * (base : Int) + (m : Int)) 1099511627776 = ((acc * base + m : Nat) : Int) := by
      rw [hp] at hs
      rw [e1, hp]
      omega
    rw [e2]
  induction f generalizing n rest ok i size with
  | zero =>
    simp only [numF, List.cons_append, List.nil_append, List.length_cons, List.length_nil]
    rw [Nat.zero_add, Nat.pow_one] at hf
    have h0 := one n 0 rest ok i size hf (by omega)
    rw [Nat.zero_mul, Nat.zero_add] at h0
    exact h0
  | succ f ih =>
    by_cases h : n < base
    · simp only [numF, if_pos h, List.cons_append, List.nil_append, List.length_cons, List.length_nil]
      have h0 := one n 0 rest ok i size h (by omega)
      rw [Nat.zero_mul, Nat.zero_add] at h0
      exact h0
    · simp only [numF, if_neg h, List.append_assoc, List.cons_append, List.nil_append, List.length_append, List.length_cons, List.length_nil]
      have hd : n / base < base ^ (f + 1) := by
        rw [Nat.div_lt_iff_lt_mul (by omega)]
        rw [Nat.pow_succ] at hf; exact hf
      have hle : n / base ≤ n := Nat.div_le_self _ _
      have hmod : n / base * base + n % base = n := Nat.div_add_mod' n base
      rw [ih (n / base) hd (by omega), one (n % base) (n / base) rest true _ _ (Nat.mod_lt _ (by omega)) (by omega), hmod]
      simp [Nat.add_assoc]

/-- Behind the digits stands nothing that goes on with them. -/
def Stops (base : Int) (rest : List UInt8) : Prop := ∀ c t, rest = c :: t → ¬ c.toNat = 95 ∧ valOk c base = false
theorem Stops.nil (base : Int) : Stops base [] := fun _ _ h => by cases h
theorem digF_stop {base : Int} {rest : List UInt8} (h : Stops base rest) (ok : Bool) (i : Nat) (n : Int) (size : Nat) : digF base rest ok i n size = (n, size) := by
  cases rest with
  | nil => rfl
  | cons c t =>
    obtain ⟨h1, h2⟩ := h c t rfl
    rw [digF, if_neg (fun h => h1 h.1), if_neg (by rw [h2]; simp)]

theorem digits_num {base : Nat} (hb : 2 ≤ base) (hb2 : base ≤ 16) {f n : Nat} (hf : n < base ^ (f + 1)) (hn : n < 1099511627776) {rest : List UInt8} (hr : Stops base rest) :
    digits (numF base f n ++ rest) base = ((n : Int), (numF base f n).length) := by
  rw [digits, digF_numF hb hb2 f n hf hn, digF_stop hr]
  simp
theorem digits_decs {n : Nat} (hn : n < 1099511627776) {rest : List UInt8} (hr : Stops 10 rest) : digits (decs n ++ rest) 10 = ((n : Int), (decs n).length) :=
  digits_num (base := 10) (f := 20) (by decide) (by decide) (by omega) hn hr
theorem digits_hexs {n : Nat} (hn : n < 1099511627776) {rest : List UInt8} (hr : Stops 16 rest) : digits (hexs n ++ rest) 16 = ((n : Int), (hexs n).length) :=
  digits_num (base := 16) (f := 20) (by decide) (by decide) (by omega) hn hr

theorem numF_dig (f n : Nat) (hf : n < 10 ^ (f + 1)) : ∀ c ∈ numF 10 f n, dig c = true := by
  induction f generalizing n with
  | zero => intro c hc; simp only [numF, List.mem_singleton] at hc; subst hc; exact digB_dig n (by simpa using hf)
  | succ f ih =>
    intro c hc
    simp only [numF] at hc
    split at hc
    · rename_i h; simp only [List.mem_singleton] at hc; subst hc; exact digB_dig n h
    · rcases List.mem_append.1 hc with h | h
      · refine ih (n / 10) ?_ c h
        rw [Nat.div_lt_iff_lt_mul (by omega)]; rw [Nat.pow_succ] at hf; exact hf
      · simp only [List.mem_singleton] at h; subst h; exact digB_dig _ (by omega)
theorem decs_dig {n : Nat} (hn : n < 1099511627776) : ∀ c ∈ decs n, dig c = true := numF_dig 20 n (by omega)

theorem number_decs {n : Nat} (hn : n < 1099511627776) : number (decs n) = ((n : Int), (decs n).length, 0) := by
  have hd := digits_decs hn (Stops.nil 10)
  rw [List.append_nil] at hd
  have hl : (decs n).length ≠ 0 := by have := numF_len 10 20 n; unfold decs; omega
  simp only [number, hd, if_neg hl]
  rw [if_neg (by simp)]
theorem number_hexs {n : Nat} (hn : n < 1099511627776) : number ([49, 54, 35] ++ hexs n) = ((n : Int), (hexs n).length + 3, 0) := by
  have hd : digits ([49, 54, 35] ++ hexs n) 10 = (16, 2) := by
    have := digits_decs (n := 16) (by omega) (rest := 35 :: hexs n) (fun c t h => by injection h with h1 h2; subst h1; decide)
    simpa [show decs 16 = [49, 54] by decide] using this
  have hx := digits_hexs hn (Stops.nil 16)
  rw [List.append_nil] at hx
  have hl : (hexs n).length ≠ 0 := by have := numF_len 16 20 n; unfold hexs; omega
  simp only [number, hd]
  rw [if_neg (by omega), if_pos ⟨by simp, by simp⟩]
  simp only [show (2 + 1 : Nat) = 3 by rfl, show List.drop 3 ([49, 54, 35] ++ hexs n) = hexs n from rfl, hx, if_neg hl]
  rw [Nat.add_comm]
end Go.Proofs.YtdpkjpjkdmkkpaaGreatDoor.Lx

/- A time written out by its parts, and what package lex's plain words read of it. -/
namespace Go.Proofs.YtdpkjpjkdmkkpaaGreatDoor
open Lx

/-- The parts of a time from the i-th on: each, or not, its number and its unit. -/
def partsT (vs : Nat → Nat) (wh : Nat → Bool) : Nat → Nat → List UInt8
  | 0, _ => []
  | f + 1, i => if wh i = true then decs (vs i) ++ unitS i ++ partsT vs wh f (i + 1) else partsT vs wh f (i + 1)
def sumT (vs : Nat → Nat) (wh : Nat → Bool) : Nat → Nat → Int → Int
  | 0, _, n => n
  | f + 1, i, n => sumT vs wh f (i + 1) (if wh i = true then n + vs i * unitMs i else n)
def nextT (wh : Nat → Bool) : Nat → Nat → Nat → Nat
  | 0, _, x => x
  | f + 1, i, x => nextT wh f (i + 1) (if wh i = true then i + 1 else x)

theorem decs_cons (n : Nat) (hn : n < 1099511627776) : ∃ c t, decs n = c :: t ∧ dig c = true := by
  have h := numF_len 10 20 n
  cases h2 : decs n with
  | nil => unfold decs at h2; rw [h2] at h; simp at h
  | cons c t => exact ⟨c, t, rfl, decs_dig hn c (by rw [h2]; simp)⟩
theorem partsT_head (vs : Nat → Nat) (wh : Nat → Bool) (hv : ∀ i, vs i < 1099511627776) (f i : Nat) : partsT vs wh f i = [] ∨ ∃ c t, partsT vs wh f i = c :: t ∧ dig c = true := by
  induction f generalizing i with
  | zero => exact .inl rfl
  | succ f ih =>
    simp only [partsT]
    split
    · right
      obtain ⟨c, t, h, hc⟩ := decs_cons (vs i) (hv i)
      exact ⟨c, t ++ (unitS i ++ partsT vs wh f (i + 1)), by rw [h]; simp, hc⟩
    · exact ih (i + 1)

theorem stops_unit (i : Nat) (hi : i < 5) (P : List UInt8) : Stops 10 (unitS i ++ P) := by
  intro c t h
  match i, hi with
  | 0, _ => simp [unitS] at h; obtain ⟨rfl, _⟩ := h; decide
  | 1, _ => simp [unitS] at h; obtain ⟨rfl, _⟩ := h; decide
  | 2, _ => simp [unitS] at h; obtain ⟨rfl, _⟩ := h; decide
  | 3, _ => simp [unitS] at h; obtain ⟨rfl, _⟩ := h; decide
  | 4, _ => simp [unitS] at h; obtain ⟨rfl, _⟩ := h; decide

theorem unit_found (i nx size : Nat) (hi : i < 5) (hnx : nx ≤ i) (hs : size ≠ 0) (P : List UInt8) (hP : P = [] ∨ ∃ c t, P = c :: t ∧ dig c = true) : unitOf (unitS i ++ P) nx size = i := by
  have hP2 : ∀ c t, P = c :: t → (115 : UInt8) ≠ c := by
    intro c t h h2
    rcases hP with h0 | ⟨c', t', h0, h1⟩
    · rw [h0] at h; cases h
    · rw [h0] at h; injection h with h3 h4; subst h3; subst h2; revert h1; decide
  have hp : ∀ j, j < 5 → Lib.hasPrefix (unitS i ++ P) (unitS j) = true → j = i ∨ (i = 4 ∧ j = 2) := by
    intro j hj h
    match i, hi, j, hj with
    | 0, _, 0, _ => simp
    | 0, _, 1, _ => simp [unitS, Lib.hasPrefix, List.isPrefixOf] at h
    | 0, _, 2, _ => simp [unitS, Lib.hasPrefix, List.isPrefixOf] at h
    | 0, _, 3, _ => simp [unitS, Lib.hasPrefix, List.isPrefixOf] at h
    | 0, _, 4, _ => simp [unitS, Lib.hasPrefix, List.isPrefixOf] at h
    | 1, _, 0, _ => simp [unitS, Lib.hasPrefix, List.isPrefixOf] at h
    | 1, _, 1, _ => simp
    | 1, _, 2, _ => simp [unitS, Lib.hasPrefix, List.isPrefixOf] at h
    | 1, _, 3, _ => simp [unitS, Lib.hasPrefix, List.isPrefixOf] at h
    | 1, _, 4, _ => simp [unitS, Lib.hasPrefix, List.isPrefixOf] at h
    | 2, _, 0, _ => simp [unitS, Lib.hasPrefix, List.isPrefixOf] at h
    | 2, _, 1, _ => simp [unitS, Lib.hasPrefix, List.isPrefixOf] at h
    | 2, _, 2, _ => simp
    | 2, _, 3, _ => simp [unitS, Lib.hasPrefix, List.isPrefixOf] at h
    | 2, _, 4, _ =>
      exfalso
      cases P with
      | nil => simp [unitS, Lib.hasPrefix, List.isPrefixOf] at h
      | cons c t =>
        have := hP2 c t rfl
        simp [unitS, Lib.hasPrefix, List.isPrefixOf] at h
        exact this h
    | 3, _, 0, _ => simp [unitS, Lib.hasPrefix, List.isPrefixOf] at h
    | 3, _, 1, _ => simp [unitS, Lib.hasPrefix, List.isPrefixOf] at h
    | 3, _, 2, _ => simp [unitS, Lib.hasPrefix, List.isPrefixOf] at h
    | 3, _, 3, _ => simp
    | 3, _, 4, _ => simp [unitS, Lib.hasPrefix, List.isPrefixOf] at h
    | 4, _, 0, _ => simp [unitS, Lib.hasPrefix, List.isPrefixOf] at h
    | 4, _, 1, _ => simp [unitS, Lib.hasPrefix, List.isPrefixOf] at h
    | 4, _, 2, _ => simp
    | 4, _, 3, _ => simp [unitS, Lib.hasPrefix, List.isPrefixOf] at h
    | 4, _, 4, _ => simp
  have hown : Lib.hasPrefix (unitS i ++ P) (unitS i) = true := List.isPrefixOf_iff_prefix.2 (List.prefix_append _ _)
  have key : ∀ f j k, j + f = 5 → unitFrom (unitS i ++ P) f j k = if j ≤ i then (i : Int) else k := by
    intro f
    induction f with
    | zero => intro j k h; rw [if_neg (by omega)]; rfl
    | succ f ih =>
      intro j k h
      simp only [unitFrom]
      rw [ih (j + 1) _ (by omega)]
      by_cases hji : j ≤ i
      · rw [if_pos hji]
        by_cases he : j = i
        · subst he
          rw [if_neg (by omega), if_pos hown]
        · rw [if_pos (by omega)]
      · rw [if_neg hji, if_neg (by omega)]
        rw [if_neg]
        intro hc
        rcases hp j (by omega) hc with h1 | h1 <;> omega
  rw [unitOf, if_neg hs, key (5 - nx) nx (-1) (by omega), if_pos hnx]

theorem step_sum {n : Int} {v i : Nat} (hi : i < 5) (h0 : 0 ≤ n) (hv : (v : Int) * unitMs i ≤ 3000000000) (hn : n ≤ 20000000000) : timeStep n v i = n + v * unitMs i := by
  unfold timeStep
  match i, hi with
  | 0, _ => simp only [unitMs] at *; omega
  | 1, _ => simp only [unitMs] at *; omega
  | 2, _ => simp only [unitMs] at *; omega
  | 3, _ => simp only [unitMs] at *; omega
  | 4, _ => simp only [unitMs] at *; omega
theorem unitMs_pos (i : Nat) (hi : i < 5) : 1 ≤ unitMs i := by
  match i, hi with
  | 0, _ => decide
  | 1, _ => decide
  | 2, _ => decide
  | 3, _ => decide
  | 4, _ => decide

theorem times_parts (vs : Nat → Nat) (wh : Nat → Bool) (hv : ∀ i, i < 5 → (vs i : Int) * unitMs i ≤ 3000000000) (hv2 : ∀ i, vs i < 1099511627776) (l : List UInt8) :
    ∀ (r i g at_ nx : Nat) (n : Int), i + r = 5 → nx ≤ i → r ≤ g → at_ ≤ l.length → l.drop at_ = partsT vs wh r i → 0 ≤ n → n ≤ i * 3000000000 →
      times l g at_ n nx = (l.length, sumT vs wh r i n, nextT wh r i nx) := by
  intro r
  induction r with
  | zero =>
    intro i g at_ nx n hi hnx hg hat hd h0 hn
    have hl : at_ = l.length := by
      have := congrArg List.length hd
      simp [partsT] at this; omega
    cases g with
    | zero => simp [times, sumT, nextT, hl]
    | succ g =>
      simp only [partsT] at hd
      simp only [times, hd, sumT, nextT]
      rw [if_pos (by simp [unitOf, digits, digF]), hl]
  | succ r ih =>
    intro i g at_ nx n hi hnx hg hat hd h0 hn
    simp only [partsT] at hd
    cases hw : wh i with
    | false =>
      rw [hw, if_neg (by simp)] at hd
      rw [ih (i + 1) g at_ nx n (by omega) (by omega) (by omega) hat hd h0 (by omega)]
      simp [sumT, nextT, hw]
    | true =>
      rw [hw, if_pos rfl, List.append_assoc] at hd
      obtain ⟨g, rfl⟩ : ∃ g', g = g' + 1 := ⟨g - 1, by omega⟩
      have hdig : digits (l.drop at_) 10 = ((vs i : Int), (decs (vs i)).length) := by
        rw [hd]; exact digits_decs (hv2 i) (stops_unit i (by omega) _)
      have hlen0 : (decs (vs i)).length ≠ 0 := by have := numF_len 10 20 (vs i); unfold decs; omega
      have hd2 : l.drop (at_ + (decs (vs i)).length) = unitS i ++ partsT vs wh r (i + 1) := by
        rw [← List.drop_drop, hd, List.drop_left]
      have hd3 : l.drop (at_ + (decs (vs i)).length + (unitS i).length) = partsT vs wh r (i + 1) := by
        rw [← List.drop_drop, hd2, List.drop_left]
      have hat3 : at_ + (decs (vs i)).length + (unitS i).length ≤ l.length := by
        have := congrArg List.length hd
        simp only [List.length_drop, List.length_append] at this
        omega
      have hu : unitOf (l.drop (at_ + (decs (vs i)).length)) nx (decs (vs i)).length = i := by
        rw [hd2]; exact unit_found i nx _ (by omega) hnx hlen0 _ (partsT_head vs wh hv2 r (i + 1))
      simp only [times, hdig, hu, Int.toNat_natCast]
      rw [if_neg (by omega), step_sum (by omega) h0 (hv i (by omega)) (by omega)]
      have hvi := hv i (by omega)
      have hp := unitMs_pos i (by omega)
      have hnn : 0 ≤ (vs i : Int) * unitMs i := Int.mul_nonneg (by omega) (by omega)
      rw [ih (i + 1) g _ (i + 1) _ (by omega) (by omega) (by omega) hat3 hd3 (by omega) (by omega)]
      simp [sumT, nextT, hw]
end Go.Proofs.YtdpkjpjkdmkkpaaGreatDoor

/- All tokens of a text that is one token; numbers behind their kinds; times; words; names and blanks: what package lex's plain words make of them. -/
namespace Go.Proofs.YtdpkjpjkdmkkpaaGreatDoor
open Lx

theorem blanks_stop {il : Bool} {l : List UInt8} {f a : Nat} {c : UInt8} {t : List UInt8} (h : l.drop a = c :: t) (hb : blankB il c = false) (hp : Lib.hasPrefix (c :: t) [40, 42] = false) :
    blanks il l (f + 1) a = .ok a := by
  rw [blanks, h]
  simp only [hb, hp]
  rfl
theorem blanks_end {il : Bool} {l : List UInt8} {f a : Nat} (h : l.drop a = []) : blanks il l f a = .ok a := by
  cases f with
  | zero => rfl
  | succ f => rw [blanks, h]
theorem blanks_skip {il : Bool} {l : List UInt8} {f a : Nat} {c : UInt8} {t : List UInt8} (h : l.drop a = c :: t) (hb : blankB il c = true) : blanks il l (f + 1) a = blanks il l f (a + 1) := by
  rw [blanks, h]
  simp only [hb]
  rfl
theorem tokens_end {il : Bool} {l : List UInt8} {f a a' : Nat} {out : List Tok} (hb : blanks il l (l.length + 1) a = .ok a') (h : a' = l.length) : tokens il l (f + 1) a out = .ok (out ++ [⟨0, 0, 0, [], a'⟩]) := by
  rw [tokens, hb]
  simp only [if_pos h]
theorem tokens_step {il : Bool} {l : List UInt8} {f a a' n : Nat} {t : Tok} {out : List Tok} (hb : blanks il l (l.length + 1) a = .ok a') (h : a' ≠ l.length) (ht : lToken (l.drop a') = (t, n, 0)) :
    tokens il l (f + 1) a out = tokens il l f (a' + n) (out ++ [{ t with at_ := a' }]) := by
  rw [tokens, hb]
  simp only [if_neg h, ht]
  rw [if_neg (by simp)]
theorem tokens_bad {il : Bool} {l : List UInt8} {f a a' n : Nat} {t : Tok} {e : Int} {out : List Tok} (hb : blanks il l (l.length + 1) a = .ok a') (h : a' ≠ l.length) (ht : lToken (l.drop a') = (t, n, e)) (he : e ≠ 0) :
    tokens il l (f + 1) a out = .error (a', e) := by
  rw [tokens, hb]
  simp only [if_neg h, ht, if_pos he]

/-- A text that is one token. -/
theorem lTokens_one {il : Bool} {l : List UInt8} {c : UInt8} {t0 : List UInt8} {t : Tok} {n : Nat} (hl : l = c :: t0) (hlen : l.length ≤ 65536) (hb : blankB il c = false) (hp : c.toNat ≠ 40)
    (ht : lToken l = (t, n, 0)) (hn : n = l.length) : lTokens l il = .ok [{ t with at_ := 0 }, ⟨0, 0, 0, [], l.length⟩] := by
  have hp2 : Lib.hasPrefix (c :: t0) [40, 42] = false := by
    unfold Lib.hasPrefix
    have : (40 : UInt8) ≠ c := fun h => hp (by rw [← h]; rfl)
    simp [List.isPrefixOf, this]
  have h0 : l.length ≠ 0 := by rw [hl]; simp
  obtain ⟨m, hm⟩ : ∃ m, l.length = m + 1 := ⟨l.length - 1, by omega⟩
  rw [lTokens, if_neg (by omega), tokens_step (a' := 0) (t := t) (n := n) (blanks_stop (c := c) (t := t0) (by simpa using hl) hb hp2) (by omega) (by simpa using ht), hm, tokens_end (a' := l.length)]
  · simp [hm]
  · rw [show 0 + n = l.length by omega]; exact blanks_end (by simp)
  · rfl
theorem lTokens_bad {il : Bool} {l : List UInt8} {c : UInt8} {t0 : List UInt8} {t : Tok} {n : Nat} {e : Int} (hl : l = c :: t0) (hlen : l.length ≤ 65536) (hb : blankB il c = false) (hp : c.toNat ≠ 40)
    (ht : lToken l = (t, n, e)) (he : e ≠ 0) : lTokens l il = .error (0, e) := by
  have hp2 : Lib.hasPrefix (c :: t0) [40, 42] = false := by
    unfold Lib.hasPrefix
    have : (40 : UInt8) ≠ c := fun h => hp (by rw [← h]; rfl)
    simp [List.isPrefixOf, this]
  have h0 : l.length ≠ 0 := by rw [hl]; simp
  rw [lTokens, if_neg (by omega), tokens_bad (a' := 0) (t := t) (n := n) (blanks_stop (c := c) (t := t0) (by simpa using hl) hb hp2) (by omega) (by simpa using ht) he]

theorem span_app (p : UInt8 → Bool) (x : List UInt8) (d : UInt8) (rest : List UInt8) (hx : ∀ c ∈ x, p c = true) (hd : p d = false) : span p (x ++ d :: rest) = x.length := by
  induction x with
  | nil => simp [span, hd]
  | cons c x ih =>
    simp only [List.cons_append, span, hx c (by simp), if_pos, List.length_cons]
    rw [ih (fun c hc => hx c (by simp [hc]))]

/-- A word, and # behind it. -/
theorem lToken_hash {c : UInt8} {x rest : List UInt8} (hc : lett c = true) (h10 : c.toNat ≠ 10) (hx : ∀ d ∈ c :: x, wordB d = true) (hk : kindOf (mkS (c :: x)) ≠ 0 ∨ ((mkS (c :: x)).toList == [84]) = true) :
    lToken (c :: x ++ 35 :: rest) = if kindOf (mkS (c :: x)) = 11 ∨ kindOf (mkS (c :: x)) = 0 then lSpan2 (c :: x ++ 35 :: rest) ((c :: x).length + 1) else lTyped (c :: x ++ 35 :: rest) ((c :: x).length + 1) (kindOf (mkS (c :: x))) := by
  have hz : span wordB (c :: x ++ 35 :: rest) = (c :: x).length := span_app wordB (c :: x) 35 rest hx (by decide)
  have ht : lToken (c :: x ++ 35 :: rest) = lWordTok (c :: x ++ 35 :: rest) := by
    simp only [List.cons_append, lToken]
    rw [if_neg h10, if_pos hc]
  rw [ht]
  simp only [lWordTok, hz, List.take_left]
  rw [if_pos ⟨by rw [List.getElem?_append_right (by omega)]; simp, hk⟩]

/-- The names of the kinds that numbers have. -/
def kNm : Nat → List UInt8
  | 2 => [83, 73, 78, 84]
  | 3 => [73, 78, 84]
  | 4 => [68, 73, 78, 84]
  | 5 => [85, 83, 73, 78, 84]
  | 6 => [85, 73, 78, 84]
  | 7 => [85, 68, 73, 78, 84]
  | 8 => [66, 89, 84, 69]
  | 9 => [87, 79, 82, 68]
  | 10 => [68, 87, 79, 82, 68]
  | _ => []
def kLo : Nat → Int
  | 2 => -128 | 3 => -32768 | 4 => -2147483648 | _ => 0
def kHi : Nat → Int
  | 2 => 127 | 3 => 32767 | 4 => 2147483647 | 5 => 255 | 6 => 65535 | 7 => 4294967295 | 8 => 255 | 9 => 65535 | _ => 4294967295

theorem kNm_ok : ∀ k, k < 11 → 2 ≤ k → ∃ c x, kNm k = c :: x ∧ lett c = true ∧ c.toNat ≠ 10 ∧ c.toNat ≠ 40 ∧ blankB false c = false ∧ (∀ d ∈ c :: x, wordB d = true) ∧ kindOf (mkS (c :: x)) = k ∧ (c :: x).length ≤ 5 := by
  intro k h1 h2
  match k, h1, h2 with
  | 2, _, _ => exact ⟨_, _, rfl, by decide⟩
  | 3, _, _ => exact ⟨_, _, rfl, by decide⟩
  | 4, _, _ => exact ⟨_, _, rfl, by decide⟩
  | 5, _, _ => exact ⟨_, _, rfl, by decide⟩
  | 6, _, _ => exact ⟨_, _, rfl, by decide⟩
  | 7, _, _ => exact ⟨_, _, rfl, by decide⟩
  | 8, _, _ => exact ⟨_, _, rfl, by decide⟩
  | 9, _, _ => exact ⟨_, _, rfl, by decide⟩
  | 10, _, _ => exact ⟨_, _, rfl, by decide⟩

theorem kWrap_iff {k : Nat} (h1 : k < 11) (h2 : 2 ≤ k) {n : Int} : n = kWrap k n ↔ kLo k ≤ n ∧ n ≤ kHi k := by
  match k, h1, h2 with
  | 2, _, _ => simp only [kWrap, kLo, kHi, IntKind.wrap, IntKind.bits, IntKind.signed]; constructor <;> intro h <;> (simp at *; omega)
  | 3, _, _ => simp only [kWrap, kLo, kHi, IntKind.wrap, IntKind.bits, IntKind.signed]; constructor <;> intro h <;> (simp at *; omega)
  | 4, _, _ => simp only [kWrap, kLo, kHi, IntKind.wrap, IntKind.bits, IntKind.signed]; constructor <;> intro h <;> (simp at *; omega)
  | 5, _, _ => simp only [kWrap, kLo, kHi, IntKind.wrap, IntKind.bits, IntKind.signed]; constructor <;> intro h <;> (simp at *; omega)
  | 6, _, _ => simp only [kWrap, kLo, kHi, IntKind.wrap, IntKind.bits, IntKind.signed]; constructor <;> intro h <;> (simp at *; omega)
  | 7, _, _ => simp only [kWrap, kLo, kHi, IntKind.wrap, IntKind.bits, IntKind.signed]; constructor <;> intro h <;> (simp at *; omega)
  | 8, _, _ => simp only [kWrap, kLo, kHi, IntKind.wrap, IntKind.bits, IntKind.signed]; constructor <;> intro h <;> (simp at *; omega)
  | 9, _, _ => simp only [kWrap, kLo, kHi, IntKind.wrap, IntKind.bits, IntKind.signed]; constructor <;> intro h <;> (simp at *; omega)
  | 10, _, _ => simp only [kWrap, kLo, kHi, IntKind.wrap, IntKind.bits, IntKind.signed]; constructor <;> intro h <;> (simp at *; omega)
theorem kSigned_iff {k : Nat} (h1 : k < 11) (h2 : 2 ≤ k) : kSigned k = true ↔ kLo k ≠ 0 := by
  match k, h1, h2 with
  | 2, _, _ => decide
  | 3, _, _ => decide
  | 4, _, _ => decide
  | 5, _, _ => decide
  | 6, _, _ => decide
  | 7, _, _ => decide
  | 8, _, _ => decide
  | 9, _, _ => decide
  | 10, _, _ => decide

theorem numF_len_le (base f n : Nat) : (numF base f n).length ≤ f + 1 := by
  induction f generalizing n with
  | zero => simp [numF]
  | succ f ih => simp only [numF]; split <;> simp; have := ih (n / base); omega

/-- A number, its sign ahead. -/
def signed (n : Int) : List UInt8 := if n < 0 then 45 :: decs (-n).toNat else decs n.toNat

theorem prefix_dig {l : List UInt8} {c : UInt8} {t : List UInt8} (h : l = c :: t) (hc : dig c = true) : Lib.hasPrefix l [45] = false := by
  subst h
  have : (45 : UInt8) ≠ c := fun h => by rw [← h] at hc; exact absurd hc (by decide)
  simp [Lib.hasPrefix, List.isPrefixOf, this]

theorem lTyped_minus {l rest : List UInt8} {at_ k : Nat} {n : Int} {z : Nat} (hl : l.drop at_ = rest) (hk : k ≠ 1) (hs : kSigned k = true) (hp : Lib.hasPrefix rest [45] = true) (hd : digits (rest.drop 1) 10 = (n, z)) (hz : z ≠ 0) :
    lTyped l at_ k = if -n = kWrap k (-n) then (⟨3, k, -n, [], 0⟩, at_ + 1 + z, 0) else (tok0, 0, 163) := by
  subst hl
  simp only [lTyped, hd, hk, hs, hp, hz, false_and, and_self, if_true, if_false]
theorem lTyped_plain {l rest : List UInt8} {at_ k : Nat} {n e : Int} {z : Nat} (hl : l.drop at_ = rest) (hk : k ≠ 1) (hs : ¬ (kSigned k = true ∧ Lib.hasPrefix rest [45] = true)) (hd : Lx.number rest = (n, z, e)) :
    lTyped l at_ k = if e ≠ 0 then (tok0, 0, e) else if n = kWrap k n then (⟨3, k, n, [], 0⟩, at_ + z, 0) else (tok0, 0, 163) := by
  subst hl
  simp only [lTyped, hd, hk, hs, false_and, if_false]

theorem lTyped_signed {k : Nat} (h1 : k < 11) (h2 : 2 ≤ k) {n : Int} (hn : -8589934592 ≤ n ∧ n ≤ 8589934592) (l : List UInt8) (at_ : Nat) (hl : l.drop at_ = signed n) :
    lTyped l at_ k = if n < 0 ∧ kLo k = 0 then (tok0, 0, 120) else if n < kLo k ∨ kHi k < n then (tok0, 0, 163) else (⟨3, k, n, [], 0⟩, at_ + (signed n).length, 0) := by
  by_cases h0 : n < 0
  · have hu : (-n).toNat < 1099511627776 := by omega
    have he : signed n = 45 :: decs (-n).toNat := by rw [signed, if_pos h0]
    have hd := digits_decs hu (Stops.nil 10)
    rw [List.append_nil] at hd
    have hlen : (decs (-n).toNat).length ≠ 0 := by have := numF_len 10 20 (-n).toNat; unfold decs; omega
    have hp : Lib.hasPrefix (45 :: decs (-n).toNat) [45] = true := by simp [Lib.hasPrefix, List.isPrefixOf]
    rw [he] at hl
    by_cases hlo : kLo k = 0
    · have hs : ¬ kSigned k = true := fun h => (kSigned_iff h1 h2).1 h hlo
      have hnum : (Lx.number (45 :: decs (-n).toNat)) = (0, 0, 120) := by
        simp [Lx.number, digits, digF, valOk, show valD 45 = -1 by decide]
      rw [lTyped_plain hl (by omega) (fun h => hs h.1) hnum, if_pos (by decide), if_pos ⟨h0, hlo⟩]
    · have hs : kSigned k = true := (kSigned_iff h1 h2).2 hlo
      rw [lTyped_minus hl (by omega) hs hp (show digits (List.drop 1 (45 :: decs (-n).toNat)) 10 = _ from hd) hlen, show -(((-n).toNat : Nat) : Int) = n by omega]
      by_cases hr : kLo k ≤ n ∧ n ≤ kHi k
      · rw [if_pos ((kWrap_iff h1 h2).2 hr), if_neg (by omega), if_neg (by omega), he]
        simp [Nat.add_assoc, Nat.add_comm]
      · rw [if_neg (fun h => hr ((kWrap_iff h1 h2).1 h)), if_neg (fun h => hlo h.2), if_pos (by omega)]
  · have hu : n.toNat < 1099511627776 := by omega
    have he : signed n = decs n.toNat := by rw [signed, if_neg h0]
    obtain ⟨c, t, hc, hcd⟩ := decs_cons n.toNat hu
    have hp := prefix_dig hc hcd
    rw [he] at hl
    rw [lTyped_plain hl (by omega) (fun h => by rw [hp] at h; simp at h) (number_decs hu), if_neg (by simp), show ((n.toNat : Nat) : Int) = n by omega]
    by_cases hr : kLo k ≤ n ∧ n ≤ kHi k
    · rw [if_pos ((kWrap_iff h1 h2).2 hr), if_neg (by omega), if_neg (by omega), he]
    · rw [if_neg (fun h => hr ((kWrap_iff h1 h2).1 h)), if_neg (by omega), if_pos (by omega)]

theorem decs_len (n : Nat) : (decs n).length ≤ 21 := numF_len_le 10 20 n
theorem hexs_len (n : Nat) : (hexs n).length ≤ 21 := numF_len_le 16 20 n
theorem signed_len (n : Int) : (signed n).length ≤ 22 := by
  unfold signed; split
  · have := decs_len (-n).toNat; simp; omega
  · have := decs_len n.toNat; omega

/-- A number of a kind, the kind's name and # ahead. -/
theorem num_law {k : Nat} (h1 : k < 11) (h2 : 2 ≤ k) {n : Int} (hn : -8589934592 ≤ n ∧ n ≤ 8589934592) :
    lTokens (kNm k ++ 35 :: signed n) false = if n < 0 ∧ kLo k = 0 then .error (0, 120) else if n < kLo k ∨ kHi k < n then .error (0, 163) else .ok [⟨3, k, n, [], 0⟩, ⟨0, 0, 0, [], (kNm k ++ 35 :: signed n).length⟩] := by
  obtain ⟨c, x, e1, e2, e3, e4, e5, e6, e7, e8⟩ := kNm_ok k h1 h2
  have hsl := signed_len n
  have hlen : (kNm k ++ 35 :: signed n).length ≤ 65536 := by rw [e1]; simp only [List.length_append, List.length_cons] at *; omega
  have hd : (kNm k ++ 35 :: signed n).drop ((c :: x).length + 1) = signed n := by rw [e1, ← List.drop_drop, List.drop_left]; rfl
  have ht : lToken (kNm k ++ 35 :: signed n) = lTyped (kNm k ++ 35 :: signed n) ((c :: x).length + 1) k := by
    rw [e1, lToken_hash e2 e3 e6 (by rw [e7]; left; omega), e7, if_neg (by omega)]
  rw [lTyped_signed h1 h2 hn _ _ hd] at ht
  by_cases ha : n < 0 ∧ kLo k = 0
  · rw [if_pos ha] at ht ⊢
    exact lTokens_bad (c := c) (t0 := x ++ 35 :: signed n) (by rw [e1]; rfl) hlen e5 e4 ht (by decide)
  · rw [if_neg ha] at ht ⊢
    by_cases hb : n < kLo k ∨ kHi k < n
    · rw [if_pos hb] at ht ⊢
      exact lTokens_bad (c := c) (t0 := x ++ 35 :: signed n) (by rw [e1]; rfl) hlen e5 e4 ht (by decide)
    · rw [if_neg hb] at ht ⊢
      exact lTokens_one (c := c) (t0 := x ++ 35 :: signed n) (by rw [e1]; rfl) hlen e5 e4 ht (by rw [e1]; simp only [List.length_append, List.length_cons]; omega)

/-- The same number in base sixteen. -/
theorem hex_law {k : Nat} (h1 : k < 11) (h2 : 2 ≤ k) {n : Nat} (hn : (n : Int) ≤ kHi k) :
    lTokens (kNm k ++ 35 :: ([49, 54, 35] ++ hexs n)) false = .ok [⟨3, k, n, [], 0⟩, ⟨0, 0, 0, [], (kNm k ++ 35 :: ([49, 54, 35] ++ hexs n)).length⟩] := by
  obtain ⟨c, x, e1, e2, e3, e4, e5, e6, e7, e8⟩ := kNm_ok k h1 h2
  have hsl := hexs_len n
  have hhi : kHi k ≤ 4294967295 := by
    match k, h1, h2 with
    | 2, _, _ => decide
    | 3, _, _ => decide
    | 4, _, _ => decide
    | 5, _, _ => decide
    | 6, _, _ => decide
    | 7, _, _ => decide
    | 8, _, _ => decide
    | 9, _, _ => decide
    | 10, _, _ => decide
  have hlo : kLo k ≤ 0 := by
    match k, h1, h2 with
    | 2, _, _ => decide
    | 3, _, _ => decide
    | 4, _, _ => decide
    | 5, _, _ => decide
    | 6, _, _ => decide
    | 7, _, _ => decide
    | 8, _, _ => decide
    | 9, _, _ => decide
    | 10, _, _ => decide
  have hlen : (kNm k ++ 35 :: ([49, 54, 35] ++ hexs n)).length ≤ 65536 := by rw [e1]; simp only [List.length_append, List.length_cons, List.length_nil] at *; omega
  have hd : (kNm k ++ 35 :: ([49, 54, 35] ++ hexs n)).drop ((c :: x).length + 1) = [49, 54, 35] ++ hexs n := by rw [e1, ← List.drop_drop, List.drop_left]; rfl
  have ht : lToken (kNm k ++ 35 :: ([49, 54, 35] ++ hexs n)) = lTyped (kNm k ++ 35 :: ([49, 54, 35] ++ hexs n)) ((c :: x).length + 1) k := by
    rw [e1, lToken_hash e2 e3 e6 (by rw [e7]; left; omega), e7, if_neg (by omega)]
  have hty : lTyped (kNm k ++ 35 :: ([49, 54, 35] ++ hexs n)) ((c :: x).length + 1) k = (⟨3, k, n, [], 0⟩, (c :: x).length + 1 + ((hexs n).length + 3), 0) := by
    rw [lTyped_plain hd (by omega) (fun h => absurd h.2 (by simp [Lib.hasPrefix, List.isPrefixOf])) (number_hexs (by omega)), if_neg (by simp), if_pos ((kWrap_iff h1 h2).2 ⟨by omega, hn⟩)]
  rw [hty] at ht
  refine lTokens_one (c := c) (t0 := x ++ 35 :: ([49, 54, 35] ++ hexs n)) (by rw [e1]; rfl) hlen e5 e4 ht (by rw [e1]; simp only [List.length_append, List.length_cons, List.length_nil]; omega)
end Go.Proofs.YtdpkjpjkdmkkpaaGreatDoor

/- Times written out, blanks and nothing else, a name of one letter many times over, keywords: what package lex's plain words make of them. -/
namespace Go.Proofs.YtdpkjpjkdmkkpaaGreatDoor
open Lx

/-- Are all parts left out? -/
def noneT (wh : Nat → Bool) : Bool := !(wh 0 || wh 1 || wh 2 || wh 3 || wh 4)
theorem nextT_zero (wh : Nat → Bool) : nextT wh 5 0 0 = 0 ↔ noneT wh = true := by
  simp only [nextT, noneT]
  cases wh 0 <;> cases wh 1 <;> cases wh 2 <;> cases wh 3 <;> cases wh 4 <;> simp

theorem sumT_range (vs : Nat → Nat) (wh : Nat → Bool) (hv : ∀ i, i < 5 → (vs i : Int) * unitMs i ≤ 3000000000) : 0 ≤ sumT vs wh 5 0 0 ∧ sumT vs wh 5 0 0 ≤ 15000000000 := by
  have key : ∀ (r i : Nat) (n : Int), i + r = 5 → 0 ≤ n → n ≤ i * 3000000000 → 0 ≤ sumT vs wh r i n ∧ sumT vs wh r i n ≤ 15000000000 := by
    intro r
    induction r with
    | zero => intro i n hi h0 hn; simp only [sumT]; omega
    | succ r ih =>
      intro i n hi h0 hn
      simp only [sumT]
      have hvi := hv i (by omega)
      have hp := unitMs_pos i (by omega)
      have hnn : 0 ≤ (vs i : Int) * unitMs i := Int.mul_nonneg (by omega) (by omega)
      refine ih (i + 1) _ (by omega) ?_ ?_
      · split <;> omega
      · split <;> omega
  exact key 5 0 0 rfl (by omega) (by omega)

theorem i32_iff {n : Int} : n = kWrap 11 n ↔ -2147483648 ≤ n ∧ n ≤ 2147483647 := by
  simp only [kWrap, IntKind.wrap, IntKind.bits, IntKind.signed]; constructor <;> intro h <;> (simp at *; omega)

/-- A time's sign. -/
def signT (minus : Bool) : List UInt8 := if minus = true then [45] else []
def nameT (long : Bool) : List UInt8 := if long = true then [84, 73, 77, 69] else [84]
def textT (vs : Nat → Nat) (wh : Nat → Bool) (minus long : Bool) : List UInt8 := nameT long ++ 35 :: (signT minus ++ partsT vs wh 5 0)

theorem numF_le20 (n : Nat) : (decs n).length ≤ 21 := decs_len n
theorem partsT_len (vs : Nat → Nat) (wh : Nat → Bool) (f i : Nat) : (partsT vs wh f i).length ≤ f * 23 := by
  induction f generalizing i with
  | zero => simp [partsT]
  | succ f ih =>
    simp only [partsT]
    have h1 := ih (i + 1)
    have h2 := decs_len (vs i)
    have h3 : (unitS i).length ≤ 2 := by
      unfold unitS; split <;> simp
    split
    · simp only [List.length_append]; omega
    · omega

theorem time_law (vs : Nat → Nat) (wh : Nat → Bool) (minus long : Bool) (hv : ∀ i, i < 5 → (vs i : Int) * unitMs i ≤ 3000000000) (hv2 : ∀ i, vs i < 1099511627776) {n : Int} (hn : n = if minus = true then -(sumT vs wh 5 0 0) else sumT vs wh 5 0 0) :
    lTokens (textT vs wh minus long) false = if noneT wh = true then .error (0, 120) else if n < -2147483648 ∨ 2147483647 < n then .error (0, 163) else .ok [⟨4, 11, n, [], 0⟩, ⟨0, 0, 0, [], (textT vs wh minus long).length⟩] := by
  obtain ⟨c, x, e1, e2, e3, e4, e5, e6, e7, e8⟩ : ∃ c x, nameT long = c :: x ∧ lett c = true ∧ c.toNat ≠ 10 ∧ c.toNat ≠ 40 ∧ blankB false c = false ∧ (∀ d ∈ c :: x, wordB d = true) ∧ ((kindOf (mkS (c :: x)) = 11 ∧ x.length ≤ 5) ∨ (kindOf (mkS (c :: x)) = 0 ∧ x.length ≤ 5)) ∧ (kindOf (mkS (c :: x)) ≠ 0 ∨ ((mkS (c :: x)).toList == [84]) = true) := by
    cases long
    · refine ⟨84, [], rfl, by decide, by decide, by decide, by decide, by decide, by decide, .inr ?_⟩
      have : (mkS [84]).toList = [84] := by simp [mkS, ByteArray.toList, ByteArray.toList.loop, ByteArray.size, ByteArray.get!]
      rw [this]; rfl
    · exact ⟨84, [73, 77, 69], rfl, by decide, by decide, by decide, by decide, by decide, by decide, .inl (by decide)⟩
  have hpl := partsT_len vs wh 5 0
  have hxl : x.length ≤ 5 := by rcases e7 with h | h <;> exact h.2
  have hsl : (signT minus).length ≤ 1 := by unfold signT; split <;> simp
  have hlen : (textT vs wh minus long).length ≤ 65536 := by
    unfold textT; rw [e1]; simp only [List.length_append, List.length_cons]; omega
  have hd : (textT vs wh minus long).drop ((c :: x).length + 1) = signT minus ++ partsT vs wh 5 0 := by
    unfold textT; rw [e1, ← List.drop_drop, List.drop_left]; rfl
  have ht : lToken (textT vs wh minus long) = lSpan2 (textT vs wh minus long) ((c :: x).length + 1) := by
    unfold textT
    rw [e1, lToken_hash e2 e3 e6 e8, if_pos (by rcases e7 with h | h <;> omega)]
  obtain ⟨T, hT⟩ : ∃ T, textT vs wh minus long = T := ⟨_, rfl⟩
  have hc : T = c :: (x ++ 35 :: (signT minus ++ partsT vs wh 5 0)) := by rw [← hT]; unfold textT; rw [e1]; rfl
  rw [hT] at hlen hd ht ⊢
  have hle : (c :: x).length + 1 + (signT minus).length ≤ T.length := by
    rw [hc]; simp only [List.length_append, List.length_cons]; omega
  have htimes : ∀ at_, T.drop at_ = partsT vs wh 5 0 → at_ ≤ T.length → times T 5 at_ 0 0 = (T.length, sumT vs wh 5 0 0, nextT wh 5 0 0) := fun at_ h1 h2 =>
    times_parts vs wh hv hv2 T 5 0 5 at_ 0 0 rfl (by omega) (by omega) h2 h1 (by omega) (by omega)
  have hsp : lSpan2 T ((c :: x).length + 1) = lTime (if minus = true then -1 else 1) (T.length, sumT vs wh 5 0 0, nextT wh 5 0 0) := by
    unfold lSpan2
    rw [hd]
    cases minus with
    | true =>
      rw [if_pos (by simp [signT, Lib.hasPrefix, List.isPrefixOf]), htimes]
      · rfl
      · rw [← List.drop_drop, hd]; rfl
      · simpa [signT] using hle
    | false =>
      have hnp : Lib.hasPrefix (signT false ++ partsT vs wh 5 0) [45] = false := by
        rcases partsT_head vs wh hv2 5 0 with h | ⟨c', t', h, hc'⟩
        · rw [h]; rfl
        · exact prefix_dig (c := c') (t := t') (by rw [h]; rfl) hc'
      rw [if_neg (by rw [hnp]; simp), htimes]
      · rfl
      · exact hd
      · simpa [signT] using hle
  rw [hsp] at ht
  have hmul : sumT vs wh 5 0 0 * (if minus = true then -1 else 1) = n := by
    rw [hn]; cases minus <;> simp
  unfold lTime at ht
  simp only [hmul] at ht
  by_cases h0 : noneT wh = true
  · rw [if_pos ((nextT_zero wh).2 h0)] at ht
    rw [if_pos h0]
    exact lTokens_bad hc hlen e5 e4 ht (by decide)
  · rw [if_neg (fun h => h0 ((nextT_zero wh).1 h))] at ht
    rw [if_neg h0]
    by_cases hr : -2147483648 ≤ n ∧ n ≤ 2147483647
    · rw [if_pos (i32_iff.2 hr)] at ht
      rw [if_neg (by omega)]
      exact lTokens_one hc hlen e5 e4 ht rfl
    · rw [if_neg (fun h => hr (i32_iff.1 h))] at ht
      rw [if_pos (by omega)]
      exact lTokens_bad hc hlen e5 e4 ht (by decide)

theorem blanks_all (il : Bool) (m : Nat) : ∀ (f a : Nat), a ≤ m → m - a < f → blanks il (List.replicate m 32) f a = .ok m := by
  intro f
  induction f with
  | zero => intro a _ h; omega
  | succ f ih =>
    intro a ha hf
    by_cases h : a = m
    · subst h; exact blanks_end (by simp)
    · have hd : (List.replicate m (32 : UInt8)).drop a = 32 :: List.replicate (m - a - 1) 32 := by
        rw [List.drop_replicate, show m - a = (m - a - 1) + 1 by omega, List.replicate_succ]; rfl
      rw [blanks_skip hd (by cases il <;> decide), ih (a + 1) (by omega) (by omega)]
/-- Blanks and nothing else. -/
theorem blank_law (il : Bool) (m : Nat) : lTokens (List.replicate m 32) il = if 65536 < m then .error (65536, 121) else .ok [⟨0, 0, 0, [], m⟩] := by
  rw [lTokens, List.length_replicate]
  split
  · rfl
  · rw [tokens_end (a' := m) (by rw [List.length_replicate]; exact blanks_all il m _ _ (by omega) (by omega)) (by simp)]
    rfl

def codeT (r : Except (Nat × Int) (List Tok)) : Int × Int := match r with
  | .ok _ => (0, 0)
  | .error (a, e) => (a, e)
set_option maxRecDepth 100000 in
theorem name_law : ∀ k, k < 60 → codeT (lTokens (59 :: 32 :: List.replicate (k + 1) 110) false) = if 31 < k then (2, 121) else (0, 0) := by
  decide +kernel

/-! ### Words -/
theorem wordRest_word {x : ByteArray} {z : Nat} {t : Tok} {n : Nat} {e : Int} (h : wordRest x z = (t, n, e)) : (t.tok = 1 → lWord (mkS t.text) = true) ∧ (t.tok = 2 → lWord (mkS t.text) = false) := by
  have hx : mkS x.data.toList = x := by simp [mkS]
  unfold wordRest at h
  split at h
  · injection h with h1 h2; subst h1; simp
  · split at h
    · injection h with h1 h2; subst h1; simp
    · split at h
      · rename_i hw; injection h with h1 h2; subst h1; simp [hx, hw]
      · rename_i hw
        split at h
        · injection h with h1 h2; subst h1; simp [tok0]
        · injection h with h1 h2; subst h1; simp [hx]; simpa using hw
theorem lTyped_word {l : List UInt8} {a k : Nat} {t : Tok} {n : Nat} {e : Int} (h : lTyped l a k = (t, n, e)) : t.tok ≠ 1 ∧ t.tok ≠ 2 := by
  unfold lTyped at h
  simp only at h
  repeat' split at h
  all_goals (injection h with h1 h2; subst h1; simp [tok0])
theorem lSpan2_word {l : List UInt8} {a : Nat} {t : Tok} {n : Nat} {e : Int} (h : lSpan2 l a = (t, n, e)) : t.tok ≠ 1 ∧ t.tok ≠ 2 := by
  unfold lSpan2 lTime at h
  repeat' split at h
  all_goals (injection h with h1 h2; subst h1; simp [tok0])
theorem lWordTok_word {l : List UInt8} {t : Tok} {n : Nat} {e : Int} (h : lWordTok l = (t, n, e)) : (t.tok = 1 → lWord (mkS t.text) = true) ∧ (t.tok = 2 → lWord (mkS t.text) = false) := by
  unfold lWordTok at h
  simp only at h
  split at h
  · split at h
    · have := lSpan2_word h; exact ⟨fun k => absurd k this.1, fun k => absurd k this.2⟩
    · have := lTyped_word h; exact ⟨fun k => absurd k this.1, fun k => absurd k this.2⟩
  · exact wordRest_word h
theorem signF_word {l : List UInt8} (gs : List (List UInt8)) {t : Tok} {n : Nat} {e : Int} (h : signF l gs = (t, n, e)) : t.tok ≠ 1 ∧ t.tok ≠ 2 := by
  induction gs with
  | nil => simp only [signF] at h; injection h with h1 h2; subst h1; simp [tok0]
  | cons g gs ih =>
    simp only [signF] at h
    split at h
    · injection h with h1 h2; subst h1; simp
    · exact ih h
theorem lToken_word {l : List UInt8} {t : Tok} {n : Nat} {e : Int} (h : lToken l = (t, n, e)) : (t.tok = 1 → lWord (mkS t.text) = true) ∧ (t.tok = 2 → lWord (mkS t.text) = false) := by
  have far : t.tok ≠ 1 ∧ t.tok ≠ 2 → (t.tok = 1 → lWord (mkS t.text) = true) ∧ (t.tok = 2 → lWord (mkS t.text) = false) := fun k => ⟨fun h => absurd h k.1, fun h => absurd h k.2⟩
  cases l with
  | nil => simp only [lToken] at h; injection h with h1 h2; subst h1; simp [tok0]
  | cons c l =>
    simp only [lToken] at h
    split at h
    · injection h with h1 h2; subst h1; simp
    · split at h
      · exact lWordTok_word h
      · split at h
        · refine far ?_
          unfold lNumTok at h; injection h with h1 h2; subst h1; simp
        · split at h
          · refine far ?_
            unfold lAddrTok at h
            split at h
            · injection h with h1 h2; subst h1; simp [tok0]
            · injection h with h1 h2; subst h1; simp
          · exact far (signF_word _ h)
/-- A token of a text is called a keyword just where its text is one. -/
theorem tokens_word (il : Bool) (l : List UInt8) : ∀ (f a : Nat) (out ts : List Tok), (∀ t ∈ out, (t.tok = 1 → lWord (mkS t.text) = true) ∧ (t.tok = 2 → lWord (mkS t.text) = false)) → tokens il l f a out = .ok ts →
    ∀ t ∈ ts, (t.tok = 1 → lWord (mkS t.text) = true) ∧ (t.tok = 2 → lWord (mkS t.text) = false) := by
  intro f
  induction f with
  | zero => intro a out ts _ h; cases h
  | succ f ih =>
    intro a out ts ho h
    rw [tokens] at h
    split at h
    · cases h
    · rename_i a' hb
      split at h
      · injection h with h; subst h
        intro t ht
        rcases List.mem_append.1 ht with h1 | h1
        · exact ho t h1
        · simp only [List.mem_singleton] at h1; subst h1; simp
      · simp only at h
        split at h
        · cases h
        · refine ih _ _ _ ?_ h
          intro t ht
          rcases List.mem_append.1 ht with h1 | h1
          · exact ho t h1
          · simp only [List.mem_singleton] at h1; subst h1
            exact lToken_word (t := (lToken (l.drop a')).1) (n := (lToken (l.drop a')).2.1) (e := (lToken (l.drop a')).2.2) rfl
theorem lTokens_word {il : Bool} {l : List UInt8} {ts : List Tok} (h : lTokens l il = .ok ts) : ∀ t ∈ ts, (t.tok = 1 → lWord (mkS t.text) = true) ∧ (t.tok = 2 → lWord (mkS t.text) = false) := by
  unfold lTokens at h
  split at h
  · cases h
  · exact tokens_word il l _ _ _ _ (fun t ht => by cases ht) h
end Go.Proofs.YtdpkjpjkdmkkpaaGreatDoor

/- A token has at least one byte, and no more than there are. -/
namespace Go.Proofs.YtdpkjpjkdmkkpaaGreatDoor
open Lx

theorem times_ends (l : List UInt8) : ∀ (f at_ : Nat) (n : Int) (next : Nat), at_ ≤ l.length → next ≤ 5 → at_ ≤ (times l f at_ n next).1 ∧ (times l f at_ n next).1 ≤ l.length := by
  intro f
  induction f with
  | zero => intro at_ n next h _; exact ⟨Nat.le_refl _, h⟩
  | succ f ih =>
    intro at_ n next h hn
    simp only [times]
    split
    · exact ⟨Nat.le_refl _, h⟩
    · rename_i hk
      obtain ⟨j, hj, h1, h2, h3⟩ := unitOf_is (rest := l.drop (at_ + (digits (l.drop at_) 10).2)) rfl hn hk
      rw [hj, Int.toNat_natCast]
      have hd := digits_size (l.drop at_) 10
      rw [List.length_drop] at hd h3
      have := ih (at_ + (digits (l.drop at_) 10).2 + (unitS j).length) (timeStep n (digits (l.drop at_) 10).1 j) (j + 1) (by omega) (by omega)
      omega
theorem number_size {l : List UInt8} {n e : Int} {z : Nat} (h : Lx.number l = (n, z, e)) (he : e = 0) : 1 ≤ z ∧ z ≤ l.length := by
  subst he
  unfold Lx.number at h
  simp only at h
  split at h
  · cases h
  · rename_i h0
    have hd := digits_size l 10
    split at h
    · rename_i h1
      have hlt : (digits l 10).2 < l.length := by
        rcases Nat.lt_or_ge (digits l 10).2 l.length with h2 | h2
        · exact h2
        · rw [List.getElem?_eq_none h2] at h1; exact absurd h1.1 (by simp)
      have hm := digits_size (l.drop ((digits l 10).2 + 1)) (digits l 10).1
      rw [List.length_drop] at hm
      split at h
      · cases h
      · injection h with _ h2; injection h2 with h2 _; omega
    · injection h with _ h2; injection h2 with h2 _; omega
theorem span_pos {p : UInt8 → Bool} {c : UInt8} {l : List UInt8} (h : p c = true) : 1 ≤ span p (c :: l) := by
  simp [span, h]
theorem lTyped_size {l : List UInt8} {a k z : Nat} {t : Tok} {e : Int} (h : lTyped l a k = (t, z, e)) (he : e = 0) (ha : a ≤ l.length) (ha1 : 1 ≤ a) : 1 ≤ z ∧ z ≤ l.length := by
  subst he
  unfold lTyped at h
  simp only at h
  split at h
  · injection h with _ h2; injection h2 with h2 _
    have : (List.take (span wordB (List.drop a l)) (List.drop a l)).length ≤ (l.drop a).length := by rw [List.length_take]; omega
    rw [List.length_drop] at this
    omega
  · split at h
    · rename_i hp
      have hp2 := prefix_len hp.2
      rw [List.length_drop] at hp2
      simp only [List.length_cons, List.length_nil] at hp2
      have hd := digits_size (List.drop 1 (List.drop a l)) 10
      rw [List.length_drop, List.length_drop] at hd
      split at h
      · injection h with _ h2; injection h2 with _ h2; cases h2
      · split at h
        · injection h with _ h2; injection h2 with h2 _; omega
        · injection h with _ h2; injection h2 with _ h2; cases h2
    · split at h
      · rename_i h3
        injection h with _ h2; injection h2 with _ h2; exact absurd h2 h3
      · rename_i h3
        have h3 : (Lx.number (l.drop a)).2.2 = 0 := by simpa using h3
        have hz := number_size (l := l.drop a) (n := (Lx.number (l.drop a)).1) (z := (Lx.number (l.drop a)).2.1) (e := (Lx.number (l.drop a)).2.2) rfl h3
        rw [List.length_drop] at hz
        split at h
        · injection h with _ h2; injection h2 with h2 _; omega
        · injection h with _ h2; injection h2 with _ h2; cases h2
theorem lTime_size {s : Int} {q : Nat × Int × Nat} {t : Tok} {z : Nat} {e : Int} (h : lTime s q = (t, z, e)) (he : e = 0) : z = q.1 := by
  subst he
  unfold lTime at h
  split at h
  · injection h with _ h2; injection h2 with _ h2; cases h2
  · split at h
    · injection h with _ h2; injection h2 with h2 _; exact h2.symm
    · injection h with _ h2; injection h2 with _ h2; cases h2
theorem lSpan2_size {l : List UInt8} {a z : Nat} {t : Tok} {e : Int} (h : lSpan2 l a = (t, z, e)) (he : e = 0) (ha : a ≤ l.length) (ha1 : 1 ≤ a) : 1 ≤ z ∧ z ≤ l.length := by
  unfold lSpan2 at h
  split at h
  · rename_i hp
    have hp2 := prefix_len hp
    rw [List.length_drop] at hp2
    simp only [List.length_cons, List.length_nil] at hp2
    have h1 := lTime_size h he
    have h2 := times_ends l 5 (a + 1) 0 0 (by omega) (by omega)
    omega
  · have h1 := lTime_size h he
    have h2 := times_ends l 5 a 0 0 ha (by omega)
    omega
theorem lWordTok_size {c : UInt8} {l : List UInt8} {t : Tok} {z : Nat} {e : Int} (hc : wordB c = true) (h : lWordTok (c :: l) = (t, z, e)) (he : e = 0) : 1 ≤ z ∧ z ≤ (c :: l).length := by
  have h1 := span_pos (l := l) hc
  have h2 := span_le wordB (c :: l)
  unfold lWordTok at h
  simp only at h
  split at h
  · rename_i hh
    have hlt : span wordB (c :: l) < (c :: l).length := by
      rcases Nat.lt_or_ge (span wordB (c :: l)) (c :: l).length with h3 | h3
      · exact h3
      · rw [List.getElem?_eq_none h3] at hh; exact absurd hh.1 (by simp)
    split at h
    · exact lSpan2_size h he (by omega) (by omega)
    · exact lTyped_size h he (by omega) (by omega)
  · subst he
    unfold wordRest at h
    repeat' split at h
    all_goals (injection h with _ h2; injection h2 with h2 h3)
    all_goals first | omega | cases h3
theorem signF_size {l : List UInt8} (gs : List (List UInt8)) (hg : ∀ g ∈ gs, 1 ≤ g.length) {t : Tok} {z : Nat} {e : Int} (h : signF l gs = (t, z, e)) (he : e = 0) : 1 ≤ z ∧ z ≤ l.length := by
  induction gs with
  | nil => subst he; simp only [signF] at h; injection h with _ h2; injection h2 with _ h2; cases h2
  | cons g gs ih =>
    simp only [signF] at h
    split at h
    · rename_i hp
      injection h with _ h2; injection h2 with h2 _
      have := hg g (by simp)
      have := prefix_len hp
      omega
    · exact ih (fun g hg' => hg g (by simp [hg'])) h
theorem lToken_size {l : List UInt8} {t : Tok} {z : Nat} {e : Int} (hl : l ≠ []) (h : lToken l = (t, z, e)) (he : e = 0) : 1 ≤ z ∧ z ≤ l.length := by
  cases l with
  | nil => exact absurd rfl hl
  | cons c l =>
    simp only [lToken] at h
    split at h
    · injection h with _ h2; injection h2 with h2 _; simp; omega
    · split at h
      · rename_i hc
        exact lWordTok_size (by simp [wordB, hc]) h he
      · split at h
        · unfold lNumTok at h
          injection h with _ h2; injection h2 with h2 h3
          subst he
          split at h3
          · cases h3
          · have := number_size (l := c :: l) (n := (Lx.number (c :: l)).1) (z := (Lx.number (c :: l)).2.1) (e := (Lx.number (c :: l)).2.2) rfl h3
            omega
        · split at h
          · have hs := span_le addrB l
            unfold lAddrTok at h
            split at h
            · rename_i h3; injection h with _ h2; injection h2 with _ h2; exact absurd (h2.trans he) h3
            · injection h with _ h2; injection h2 with h2 _; simp; omega
          · exact signF_size SG (by decide) h he
end Go.Proofs.YtdpkjpjkdmkkpaaGreatDoor

/- The walk through package lex's Tokens: its words. -/
namespace Go.Proofs.YtdpkjpjkdmkkpaaGreatDoor
open Go.RowKit Lx Ad

/-- The cells of tokens. -/
def tokC (t : Tok) : List Value := [.int .i64 t.tok, .int .i64 t.kind, .int .i64 t.n, .string ⟨t.text.toArray⟩, .int .i64 t.at_]
def toksC (ts : List Tok) : List Value := ts.flatMap tokC
theorem toksC_add (ts : List Tok) (t : Tok) : toksC (ts ++ [t]) = toksC ts ++ tokC t := by simp [toksC]
theorem toksC_len (ts : List Tok) : (toksC ts).length = ts.length * 5 := by
  induction ts with
  | nil => rfl
  | cons t ts ih => simp only [toksC, List.flatMap_cons, List.length_append, List.length_cons] at *; rw [ih]; simp [tokC]; omega

theorem tokInfo : (Tryz.prog.info? 107).map (fun i => (i.zero, i.size, i.bytes)) = some (some (.agg #[.int .i64 0, .int .i64 0, .int .i64 0, .string ⟨#[]⟩, .int .i64 0]), 5, 48) := by kernel_rfl

/-- What Tokens answers. -/
def TokensPost (w : World) (r : Except (Nat × Int) (List Tok)) (e : Ending) (w' : World) : Prop := match r with
  | .ok ts => ∃ v, e = .returned (.tuple #[v, .nilIface]) ∧ w'.ownsRow w.heap.size 107 5 v ts.length (toksC ts) ∧ Below w.heap.size w w'
  | .error q => ∃ p, e = .returned (.tuple #[.slice none 0 0, .iface 70 (.pointer (some ⟨p, 0, none⟩))]) ∧ w.heap.size ≤ p ∧ w'.heap[p]? = some (.cells #[.int .i64 q.1, .int .i64 q.2] 75) ∧ Below w.heap.size w w'

theorem Only.grown {b : Nat} {w w' : World} (h : Only b w w') : w.grownBy w' (some b) := ⟨h.os, h.tape, h.output, h.size, fun k hk hb => h.block k hk (fun e => hb (by rw [e]))⟩
theorem lToken_big {l : List UInt8} (h : 65536 < l.length) (il : Bool) : lTokens l il = .error (65536, 121) := by rw [lTokens, if_pos h]

theorem lToken_at_end {il : Bool} {s : ByteArray} {f a : Nat} {out : List Tok} {r : Except (Nat × Int) (List Tok)} (h : tokens il s.data.toList (f + 1) a out = r) :
    (∃ a', blanks il s.data.toList (s.size + 1) a = .error a' ∧ r = .error (a', 120)) ∨
    (blanks il s.data.toList (s.size + 1) a = .ok s.size ∧ r = .ok (out ++ [⟨0, 0, 0, [], s.size⟩])) ∨
    (∃ a' t n e, blanks il s.data.toList (s.size + 1) a = .ok a' ∧ a' ≠ s.size ∧ lToken (s.data.toList.drop a') = (t, n, e) ∧ e ≠ 0 ∧ r = .error (a', e)) ∨
    (∃ a' t n, blanks il s.data.toList (s.size + 1) a = .ok a' ∧ a' ≠ s.size ∧ lToken (s.data.toList.drop a') = (t, n, 0) ∧ tokens il s.data.toList f (a' + n) (out ++ [{ t with at_ := a' }]) = r) := by
  have hl : s.data.toList.length = s.size := rfl
  rw [tokens, hl] at h
  cases hb : blanks il s.data.toList (s.size + 1) a with
  | error a' => rw [hb] at h; exact .inl ⟨a', rfl, h.symm⟩
  | ok a' =>
    rw [hb] at h
    right
    by_cases h1 : a' = s.size
    · left
      simp only [if_pos h1] at h
      subst h1
      exact ⟨rfl, h.symm⟩
    · right
      simp only [if_neg h1] at h
      by_cases h2 : (lToken (s.data.toList.drop a')).2.2 = 0
      · right
        rw [if_neg (by simpa using h2)] at h
        exact ⟨a', (lToken (s.data.toList.drop a')).1, (lToken (s.data.toList.drop a')).2.1, rfl, h1, by rw [← h2], h⟩
      · left
        rw [if_pos h2] at h
        exact ⟨a', (lToken (s.data.toList.drop a')).1, (lToken (s.data.toList.drop a')).2.1, _, rfl, h1, rfl, h2, h.symm⟩

theorem lTokens_big {s : ByteArray} {il : Bool} {r : Except (Nat × Int) (List Tok)} (hr : lTokens s.data.toList il = r) (h : 65536 < s.size) : r = .error (65536, 121) := by
  rw [← hr, lTokens, if_pos (show 65536 < s.data.toList.length from h)]
theorem lTokens_go {s : ByteArray} {il : Bool} {r : Except (Nat × Int) (List Tok)} (hr : lTokens s.data.toList il = r) (h : ¬ 65536 < s.size) : tokens il s.data.toList (s.size + 1) 0 [] = r := by
  rw [← hr, lTokens, if_neg (show ¬ 65536 < s.data.toList.length from h)]
  rfl

theorem own_drewN {w : World} {B sz n : Nat} {T : TypeId} {v : Value} {xs : List Value} (h : w.ownsRow B T sz v n xs) (k : Nat) : (w.drewN k).ownsRow B T sz v n xs := h
theorem tokC_one (t : Tok) : ∀ u ∈ tokC t, u.oneCell' = true := by
  intro u hu
  simp only [tokC, List.mem_cons, List.mem_nil_iff, or_false] at hu
  rcases hu with rfl | rfl | rfl | rfl | rfl <;> rfl

theorem blanks_le {il : Bool} {l : List UInt8} : ∀ {f a a' : Nat}, blanks il l f a = .ok a' → a ≤ l.length → a ≤ a' ∧ a' ≤ l.length := by
  intro f
  induction f with
  | zero => intro a a' h ha; injection h with h; omega
  | succ f ih =>
    intro a a' h ha
    rw [blanks] at h
    split at h
    · injection h with h; omega
    · rename_i c t hd
      have hlt : a < l.length := by
        rcases Nat.lt_or_ge a l.length with h1 | h1
        · exact h1
        · rw [List.drop_of_length_le h1] at hd; cases hd
      have hlen : (c :: t).length = l.length - a := by rw [← hd, List.length_drop]
      split at h
      · have := ih h (by omega); omega
      · split at h
        · rename_i hp
          have hp2 := prefix_len hp
          simp only [List.length_cons, List.length_nil] at hp2 hlen
          split at h
          · cases h
          · rename_i hi
            have hr := Lib.index_room (List.drop 2 (c :: t)) [42, 41] (by omega)
            rw [List.length_drop] at hr
            simp only [List.length_cons, List.length_nil] at hr
            have := ih h (by omega); omega
        · injection h with h; omega
theorem below_app (w : World) (k : Nat) (o : Obj) : Below w.heap.size w ((w.drewN k).drew.alloc o) := ((Below.drewN (Below.refl _ _) k).drew).alloc (Nat.le_refl _) o
theorem heap_alloc_two (w : World) (o1 o2 : Obj) : ((w.alloc o1).alloc o2).drew.heap[w.heap.size + 1]? = some o2 := by
  have h := heap_alloc_new (w.alloc o1) o2
  rw [show (w.alloc o1).heap.size = w.heap.size + 1 by simp] at h
  exact h
theorem below_two (w : World) (o1 o2 : Obj) : Below w.heap.size w ((w.alloc o1).alloc o2).drew := (((Below.refl _ _).alloc (Nat.le_refl _) o1).alloc (by simp) o2).drew
theorem own_below {w w' : World} {B C sz n : Nat} {T : TypeId} {v : Value} {xs : List Value} (h : w.ownsRow B T sz v n xs) (hb : Below C w w') (hC : w.heap.size ≤ C) : w'.ownsRow B T sz v n xs := by
  refine h.kept (row := none) ⟨hb.os, hb.tape, hb.output, hb.size, fun k hk _ => hb.block k (by omega)⟩ ?_
  cases hv : v.ownBlock with
  | none => exact .inl rfl
  | some k => exact .inr (by simp)
end Go.Proofs.YtdpkjpjkdmkkpaaGreatDoor

/- errors.As at an error of package api: its contracts. -/
namespace Go.Proofs.YtdpkjpjkdmkkpaaGreatDoor
open Go.RowKit Go.Extern.Stop Go.Stop Go.Extern

/-- errors.As(nil, target). -/
theorem as_nil (t : Value) (w : World) :
    Calls Tryz.prog 33 #[.nilIface, t] w fun e w' => e = .returned (.bool false) ∧ w' = w := by
  go_enter Tryz.func33, Tryz.ntmps33
  go_wp2
  go_ret
  exact ⟨rfl, rfl⟩

/-! ### CLOSED FACTS ON THE MODEL's ENTRIES FOR internal/reflectlite, at this program's types: 25: *p.E · 27: **p.E · 23: error · 45: reflectlite's rtype · 1: how many package-level variables the dump has -/
theorem Rl.valueOf27 (t : Addr) (w : World) : (ReflectliteValue.unpack (.iface 72 (.pointer (some t)))).run Tryz.prog w
    = .ok (.agg #[.pointer (some ⟨10, 72, none⟩), .pointer (some ⟨w.heap.size, 0, none⟩), .int .u64 150]) (w.alloc (.cells #[.pointer (some t)] 72)) := by kernel_rfl
theorem Rl.type27 (a : Addr) (w : World) : (ReflectliteValue.methodAny (ReflectliteValue.valueError "reflectlite.Value.Type" 0) (fun t _ _ _ => ReflectliteType.toType t) #[.agg #[.pointer (some ⟨10, 72, none⟩), .pointer (some a), .int .u64 150]]).run Tryz.prog w
    = .ok (.iface 158 (.agg #[.pointer (some ⟨10, 72, none⟩)])) w := by kernel_rfl
theorem Rl.methodKind (h : Value) (w : World) : (Go.method 391 158 (.agg #[h]) "Kind").run Tryz.prog w = .ok (182, h) w := by kernel_rfl
theorem Rl.kind27 (w : World) : ((ReflectliteType.abiMethod fun t => (fun a : Nat => Value.int IntKind.u8 (a : Int)) <$> Rtype.kind t) #[.pointer (some ⟨10, 72, none⟩)]).run Tryz.prog w = .ok (.int .u8 22) w := by kernel_rfl
theorem Rl.kind25 (w : World) : ((ReflectliteType.abiMethod fun t => (fun a : Nat => Value.int IntKind.u8 (a : Int)) <$> Rtype.kind t) #[.pointer (some ⟨10, 70, none⟩)]).run Tryz.prog w = .ok (.int .u8 22) w := by kernel_rfl

/-! ### THE ENTRIES THAT READ OR WRITE MEMORY: laws with a premise on the cell (after Derived/Lib/ReflectliteSlice.lean's manner: each unfolding a lemma of its own, by rfl) -/
theorem rlm (z : Sem Value) (f : TypeId → Addr → Nat → Nat → Sem Value) (v : Value) :
    ReflectliteValue.method z f #[v] = (do match ← ReflectliteValue.parts v with | none => z | some (t, a, fl) => f t a fl (fl % 32)) := rfl
theorem Rl.parts27 (a : Addr) (w : World) : (ReflectliteValue.parts (.agg #[.pointer (some ⟨10, 72, none⟩), .pointer (some a), .int .u64 150])).run Tryz.prog w = .ok (some (72, a, 150)) w := by kernel_rfl
/-- (Value).IsNil at the Value of a **p.E that is not nil. -/
theorem Rl.isNil27 (a p : Addr) (W : World) (ha : W.cell? a = some (.pointer (some p))) :
    (ReflectliteValue.method (ReflectliteValue.valueError "reflectlite.Value.IsNil" 0) ReflectliteValue.isNil #[.agg #[.pointer (some ⟨10, 72, none⟩), .pointer (some a), .int .u64 150]]).run Tryz.prog W = .ok (.bool false) W := by
  rw [rlm]
  simp only [Sem.run_bind, Rl.parts27, Result.andThen]
  simp [ReflectliteValue.isNil, loadVar, isAgg, underlying, Tryz.underlying72, ha, Result.andThen]

theorem Rl.methodElem (h : Value) (w : World) : (Go.method 391 158 (.agg #[h]) "Elem").run Tryz.prog w = .ok (194, .agg #[h]) w := by kernel_rfl
theorem Rl.methodImplements (h : Value) (w : World) : (Go.method 391 158 (.agg #[h]) "Implements").run Tryz.prog w = .ok (195, .agg #[h]) w := by kernel_rfl
theorem Rl.methodAssignableTo (h : Value) (w : World) : (Go.method 391 158 (.agg #[h]) "AssignableTo").run Tryz.prog w = .ok (192, .agg #[h]) w := by kernel_rfl
theorem Rl.elem27 (w : World) : (ReflectliteType.method ReflectliteType.elem #[.agg #[.pointer (some ⟨10, 72, none⟩)]]).run Tryz.prog w = .ok (.iface 158 (.agg #[.pointer (some ⟨10, 70, none⟩)])) w := by kernel_rfl
theorem Rl.implements25 (w : World) : (ReflectliteType.relation "Implements" ReflectliteType.implements_ #[.agg #[.pointer (some ⟨10, 70, none⟩)], .iface 158 (.agg #[.pointer (some ⟨10, 35, none⟩)])]).run Tryz.prog w = .ok (.bool true) w := by kernel_rfl
theorem Rl.typeOf25 (v : Value) (w : World) : (ReflectliteType.typeOf #[.iface 70 v]).run Tryz.prog w = .ok (.iface 158 (.agg #[.pointer (some ⟨10, 70, none⟩)])) w := by kernel_rfl
theorem Rl.assignable25 (w : World) : (ReflectliteType.relation "AssignableTo" ReflectliteType.assignableTo #[.agg #[.pointer (some ⟨10, 70, none⟩)], .iface 158 (.agg #[.pointer (some ⟨10, 70, none⟩)])]).run Tryz.prog w = .ok (.bool true) w := by kernel_rfl
theorem Rl.valueOf25 (e : Addr) (w : World) : (ReflectliteValue.unpack (.iface 70 (.pointer (some e)))).run Tryz.prog w
    = .ok (.agg #[.pointer (some ⟨10, 70, none⟩), .pointer (some ⟨w.heap.size, 0, none⟩), .int .u64 150]) (w.alloc (.cells #[.pointer (some e)] 70)) := by kernel_rfl

theorem Rl.elemOf27 (w : World) : (Rtype.elem? 72).run Tryz.prog w = .ok (some 70) w := by kernel_rfl
theorem Rl.mk25 (p : Addr) (w : World) : (ReflectliteValue.mk 70 p ReflectliteValue.flagAddr).run Tryz.prog w = .ok (.agg #[.pointer (some ⟨10, 70, none⟩), .pointer (some p), .int .u64 406]) w := by kernel_rfl
/-- (Value).Elem at the Value of a **p.E that is not nil: the Value of the *p.E variable that it points to, addressable. -/
theorem Rl.elemV27 (a p : Addr) (W : World) (ha : W.cell? a = some (.pointer (some p))) :
    (ReflectliteValue.method (ReflectliteValue.valueError "reflectlite.Value.Elem" 0) ReflectliteValue.elem #[.agg #[.pointer (some ⟨10, 72, none⟩), .pointer (some a), .int .u64 150]]).run Tryz.prog W
      = .ok (.agg #[.pointer (some ⟨10, 70, none⟩), .pointer (some p), .int .u64 406]) W := by
  rw [rlm]
  simp only [Sem.run_bind, Rl.parts27, Result.andThen]
  simp [ReflectliteValue.elem, loadVar, isAgg, underlying, Tryz.underlying72, ha, Result.andThen, Rl.elemOf27, Rl.mk25]
theorem rls (v x : Value) : ReflectliteValue.set #[v, x] = (do
    let (some (dst, a, fl), some (src, b, _)) := (← ReflectliteValue.parts v, ← ReflectliteValue.parts x)
      | unsupported (.noEntry "extern/(internal/reflectlite.Value).Set.zeroValue")
    if fl / ReflectliteValue.flagAddr % 2 == 0 then unsupported (.noEntry "extern/(internal/reflectlite.Value).Set.unaddressable")
    let val ← loadVar src b
    if ← Rtype.directlyAssignable dst src then storeVar dst a val
    else if ← Rtype.implements dst src then
      if (← Rtype.kind src) == 20 then
        match val with
        | .nilIface => unsupported (.noEntry "extern/reflectlite: a nil value of one interface type handed on as a value of another")
        | _ => storeVar dst a val
      else storeVar dst a (.iface src val)
    else panicString ("reflectlite.Set: value of type " ++ (← Rtype.spelt src) ++ " is not assignable to type " ++ (← Rtype.spelt dst))
    pure (.tuple #[])) := rfl
theorem Rl.parts25a (a : Addr) (w : World) : (ReflectliteValue.parts (.agg #[.pointer (some ⟨10, 70, none⟩), .pointer (some a), .int .u64 406])).run Tryz.prog w = .ok (some (70, a, 406)) w := by kernel_rfl
theorem Rl.parts25 (a : Addr) (w : World) : (ReflectliteValue.parts (.agg #[.pointer (some ⟨10, 70, none⟩), .pointer (some a), .int .u64 150])).run Tryz.prog w = .ok (some (70, a, 150)) w := by kernel_rfl
theorem Rl.direct25 (w : World) : (Rtype.directlyAssignable 70 70).run Tryz.prog w = .ok true w := by kernel_rfl
theorem Rl.size25 (w : World) : (sizeOf 70).run Tryz.prog w = .ok 1 w := by kernel_rfl
/-- (Value).Set: the *p.E variable at 'ta' gets what the Value's own variable 'b' holds. -/
theorem Rl.set25 (ta b e : Addr) (old : Value) (W : World) (hb : W.cell? b = some (.pointer (some e))) (ht : W.cell? ta = some old) (hf : W.frozen? ta = false) :
    (ReflectliteValue.set #[.agg #[.pointer (some ⟨10, 70, none⟩), .pointer (some ta), .int .u64 406], .agg #[.pointer (some ⟨10, 70, none⟩), .pointer (some b), .int .u64 150]]).run Tryz.prog W
      = .ok (.tuple #[]) (W.setCell ta (.pointer (some e))) := by
  rw [rls]
  simp only [Sem.run_bind, Rl.parts25a, Rl.parts25, Result.andThen]
  simp [ReflectliteValue.flagAddr, loadVar, isAgg, underlying, Tryz.underlying70, hb, Result.andThen, Rl.direct25, storeVar, Value.cells, storeCells, Addr.add]
  rw [run_store Tryz.prog W ta _ _ (by rfl)]
  simp [ht, hf]

set_option maxHeartbeats 4000000 in
theorem as_hit (e t : Addr) (old : Value) (w : World) (hg : w.cell? ⟨0, 0, none⟩ = some (.iface 158 (.agg #[.pointer (some ⟨10, 35, none⟩)]))) (ht0 : w.cell? t = some old) (hf0 : w.frozen? t = false) :
    Calls Tryz.prog 33 #[.iface 70 (.pointer (some e)), .iface 72 (.pointer (some t))] w fun ev w' => ev = .returned (.bool true) ∧ w' = ((((w.alloc (.cells #[.pointer (some t)] 72)).alloc (.cells #[.pointer (some ⟨10, 72, none⟩), .pointer (some ⟨w.heap.size, 0, none⟩), .int .u64 150] 122)).alloc (.cells #[.pointer (some ⟨10, 72, none⟩), .pointer (some ⟨w.heap.size, 0, none⟩), .int .u64 150] 122)).alloc (.cells #[.pointer (some e)] 70)).setCell t (.pointer (some e)) := by
  have h6 := @run_callFunc_extern Tryz.prog 62 _ (fun args => ReflectliteValue.unpack (args.getD 0 (.tuple #[]))) Tryz.func62 (by kernel_rfl) (by kernel_rfl) (by kernel_rfl) (by kernel_rfl)
  have h7 := @run_callFunc_extern Tryz.prog 63 _ (ReflectliteValue.methodAny (ReflectliteValue.valueError "reflectlite.Value.Type" 0) (fun t _ _ _ => ReflectliteType.toType t)) Tryz.func63 (by kernel_rfl) (by kernel_rfl) (by kernel_rfl) (by kernel_rfl)
  have h8 := @run_callFunc_extern Tryz.prog 64 _ (ReflectliteValue.method (ReflectliteValue.valueError "reflectlite.Value.IsNil" 0) ReflectliteValue.isNil) Tryz.func64 (by kernel_rfl) (by kernel_rfl) (by kernel_rfl) (by kernel_rfl)
  have h27 := @run_callFunc_extern Tryz.prog 182 _ (ReflectliteType.abiMethod fun t => do pure (.int .u8 (← Rtype.kind t))) Tryz.func182 (by kernel_rfl) (by kernel_rfl) (by kernel_rfl) (by kernel_rfl)
  have h37 := @run_callFunc_extern Tryz.prog 194 _ (ReflectliteType.method ReflectliteType.elem) Tryz.func194 (by kernel_rfl) (by kernel_rfl) (by kernel_rfl) (by kernel_rfl)
  have h38 := @run_callFunc_extern Tryz.prog 195 _ (ReflectliteType.relation "Implements" ReflectliteType.implements_) Tryz.func195 (by kernel_rfl) (by kernel_rfl) (by kernel_rfl) (by kernel_rfl)
  have h10 := @run_callFunc_extern Tryz.prog 89 _ ReflectliteType.typeOf Tryz.func89 (by kernel_rfl) (by kernel_rfl) (by kernel_rfl) (by kernel_rfl)
  have h35 := @run_callFunc_extern Tryz.prog 192 _ (ReflectliteType.relation "AssignableTo" ReflectliteType.assignableTo) Tryz.func192 (by kernel_rfl) (by kernel_rfl) (by kernel_rfl) (by kernel_rfl)
  have h11 := @run_callFunc_extern Tryz.prog 90 _ (ReflectliteValue.method (ReflectliteValue.valueError "reflectlite.Value.Elem" 0) ReflectliteValue.elem) Tryz.func90 (by kernel_rfl) (by kernel_rfl) (by kernel_rfl) (by kernel_rfl)
  have h12 := @run_callFunc_extern Tryz.prog 91 _ ReflectliteValue.set Tryz.func91 (by kernel_rfl) (by kernel_rfl) (by kernel_rfl) (by kernel_rfl)
  have tO := Rl.typeOf25
  have mA := Rl.methodAssignableTo
  have a25 := Rl.assignable25
  have v25 := Rl.valueOf25
  have f6 := Rl.valueOf27
  have f7 := Rl.type27
  have mK := Rl.methodKind
  have mE := Rl.methodElem
  have mI := Rl.methodImplements
  have k27 := Rl.kind27
  have k25 := Rl.kind25
  have e27 := Rl.elem27
  have i25 := Rl.implements25
  have n8 := Rl.isNil27 ⟨w.heap.size, 0, none⟩ t ((w.alloc (.cells #[.pointer (some t)] 72)).alloc (.cells #[.pointer (some ⟨10, 72, none⟩), .pointer (some ⟨w.heap.size, 0, none⟩), .int .u64 150] 122)) (by simp)
  have hlt : 0 < w.heap.size := lt_of_cell hg
  have hg2 : ((w.alloc (.cells #[.pointer (some t)] 72)).alloc (.cells #[.pointer (some ⟨10, 72, none⟩), .pointer (some ⟨w.heap.size, 0, none⟩), .int .u64 150] 122)).cell? ⟨0, 0, none⟩ = some (.iface 158 (.agg #[.pointer (some ⟨10, 35, none⟩)])) := by
    rw [World.cell?_alloc_lt _ _ ⟨0, 0, none⟩ (by simp <;> omega), World.cell?_alloc_lt _ _ ⟨0, 0, none⟩ hlt]; exact hg
  have htl : t.block < w.heap.size := by
    rcases Nat.lt_or_ge t.block w.heap.size with h | h
    · exact h
    · simp [World.cell?, Array.getElem?_eq_none h] at ht0
  have el := Rl.elemV27 ⟨w.heap.size, 0, none⟩ t (((w.alloc (.cells #[.pointer (some t)] 72)).alloc (.cells #[.pointer (some ⟨10, 72, none⟩), .pointer (some ⟨w.heap.size, 0, none⟩), .int .u64 150] 122)).alloc (.cells #[.pointer (some ⟨10, 72, none⟩), .pointer (some ⟨w.heap.size, 0, none⟩), .int .u64 150] 122)) (by rw [World.cell?_alloc_lt _ _ ⟨w.heap.size, 0, none⟩ (by simp; omega)]; simp)
  have st := Rl.set25 t ⟨w.heap.size + 1 + 1 + 1, 0, none⟩ e old ((((w.alloc (.cells #[.pointer (some t)] 72)).alloc (.cells #[.pointer (some ⟨10, 72, none⟩), .pointer (some ⟨w.heap.size, 0, none⟩), .int .u64 150] 122)).alloc (.cells #[.pointer (some ⟨10, 72, none⟩), .pointer (some ⟨w.heap.size, 0, none⟩), .int .u64 150] 122)).alloc (.cells #[.pointer (some e)] 70))
    (by rw [World.cell?_alloc_at _ _ _ _ (by simp)]; rfl)
    (by rw [World.cell?_alloc_lt _ _ t (by simp; omega), World.cell?_alloc_lt _ _ t (by simp; omega), World.cell?_alloc_lt _ _ t (by simp; omega), World.cell?_alloc_lt _ _ t htl]; exact ht0)
    (by rw [World.frozen?_alloc_old _ _ t (by simp; omega), World.frozen?_alloc_old _ _ t (by simp; omega), World.frozen?_alloc_old _ _ t (by simp; omega), World.frozen?_alloc_old _ _ t (Nat.ne_of_lt htl)]; exact hf0)
  go_enter Tryz.func33, Tryz.ntmps33
  go_wp2
  refine wp_loop_rounds 1 ?_
  rw [rounds_succ]
  go_wp2
  go_ret
  exact ⟨rfl, rfl⟩
end Go.Proofs.YtdpkjpjkdmkkpaaGreatDoor

/- The walk through runghelp's Told: an error's place and number. -/
namespace Go.Proofs.YtdpkjpjkdmkkpaaGreatDoor
open Go.RowKit

/-- What Told asks of the library's variables: the handle of the type 'error'. -/
def HEnv (w : World) : Prop := w.cell? ⟨0, 0, none⟩ = some (.iface 158 (.agg #[.pointer (some ⟨10, 35, none⟩)]))
theorem HEnv.below {w w' : World} (h : HEnv w) (hb : Below w.heap.size w w') : HEnv w' := (hb.cell (p := ⟨_, _, none⟩) (lt_of_cell h)).trans h

theorem as_place {p : Nat} {cs : Array Value} (w : World) (hg : HEnv w) (hp : w.heap[p]? = some (.cells cs 75)) :
    Calls Tryz.prog 33 #[.iface 70 (.pointer (some ⟨p, 0, none⟩)), .iface 72 (.pointer (some ⟨w.heap.size, 0, none⟩))] (w.alloc (.cells #[.pointer none] 70))
      fun e w' => e = .returned (.bool true) ∧ w'.cell? ⟨w.heap.size, 0, none⟩ = some (.pointer (some ⟨p, 0, none⟩)) ∧ w'.heap[p]? = some (.cells cs 75) ∧ Below w.heap.size w w' := by
  have hb1 : Below w.heap.size w (w.alloc (.cells #[.pointer none] 70)) := (Below.refl _ _).alloc (Nat.le_refl _) _
  have hg1 : HEnv (w.alloc (.cells #[.pointer none] 70)) := HEnv.below hg hb1
  have hpl : p < w.heap.size := by
    rcases Nat.lt_or_ge p w.heap.size with h | h
    · exact h
    · rw [Array.getElem?_eq_none h] at hp; cases hp
  refine (as_hit ⟨p, 0, none⟩ ⟨w.heap.size, 0, none⟩ (.pointer none) _ hg1 (by simp) (by simp)).mono ?_
  rintro e w' ⟨rfl, rfl⟩
  have hb : Below w.heap.size w ((((((w.alloc (.cells #[.pointer none] 70)).alloc (.cells #[.pointer (some ⟨w.heap.size, 0, none⟩)] 72)).alloc (.cells #[.pointer (some ⟨10, 72, none⟩), .pointer (some ⟨(w.alloc (.cells #[.pointer none] 70)).heap.size, 0, none⟩), .int .u64 150] 122)).alloc (.cells #[.pointer (some ⟨10, 72, none⟩), .pointer (some ⟨(w.alloc (.cells #[.pointer none] 70)).heap.size, 0, none⟩), .int .u64 150] 122)).alloc (.cells #[.pointer (some ⟨p, 0, none⟩)] 70)).setCell ⟨w.heap.size, 0, none⟩ (.pointer (some ⟨p, 0, none⟩))) := by
    refine Below.setCell (B := w.heap.size) ?_ (by simp) _
    refine Below.alloc ?_ (by simp; omega) _
    refine Below.alloc ?_ (by simp; omega) _
    refine Below.alloc ?_ (by simp; omega) _
    refine Below.alloc ?_ (by simp) _
    exact hb1
  refine ⟨rfl, ?_, (hb.block p hpl).trans hp, hb⟩
  refine World.cell?_setCell_same (u := .pointer none) _ _ _ ?_
  rw [World.cell?_alloc_lt _ _ ⟨w.heap.size, 0, none⟩ (by simp; omega), World.cell?_alloc_lt _ _ ⟨w.heap.size, 0, none⟩ (by simp; omega), World.cell?_alloc_lt _ _ ⟨w.heap.size, 0, none⟩ (by simp; omega), World.cell?_alloc_lt _ _ ⟨w.heap.size, 0, none⟩ (by simp)]
  simp

theorem as_place2 {p : Nat} {a n : Int} (w : World) (hg : HEnv w) (hp : w.heap[p]? = some (.cells #[.int .i64 a, .int .i64 n] 75)) :
    Calls Tryz.prog 33 #[.iface 70 (.pointer (some ⟨p, 0, none⟩)), .iface 72 (.pointer (some ⟨w.heap.size, 0, none⟩))] (w.alloc (.cells #[.pointer none] 70))
      fun e w' => e = .returned (.bool true) ∧ w'.cell? ⟨w.heap.size, 0, none⟩ = some (.pointer (some ⟨p, 0, none⟩)) ∧ w'.cell? ⟨p, 0, none⟩ = some (.int .i64 a) ∧ w'.cell? ⟨p, 1, none⟩ = some (.int .i64 n) ∧ Below w.heap.size w w' :=
  (as_place w hg hp).mono fun _ w' ⟨h1, h2, h3, h4⟩ => ⟨h1, h2, by simp [World.cell?, h3], by simp [World.cell?, h3], h4⟩

theorem told_nil (w : World) : Calls Tryz.prog 11 #[.nilIface] w fun e w' => e = .returned (.tuple #[.int .i64 0, .int .i64 0]) ∧ w = w' := by
  go_enter Tryz.func11, Tryz.ntmps11
  go_wp2
  exact bodyPost_ret (v := .tuple #[.int .i64 0, .int .i64 0]) (by simp [results, Tryz.results11, go_sem]) rfl ⟨rfl, rfl⟩

set_option maxRecDepth 100000 in
set_option maxHeartbeats 4000000 in
theorem told_place {a n : Int} {p : Nat} (w : World) (hg : HEnv w) (hp : w.heap[p]? = some (.cells #[.int .i64 a, .int .i64 n] 75)) :
    Calls Tryz.prog 11 #[.iface 70 (.pointer (some ⟨p, 0, none⟩))] w fun e w' => e = .returned (.tuple #[.int .i64 a, .int .i64 n]) ∧ Below w.heap.size w w' := by
  have HG := Lib.hid (And.intro hg hp)
  clear hg hp
  go_enter Tryz.func11, Tryz.ntmps11
  go_wp2_with (go_at_call 33; refine (as_place2 w HG.out.1 HG.out.2).mono ?_; rintro e w2 ⟨rfl, ht2, hc0, hc1, hb2⟩; have HB := Lib.hid hb2; clear hb2)
  go_quiet (fail)
  go_wp2
  exact bodyPost_ret (v := .tuple #[.int .i64 a, .int .i64 n]) (by simp [results, Tryz.results11, go_sem]) rfl ⟨rfl, HB.out.drewN _⟩
end Go.Proofs.YtdpkjpjkdmkkpaaGreatDoor

/- What the statements share: runghelp.Place, small facts of digits; the tokens as cells; the reference's keywords (rungref1's names and Kind, rungref12's Word). -/
namespace Go.Proofs.YtdpkjpjkdmkkpaaGreatDoor
open Go.RowKit Lx Ad

theorem numF_more {base : Nat} (hb : 2 ≤ base) (f n : Nat) (h : n < base ^ (f + 1)) : numF base (f + 1) n = numF base f n := by
  induction f generalizing n with
  | zero =>
    simp only [numF]
    rw [if_pos (by rw [Nat.zero_add, Nat.pow_one] at h; exact h)]
  | succ f ih =>
    have e1 : numF base (f + 1 + 1) n = if n < base then [digB n] else numF base (f + 1) (n / base) ++ [digB (n % base)] := rfl
    have e2 : numF base (f + 1) n = if n < base then [digB n] else numF base f (n / base) ++ [digB (n % base)] := rfl
    rw [e1, e2]
    split
    · rfl
    · rw [ih (n / base)]
      rw [Nat.div_lt_iff_lt_mul (by omega), ← Nat.pow_succ]; exact h
theorem decs_small {n : Nat} (h : n < 10) : decs n = [digB n] := by rw [decs, numF, if_pos h]
theorem hexs_small {n : Nat} (h : n < 16) : hexs n = [digB n] := by rw [hexs, numF, if_pos h]
theorem decs_big {n : Nat} (h : 10 ≤ n) (hn : n < 18446744073709551616) : decs n = decs (n / 10) ++ decs (n % 10) := by
  rw [decs_small (n := n % 10) (by omega), decs, numF, if_neg (by omega), decs, numF_more (by omega) 19 (n / 10) (by omega)]
theorem hexs_big {n : Nat} (h : 16 ≤ n) (hn : n < 18446744073709551616) : hexs n = hexs (n / 16) ++ hexs (n % 16) := by
  rw [hexs_small (n := n % 16) (by omega), hexs, numF, if_neg (by omega), hexs, numF_more (by omega) 19 (n / 16) (by omega)]

theorem tmod_neg {k n : Int} (hn : 0 < n) (hk : k < 0) : -n < k.tmod n ∧ k.tmod n ≤ 0 ∧ (k.tmod n < 0 → k.tmod n + n = k % n) ∧ (0 ≤ k.tmod n → k.tmod n = k % n) := by
  have h1 := Int.tmod_eq_emod (a := k) (b := n)
  have h2 := Int.emod_nonneg k (show n ≠ 0 by omega)
  have h3 := Int.emod_lt_of_pos k hn
  by_cases hd : n ∣ k
  · rw [if_pos (.inr hd)] at h1
    have h4 := Int.emod_eq_zero_of_dvd hd
    simp at h1
    refine ⟨by omega, by omega, by omega, by omega⟩
  · rw [if_neg (by rintro (h | h); omega; exact hd h)] at h1
    have h5 : (n.natAbs : Int) = n := by omega
    rw [h5] at h1
    have h6 : k % n ≠ 0 := fun h => hd (Int.dvd_of_emod_eq_zero h)
    refine ⟨by omega, by omega, by omega, by omega⟩

theorem dec_slice {n : Nat} (h : n < 10) : (⟨#[48, 49, 50, 51, 52, 53, 54, 55, 56, 57]⟩ : ByteArray).extract n (n + 1) = ⟨(decs n).toArray⟩ := by
  have h2 : n = 0 ∨ n = 1 ∨ n = 2 ∨ n = 3 ∨ n = 4 ∨ n = 5 ∨ n = 6 ∨ n = 7 ∨ n = 8 ∨ n = 9 := by omega
  rcases h2 with rfl | rfl | rfl | rfl | rfl | rfl | rfl | rfl | rfl | rfl <;> decide
theorem hex_slice {n : Nat} (h : n < 16) : (⟨#[48, 49, 50, 51, 52, 53, 54, 55, 56, 57, 65, 66, 67, 68, 69, 70]⟩ : ByteArray).extract n (n + 1) = ⟨(hexs n).toArray⟩ := by
  have h2 : n = 0 ∨ n = 1 ∨ n = 2 ∨ n = 3 ∨ n = 4 ∨ n = 5 ∨ n = 6 ∨ n = 7 ∨ n = 8 ∨ n = 9 ∨ n = 10 ∨ n = 11 ∨ n = 12 ∨ n = 13 ∨ n = 14 ∨ n = 15 := by omega
  rcases h2 with rfl | rfl | rfl | rfl | rfl | rfl | rfl | rfl | rfl | rfl | rfl | rfl | rfl | rfl | rfl | rfl <;> decide
theorem str_app (a b : List UInt8) : (⟨a.toArray⟩ : ByteArray) ++ ⟨b.toArray⟩ = ⟨(a ++ b).toArray⟩ := by
  apply ByteArray.ext; simp [ByteArray.data_append]

/-- What the statements ask of the library's variables. -/
structure TEnv (w : World) : Prop where
  lex : LEnv w
  hnd : HEnv w
theorem TEnv.below {w w' : World} (h : TEnv w) (hb : Below w.heap.size w w') : TEnv w' := ⟨h.lex.below hb, h.hnd.below hb⟩
theorem below_join {B : Nat} {w w1 w2 : World} (h : Below B w w1) (k : Below w1.heap.size w1 w2) (hB : B ≤ w1.heap.size) : Below B w w2 :=
  h.trans ⟨k.os, k.tape, k.output, k.size, fun i hi => k.block i (Nat.lt_of_lt_of_le hi hB)⟩
theorem bjoin {w w1 w2 : World} (h : Below w.heap.size w w1) (k : Below w1.heap.size w1 w2) : Below w.heap.size w w2 := below_join h k h.size
theorem cell_later {w w' : World} {p : Addr} {v : Value} (hb : Below w.heap.size w w') (h : w.cell? p = some v) : w'.cell? p = some v := by
  have hl : p.block < w.heap.size := World.block_lt_of_cell? w p h
  rw [hb.cell hl]; exact h

def KN : List (List UInt8) := [[66, 79, 79, 76], [83, 73, 78, 84], [73, 78, 84], [68, 73, 78, 84], [85, 83, 73, 78, 84], [85, 73, 78, 84], [85, 68, 73, 78, 84], [66, 89, 84, 69], [87, 79, 82, 68], [68, 87, 79, 82, 68], [84, 73, 77, 69]]
theorem strs_cell (L : List (List UInt8)) (j : Nat) (hj : j < L.length) : (L.map fun l => Value.string ⟨l.toArray⟩).toArray[j]? = some (.string (mkS (L.getD j []))) := by
  rw [List.getElem?_toArray, List.getElem?_map, List.getElem?_eq_getElem hj, List.getD_eq_getElem?_getD, List.getElem?_eq_getElem hj]
  rfl
theorem kn_name : ∀ j, j < 11 → mkS (KN.getD j []) = kName (j + 1) := by
  intro j hj
  match j, hj with
  | 0, _ => rfl
  | 1, _ => rfl
  | 2, _ => rfl
  | 3, _ => rfl
  | 4, _ => rfl
  | 5, _ => rfl
  | 6, _ => rfl
  | 7, _ => rfl
  | 8, _ => rfl
  | 9, _ => rfl
  | 10, _ => rfl

theorem rnames_at (w : World) : Calls Tryz.prog 123 #[] w fun e w' => e = .returned (.slice (some ⟨w.heap.size, 0, none⟩) 11 11) ∧ w' = w.alloc (.cells (KN.map fun l => Value.string ⟨l.toArray⟩).toArray 9) := by
  go_enter Tryz.func123, Tryz.ntmps123
  go_wp2
  go_ret
  exact ⟨rfl, rfl⟩

set_option maxHeartbeats 800000 in
theorem rkind_at {x : ByteArray} {r : Nat} (hr : kindOf x = r) (w : World) :
    Calls Tryz.prog 103 #[.string x] w fun e w' => e = .returned (.int .i64 r) ∧ Below w.heap.size w w' := by
  have HR : Hid (KindAt x r 1) := Lib.hid hr
  clear hr
  go_enter Tryz.func103, Tryz.ntmps103
  go_wp2_with (go_at_call 123; refine (rnames_at _).mono ?_; rintro e w1 ⟨rfl, hw1⟩; have HW := Lib.hid hw1; clear hw1)
  have hw1 := HW.out
  have hcell : ∀ j, j < 11 → w1.cell? ⟨w.heap.size, j, none⟩ = some (.string (mkS (KN.getD j []))) := by
    intro j hj
    rw [hw1, World.cell?_alloc_at _ _ _ _ (by simp)]
    exact strs_cell KN j hj
  have HC := Lib.hid hcell
  have HB : Hid (Below w.heap.size w w1) := Lib.hid (by rw [hw1]; exact (Below.refl _ _).alloc (Nat.le_refl _) _)
  clear hcell hw1 HW
  obtain ⟨b, hb⟩ : ∃ b, w.heap.size = b := ⟨_, rfl⟩
  rw [hb] at HC ⊢
  have HBE := Lib.hid hb
  clear hb
  go_loop [4] (fun i => ∃ k : Nat, k ≤ 11 ∧ i = .int .i64 k ∧ Hid (KindAt x r (k + 1))) (fun i => 11 - (intOf i).toNat)
  case atStart => exact ⟨0, by omega, rfl, HR⟩
  case round =>
    clear HR
    obtain ⟨k, hk, rfl, HD⟩ := hrel
    by_cases hlt : k < 11
    · have hc := HC.out k hlt
      rw [kn_name k hlt] at hc
      have hhit := HD.out.hit (by omega)
      have hmiss := HD.out.miss (by omega)
      obtain ⟨a, ha⟩ : ∃ a, kName (k + 1) = a := ⟨_, rfl⟩
      rw [ha] at hc hhit hmiss
      have HH := Lib.hid hhit
      have HM := Lib.hid hmiss
      have k0 : 0 ≤ (k : Int) := by omega
      have k1 : (k : Int) < 11 := by omega
      clear hhit hmiss ha HD
      obtain ⟨d, hd⟩ : ∃ d, (a.toList == x.toList) = d := ⟨_, rfl⟩
      cases d with
      | true =>
        have HE := Lib.hid ((ba_eq_iff a x).1 hd)
        go_wp2
        go_ret
        exact ⟨ret_i64 (by rw [← HH.out HE.out]; go_num), HB.out⟩
      | false =>
        have HE : Hid (¬ a = x) := Lib.hid (fun h => by rw [(ba_eq_iff a x).2 h] at hd; cases hd)
        go_wp2
        go_round
        case rel => exact ⟨k + 1, by omega, by go_num, Lib.hid (HM.out HE.out)⟩
        case measure => simp [intOf]; omega
    · have HE : Hid (r = 0) := Lib.hid (by have := HD.out; unfold KindAt at this; rw [show 12 - (k + 1) = 0 by omega] at this; exact this.symm)
      have k1 : ¬ (k : Int) < 11 := by omega
      clear HD
      go_wp2
      go_ret
      exact ⟨ret_i64 (by rw [HE.out]; rfl), HB.out⟩

theorem kwMem_hit {x : ByteArray} {k : Nat} (hk : k < 36) (h : mkS (KW.getD k []) = x) : lWord x = true := by
  have hl : KW.length = 36 := by decide
  have hm : x ∈ KW.map mkS := by
    rw [← h, List.getD_eq_getElem?_getD, List.getElem?_eq_getElem (by omega)]
    exact List.mem_map.2 ⟨_, List.getElem_mem _, rfl⟩
  simp [lWord, (Lib.containsS_iff _ _).2 hm]
theorem kwMem_miss {x : ByteArray} (h : ∀ j, j < 36 → ¬ mkS (KW.getD j []) = x) : lWord x = (kindOf x != 0) := by
  have hl : KW.length = 36 := by decide
  have hm : Lib.containsS (KW.map mkS) x = false := by
    cases hc : Lib.containsS (KW.map mkS) x with
    | false => rfl
    | true =>
      obtain ⟨l, hl1, hl2⟩ := List.mem_map.1 ((Lib.containsS_iff _ _).1 hc)
      obtain ⟨j, hj, he⟩ := List.getElem_of_mem hl1
      exact absurd (by rw [List.getD_eq_getElem?_getD, List.getElem?_eq_getElem hj, Option.getD_some, he]; exact hl2) (h j (by omega))
  simp [lWord, hm]

set_option maxRecDepth 100000 in
set_option maxHeartbeats 1600000 in
theorem rWord_at {x : ByteArray} {r : Bool} (hr : lWord x = r) (w : World) :
    Calls Tryz.prog 105 #[.string x] w fun e w' => e = .returned (.bool r) ∧ Below w.heap.size w w' := by
  have HR := Lib.hid hr
  clear hr
  obtain ⟨kd, hkd⟩ : ∃ kd, kindOf x = kd := ⟨_, rfl⟩
  have HK := Lib.hid hkd
  clear hkd
  go_enter Tryz.func105, Tryz.ntmps105
  go_wp2
  generalize hw1 : w.alloc _ = w1
  have hcell : ∀ j, j < 36 → w1.cell? ⟨w.heap.size, j, none⟩ = some (.string (mkS (KW.getD j []))) := by
    intro j hj
    rw [← hw1, World.cell?_alloc_at _ _ _ _ (by simp)]
    exact strs_cell KW j hj
  have HC := Lib.hid hcell
  have HB : Hid (Below w.heap.size w w1) := Lib.hid (by rw [← hw1]; exact (Below.refl _ _).alloc (Nat.le_refl _) _)
  clear hcell hw1
  obtain ⟨b, hb⟩ : ∃ b, w.heap.size = b := ⟨_, rfl⟩
  rw [hb] at HC ⊢
  have HBE := Lib.hid hb
  clear hb
  go_loop [4] (fun i => ∃ k : Nat, k ≤ 36 ∧ i = .int .i64 k ∧ Hid (∀ j, j < k → ¬ mkS (KW.getD j []) = x)) (fun i => 36 - (intOf i).toNat)
  case atStart => exact ⟨0, by omega, rfl, Lib.hid (fun j hj => absurd hj (Nat.not_lt_zero _))⟩
  case round =>
    obtain ⟨k, hk, rfl, HD⟩ := hrel
    by_cases hlt : k < 36
    · have hc := HC.out k hlt
      obtain ⟨a, ha⟩ : ∃ a, mkS (KW.getD k []) = a := ⟨_, rfl⟩
      rw [ha] at hc
      have HA := Lib.hid ha
      have k0 : 0 ≤ (k : Int) := by omega
      have k1 : (k : Int) < 36 := by omega
      clear ha
      obtain ⟨d, hd⟩ : ∃ d, (a.toList == x.toList) = d := ⟨_, rfl⟩
      cases d with
      | true =>
        have HE := Lib.hid ((ba_eq_iff a x).1 hd)
        go_wp2
        go_ret
        exact ⟨by rw [← HR.out, kwMem_hit hlt (HA.out.trans HE.out)]; rfl, HB.out⟩
      | false =>
        have HE : Hid (¬ a = x) := Lib.hid (fun h => by rw [(ba_eq_iff a x).2 h] at hd; cases hd)
        go_wp2
        go_round
        case rel =>
          refine ⟨k + 1, by omega, by go_num, Lib.hid (fun j hj => ?_)⟩
          rcases Nat.lt_or_ge j k with h | h
          · exact HD.out j h
          · rw [show j = k by omega, HA.out]; exact HE.out
        case measure => simp [intOf]; omega
    · have hk36 : k = 36 := by omega
      have HE : Hid (r = (kd != 0)) := Lib.hid (by rw [← HR.out, kwMem_miss (by rw [← hk36]; exact HD.out), HK.out])
      have k1 : ¬ (k : Int) < 36 := by omega
      clear HD hk36
      by_cases h0 : kd = 0
      · subst h0
        go_wp2_with (go_at_call 103; refine (rkind_at HK.out _).mono ?_; rintro e w2 ⟨rfl, hb2⟩)
        go_ret
        exact ⟨by rw [HE.out]; rfl, bjoin HB.out hb2⟩
      · have h1 : ¬ ((kd : Nat) : Int) = 0 := by omega
        go_wp2_with (go_at_call 103; refine (rkind_at HK.out _).mono ?_; rintro e w2 ⟨rfl, hb2⟩)
        go_ret
        exact ⟨by rw [HE.out]; simp; rw [Bool.eq_iff_iff]; simp, bjoin HB.out hb2⟩

theorem tokens_pos {il : Bool} {l : List UInt8} : ∀ {f a : Nat} {out ts : List Tok}, tokens il l f a out = .ok ts → 0 < ts.length := by
  intro f
  induction f with
  | zero => intro a out ts h; cases h
  | succ f ih =>
    intro a out ts h
    rw [tokens] at h
    split at h
    · cases h
    · split at h
      · injection h with h; subst h; simp
      · simp only at h
        split at h
        · cases h
        · exact ih h
theorem lTokens_pos {il : Bool} {l : List UInt8} {ts : List Tok} (h : lTokens l il = .ok ts) : 0 < ts.length := by
  unfold lTokens at h
  split at h
  · cases h
  · exact tokens_pos h
end Go.Proofs.YtdpkjpjkdmkkpaaGreatDoor
