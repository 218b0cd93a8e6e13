/- Numbers written out, in base ten and sixteen, and what package lex's plain words read of them. -/
import Derived.Test.YtfllgaoknigbnaaGreatDoorLexP
namespace Go.Proofs.YtfllgaoknigbnaaGreatDoor.Lx

/-- A digit's byte, of base 16 at most. -/
def digB (n : Nat) : UInt8 := if n < 10 then UInt8.ofNat (48 + n) else UInt8.ofNat (55 + n)
/-- A number's digits. -/
def numF (base : Nat) : Nat → Nat → List UInt8
  | 0, n => [digB n]
  | f + 1, n => if n < base then [digB n] else numF base f (n / base) ++ [digB (n % base)]
/-- In base ten, in base sixteen: numbers below 2^64. -/
def decs (n : Nat) : List UInt8 := numF 10 20 n
def hexs (n : Nat) : List UInt8 := numF 16 20 n

theorem digB_props : ∀ n, n < 16 → (valD (digB n) = (n : Int) ∧ ¬ (digB n).toNat = 95) := by decide
theorem digB_dig : ∀ n, n < 10 → dig (digB n) = true := by decide
theorem valOk_digB {n base : Nat} (h : n < base) (hb : base ≤ 16) : valOk (digB n) base = true := by
  have := (digB_props n (by omega)).1
  simp [valOk, this]; omega

theorem numF_len (base f n : Nat) : 0 < (numF base f n).length := by
  cases f with
  | zero => simp [numF]
  | succ f => simp only [numF]; split <;> simp

/-- What the reader of digits makes of a number's digits. -/
theorem digF_numF {base : Nat} (hb : 2 ≤ base) (hb2 : base ≤ 16) (f n : Nat) (hf : n < base ^ (f + 1)) (hn : n < 1099511627776) (rest : List UInt8) (ok : Bool) (i size : Nat) :
    digF base (numF base f n ++ rest) ok i 0 size = digF base rest true (i + (numF base f n).length) n (i + (numF base f n).length) := by
  have one : ∀ (m : Nat) (acc : Nat) (rest : List UInt8) (ok : Bool) (i size : Nat), m < base → acc * base + m < 1099511627776 →
      digF base (digB m :: rest) ok i acc size = digF base rest true (i + 1) ((acc * base + m : Nat) : Int) (i + 1) := by
    intro m acc rest ok i size hm hs
    rw [digF, if_neg (fun h => (digB_props m (by omega)).2 h.1), if_pos (valOk_digB hm hb2), (digB_props m (by omega)).1]
    obtain ⟨p, hp⟩ : ∃ p : Nat, acc * base = p := ⟨_, rfl⟩
    have e1 : (acc : Int) * (base : Int) = (p : Int) := by rw [← hp, Int.natCast_mul]
    have e2 : min ((acc : Int) * (base : Int) + (m : Int)) 1099511627776 = ((acc * base + m : Nat) : Int) := by
      rw [hp] at hs
      rw [e1, hp]
      omega
    rw [e2]
  induction f generalizing n rest ok i size with
  | zero =>
    simp only [numF, List.cons_append, List.nil_append, List.length_cons, List.length_nil]
    rw [Nat.zero_add, Nat.pow_one] at hf
    have h0 := one n 0 rest ok i size hf (by omega)
    rw [Nat.zero_mul, Nat.zero_add] at h0
    exact h0
  | succ f ih =>
    by_cases h : n < base
    · simp only [numF, if_pos h, List.cons_append, List.nil_append, List.length_cons, List.length_nil]
      have h0 := one n 0 rest ok i size h (by omega)
      rw [Nat.zero_mul, Nat.zero_add] at h0
      exact h0
    · simp only [numF, if_neg h, List.append_assoc, List.cons_append, List.nil_append, List.length_append, List.length_cons, List.length_nil]
      have hd : n / base < base ^ (f + 1) := by
        rw [Nat.div_lt_iff_lt_mul (by omega)]
        rw [Nat.pow_succ] at hf; exact hf
      have hle : n / base ≤ n := Nat.div_le_self _ _
      have hmod : n / base * base + n % base = n := Nat.div_add_mod' n base
      rw [ih (n / base) hd (by omega), one (n % base) (n / base) rest true _ _ (Nat.mod_lt _ (by omega)) (by omega), hmod]
      simp [Nat.add_assoc]

/-- Behind the digits stands nothing that goes on with them. -/
def Stops (base : Int) (rest : List UInt8) : Prop := ∀ c t, rest = c :: t → ¬ c.toNat = 95 ∧ valOk c base = false
theorem Stops.nil (base : Int) : Stops base [] := fun _ _ h => by cases h
theorem digF_stop {base : Int} {rest : List UInt8} (h : Stops base rest) (ok : Bool) (i : Nat) (n : Int) (size : Nat) : digF base rest ok i n size = (n, size) := by
  cases rest with
  | nil => rfl
  | cons c t =>
    obtain ⟨h1, h2⟩ := h c t rfl
    rw [digF, if_neg (fun h => h1 h.1), if_neg (by rw [h2]; simp)]

theorem digits_num {base : Nat} (hb : 2 ≤ base) (hb2 : base ≤ 16) {f n : Nat} (hf : n < base ^ (f + 1)) (hn : n < 1099511627776) {rest : List UInt8} (hr : Stops base rest) :
    digits (numF base f n ++ rest) base = ((n : Int), (numF base f n).length) := by
  rw [digits, digF_numF hb hb2 f n hf hn, digF_stop hr]
  simp
theorem digits_decs {n : Nat} (hn : n < 1099511627776) {rest : List UInt8} (hr : Stops 10 rest) : digits (decs n ++ rest) 10 = ((n : Int), (decs n).length) :=
  digits_num (base := 10) (f := 20) (by decide) (by decide) (by omega) hn hr
theorem digits_hexs {n : Nat} (hn : n < 1099511627776) {rest : List UInt8} (hr : Stops 16 rest) : digits (hexs n ++ rest) 16 = ((n : Int), (hexs n).length) :=
  digits_num (base := 16) (f := 20) (by decide) (by decide) (by omega) hn hr

theorem numF_dig (f n : Nat) (hf : n < 10 ^ (f + 1)) : ∀ c ∈ numF 10 f n, dig c = true := by
  induction f generalizing n with
  | zero => intro c hc; simp only [numF, List.mem_singleton] at hc; subst hc; exact digB_dig n (by simpa using hf)
  | succ f ih =>
    intro c hc
    simp only [numF] at hc
    split at hc
    · rename_i h; simp only [List.mem_singleton] at hc; subst hc; exact digB_dig n h
    · rcases List.mem_append.1 hc with h | h
      · refine ih (n / 10) ?_ c h
        rw [Nat.div_lt_iff_lt_mul (by omega)]; rw [Nat.pow_succ] at hf; exact hf
      · simp only [List.mem_singleton] at h; subst h; exact digB_dig _ (by omega)
theorem decs_dig {n : Nat} (hn : n < 1099511627776) : ∀ c ∈ decs n, dig c = true := numF_dig 20 n (by omega)

theorem number_decs {n : Nat} (hn : n < 1099511627776) : number (decs n) = ((n : Int), (decs n).length, 0) := by
  have hd := digits_decs hn (Stops.nil 10)
  rw [List.append_nil] at hd
  have hl : (decs n).length ≠ 0 := by have := numF_len 10 20 n; unfold decs; omega
  simp only [number, hd, if_neg hl]
  rw [if_neg (by simp)]
theorem number_hexs {n : Nat} (hn : n < 1099511627776) : number ([49, 54, 35] ++ hexs n) = ((n : Int), (hexs n).length + 3, 0) := by
  have hd : digits ([49, 54, 35] ++ hexs n) 10 = (16, 2) := by
    have := digits_decs (n := 16) (by omega) (rest := 35 :: hexs n) (fun c t h => by injection h with h1 h2; subst h1; decide)
    simpa [show decs 16 = [49, 54] by decide] using this
  have hx := digits_hexs hn (Stops.nil 16)
  rw [List.append_nil] at hx
  have hl : (hexs n).length ≠ 0 := by have := numF_len 16 20 n; unfold hexs; omega
  simp only [number, hd]
  rw [if_neg (by omega), if_pos ⟨by simp, by simp⟩]
  simp only [show (2 + 1 : Nat) = 3 by rfl, show List.drop 3 ([49, 54, 35] ++ hexs n) = hexs n from rfl, hx, if_neg hl]
  rw [Nat.add_comm]
end Go.Proofs.YtfllgaoknigbnaaGreatDoor.Lx
