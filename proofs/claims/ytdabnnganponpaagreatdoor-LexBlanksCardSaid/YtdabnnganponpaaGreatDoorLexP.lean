/- Package lex in plain words: what each function computes, over lists of bytes. -/
import Derived.WalkKit
namespace Go.Proofs.YtdabnnganponpaaGreatDoor.Lx

def dig (c : UInt8) : Bool := decide (48 ≤ c.toNat) && decide (c.toNat ≤ 57)
def lett (c : UInt8) : Bool := (decide (97 ≤ c.toNat) && decide (c.toNat ≤ 122)) || (decide (65 ≤ c.toNat) && decide (c.toNat ≤ 90)) || c.toNat == 95
def wordB (c : UInt8) : Bool := lett c || dig c
def addrB (c : UInt8) : Bool := (lett c && !(c.toNat == 95)) || dig c || c.toNat == 46

def span (p : UInt8 → Bool) : List UInt8 → Nat
  | [] => 0
  | c :: l => if p c then span p l + 1 else 0

theorem span_le (p : UInt8 → Bool) (l : List UInt8) : span p l ≤ l.length := by
  induction l with
  | nil => simp [span]
  | cons c l ih => simp only [span]; split <;> simp <;> omega

/-- A byte's value as a digit, or -1. -/
def valD (c : UInt8) : Int := if dig c then c.toNat - 48 else if 65 ≤ c.toNat ∧ c.toNat ≤ 70 then (c.toNat : Int) - 65 + 10 else -1
def valOk (c : UInt8) (base : Int) : Bool := decide (0 ≤ valD c) && decide (valD c < base)

/-- The digits: 'ok' says that the byte ahead is there and no underline; 'i' counts the bytes gone. -/
def digF (base : Int) : List UInt8 → Bool → Nat → Int → Nat → Int × Nat
  | [], _, _, n, size => (n, size)
  | c :: l, ok, i, n, size =>
    if c.toNat = 95 ∧ ok = true then digF base l false (i + 1) n size
    else if valOk c base then digF base l true (i + 1) (min (n * base + valD c) 1099511627776) (i + 1)
    else (n, size)
def digits (l : List UInt8) (base : Int) : Int × Nat := digF base l false 0 0 0

theorem digF_size (base : Int) (l : List UInt8) (ok : Bool) (i : Nat) (n : Int) (size : Nat) (h : size ≤ i) :
    (digF base l ok i n size).2 ≤ i + l.length := by
  induction l generalizing ok i n size with
  | nil => simpa [digF] using h
  | cons c l ih =>
    simp only [digF]
    split
    · have := ih false (i + 1) n size (by omega); simp; omega
    · split
      · have := ih true (i + 1) (min (n * base + valD c) 1099511627776) (i + 1) (by omega); simp; omega
      · simp; omega
theorem digits_size (l : List UInt8) (base : Int) : (digits l base).2 ≤ l.length := by
  have := digF_size base l false 0 0 0 (by omega); simpa [digits] using this

theorem valD_lt (c : UInt8) : valD c ≤ 15 := by
  unfold valD dig
  have := c.toNat_lt
  split
  · rename_i h; simp at h; omega
  · split <;> omega

theorem digF_range (base : Int) (hb : 0 ≤ base) (l : List UInt8) (ok : Bool) (i : Nat) (n : Int) (size : Nat) (h : 0 ≤ n ∧ n ≤ 1099511627776) :
    0 ≤ (digF base l ok i n size).1 ∧ (digF base l ok i n size).1 ≤ 1099511627776 := by
  induction l generalizing ok i n size with
  | nil => simpa [digF] using h
  | cons c l ih =>
    simp only [digF]
    split
    · exact ih _ _ _ _ h
    · split
      · rename_i hv
        have h0 : 0 ≤ valD c := by simp [valOk] at hv; omega
        have h1 : 0 ≤ n * base := Int.mul_nonneg h.1 hb
        exact ih _ _ _ _ ⟨by omega, by omega⟩
      · exact h
theorem digits_range (l : List UInt8) (base : Int) (hb : 0 ≤ base) : 0 ≤ (digits l base).1 ∧ (digits l base).1 ≤ 1099511627776 :=
  digF_range base hb l false 0 0 0 (by omega)

/-- A number, its size, the error's number. -/
def number (l : List UInt8) : Int × Nat × Int :=
  let d := digits l 10
  if d.2 = 0 then (0, 0, 120)
  else if l[d.2]? = some 35 ∧ (l.take d.2 = [50] ∨ l.take d.2 = [56] ∨ l.take d.2 = [49, 54]) then
    let m := digits (l.drop (d.2 + 1)) d.1
    if m.2 = 0 then (0, 0, 120) else (m.1, d.2 + 1 + m.2, 0)
  else (d.1, d.2, 0)

/-- A token. -/
structure Tok where
  tok : Int
  kind : Int
  n : Int
  text : List UInt8
  at_ : Int
deriving DecidableEq, Repr

def tok0 : Tok := ⟨0, 0, 0, [], 0⟩

/-- The kinds' names, in their order, from 1. -/
def kindName : Nat → List UInt8
  | 1 => "BOOL".toUTF8.data.toList
  | 2 => "SINT".toUTF8.data.toList
  | 3 => "INT".toUTF8.data.toList
  | 4 => "DINT".toUTF8.data.toList
  | 5 => "USINT".toUTF8.data.toList
  | 6 => "UINT".toUTF8.data.toList
  | 7 => "UDINT".toUTF8.data.toList
  | 8 => "BYTE".toUTF8.data.toList
  | 9 => "WORD".toUTF8.data.toList
  | 10 => "DWORD".toUTF8.data.toList
  | 11 => "TIME".toUTF8.data.toList
  | _ => []
end Go.Proofs.YtdabnnganponpaaGreatDoor.Lx
