/- Package lex in plain words: what each function computes, over lists of bytes. -/
import Derived.WalkKit
import Derived.Test.YtdpkjpjkdmkkpaaGreatDoorShelf
import Derived.Shelf.Slices.Turned
import Derived.Shelf.Strings.Search3
import Derived.WalkSpells
import Derived.WalkLawsBesides
import Derived.Lib.Hide
import Derived.Lib.SmallJoins
import Derived.Deep.QuietTactic
import Derived.BigQuiet
import Derived.Deep.DeepFit
import Derived.Deep.DeepMust
import Derived.Lib.AppendIntMem
import Derived.Lib.ItoaNum
import Derived.Lib.AtoiAll
import Derived.Lib.IndexMore
import Derived.Lib.Strings
namespace Go.Proofs.YtdpkjpjkdmkkpaaGreatDoor.Lx

def dig (c : UInt8) : Bool := decide (48 ≤ c.toNat) && decide (c.toNat ≤ 57)
def lett (c : UInt8) : Bool := (decide (97 ≤ c.toNat) && decide (c.toNat ≤ 122)) || (decide (65 ≤ c.toNat) && decide (c.toNat ≤ 90)) || c.toNat == 95
def wordB (c : UInt8) : Bool := lett c || dig c
def addrB (c : UInt8) : Bool := (lett c && !(c.toNat == 95)) || dig c || c.toNat == 46

def span (p : UInt8 → Bool) : List UInt8 → Nat
  | [] => 0
  | c :: l => if p c then span p l + 1 else 0

theorem span_le (p : UInt8 → Bool) (l : List UInt8) : span p l ≤ l.length := by
  induction l with
  | nil => simp [span]
  | cons c l ih => simp only [span]; split <;> simp <;> omega

/-- A byte's value as a digit, or -1. -/
def valD (c : UInt8) : Int := if dig c then c.toNat - 48 else if 65 ≤ c.toNat ∧ c.toNat ≤ 70 then (c.toNat : Int) - 65 + 10 else -1
def valOk (c : UInt8) (base : Int) : Bool := decide (0 ≤ valD c) && decide (valD c < base)

/-- The digits: 'ok' says that the byte ahead is there and no underline; 'i' counts the bytes gone. -/
def digF (base : Int) : List UInt8 → Bool → Nat → Int → Nat → Int × Nat
  | [], _, _, n, size => (n, size)
  | c :: l, ok, i, n, size =>
    if c.toNat = 95 ∧ ok = true then digF base l false (i + 1) n size
    else if valOk c base then digF base l true (i + 1) (min (n * base + valD c) 1099511627776) (i + 1)
    else (n, size)
def digits (l : List UInt8) (base : Int) : Int × Nat := digF base l false 0 0 0

theorem digF_size (base : Int) (l : List UInt8) (ok : Bool) (i : Nat) (n : Int) (size : Nat) (h : size ≤ i) :
    (digF base l ok i n size).2 ≤ i + l.length := by
  induction l generalizing ok i n size with
  | nil => simpa [digF] using h
  | cons c l ih =>
    simp only [digF]
    split
    · have := ih false (i + 1) n size (by omega); simp; omega
    · split
      · have := ih true (i + 1) (min (n * base + valD c) 1099511627776) (i + 1) (by omega); simp; omega
      · simp; omega
theorem digits_size (l : List UInt8) (base : Int) : (digits l base).2 ≤ l.length := by
  have := digF_size base l false 0 0 0 (by omega); simpa [digits] using this

theorem valD_lt (c : UInt8) : valD c ≤ 15 := by
  unfold valD dig
  have := c.toNat_lt
  split
  · rename_i h; simp at h; omega
  · split <;> omega

theorem digF_range (base : Int) (hb : 0 ≤ base) (l : List UInt8) (ok : Bool) (i : Nat) (n : Int) (size : Nat) (h : 0 ≤ n ∧ n ≤ 1099511627776) :
    0 ≤ (digF base l ok i n size).1 ∧ (digF base l ok i n size).1 ≤ 1099511627776 := by
  induction l generalizing ok i n size with
  | nil => simpa [digF] using h
  | cons c l ih =>
    simp only [digF]
    split
    · exact ih _ _ _ _ h
    · split
      · rename_i hv
        have h0 : 0 ≤ valD c := by simp [valOk] at hv; omega
        have h1 : 0 ≤ n * base := Int.mul_nonneg h.1 hb
        exact ih _ _ _ _ ⟨by omega, by omega⟩
      · exact h
theorem digits_range (l : List UInt8) (base : Int) (hb : 0 ≤ base) : 0 ≤ (digits l base).1 ∧ (digits l base).1 ≤ 1099511627776 :=
  digF_range base hb l false 0 0 0 (by omega)

/-- A number, its size, the error's number. -/
def number (l : List UInt8) : Int × Nat × Int :=
  let d := digits l 10
  if d.2 = 0 then (0, 0, 120)
  else if l[d.2]? = some 35 ∧ (l.take d.2 = [50] ∨ l.take d.2 = [56] ∨ l.take d.2 = [49, 54]) then
    let m := digits (l.drop (d.2 + 1)) d.1
    if m.2 = 0 then (0, 0, 120) else (m.1, d.2 + 1 + m.2, 0)
  else (d.1, d.2, 0)

/-- A token. -/
structure Tok where
  tok : Int
  kind : Int
  n : Int
  text : List UInt8
  at_ : Int
deriving DecidableEq, Repr

def tok0 : Tok := ⟨0, 0, 0, [], 0⟩

/-- The kinds' names, in their order, from 1. -/
def kindName : Nat → List UInt8
  | 1 => "BOOL".toUTF8.data.toList
  | 2 => "SINT".toUTF8.data.toList
  | 3 => "INT".toUTF8.data.toList
  | 4 => "DINT".toUTF8.data.toList
  | 5 => "USINT".toUTF8.data.toList
  | 6 => "UINT".toUTF8.data.toList
  | 7 => "UDINT".toUTF8.data.toList
  | 8 => "BYTE".toUTF8.data.toList
  | 9 => "WORD".toUTF8.data.toList
  | 10 => "DWORD".toUTF8.data.toList
  | 11 => "TIME".toUTF8.data.toList
  | _ => []
end Go.Proofs.YtdpkjpjkdmkkpaaGreatDoor.Lx

/- Small words that all walks of this seat share: the world's fixed facts ('Env'), and how they last. -/
namespace Go.Proofs.YtdpkjpjkdmkkpaaGreatDoor
open Go.RowKit

theorem ret_i64 {a b : Int} (h : a = b) : Ending.returned (.int .i64 a) = .returned (.int .i64 b) := by rw [h]
theorem ret_bool {a b : Bool} (h : a = b) : Ending.returned (.bool a) = .returned (.bool b) := by rw [h]
theorem ret_str {a b : ByteArray} (h : a = b) : Ending.returned (.string a) = .returned (.string b) := by rw [h]

/-- What the library's variables hold, as far as any function here asks: each lies below every block that a call makes. -/
structure Env (w : World) : Prop where
  maxLen : ∃ m, w.cell? ⟨3, 0, none⟩ = some (.int .i64 m)
  syn : ∃ tp p, w.cell? ⟨4, 0, none⟩ = some (.iface tp p)
  rng : ∃ tp p, w.cell? ⟨5, 0, none⟩ = some (.iface tp p)
  pow : Lib.TabIs Tryz.prog w "internal/strconv.uint64pow10" .u64 Lib.pow10Tab

theorem powAt : Tryz.prog.globalNamed "internal/strconv.uint64pow10" = some 6 := by kernel_rfl

theorem lt_of_cell {w : World} {b o : Nat} {v : Value} (h : w.cell? ⟨b, o, none⟩ = some v) : b < w.heap.size := by
  by_cases hb : b < w.heap.size
  · exact hb
  · simp [World.cell?, Array.getElem?_eq_none (Nat.le_of_not_lt hb)] at h

theorem Env.below {w w' : World} (h : Env w) (hb : Below w.heap.size w w') : Env w' where
  maxLen := let ⟨m, hm⟩ := h.maxLen; ⟨m, (hb.cell (p := ⟨_, _, none⟩) (lt_of_cell hm)).trans hm⟩
  syn := let ⟨a, b, hm⟩ := h.syn; ⟨a, b, (hb.cell (p := ⟨_, _, none⟩) (lt_of_cell hm)).trans hm⟩
  rng := let ⟨a, b, hm⟩ := h.rng; ⟨a, b, (hb.cell (p := ⟨_, _, none⟩) (lt_of_cell hm)).trans hm⟩
  pow := Joins.tab_stays powAt h.pow hb (Nat.le_refl _)

theorem btr {w w1 w2 : World} (h : Below w.heap.size w w1) (k : Below w1.heap.size w1 w2) : Below w.heap.size w w2 := h.trans (k.mono h.size)
theorem bbytes {w w1 : World} {e : TypeId} (h : w1 = w ∨ ∃ t, w1 = Lib.bytesWorld w e t) : Below w.heap.size w w1 := by
  rcases h with rfl | ⟨t, rfl⟩
  · exact Below.refl _ _
  · exact Lib.bytesWorld_below _ _ _
theorem bgrow {w w1 : World} (h : ∃ k os, w1 = Sort.grow (w.drewN k) os) : Below w.heap.size w w1 := by
  obtain ⟨k, os, rfl⟩ := h
  exact Lib.below_grow _ _ (Nat.le_refl _) k os

/-- A callee's contract met inside a region that draws: the draws add up. -/
theorem quiet_add_same {P : Program} {f : FuncId} {args : Array Value} {w : World} {a n : Nat} {v : Value}
    (h : Calls P f args (w.drewN (a + n)) fun e w' => e = .returned v ∧ w.drewN (a + n) = w') :
    Calls P f args (w.drewN (a + n)) fun e w'' => e = .returned v ∧ ∃ m, w'' = w.drewN (a + m) :=
  h.mono fun _ _ ⟨he, hm⟩ => ⟨he, n, hm.symm⟩
theorem quiet_same {P : Program} {f : FuncId} {args : Array Value} {w : World} {n : Nat} {v : Value}
    (h : Calls P f args (w.drewN n) fun e w' => e = .returned v ∧ w.drewN n = w') : Calls P f args (w.drewN n) fun e w'' => e = .returned v ∧ ∃ m, w'' = w.drewN m :=
  h.mono fun _ _ ⟨he, hm⟩ => ⟨he, n, hm.symm⟩
theorem quiet_add {P : Program} {f : FuncId} {args : Array Value} {w : World} {a n : Nat} {v : Value}
    (h : Calls P f args (w.drewN (a + n)) fun e w' => e = .returned v ∧ ∃ m, w' = (w.drewN (a + n)).drewN m) :
    Calls P f args (w.drewN (a + n)) fun e w'' => e = .returned v ∧ ∃ m, w'' = w.drewN (a + m) :=
  h.mono fun _ _ ⟨he, m, hm⟩ => ⟨he, n + m, by rw [hm, World.drewN_drewN, Nat.add_assoc]⟩

/-- strconv.Atoi of what is no numeral, and none that is too large. -/
theorem atoi_bad (s : ByteArray) (hlim : s.size ≤ 281474976710656) (h1 : ∀ v, Lib.atoiAll s.data.toList ≠ .ok v) (h2 : Lib.atoiAll s.data.toList ≠ .range) (ev : Value) (w : World)
    (hv : w.cell? ⟨4, 0, none⟩ = some ev) (hev : ev = .nilIface ∨ ∃ te pe, ev = .iface te pe) :
    Calls Tryz.prog 119 #[.string s] w fun e w' => ∃ x, e = .returned (.tuple #[.int .i64 0, .iface 237 x]) ∧ Below w.heap.size w w' :=
  (Any.strconv_Atoi_syntax Tryz.laysC172 s hlim (by cases hx : Lib.atoiAll s.data.toList with
    | ok v => exact absurd hx (h1 v)
    | range => exact absurd hx h2
    | _ => rfl) ev w hv hev).mono fun e w' ⟨N, he, _, _, hb⟩ => ⟨_, he, hb⟩
end Go.Proofs.YtdpkjpjkdmkkpaaGreatDoor

/- The walks through package lex: bytes, spans, digits, numbers. -/
namespace Go.Proofs.YtdpkjpjkdmkkpaaGreatDoor
open Go.RowKit Lx

theorem span_yes {p : UInt8 → Bool} {s : ByteArray} {k : Nat} (hk : k < s.size) (hp : p s[k] = true) :
    span p (s.data.toList.drop k) = span p (s.data.toList.drop (k + 1)) + 1 := by
  rw [List.drop_eq_getElem_cons (by simpa using hk)]
  have : s.data.toList[k]'(by simpa using hk) = s[k] := by simp [ByteArray.getElem_eq_getElem_data]
  rw [this]; simp [span, hp]
theorem span_no {p : UInt8 → Bool} {s : ByteArray} {k : Nat} (hk : k < s.size) (hp : p s[k] = false) :
    span p (s.data.toList.drop k) = 0 := by
  rw [List.drop_eq_getElem_cons (by simpa using hk)]
  have : s.data.toList[k]'(by simpa using hk) = s[k] := by simp [ByteArray.getElem_eq_getElem_data]
  rw [this]; simp [span, hp]
theorem span_out {p : UInt8 → Bool} {s : ByteArray} {k : Nat} (hk : s.size ≤ k) : span p (s.data.toList.drop k) = 0 := by
  rw [List.drop_of_length_le (by simpa using hk)]; rfl

theorem nat_beq (a b : Nat) : ((a : Int) == (b : Int)) = (a == b) := by
  rw [Bool.eq_iff_iff]; simp; omega

end Go.Proofs.YtdpkjpjkdmkkpaaGreatDoor

/- The walks through package lex: digits, numbers. -/
namespace Go.Proofs.YtdpkjpjkdmkkpaaGreatDoor
open Go.RowKit Lx

theorem ret_tib {a b : Int} {c d : Bool} (h : a = b) (k : c = d) : Ending.returned (.tuple #[.int .i64 a, .bool c]) = .returned (.tuple #[.int .i64 b, .bool d]) := by rw [h, k]

theorem drop_at {s : ByteArray} {k : Nat} (hk : k < s.size) : s.data.toList.drop k = s[k] :: s.data.toList.drop (k + 1) := by
  rw [List.drop_eq_getElem_cons (by simpa using hk)]
  rw [show s.data.toList[k]'(by simpa using hk) = s[k] by simp [ByteArray.getElem_eq_getElem_data]]

def DigAt (base : Int) (s : ByteArray) (r : Int × Nat) (k : Nat) (acc : Int) (sz : Nat) (ok : Bool) : Prop := digF base (s.data.toList.drop k) ok k acc sz = r

theorem DigAt.und {base : Int} {s : ByteArray} {r : Int × Nat} {k : Nat} {acc : Int} {sz : Nat} (h : DigAt base s r k acc sz true) (hk : k < s.size) (hc : s[k].toNat = 95) :
    DigAt base s r (k + 1) acc sz false := by
  unfold DigAt at h ⊢; rw [drop_at hk, digF, if_pos ⟨hc, rfl⟩] at h; exact h
theorem DigAt.yes {base : Int} {s : ByteArray} {r : Int × Nat} {k : Nat} {acc : Int} {sz : Nat} {ok : Bool} (h : DigAt base s r k acc sz ok) (hk : k < s.size) (hc : ¬ (s[k].toNat = 95 ∧ ok = true)) (hv : valOk s[k] base = true) :
    DigAt base s r (k + 1) (min (acc * base + valD s[k]) 1099511627776) (k + 1) true := by
  unfold DigAt at h ⊢; rw [drop_at hk, digF, if_neg hc, if_pos hv] at h; exact h
theorem DigAt.no {base : Int} {s : ByteArray} {r : Int × Nat} {k : Nat} {acc : Int} {sz : Nat} {ok : Bool} (h : DigAt base s r k acc sz ok) (hk : k < s.size) (hc : ¬ (s[k].toNat = 95 ∧ ok = true)) (hv : valOk s[k] base = false) :
    r = (acc, sz) := by
  unfold DigAt at h; rw [drop_at hk, digF, if_neg hc, if_neg (by simp [hv])] at h; exact h.symm
theorem DigAt.over {base : Int} {s : ByteArray} {r : Int × Nat} {k : Nat} {acc : Int} {sz : Nat} {ok : Bool} (h : DigAt base s r k acc sz ok) (hk : s.size ≤ k) : r = (acc, sz) := by
  unfold DigAt at h; rw [List.drop_of_length_le (by simpa using hk)] at h; exact h.symm
theorem dig_end {r : Int × Nat} {a : Int} {n : Nat} {w : World} (h : r = (a, n)) :
    Ending.returned (.tuple #[.int .i64 a, .int .i64 n]) = .returned (.tuple #[.int .i64 r.1, .int .i64 r.2]) ∧ w = w := by subst h; exact ⟨rfl, rfl⟩

theorem valOk_not95 {c : UInt8} {base : Int} (h : valOk c base = true) : c.toNat ≠ 95 := by
  intro h95
  simp [valOk, valD, dig, h95] at h

end Go.Proofs.YtdpkjpjkdmkkpaaGreatDoor

/- The walks through package lex: number. -/
namespace Go.Proofs.YtdpkjpjkdmkkpaaGreatDoor
open Go.RowKit Lx

theorem digF_pow (l : List UInt8) (ok : Bool) (i : Nat) (n : Int) (size : Nat) (h : n < 10 ^ size) (hs : size ≤ i) :
    (digF 10 l ok i n size).1 < 10 ^ (digF 10 l ok i n size).2 := by
  induction l generalizing ok i n size with
  | nil => simpa [digF] using h
  | cons c l ih =>
    simp only [digF]
    split
    · exact ih _ _ _ _ h (by omega)
    · split
      · rename_i hv
        simp [valOk] at hv
        refine ih _ _ _ _ ?_ (by omega)
        have h1 : (10 : Int) ^ (size + 1) ≤ 10 ^ (i + 1) := by
          have : (10 : Nat) ^ (size + 1) ≤ 10 ^ (i + 1) := Nat.pow_le_pow_right (by omega) (by omega)
          exact_mod_cast this
        have h2 : (10 : Int) ^ (size + 1) = 10 ^ size * 10 := Int.pow_succ _ _
        omega
      · exact h
theorem digits_small {l : List UInt8} {n : Int} {z : Nat} (h : digits l 10 = (n, z)) (hz : z ≤ 2) : n ≤ 99 := by
  have h1 := digF_pow l false 0 0 0 (by decide) (by omega)
  rw [show digF 10 l false 0 0 0 = (n, z) from h] at h1
  have h2 : (10 : Int) ^ z ≤ 10 ^ 2 := by
    have : (10 : Nat) ^ z ≤ 10 ^ 2 := Nat.pow_le_pow_right (by omega) hz
    exact_mod_cast this
  have h3 : n < 10 ^ z := h1
  have h4 : (10 : Int) ^ 2 = 100 := by decide
  omega

def basesS : List ByteArray := [⟨#[50]⟩, ⟨#[56]⟩, ⟨#[49, 54]⟩]
theorem bases_iff {s : ByteArray} {z : Nat} : Lib.containsS basesS (s.extract 0 z) = true ↔ (s.data.toList.take z = [50] ∨ s.data.toList.take z = [56] ∨ s.data.toList.take z = [49, 54]) := by
  rw [Lib.containsS_iff]
  have h : ∀ l : List UInt8, s.extract 0 z = ⟨l.toArray⟩ ↔ s.data.toList.take z = l := by
    intro l
    constructor
    · intro h
      have := congrArg (fun b : ByteArray => b.data.toList) h
      simpa [ByteArray.data_extract] using this
    · intro h
      apply ByteArray.ext
      rw [← h, ByteArray.data_extract]
      apply Array.toList_inj.1
      simp
  simp only [basesS, List.mem_cons, List.not_mem_nil, or_false]
  rw [← h [50], ← h [56], ← h [49, 54]]

theorem ext_drop (s : ByteArray) (k : Nat) : (s.extract k s.size).data.toList = s.data.toList.drop k := by
  rw [ByteArray.data_extract, Array.toList_extract, List.extract_eq_take_drop]
  exact List.take_of_length_le (by have : s.data.toList.length = s.size := rfl; rw [List.length_drop]; omega)
theorem size_extract_le (s : ByteArray) (a b : Nat) : (s.extract a b).size ≤ s.size := by
  simp [ByteArray.size_extract]; omega

theorem num_end {r : Int × Nat × Int} {a : Int} {n : Nat} {c : Int} {w w' : World} (h : r = (a, n, c)) (hb : Below w.heap.size w w') :
    Ending.returned (.tuple #[.int .i64 a, .int .i64 n, .int .i64 c]) = .returned (.tuple #[.int .i64 r.1, .int .i64 r.2.1, .int .i64 r.2.2]) ∧ Below w.heap.size w w' := by subst h; exact ⟨rfl, hb⟩

end Go.Proofs.YtdpkjpjkdmkkpaaGreatDoor

/- Plain words on direct addresses: what package addr's functions compute, as functions on numbers and lists of bytes. No program in sight. -/
namespace Go.Proofs.YtdpkjpjkdmkkpaaGreatDoor.Ad

def aSize (a : Int) : Int := if a = 1 ∨ a = 2 ∨ a = 3 then 128 else if a = 4 ∨ a = 5 ∨ a = 6 then 64 else 0
def aBit (a : Int) : Bool := decide (a = 1 ∨ a = 2 ∨ a = 3)
def aSign (a : Int) : List UInt8 :=
  if a = 1 then [37, 73, 88] else if a = 2 then [37, 81, 88] else if a = 3 then [37, 77, 88] else if a = 4 then [37, 73, 87] else if a = 5 then [37, 81, 87] else if a = 6 then [37, 77, 87] else []

/-- A number of up to three digits as it is written. -/
def dd (n : Nat) : List UInt8 :=
  if n < 10 then [UInt8.ofNat (48 + n)] else if n < 100 then [UInt8.ofNat (48 + n / 10), UInt8.ofNat (48 + n % 10)]
  else [UInt8.ofNat (48 + n / 100), UInt8.ofNat (48 + n / 10 % 10), UInt8.ofNat (48 + n % 10)]

theorem dd_eq {n : Nat} (h : n < 1000) : Lib.decDigits n = dd n := by
  unfold dd
  by_cases h1 : n < 10
  · rw [if_pos h1, Lib.decDigits_one h1]
  by_cases h2 : n < 100
  · rw [if_neg h1, if_pos h2, Lib.decDigits_two h1 h2]
  · rw [if_neg h1, if_neg h2, Lib.decDigits, dif_neg h1, Lib.decDigits_two (by omega) (by omega)]
    have : n / 10 / 10 = n / 100 := by omega
    simp [this]

/-- A number of up to three digits: none where the text is no such number. -/
def numOf (l : List UInt8) : Option Nat := (List.range 1000).find? fun n => dd n == l

theorem numOf_some {l : List UInt8} {n : Nat} (h : numOf l = some n) : n < 1000 ∧ dd n = l := by
  have h1 := List.find?_some h
  have h2 := List.mem_of_find?_eq_some h
  exact ⟨List.mem_range.1 h2, by simpa using h1⟩

theorem atoi_dd : ∀ n : Fin 1000, Lib.atoiAll (dd n) = .ok (n : Nat) := by decide +kernel

theorem dd_inj {n m : Nat} (hn : n < 1000) (hm : m < 1000) (h : dd n = dd m) : n = m := by
  have h1 := atoi_dd ⟨n, hn⟩
  have h2 := atoi_dd ⟨m, hm⟩
  simp only at h1 h2
  rw [h, h2] at h1
  injection h1 with h1
  omega

theorem numOf_dd {n : Nat} (hn : n < 1000) : numOf (dd n) = some n := by
  cases h : numOf (dd n) with
  | some m =>
    obtain ⟨hm, he⟩ := numOf_some h
    rw [dd_inj hm hn he]
  | none =>
    have := List.find?_eq_none.1 h n (List.mem_range.2 hn)
    simp at this

/-- An int's bounds. -/
def Is64 (n : Int) : Prop := -9223372036854775808 ≤ n ∧ n ≤ 9223372036854775807

theorem is64_sat (l : List UInt8) : Is64 (Lib.atoiSat l) := by unfold Is64 Lib.atoiSat; split <;> omega

/-- Is there such a number? -/
def numOk (l : List UInt8) : Bool := (numOf l).isSome

/-- What 'number' tells of a text: a number beside the word whether it is one. -/
def Num (l : List UInt8) (n : Int) (b : Bool) : Prop := b = numOk l ∧ Is64 n ∧ ∀ m, numOf l = some m → n = m

theorem num_bad {l : List UInt8} (h : ∀ v, Lib.atoiAll l ≠ .ok v) : numOf l = none := by
  cases hn : numOf l with
  | none => rfl
  | some n =>
    obtain ⟨h1, rfl⟩ := numOf_some hn
    exact absurd (atoi_dd ⟨n, h1⟩) (h _)

theorem nDigits_len {n : Nat} (h : (Lib.decDigits n).length ≤ 3) : n < 1000 := by
  by_cases hn : n < 1000
  · exact hn
  · exfalso
    rw [Lib.decDigits, dif_neg (by omega), Lib.decDigits, dif_neg (by omega), Lib.decDigits, dif_neg (by omega)] at h
    simp at h
    have : (Lib.decDigits (n / 10 / 10 / 10)).length = 0 := by rw [h]; rfl
    rw [Lib.decDigits_length] at this
    unfold Lib.nDigits at this
    split at this <;> omega

theorem num_ok {l : List UInt8} {v : Int} (h : Lib.atoiAll l = .ok v) : numOf l = if l.length ≤ 3 ∧ Lib.itoa v = l ∧ 0 ≤ v then some v.toNat else none := by
  split
  · rename_i hc
    obtain ⟨h1, h2, h3⟩ := hc
    have h4 : Lib.decDigits v.toNat = l := by rw [← h2]; unfold Lib.itoa; rw [if_neg (by omega)]
    have h5 : v.toNat < 1000 := nDigits_len (by rw [h4]; exact h1)
    rw [← h4, dd_eq h5, numOf_dd h5]
  · rename_i hc
    cases hn : numOf l with
    | none => rfl
    | some n =>
      exfalso
      obtain ⟨h1, rfl⟩ := numOf_some hn
      have h2 := atoi_dd ⟨n, h1⟩
      simp only at h2
      rw [h] at h2
      injection h2 with h2
      subst h2
      refine hc ⟨?_, ?_, by omega⟩
      · unfold dd; split
        · simp
        · split <;> simp
      · unfold Lib.itoa; rw [if_neg (by omega)]; simp [dd_eq h1]

/-- Behind its sign: a register's place, a bit's place. -/
def aW (a : Int) (o : Option Nat) : Option Int := match o with
  | some m => if (m : Int) < aSize a then some m else none
  | none => none
def aB (a : Int) (pt : Bool) (o1 o2 : Option Nat) : Option Int :=
  if pt then
    match o2, o1 with
    | some n, some m => if n ≤ 7 ∧ 8 * (m : Int) + n < aSize a then some (8 * (m : Int) + n) else none
    | _, _ => none
  else none
def aAt (a : Int) (rest : List UInt8) : Option Int :=
  if aBit a then aB a (Lib.cut rest [46]).2.2 (numOf (Lib.cut rest [46]).1) (numOf (Lib.cut rest [46]).2.1) else aW a (numOf rest)

/-- From area k + 1 on. -/
def aFrom (l : List UInt8) : Nat → Nat → Int × Int × Int
  | 0, _ => (0, 0, 100)
  | d + 1, k =>
    if Lib.hasPrefix l (aSign (1 + (k : Int))) then
      match aAt (1 + (k : Int)) (Lib.trimPrefix l (aSign (1 + (k : Int)))) with
      | some n => (1 + (k : Int), n, 0)
      | none => (0, 0, 100)
    else aFrom l d (k + 1)
theorem aFrom_miss {l : List UInt8} {k : Nat} (h : k < 6) (hp : Lib.hasPrefix l (aSign (1 + (k : Int))) = false) : aFrom l (6 - (k + 1)) (k + 1) = aFrom l (6 - k) k := by
  rw [show 6 - k = (6 - (k + 1)) + 1 by omega, aFrom, hp]; rfl
theorem aFrom_hit {l : List UInt8} {k : Nat} (h : k < 6) (hp : Lib.hasPrefix l (aSign (1 + (k : Int))) = true) :
    aFrom l (6 - k) k = match aAt (1 + (k : Int)) (Lib.trimPrefix l (aSign (1 + (k : Int)))) with
      | some n => (1 + (k : Int), n, 0)
      | none => (0, 0, 100) := by
  rw [show 6 - k = (6 - (k + 1)) + 1 by omega, aFrom, hp]; rfl
theorem aAt_word {a : Int} {r : List UInt8} (hb : aBit a = false) : aAt a r = aW a (numOf r) := by rw [aAt, hb]; exact if_neg Bool.false_ne_true
theorem aAt_bit {a : Int} {r : List UInt8} (hb : aBit a = true) : aAt a r = aB a (Lib.cut r [46]).2.2 (numOf (Lib.cut r [46]).1) (numOf (Lib.cut r [46]).2.1) := by rw [aAt, hb]; exact if_pos rfl
theorem numOk_some {l : List UInt8} (h : numOk l = true) : ∃ m, numOf l = some m := Option.isSome_iff_exists.1 h
theorem Num.yes {l : List UInt8} {n : Int} (h : Num l n true) : ∃ m, numOf l = some m ∧ n = (m : Int) :=
  let ⟨m, hm⟩ := numOk_some h.1.symm; ⟨m, hm, h.2.2 m hm⟩
theorem numOk_none {l : List UInt8} (h : numOk l = false) : numOf l = none := by
  cases hn : numOf l with
  | none => rfl
  | some m => simp [numOk, hn] at h
theorem Num.no {l : List UInt8} {n : Int} (h : Num l n false) : numOf l = none := numOk_none h.1.symm
def aParse (l : List UInt8) : Int × Int × Int := aFrom l 6 0

theorem Num.word {l : List UInt8} {a n sz : Int} {b : Bool} (h : Num l n b) (hs : aSize a = sz) : aW a (numOf l) = if b = true ∧ n < sz then some n else none := by
  cases b with
  | false => rw [h.no]; rfl
  | true =>
    obtain ⟨m, hm, rfl⟩ := h.yes
    rw [hm, aW, hs]; simp
theorem Num.bit {l1 l2 : List UInt8} {a n1 n2 sz : Int} {b1 b2 pt : Bool} (h1 : Num l1 n1 b1) (h2 : Num l2 n2 b2) (hs : aSize a = sz) :
    aB a pt (numOf l1) (numOf l2) = if pt = true ∧ b2 = true ∧ n2 ≤ 7 ∧ b1 = true ∧ 8 * n1 + n2 < sz then some (8 * n1 + n2) else none := by
  unfold aB
  cases pt with
  | false => simp
  | true =>
    cases b2 with
    | false => rw [h2.no]; simp
    | true =>
      obtain ⟨m2, hm2, rfl⟩ := h2.yes
      cases b1 with
      | false => rw [h1.no, hm2]; simp
      | true =>
        obtain ⟨m1, hm1, rfl⟩ := h1.yes
        rw [hm1, hm2, hs]; simp; split <;> split <;> first | rfl | omega
theorem Num.bit_no {l1 l2 : List UInt8} {a n2 : Int} {b2 pt : Bool} (h2 : Num l2 n2 b2) (hs : pt = false ∨ b2 = false ∨ 7 < n2) :
    aB a pt (numOf l1) (numOf l2) = none := by
  unfold aB
  cases pt with
  | false => simp
  | true =>
    cases b2 with
    | false => rw [h2.no]; simp
    | true =>
      obtain ⟨m2, hm2, rfl⟩ := h2.yes
      rw [hm2]
      cases numOf l1 with
      | none => rfl
      | some m1 => simp at hs; simp; omega
theorem parse_none {l : List UInt8} {k : Nat} (h : k < 6) (hp : Lib.hasPrefix l (aSign (1 + (k : Int))) = true) (hf : aFrom l (6 - k) k = aParse l)
    (ha : aAt (1 + (k : Int)) (Lib.trimPrefix l (aSign (1 + (k : Int)))) = none) : aParse l = (0, 0, 100) := by
  rw [← hf, aFrom_hit h hp, ha]
theorem parse_some {l : List UInt8} {k : Nat} {n : Int} (h : k < 6) (hp : Lib.hasPrefix l (aSign (1 + (k : Int))) = true) (hf : aFrom l (6 - k) k = aParse l)
    (ha : aAt (1 + (k : Int)) (Lib.trimPrefix l (aSign (1 + (k : Int)))) = some n) : aParse l = (1 + (k : Int), n, 0) := by
  rw [← hf, aFrom_hit h hp, ha]
theorem cut_le (l p : List UInt8) : (Lib.cut l p).1.length ≤ l.length ∧ (Lib.cut l p).2.1.length ≤ l.length := by
  unfold Lib.cut
  split
  · exact ⟨List.length_take_le' _ _, by simp⟩
  · exact ⟨Nat.le_refl _, by simp⟩
/-- A text cut at its first such piece. -/
def Cut (l p c1 c2 : List UInt8) (pt : Bool) : Prop := Lib.cut l p = (c1, c2, pt)
theorem Cut.short {l p c1 c2 : List UInt8} {pt : Bool} (h : Cut l p c1 c2 pt) {n : Nat} (hl : l.length ≤ n) : (⟨c1.toArray⟩ : ByteArray).size ≤ n ∧ (⟨c2.toArray⟩ : ByteArray).size ≤ n := by
  have := cut_le l p
  rw [show Lib.cut l p = _ from h] at this
  simp only at this
  exact ⟨by show c1.toArray.size ≤ n; rw [List.size_toArray]; omega, by show c2.toArray.size ≤ n; rw [List.size_toArray]; omega⟩
theorem Cut.at {l c1 c2 : List UInt8} {a : Int} {pt : Bool} (h : Cut l [46] c1 c2 pt) (hb : aBit a = true) : aAt a l = aB a pt (numOf c1) (numOf c2) := by
  rw [aAt_bit hb, h]
/-- A place's address. -/
def aText (a off : Int) : List UInt8 :=
  if off < 0 ∨ aSize a ≤ off then [] else if aBit a then aSign a ++ dd (off / 8).toNat ++ [46] ++ dd (off % 8).toNat else aSign a ++ dd off.toNat
/-- Its number in its table. -/
def aCoil (a off : Int) : Int := if off < 0 ∨ aSize a ≤ off then -1 else if a = 3 ∨ a = 6 then off + aSize a else off
def aTable (f s n : Int) : Int × Int := if n < 0 then (0, 0) else if n < aSize f then (f, n) else if n - aSize f < aSize s then (s, n - aSize f) else (0, 0)
/-- The area and place of a function's number. -/
def aPlace (fn n : Int) : Int × Int :=
  if fn = 1 ∨ fn = 5 ∨ fn = 15 then aTable 2 3 n else if fn = 2 then aTable 1 0 n
  else if fn = 3 ∨ fn = 6 ∨ fn = 16 ∨ fn = 22 ∨ fn = 23 then aTable 5 6 n else if fn = 4 then aTable 4 0 n else (0, 0)
theorem dd_len (n : Nat) : (dd n).length ≤ 3 := by unfold dd; split <;> (try split) <;> simp
theorem aSign_len (a : Int) : (aSign a).length ≤ 3 := by unfold aSign; repeat' (split <;> try simp)
theorem aSize_le (a : Int) : aSize a ≤ 128 := by unfold aSize; split <;> (try split) <;> omega
theorem aSize_nn (a : Int) : 0 ≤ aSize a := by unfold aSize; split <;> (try split) <;> omega
theorem aSize_word {a : Int} (h : aBit a = false) : aSize a ≤ 64 := by
  unfold aSize; rw [if_neg (by simpa [aBit] using h)]; split <;> omega
theorem size_of_list (l : List UInt8) : (⟨l.toArray⟩ : ByteArray).size = l.length := by simp [ByteArray.size]
theorem trim_le (l p : List UInt8) : (Lib.trimPrefix l p).length ≤ l.length := by
  unfold Lib.trimPrefix; split <;> simp
theorem short_trim {s : ByteArray} {p : List UInt8} (hs : s.size < 4294967281) : (⟨(Lib.trimPrefix s.data.toList p).toArray⟩ : ByteArray).size ≤ 281474976710656 := by
  rw [size_of_list]; have := trim_le s.data.toList p; have h : s.data.toList.length = s.size := rfl; omega
theorem short_trim' {s : ByteArray} {p : List UInt8} (hs : s.size < 4294967281) : (⟨(Lib.trimPrefix s.data.toList p).toArray⟩ : ByteArray).size < 4294967281 := by
  rw [size_of_list]; have := trim_le s.data.toList p; have h : s.data.toList.length = s.size := rfl; omega
end Go.Proofs.YtdpkjpjkdmkkpaaGreatDoor.Ad
