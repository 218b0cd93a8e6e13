/- The reference's tokens in plain words: its times (reckoned in 64 bits), tokens, all; and where they are lex's. -/
import Derived.Test.YtdabnnganponpaaGreatDoorLexB6
namespace Go.Proofs.YtdabnnganponpaaGreatDoor
open Lx Ad

/-- The i-th byte, or 0. -/
def cAt (l : List UInt8) (i : Nat) : UInt8 := l.getD i 0
/-- The unit that stands here; -1: none. -/
def rUnit (l : List UInt8) (p : Nat) : Int :=
  if (cAt l p).toNat = 100 then 0 else if (cAt l p).toNat = 104 then 1
  else if (cAt l p).toNat = 109 ∧ (cAt l (p + 1)).toNat = 115 then 4 else if (cAt l p).toNat = 109 then 2
  else if (cAt l p).toNat = 115 then 3 else -1
def rStep (n m : Int) (u : Int) : Int := min (IntKind.i64.wrap (n + min (IntKind.i64.wrap (m * unitMs u.toNat)) 1099511627776)) 1099511627776
/-- The parts of a time: where it ends, how long it is, is there one. -/
def rTimes (l : List UInt8) : Nat → Nat → Int → Int → Bool → Nat × Int × Bool
  | 0, a, n, _, b => (a, n, b)
  | f + 1, a, n, last, b =>
    if dig (cAt l a) = true then
      let d := digits (l.drop a) 10
      let u := rUnit l (a + d.2)
      if u ≤ last then (a, n, b)
      else rTimes l f (a + d.2 + (if u = 4 then 2 else 1)) (rStep n d.1 u) u true
    else (a, n, b)
def rTime (t : Nat × Int × Bool) (n : Int) : Tok × Nat × Int :=
  if t.2.2 = false then (tok0, 0, 120)
  else if n < -2147483648 ∨ 2147483647 < n then (tok0, 0, 163) else (⟨4, 11, n, [], 0⟩, t.1, 0)
/-- A time behind its sign. -/
def rSpan2 (l : List UInt8) (a : Nat) : Tok × Nat × Int :=
  if (cAt l a).toNat = 45 then rTime (rTimes l 6 (a + 1) 0 (-1) false) (IntKind.i64.wrap (-(rTimes l 6 (a + 1) 0 (-1) false).2.1))
  else rTime (rTimes l 6 a 0 (-1) false) (rTimes l 6 a 0 (-1) false).2.1
def rWordTok (l : List UInt8) : Tok × Nat × Int :=
  let z := span wordB l
  let x := mkS (l.take z)
  let k := kindOf x
  if l[z]? = some 35 ∧ (k ≠ 0 ∨ (x.toList == [84]) = true) then
    if k = 11 ∨ k = 0 then rSpan2 l (z + 1) else lTyped l (z + 1) k
  else wordRest x z
def rToken (l : List UInt8) : Tok × Nat × Int := match l with
  | [] => (tok0, 0, 0)
  | c :: t => if c.toNat ≠ 10 ∧ lett c = true then rWordTok (c :: t) else lToken (c :: t)

/-- All tokens from a on. -/
def rT (il : Bool) (l : List UInt8) : Nat → Nat → List Tok → Except (Nat × Int) (List Tok)
  | 0, a, _ => .error (a, 0)
  | f + 1, a, out => match l.drop a with
    | [] => .ok (out ++ [⟨0, 0, 0, [], l.length⟩])
    | c :: t =>
      if blankB il c = true then rT il l f (a + 1) out
      else if c.toNat = 10 then rT il l f (a + 1) (out ++ [⟨7, 0, 0, [10], a⟩])
      else if Lib.hasPrefix (c :: t) [40, 42] = true then
        if Lib.index ((c :: t).drop 2) [42, 41] < 0 then .error (a, 120)
        else rT il l f (a + ((Lib.index ((c :: t).drop 2) [42, 41]).toNat + 4)) out
      else
        let r := rToken (c :: t)
        if r.2.2 ≠ 0 then .error (a, r.2.2) else rT il l f (a + r.2.1) (out ++ [{ r.1 with at_ := a }])
def rTokens (l : List UInt8) (il : Bool) : Except (Nat × Int) (List Tok) :=
  if 65536 < l.length then .error (65536, 121) else rT il l (l.length + 1) 0 []

theorem cAt_drop (l : List UInt8) (a i : Nat) : cAt (l.drop a) i = cAt l (a + i) := by
  unfold cAt
  rw [List.getD_eq_getElem?_getD, List.getD_eq_getElem?_getD, List.getElem?_drop]

theorem pre1 (l : List UInt8) (p : Nat) (k : UInt8) (hk : k ≠ 0) : Lib.hasPrefix (l.drop p) [k] = true ↔ cAt l p = k := by
  unfold cAt
  rw [List.getD_eq_getElem?_getD]
  rcases Nat.lt_or_ge p l.length with h | h
  · rw [List.drop_eq_getElem_cons h, List.getElem?_eq_getElem h]
    simp [Lib.hasPrefix, List.isPrefixOf]
    exact eq_comm
  · rw [List.drop_of_length_le h, List.getElem?_eq_none h]
    simp [Lib.hasPrefix, List.isPrefixOf]
    exact fun h => hk h.symm
theorem pre2 (l : List UInt8) (p : Nat) (k m : UInt8) (hk : k ≠ 0) (hm : m ≠ 0) : Lib.hasPrefix (l.drop p) [k, m] = true ↔ cAt l p = k ∧ cAt l (p + 1) = m := by
  unfold cAt
  rw [List.getD_eq_getElem?_getD, List.getD_eq_getElem?_getD]
  rcases Nat.lt_or_ge p l.length with h | h
  · rw [List.drop_eq_getElem_cons h, List.getElem?_eq_getElem h]
    rcases Nat.lt_or_ge (p + 1) l.length with h2 | h2
    · rw [List.drop_eq_getElem_cons h2, List.getElem?_eq_getElem h2]
      simp [Lib.hasPrefix, List.isPrefixOf]
      exact ⟨fun h => ⟨h.1.symm, h.2.symm⟩, fun h => ⟨h.1.symm, h.2.symm⟩⟩
    · rw [List.drop_of_length_le h2, List.getElem?_eq_none h2]
      simp [Lib.hasPrefix, List.isPrefixOf]
      exact fun _ h => hm h.symm
  · rw [List.drop_of_length_le h, List.getElem?_eq_none h]
    simp [Lib.hasPrefix, List.isPrefixOf]
    exact fun h => absurd h.symm hk
theorem u8n (c k : UInt8) : c.toNat = k.toNat ↔ c = k := ⟨fun h => UInt8.toNat_inj.1 h, fun h => by rw [h]⟩

/-- The two ways of finding a unit. -/
theorem unit_same (l : List UInt8) (p next size : Nat) (hn : next ≤ 5) (hs : size ≠ 0) :
    (unitOf (l.drop p) next size < 0 ∧ rUnit l p ≤ (next : Int) - 1) ∨ (unitOf (l.drop p) next size = rUnit l p ∧ (next : Int) - 1 < rUnit l p ∧ 0 ≤ rUnit l p) := by
  unfold unitOf
  rw [if_neg hs]
  have e0 := pre1 l p 100 (by decide)
  have e1 := pre1 l p 104 (by decide)
  have e2 := pre1 l p 109 (by decide)
  have e3 := pre1 l p 115 (by decide)
  have e4 := pre2 l p 109 115 (by decide) (by decide)
  obtain ⟨c, hc⟩ : ∃ c, cAt l p = c := ⟨_, rfl⟩
  obtain ⟨c', hc'⟩ : ∃ c, cAt l (p + 1) = c := ⟨_, rfl⟩
  rw [hc] at e0 e1 e2 e3 e4
  rw [hc'] at e4
  have n0 := u8n c 100
  have n1 := u8n c 104
  have n2 := u8n c 109
  have n3 := u8n c 115
  have n4 := u8n c' 115
  simp only [show (100 : UInt8).toNat = 100 from rfl, show (104 : UInt8).toNat = 104 from rfl, show (109 : UInt8).toNat = 109 from rfl, show (115 : UInt8).toNat = 115 from rfl] at n0 n1 n2 n3 n4
  have key : (c = 100 ∨ c = 104 ∨ (c = 109 ∧ c' = 115) ∨ (c = 109 ∧ c' ≠ 115) ∨ c = 115) ∨ (c ≠ 100 ∧ c ≠ 104 ∧ c ≠ 109 ∧ c ≠ 115) := by
    by_cases a : c = 100 <;> by_cases b : c = 104 <;> by_cases d : c = 109 <;> by_cases e : c = 115 <;> by_cases f : c' = 115 <;> simp_all
  have h6 : next = 0 ∨ next = 1 ∨ next = 2 ∨ next = 3 ∨ next = 4 ∨ next = 5 := by omega
  unfold rUnit
  rw [hc, hc']
  rcases key with (rfl | rfl | ⟨rfl, rfl⟩ | ⟨rfl, hne⟩ | rfl) | ⟨a, b, d, e⟩ <;> rcases h6 with rfl | rfl | rfl | rfl | rfl | rfl <;> simp_all [unitFrom, unitS]

/-- No part is so great that it can't be reckoned. -/
def smallT (l : List UInt8) : Nat → Nat → Nat → Prop
  | 0, _, _ => True
  | f + 1, a, next =>
    let d := digits (l.drop a) 10
    let k := unitOf (l.drop (a + d.2)) next d.2
    k < 0 ∨ d.1 ≤ 2147483648 ∧ smallT l f (a + d.2 + (unitS k.toNat).length) (k.toNat + 1)

theorem dig_digits {l : List UInt8} {a : Nat} : dig (cAt l a) = true ↔ (digits (l.drop a) 10).2 ≠ 0 := by
  unfold cAt
  rw [List.getD_eq_getElem?_getD]
  rcases Nat.lt_or_ge a l.length with h | h
  · rw [List.drop_eq_getElem_cons h, List.getElem?_eq_getElem h, Option.getD_some]
    obtain ⟨c, hc⟩ : ∃ c, l[a] = c := ⟨_, rfl⟩
    rw [hc]
    rw [digits, digF, if_neg (by simp)]
    cases hv : valOk c 10 with
    | true =>
      rw [if_pos rfl, valOk10_dig hv]
      rcases digF_far 10 (l.drop (a + 1)) true 1 (min (0 * 10 + valD c) 1099511627776) 1 (Nat.le_refl _) with h1 | h1
      · rw [h1]; simp
      · constructor
        · exact fun _ => Nat.ne_of_gt (Nat.lt_of_lt_of_le (by decide) h1)
        · intro _; rfl
    | false =>
      rw [if_neg (by simp)]
      have hd : dig c = false := by
        cases hd : dig c with
        | false => rfl
        | true =>
          exfalso
          unfold valOk valD at hv
          rw [hd] at hv
          simp [dig] at hd hv
          omega
      simp [hd]
  · rw [List.drop_of_length_le h, List.getElem?_eq_none h]
    simp [digits, digF, dig]

theorem step_same {n m : Int} {j : Nat} (hn0 : 0 ≤ n) (hn1 : n ≤ 1099511627776) (hm0 : 0 ≤ m) (hm1 : m ≤ 2147483648) (hj : j < 5) : rStep n m j = timeStep n m j := by
  unfold rStep timeStep
  rw [Int.toNat_natCast]
  match j, hj with
  | 0, _ =>
    simp only [unitMs]
    have e1 : IntKind.i64.wrap (m * 86400000) = m * 86400000 := by simp [IntKind.wrap, IntKind.bits, IntKind.signed]; omega
    rw [e1]
    have e2 : IntKind.i64.wrap (n + min (m * 86400000) 1099511627776) = n + min (m * 86400000) 1099511627776 := by simp [IntKind.wrap, IntKind.bits, IntKind.signed]; omega
    rw [e2]; omega
  | 1, _ =>
    simp only [unitMs]
    have e1 : IntKind.i64.wrap (m * 3600000) = m * 3600000 := by simp [IntKind.wrap, IntKind.bits, IntKind.signed]; omega
    rw [e1]
    have e2 : IntKind.i64.wrap (n + min (m * 3600000) 1099511627776) = n + min (m * 3600000) 1099511627776 := by simp [IntKind.wrap, IntKind.bits, IntKind.signed]; omega
    rw [e2]; omega
  | 2, _ =>
    simp only [unitMs]
    have e1 : IntKind.i64.wrap (m * 60000) = m * 60000 := by simp [IntKind.wrap, IntKind.bits, IntKind.signed]; omega
    rw [e1]
    have e2 : IntKind.i64.wrap (n + min (m * 60000) 1099511627776) = n + min (m * 60000) 1099511627776 := by simp [IntKind.wrap, IntKind.bits, IntKind.signed]; omega
    rw [e2]; omega
  | 3, _ =>
    simp only [unitMs]
    have e1 : IntKind.i64.wrap (m * 1000) = m * 1000 := by simp [IntKind.wrap, IntKind.bits, IntKind.signed]; omega
    rw [e1]
    have e2 : IntKind.i64.wrap (n + min (m * 1000) 1099511627776) = n + min (m * 1000) 1099511627776 := by simp [IntKind.wrap, IntKind.bits, IntKind.signed]; omega
    rw [e2]; omega
  | 4, _ =>
    simp only [unitMs]
    have e1 : IntKind.i64.wrap (m * 1) = m * 1 := by simp [IntKind.wrap, IntKind.bits, IntKind.signed]; omega
    rw [e1]
    have e2 : IntKind.i64.wrap (n + min (m * 1) 1099511627776) = n + min (m * 1) 1099511627776 := by simp [IntKind.wrap, IntKind.bits, IntKind.signed]; omega
    rw [e2]; omega

theorem timeStep_range (n m : Int) (j : Nat) (hn : 0 ≤ n) (hm : 0 ≤ m) (hj : j < 5) : 0 ≤ timeStep n m j ∧ timeStep n m j ≤ 1099511627776 := by
  unfold timeStep
  have h : 0 ≤ min m (1099511627776 / unitMs j + 1) * unitMs j := by
    match j, hj with
    | 0, _ => simp only [unitMs]; omega
    | 1, _ => simp only [unitMs]; omega
    | 2, _ => simp only [unitMs]; omega
    | 3, _ => simp only [unitMs]; omega
    | 4, _ => simp only [unitMs]; omega
  omega

theorem rTimes_same (l : List UInt8) : ∀ (f a : Nat) (n : Int) (next : Nat), next ≤ 5 → 5 - next ≤ f → 0 ≤ n → n ≤ 1099511627776 → smallT l f a next →
    rTimes l (f + 1) a n ((next : Int) - 1) (next != 0) = ((times l f a n next).1, (times l f a n next).2.1, (times l f a n next).2.2 != 0) := by
  intro f
  induction f with
  | zero =>
    intro a n next h5 hf h0 h1 _
    have hn : next = 5 := by omega
    subst hn
    simp only [rTimes, times]
    split
    · rename_i hd
      have hu : rUnit l (a + (digits (l.drop a) 10).2) ≤ ((5 : Nat) : Int) - 1 := by unfold rUnit; repeat' split <;> first | omega | skip
      rw [if_pos hu]
    · rfl
  | succ f ih =>
    intro a n next h5 hf h0 h1 hs
    obtain ⟨d, hd⟩ : ∃ d, digits (l.drop a) 10 = d := ⟨_, rfl⟩
    have hdr := digits_range (l.drop a) 10 (by omega)
    have hdd := dig_digits (l := l) (a := a)
    simp only [smallT] at hs
    rw [hd] at hdr hdd hs
    rw [rTimes, times]
    simp only [hd]
    by_cases hz : d.2 = 0
    · have e : ¬ dig (cAt l a) = true := fun h => hdd.1 h hz
      rw [if_neg e]
      have e2 : unitOf (l.drop (a + d.2)) next d.2 < 0 := by unfold unitOf; rw [if_pos hz]; decide
      rw [if_pos e2]
    · rw [if_pos (hdd.2 hz)]
      rcases unit_same l (a + d.2) next d.2 h5 hz with ⟨h2, h3⟩ | ⟨h2, h3, h4⟩
      · rw [if_pos h2, if_pos h3]
      · have hk : ¬ unitOf (l.drop (a + d.2)) next d.2 < 0 := by omega
        obtain ⟨j, j1, j2, j3, j4⟩ := unitOf_is rfl h5 hk
        rcases hs with hs | ⟨hs1, hs2⟩
        · exact absurd hs hk
        · rw [if_neg hk, if_neg (by omega)]
          rw [j1, Int.toNat_natCast] at hs2 ⊢
          rw [← h2, j1]
          have hlen : (if (j : Int) = 4 then 2 else 1) = (unitS j).length := by
            match j, j3 with
            | 0, _ => rfl
            | 1, _ => rfl
            | 2, _ => rfl
            | 3, _ => rfl
            | 4, _ => rfl
          rw [hlen, step_same h0 h1 hdr.1 hs1 j3]
          have hr := timeStep_range n d.1 j h0 hdr.1 j3
          have := ih (a + d.2 + (unitS j).length) (timeStep n d.1 j) (j + 1) (by omega) (by omega) hr.1 hr.2 hs2
          rw [show (((j + 1 : Nat) : Int) - 1) = j by omega, show (j + 1 != 0) = true by simp] at this
          exact this

theorem times_grow (l : List UInt8) : ∀ (f a : Nat) (n : Int) (next : Nat), 0 ≤ n → n ≤ 1099511627776 → next ≤ 5 → n ≤ (times l f a n next).2.1 ∧ (times l f a n next).2.1 ≤ 1099511627776 := by
  intro f
  induction f with
  | zero => intro a n next h0 h1 _; exact ⟨Int.le_refl _, h1⟩
  | succ f ih =>
    intro a n next h0 h1 h5
    simp only [times]
    split
    · exact ⟨Int.le_refl _, h1⟩
    · rename_i hk
      obtain ⟨j, j1, j2, j3, j4⟩ := unitOf_is rfl h5 hk
      rw [j1, Int.toNat_natCast]
      have hdr := digits_range (l.drop a) 10 (by omega)
      have hr := timeStep_range n (digits (l.drop a) 10).1 j h0 hdr.1 j3
      have := ih (a + (digits (l.drop a) 10).2 + (unitS j).length) (timeStep n (digits (l.drop a) 10).1 j) (j + 1) hr.1 hr.2 (by omega)
      refine ⟨Int.le_trans ?_ this.1, this.2⟩
      unfold timeStep
      have h : 0 ≤ min (digits (l.drop a) 10).1 (1099511627776 / unitMs j + 1) * unitMs j := by
        match j, j3 with
        | 0, _ => simp only [unitMs]; omega
        | 1, _ => simp only [unitMs]; omega
        | 2, _ => simp only [unitMs]; omega
        | 3, _ => simp only [unitMs]; omega
        | 4, _ => simp only [unitMs]; omega
      omega
theorem step_small {n m : Int} {j : Nat} (hj : j < 5) (hn : 0 ≤ n) (_hm : 0 ≤ m) (h : timeStep n m j ≤ 2147483648) : m ≤ 2147483648 := by
  unfold timeStep at h
  match j, hj with
  | 0, _ => simp only [unitMs] at h; omega
  | 1, _ => simp only [unitMs] at h; omega
  | 2, _ => simp only [unitMs] at h; omega
  | 3, _ => simp only [unitMs] at h; omega
  | 4, _ => simp only [unitMs] at h; omega
theorem times_small (l : List UInt8) : ∀ (f a : Nat) (n : Int) (next : Nat), 0 ≤ n → n ≤ 1099511627776 → next ≤ 5 → (times l f a n next).2.1 ≤ 2147483648 → smallT l f a next := by
  intro f
  induction f with
  | zero => intro a n next _ _ _ _; trivial
  | succ f ih =>
    intro a n next h0 h1 h5 h
    simp only [times, smallT] at h ⊢
    by_cases hk : unitOf (l.drop (a + (digits (l.drop a) 10).2)) next (digits (l.drop a) 10).2 < 0
    · exact .inl hk
    · right
      rw [if_neg hk] at h
      obtain ⟨j, j1, j2, j3, j4⟩ := unitOf_is rfl h5 hk
      rw [j1, Int.toNat_natCast] at h ⊢
      have hdr := digits_range (l.drop a) 10 (by omega)
      have hr := timeStep_range n (digits (l.drop a) 10).1 j h0 hdr.1 j3
      have hg := times_grow l f (a + (digits (l.drop a) 10).2 + (unitS j).length) (timeStep n (digits (l.drop a) 10).1 j) (j + 1) hr.1 hr.2 (by omega)
      exact ⟨step_small j3 h0 hdr.1 (by omega), ih _ _ _ hr.1 hr.2 (by omega) h⟩
end Go.Proofs.YtdabnnganponpaaGreatDoor

/- Where the reference's tokens are lex's: in whatever begins with a token that lex takes. -/
namespace Go.Proofs.YtdabnnganponpaaGreatDoor
open Lx Ad

theorem small_end {l : List UInt8} {f a next : Nat} (h : l.length ≤ a) : smallT l f a next := by
  cases f with
  | zero => trivial
  | succ f =>
    simp only [smallT]
    left
    rw [List.drop_of_length_le h]
    simp [digits, digF, unitOf]

theorem digF_bytes (base : Int) : ∀ (x : List UInt8) (ok : Bool) (i : Nat) (n : Int) (sz : Nat), sz ≤ i → ∀ j, i + j < (digF base x ok i n sz).2 → ∃ c, x[j]? = some c ∧ (c.toNat = 95 ∨ valOk c base = true) := by
  intro x
  induction x with
  | nil => intro ok i n sz h j hj; simp [digF] at hj; omega
  | cons c x ih =>
    intro ok i n sz h j hj
    simp only [digF] at hj
    by_cases h1 : c.toNat = 95 ∧ ok = true
    · rw [if_pos h1] at hj
      cases j with
      | zero => exact ⟨c, rfl, .inl h1.1⟩
      | succ j => simpa using ih false (i + 1) n sz (by omega) j (by omega)
    · rw [if_neg h1] at hj
      by_cases h2 : valOk c base = true
      · rw [if_pos h2] at hj
        cases j with
        | zero => exact ⟨c, rfl, .inr h2⟩
        | succ j => simpa using ih true (i + 1) (min (n * base + valD c) 1099511627776) (i + 1) (Nat.le_refl _) j (by omega)
      · rw [if_neg h2] at hj; omega
theorem unit_head {rest : List UInt8} {c : UInt8} (hc : rest[0]? = some c) (h : c.toNat = 95 ∨ valOk c 10 = true) (next size : Nat) : unitOf rest next size < 0 := by
  unfold unitOf
  split
  · decide
  · by_cases h5 : next ≤ 5
    · rcases unitFrom_prefix rest (5 - next) next (-1) (.inl rfl) (by omega) with h2 | ⟨j, h2, h3, h4⟩
      · rw [h2]; decide
      · exfalso
        cases rest with
        | nil => cases hc
        | cons c' t =>
          simp at hc
          subst hc
          have hd : c'.toNat = 95 ∨ (48 ≤ c'.toNat ∧ c'.toNat ≤ 57) := by
            rcases h with h | h
            · exact .inl h
            · have := valOk10_dig h; simp [dig] at this; exact .inr this
          unfold Lib.hasPrefix at h4
          rw [List.isPrefixOf_iff_prefix] at h4
          obtain ⟨u, hu⟩ := h4
          match j, h3 with
          | 0, _ => simp [unitS] at hu; rw [← hu.1] at hd; simp at hd
          | 1, _ => simp [unitS] at hu; rw [← hu.1] at hd; simp at hd
          | 2, _ => simp [unitS] at hu; rw [← hu.1] at hd; simp at hd
          | 3, _ => simp [unitS] at hu; rw [← hu.1] at hd; simp at hd
          | 4, _ => simp [unitS] at hu; rw [← hu.1] at hd; simp at hd
    · have : 5 - next = 0 := by omega
      rw [this]; simp [unitFrom]
theorem unit_nil (next size : Nat) : unitOf [] next size < 0 := by
  unfold unitOf
  split
  · decide
  · have key : ∀ f i, i + f ≤ 5 ∨ f = 0 → unitFrom [] f i (-1) = -1 := by
      intro f
      induction f with
      | zero => intro i _; rfl
      | succ f ih =>
        intro i hi
        simp only [unitFrom]
        have h5 : i < 5 := by omega
        have : Lib.hasPrefix [] (unitS i) = false := by
          match i, h5 with
          | 0, _ => rfl
          | 1, _ => rfl
          | 2, _ => rfl
          | 3, _ => rfl
          | 4, _ => rfl
        rw [this]; exact ih _ (by omega)
    rw [key _ _ (by omega)]; decide

theorem small_take (l : List UInt8) (Z : Nat) : ∀ (f a next : Nat), next ≤ 5 → smallT l f a next → smallT (l.take Z) f a next := by
  intro f
  induction f with
  | zero => intro a next _ _; trivial
  | succ f ih =>
    intro a next hn h
    rcases Nat.lt_or_ge a (l.take Z).length with hal | hal
    · rw [List.length_take] at hal
      obtain ⟨d, hd⟩ : ∃ d, digits (l.drop a) 10 = d := ⟨_, rfl⟩
      simp only [smallT] at h ⊢
      rw [hd] at h
      by_cases hfit : d.2 ≤ Z - a
      · have hd2 : digits ((l.take Z).drop a) 10 = d := by rw [take_drop, digits_take (by rw [hd]; exact hfit), hd]
        rw [hd2]
        have hrest : (l.take Z).drop (a + d.2) = (l.drop (a + d.2)).take (Z - (a + d.2)) := take_drop
        rw [hrest]
        by_cases hu : unitOf ((l.drop (a + d.2)).take (Z - (a + d.2))) next d.2 < 0
        · exact .inl hu
        · obtain ⟨j, j1, j2, j3, j4⟩ := unitOf_is rfl hn hu
          have hpj : Lib.hasPrefix ((l.drop (a + d.2)).take (Z - (a + d.2))) (unitS j) = true := by
            have hs : d.2 ≠ 0 := by
              intro h0
              rw [h0] at hu; exact hu (by simp [unitOf])
            unfold unitOf at j1
            rw [if_neg hs] at j1
            rcases unitFrom_prefix _ (5 - next) next (-1) (.inl rfl) (by omega) with h2 | ⟨j', h2, h3, h4⟩
            · rw [j1] at h2; omega
            · rw [j1] at h2
              have : j' = j := by omega
              subst this; exact h4
          have hpj2 := prefix_mono hpj
          have hs : d.2 ≠ 0 := by
            intro h0
            rw [h0] at hu; exact hu (by simp [unitOf])
          have hge : (j : Int) ≤ unitOf (l.drop (a + d.2)) next d.2 := by
            unfold unitOf
            rw [if_neg hs]
            exact unitFrom_last _ (5 - next) next (-1) (by omega) j j2 j3 hpj2
          rcases h with h | ⟨h1, h2⟩
          · omega
          · right
            refine ⟨h1, ?_⟩
            obtain ⟨u, u1, u2, u3, u4⟩ := unitOf_is (rest := l.drop (a + d.2)) (next := next) (size := d.2) rfl hn (by omega)
            rw [u1, Int.toNat_natCast] at h2
            rw [j1, Int.toNat_natCast]
            by_cases hlen : (unitS u).length ≤ Z - (a + d.2)
            · have he : unitOf ((l.drop (a + d.2)).take (Z - (a + d.2))) next d.2 = unitOf (l.drop (a + d.2)) next d.2 :=
                unitOf_take hn (fun j' hj' => by rw [u1] at hj'; have : j' = u := by omega
                                                 subst this; exact hlen)
              have : j = u := by omega
              subst this
              exact ih _ _ (by omega) h2
            · have ul := unit_len u u3
              have jl := unit_len j j3
              apply small_end
              rw [List.length_take]
              rw [List.length_take] at j4
              omega
      · left
        have hsz := digits_size ((l.take Z).drop a) 10
        have hlen : ((l.take Z).drop a).length = min Z l.length - a := by rw [List.length_drop, List.length_take]
        obtain ⟨d', hd'⟩ : ∃ d', digits ((l.take Z).drop a) 10 = d' := ⟨_, rfl⟩
        rw [hd'] at hsz ⊢
        have hb := digF_bytes 10 (l.drop a) false 0 0 0 (Nat.le_refl _)
        rw [show digF 10 (List.drop a l) false 0 0 0 = d from hd] at hb
        have hle := digits_size (l.drop a) 10
        rw [hd, List.length_drop] at hle
        by_cases hend : d'.2 < Z - a
        · obtain ⟨c, c1, c2⟩ := hb d'.2 (by omega)
          refine unit_head (c := c) ?_ c2 _ _
          rw [List.getElem?_drop, Nat.add_zero, List.getElem?_take, if_pos (by omega)]
          rw [List.getElem?_drop] at c1
          exact c1
        · rw [List.drop_of_length_le (by rw [List.length_take]; omega)]
          exact unit_nil _ _
    · exact small_end hal

theorem cAt_take {l : List UInt8} {Z a : Nat} (h : a < Z) : cAt (l.take Z) a = cAt l a := by
  unfold cAt
  rw [List.getD_eq_getElem?_getD, List.getD_eq_getElem?_getD, take_get h]

theorem minus_same (l : List UInt8) (a : Nat) : ((cAt l a).toNat = 45) ↔ Lib.hasPrefix (l.drop a) [45] = true := by
  rw [pre1 l a 45 (by decide)]
  exact u8n _ 45

theorem wrapT (n : Int) : (n = kWrap 11 n) ↔ ¬ (n < -2147483648 ∨ 2147483647 < n) := by
  unfold kWrap
  simp [IntKind.wrap, IntKind.bits, IntKind.signed]
  omega

/-- A time that can be reckoned is the same in both. -/
theorem span_same {l : List UInt8} {a : Nat} (h : smallT l 5 (if (cAt l a).toNat = 45 then a + 1 else a) 0) : rSpan2 l a = lSpan2 l a := by
  unfold rSpan2 lSpan2
  by_cases hm : (cAt l a).toNat = 45
  · rw [if_pos hm] at h ⊢
    rw [if_pos ((minus_same l a).1 hm)]
    have e := rTimes_same l 5 (a + 1) 0 0 (by omega) (by omega) (by omega) (by omega) h
    have hg := times_grow l 5 (a + 1) 0 0 (by omega) (by omega) (by omega)
    rw [show ((0 : Nat) : Int) - 1 = -1 by rfl, show (0 != 0) = false by rfl] at e
    rw [e]
    obtain ⟨t, ht⟩ : ∃ t, times l 5 (a + 1) 0 0 = t := ⟨_, rfl⟩
    rw [ht] at hg ⊢
    have ew : IntKind.i64.wrap (-t.2.1) = t.2.1 * -1 := by
      rw [show t.2.1 * -1 = -t.2.1 by omega]
      simp [IntKind.wrap, IntKind.bits, IntKind.signed]; omega
    simp only [rTime, lTime, ew]
    by_cases h0 : t.2.2 = 0
    · simp [h0]
    · have : (t.2.2 != 0) = true := by simp [h0]
      rw [this, if_neg (by simp), if_neg h0]
      have hw := wrapT (t.2.1 * -1)
      by_cases hr : t.2.1 * -1 < -2147483648 ∨ 2147483647 < t.2.1 * -1
      · rw [if_pos hr, if_neg (fun k => (hw.1 k) hr)]
      · rw [if_neg hr, if_pos (hw.2 hr)]
  · rw [if_neg hm] at h ⊢
    rw [if_neg (fun k => hm ((minus_same l a).2 k))]
    have e := rTimes_same l 5 a 0 0 (by omega) (by omega) (by omega) (by omega) h
    have hg := times_grow l 5 a 0 0 (by omega) (by omega) (by omega)
    rw [show ((0 : Nat) : Int) - 1 = -1 by rfl, show (0 != 0) = false by rfl] at e
    rw [e]
    obtain ⟨t, ht⟩ : ∃ t, times l 5 a 0 0 = t := ⟨_, rfl⟩
    rw [ht] at hg ⊢
    have ew : t.2.1 = t.2.1 * 1 := by omega
    simp only [rTime, lTime]
    by_cases h0 : t.2.2 = 0
    · simp [h0]
    · have : (t.2.2 != 0) = true := by simp [h0]
      rw [this, if_neg (by simp), if_neg h0, ← ew]
      have hw := wrapT t.2.1
      by_cases hr : t.2.1 < -2147483648 ∨ 2147483647 < t.2.1
      · rw [if_pos hr, if_neg (fun k => (hw.1 k) hr)]
      · rw [if_neg hr, if_pos (hw.2 hr)]

/-- A time that lex takes is small, whatever it is cut to. -/
theorem taken_small {l : List UInt8} {a : Nat} {t : Tok} {z : Nat} (h : lSpan2 l a = (t, z, 0)) : smallT l 5 (if (cAt l a).toNat = 45 then a + 1 else a) 0 := by
  have key : ∀ (s : Int) (q : Nat × Int × Nat), (s = 1 ∨ s = -1) → lTime s q = (t, z, 0) → q.2.1 ≤ 2147483648 := by
    intro s q hs h
    unfold lTime at h
    split at h
    · injection h with _ h; injection h with _ h; cases h
    · split at h
      · rename_i hw
        rw [wrapT] at hw
        rcases hs with rfl | rfl <;> omega
      · injection h with _ h; injection h with _ h; cases h
  unfold lSpan2 at h
  by_cases hm : (cAt l a).toNat = 45
  · rw [if_pos ((minus_same l a).1 hm)] at h
    rw [if_pos hm]
    exact times_small l 5 (a + 1) 0 0 (by omega) (by omega) (by omega) (key _ _ (.inr rfl) h)
  · rw [if_neg (fun k => hm ((minus_same l a).2 k))] at h
    rw [if_neg hm]
    exact times_small l 5 a 0 0 (by omega) (by omega) (by omega) (key _ _ (.inl rfl) h)
theorem span_take_same {l : List UInt8} {a Z : Nat} {t : Tok} {z : Nat} (h : lSpan2 l a = (t, z, 0)) : rSpan2 (l.take Z) a = lSpan2 (l.take Z) a := by
  apply span_same
  by_cases ha : a < Z
  · rw [cAt_take ha]
    exact small_take l Z _ _ _ (by omega) (taken_small h)
  · apply small_end
    rw [List.length_take]
    split <;> omega
theorem span_upto {p : UInt8 → Bool} (x : List UInt8) (m : Nat) : span p (x.take m) = min m (span p x) := by
  induction x generalizing m with
  | nil => simp [span]
  | cons c x ih =>
    cases m with
    | zero => simp [span]
    | succ m =>
      simp only [List.take_succ_cons, span]
      split
      · rw [ih]; omega
      · omega
/-- What begins with a token that lex takes begins, however it is cut, with the same token in both. -/
theorem token_same {l : List UInt8} {t : Tok} {z : Nat} (h : lToken l = (t, z, 0)) (Z : Nat) : rToken (l.take Z) = lToken (l.take Z) := by
  cases hl : l with
  | nil => simp [rToken, lToken]
  | cons c u =>
    cases Z with
    | zero => simp [rToken, lToken]
    | succ Z =>
      rw [List.take_succ_cons]
      simp only [rToken]
      by_cases hc : c.toNat ≠ 10 ∧ lett c = true
      · rw [if_pos hc]
        simp only [lToken]
        rw [if_neg hc.1, if_pos hc.2]
        rw [hl] at h
        simp only [lToken] at h
        rw [if_neg hc.1, if_pos hc.2] at h
        rw [← List.take_succ_cons]
        obtain ⟨L, hL⟩ : ∃ L, c :: u = L := ⟨_, rfl⟩
        rw [hL] at h ⊢
        obtain ⟨Y, hY⟩ : ∃ Y, Z + 1 = Y := ⟨_, rfl⟩
        rw [hY]
        simp only [rWordTok, lWordTok] at h ⊢
        have hsp := span_upto (p := wordB) L Y
        obtain ⟨s, hs⟩ : ∃ s, span wordB L = s := ⟨_, rfl⟩
        rw [hs] at h hsp
        obtain ⟨s', hs'⟩ : ∃ s, span wordB (L.take Y) = s := ⟨_, rfl⟩
        rw [hs'] at hsp ⊢
        by_cases hb : (L.take Y)[s']? = some 35 ∧ (kindOf (mkS ((L.take Y).take s')) ≠ 0 ∨ ((mkS ((L.take Y).take s')).toList == [84]) = true)
        · rw [if_pos hb, if_pos hb]
          have hlt : s' < Y := by
            have := hash_lt hb.1
            rw [List.length_take] at this
            omega
          have hss : s' = s := by omega
          rw [take_get hlt, take_take_le (by omega), hss] at hb
          rw [take_take_le (by omega), hss]
          rw [if_pos hb] at h
          by_cases hk : kindOf (mkS (L.take s)) = 11 ∨ kindOf (mkS (L.take s)) = 0
          · rw [if_pos hk] at h ⊢
            rw [if_pos hk]
            exact span_take_same h
          · rw [if_neg hk, if_neg hk]
        · rw [if_neg hb, if_neg hb]
      · rw [if_neg hc]
end Go.Proofs.YtdabnnganponpaaGreatDoor
