/- What follows a token's text with a blank, or with a comment, does not touch how the token is read. -/
import Derived.Test.YtdpkjpjkdmkkpaaGreatDoorMC
namespace Go.Proofs.YtdpkjpjkdmkkpaaGreatDoor
open Lx Ad

/-- The bytes that blanks and comments begin with. -/
def stopB (d : UInt8) : Bool := d.toNat == 32 || d.toNat == 9 || d.toNat == 13 || d.toNat == 10 || d.toNat == 40
def Stop (c : List UInt8) : Prop := ∀ d t, c = d :: t → stopB d = true
theorem stop_props : ∀ d : UInt8, stopB d = true → wordB d = false ∧ addrB d = false ∧ valD d = -1 ∧ ¬ d.toNat = 95 ∧ d ≠ 35 := by
  intro d h
  have h2 : d = 32 ∨ d = 9 ∨ d = 13 ∨ d = 10 ∨ d = 40 := by
    simp only [stopB, Bool.or_eq_true, beq_iff_eq] at h
    rcases h with (((h | h) | h) | h) | h
    · exact .inl (UInt8.toNat_inj.1 h)
    · exact .inr (.inl (UInt8.toNat_inj.1 h))
    · exact .inr (.inr (.inl (UInt8.toNat_inj.1 h)))
    · exact .inr (.inr (.inr (.inl (UInt8.toNat_inj.1 h))))
    · exact .inr (.inr (.inr (.inr (UInt8.toNat_inj.1 h))))
  rcases h2 with rfl | rfl | rfl | rfl | rfl <;> decide

theorem span_stop {p : UInt8 → Bool} (hp : ∀ d, stopB d = true → p d = false) {c : List UInt8} (hc : Stop c) (x : List UInt8) : span p (x ++ c) = span p x := by
  induction x with
  | nil =>
    cases c with
    | nil => rfl
    | cons d t => simp [span, hp d (hc d t rfl)]
  | cons a x ih => simp only [List.cons_append, span, ih]
theorem stops_of {c : List UInt8} (hc : Stop c) (base : Int) : Stops base c := by
  intro d t h
  obtain ⟨_, _, h3, h4, _⟩ := stop_props d (hc d t h)
  exact ⟨h4, by simp [valOk, h3]⟩
theorem digF_app {c : List UInt8} (hc : Stop c) (base : Int) (x : List UInt8) (ok : Bool) (i : Nat) (n : Int) (size : Nat) : digF base (x ++ c) ok i n size = digF base x ok i n size := by
  induction x generalizing ok i n size with
  | nil => rw [List.nil_append, digF_stop (stops_of hc base)]; rfl
  | cons a x ih =>
    simp only [List.cons_append, digF]
    rw [ih, ih]
theorem digits_app {c : List UInt8} (hc : Stop c) (x : List UInt8) (base : Int) : digits (x ++ c) base = digits x base := digF_app hc base x false 0 0 0

theorem hash_app {c : List UInt8} (hc : Stop c) (x : List UInt8) {z : Nat} (hz : z ≤ x.length) : (x ++ c)[z]? = some 35 ↔ x[z]? = some 35 := by
  rcases Nat.lt_or_ge z x.length with h | h
  · rw [List.getElem?_append_left h]
  · have e : z = x.length := by omega
    subst e
    rw [List.getElem?_append_right (Nat.le_refl _), Nat.sub_self, List.getElem?_eq_none (Nat.le_refl _)]
    cases c with
    | nil => simp
    | cons d t =>
      obtain ⟨_, _, _, _, h5⟩ := stop_props d (hc d t rfl)
      simp [h5]
theorem hash_lt {x : List UInt8} {z : Nat} (h : x[z]? = some 35) : z < x.length := by
  rcases Nat.lt_or_ge z x.length with h1 | h1
  · exact h1
  · rw [List.getElem?_eq_none h1] at h; cases h
theorem drop_app {x c : List UInt8} {a : Nat} (h : a ≤ x.length) : (x ++ c).drop a = x.drop a ++ c := List.drop_append_of_le_length h
theorem take_app {x c : List UInt8} {a : Nat} (h : a ≤ x.length) : (x ++ c).take a = x.take a := List.take_append_of_le_length h

theorem number_app {c : List UInt8} (hc : Stop c) (x : List UInt8) : Lx.number (x ++ c) = Lx.number x := by
  have hd := digits_size x 10
  simp only [Lx.number, digits_app hc x 10, take_app hd]
  by_cases h : x[(digits x 10).2]? = some 35
  · have hlt := hash_lt h
    have h2 := (hash_app hc x hd).2 h
    simp only [h, h2, drop_app (c := c) (show (digits x 10).2 + 1 ≤ x.length by omega), digits_app hc]
  · have h2 : ¬ (x ++ c)[(digits x 10).2]? = some 35 := fun k => h ((hash_app hc x hd).1 k)
    simp only [h, h2, false_and, if_false]

theorem prefix_app {c : List UInt8} (hc : Stop c) : ∀ (g x : List UInt8), (∀ b ∈ g, stopB b = false) → Lib.hasPrefix (x ++ c) g = Lib.hasPrefix x g := by
  intro g
  induction g with
  | nil => intro x _; simp [Lib.hasPrefix, List.isPrefixOf]
  | cons b g ih =>
    intro x hg
    cases x with
    | nil =>
      cases c with
      | nil => rfl
      | cons d t =>
        have h1 := hg b (by simp)
        have h2 := hc d t rfl
        have hne : b ≠ d := fun e => by rw [e, h2] at h1; cases h1
        simp [Lib.hasPrefix, List.isPrefixOf, hne]
    | cons a x =>
      have := ih x (fun b' hb => hg b' (by simp [hb]))
      unfold Lib.hasPrefix at *
      simp only [List.cons_append, List.isPrefixOf, this]

theorem lTyped_app {c : List UInt8} (hc : Stop c) {x : List UInt8} {a k : Nat} (ha : a ≤ x.length) : lTyped (x ++ c) a k = lTyped x a k := by
  have hw := span_stop (p := wordB) (fun d h => (stop_props d h).1) hc (x.drop a)
  have hsl := span_le wordB (x.drop a)
  have hpre := prefix_app hc [45] (x.drop a) (by decide)
  simp only [lTyped, drop_app ha, hw, take_app hsl, number_app hc, hpre]
  by_cases hm : kSigned k = true ∧ Lib.hasPrefix (x.drop a) [45] = true
  · have h1 := prefix_len hm.2
    rw [drop_app (by simpa using h1), digits_app hc]
  · simp only [if_neg hm]

theorem unitOf_app {c : List UInt8} (hc : Stop c) (x : List UInt8) (next size : Nat) : unitOf (x ++ c) next size = unitOf x next size := by
  have key : ∀ f i k, unitFrom (x ++ c) f i k = unitFrom x f i k := by
    intro f
    induction f with
    | zero => intro i k; rfl
    | succ f ih =>
      intro i k
      have hp : Lib.hasPrefix (x ++ c) (unitS i) = Lib.hasPrefix x (unitS i) := by
        refine prefix_app hc (unitS i) x ?_
        unfold unitS
        split <;> decide
      simp only [unitFrom, hp, ih]
  unfold unitOf
  rw [key]
theorem times_app {c : List UInt8} (hc : Stop c) (x : List UInt8) : ∀ (f a : Nat) (n : Int) (next : Nat), a ≤ x.length → next ≤ 5 → times (x ++ c) f a n next = times x f a n next := by
  intro f
  induction f with
  | zero => intro a n next _ _; rfl
  | succ f ih =>
    intro a n next ha hn
    have hd := digits_size (x.drop a) 10
    rw [List.length_drop] at hd
    simp only [times, drop_app ha, digits_app hc]
    rw [drop_app (show a + (digits (x.drop a) 10).2 ≤ x.length by omega), unitOf_app hc]
    split
    · rfl
    · rename_i hk
      obtain ⟨j, hj, h1, h2, h3⟩ := unitOf_is (rest := x.drop (a + (digits (x.drop a) 10).2)) rfl hn hk
      rw [List.length_drop] at h3
      rw [hj, Int.toNat_natCast]
      exact ih _ _ _ (by omega) (by omega)
theorem lSpan2_app {c : List UInt8} (hc : Stop c) {x : List UInt8} {a : Nat} (ha : a ≤ x.length) : lSpan2 (x ++ c) a = lSpan2 x a := by
  have hpre := prefix_app hc [45] (x.drop a) (by decide)
  simp only [lSpan2, drop_app ha, hpre]
  by_cases hm : Lib.hasPrefix (x.drop a) [45] = true
  · have h1 := prefix_len hm
    rw [List.length_drop] at h1
    simp only [List.length_cons, List.length_nil] at h1
    rw [if_pos hm, if_pos hm, times_app hc x 5 (a + 1) 0 0 (by omega) (by omega)]
  · rw [if_neg hm, if_neg hm, times_app hc x 5 a 0 0 ha (by omega)]
theorem lWordTok_app {c : List UInt8} (hc : Stop c) (x : List UInt8) : lWordTok (x ++ c) = lWordTok x := by
  have hw := span_stop (p := wordB) (fun d h => (stop_props d h).1) hc x
  have hsl := span_le wordB x
  simp only [lWordTok, hw, take_app hsl]
  by_cases h : x[span wordB x]? = some 35
  · have hlt := hash_lt h
    have h2 := (hash_app hc x hsl).2 h
    simp only [h, h2, lSpan2_app hc (show span wordB x + 1 ≤ x.length by omega), lTyped_app hc (show span wordB x + 1 ≤ x.length by omega)]
  · have h2 : ¬ (x ++ c)[span wordB x]? = some 35 := fun k => h ((hash_app hc x hsl).1 k)
    simp only [h, h2, false_and, if_false]
theorem signF_app {c : List UInt8} (hc : Stop c) (a : UInt8) (x : List UInt8) (gs : List (List UInt8)) (hg : ∀ g ∈ gs, g ≠ [] ∧ ∀ b ∈ g.drop 1, stopB b = false) : signF (a :: x ++ c) gs = signF (a :: x) gs := by
  induction gs with
  | nil => rfl
  | cons g gs ih =>
    have h1 := hg g (by simp)
    have hp : Lib.hasPrefix (a :: x ++ c) g = Lib.hasPrefix (a :: x) g := by
      cases g with
      | nil => exact absurd rfl h1.1
      | cons b g =>
        have := prefix_app hc g x (by simpa using h1.2)
        unfold Lib.hasPrefix at *
        simp only [List.cons_append, List.isPrefixOf, this]
    simp only [signF, hp, ih (fun g' h => hg g' (by simp [h]))]
/-- A token's text, and behind it nothing, or what begins a blank or a comment. -/
theorem lToken_app {c : List UInt8} (hc : Stop c) {x : List UInt8} (hx : x ≠ []) : lToken (x ++ c) = lToken x := by
  cases x with
  | nil => exact absurd rfl hx
  | cons a x =>
    have hs := span_stop (p := addrB) (fun d h => (stop_props d h).2.1) hc x
    have hsl := span_le addrB x
    have h1 := lWordTok_app hc (a :: x)
    have h2 := number_app hc (a :: x)
    have h3 : List.take (1 + span addrB x) (a :: x ++ c) = List.take (1 + span addrB x) (a :: x) := take_app (by simp; omega)
    have h4 := signF_app hc a x SG (by decide)
    simp only [List.cons_append] at h1 h2 h3 h4
    simp only [List.cons_append, lToken, hs, h1, h2, h3, h4, lAddrTok]
end Go.Proofs.YtdpkjpjkdmkkpaaGreatDoor

/- A token's own bytes alone are read as that token. -/
namespace Go.Proofs.YtdpkjpjkdmkkpaaGreatDoor
open Lx Ad

theorem digF_far (base : Int) : ∀ (x : List UInt8) (ok : Bool) (i : Nat) (n : Int) (sz : Nat), sz ≤ i → digF base x ok i n sz = (n, sz) ∨ i + 1 ≤ (digF base x ok i n sz).2 := by
  intro x
  induction x with
  | nil => intro ok i n sz _; exact .inl rfl
  | cons c x ih =>
    intro ok i n sz h
    simp only [digF]
    split
    · rcases ih false (i + 1) n sz (by omega) with h1 | h1
      · exact .inl h1
      · right; omega
    · split
      · right
        rcases ih true (i + 1) (min (n * base + valD c) 1099511627776) (i + 1) (by omega) with h1 | h1
        · rw [h1]; exact Nat.le_refl _
        · omega
      · exact .inl rfl
theorem digF_take (base : Int) : ∀ (x : List UInt8) (m : Nat) (ok : Bool) (i : Nat) (n : Int) (sz : Nat), sz ≤ i → (digF base x ok i n sz).2 ≤ m + i → digF base (x.take m) ok i n sz = digF base x ok i n sz := by
  intro x
  induction x with
  | nil => intro m ok i n sz _ _; simp
  | cons c x ih =>
    intro m ok i n sz h hm
    cases m with
    | zero =>
      rcases digF_far base (c :: x) ok i n sz h with h1 | h1
      · rw [h1]; rfl
      · omega
    | succ m =>
      simp only [List.take_succ_cons, digF] at hm ⊢
      split
      · rename_i hc
        rw [if_pos hc] at hm
        exact ih m false (i + 1) n sz (by omega) (by omega)
      · rename_i hc
        rw [if_neg hc] at hm
        split
        · rename_i hv
          rw [if_pos hv] at hm
          exact ih m true (i + 1) _ (i + 1) (Nat.le_refl _) (by omega)
        · rfl
theorem digits_take {x : List UInt8} {base : Int} {m : Nat} (h : (digits x base).2 ≤ m) : digits (x.take m) base = digits x base :=
  digF_take base x m false 0 0 0 (Nat.le_refl _) (by rw [Nat.add_zero]; exact h)

theorem take_get {x : List UInt8} {m z : Nat} (h : z < m) : (x.take m)[z]? = x[z]? := by rw [List.getElem?_take, if_pos h]
theorem take_drop {x : List UInt8} {m a : Nat} : (x.take m).drop a = (x.drop a).take (m - a) := by rw [List.drop_take]
theorem take_take_le {x : List UInt8} {m a : Nat} (h : a ≤ m) : (x.take m).take a = x.take a := by rw [List.take_take, Nat.min_eq_left h]

theorem number_take {x : List UInt8} {n : Int} {z : Nat} (h : Lx.number x = (n, z, 0)) : Lx.number (x.take z) = (n, z, 0) := by
  have hd := digits_size x 10
  unfold Lx.number at h ⊢
  simp only at h ⊢
  by_cases h0 : (digits x 10).2 = 0
  · rw [if_pos h0] at h; injection h with _ h; injection h with _ h; cases h
  · rw [if_neg h0] at h
    by_cases hb : x[(digits x 10).2]? = some 35 ∧ (List.take (digits x 10).2 x = [50] ∨ List.take (digits x 10).2 x = [56] ∨ List.take (digits x 10).2 x = [49, 54])
    · rw [if_pos hb] at h
      by_cases hm : (digits (x.drop ((digits x 10).2 + 1)) (digits x 10).1).2 = 0
      · rw [if_pos hm] at h; injection h with _ h; injection h with _ h; cases h
      · rw [if_neg hm] at h
        injection h with h1 h2
        injection h2 with h2 _
        have hz : (digits x 10).2 + 1 ≤ z := by omega
        have e1 : digits (x.take z) 10 = digits x 10 := digits_take (by omega)
        rw [e1, if_neg h0, take_get (by omega), take_take_le (by omega), if_pos hb, take_drop, digits_take (by omega), if_neg hm, h1, h2]
    · rw [if_neg hb] at h
      injection h with h1 h2
      injection h2 with h2 _
      have e1 : digits (x.take z) 10 = digits x 10 := digits_take (by omega)
      have e2 : (x.take z)[(digits x 10).2]? = none := List.getElem?_eq_none (by rw [List.length_take]; omega)
      rw [e1, if_neg h0, e2, if_neg (by simp), h1, h2]
theorem valOk10_dig {c : UInt8} (h : valOk c 10 = true) : dig c = true := by
  cases hd : dig c with
  | true => rfl
  | false =>
    exfalso
    unfold valOk valD at h
    rw [hd] at h
    simp only [Bool.and_eq_true, decide_eq_true_eq] at h
    by_cases h6 : 65 ≤ c.toNat ∧ c.toNat ≤ 70
    · simp [h6] at h; omega
    · simp [h6] at h
theorem number_head {x : List UInt8} {n : Int} {z : Nat} (h : Lx.number x = (n, z, 0)) : ∃ c t, x = c :: t ∧ valOk c 10 = true := by
  cases x with
  | nil => simp [Lx.number, digits, digF] at h
  | cons c t =>
    refine ⟨c, t, rfl, ?_⟩
    cases hv : valOk c 10 with
    | true => rfl
    | false =>
      exfalso
      have hd : digits (c :: t) 10 = (0, 0) := by
        rw [digits, digF, if_neg (by simp), if_neg (by rw [hv]; simp)]
      unfold Lx.number at h
      simp only [hd] at h
      rw [if_pos trivial] at h
      injection h with _ h; injection h with _ h; cases h

theorem span_take {p : UInt8 → Bool} (x : List UInt8) : span p (x.take (span p x)) = span p x := by
  induction x with
  | nil => rfl
  | cons c x ih =>
    simp only [span]
    split
    · rename_i h; simp [span, h, ih]
    · simp [span]
theorem prefix_mono {x g : List UInt8} {m : Nat} (h : Lib.hasPrefix (x.take m) g = true) : Lib.hasPrefix x g = true := by
  unfold Lib.hasPrefix at *
  rw [List.isPrefixOf_iff_prefix] at *
  exact h.trans (List.take_prefix _ _)
theorem prefix_take {x g : List UInt8} {m : Nat} (h : Lib.hasPrefix x g = true) (hm : g.length ≤ m) : Lib.hasPrefix (x.take m) g = true := by
  unfold Lib.hasPrefix at *
  rw [List.isPrefixOf_iff_prefix] at *
  obtain ⟨t, ht⟩ := h
  subst ht
  rw [List.take_append]
  rw [List.take_of_length_le hm]
  exact List.prefix_append _ _

theorem lTyped_take {l : List UInt8} {a k : Nat} {t : Tok} {z : Nat} (h : lTyped l a k = (t, z, 0)) (_ha : a ≤ l.length) : lTyped (l.take z) a k = (t, z, 0) := by
  obtain ⟨rest, hr⟩ : ∃ rest, l.drop a = rest := ⟨_, rfl⟩
  have hrl : rest.length = l.length - a := by rw [← hr, List.length_drop]
  have hsl := span_le wordB rest
  unfold lTyped at h ⊢
  simp only [take_drop, hr] at h ⊢
  by_cases h1 : k = 1 ∧ (rest.take (span wordB rest) = strTrue ∨ rest.take (span wordB rest) = strFalse)
  · rw [if_pos h1] at h
    injection h with e1 e2
    injection e2 with e2 _
    have hz : z - a = span wordB rest := by rw [List.length_take] at e2; omega
    rw [hz, span_take, take_take_le (Nat.le_refl _), if_pos h1]
    rw [e1, e2]
  · rw [if_neg h1] at h
    by_cases h2 : kSigned k = true ∧ Lib.hasPrefix rest [45] = true
    · rw [if_pos h2] at h
      by_cases h3 : (digits (rest.drop 1) 10).2 = 0
      · rw [if_pos h3] at h; injection h with _ h; injection h with _ h; cases h
      · rw [if_neg h3] at h
        by_cases h4 : -(digits (rest.drop 1) 10).1 = kWrap k (-(digits (rest.drop 1) 10).1)
        · rw [if_pos h4] at h
          injection h with e1 e2
          injection e2 with e2 _
          have hz : z - a = 1 + (digits (rest.drop 1) 10).2 := by omega
          have hk1 : k ≠ 1 := by rintro rfl; exact absurd h2.1 (by decide)
          have hd : digits (List.take (z - a - 1) (List.drop 1 rest)) 10 = digits (rest.drop 1) 10 := digits_take (by omega)
          rw [if_neg (fun k => hk1 k.1), if_pos ⟨h2.1, prefix_take h2.2 (by simp; omega)⟩, hd, if_neg h3, if_pos h4, e1, e2]
        · rw [if_neg h4] at h; injection h with _ h; injection h with _ h; cases h
    · rw [if_neg h2] at h
      by_cases h3 : (Lx.number rest).2.2 ≠ 0
      · rw [if_pos h3] at h; injection h with _ h; injection h with _ h; exact absurd h h3
      · rw [if_neg h3] at h
        by_cases h4 : (Lx.number rest).1 = kWrap k (Lx.number rest).1
        · rw [if_pos h4] at h
          injection h with e1 e2
          injection e2 with e2 _
          have h3' : (Lx.number rest).2.2 = 0 := by simpa using h3
          have hnum : Lx.number rest = ((Lx.number rest).1, (Lx.number rest).2.1, 0) := by rw [← h3']
          have hz : z - a = (Lx.number rest).2.1 := by omega
          have hnt := number_take hnum
          rw [← hz] at hnt
          obtain ⟨c, tl, hc, hv⟩ := number_head hnt
          have hcd : dig c = true := valOk10_dig hv
          have hw : ¬ (k = 1 ∧ ((List.take (z - a) rest).take (span wordB (List.take (z - a) rest)) = strTrue ∨ (List.take (z - a) rest).take (span wordB (List.take (z - a) rest)) = strFalse)) := by
            rintro ⟨_, h5⟩
            rw [hc] at h5
            have hsp : span wordB (c :: tl) = span wordB tl + 1 := by simp [span, wordB, hcd]
            rw [hsp, List.take_succ_cons] at h5
            rcases h5 with h5 | h5
            · injection h5 with h6 _; rw [h6] at hcd; exact absurd hcd (by decide)
            · injection h5 with h6 _; rw [h6] at hcd; exact absurd hcd (by decide)
          have hp : Lib.hasPrefix (List.take (z - a) rest) [45] = false := prefix_dig hc hcd
          rw [if_neg hw, if_neg (fun k => by rw [hp] at k; simp at k), hnt]
          rw [if_neg (by simp), if_pos h4, e1]
          show (t, a + (z - a), 0) = (t, z, 0)
          rw [show a + (z - a) = z by omega]
        · rw [if_neg h4] at h; injection h with _ h; injection h with _ h; cases h
end Go.Proofs.YtdpkjpjkdmkkpaaGreatDoor

/- A token's own bytes alone are read as that token: times, words, signs, all. -/
namespace Go.Proofs.YtdpkjpjkdmkkpaaGreatDoor
open Lx Ad

theorem unit_len (j : Nat) (h : j < 5) : 1 ≤ (unitS j).length ∧ (unitS j).length ≤ 2 ∧ ((unitS j).length = 2 → j = 4) := by
  match j, h with
  | 0, _ => decide
  | 1, _ => decide
  | 2, _ => decide
  | 3, _ => decide
  | 4, _ => decide
/-- A unit that stands here, from the i-th on, is not behind the last one found. -/
theorem unitFrom_last (rest : List UInt8) : ∀ (f i : Nat) (k : Int), i + f = 5 → ∀ j, i ≤ j → j < 5 → Lib.hasPrefix rest (unitS j) = true → (j : Int) ≤ unitFrom rest f i k := by
  intro f
  induction f with
  | zero => intro i k h j h1 h2 _; omega
  | succ f ih =>
    intro i k h j h1 h2 hp
    simp only [unitFrom]
    by_cases he : i = j
    · subst he
      rw [if_pos hp]
      rcases unitFrom_ge rest f (i + 1) (i : Int) i (.inr (Int.le_refl _)) (by omega) with h3 | h3
      · exfalso
        have hd := unitFrom_prefix rest f (i + 1) (i : Int) (.inr ⟨i, rfl, by omega, h2, hp⟩) (by omega)
        have key : ∀ (f i : Nat) (k : Int), 0 ≤ k → unitFrom rest f i k ≠ -1 := by
          intro f
          induction f with
          | zero => intro i k hk; simp only [unitFrom]; omega
          | succ f ih2 =>
            intro i k hk
            simp only [unitFrom]
            refine ih2 _ _ ?_
            split <;> omega
        exact key f (i + 1) (i : Int) (by omega) h3
      · exact h3
    · exact ih (i + 1) _ (by omega) j (by omega) h2 hp
theorem unitOf_take {rest : List UInt8} {next size m : Nat} (hn : next ≤ 5) (hm : ∀ j : Nat, unitOf rest next size = j → (unitS j).length ≤ m) : unitOf (rest.take m) next size = unitOf rest next size := by
  unfold unitOf at hm ⊢
  split
  · rfl
  · rename_i hs
    rw [if_neg hs] at hm
    obtain ⟨K, hK⟩ : ∃ K, unitFrom rest (5 - next) next (-1) = K := ⟨_, rfl⟩
    have hlast := unitFrom_last rest (5 - next) next (-1) (by omega)
    have hpre := unitFrom_prefix rest (5 - next) next (-1) (.inl rfl) (by omega)
    rw [hK] at hm hlast hpre ⊢
    have hsame : ∀ j, next ≤ j → j < 5 → Lib.hasPrefix (rest.take m) (unitS j) = Lib.hasPrefix rest (unitS j) := by
      intro j h1 h2
      cases hp : Lib.hasPrefix rest (unitS j) with
      | false =>
        cases hq : Lib.hasPrefix (rest.take m) (unitS j) with
        | false => rfl
        | true => rw [prefix_mono hq] at hp; cases hp
      | true =>
        have hj := hlast j h1 h2 hp
        rcases hpre with h3 | ⟨j', h3, h4, h5⟩
        · omega
        · have hl := hm j' h3
          have u1 := unit_len j h2
          have u2 := unit_len j' h4
          refine prefix_take hp ?_
          have hj4 : (unitS j).length = 2 → (unitS j').length = 2 := by
            intro h6
            have h7 := u1.2.2 h6
            have h8 : j' = 4 := by omega
            rw [h8]; rfl
          omega
    have key : ∀ f i k, next ≤ i → i + f = 5 → unitFrom (rest.take m) f i k = unitFrom rest f i k := by
      intro f
      induction f with
      | zero => intro i k _ _; rfl
      | succ f ih =>
        intro i k h1 h2
        simp only [unitFrom, hsame i h1 (by omega)]
        exact ih _ _ (by omega) (by omega)
    rw [key _ _ _ (Nat.le_refl _) (by omega), hK]

theorem times_take (l : List UInt8) {Z : Nat} : ∀ (f a : Nat) (n : Int) (next : Nat), a ≤ l.length → next ≤ 5 → (times l f a n next).1 = Z → times (l.take Z) f a n next = times l f a n next := by
  intro f
  induction f with
  | zero => intro a n next _ _ _; rfl
  | succ f ih =>
    intro a n next ha hn hZ
    have hd := digits_size (l.drop a) 10
    rw [List.length_drop] at hd
    obtain ⟨d, hdd⟩ : ∃ d, digits (l.drop a) 10 = d := ⟨_, rfl⟩
    obtain ⟨u, hu⟩ : ∃ u, unitOf (l.drop (a + d.2)) next d.2 = u := ⟨_, rfl⟩
    simp only [times, hdd, hu] at hZ ⊢
    rw [hdd] at hd
    by_cases hk : u < 0
    · rw [if_pos hk] at hZ ⊢
      have e : (l.take Z).drop a = [] := by
        rw [take_drop, show Z - a = 0 by omega]; rfl
      rw [e]
      have e2 : digits ([] : List UInt8) 10 = (0, 0) := rfl
      rw [e2]
      rw [if_pos (by simp [unitOf])]
    · rw [if_neg hk] at hZ ⊢
      obtain ⟨j, hj, h1, h2, h3⟩ := unitOf_is hu hn hk
      rw [List.length_drop] at h3
      subst hj
      rw [Int.toNat_natCast] at hZ ⊢
      have hends := times_ends l f (a + d.2 + (unitS j).length) (timeStep n d.1 j) (j + 1) (by omega) (by omega)
      rw [hZ] at hends
      have hd2 : digits ((l.take Z).drop a) 10 = d := by
        rw [take_drop, digits_take (by rw [hdd]; omega), hdd]
      have hmj : ∀ j' : Nat, unitOf (l.drop (a + d.2)) next d.2 = j' → (unitS j').length ≤ Z - (a + d.2) := by
        intro j' hj'
        rw [hu] at hj'
        have e : j' = j := by omega
        subst e
        omega
      have hu2 : unitOf ((l.take Z).drop (a + d.2)) next d.2 = j := by
        rw [take_drop, unitOf_take hn hmj, hu]
      rw [hd2, hu2, if_neg hk, Int.toNat_natCast]
      exact ih _ _ _ (by omega) (by omega) hZ
theorem lSpan2_take {l : List UInt8} {a : Nat} {t : Tok} {z : Nat} (h : lSpan2 l a = (t, z, 0)) (ha : a ≤ l.length) : lSpan2 (l.take z) a = (t, z, 0) := by
  unfold lSpan2 at h ⊢
  by_cases hp : Lib.hasPrefix (l.drop a) [45] = true
  · have h1 := prefix_len hp
    rw [List.length_drop] at h1
    simp only [List.length_cons, List.length_nil] at h1
    rw [if_pos hp] at h
    have hz := lTime_size h rfl
    have hends := times_ends l 5 (a + 1) 0 0 (by omega) (by omega)
    have ht := times_take l (Z := z) 5 (a + 1) 0 0 (by omega) (by omega) hz.symm
    rw [take_drop, if_pos (prefix_take hp (by simp; omega)), ht]
    exact h
  · rw [if_neg hp] at h
    have hz := lTime_size h rfl
    have ht := times_take l (Z := z) 5 a 0 0 ha (by omega) hz.symm
    have hp2 : ¬ Lib.hasPrefix ((l.take z).drop a) [45] = true := by
      rw [take_drop]; exact fun k => hp (prefix_mono k)
    rw [if_neg hp2, ht]
    exact h
theorem span_take_ge {p : UInt8 → Bool} {x : List UInt8} {m : Nat} (h : span p x ≤ m) : span p (x.take m) = span p x := by
  induction x generalizing m with
  | nil => simp
  | cons c x ih =>
    cases m with
    | zero =>
      simp only [span] at h ⊢
      split at h
      · omega
      · rename_i hc; simp [span, hc]
    | succ m =>
      simp only [List.take_succ_cons, span] at h ⊢
      split
      · rename_i hc
        rw [if_pos hc] at h
        rw [ih (by omega)]
      · rfl
theorem lWordTok_take {l : List UInt8} {t : Tok} {z : Nat} (h : lWordTok l = (t, z, 0)) : lWordTok (l.take z) = (t, z, 0) := by
  have hsl := span_le wordB l
  unfold lWordTok at h
  simp only at h
  by_cases hh : l[span wordB l]? = some 35 ∧ (kindOf (mkS (l.take (span wordB l))) ≠ 0 ∨ ((mkS (l.take (span wordB l))).toList == [84]) = true)
  · rw [if_pos hh] at h
    have hlt := hash_lt hh.1
    have hz : span wordB l + 1 ≤ z := by
      split at h
      · have h1 := lTime_size (s := if Lib.hasPrefix (l.drop (span wordB l + 1)) [45] = true then -1 else 1) (q := if Lib.hasPrefix (l.drop (span wordB l + 1)) [45] = true then times l 5 (span wordB l + 1 + 1) 0 0 else times l 5 (span wordB l + 1) 0 0) (t := t) (z := z) (e := 0) (by
          unfold lSpan2 at h
          split at h
          · rename_i hp; simp only [hp, if_true]; exact h
          · rename_i hp; simp only [hp]; exact h) rfl
        rw [h1]
        split
        · rename_i hp
          have h2 := prefix_len hp
          rw [List.length_drop] at h2
          simp only [List.length_cons, List.length_nil] at h2
          have := times_ends l 5 (span wordB l + 1 + 1) 0 0 (by omega) (by omega); omega
        · have := times_ends l 5 (span wordB l + 1) 0 0 (by omega) (by omega); omega
      · rename_i hk
        have : span wordB l + 1 ≤ z := by
          unfold lTyped at h
          simp only at h
          repeat' split at h
          all_goals first | (injection h with _ h; injection h with h _; omega) | (injection h with _ h; injection h with _ h; cases h) | (injection h with _ h; injection h with _ h; contradiction)
        exact this
    have hs2 : span wordB (l.take z) = span wordB l := span_take_ge (by omega)
    unfold lWordTok
    simp only [hs2]
    rw [take_get (by omega), take_take_le (by omega), if_pos hh]
    split
    · rename_i hk; rw [if_pos hk] at h; exact lSpan2_take h (by omega)
    · rename_i hk; rw [if_neg hk] at h; exact lTyped_take h (by omega)
  · rw [if_neg hh] at h
    have hz : z = span wordB l := by
      unfold wordRest at h
      repeat' split at h
      all_goals first | (injection h with _ h; injection h with h _; exact h.symm) | (injection h with _ h; injection h with _ h; cases h)
    subst hz
    unfold lWordTok
    simp only [span_take]
    rw [List.getElem?_eq_none (by rw [List.length_take]; omega), if_neg (by simp), take_take_le (Nat.le_refl _)]
    exact h
theorem signF_take {l : List UInt8} {t : Tok} {z : Nat} : ∀ (gs : List (List UInt8)), signF l gs = (t, z, 0) → signF (l.take z) gs = (t, z, 0) := by
  intro gs
  induction gs with
  | nil => intro h; simp only [signF] at h; injection h with _ h; injection h with _ h; cases h
  | cons g gs ih =>
    intro h
    simp only [signF] at h ⊢
    by_cases hp : Lib.hasPrefix l g = true
    · rw [if_pos hp] at h
      injection h with e1 e2
      injection e2 with e2 e3
      rw [if_pos (prefix_take hp (by omega)), e1, e2]
    · rw [if_neg hp] at h
      rw [if_neg (fun k => hp (prefix_mono k))]
      exact ih h
/-- A token's own bytes alone. -/
theorem lToken_take {l : List UInt8} {t : Tok} {z : Nat} (h : lToken l = (t, z, 0)) (hl : l ≠ []) : lToken (l.take z) = (t, z, 0) := by
  obtain ⟨hz1, hz2⟩ := lToken_size hl h rfl
  cases l with
  | nil => exact absurd rfl hl
  | cons c l =>
    obtain ⟨y, rfl⟩ : ∃ y, z = y + 1 := ⟨z - 1, by omega⟩
    rw [List.take_succ_cons]
    simp only [lToken] at h ⊢
    by_cases h10 : c.toNat = 10
    · rw [if_pos h10] at h ⊢; exact h
    · rw [if_neg h10] at h ⊢
      by_cases hc : lett c = true
      · rw [if_pos hc] at h ⊢
        have := lWordTok_take h
        rwa [List.take_succ_cons] at this
      · rw [if_neg hc] at h ⊢
        by_cases hd : dig c = true
        · rw [if_pos hd] at h ⊢
          unfold lNumTok at h ⊢
          injection h with e1 e2
          injection e2 with e2 e3
          have e4 : (Lx.number (c :: l)).2.2 = 0 := by
            split at e3
            · cases e3
            · exact e3
          have hn : Lx.number (c :: l) = ((Lx.number (c :: l)).1, y + 1, 0) := by rw [← e4, ← e2]
          have hnt := number_take hn
          rw [List.take_succ_cons] at hnt
          rw [hnt]
          simp only
          rw [e1]
          rw [hn] at e3
          simp only at e3
          rw [e3]
        · rw [if_neg hd] at h ⊢
          by_cases h37 : c.toNat = 37
          · rw [if_pos h37] at h ⊢
            unfold lAddrTok at h ⊢
            by_cases he : (aParse ((c :: l).take (1 + span addrB l))).2.2 ≠ 0
            · rw [if_pos he] at h; injection h with _ h; injection h with _ h; exact absurd h he
            · rw [if_neg he] at h
              injection h with e1 e2
              injection e2 with e2 _
              have hy : y = span addrB l := by omega
              subst hy
              rw [span_take, Nat.add_comm 1, List.take_succ_cons, take_take_le (Nat.le_refl _)]
              rw [Nat.add_comm 1, List.take_succ_cons] at he
              rw [if_neg he]
              rw [Nat.add_comm 1, List.take_succ_cons] at e1
              rw [e1]
          · rw [if_neg h37] at h ⊢
            have := signF_take SG h
            rwa [List.take_succ_cons] at this
end Go.Proofs.YtdpkjpjkdmkkpaaGreatDoor

/- Numbers, as the reference reads them: a base's sign first. -/
namespace Go.Proofs.YtdpkjpjkdmkkpaaGreatDoor
open Lx Ad

theorem number_base2 {t : List UInt8} : Lx.number (50 :: 35 :: t) = if (digits t 2).2 = 0 then (0, 0, 120) else ((digits t 2).1, 2 + (digits t 2).2, 0) := by
  have hd : digits (50 :: 35 :: t) 10 = (2, 1) := by
    simp [digits, digF, valOk, show valD 50 = 2 by decide, show valD 35 = -1 by decide]; omega
  simp [Lx.number, hd]
theorem number_base8 {t : List UInt8} : Lx.number (56 :: 35 :: t) = if (digits t 8).2 = 0 then (0, 0, 120) else ((digits t 8).1, 2 + (digits t 8).2, 0) := by
  have hd : digits (56 :: 35 :: t) 10 = (8, 1) := by
    simp [digits, digF, valOk, show valD 56 = 8 by decide, show valD 35 = -1 by decide]; omega
  simp [Lx.number, hd]
theorem number_base16 {t : List UInt8} : Lx.number (49 :: 54 :: 35 :: t) = if (digits t 16).2 = 0 then (0, 0, 120) else ((digits t 16).1, 3 + (digits t 16).2, 0) := by
  have hd : digits (49 :: 54 :: 35 :: t) 10 = (16, 2) := by
    simp [digits, digF, valOk, show valD 49 = 1 by decide, show valD 54 = 6 by decide, show valD 35 = -1 by decide]; omega
  simp [Lx.number, hd]
/-- No base's sign ahead: digits alone. -/
theorem number_plain {l : List UInt8} (h2 : Lib.hasPrefix l [50, 35] = false) (h8 : Lib.hasPrefix l [56, 35] = false) (h16 : Lib.hasPrefix l [49, 54, 35] = false) :
    Lx.number l = if (digits l 10).2 = 0 then (0, 0, 120) else ((digits l 10).1, (digits l 10).2, 0) := by
  unfold Lx.number
  simp only
  by_cases h0 : (digits l 10).2 = 0
  · rw [if_pos h0, if_pos h0]
  · rw [if_neg h0, if_neg h0, if_neg]
    rintro ⟨h35, ht⟩
    have hlt := hash_lt h35
    have hsplit : l = l.take (digits l 10).2 ++ 35 :: l.drop ((digits l 10).2 + 1) := by
      have h1 := (List.take_append_drop (digits l 10).2 l).symm
      rw [List.drop_eq_getElem_cons hlt] at h1
      rw [List.getElem?_eq_getElem hlt] at h35
      rw [Option.some.inj h35] at h1
      exact h1
    rcases ht with ht | ht | ht
    · rw [ht] at hsplit; rw [hsplit] at h2; simp [Lib.hasPrefix, List.isPrefixOf] at h2
    · rw [ht] at hsplit; rw [hsplit] at h8; simp [Lib.hasPrefix, List.isPrefixOf] at h8
    · rw [ht] at hsplit; rw [hsplit] at h16; simp [Lib.hasPrefix, List.isPrefixOf] at h16
end Go.Proofs.YtdpkjpjkdmkkpaaGreatDoor

/- Tokens with blanks and comments between are read as they were. -/
namespace Go.Proofs.YtdpkjpjkdmkkpaaGreatDoor
open Lx Ad

/-- The six blanks of the statement. -/
def BL : Nat → List UInt8
  | 0 => [32] | 1 => [10] | 2 => [9, 32, 13] | 3 => [40, 42, 32, 120, 32, 42, 41] | 4 => [32, 40, 42, 42, 41, 32] | 5 => [10, 40, 42, 32, 40, 42, 32, 42, 41, 10] | _ => []

theorem skip1 {L : List UInt8} {a f : Nat} {c : UInt8} {t : List UInt8} (h : L.drop a = c :: t) (hb : blankB false c = true) : blanks false L (f + 1) a = blanks false L f (a + 1) ∧ L.drop (a + 1) = t :=
  ⟨blanks_skip h hb, by rw [← List.drop_drop, h]; rfl⟩
theorem skipC {L : List UInt8} {a f : Nat} {t : List UInt8} {i : Nat} (h : L.drop a = 40 :: 42 :: t) (hi : Lib.index t [42, 41] = i) : blanks false L (f + 1) a = blanks false L f (a + (i + 4)) ∧ L.drop (a + (i + 4)) = t.drop (i + 2) := by
  refine ⟨?_, ?_⟩
  · rw [blanks, h]
    simp only [List.drop_succ_cons, List.drop_zero]
    rw [hi, if_neg (by decide), if_pos (by simp [Lib.hasPrefix, List.isPrefixOf]), if_neg (by omega), Int.toNat_natCast]
  · rw [← List.drop_drop, h, show i + 4 = (i + 2) + 2 by omega]
    rfl

theorem blanks_BL {b : Nat} (hb : b < 6) {L pre rest : List UInt8} (hL : L = pre ++ (BL b ++ rest)) {c : UInt8} {t : List UInt8} (hr : rest = c :: t) (hc : blankB false c = false) (hp : Lib.hasPrefix rest [40, 42] = false) :
    blanks false L (L.length + 1) pre.length = .ok (pre.length + (BL b).length) := by
  have hd : L.drop pre.length = BL b ++ rest := by rw [hL, List.drop_left]
  have hlen : L.length = pre.length + ((BL b).length + (t.length + 1)) := by rw [hL, hr]; simp
  have stop : ∀ {f a : Nat}, L.drop a = rest → blanks false L (f + 1) a = .ok a := fun h => blanks_stop (by rw [h, hr]) hc (by rw [← hr]; exact hp)
  have h6 : b = 0 ∨ b = 1 ∨ b = 2 ∨ b = 3 ∨ b = 4 ∨ b = 5 := by omega
  rcases h6 with rfl | rfl | rfl | rfl | rfl | rfl
  · simp only [BL, List.length_cons, List.length_nil] at hd hlen ⊢
    obtain ⟨f, hf⟩ : ∃ f, L.length + 1 = f + 1 + 1 := ⟨L.length - 1, by omega⟩
    obtain ⟨e1, d1⟩ := skip1 (f := f + 1) hd (by decide)
    rw [hf, e1, stop d1]
  · simp only [BL, List.length_cons, List.length_nil] at hd hlen ⊢
    obtain ⟨f, hf⟩ : ∃ f, L.length + 1 = f + 1 + 1 := ⟨L.length - 1, by omega⟩
    obtain ⟨e1, d1⟩ := skip1 (f := f + 1) hd (by decide)
    rw [hf, e1, stop d1]
  · simp only [BL, List.length_cons, List.length_nil] at hd hlen ⊢
    obtain ⟨f, hf⟩ : ∃ f, L.length + 1 = f + 1 + 1 + 1 + 1 := ⟨L.length - 3, by omega⟩
    obtain ⟨e1, d1⟩ := skip1 (f := f + 1 + 1 + 1) hd (by decide)
    obtain ⟨e2, d2⟩ := skip1 (f := f + 1 + 1) d1 (by decide)
    obtain ⟨e3, d3⟩ := skip1 (f := f + 1) d2 (by decide)
    rw [hf, e1, e2, e3, stop d3]
  · simp only [BL, List.length_cons, List.length_nil] at hd hlen ⊢
    obtain ⟨f, hf⟩ : ∃ f, L.length + 1 = f + 1 + 1 := ⟨L.length - 1, by omega⟩
    obtain ⟨e1, d1⟩ := skipC (f := f + 1) (i := 3) hd (by simp [Lib.index, List.isPrefixOf])
    rw [hf, e1, stop d1]
  · simp only [BL, List.length_cons, List.length_nil] at hd hlen ⊢
    obtain ⟨f, hf⟩ : ∃ f, L.length + 1 = f + 1 + 1 + 1 + 1 := ⟨L.length - 3, by omega⟩
    obtain ⟨e1, d1⟩ := skip1 (f := f + 1 + 1 + 1) hd (by decide)
    obtain ⟨e2, d2⟩ := skipC (f := f + 1 + 1) (i := 0) d1 (by simp [Lib.index, List.isPrefixOf])
    obtain ⟨e3, d3⟩ := skip1 (f := f + 1) d2 (by decide)
    rw [hf, e1, e2, e3, stop d3]
  · simp only [BL, List.length_cons, List.length_nil] at hd hlen ⊢
    obtain ⟨f, hf⟩ : ∃ f, L.length + 1 = f + 1 + 1 + 1 + 1 := ⟨L.length - 3, by omega⟩
    obtain ⟨e1, d1⟩ := skip1 (f := f + 1 + 1 + 1) hd (by decide)
    obtain ⟨e2, d2⟩ := skipC (f := f + 1 + 1) (i := 4) d1 (by simp [Lib.index, List.isPrefixOf])
    obtain ⟨e3, d3⟩ := skip1 (f := f + 1) d2 (by decide)
    rw [hf, e1, e2, e3, stop d3]

/-- Pieces, each with its blank ahead; behind the last one a blank. -/
def glue : List (Nat × List UInt8 × Tok) → List UInt8
  | [] => [32]
  | (b, p, _) :: r => BL b ++ (p ++ glue r)
/-- A piece is one token's text. -/
def Piece (q : Nat × List UInt8 × Tok) : Prop := q.1 < 6 ∧ lToken q.2.1 = (q.2.2, q.2.1.length, 0) ∧ ∃ c t, q.2.1 = c :: t ∧ blankB false c = false
theorem BL_stop {b : Nat} (hb : b < 6) (x : List UInt8) : Stop (BL b ++ x) ∧ BL b ≠ [] := by
  have h6 : b = 0 ∨ b = 1 ∨ b = 2 ∨ b = 3 ∨ b = 4 ∨ b = 5 := by omega
  rcases h6 with rfl | rfl | rfl | rfl | rfl | rfl
  all_goals
    refine ⟨fun d t h => ?_, by decide⟩
    simp only [BL, List.cons_append] at h
    injection h with h1 _
    subst h1
    decide
theorem glue_stop {r : List (Nat × List UInt8 × Tok)} (h : ∀ q ∈ r, Piece q) : Stop (glue r) ∧ glue r ≠ [] := by
  cases r with
  | nil =>
    refine ⟨fun d t h => ?_, by decide⟩
    simp only [glue] at h
    injection h with h1 _
    subst h1
    decide
  | cons q r =>
    obtain ⟨b, p, x⟩ := q
    obtain ⟨h1, h2⟩ := BL_stop (h (b, p, x) (by simp)).1 (p ++ glue r)
    exact ⟨h1, by simp [glue, h2]⟩
theorem paren_alone {t : List UInt8} {x : Tok} (h : lToken (40 :: t) = (x, (40 :: t).length, 0)) : t = [] := by
  have h1 : lToken (40 :: t) = (⟨6, 0, 0, [40], 0⟩, 1, 0) := by
    simp only [lToken]
    rw [if_neg (by decide), if_neg (by decide), if_neg (by decide), if_neg (by decide)]
    simp [signF, SG, Lib.hasPrefix, List.isPrefixOf]
  rw [h1] at h
  injection h with _ h
  injection h with h _
  simp only [List.length_cons] at h
  exact List.eq_nil_of_length_eq_zero (by omega)

def at0 (t : Tok) : Tok := { t with at_ := 0 }
theorem glue_tokens : ∀ (r : List (Nat × List UInt8 × Tok)) (pre : List UInt8) (f : Nat) (out : List Tok) (L : List UInt8), (∀ q ∈ r, Piece q) → L = pre ++ glue r → r.length < f →
    ∃ ts, tokens false L f pre.length out = .ok (out ++ ts) ∧ ts.map at0 = r.map (fun q => at0 q.2.2) ++ [⟨0, 0, 0, [], 0⟩] := by
  intro r
  induction r with
  | nil =>
    intro pre f out L _ hL hf
    obtain ⟨g, rfl⟩ : ∃ g, f = g + 1 := ⟨f - 1, by simp at hf; omega⟩
    simp only [glue] at hL
    have hd : L.drop pre.length = [32] := by rw [hL, List.drop_left]
    have hlen : L.length = pre.length + 1 := by rw [hL]; simp
    obtain ⟨e1, d1⟩ := skip1 (f := L.length) hd (by decide)
    refine ⟨[⟨0, 0, 0, [], (pre.length + 1 : Nat)⟩], ?_, rfl⟩
    rw [tokens_end (a' := pre.length + 1) (by rw [e1, blanks_end d1]) (by omega)]
  | cons q r ih =>
    intro pre f out L hp hL hf
    obtain ⟨b, p, x⟩ := q
    obtain ⟨hb, hx, c, t, hc, hcb⟩ := hp (b, p, x) (by simp)
    have hr : ∀ q ∈ r, Piece q := fun q hq => hp q (by simp [hq])
    obtain ⟨hs1, hs2⟩ := glue_stop hr
    simp only at hb hx hc
    have hpne : p ≠ [] := by rw [hc]; simp
    obtain ⟨g, rfl⟩ : ∃ g, f = g + 1 := ⟨f - 1, by simp at hf; omega⟩
    simp only [glue] at hL
    have hpar : Lib.hasPrefix (p ++ glue r) [40, 42] = false := by
      rw [hc]
      by_cases h40 : c = 40
      · subst h40
        rw [hc] at hx
        have ht := paren_alone hx
        subst ht
        cases hg : glue r with
        | nil => exact absurd hg hs2
        | cons d u =>
          have hds := hs1 d u hg
          have hne : (42 : UInt8) ≠ d := fun e => by rw [← e] at hds; exact absurd hds (by decide)
          simp [Lib.hasPrefix, List.isPrefixOf, hne]
      · have : (40 : UInt8) ≠ c := fun e => h40 e.symm
        simp [Lib.hasPrefix, List.isPrefixOf, this]
    have hbl := blanks_BL hb hL (c := c) (t := t ++ glue r) (by rw [hc]; rfl) hcb hpar
    have hdrop : L.drop (pre.length + (BL b).length) = p ++ glue r := by
      rw [hL, ← List.drop_drop, List.drop_left, List.drop_left]
    have hlen : L.length = pre.length + (BL b).length + (p.length + (glue r).length) := by rw [hL]; simp; omega
    have hpl : 0 < p.length := by rw [hc]; simp
    have ht : lToken (L.drop (pre.length + (BL b).length)) = (x, p.length, 0) := by rw [hdrop, lToken_app hs1 hpne]; exact hx
    rw [tokens_step hbl (by omega) ht]
    obtain ⟨ts, h1, h2⟩ := ih (pre ++ BL b ++ p) g (out ++ [{ x with at_ := (pre.length + (BL b).length : Nat) }]) L hr (by rw [hL]; simp) (by simp at hf; omega)
    have hl2 : (pre ++ BL b ++ p).length = pre.length + (BL b).length + p.length := by simp; omega
    rw [hl2] at h1
    refine ⟨{ x with at_ := (pre.length + (BL b).length : Nat) } :: ts, ?_, ?_⟩
    · rw [h1]; simp
    · simp only [List.map_cons, h2, List.cons_append]
      rfl
end Go.Proofs.YtdpkjpjkdmkkpaaGreatDoor

/- Where a token's text ends: the statement's own search, and what it finds. -/
namespace Go.Proofs.YtdpkjpjkdmkkpaaGreatDoor
open Lx Ad

/-- Is this text just the token x, but for its place? -/
def justTok (p : List UInt8) (x : Tok) : Bool := match lTokens p false with
  | .ok [y, _] => decide (at0 y = at0 x)
  | _ => false
/-- The first n from here on, within so many, at which the text from a is just the token; else the limit. -/
def endF (l : List UInt8) (x : Tok) (a lim : Nat) : Nat → Nat → Nat
  | 0, _ => lim
  | f + 1, n => if justTok ((l.drop a).take (n - a)) x = true then n else endF l x a lim f (n + 1)

theorem endF_found (l : List UInt8) (x : Tok) (a lim : Nat) : ∀ (f n m : Nat), n ≤ m → m < n + f → justTok ((l.drop a).take (m - a)) x = true →
    n ≤ endF l x a lim f n ∧ endF l x a lim f n ≤ m ∧ justTok ((l.drop a).take (endF l x a lim f n - a)) x = true ∧ ∀ k, n ≤ k → k < endF l x a lim f n → justTok ((l.drop a).take (k - a)) x = false := by
  intro f
  induction f with
  | zero => intro n m h1 h2; omega
  | succ f ih =>
    intro n m h1 h2 h3
    simp only [endF]
    by_cases hj : justTok ((l.drop a).take (n - a)) x = true
    · rw [if_pos hj]
      exact ⟨Nat.le_refl _, h1, hj, fun k h4 h5 => by omega⟩
    · rw [if_neg hj]
      have hne : n ≠ m := by rintro rfl; exact hj h3
      obtain ⟨e1, e2, e3, e4⟩ := ih (n + 1) m (by omega) (by omega) h3
      refine ⟨by omega, e2, e3, fun k h4 h5 => ?_⟩
      by_cases hk : k = n
      · subst hk; simpa using hj
      · exact e4 k (by omega) h5

theorem just_of_token {p : List UInt8} {x y : Tok} {c : UInt8} {t : List UInt8} (hp : p = c :: t) (hlen : p.length ≤ 65536) (hc : blankB false c = false) (hpre : Lib.hasPrefix p [40, 42] = false) (h : lToken p = (y, p.length, 0)) (he : at0 y = at0 x) : justTok p x = true := by
  have h0 : p.length ≠ 0 := by rw [hp]; simp
  obtain ⟨m, hm⟩ : ∃ m, p.length = m + 1 := ⟨p.length - 1, by omega⟩
  have hl : lTokens p false = .ok [{ y with at_ := 0 }, ⟨0, 0, 0, [], p.length⟩] := by
    rw [lTokens, if_neg (by omega), tokens_step (a' := 0) (t := y) (n := p.length) (blanks_stop (c := c) (t := t) (by simpa using hp) hc (by rw [← hp]; exact hpre)) (by omega) (by simpa using h), hm, tokens_end (a' := p.length)]
    · simp [hm]
    · rw [show 0 + (m + 1) = p.length by omega]; exact blanks_end (by simp)
    · rfl
  simp only [justTok, hl, decide_eq_true_eq]
  rw [← he]
  rfl
theorem token_of_just {p : List UInt8} {x : Tok} {c : UInt8} {t : List UInt8} (hp : p = c :: t) (hc : blankB false c = false) (hpre : Lib.hasPrefix p [40, 42] = false) (h : justTok p x = true) : ∃ y z, lToken p = (y, z, 0) ∧ at0 y = at0 x := by
  have hb : blanks false p (p.length + 1) 0 = .ok 0 := blanks_stop (c := c) (t := t) (by simpa using hp) hc (by rw [← hp]; exact hpre)
  have h0 : (0 : Nat) ≠ p.length := by rw [hp]; simp
  obtain ⟨⟨y, z, e⟩, ht⟩ : ∃ q, lToken p = q := ⟨_, rfl⟩
  unfold justTok at h
  unfold lTokens at h
  by_cases hbig : 65536 < p.length
  · rw [if_pos hbig] at h; simp at h
  · rw [if_neg hbig] at h
    by_cases he : e = 0
    · subst he
      refine ⟨y, z, ht, ?_⟩
      rw [tokens_step (t := y) (n := z) hb h0 (by simpa using ht), List.nil_append] at h
      have hpre2 : ∀ (f a : Nat) (out ts : List Tok), tokens false p f a out = .ok ts → ∃ r, ts = out ++ r ∧ r ≠ [] := by
        intro f
        induction f with
        | zero => intro a out ts h; cases h
        | succ f ih =>
          intro a out ts h
          rw [tokens] at h
          split at h
          · cases h
          · split at h
            · injection h with h; exact ⟨_, h.symm, by simp⟩
            · simp only at h
              split at h
              · cases h
              · obtain ⟨r, h1, h2⟩ := ih _ _ _ h
                exact ⟨_, by rw [h1, List.append_assoc], by simp⟩
      obtain ⟨ts, hts⟩ : ∃ ts, tokens false p p.length (0 + z) [{ y with at_ := (0 : Nat) }] = ts := ⟨_, rfl⟩
      rw [hts] at h
      cases ts with
      | error q => simp at h
      | ok ts =>
        obtain ⟨r, h1, h2⟩ := hpre2 _ _ _ _ hts
        rw [h1] at h
        match r, h with
        | [e1], h =>
          simp only [List.cons_append, List.nil_append, decide_eq_true_eq] at h
          rw [← h]; rfl
        | [], h => exact absurd rfl h2
        | e1 :: e2 :: r, h => simp at h
    · rw [tokens_bad (t := y) (n := z) hb h0 (by simpa using ht) he] at h
      simp at h

/-- What the search finds is just the token's bytes. -/
theorem end_piece {l : List UInt8} {a lim z : Nat} {x : Tok} {c : UInt8} {t : List UInt8} (hl : l.length ≤ 65536) (hd : l.drop a = c :: t) (hc : blankB false c = false) (hpre : Lib.hasPrefix (l.drop a) [40, 42] = false)
    (ht : lToken (l.drop a) = (x, z, 0)) (hz : a + z ≤ lim) {y : Tok} (hy : at0 y = at0 x) :
    ∃ m x', endF l y a lim (lim - a) (a + 1) = a + m ∧ 1 ≤ m ∧ m ≤ z ∧ lToken ((l.drop a).take m) = (x', m, 0) ∧ at0 x' = at0 y ∧ ((l.drop a).take m).length = m ∧ ∃ t', (l.drop a).take m = c :: t' := by
  have hne : l.drop a ≠ [] := by rw [hd]; simp
  obtain ⟨hz1, hz2⟩ := lToken_size hne ht rfl
  have hdl : (l.drop a).length ≤ 65536 := by rw [List.length_drop]; omega
  have hcons : ∀ m, 1 ≤ m → ∃ t', (l.drop a).take m = c :: t' := by
    intro m hm
    obtain ⟨m', rfl⟩ : ∃ m', m = m' + 1 := ⟨m - 1, by omega⟩
    exact ⟨t.take m', by rw [hd]; rfl⟩
  have hpm : ∀ m, Lib.hasPrefix ((l.drop a).take m) [40, 42] = false := by
    intro m
    cases h : Lib.hasPrefix ((l.drop a).take m) [40, 42] with
    | false => rfl
    | true => rw [prefix_mono h] at hpre; cases hpre
  have hlen : ∀ m, m ≤ z → ((l.drop a).take m).length = m := fun m hm => by rw [List.length_take]; omega
  have hjust : ∀ m w x', m ≤ z → 1 ≤ m → w = m → lToken ((l.drop a).take m) = (x', w, 0) → at0 x' = at0 y → justTok ((l.drop a).take m) y = true := by
    intro m w x' hm hm1 hw h1 h2
    obtain ⟨t', ht'⟩ := hcons m hm1
    exact just_of_token ht' (by rw [hlen m hm]; omega) hc (hpm m) (by rw [hlen m hm, h1, hw]) h2
  have hz3 : justTok ((l.drop a).take (a + z - a)) y = true := by
    rw [Nat.add_sub_cancel_left]
    exact hjust z z x (Nat.le_refl _) hz1 rfl (lToken_take ht hne) hy.symm
  obtain ⟨e1, e2, e3, e4⟩ := endF_found l y a lim (lim - a) (a + 1) (a + z) (by omega) (by omega) hz3
  obtain ⟨n, hn⟩ : ∃ n, endF l y a lim (lim - a) (a + 1) = n := ⟨_, rfl⟩
  rw [hn] at e1 e2 e3 e4
  obtain ⟨m, rfl⟩ : ∃ m, n = a + m := ⟨n - a, by omega⟩
  rw [Nat.add_sub_cancel_left] at e3
  obtain ⟨t', ht'⟩ := hcons m (by omega)
  obtain ⟨x', w, h1, h2⟩ := token_of_just ht' hc (hpm m) e3
  have hne2 : (l.drop a).take m ≠ [] := by rw [ht']; simp
  obtain ⟨hw1, hw2⟩ := lToken_size hne2 h1 rfl
  rw [hlen m (by omega)] at hw2
  have hwm : w = m := by
    rcases Nat.lt_or_ge w m with h | h
    · exfalso
      have h3 := lToken_take h1 hne2
      rw [take_take_le (by omega)] at h3
      have h4 := hjust w w x' (by omega) hw1 rfl h3 h2
      have h5 := e4 (a + w) (by omega) (by omega)
      rw [Nat.add_sub_cancel_left, h4] at h5
      cases h5
    · omega
  exact ⟨m, x', hn, by omega, by omega, by rw [h1, hwm], h2, hlen m (by omega), t', ht'⟩
end Go.Proofs.YtdpkjpjkdmkkpaaGreatDoor

/- The law on blanks, in plain words: a text's tokens, written with any of the blanks between, are the same but for their places. -/
namespace Go.Proofs.YtdpkjpjkdmkkpaaGreatDoor
open Lx Ad

theorem blanks_at {l : List UInt8} : ∀ {f a a' : Nat}, blanks false l f a = .ok a' → l.length - a < f → a ≤ a' ∧ (l.drop a' = [] ∨ (∃ c t, l.drop a' = c :: t ∧ blankB false c = false) ∧ Lib.hasPrefix (l.drop a') [40, 42] = false) := by
  intro f
  induction f with
  | zero => intro a a' _ h; omega
  | succ f ih =>
    intro a a' h hf
    rw [blanks] at h
    cases hd : l.drop a with
    | nil =>
      rw [hd] at h
      injection h with h
      subst h
      exact ⟨Nat.le_refl _, .inl hd⟩
    | cons c t =>
      rw [hd] at h
      have hal : a < l.length := by
        rcases Nat.lt_or_ge a l.length with h1 | h1
        · exact h1
        · rw [List.drop_of_length_le h1] at hd; cases hd
      simp only at h
      by_cases hb : blankB false c = true
      · rw [if_pos hb] at h
        obtain ⟨h1, h2⟩ := ih h (by omega)
        exact ⟨by omega, h2⟩
      · rw [if_neg hb] at h
        by_cases hp : Lib.hasPrefix (c :: t) [40, 42] = true
        · rw [if_pos hp] at h
          split at h
          · cases h
          · obtain ⟨h1, h2⟩ := ih h (by omega)
            exact ⟨by omega, h2⟩
        · rw [if_neg hp] at h
          injection h with h
          subst h
          exact ⟨Nat.le_refl _, .inr ⟨⟨c, t, hd, by simpa using hb⟩, by rw [hd]; simpa using hp⟩⟩

/-- The tokens from a on, one behind the other. -/
def Chain (l : List UInt8) : Nat → List Tok → Prop
  | _, [] => False
  | a, [e] => e = ⟨0, 0, 0, [], (l.length : Nat)⟩ ∧ a ≤ l.length
  | a, t :: t' :: r => ∃ (a' z : Nat) (x : Tok), a ≤ a' ∧ a' < l.length ∧ t = { x with at_ := (a' : Nat) } ∧ lToken (l.drop a') = (x, z, 0) ∧ (∃ c u, l.drop a' = c :: u ∧ blankB false c = false) ∧ Lib.hasPrefix (l.drop a') [40, 42] = false ∧ a' + z ≤ l.length ∧ Chain l (a' + z) (t' :: r)
theorem Chain.ne {l : List UInt8} {a : Nat} {r : List Tok} (h : Chain l a r) : r ≠ [] := by
  rintro rfl; exact h
theorem tokens_chain {l : List UInt8} : ∀ (f a : Nat) (out ts : List Tok), a ≤ l.length → tokens false l f a out = .ok ts → ∃ r, ts = out ++ r ∧ Chain l a r := by
  intro f
  induction f with
  | zero => intro a out ts _ h; cases h
  | succ f ih =>
    intro a out ts ha h
    rw [tokens] at h
    cases hb : blanks false l (l.length + 1) a with
    | error q => rw [hb] at h; cases h
    | ok a' =>
      rw [hb] at h
      obtain ⟨h1, h2⟩ := blanks_at hb (by omega)
      simp only at h
      by_cases he : a' = l.length
      · rw [if_pos he] at h
        injection h with h
        subst he
        exact ⟨_, h.symm, rfl, ha⟩
      · rw [if_neg he] at h
        by_cases hne : (lToken (l.drop a')).2.2 ≠ 0
        · rw [if_pos hne] at h; cases h
        · rw [if_neg hne] at h
          rcases h2 with h2 | ⟨⟨c, u, h2, h3⟩, h4⟩
          · exfalso
            rw [h2] at h
            simp only [lToken] at h
            have hlt : l.length ≤ a' := by
              have := congrArg List.length h2
              rw [List.length_drop, List.length_nil] at this
              omega
            have hle : a' ≤ l.length := by
              have key : ∀ {f a a' : Nat}, blanks false l f a = .ok a' → a ≤ l.length → a' ≤ l.length := by
                intro f
                induction f with
                | zero => intro a a' h ha; injection h with h; omega
                | succ f ih2 =>
                  intro a a' h ha
                  rw [blanks] at h
                  cases hd : l.drop a with
                  | nil => rw [hd] at h; injection h with h; omega
                  | cons c t =>
                    rw [hd] at h
                    have hlen : (c :: t).length = l.length - a := by rw [← hd, List.length_drop]
                    simp only [List.length_cons] at hlen
                    simp only at h
                    split at h
                    · exact ih2 h (by omega)
                    · split at h
                      · rename_i hp
                        have hp2 := prefix_len hp
                        simp only [List.length_cons, List.length_nil] at hp2
                        split at h
                        · cases h
                        · have hr := Lib.index_room (List.drop 2 (c :: t)) [42, 41] (by omega)
                          rw [List.length_drop] at hr
                          simp only [List.length_cons, List.length_nil] at hr
                          exact ih2 h (by omega)
                      · injection h with h; omega
              exact key hb ha
            exact he (by omega)
          · have hlt : a' < l.length := by
              rcases Nat.lt_or_ge a' l.length with h5 | h5
              · exact h5
              · rw [List.drop_of_length_le h5] at h2; cases h2
            obtain ⟨⟨x, z, e⟩, hx⟩ : ∃ q, lToken (l.drop a') = q := ⟨_, rfl⟩
            rw [hx] at h hne
            have he0 : e = 0 := by simpa using hne
            subst he0
            have hsz := lToken_size (by rw [h2]; simp) hx rfl
            rw [List.length_drop] at hsz
            obtain ⟨r, h5, h6⟩ := ih (a' + z) _ _ (by omega) h
            refine ⟨{ x with at_ := (a' : Nat) } :: r, by rw [h5]; simp, ?_⟩
            cases r with
            | nil => exact absurd rfl h6.ne
            | cons t' r => exact ⟨a', z, x, h1, hlt, rfl, hx, ⟨c, u, h2, h3⟩, h4, by omega, h6⟩

/-- The text that the statement puts together. -/
def outL (l : List UInt8) (bl : Nat → Nat) : Nat → List Tok → List UInt8
  | i, t :: t' :: r => BL (bl i) ++ ((l.drop t.at_.toNat).take (endF l t t.at_.toNat t'.at_.toNat (t'.at_.toNat - t.at_.toNat) (t.at_.toNat + 1) - t.at_.toNat) ++ outL l bl (i + 1) (t' :: r))
  | _, _ => []
theorem BL_len (b : Nat) : (BL b).length ≤ 10 := by
  unfold BL
  split <;> simp
theorem Chain.next {l : List UInt8} {a : Nat} {t : Tok} {r : List Tok} (h : Chain l a (t :: r)) : ∃ n : Nat, t.at_ = (n : Int) ∧ a ≤ n ∧ n ≤ l.length := by
  cases r with
  | nil => exact ⟨l.length, by rw [h.1], h.2, Nat.le_refl _⟩
  | cons t' r =>
    obtain ⟨a', z, x, h1, h2, h3, _⟩ := h
    exact ⟨a', by rw [h3], h1, by omega⟩
theorem chain_glue {l : List UInt8} (hl : l.length ≤ 65536) {bl : Nat → Nat} (hbl : ∀ i, bl i < 6) : ∀ (ts : List Tok) (a i : Nat), Chain l a ts →
    ∃ items, (∀ q ∈ items, Piece q) ∧ outL l bl i ts ++ [32] = glue items ∧ items.map (fun q => at0 q.2.2) ++ [⟨0, 0, 0, [], 0⟩] = ts.map at0 ∧ (outL l bl i ts).length ≤ (l.length - a) + 10 * ts.length ∧ items.length ≤ ts.length := by
  intro ts
  induction ts with
  | nil => intro a i h; exact absurd h id
  | cons t ts ih =>
    intro a i h
    cases ts with
    | nil => exact ⟨[], by simp, rfl, by rw [h.1]; rfl, by simp [outL], by simp⟩
    | cons t' r =>
      obtain ⟨a', z, x, h1, h2, h3, h4, ⟨c, u, h5, h6⟩, h7, h8, h9⟩ := h
      obtain ⟨n, e1, e2, e3⟩ := h9.next
      obtain ⟨items, i1, i2, i3, i4, i5⟩ := ih (a' + z) (i + 1) h9
      have hat : t.at_.toNat = a' := by rw [h3]; simp
      have hat' : t'.at_.toNat = n := by rw [e1]; simp
      obtain ⟨m, x', m1, m2, m3, m4, m5, m6, u', m7⟩ := end_piece (lim := n) hl h5 h6 h7 h4 e2 (y := t) (by rw [h3]; rfl)
      refine ⟨(bl i, (l.drop a').take m, x') :: items, ?_, ?_, ?_, ?_, by simp at i5 ⊢; omega⟩
      · intro q hq
        rcases List.mem_cons.1 hq with rfl | hq
        · exact ⟨hbl i, by simp only [m6]; exact m4, c, u', m7, h6⟩
        · exact i1 q hq
      · simp only [outL, hat, hat', m1, Nat.add_sub_cancel_left, glue, ← i2, List.append_assoc]
      · simp only [List.map_cons, List.cons_append]
        rw [i3, m5]
        rfl
      · simp only [outL, hat, hat', m1, Nat.add_sub_cancel_left, List.length_append, m6]
        have := BL_len (bl i)
        simp only [List.length_cons] at i4 ⊢
        omega

/-- THE LAW ON BLANKS. -/
theorem blanks_law {l : List UInt8} {ts : List Tok} {bl : Nat → Nat} (hbl : ∀ i, bl i < 6) (h : lTokens l false = .ok ts) (hl : l.length ≤ 1500) :
    ∃ ms, lTokens (outL l bl 0 ts ++ [32]) false = .ok ms ∧ ms.map at0 = ts.map at0 := by
  have hbig : ¬ 65536 < l.length := by omega
  rw [lTokens, if_neg hbig] at h
  obtain ⟨r, h1, h2⟩ := tokens_chain _ _ _ _ (Nat.zero_le _) h
  rw [List.nil_append] at h1
  subst h1
  have hcount : ∀ (ts : List Tok) (a : Nat), Chain l a ts → ts.length ≤ l.length - a + 1 := by
    intro ts
    induction ts with
    | nil => intro a h; exact absurd h id
    | cons t ts ih =>
      intro a h
      cases ts with
      | nil => simp
      | cons t' r =>
        obtain ⟨a', z, x, h1, h2, h3, h4, ⟨c, u, h5, h6⟩, h7, h8, h9⟩ := h
        have := ih (a' + z) h9
        have hsz := lToken_size (by rw [h5]; simp) h4 rfl
        simp only [List.length_cons] at this ⊢
        omega
  have hc := hcount _ _ h2
  obtain ⟨items, i1, i2, i3, i4, i5⟩ := chain_glue (by omega) hbl _ 0 0 h2
  obtain ⟨L, hL⟩ : ∃ L, outL l bl 0 ts ++ [32] = L := ⟨_, rfl⟩
  have hLl : L.length = (outL l bl 0 ts).length + 1 := by rw [← hL]; simp
  rw [hL] at i2 ⊢
  have hgl : ∀ its : List (Nat × List UInt8 × Tok), (∀ q ∈ its, Piece q) → its.length < (glue its).length := by
    intro its
    induction its with
    | nil => intro _; simp [glue]
    | cons q its ih =>
      intro hq
      have h1 := ih (fun q' hq' => hq q' (by simp [hq']))
      obtain ⟨b, p, y⟩ := q
      have h2 := (BL_stop (hq (b, p, y) (by simp)).1 []).2
      have h3 : 0 < (BL b).length := List.length_pos_iff.2 h2
      simp only [glue, List.length_append, List.length_cons]
      omega
  have hg := hgl items i1
  rw [← i2] at hg
  obtain ⟨ms, m1, m2⟩ := glue_tokens items [] (L.length + 1) [] L i1 (by rw [i2]; rfl) (by omega)
  refine ⟨ms, ?_, by rw [m2, i3]⟩
  rw [lTokens, if_neg (by omega)]
  simpa using m1
end Go.Proofs.YtdpkjpjkdmkkpaaGreatDoor

/- The reference's tokens in plain words: its times (reckoned in 64 bits), tokens, all; and where they are lex's. -/
namespace Go.Proofs.YtdpkjpjkdmkkpaaGreatDoor
open Lx Ad

/-- The i-th byte, or 0. -/
def cAt (l : List UInt8) (i : Nat) : UInt8 := l.getD i 0
/-- The unit that stands here; -1: none. -/
def rUnit (l : List UInt8) (p : Nat) : Int :=
  if (cAt l p).toNat = 100 then 0 else if (cAt l p).toNat = 104 then 1
  else if (cAt l p).toNat = 109 ∧ (cAt l (p + 1)).toNat = 115 then 4 else if (cAt l p).toNat = 109 then 2
  else if (cAt l p).toNat = 115 then 3 else -1
def rStep (n m : Int) (u : Int) : Int := min (IntKind.i64.wrap (n + min (IntKind.i64.wrap (m * unitMs u.toNat)) 1099511627776)) 1099511627776
/-- The parts of a time: where it ends, how long it is, is there one. -/
def rTimes (l : List UInt8) : Nat → Nat → Int → Int → Bool → Nat × Int × Bool
  | 0, a, n, _, b => (a, n, b)
  | f + 1, a, n, last, b =>
    if dig (cAt l a) = true then
      let d := digits (l.drop a) 10
      let u := rUnit l (a + d.2)
      if u ≤ last then (a, n, b)
      else rTimes l f (a + d.2 + (if u = 4 then 2 else 1)) (rStep n d.1 u) u true
    else (a, n, b)
def rTime (t : Nat × Int × Bool) (n : Int) : Tok × Nat × Int :=
  if t.2.2 = false then (tok0, 0, 120)
  else if n < -2147483648 ∨ 2147483647 < n then (tok0, 0, 163) else (⟨4, 11, n, [], 0⟩, t.1, 0)
/-- A time behind its sign. -/
def rSpan2 (l : List UInt8) (a : Nat) : Tok × Nat × Int :=
  if (cAt l a).toNat = 45 then rTime (rTimes l 6 (a + 1) 0 (-1) false) (IntKind.i64.wrap (-(rTimes l 6 (a + 1) 0 (-1) false).2.1))
  else rTime (rTimes l 6 a 0 (-1) false) (rTimes l 6 a 0 (-1) false).2.1
def rWordTok (l : List UInt8) : Tok × Nat × Int :=
  let z := span wordB l
  let x := mkS (l.take z)
  let k := kindOf x
  if l[z]? = some 35 ∧ (k ≠ 0 ∨ (x.toList == [84]) = true) then
    if k = 11 ∨ k = 0 then rSpan2 l (z + 1) else lTyped l (z + 1) k
  else wordRest x z
def rToken (l : List UInt8) : Tok × Nat × Int := match l with
  | [] => (tok0, 0, 0)
  | c :: t => if c.toNat ≠ 10 ∧ lett c = true then rWordTok (c :: t) else lToken (c :: t)

/-- All tokens from a on. -/
def rT (il : Bool) (l : List UInt8) : Nat → Nat → List Tok → Except (Nat × Int) (List Tok)
  | 0, a, _ => .error (a, 0)
  | f + 1, a, out => match l.drop a with
    | [] => .ok (out ++ [⟨0, 0, 0, [], l.length⟩])
    | c :: t =>
      if blankB il c = true then rT il l f (a + 1) out
      else if c.toNat = 10 then rT il l f (a + 1) (out ++ [⟨7, 0, 0, [10], a⟩])
      else if Lib.hasPrefix (c :: t) [40, 42] = true then
        if Lib.index ((c :: t).drop 2) [42, 41] < 0 then .error (a, 120)
        else rT il l f (a + ((Lib.index ((c :: t).drop 2) [42, 41]).toNat + 4)) out
      else
        let r := rToken (c :: t)
        if r.2.2 ≠ 0 then .error (a, r.2.2) else rT il l f (a + r.2.1) (out ++ [{ r.1 with at_ := a }])
def rTokens (l : List UInt8) (il : Bool) : Except (Nat × Int) (List Tok) :=
  if 65536 < l.length then .error (65536, 121) else rT il l (l.length + 1) 0 []

theorem cAt_drop (l : List UInt8) (a i : Nat) : cAt (l.drop a) i = cAt l (a + i) := by
  unfold cAt
  rw [List.getD_eq_getElem?_getD, List.getD_eq_getElem?_getD, List.getElem?_drop]

theorem pre1 (l : List UInt8) (p : Nat) (k : UInt8) (hk : k ≠ 0) : Lib.hasPrefix (l.drop p) [k] = true ↔ cAt l p = k := by
  unfold cAt
  rw [List.getD_eq_getElem?_getD]
  rcases Nat.lt_or_ge p l.length with h | h
  · rw [List.drop_eq_getElem_cons h, List.getElem?_eq_getElem h]
    simp [Lib.hasPrefix, List.isPrefixOf]
    exact eq_comm
  · rw [List.drop_of_length_le h, List.getElem?_eq_none h]
    simp [Lib.hasPrefix, List.isPrefixOf]
    exact fun h => hk h.symm
theorem pre2 (l : List UInt8) (p : Nat) (k m : UInt8) (hk : k ≠ 0) (hm : m ≠ 0) : Lib.hasPrefix (l.drop p) [k, m] = true ↔ cAt l p = k ∧ cAt l (p + 1) = m := by
  unfold cAt
  rw [List.getD_eq_getElem?_getD, List.getD_eq_getElem?_getD]
  rcases Nat.lt_or_ge p l.length with h | h
  · rw [List.drop_eq_getElem_cons h, List.getElem?_eq_getElem h]
    rcases Nat.lt_or_ge (p + 1) l.length with h2 | h2
    · rw [List.drop_eq_getElem_cons h2, List.getElem?_eq_getElem h2]
      simp [Lib.hasPrefix, List.isPrefixOf]
      exact ⟨fun h => ⟨h.1.symm, h.2.symm⟩, fun h => ⟨h.1.symm, h.2.symm⟩⟩
    · rw [List.drop_of_length_le h2, List.getElem?_eq_none h2]
      simp [Lib.hasPrefix, List.isPrefixOf]
      exact fun _ h => hm h.symm
  · rw [List.drop_of_length_le h, List.getElem?_eq_none h]
    simp [Lib.hasPrefix, List.isPrefixOf]
    exact fun h => absurd h.symm hk
theorem u8n (c k : UInt8) : c.toNat = k.toNat ↔ c = k := ⟨fun h => UInt8.toNat_inj.1 h, fun h => by rw [h]⟩

/-- The two ways of finding a unit. -/
theorem unit_same (l : List UInt8) (p next size : Nat) (hn : next ≤ 5) (hs : size ≠ 0) :
    (unitOf (l.drop p) next size < 0 ∧ rUnit l p ≤ (next : Int) - 1) ∨ (unitOf (l.drop p) next size = rUnit l p ∧ (next : Int) - 1 < rUnit l p ∧ 0 ≤ rUnit l p) := by
  unfold unitOf
  rw [if_neg hs]
  have e0 := pre1 l p 100 (by decide)
  have e1 := pre1 l p 104 (by decide)
  have e2 := pre1 l p 109 (by decide)
  have e3 := pre1 l p 115 (by decide)
  have e4 := pre2 l p 109 115 (by decide) (by decide)
  obtain ⟨c, hc⟩ : ∃ c, cAt l p = c := ⟨_, rfl⟩
  obtain ⟨c', hc'⟩ : ∃ c, cAt l (p + 1) = c := ⟨_, rfl⟩
  rw [hc] at e0 e1 e2 e3 e4
  rw [hc'] at e4
  have n0 := u8n c 100
  have n1 := u8n c 104
  have n2 := u8n c 109
  have n3 := u8n c 115
  have n4 := u8n c' 115
  simp only [show (100 : UInt8).toNat = 100 from rfl, show (104 : UInt8).toNat = 104 from rfl, show (109 : UInt8).toNat = 109 from rfl, show (115 : UInt8).toNat = 115 from rfl] at n0 n1 n2 n3 n4
  have key : (c = 100 ∨ c = 104 ∨ (c = 109 ∧ c' = 115) ∨ (c = 109 ∧ c' ≠ 115) ∨ c = 115) ∨ (c ≠ 100 ∧ c ≠ 104 ∧ c ≠ 109 ∧ c ≠ 115) := by
    by_cases a : c = 100 <;> by_cases b : c = 104 <;> by_cases d : c = 109 <;> by_cases e : c = 115 <;> by_cases f : c' = 115 <;> simp_all
  have h6 : next = 0 ∨ next = 1 ∨ next = 2 ∨ next = 3 ∨ next = 4 ∨ next = 5 := by omega
  unfold rUnit
  rw [hc, hc']
  rcases key with (rfl | rfl | ⟨rfl, rfl⟩ | ⟨rfl, hne⟩ | rfl) | ⟨a, b, d, e⟩ <;> rcases h6 with rfl | rfl | rfl | rfl | rfl | rfl <;> simp_all [unitFrom, unitS]

/-- No part is so great that it can't be reckoned. -/
def smallT (l : List UInt8) : Nat → Nat → Nat → Prop
  | 0, _, _ => True
  | f + 1, a, next =>
    let d := digits (l.drop a) 10
    let k := unitOf (l.drop (a + d.2)) next d.2
    k < 0 ∨ d.1 ≤ 2147483648 ∧ smallT l f (a + d.2 + (unitS k.toNat).length) (k.toNat + 1)

theorem dig_digits {l : List UInt8} {a : Nat} : dig (cAt l a) = true ↔ (digits (l.drop a) 10).2 ≠ 0 := by
  unfold cAt
  rw [List.getD_eq_getElem?_getD]
  rcases Nat.lt_or_ge a l.length with h | h
  · rw [List.drop_eq_getElem_cons h, List.getElem?_eq_getElem h, Option.getD_some]
    obtain ⟨c, hc⟩ : ∃ c, l[a] = c := ⟨_, rfl⟩
    rw [hc]
    rw [digits, digF, if_neg (by simp)]
    cases hv : valOk c 10 with
    | true =>
      rw [if_pos rfl, valOk10_dig hv]
      rcases digF_far 10 (l.drop (a + 1)) true 1 (min (0 * 10 + valD c) 1099511627776) 1 (Nat.le_refl _) with h1 | h1
      · rw [h1]; simp
      · constructor
        · exact fun _ => Nat.ne_of_gt (Nat.lt_of_lt_of_le (by decide) h1)
        · intro _; rfl
    | false =>
      rw [if_neg (by simp)]
      have hd : dig c = false := by
        cases hd : dig c with
        | false => rfl
        | true =>
          exfalso
          unfold valOk valD at hv
          rw [hd] at hv
          simp [dig] at hd hv
          omega
      simp [hd]
  · rw [List.drop_of_length_le h, List.getElem?_eq_none h]
    simp [digits, digF, dig]

theorem step_same {n m : Int} {j : Nat} (hn0 : 0 ≤ n) (hn1 : n ≤ 1099511627776) (hm0 : 0 ≤ m) (hm1 : m ≤ 2147483648) (hj : j < 5) : rStep n m j = timeStep n m j := by
  unfold rStep timeStep
  rw [Int.toNat_natCast]
  match j, hj with
  | 0, _ =>
    simp only [unitMs]
    have e1 : IntKind.i64.wrap (m * 86400000) = m * 86400000 := by simp [IntKind.wrap, IntKind.bits, IntKind.signed]; omega
    rw [e1]
    have e2 : IntKind.i64.wrap (n + min (m * 86400000) 1099511627776) = n + min (m * 86400000) 1099511627776 := by simp [IntKind.wrap, IntKind.bits, IntKind.signed]; omega
    rw [e2]; omega
  | 1, _ =>
    simp only [unitMs]
    have e1 : IntKind.i64.wrap (m * 3600000) = m * 3600000 := by simp [IntKind.wrap, IntKind.bits, IntKind.signed]; omega
    rw [e1]
    have e2 : IntKind.i64.wrap (n + min (m * 3600000) 1099511627776) = n + min (m * 3600000) 1099511627776 := by simp [IntKind.wrap, IntKind.bits, IntKind.signed]; omega
    rw [e2]; omega
  | 2, _ =>
    simp only [unitMs]
    have e1 : IntKind.i64.wrap (m * 60000) = m * 60000 := by simp [IntKind.wrap, IntKind.bits, IntKind.signed]; omega
    rw [e1]
    have e2 : IntKind.i64.wrap (n + min (m * 60000) 1099511627776) = n + min (m * 60000) 1099511627776 := by simp [IntKind.wrap, IntKind.bits, IntKind.signed]; omega
    rw [e2]; omega
  | 3, _ =>
    simp only [unitMs]
    have e1 : IntKind.i64.wrap (m * 1000) = m * 1000 := by simp [IntKind.wrap, IntKind.bits, IntKind.signed]; omega
    rw [e1]
    have e2 : IntKind.i64.wrap (n + min (m * 1000) 1099511627776) = n + min (m * 1000) 1099511627776 := by simp [IntKind.wrap, IntKind.bits, IntKind.signed]; omega
    rw [e2]; omega
  | 4, _ =>
    simp only [unitMs]
    have e1 : IntKind.i64.wrap (m * 1) = m * 1 := by simp [IntKind.wrap, IntKind.bits, IntKind.signed]; omega
    rw [e1]
    have e2 : IntKind.i64.wrap (n + min (m * 1) 1099511627776) = n + min (m * 1) 1099511627776 := by simp [IntKind.wrap, IntKind.bits, IntKind.signed]; omega
    rw [e2]; omega

theorem timeStep_range (n m : Int) (j : Nat) (hn : 0 ≤ n) (hm : 0 ≤ m) (hj : j < 5) : 0 ≤ timeStep n m j ∧ timeStep n m j ≤ 1099511627776 := by
  unfold timeStep
  have h : 0 ≤ min m (1099511627776 / unitMs j + 1) * unitMs j := by
    match j, hj with
    | 0, _ => simp only [unitMs]; omega
    | 1, _ => simp only [unitMs]; omega
    | 2, _ => simp only [unitMs]; omega
    | 3, _ => simp only [unitMs]; omega
    | 4, _ => simp only [unitMs]; omega
  omega

theorem rTimes_same (l : List UInt8) : ∀ (f a : Nat) (n : Int) (next : Nat), next ≤ 5 → 5 - next ≤ f → 0 ≤ n → n ≤ 1099511627776 → smallT l f a next →
    rTimes l (f + 1) a n ((next : Int) - 1) (next != 0) = ((times l f a n next).1, (times l f a n next).2.1, (times l f a n next).2.2 != 0) := by
  intro f
  induction f with
  | zero =>
    intro a n next h5 hf h0 h1 _
    have hn : next = 5 := by omega
    subst hn
    simp only [rTimes, times]
    split
    · rename_i hd
      have hu : rUnit l (a + (digits (l.drop a) 10).2) ≤ ((5 : Nat) : Int) - 1 := by unfold rUnit; repeat' split <;> first | omega | skip
      rw [if_pos hu]
    · rfl
  | succ f ih =>
    intro a n next h5 hf h0 h1 hs
    obtain ⟨d, hd⟩ : ∃ d, digits (l.drop a) 10 = d := ⟨_, rfl⟩
    have hdr := digits_range (l.drop a) 10 (by omega)
    have hdd := dig_digits (l := l) (a := a)
    simp only [smallT] at hs
    rw [hd] at hdr hdd hs
    rw [rTimes, times]
    simp only [hd]
    by_cases hz : d.2 = 0
    · have e : ¬ dig (cAt l a) = true := fun h => hdd.1 h hz
      rw [if_neg e]
      have e2 : unitOf (l.drop (a + d.2)) next d.2 < 0 := by unfold unitOf; rw [if_pos hz]; decide
      rw [if_pos e2]
    · rw [if_pos (hdd.2 hz)]
      rcases unit_same l (a + d.2) next d.2 h5 hz with ⟨h2, h3⟩ | ⟨h2, h3, h4⟩
      · rw [if_pos h2, if_pos h3]
      · have hk : ¬ unitOf (l.drop (a + d.2)) next d.2 < 0 := by omega
        obtain ⟨j, j1, j2, j3, j4⟩ := unitOf_is rfl h5 hk
        rcases hs with hs | ⟨hs1, hs2⟩
        · exact absurd hs hk
        · rw [if_neg hk, if_neg (by omega)]
          rw [j1, Int.toNat_natCast] at hs2 ⊢
          rw [← h2, j1]
          have hlen : (if (j : Int) = 4 then 2 else 1) = (unitS j).length := by
            match j, j3 with
            | 0, _ => rfl
            | 1, _ => rfl
            | 2, _ => rfl
            | 3, _ => rfl
            | 4, _ => rfl
          rw [hlen, step_same h0 h1 hdr.1 hs1 j3]
          have hr := timeStep_range n d.1 j h0 hdr.1 j3
          have := ih (a + d.2 + (unitS j).length) (timeStep n d.1 j) (j + 1) (by omega) (by omega) hr.1 hr.2 hs2
          rw [show (((j + 1 : Nat) : Int) - 1) = j by omega, show (j + 1 != 0) = true by simp] at this
          exact this

theorem times_grow (l : List UInt8) : ∀ (f a : Nat) (n : Int) (next : Nat), 0 ≤ n → n ≤ 1099511627776 → next ≤ 5 → n ≤ (times l f a n next).2.1 ∧ (times l f a n next).2.1 ≤ 1099511627776 := by
  intro f
  induction f with
  | zero => intro a n next h0 h1 _; exact ⟨Int.le_refl _, h1⟩
  | succ f ih =>
    intro a n next h0 h1 h5
    simp only [times]
    split
    · exact ⟨Int.le_refl _, h1⟩
    · rename_i hk
      obtain ⟨j, j1, j2, j3, j4⟩ := unitOf_is rfl h5 hk
      rw [j1, Int.toNat_natCast]
      have hdr := digits_range (l.drop a) 10 (by omega)
      have hr := timeStep_range n (digits (l.drop a) 10).1 j h0 hdr.1 j3
      have := ih (a + (digits (l.drop a) 10).2 + (unitS j).length) (timeStep n (digits (l.drop a) 10).1 j) (j + 1) hr.1 hr.2 (by omega)
      refine ⟨Int.le_trans ?_ this.1, this.2⟩
      unfold timeStep
      have h : 0 ≤ min (digits (l.drop a) 10).1 (1099511627776 / unitMs j + 1) * unitMs j := by
        match j, j3 with
        | 0, _ => simp only [unitMs]; omega
        | 1, _ => simp only [unitMs]; omega
        | 2, _ => simp only [unitMs]; omega
        | 3, _ => simp only [unitMs]; omega
        | 4, _ => simp only [unitMs]; omega
      omega
theorem step_small {n m : Int} {j : Nat} (hj : j < 5) (hn : 0 ≤ n) (_hm : 0 ≤ m) (h : timeStep n m j ≤ 2147483648) : m ≤ 2147483648 := by
  unfold timeStep at h
  match j, hj with
  | 0, _ => simp only [unitMs] at h; omega
  | 1, _ => simp only [unitMs] at h; omega
  | 2, _ => simp only [unitMs] at h; omega
  | 3, _ => simp only [unitMs] at h; omega
  | 4, _ => simp only [unitMs] at h; omega
theorem times_small (l : List UInt8) : ∀ (f a : Nat) (n : Int) (next : Nat), 0 ≤ n → n ≤ 1099511627776 → next ≤ 5 → (times l f a n next).2.1 ≤ 2147483648 → smallT l f a next := by
  intro f
  induction f with
  | zero => intro a n next _ _ _ _; trivial
  | succ f ih =>
    intro a n next h0 h1 h5 h
    simp only [times, smallT] at h ⊢
    by_cases hk : unitOf (l.drop (a + (digits (l.drop a) 10).2)) next (digits (l.drop a) 10).2 < 0
    · exact .inl hk
    · right
      rw [if_neg hk] at h
      obtain ⟨j, j1, j2, j3, j4⟩ := unitOf_is rfl h5 hk
      rw [j1, Int.toNat_natCast] at h ⊢
      have hdr := digits_range (l.drop a) 10 (by omega)
      have hr := timeStep_range n (digits (l.drop a) 10).1 j h0 hdr.1 j3
      have hg := times_grow l f (a + (digits (l.drop a) 10).2 + (unitS j).length) (timeStep n (digits (l.drop a) 10).1 j) (j + 1) hr.1 hr.2 (by omega)
      exact ⟨step_small j3 h0 hdr.1 (by omega), ih _ _ _ hr.1 hr.2 (by omega) h⟩
end Go.Proofs.YtdpkjpjkdmkkpaaGreatDoor

/- Where the reference's tokens are lex's: in whatever begins with a token that lex takes. -/
namespace Go.Proofs.YtdpkjpjkdmkkpaaGreatDoor
open Lx Ad

theorem small_end {l : List UInt8} {f a next : Nat} (h : l.length ≤ a) : smallT l f a next := by
  cases f with
  | zero => trivial
  | succ f =>
    simp only [smallT]
    left
    rw [List.drop_of_length_le h]
    simp [digits, digF, unitOf]

theorem digF_bytes (base : Int) : ∀ (x : List UInt8) (ok : Bool) (i : Nat) (n : Int) (sz : Nat), sz ≤ i → ∀ j, i + j < (digF base x ok i n sz).2 → ∃ c, x[j]? = some c ∧ (c.toNat = 95 ∨ valOk c base = true) := by
  intro x
  induction x with
  | nil => intro ok i n sz h j hj; simp [digF] at hj; omega
  | cons c x ih =>
    intro ok i n sz h j hj
    simp only [digF] at hj
    by_cases h1 : c.toNat = 95 ∧ ok = true
    · rw [if_pos h1] at hj
      cases j with
      | zero => exact ⟨c, rfl, .inl h1.1⟩
      | succ j => simpa using ih false (i + 1) n sz (by omega) j (by omega)
    · rw [if_neg h1] at hj
      by_cases h2 : valOk c base = true
      · rw [if_pos h2] at hj
        cases j with
        | zero => exact ⟨c, rfl, .inr h2⟩
        | succ j => simpa using ih true (i + 1) (min (n * base + valD c) 1099511627776) (i + 1) (Nat.le_refl _) j (by omega)
      · rw [if_neg h2] at hj; omega
theorem unit_head {rest : List UInt8} {c : UInt8} (hc : rest[0]? = some c) (h : c.toNat = 95 ∨ valOk c 10 = true) (next size : Nat) : unitOf rest next size < 0 := by
  unfold unitOf
  split
  · decide
  · by_cases h5 : next ≤ 5
    · rcases unitFrom_prefix rest (5 - next) next (-1) (.inl rfl) (by omega) with h2 | ⟨j, h2, h3, h4⟩
      · rw [h2]; decide
      · exfalso
        cases rest with
        | nil => cases hc
        | cons c' t =>
          simp at hc
          subst hc
          have hd : c'.toNat = 95 ∨ (48 ≤ c'.toNat ∧ c'.toNat ≤ 57) := by
            rcases h with h | h
            · exact .inl h
            · have := valOk10_dig h; simp [dig] at this; exact .inr this
          unfold Lib.hasPrefix at h4
          rw [List.isPrefixOf_iff_prefix] at h4
          obtain ⟨u, hu⟩ := h4
          match j, h3 with
          | 0, _ => simp [unitS] at hu; rw [← hu.1] at hd; simp at hd
          | 1, _ => simp [unitS] at hu; rw [← hu.1] at hd; simp at hd
          | 2, _ => simp [unitS] at hu; rw [← hu.1] at hd; simp at hd
          | 3, _ => simp [unitS] at hu; rw [← hu.1] at hd; simp at hd
          | 4, _ => simp [unitS] at hu; rw [← hu.1] at hd; simp at hd
    · have : 5 - next = 0 := by omega
      rw [this]; simp [unitFrom]
theorem unit_nil (next size : Nat) : unitOf [] next size < 0 := by
  unfold unitOf
  split
  · decide
  · have key : ∀ f i, i + f ≤ 5 ∨ f = 0 → unitFrom [] f i (-1) = -1 := by
      intro f
      induction f with
      | zero => intro i _; rfl
      | succ f ih =>
        intro i hi
        simp only [unitFrom]
        have h5 : i < 5 := by omega
        have : Lib.hasPrefix [] (unitS i) = false := by
          match i, h5 with
          | 0, _ => rfl
          | 1, _ => rfl
          | 2, _ => rfl
          | 3, _ => rfl
          | 4, _ => rfl
        rw [this]; exact ih _ (by omega)
    rw [key _ _ (by omega)]; decide

theorem small_take (l : List UInt8) (Z : Nat) : ∀ (f a next : Nat), next ≤ 5 → smallT l f a next → smallT (l.take Z) f a next := by
  intro f
  induction f with
  | zero => intro a next _ _; trivial
  | succ f ih =>
    intro a next hn h
    rcases Nat.lt_or_ge a (l.take Z).length with hal | hal
    · rw [List.length_take] at hal
      obtain ⟨d, hd⟩ : ∃ d, digits (l.drop a) 10 = d := ⟨_, rfl⟩
      simp only [smallT] at h ⊢
      rw [hd] at h
      by_cases hfit : d.2 ≤ Z - a
      · have hd2 : digits ((l.take Z).drop a) 10 = d := by rw [take_drop, digits_take (by rw [hd]; exact hfit), hd]
        rw [hd2]
        have hrest : (l.take Z).drop (a + d.2) = (l.drop (a + d.2)).take (Z - (a + d.2)) := take_drop
        rw [hrest]
        by_cases hu : unitOf ((l.drop (a + d.2)).take (Z - (a + d.2))) next d.2 < 0
        · exact .inl hu
        · obtain ⟨j, j1, j2, j3, j4⟩ := unitOf_is rfl hn hu
          have hpj : Lib.hasPrefix ((l.drop (a + d.2)).take (Z - (a + d.2))) (unitS j) = true := by
            have hs : d.2 ≠ 0 := by
              intro h0
              rw [h0] at hu; exact hu (by simp [unitOf])
            unfold unitOf at j1
            rw [if_neg hs] at j1
            rcases unitFrom_prefix _ (5 - next) next (-1) (.inl rfl) (by omega) with h2 | ⟨j', h2, h3, h4⟩
            · rw [j1] at h2; omega
            · rw [j1] at h2
              have : j' = j := by omega
              subst this; exact h4
          have hpj2 := prefix_mono hpj
          have hs : d.2 ≠ 0 := by
            intro h0
            rw [h0] at hu; exact hu (by simp [unitOf])
          have hge : (j : Int) ≤ unitOf (l.drop (a + d.2)) next d.2 := by
            unfold unitOf
            rw [if_neg hs]
            exact unitFrom_last _ (5 - next) next (-1) (by omega) j j2 j3 hpj2
          rcases h with h | ⟨h1, h2⟩
          · omega
          · right
            refine ⟨h1, ?_⟩
            obtain ⟨u, u1, u2, u3, u4⟩ := unitOf_is (rest := l.drop (a + d.2)) (next := next) (size := d.2) rfl hn (by omega)
            rw [u1, Int.toNat_natCast] at h2
            rw [j1, Int.toNat_natCast]
            by_cases hlen : (unitS u).length ≤ Z - (a + d.2)
            · have he : unitOf ((l.drop (a + d.2)).take (Z - (a + d.2))) next d.2 = unitOf (l.drop (a + d.2)) next d.2 :=
                unitOf_take hn (fun j' hj' => by rw [u1] at hj'; have : j' = u := by omega
                                                 subst this; exact hlen)
              have : j = u := by omega
              subst this
              exact ih _ _ (by omega) h2
            · have ul := unit_len u u3
              have jl := unit_len j j3
              apply small_end
              rw [List.length_take]
              rw [List.length_take] at j4
              omega
      · left
        have hsz := digits_size ((l.take Z).drop a) 10
        have hlen : ((l.take Z).drop a).length = min Z l.length - a := by rw [List.length_drop, List.length_take]
        obtain ⟨d', hd'⟩ : ∃ d', digits ((l.take Z).drop a) 10 = d' := ⟨_, rfl⟩
        rw [hd'] at hsz ⊢
        have hb := digF_bytes 10 (l.drop a) false 0 0 0 (Nat.le_refl _)
        rw [show digF 10 (List.drop a l) false 0 0 0 = d from hd] at hb
        have hle := digits_size (l.drop a) 10
        rw [hd, List.length_drop] at hle
        by_cases hend : d'.2 < Z - a
        · obtain ⟨c, c1, c2⟩ := hb d'.2 (by omega)
          refine unit_head (c := c) ?_ c2 _ _
          rw [List.getElem?_drop, Nat.add_zero, List.getElem?_take, if_pos (by omega)]
          rw [List.getElem?_drop] at c1
          exact c1
        · rw [List.drop_of_length_le (by rw [List.length_take]; omega)]
          exact unit_nil _ _
    · exact small_end hal

theorem cAt_take {l : List UInt8} {Z a : Nat} (h : a < Z) : cAt (l.take Z) a = cAt l a := by
  unfold cAt
  rw [List.getD_eq_getElem?_getD, List.getD_eq_getElem?_getD, take_get h]

theorem minus_same (l : List UInt8) (a : Nat) : ((cAt l a).toNat = 45) ↔ Lib.hasPrefix (l.drop a) [45] = true := by
  rw [pre1 l a 45 (by decide)]
  exact u8n _ 45

theorem wrapT (n : Int) : (n = kWrap 11 n) ↔ ¬ (n < -2147483648 ∨ 2147483647 < n) := by
  unfold kWrap
  simp [IntKind.wrap, IntKind.bits, IntKind.signed]
  omega

/-- A time that can be reckoned is the same in both. -/
theorem span_same {l : List UInt8} {a : Nat} (h : smallT l 5 (if (cAt l a).toNat = 45 then a + 1 else a) 0) : rSpan2 l a = lSpan2 l a := by
  unfold rSpan2 lSpan2
  by_cases hm : (cAt l a).toNat = 45
  · rw [if_pos hm] at h ⊢
    rw [if_pos ((minus_same l a).1 hm)]
    have e := rTimes_same l 5 (a + 1) 0 0 (by omega) (by omega) (by omega) (by omega) h
    have hg := times_grow l 5 (a + 1) 0 0 (by omega) (by omega) (by omega)
    rw [show ((0 : Nat) : Int) - 1 = -1 by rfl, show (0 != 0) = false by rfl] at e
    rw [e]
    obtain ⟨t, ht⟩ : ∃ t, times l 5 (a + 1) 0 0 = t := ⟨_, rfl⟩
    rw [ht] at hg ⊢
    have ew : IntKind.i64.wrap (-t.2.1) = t.2.1 * -1 := by
      rw [show t.2.1 * -1 = -t.2.1 by omega]
      simp [IntKind.wrap, IntKind.bits, IntKind.signed]; omega
    simp only [rTime, lTime, ew]
    by_cases h0 : t.2.2 = 0
    · simp [h0]
    · have : (t.2.2 != 0) = true := by simp [h0]
      rw [this, if_neg (by simp), if_neg h0]
      have hw := wrapT (t.2.1 * -1)
      by_cases hr : t.2.1 * -1 < -2147483648 ∨ 2147483647 < t.2.1 * -1
      · rw [if_pos hr, if_neg (fun k => (hw.1 k) hr)]
      · rw [if_neg hr, if_pos (hw.2 hr)]
  · rw [if_neg hm] at h ⊢
    rw [if_neg (fun k => hm ((minus_same l a).2 k))]
    have e := rTimes_same l 5 a 0 0 (by omega) (by omega) (by omega) (by omega) h
    have hg := times_grow l 5 a 0 0 (by omega) (by omega) (by omega)
    rw [show ((0 : Nat) : Int) - 1 = -1 by rfl, show (0 != 0) = false by rfl] at e
    rw [e]
    obtain ⟨t, ht⟩ : ∃ t, times l 5 a 0 0 = t := ⟨_, rfl⟩
    rw [ht] at hg ⊢
    have ew : t.2.1 = t.2.1 * 1 := by omega
    simp only [rTime, lTime]
    by_cases h0 : t.2.2 = 0
    · simp [h0]
    · have : (t.2.2 != 0) = true := by simp [h0]
      rw [this, if_neg (by simp), if_neg h0, ← ew]
      have hw := wrapT t.2.1
      by_cases hr : t.2.1 < -2147483648 ∨ 2147483647 < t.2.1
      · rw [if_pos hr, if_neg (fun k => (hw.1 k) hr)]
      · rw [if_neg hr, if_pos (hw.2 hr)]

/-- A time that lex takes is small, whatever it is cut to. -/
theorem taken_small {l : List UInt8} {a : Nat} {t : Tok} {z : Nat} (h : lSpan2 l a = (t, z, 0)) : smallT l 5 (if (cAt l a).toNat = 45 then a + 1 else a) 0 := by
  have key : ∀ (s : Int) (q : Nat × Int × Nat), (s = 1 ∨ s = -1) → lTime s q = (t, z, 0) → q.2.1 ≤ 2147483648 := by
    intro s q hs h
    unfold lTime at h
    split at h
    · injection h with _ h; injection h with _ h; cases h
    · split at h
      · rename_i hw
        rw [wrapT] at hw
        rcases hs with rfl | rfl <;> omega
      · injection h with _ h; injection h with _ h; cases h
  unfold lSpan2 at h
  by_cases hm : (cAt l a).toNat = 45
  · rw [if_pos ((minus_same l a).1 hm)] at h
    rw [if_pos hm]
    exact times_small l 5 (a + 1) 0 0 (by omega) (by omega) (by omega) (key _ _ (.inr rfl) h)
  · rw [if_neg (fun k => hm ((minus_same l a).2 k))] at h
    rw [if_neg hm]
    exact times_small l 5 a 0 0 (by omega) (by omega) (by omega) (key _ _ (.inl rfl) h)
theorem span_take_same {l : List UInt8} {a Z : Nat} {t : Tok} {z : Nat} (h : lSpan2 l a = (t, z, 0)) : rSpan2 (l.take Z) a = lSpan2 (l.take Z) a := by
  apply span_same
  by_cases ha : a < Z
  · rw [cAt_take ha]
    exact small_take l Z _ _ _ (by omega) (taken_small h)
  · apply small_end
    rw [List.length_take]
    split <;> omega
theorem span_upto {p : UInt8 → Bool} (x : List UInt8) (m : Nat) : span p (x.take m) = min m (span p x) := by
  induction x generalizing m with
  | nil => simp [span]
  | cons c x ih =>
    cases m with
    | zero => simp [span]
    | succ m =>
      simp only [List.take_succ_cons, span]
      split
      · rw [ih]; omega
      · omega
/-- What begins with a token that lex takes begins, however it is cut, with the same token in both. -/
theorem token_same {l : List UInt8} {t : Tok} {z : Nat} (h : lToken l = (t, z, 0)) (Z : Nat) : rToken (l.take Z) = lToken (l.take Z) := by
  cases hl : l with
  | nil => simp [rToken, lToken]
  | cons c u =>
    cases Z with
    | zero => simp [rToken, lToken]
    | succ Z =>
      rw [List.take_succ_cons]
      simp only [rToken]
      by_cases hc : c.toNat ≠ 10 ∧ lett c = true
      · rw [if_pos hc]
        simp only [lToken]
        rw [if_neg hc.1, if_pos hc.2]
        rw [hl] at h
        simp only [lToken] at h
        rw [if_neg hc.1, if_pos hc.2] at h
        rw [← List.take_succ_cons]
        obtain ⟨L, hL⟩ : ∃ L, c :: u = L := ⟨_, rfl⟩
        rw [hL] at h ⊢
        obtain ⟨Y, hY⟩ : ∃ Y, Z + 1 = Y := ⟨_, rfl⟩
        rw [hY]
        simp only [rWordTok, lWordTok] at h ⊢
        have hsp := span_upto (p := wordB) L Y
        obtain ⟨s, hs⟩ : ∃ s, span wordB L = s := ⟨_, rfl⟩
        rw [hs] at h hsp
        obtain ⟨s', hs'⟩ : ∃ s, span wordB (L.take Y) = s := ⟨_, rfl⟩
        rw [hs'] at hsp ⊢
        by_cases hb : (L.take Y)[s']? = some 35 ∧ (kindOf (mkS ((L.take Y).take s')) ≠ 0 ∨ ((mkS ((L.take Y).take s')).toList == [84]) = true)
        · rw [if_pos hb, if_pos hb]
          have hlt : s' < Y := by
            have := hash_lt hb.1
            rw [List.length_take] at this
            omega
          have hss : s' = s := by omega
          rw [take_get hlt, take_take_le (by omega), hss] at hb
          rw [take_take_le (by omega), hss]
          rw [if_pos hb] at h
          by_cases hk : kindOf (mkS (L.take s)) = 11 ∨ kindOf (mkS (L.take s)) = 0
          · rw [if_pos hk] at h ⊢
            rw [if_pos hk]
            exact span_take_same h
          · rw [if_neg hk, if_neg hk]
        · rw [if_neg hb, if_neg hb]
      · rw [if_neg hc]
end Go.Proofs.YtdpkjpjkdmkkpaaGreatDoor
