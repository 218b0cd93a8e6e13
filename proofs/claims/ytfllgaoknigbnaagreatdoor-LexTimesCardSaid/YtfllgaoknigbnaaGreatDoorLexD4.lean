/- Times written out, blanks and nothing else, a name of one letter many times over, keywords: what package lex's plain words make of them. -/
import Derived.Test.YtfllgaoknigbnaaGreatDoorLexD3
namespace Go.Proofs.YtfllgaoknigbnaaGreatDoor
open Lx

/-- Are all parts left out? -/
def noneT (wh : Nat → Bool) : Bool := !(wh 0 || wh 1 || wh 2 || wh 3 || wh 4)
theorem nextT_zero (wh : Nat → Bool) : nextT wh 5 0 0 = 0 ↔ noneT wh = true := by
  simp only [nextT, noneT]
  cases wh 0 <;> cases wh 1 <;> cases wh 2 <;> cases wh 3 <;> cases wh 4 <;> simp

theorem sumT_range (vs : Nat → Nat) (wh : Nat → Bool) (hv : ∀ i, i < 5 → (vs i : Int) * unitMs i ≤ 3000000000) : 0 ≤ sumT vs wh 5 0 0 ∧ sumT vs wh 5 0 0 ≤ 15000000000 := by
  have key : ∀ (r i : Nat) (n : Int), i + r = 5 → 0 ≤ n → n ≤ i * 3000000000 → 0 ≤ sumT vs wh r i n ∧ sumT vs wh r i n ≤ 15000000000 := by
    intro r
    induction r with
    | zero => intro i n hi h0 hn; simp only [sumT]; omega
    | succ r ih =>
      intro i n hi h0 hn
      simp only [sumT]
      have hvi := hv i (by omega)
      have hp := unitMs_pos i (by omega)
      have hnn : 0 ≤ (vs i : Int) * unitMs i := Int.mul_nonneg (by omega) (by omega)
      refine ih (i + 1) _ (by omega) ?_ ?_
      · split <;> omega
      · split <;> omega
  exact key 5 0 0 rfl (by omega) (by omega)

theorem i32_iff {n : Int} : n = kWrap 11 n ↔ -2147483648 ≤ n ∧ n ≤ 2147483647 := by
  simp only [kWrap, IntKind.wrap, IntKind.bits, IntKind.signed]; constructor <;> intro h <;> (simp at *; omega)

/-- A time's sign. -/
def signT (minus : Bool) : List UInt8 := if minus = true then [45] else []
def nameT (long : Bool) : List UInt8 := if long = true then [84, 73, 77, 69] else [84]
def textT (vs : Nat → Nat) (wh : Nat → Bool) (minus long : Bool) : List UInt8 := nameT long ++ 35 :: (signT minus ++ partsT vs wh 5 0)

theorem numF_le20 (n : Nat) : (decs n).length ≤ 21 := decs_len n
theorem partsT_len (vs : Nat → Nat) (wh : Nat → Bool) (f i : Nat) : (partsT vs wh f i).length ≤ f * 23 := by
  induction f generalizing i with
  | zero => simp [partsT]
  | succ f ih =>
    simp only [partsT]
    have h1 := ih (i + 1)
    have h2 := decs_len (vs i)
    have h3 : (unitS i).length ≤ 2 := by
      unfold unitS; split <;> simp
    split
    · simp only [List.length_append]; omega
    · omega

theorem time_law (vs : Nat → Nat) (wh : Nat → Bool) (minus long : Bool) (hv : ∀ i, i < 5 → (vs i : Int) * unitMs i ≤ 3000000000) (hv2 : ∀ i, vs i < 1099511627776) {n : Int} (hn : n = if minus = true then -(sumT vs wh 5 0 0) else sumT vs wh 5 0 0) :
    lTokens (textT vs wh minus long) false = if noneT wh = true then .error (0, 120) else if n < -2147483648 ∨ 2147483647 < n then .error (0, 163) else .ok [⟨4, 11, n, [], 0⟩, ⟨0, 0, 0, [], (textT vs wh minus long).length⟩] := by
  obtain ⟨c, x, e1, e2, e3, e4, e5, e6, e7, e8⟩ : ∃ c x, nameT long = c :: x ∧ lett c = true ∧ c.toNat ≠ 10 ∧ c.toNat ≠ 40 ∧ blankB false c = false ∧ (∀ d ∈ c :: x, wordB d = true) ∧ ((kindOf (mkS (c :: x)) = 11 ∧ x.length ≤ 5) ∨ (kindOf (mkS (c :: x)) = 0 ∧ x.length ≤ 5)) ∧ (kindOf (mkS (c :: x)) ≠ 0 ∨ ((mkS (c :: x)).toList == [84]) = true) := by
    cases long
    · refine ⟨84, [], rfl, by decide, by decide, by decide, by decide, by decide, by decide, .inr ?_⟩
      have : (mkS [84]).toList = [84] := by simp [mkS, ByteArray.toList, ByteArray.toList.loop, ByteArray.size, ByteArray.get!]
      rw [this]; rfl
    · exact ⟨84, [73, 77, 69], rfl, by decide, by decide, by decide, by decide, by decide, by decide, .inl (by decide)⟩
  have hpl := partsT_len vs wh 5 0
  have hxl : x.length ≤ 5 := by rcases e7 with h | h <;> exact h.2
  have hsl : (signT minus).length ≤ 1 := by unfold signT; split <;> simp
  have hlen : (textT vs wh minus long).length ≤ 65536 := by
    unfold textT; rw [e1]; simp only [List.length_append, List.length_cons]; omega
  have hd : (textT vs wh minus long).drop ((c :: x).length + 1) = signT minus ++ partsT vs wh 5 0 := by
    unfold textT; rw [e1, ← List.drop_drop, List.drop_left]; rfl
  have ht : lToken (textT vs wh minus long) = lSpan2 (textT vs wh minus long) ((c :: x).length + 1) := by
    unfold textT
    rw [e1, lToken_hash e2 e3 e6 e8, if_pos (by rcases e7 with h | h <;> omega)]
  obtain ⟨T, hT⟩ : ∃ T, textT vs wh minus long = T := ⟨_, rfl⟩
  have hc : T = c :: (x ++ 35 :: (signT minus ++ partsT vs wh 5 0)) := by rw [← hT]; unfold textT; rw [e1]; rfl
  rw [hT] at hlen hd ht ⊢
  have hle : (c :: x).length + 1 + (signT minus).length ≤ T.length := by
    rw [hc]; simp only [List.length_append, List.length_cons]; omega
  have htimes : ∀ at_, T.drop at_ = partsT vs wh 5 0 → at_ ≤ T.length → times T 5 at_ 0 0 = (T.length, sumT vs wh 5 0 0, nextT wh 5 0 0) := fun at_ h1 h2 =>
    times_parts vs wh hv hv2 T 5 0 5 at_ 0 0 rfl (by omega) (by omega) h2 h1 (by omega) (by omega)
  have hsp : lSpan2 T ((c :: x).length + 1) = lTime (if minus = true then -1 else 1) (T.length, sumT vs wh 5 0 0, nextT wh 5 0 0) := by
    unfold lSpan2
    rw [hd]
    cases minus with
    | true =>
      rw [if_pos (by simp [signT, Lib.hasPrefix, List.isPrefixOf]), htimes]
      · rfl
      · rw [← List.drop_drop, hd]; rfl
      · simpa [signT] using hle
    | false =>
      have hnp : Lib.hasPrefix (signT false ++ partsT vs wh 5 0) [45] = false := by
        rcases partsT_head vs wh hv2 5 0 with h | ⟨c', t', h, hc'⟩
        · rw [h]; rfl
        · exact prefix_dig (c := c') (t := t') (by rw [h]; rfl) hc'
      rw [if_neg (by rw [hnp]; simp), htimes]
      · rfl
      · exact hd
      · simpa [signT] using hle
  rw [hsp] at ht
  have hmul : sumT vs wh 5 0 0 * (if minus = true then -1 else 1) = n := by
    rw [hn]; cases minus <;> simp
  unfold lTime at ht
  simp only [hmul] at ht
  by_cases h0 : noneT wh = true
  · rw [if_pos ((nextT_zero wh).2 h0)] at ht
    rw [if_pos h0]
    exact lTokens_bad hc hlen e5 e4 ht (by decide)
  · rw [if_neg (fun h => h0 ((nextT_zero wh).1 h))] at ht
    rw [if_neg h0]
    by_cases hr : -2147483648 ≤ n ∧ n ≤ 2147483647
    · rw [if_pos (i32_iff.2 hr)] at ht
      rw [if_neg (by omega)]
      exact lTokens_one hc hlen e5 e4 ht rfl
    · rw [if_neg (fun h => hr (i32_iff.1 h))] at ht
      rw [if_pos (by omega)]
      exact lTokens_bad hc hlen e5 e4 ht (by decide)

theorem blanks_all (il : Bool) (m : Nat) : ∀ (f a : Nat), a ≤ m → m - a < f → blanks il (List.replicate m 32) f a = .ok m := by
  intro f
  induction f with
  | zero => intro a _ h; omega
  | succ f ih =>
    intro a ha hf
    by_cases h : a = m
    · subst h; exact blanks_end (by simp)
    · have hd : (List.replicate m (32 : UInt8)).drop a = 32 :: List.replicate (m - a - 1) 32 := by
        rw [List.drop_replicate, show m - a = (m - a - 1) + 1 by omega, List.replicate_succ]; rfl
      rw [blanks_skip hd (by cases il <;> decide), ih (a + 1) (by omega) (by omega)]
/-- Blanks and nothing else. -/
theorem blank_law (il : Bool) (m : Nat) : lTokens (List.replicate m 32) il = if 65536 < m then .error (65536, 121) else .ok [⟨0, 0, 0, [], m⟩] := by
  rw [lTokens, List.length_replicate]
  split
  · rfl
  · rw [tokens_end (a' := m) (by rw [List.length_replicate]; exact blanks_all il m _ _ (by omega) (by omega)) (by simp)]
    rfl

def codeT (r : Except (Nat × Int) (List Tok)) : Int × Int := match r with
  | .ok _ => (0, 0)
  | .error (a, e) => (a, e)
set_option maxRecDepth 100000 in
theorem name_law : ∀ k, k < 60 → codeT (lTokens (59 :: 32 :: List.replicate (k + 1) 110) false) = if 31 < k then (2, 121) else (0, 0) := by
  decide +kernel

/-! ### Words -/
theorem wordRest_word {x : ByteArray} {z : Nat} {t : Tok} {n : Nat} {e : Int} (h : wordRest x z = (t, n, e)) : (t.tok = 1 → lWord (mkS t.text) = true) ∧ (t.tok = 2 → lWord (mkS t.text) = false) := by
  have hx : mkS x.data.toList = x := by simp [mkS]
  unfold wordRest at h
  split at h
  · injection h with h1 h2; subst h1; simp
  · split at h
    · injection h with h1 h2; subst h1; simp
    · split at h
      · rename_i hw; injection h with h1 h2; subst h1; simp [hx, hw]
      · rename_i hw
        split at h
        · injection h with h1 h2; subst h1; simp [tok0]
        · injection h with h1 h2; subst h1; simp [hx]; simpa using hw
theorem lTyped_word {l : List UInt8} {a k : Nat} {t : Tok} {n : Nat} {e : Int} (h : lTyped l a k = (t, n, e)) : t.tok ≠ 1 ∧ t.tok ≠ 2 := by
  unfold lTyped at h
  simp only at h
  repeat' split at h
  all_goals (injection h with h1 h2; subst h1; simp [tok0])
theorem lSpan2_word {l : List UInt8} {a : Nat} {t : Tok} {n : Nat} {e : Int} (h : lSpan2 l a = (t, n, e)) : t.tok ≠ 1 ∧ t.tok ≠ 2 := by
  unfold lSpan2 lTime at h
  repeat' split at h
  all_goals (injection h with h1 h2; subst h1; simp [tok0])
theorem lWordTok_word {l : List UInt8} {t : Tok} {n : Nat} {e : Int} (h : lWordTok l = (t, n, e)) : (t.tok = 1 → lWord (mkS t.text) = true) ∧ (t.tok = 2 → lWord (mkS t.text) = false) := by
  unfold lWordTok at h
  simp only at h
  split at h
  · split at h
    · have := lSpan2_word h; exact ⟨fun k => absurd k this.1, fun k => absurd k this.2⟩
    · have := lTyped_word h; exact ⟨fun k => absurd k this.1, fun k => absurd k this.2⟩
  · exact wordRest_word h
theorem signF_word {l : List UInt8} (gs : List (List UInt8)) {t : Tok} {n : Nat} {e : Int} (h : signF l gs = (t, n, e)) : t.tok ≠ 1 ∧ t.tok ≠ 2 := by
  induction gs with
  | nil => simp only [signF] at h; injection h with h1 h2; subst h1; simp [tok0]
  | cons g gs ih =>
    simp only [signF] at h
    split at h
    · injection h with h1 h2; subst h1; simp
    · exact ih h
theorem lToken_word {l : List UInt8} {t : Tok} {n : Nat} {e : Int} (h : lToken l = (t, n, e)) : (t.tok = 1 → lWord (mkS t.text) = true) ∧ (t.tok = 2 → lWord (mkS t.text) = false) := by
  have far : t.tok ≠ 1 ∧ t.tok ≠ 2 → (t.tok = 1 → lWord (mkS t.text) = true) ∧ (t.tok = 2 → lWord (mkS t.text) = false) := fun k => ⟨fun h => absurd h k.1, fun h => absurd h k.2⟩
  cases l with
  | nil => simp only [lToken] at h; injection h with h1 h2; subst h1; simp [tok0]
  | cons c l =>
    simp only [lToken] at h
    split at h
    · injection h with h1 h2; subst h1; simp
    · split at h
      · exact lWordTok_word h
      · split at h
        · refine far ?_
          unfold lNumTok at h; injection h with h1 h2; subst h1; simp
        · split at h
          · refine far ?_
            unfold lAddrTok at h
            split at h
            · injection h with h1 h2; subst h1; simp [tok0]
            · injection h with h1 h2; subst h1; simp
          · exact far (signF_word _ h)
/-- A token of a text is called a keyword just where its text is one. -/
theorem tokens_word (il : Bool) (l : List UInt8) : ∀ (f a : Nat) (out ts : List Tok), (∀ t ∈ out, (t.tok = 1 → lWord (mkS t.text) = true) ∧ (t.tok = 2 → lWord (mkS t.text) = false)) → tokens il l f a out = .ok ts →
    ∀ t ∈ ts, (t.tok = 1 → lWord (mkS t.text) = true) ∧ (t.tok = 2 → lWord (mkS t.text) = false) := by
  intro f
  induction f with
  | zero => intro a out ts _ h; cases h
  | succ f ih =>
    intro a out ts ho h
    rw [tokens] at h
    split at h
    · cases h
    · rename_i a' hb
      split at h
      · injection h with h; subst h
        intro t ht
        rcases List.mem_append.1 ht with h1 | h1
        · exact ho t h1
        · simp only [List.mem_singleton] at h1; subst h1; simp
      · simp only at h
        split at h
        · cases h
        · refine ih _ _ _ ?_ h
          intro t ht
          rcases List.mem_append.1 ht with h1 | h1
          · exact ho t h1
          · simp only [List.mem_singleton] at h1; subst h1
            exact lToken_word (t := (lToken (l.drop a')).1) (n := (lToken (l.drop a')).2.1) (e := (lToken (l.drop a')).2.2) rfl
theorem lTokens_word {il : Bool} {l : List UInt8} {ts : List Tok} (h : lTokens l il = .ok ts) : ∀ t ∈ ts, (t.tok = 1 → lWord (mkS t.text) = true) ∧ (t.tok = 2 → lWord (mkS t.text) = false) := by
  unfold lTokens at h
  split at h
  · cases h
  · exact tokens_word il l _ _ _ _ (fun t ht => by cases ht) h
end Go.Proofs.YtfllgaoknigbnaaGreatDoor
