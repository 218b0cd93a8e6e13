/- The reference's tokens in plain words: how long they are; what a step of the whole does. -/
import Derived.Test.YtdpkjpjkdmkkpaaGreatDoorMD
import Derived.Test.YtdpkjpjkdmkkpaaGreatDoorMJ
import Derived.Test.YtdpkjpjkdmkkpaaGreatDoorMC
namespace Go.Proofs.YtdpkjpjkdmkkpaaGreatDoor
open Lx Ad

theorem cAt_ne {l : List UInt8} {p : Nat} (h : (cAt l p).toNat ≠ 0) : p < l.length := by
  rcases Nat.lt_or_ge p l.length with h1 | h1
  · exact h1
  · exfalso
    unfold cAt at h
    rw [List.getD_eq_getElem?_getD, List.getElem?_eq_none h1] at h
    exact h rfl
theorem rTimes_ends (l : List UInt8) : ∀ (f a : Nat) (n last : Int) (b : Bool), -1 ≤ last → a ≤ l.length → a ≤ (rTimes l f a n last b).1 ∧ (rTimes l f a n last b).1 ≤ l.length := by
  intro f
  induction f with
  | zero => intro a n last b _ h; exact ⟨Nat.le_refl _, h⟩
  | succ f ih =>
    intro a n last b hl h
    simp only [rTimes]
    by_cases hd : dig (cAt l a) = true
    · rw [if_pos hd]
      have hs := digits_size (l.drop a) 10
      rw [List.length_drop] at hs
      obtain ⟨d, hdd⟩ : ∃ d, digits (l.drop a) 10 = d := ⟨_, rfl⟩
      rw [hdd] at hs ⊢
      obtain ⟨u, hu⟩ : ∃ u, rUnit l (a + d.2) = u := ⟨_, rfl⟩
      rw [hu]
      by_cases hle : u ≤ last
      · rw [if_pos hle]; exact ⟨Nat.le_refl _, h⟩
      · rw [if_neg hle]
        have h1 : a + d.2 + 1 ≤ l.length := by
          have := cAt_ne (l := l) (p := a + d.2) (by
            intro h0
            unfold rUnit at hu
            rw [h0] at hu
            simp at hu
            omega)
          omega
        have h2 : u = 4 → a + d.2 + 2 ≤ l.length := by
          intro h4
          have := cAt_ne (l := l) (p := a + d.2 + 1) (by
            intro h0
            unfold rUnit at hu
            rw [h0] at hu
            simp at hu
            repeat' split at hu <;> try omega)
          omega
        have := ih (a + d.2 + (if u = 4 then 2 else 1)) (rStep n d.1 u) u true (by omega) (by split <;> omega)
        split at this <;> constructor <;> first | omega | (rename_i h4; simp only [h4, if_true] at *; omega) | skip
        all_goals split <;> omega
    · rw [if_neg hd]; exact ⟨Nat.le_refl _, h⟩
theorem rTime_size {q : Nat × Int × Bool} {n : Int} {t : Tok} {z : Nat} (h : rTime q n = (t, z, 0)) : z = q.1 := by
  unfold rTime at h
  split at h
  · injection h with _ h; injection h with _ h; cases h
  · split at h
    · injection h with _ h; injection h with _ h; cases h
    · injection h with _ h; injection h with h _; exact h.symm
theorem rSpan2_size {l : List UInt8} {a z : Nat} {t : Tok} (h : rSpan2 l a = (t, z, 0)) (ha : a ≤ l.length) (ha1 : 1 ≤ a) : 1 ≤ z ∧ z ≤ l.length := by
  unfold rSpan2 at h
  split at h
  · rename_i hm
    have h1 := cAt_ne (l := l) (p := a) (by rw [hm]; decide)
    have h2 := rTimes_ends l 6 (a + 1) 0 (-1) false (by decide) (by omega)
    have h3 := rTime_size h
    omega
  · have h2 := rTimes_ends l 6 a 0 (-1) false (by decide) ha
    have h3 := rTime_size h
    omega
theorem rToken_size {l : List UInt8} {t : Tok} {z : Nat} (hl : l ≠ []) (h : rToken l = (t, z, 0)) : 1 ≤ z ∧ z ≤ l.length := by
  cases l with
  | nil => exact absurd rfl hl
  | cons c u =>
    simp only [rToken] at h
    by_cases hc : c.toNat ≠ 10 ∧ lett c = true
    · rw [if_pos hc] at h
      have hw : wordB c = true := by simp [wordB, hc.2]
      simp only [rWordTok] at h
      obtain ⟨s, hs⟩ : ∃ s, span wordB (c :: u) = s := ⟨_, rfl⟩
      rw [hs] at h
      have hle := span_le wordB (c :: u)
      rw [hs] at hle
      by_cases hb : (c :: u)[s]? = some 35 ∧ (kindOf (mkS ((c :: u).take s)) ≠ 0 ∨ ((mkS ((c :: u).take s)).toList == [84]) = true)
      · rw [if_pos hb] at h
        have hlt := hash_lt hb.1
        by_cases hk : kindOf (mkS ((c :: u).take s)) = 11 ∨ kindOf (mkS ((c :: u).take s)) = 0
        · rw [if_pos hk] at h
          exact rSpan2_size h (by omega) (by omega)
        · rw [if_neg hk] at h
          exact lTyped_size h rfl (by omega) (by omega)
      · rw [if_neg hb] at h
        have h2 : lWordTok (c :: u) = (t, z, 0) := by
          simp only [lWordTok]
          rw [hs, if_neg hb]
          exact h
        exact lWordTok_size hw h2 rfl
    · rw [if_neg hc] at h
      exact lToken_size (by simp) h rfl

theorem rT_cases {il : Bool} {l : List UInt8} {f a : Nat} {out : List Tok} {r : Except (Nat × Int) (List Tok)} (h : rT il l (f + 1) a out = r) :
    (l.length ≤ a ∧ r = .ok (out ++ [⟨0, 0, 0, [], l.length⟩])) ∨
    (a < l.length ∧ blankB il (cAt l a) = true ∧ rT il l f (a + 1) out = r) ∨
    (a < l.length ∧ blankB il (cAt l a) = false ∧ (cAt l a).toNat = 10 ∧ rT il l f (a + 1) (out ++ [⟨7, 0, 0, [10], a⟩]) = r) ∨
    (a < l.length ∧ blankB il (cAt l a) = false ∧ (cAt l a).toNat ≠ 10 ∧ ((cAt l a).toNat = 40 ∧ (cAt l (a + 1)).toNat = 42) ∧ Lib.index (l.drop (a + 2)) [42, 41] = -1 ∧ r = .error (a, 120)) ∨
    (∃ i : Nat, a < l.length ∧ blankB il (cAt l a) = false ∧ (cAt l a).toNat ≠ 10 ∧ ((cAt l a).toNat = 40 ∧ (cAt l (a + 1)).toNat = 42) ∧ Lib.index (l.drop (a + 2)) [42, 41] = i ∧ rT il l f (a + i + 4) out = r) ∨
    (∃ t n e, a < l.length ∧ blankB il (cAt l a) = false ∧ (cAt l a).toNat ≠ 10 ∧ ¬ ((cAt l a).toNat = 40 ∧ (cAt l (a + 1)).toNat = 42) ∧ rToken (l.drop a) = (t, n, e) ∧ e ≠ 0 ∧ r = .error (a, e)) ∨
    (∃ t n, a < l.length ∧ blankB il (cAt l a) = false ∧ (cAt l a).toNat ≠ 10 ∧ ¬ ((cAt l a).toNat = 40 ∧ (cAt l (a + 1)).toNat = 42) ∧ rToken (l.drop a) = (t, n, 0) ∧ rT il l f (a + n) (out ++ [{ t with at_ := a }]) = r) := by
  rw [rT] at h
  rcases Nat.lt_or_ge a l.length with ha | ha
  · right
    have hc : l.drop a = cAt l a :: l.drop (a + 1) := by
      unfold cAt
      rw [List.getD_eq_getElem?_getD, List.getElem?_eq_getElem ha]
      exact List.drop_eq_getElem_cons ha
    have hp := pre2 l a 40 42 (by decide) (by decide)
    have n1 := u8n (cAt l a) 40
    have n2 := u8n (cAt l (a + 1)) 42
    rw [← n1, ← n2] at hp
    simp only [show (40 : UInt8).toNat = 40 from rfl, show (42 : UInt8).toNat = 42 from rfl] at hp
    have h2 : (cAt l a :: l.drop (a + 1)).drop 2 = l.drop (a + 2) := by rw [← hc, List.drop_drop]
    rw [hc] at hp ⊢
    rw [hc] at h
    simp only at h
    by_cases hb : blankB il (cAt l a) = true
    · rw [if_pos hb] at h
      exact .inl ⟨ha, hb, h⟩
    · right
      have hb' : blankB il (cAt l a) = false := by simpa using hb
      rw [if_neg hb] at h
      by_cases h10 : (cAt l a).toNat = 10
      · rw [if_pos h10] at h
        exact .inl ⟨ha, hb', h10, h⟩
      · right
        rw [if_neg h10] at h
        by_cases hcm : (cAt l a).toNat = 40 ∧ (cAt l (a + 1)).toNat = 42
        · rw [if_pos (hp.2 hcm), h2] at h
          have hge := Lib.index_ge (l.drop (a + 2)) [42, 41]
          by_cases hi : Lib.index (l.drop (a + 2)) [42, 41] < 0
          · rw [if_pos hi] at h
            exact .inl ⟨ha, hb', h10, hcm, by omega, h.symm⟩
          · rw [if_neg hi] at h
            exact .inr (.inl ⟨(Lib.index (l.drop (a + 2)) [42, 41]).toNat, ha, hb', h10, hcm, by omega, by rw [Nat.add_assoc]; exact h⟩)
        · right; right
          rw [if_neg (fun k => hcm (hp.1 k))] at h
          by_cases he : (rToken (cAt l a :: l.drop (a + 1))).2.2 = 0
          · right
            rw [if_neg (by simpa using he)] at h
            exact ⟨_, _, ha, hb', h10, hcm, by rw [← he], h⟩
          · left
            rw [if_pos he] at h
            exact ⟨_, _, _, ha, hb', h10, hcm, rfl, he, h.symm⟩
  · left
    rw [List.drop_of_length_le ha] at h
    exact ⟨ha, h.symm⟩

theorem occ_at {l : List UInt8} {a i : Nat} : Lib.occAt (l.drop a) [42, 41] i = true ↔ (cAt l (a + i)).toNat = 42 ∧ (cAt l (a + i + 1)).toNat = 41 := by
  unfold Lib.occAt
  rw [List.drop_drop]
  have hp := pre2 l (a + i) 42 41 (by decide) (by decide)
  have n1 := u8n (cAt l (a + i)) 42
  have n2 := u8n (cAt l (a + i + 1)) 41
  rw [← n1, ← n2] at hp
  exact hp
end Go.Proofs.YtdpkjpjkdmkkpaaGreatDoor

/- Where a token's text ends: the statement's own search by the reference is the search by lex's plain words. -/
namespace Go.Proofs.YtdpkjpjkdmkkpaaGreatDoor
open Lx Ad

/-- Is this text, to the reference, just the token x, but for its place? -/
def rjust (p : List UInt8) (x : Tok) : Bool := match rTokens p false with
  | .ok [y, _] => decide (at0 y = at0 x)
  | _ => false
def rendF (l : List UInt8) (x : Tok) (a lim : Nat) : Nat → Nat → Nat
  | 0, _ => lim
  | f + 1, n => if rjust ((l.drop a).take (n - a)) x = true then n else rendF l x a lim f (n + 1)

theorem rT_err {il : Bool} {l : List UInt8} : ∀ (f a : Nat) (out : List Tok) (p : Nat) (e : Int), l.length - a < f → rT il l f a out = .error (p, e) → e ≠ 0 := by
  intro f
  induction f with
  | zero => intro a out p e h; omega
  | succ f ih =>
    intro a out p e hf h
    rcases rT_cases h with ⟨_, h2⟩ | ⟨_, _, h3⟩ | ⟨_, _, _, h4⟩ | ⟨_, _, _, _, _, h6⟩ | ⟨i, h1, _, _, _, _, h6⟩ | ⟨t, n, e', _, _, _, _, _, h6, h7⟩ | ⟨t, n, h1, _, _, _, h5, h6⟩
    · cases h2
    · exact ih _ _ _ _ (by omega) h3
    · exact ih _ _ _ _ (by omega) h4
    · injection h6 with h6; injection h6 with _ h6; rw [h6]; decide
    · exact ih _ _ _ _ (by omega) h6
    · injection h7 with h7; injection h7 with _ h7; rw [h7]; exact h6
    · have hs := rToken_size (by intro h0; have := congrArg List.length h0; rw [List.length_drop, List.length_nil] at this; omega) h5
      exact ih _ _ _ _ (by omega) h6
theorem rTokens_err {il : Bool} {l : List UInt8} {p : Nat} {e : Int} (h : rTokens l il = .error (p, e)) : e ≠ 0 := by
  unfold rTokens at h
  split at h
  · injection h with h; injection h with _ h; rw [← h]; decide
  · exact rT_err _ _ _ _ _ (by omega) h
theorem rT_ok {il : Bool} {l : List UInt8} : ∀ (f a : Nat) (out ts : List Tok), rT il l f a out = .ok ts → ∃ r, ts = out ++ r ∧ r ≠ [] := by
  intro f
  induction f with
  | zero => intro a out ts h; cases h
  | succ f ih =>
    intro a out ts h
    rcases rT_cases h with ⟨_, h2⟩ | ⟨_, _, h3⟩ | ⟨_, _, _, h4⟩ | ⟨_, _, _, _, _, h6⟩ | ⟨i, h1, _, _, _, _, h6⟩ | ⟨t, n, e', _, _, _, _, _, h6, h7⟩ | ⟨t, n, h1, _, _, _, h5, h6⟩
    · injection h2 with h2; exact ⟨_, h2, by simp⟩
    · exact ih _ _ _ h3
    · obtain ⟨r, h1, _⟩ := ih _ _ _ h4
      exact ⟨[⟨7, 0, 0, [10], a⟩] ++ r, by rw [h1, List.append_assoc], by simp⟩
    · cases h6
    · exact ih _ _ _ h6
    · cases h7
    · obtain ⟨r, h1, _⟩ := ih _ _ _ h6
      exact ⟨[{ t with at_ := a }] ++ r, by rw [h1, List.append_assoc], by simp⟩
theorem tokens_ok2 {il : Bool} {l : List UInt8} : ∀ (f a : Nat) (out ts : List Tok), tokens il l f a out = .ok ts → ∃ r, ts = out ++ r ∧ r ≠ [] := by
  intro f
  induction f with
  | zero => intro a out ts h; cases h
  | succ f ih =>
    intro a out ts h
    rw [tokens] at h
    split at h
    · cases h
    · split at h
      · injection h with h; exact ⟨_, h.symm, by simp⟩
      · simp only at h
        split at h
        · cases h
        · obtain ⟨r, h1, _⟩ := ih _ _ _ h
          rw [List.append_assoc] at h1
          exact ⟨_, h1, by simp⟩
theorem rT_blanks {l : List UInt8} : ∀ (F f a : Nat) (out : List Tok), l.length - a < f → l.length - a < F → a ≤ l.length →
    match blanks false l F a with
    | .error a' => rT false l f a out = .error (a', 120)
    | .ok a' => a' ≤ l.length ∧ ∃ f', l.length - a' < f' ∧ rT false l f a out = rT false l f' a' out := by
  intro F
  induction F with
  | zero => intro f a out _ h; omega
  | succ F ih =>
    intro f a out hf hF ha
    obtain ⟨f, rfl⟩ : ∃ g, f = g + 1 := ⟨f - 1, by omega⟩
    rw [blanks]
    cases hd : l.drop a with
    | nil =>
      simp only
      exact ⟨ha, f + 1, hf, rfl⟩
    | cons c t =>
      have hlt : a < l.length := by
        rcases Nat.lt_or_ge a l.length with h1 | h1
        · exact h1
        · rw [List.drop_of_length_le h1] at hd; cases hd
      have hlen : (c :: t).length = l.length - a := by rw [← hd, List.length_drop]
      simp only [List.length_cons] at hlen
      simp only
      by_cases hb : blankB false c = true
      · rw [if_pos hb]
        have := ih f (a + 1) out (by omega) (by omega) (by omega)
        rw [rT, hd]
        simp only
        rw [if_pos hb]
        exact this
      · rw [if_neg hb]
        by_cases hp : Lib.hasPrefix (c :: t) [40, 42] = true
        · rw [if_pos hp]
          have h10 : c.toNat ≠ 10 := by
            intro h; apply hb; simp [blankB, h]
          by_cases hi : Lib.index ((c :: t).drop 2) [42, 41] < 0
          · rw [if_pos hi]
            simp only
            rw [rT, hd]
            simp only
            rw [if_neg hb, if_neg h10, if_pos hp, if_pos hi]
          · rw [if_neg hi]
            have hr := Lib.index_room (List.drop 2 (c :: t)) [42, 41] (by omega)
            have hp2 := prefix_len hp
            rw [List.length_drop] at hr
            simp only [List.length_cons, List.length_nil] at hr hp2
            have := ih f (a + ((Lib.index ((c :: t).drop 2) [42, 41]).toNat + 4)) out (by omega) (by omega) (by omega)
            rw [rT, hd]
            simp only
            rw [if_neg hb, if_neg h10, if_pos hp, if_neg hi]
            exact this
        · rw [if_neg hp]
          simp only
          exact ⟨ha, f + 1, hf, rfl⟩

def just1 (x : Tok) (r : Except (Nat × Int) (List Tok)) : Bool := match r with
  | .ok [y, _] => decide (at0 y = at0 x)
  | _ => false
theorem just1_long {x t t2 : Tok} {r : Except (Nat × Int) (List Tok)} (h : ∀ ts, r = .ok ts → ∃ q, ts = [t, t2] ++ q ∧ q ≠ []) : just1 x r = false := by
  unfold just1
  cases r with
  | error e => rfl
  | ok ts =>
    obtain ⟨q, h1, h2⟩ := h ts rfl
    cases q with
    | nil => exact absurd rfl h2
    | cons a q => rw [h1]; rfl
/-- Behind a first token: either nothing but blanks, or it is not that token alone, in both. -/
theorem just_behind {p : List UInt8} {x t : Tok} {f1 f2 z : Nat} (hz : z ≤ p.length) (h1 : p.length - z < f1) (h2 : p.length - z < f2) : just1 x (rT false p f1 z [t]) = just1 x (tokens false p f2 z [t]) := by
  obtain ⟨f2, rfl⟩ : ∃ g, f2 = g + 1 := ⟨f2 - 1, by omega⟩
  have hb := rT_blanks (l := p) (p.length + 1) f1 z [t] h1 (by omega) hz
  have ht : tokens false p (f2 + 1) z [t] = (match blanks false p (p.length + 1) z with
    | .error a' => .error (a', 120)
    | .ok a' => if a' = p.length then .ok ([t] ++ [⟨0, 0, 0, [], a'⟩]) else
        if (lToken (p.drop a')).2.2 ≠ 0 then .error (a', (lToken (p.drop a')).2.2) else tokens false p f2 (a' + (lToken (p.drop a')).2.1) ([t] ++ [{ (lToken (p.drop a')).1 with at_ := a' }])) := by
    rw [tokens]
    cases blanks false p (p.length + 1) z <;> rfl
  rw [ht]
  cases hbl : blanks false p (p.length + 1) z with
  | error a' =>
    rw [hbl] at hb
    simp only at hb ⊢
    rw [hb]
  | ok a' =>
    rw [hbl] at hb
    simp only at hb ⊢
    obtain ⟨ha', f', hf', hb⟩ := hb
    rw [hb]
    obtain ⟨f', rfl⟩ : ∃ g, f' = g + 1 := ⟨f' - 1, by omega⟩
    by_cases he : a' = p.length
    · rw [if_pos he]
      subst he
      rw [rT, List.drop_of_length_le (Nat.le_refl _)]
    · rw [if_neg he]
      obtain ⟨hz1, hbs⟩ := blanks_at hbl (by omega)
      rcases hbs with hnil | ⟨⟨c, u, hc, hnb⟩, hnp⟩
      · exfalso
        have := congrArg List.length hnil
        rw [List.length_drop, List.length_nil] at this
        omega
      · have e1 : just1 x (rT false p (f' + 1) a' [t]) = false := by
          obtain ⟨R, hR⟩ : ∃ R, rT false p (f' + 1) a' [t] = R := ⟨_, rfl⟩
          rw [hR]
          rcases rT_cases hR with ⟨g1, _⟩ | ⟨_, g2, _⟩ | ⟨_, _, g3, _⟩ | ⟨_, _, _, _, _, g6⟩ | ⟨i, _, _, _, g4, _, _⟩ | ⟨t2, n, e', _, _, _, _, _, _, g7⟩ | ⟨t2, n, _, _, _, _, _, g6⟩
          · omega
          · exfalso
            unfold cAt at g2
            rw [List.getD_eq_getElem?_getD, ← List.head?_drop, hc] at g2
            simp only [List.head?_cons, Option.getD_some] at g2
            rw [g2] at hnb; cases hnb
          · exfalso
            unfold cAt at g3
            rw [List.getD_eq_getElem?_getD, ← List.head?_drop, hc] at g3
            simp only [List.head?_cons, Option.getD_some] at g3
            simp [blankB, g3] at hnb
          · rw [g6]; rfl
          · exfalso
            have hp := (pre2 p a' 40 42 (by decide) (by decide)).2 ⟨(u8n _ 40).1 g4.1, (u8n _ 42).1 g4.2⟩
            rw [hnp] at hp; cases hp
          · rw [g7]; rfl
          · refine just1_long (t := t) (t2 := { t2 with at_ := a' }) fun ts hts => ?_
            rw [hts] at g6
            exact rT_ok _ _ _ _ g6
        rw [e1]
        by_cases hne : (lToken (p.drop a')).2.2 ≠ 0
        · rw [if_pos hne]; rfl
        · rw [if_neg hne]
          exact (just1_long (t := t) (t2 := { (lToken (p.drop a')).1 with at_ := a' }) fun ts hts => tokens_ok2 _ _ _ _ hts).symm

theorem rjust_eq {p : List UInt8} {x : Tok} {c : UInt8} {t : List UInt8} (hp : p = c :: t) (hc : blankB false c = false) (hpre : Lib.hasPrefix p [40, 42] = false) (he : rToken p = lToken p) : rjust p x = justTok p x := by
  have e1 : rjust p x = just1 x (rTokens p false) := rfl
  have e2 : justTok p x = just1 x (lTokens p false) := rfl
  rw [e1, e2]
  unfold rTokens lTokens
  by_cases hbig : 65536 < p.length
  · rw [if_pos hbig, if_pos hbig]
  · rw [if_neg hbig, if_neg hbig]
    have h10 : c.toNat ≠ 10 := by
      intro h; simp [blankB, h] at hc
    have hbl : blanks false p (p.length + 1) 0 = .ok 0 := by
      rw [blanks, List.drop_zero, hp]
      simp only
      rw [if_neg (by rw [hc]; simp), if_neg (by rw [← hp, hpre]; simp)]
    have hl : p.length ≠ 0 := by rw [hp]; simp
    have e3 : rT false p (p.length + 1) 0 [] = if (rToken p).2.2 ≠ 0 then .error (0, (rToken p).2.2) else rT false p p.length (0 + (rToken p).2.1) ([] ++ [{ (rToken p).1 with at_ := ((0 : Nat) : Int) }]) := by
      rw [rT, List.drop_zero, hp]
      simp only
      rw [if_neg (by rw [hc]; simp), if_neg h10, if_neg (by rw [← hp, hpre]; simp)]
    have e4 : tokens false p (p.length + 1) 0 [] = if (lToken p).2.2 ≠ 0 then .error (0, (lToken p).2.2) else tokens false p p.length (0 + (lToken p).2.1) ([] ++ [{ (lToken p).1 with at_ := ((0 : Nat) : Int) }]) := by
      rw [tokens, hbl]
      simp only
      rw [if_neg (fun h => hl h.symm), List.drop_zero]
    rw [e3, e4, he]
    by_cases hne : (lToken p).2.2 ≠ 0
    · rw [if_pos hne, if_pos hne]
    · rw [if_neg hne, if_neg hne]
      have h0 : (lToken p).2.2 = 0 := by simpa using hne
      have hs := lToken_size (l := p) (t := (lToken p).1) (z := (lToken p).2.1) (e := 0) (by rw [hp]; simp) (by rw [← h0]) rfl
      exact just_behind (by omega) (by omega) (by omega)

theorem rend_eq {l : List UInt8} {x y : Tok} {a z lim : Nat} {c : UInt8} {u : List UInt8} (hd : l.drop a = c :: u) (hc : blankB false c = false) (hpre : Lib.hasPrefix (l.drop a) [40, 42] = false) (ht : lToken (l.drop a) = (y, z, 0)) : ∀ (f n : Nat), a < n → rendF l x a lim f n = endF l x a lim f n := by
  intro f
  induction f with
  | zero => intro n _; rfl
  | succ f ih =>
    intro n hn
    simp only [rendF, endF]
    have hj : rjust ((l.drop a).take (n - a)) x = justTok ((l.drop a).take (n - a)) x := by
      obtain ⟨m, hm⟩ : ∃ m, n - a = m + 1 := ⟨n - a - 1, by omega⟩
      refine rjust_eq (c := c) (t := u.take m) (by rw [hm, hd]; rfl) hc ?_ (token_same ht _)
      cases hq : Lib.hasPrefix ((l.drop a).take (n - a)) [40, 42] with
      | false => rfl
      | true => rw [prefix_mono hq] at hpre; cases hpre
    rw [hj, ih (n + 1) (by omega)]

/-- The statement's text, by the reference's search. -/
def routL (l : List UInt8) (bl : Nat → Nat) : Nat → List Tok → List UInt8
  | i, t :: t' :: r => BL (bl i) ++ ((l.drop t.at_.toNat).take (rendF l t t.at_.toNat t'.at_.toNat (t'.at_.toNat - t.at_.toNat) (t.at_.toNat + 1) - t.at_.toNat) ++ routL l bl (i + 1) (t' :: r))
  | _, _ => []
theorem rout_eq {l : List UInt8} {bl : Nat → Nat} : ∀ (ts : List Tok) (a i : Nat), Chain l a ts → routL l bl i ts = outL l bl i ts := by
  intro ts
  induction ts with
  | nil => intro a i h; rfl
  | cons t ts ih =>
    intro a i h
    cases ts with
    | nil => rfl
    | cons t' r =>
      obtain ⟨a', z, x, h1, h2, h3, h4, ⟨c, u, h5, h6⟩, h7, h8, h9⟩ := h
      have hat : t.at_.toNat = a' := by rw [h3]; simp
      simp only [routL, outL]
      rw [ih _ _ h9, hat, rend_eq h5 h6 h7 h4 _ _ (by omega)]
theorem rend_le {l : List UInt8} {x : Tok} {a lim : Nat} : ∀ (f n : Nat), a ≤ n → n + f ≤ lim + 1 → a ≤ lim → a ≤ rendF l x a lim f n ∧ rendF l x a lim f n ≤ lim := by
  intro f
  induction f with
  | zero => intro n h1 h2 h3; exact ⟨h3, Nat.le_refl _⟩
  | succ f ih =>
    intro n h1 h2 h3
    simp only [rendF]
    split
    · omega
    · exact ih (n + 1) (by omega) (by omega) h3

/-- A text's tokens: their places, in order, within the text. -/
theorem chain_places {l : List UInt8} : ∀ (ts : List Tok) (a : Nat), Chain l a ts → ∀ i t, ts[i]? = some t → ∃ n : Nat, t.at_ = (n : Int) ∧ a ≤ n ∧ n ≤ l.length ∧ ∀ t', ts[i + 1]? = some t' → ∃ n' : Nat, t'.at_ = (n' : Int) ∧ n ≤ n' ∧ n' ≤ l.length := by
  intro ts
  induction ts with
  | nil => intro a h; exact absurd h id
  | cons t0 ts ih =>
    intro a h i t hi
    cases ts with
    | nil =>
      cases i with
      | zero =>
        simp at hi
        subst hi
        exact ⟨l.length, by rw [h.1], h.2, Nat.le_refl _, fun t' h' => by simp at h'⟩
      | succ i => simp at hi
    | cons t1 r =>
      obtain ⟨a', z, x, h1, h2, h3, h4, h5, h7, h8, h9⟩ := h
      cases i with
      | zero =>
        simp at hi
        subst hi
        obtain ⟨n', e1, e2, e3⟩ := h9.next
        refine ⟨a', by rw [h3], h1, by omega, fun t' h' => ?_⟩
        simp at h'
        subst h'
        exact ⟨n', e1, by omega, e3⟩
      | succ i =>
        obtain ⟨n, e1, e2, e3, e4⟩ := ih (a' + z) h9 i t (by simpa using hi)
        exact ⟨n, e1, by omega, e3, fun t' h' => e4 t' (by simpa using h')⟩
theorem lTokens_chain {l : List UInt8} {ts : List Tok} (h : lTokens l false = .ok ts) : Chain l 0 ts := by
  unfold lTokens at h
  split at h
  · cases h
  · obtain ⟨r, h1, h2⟩ := tokens_chain _ _ _ _ (Nat.zero_le _) h
    rw [List.nil_append] at h1
    rw [h1]
    exact h2
theorem chain_count {l : List UInt8} : ∀ (ts : List Tok) (a : Nat), Chain l a ts → ts.length ≤ l.length - a + 1 := by
  intro ts
  induction ts with
  | nil => intro a h; exact absurd h id
  | cons t ts ih =>
    intro a h
    cases ts with
    | nil => simp
    | cons t' r =>
      obtain ⟨a', z, x, h1, h2, h3, h4, ⟨c, u, h5, h6⟩, h7, h8, h9⟩ := h
      have := ih (a' + z) h9
      have hsz := lToken_size (by rw [h5]; simp) h4 rfl
      simp only [List.length_cons] at this ⊢
      omega
/-- THE LAW, by the reference's search. -/
theorem blanks_rlaw {l : List UInt8} {ts : List Tok} {bl : Nat → Nat} (hbl : ∀ i, bl i < 6) (h : lTokens l false = .ok ts) (hl : l.length ≤ 1500) :
    ∃ ms, lTokens (routL l bl 0 ts ++ [32]) false = .ok ms ∧ ms.map at0 = ts.map at0 ∧ (routL l bl 0 ts).length ≤ 17000 := by
  have hch := lTokens_chain h
  rw [rout_eq ts 0 0 hch]
  obtain ⟨ms, h1, h2⟩ := blanks_law hbl h hl
  obtain ⟨items, _, _, _, h4, _⟩ := chain_glue (by omega) hbl ts 0 0 hch
  have hc := chain_count ts 0 hch
  exact ⟨ms, h1, h2, by omega⟩
end Go.Proofs.YtdpkjpjkdmkkpaaGreatDoor

/- The walk through the reference lexer's Tokens. -/
namespace Go.Proofs.YtdpkjpjkdmkkpaaGreatDoor
open Go.RowKit Lx Ad

/-- What the reference's Tokens answers. -/
def RTokensPost (w : World) (r : Except (Nat × Int) (List Tok)) (e : Ending) (w' : World) : Prop := match r with
  | .ok ts => ∃ v, e = .returned (.tuple #[v, .int .i64 0, .int .i64 0]) ∧ w'.ownsRow w.heap.size 107 5 v ts.length (toksC ts) ∧ Below w.heap.size w w'
  | .error q => e = .returned (.tuple #[.slice none 0 0, .int .i64 q.1, .int .i64 q.2]) ∧ Below w.heap.size w w'

theorem blank_ways {il : Bool} {c : UInt8} (h : blankB il c = true) : (c.toNat = 32) ∨ (c.toNat ≠ 32 ∧ c.toNat = 9) ∨ (c.toNat ≠ 32 ∧ c.toNat ≠ 9 ∧ c.toNat = 13) ∨ (c.toNat ≠ 32 ∧ c.toNat ≠ 9 ∧ c.toNat ≠ 13 ∧ c.toNat = 10 ∧ il = false) := by
  cases il
  · simp [blankB] at h ⊢; omega
  · simp [blankB] at h ⊢; omega
theorem blank_not {il : Bool} {c : UInt8} (h : blankB il c = false) : c.toNat ≠ 32 ∧ c.toNat ≠ 9 ∧ c.toNat ≠ 13 ∧ (c.toNat = 10 → il = true) := by
  cases il
  · simp [blankB] at h ⊢; omega
  · simp [blankB] at h ⊢; omega
theorem grown_of_below {C : Nat} {w w' : World} (hb : Below C w w') (hC : w.heap.size ≤ C) : w.grownBy w' none :=
  ⟨hb.os, hb.tape, hb.output, hb.size, fun k hk _ => hb.block k (by omega)⟩
/-- The loop's memory. -/
structure LoS (w0 : World) (b : Nat) (s : ByteArray) (a : Int) (lv : Value) (out : List Tok) (w : World) : Prop where
  sc : ScB w b s a
  own : w.ownsRow w0.heap.size 107 5 lv out.length (toksC out)
  ne : lv.ownBlock ≠ some b
  bl : Below w0.heap.size w0 w
  ge : w0.heap.size ≤ b
section
variable {w0 w w' : World} {b : Nat} {s : ByteArray} {a a' : Int} {lv : Value} {out : List Tok}
theorem LoS.only (h : LoS w0 b s a lv out w) (hs : ScB w' b s a') (ho : Only b w w') : LoS w0 b s a' lv out w' :=
  ⟨hs, h.own.kept ho.grown (.inr h.ne), h.ne, h.bl.trans (ho.below h.ge h.bl.size), h.ge⟩
theorem LoS.below (h : LoS w0 b s a lv out w) (hb : Below w.heap.size w w') : LoS w0 b s a lv out w' :=
  h.only ((hb.block b h.sc.lt).trans h.sc) (Only.ofBelow hb)
theorem LoS.drewN (h : LoS w0 b s a lv out w) (n : Nat) : LoS w0 b s a lv out (w.drewN n) := h.below (Below.drewN (Below.refl _ _) n)
theorem LoS.move (h : LoS w0 b s a lv out w) (p' : Int) : LoS w0 b s p' lv out (w.setCell ⟨b, 1, none⟩ (.int .i64 p')) := h.only (h.sc.set p') ((Only.refl b w).setCell 1 _)
theorem LoS.app {t : Tok} {g cap : Nat} (h : LoS w0 b s a lv out w) (hown : w'.ownsRow w0.heap.size 107 5 (.slice (some ⟨g, 0, none⟩) (out.length + 1) cap) (out.length + 1) (toksC out ++ tokC t)) (hg : w.grownBy w' lv.ownBlock) (hat : lv.ownBlock = some g ∨ b < g) :
    LoS w0 b s a (.slice (some ⟨g, 0, none⟩) (out.length + 1) cap) (out ++ [t]) w' := by
  have hlt := h.sc.lt
  have hgb : g ≠ b := by
    intro he
    rcases hat with h1 | h1
    · rw [he] at h1; exact h.ne h1
    · omega
  refine ⟨(hg.block b hlt (Ne.symm h.ne)).trans h.sc, by rw [toksC_add, List.length_append]; exact hown, by simpa [Value.ownBlock] using hgb, ?_, h.ge⟩
  exact h.bl.trans ⟨hg.os, hg.tape, hg.output, hg.size, fun k hk => hg.block k (by have := h.bl.size; omega) (fun e => by have := (h.own.lt k e.symm).1; omega)⟩
end

set_option maxRecDepth 100000 in
set_option maxHeartbeats 4000000 in
theorem rtokens_at {s : ByteArray} {il : Bool} {r : Except (Nat × Int) (List Tok)} (hr : rTokens s.data.toList il = r) (hs : s.size ≤ 4294967000) (w : World) :
    Calls Tryz.prog 46 #[.string s, .bool il] w (RTokensPost w r) := by
  have hlen : s.data.toList.length = s.size := rfl
  unfold rTokens at hr
  by_cases hbig : 65536 < s.size
  · rw [if_pos (by rw [hlen]; exact hbig)] at hr
    have HR := Lib.hid hr
    have hb : (65536 : Int) < s.size := by omega
    clear hr
    go_enter Tryz.func46, Tryz.ntmps46
    go_wp2
    refine bodyPost_ret (v := .tuple #[.slice none 0 0, .int .i64 65536, .int .i64 121]) (by simp [results, Tryz.results46, go_sem]) rfl ?_
    rw [← HR.out]
    exact ⟨rfl, Below.refl _ _⟩
  · rw [if_neg (by rw [hlen]; exact hbig), hlen] at hr
    have HR := Lib.hid hr
    have hb : (s.size : Int) ≤ 65536 := by omega
    have hsz : s.size ≤ 65536 := by omega
    obtain ⟨i0, hi, hz0, hz1, hz2⟩ := info_parts tokInfo
    have HI := Lib.hid (And.intro hi (And.intro hz0 (And.intro hz1 hz2)))
    clear hr hbig hi hz0 hz1 hz2 hlen
    go_enter Tryz.func46, Tryz.ntmps46
    go_wp2
    obtain ⟨b, hbe⟩ : ∃ b, b = w.heap.size := ⟨_, rfl⟩
    have HL : Hid (LoS w b s ((0 : Nat) : Int) (.slice none 0 0) [] (w.alloc (.cells #[.string s, .int .i64 0] 143))) := Lib.hid ⟨by rw [hbe]; exact heap_alloc_new w _, World.ownsRow_nil _ _ _ _, by simp [Value.ownBlock], (Below.refl _ _).alloc (Nat.le_refl _) _, by rw [hbe]; exact Nat.le_refl _⟩
    rw [← hbe]
    clear hbe
    go_loopw [8] (fun v8 wr => RRel (∃ (a f : Nat) (out : List Tok), a ≤ s.size ∧ s.size - a < f ∧ out.length ≤ a ∧ Hid (rT il s.data.toList f a out = r) ∧ Hid (LoS w b s (a : Int) v8 out wr))) (fun _ wr => s.size - (intOf ((wr.cell? ⟨b, 1, none⟩).getD undef)).toNat)
    case atStart => exact RRel.mk ⟨0, s.size + 1, [], by omega, by omega, by simp, HR, HL⟩
    case round =>
      clear HR HL
      obtain ⟨a, f, out, ha, hf, hol, HD, HT⟩ := hrel.it
      clear hrel
      obtain ⟨WR, rfl⟩ : ∃ WR, WR = wr := ⟨_, rfl⟩
      obtain ⟨f, rfl⟩ : ∃ g, f = g + 1 := ⟨f - 1, by omega⟩
      have hsz' : s.size ≤ 4294967000 := by omega
      obtain ⟨x0, x1, g0, g1⟩ := HT.out.sc.cells
      have hbl := HT.out.sc.lt
      have hcas := rT_cases HD.out
      rw [show s.data.toList.length = s.size from rfl] at hcas
      obtain ⟨c, hc⟩ : ∃ c, cAt s.data.toList a = c := ⟨_, rfl⟩
      obtain ⟨c', hc'⟩ : ∃ c, cAt s.data.toList (a + 1) = c := ⟨_, rfl⟩
      rw [hc, hc'] at hcas
      have HC := Lib.hid (fun k hk W (hW : ScB W b s (a : Int)) => rc_two hc hc' hsz' ha k hk W hW)
      have HC0 := Lib.hid hc
      have HC1 := Lib.hid hc'
      have q1 : IntKind.i64.wrap ((a : Int) + 1) = (a : Int) + 1 := IntWalk.i64_in _ (by omega)
      have q2 : IntKind.i64.wrap ((a : Int) + 2) = (a : Int) + 2 := IntWalk.i64_in _ (by omega)
      have hbb := fun il' => (show blankB il' c = (c.toNat == 32 || c.toNat == 9 || c.toNat == 13 || (c.toNat == 10 && !il')) from rfl)
      have HBB := Lib.hid hbb
      clear hc hc' hbb HD
      rcases hcas with ⟨h1, h2⟩ | ⟨h1, h2, h3⟩ | ⟨h1, h2, h3, h4⟩ | ⟨h1, h2, h3, h4, h5, h6⟩ | ⟨i, h1, h2, h3, h4, h5, h6⟩ | ⟨t, n, e, h1, h2, h3, h4, h5, h6, h7⟩ | ⟨t, n, h1, h2, h3, h4, h5, h6⟩
      · have HR2 := Lib.hid h2
        have hae : a = s.size := by omega
        subst hae
        have f1 : decide ((s.size : Int) ≥ s.size) = true := by simp
        clear h2
        have HBS : Hid (w.heap.size ≤ WR.heap.size + 1) := Lib.hid (by have := HT.out.bl.size; omega)
        go_wp2_with (first | (go_at_call 79; refine (HC.out _ (by decide) _ (by exact HT.out.sc)).mono ?_; rintro e w3 ⟨rfl, nn3, rfl⟩; first | rw [if_pos rfl] | rw [if_neg (by decide)]) | (at_builtin; refine wpList_append_lies _ (by rfl) _ _ _ (by rfl) w.heap.size 107 i0 _ 5 48 Tryz.underlying92 HI.out.1 HI.out.2.1 HI.out.2.2.1 HI.out.2.2.2 rfl (by omega) u8 out.length (toksC out) (by rfl) (LoS.own (LoS.below (HT.out.drewN nn3) ((Below.refl _ _).alloc (Nat.le_refl _) _))) ⟨WR.heap.size, 0, none⟩ 1 1 (tokC ⟨0, 0, 0, [], s.size⟩) (by rfl) (by rfl) (World.news_of_block (cs := (tokC ⟨0, 0, 0, [], s.size⟩).toArray) (t := 107) (fr := (0, 0)) (heap_alloc_new _ _)) (tokC_one _) (by omega) (by simp only [maxLen]; omega) (by omega) (by simp; exact HBS.out) (WR.heap.size + 1) (by simp) ?_; intro g cap w4 hown4 hgrow4 hat4 hlt4; have H4 := Lib.hid (LoS.app (LoS.below (HT.out.drewN nn3) ((Below.refl _ _).alloc (Nat.le_refl _) _)) hown4 hgrow4 (hat4.imp id (fun h => by omega))); clear hown4 hgrow4 hat4 hlt4))
        rw [HR2.out]
        refine bodyPost_ret (v := .tuple #[.slice (some ⟨g, 0, none⟩) (out.length + 1) cap, .int .i64 0, .int .i64 0]) (by simp [results, Tryz.results46, go_sem]) rfl ?_
        exact ⟨_, rfl, H4.out.own, H4.out.bl⟩
      · have f1 : ¬ (s.size : Int) ≤ a := by omega
        have HR2 := Lib.hid h3
        have hway := blank_ways h2
        clear h2 h3
        rcases hway with k1 | ⟨k1, k2⟩ | ⟨k1, k2, k3⟩ | ⟨k1, k2, k3, k4, rfl⟩
        · have e32 : ((c.toNat : Int) == 32) = true := by simp; omega
          go_wp2_with (go_at_call 79; refine (HC.out _ (by decide) _ (by exact HT.out.sc)).mono ?_; rintro e w3 ⟨rfl, nn3, rfl⟩; first | rw [if_pos rfl] | rw [if_neg (by decide)])
          go_roundw
          case rel =>
            exact RRel.mk ⟨a + 1, f, out, by omega, by omega, by omega, HR2, Lib.hid (by rw [show ((a + 1 : Nat) : Int) = (a : Int) + 1 by omega]; first | exact (HT.out.drewN _).move _ | exact ((HT.out.drewN _).drewN _).move _)⟩
          case measure =>
            have h5 := fun nd => (((HT.out.drewN nd).move ((a : Int) + 1)).sc).cells.2.1
            simp [h5, x1, intOf]; omega
        · have e32 : ((c.toNat : Int) == 32) = false := by simp; omega
          have e9 : ((c.toNat : Int) == 9) = true := by simp; omega
          go_wp2_with (go_at_call 79; refine (HC.out _ (by decide) _ (by exact HT.out.sc)).mono ?_; rintro e w3 ⟨rfl, nn3, rfl⟩; first | rw [if_pos rfl] | rw [if_neg (by decide)])
          go_roundw
          case rel =>
            exact RRel.mk ⟨a + 1, f, out, by omega, by omega, by omega, HR2, Lib.hid (by rw [show ((a + 1 : Nat) : Int) = (a : Int) + 1 by omega]; first | exact (HT.out.drewN _).move _ | exact ((HT.out.drewN _).drewN _).move _)⟩
          case measure =>
            have h5 := fun nd => (((HT.out.drewN nd).move ((a : Int) + 1)).sc).cells.2.1
            simp [h5, x1, intOf]; omega
        · have e32 : ((c.toNat : Int) == 32) = false := by simp; omega
          have e9 : ((c.toNat : Int) == 9) = false := by simp; omega
          have e13 : ((c.toNat : Int) == 13) = true := by simp; omega
          go_wp2_with (go_at_call 79; refine (HC.out _ (by decide) _ (by exact HT.out.sc)).mono ?_; rintro e w3 ⟨rfl, nn3, rfl⟩; first | rw [if_pos rfl] | rw [if_neg (by decide)])
          go_roundw
          case rel =>
            exact RRel.mk ⟨a + 1, f, out, by omega, by omega, by omega, HR2, Lib.hid (by rw [show ((a + 1 : Nat) : Int) = (a : Int) + 1 by omega]; first | exact (HT.out.drewN _).move _ | exact ((HT.out.drewN _).drewN _).move _)⟩
          case measure =>
            have h5 := fun nd => (((HT.out.drewN nd).move ((a : Int) + 1)).sc).cells.2.1
            simp [h5, x1, intOf]; omega
        · have e32 : ((c.toNat : Int) == 32) = false := by simp; omega
          have e9 : ((c.toNat : Int) == 9) = false := by simp; omega
          have e13 : ((c.toNat : Int) == 13) = false := by simp; omega
          have e10 : ((c.toNat : Int) == 10) = true := by simp; omega
          go_wp2_with (go_at_call 79; refine (HC.out _ (by decide) _ (by exact HT.out.sc)).mono ?_; rintro e w3 ⟨rfl, nn3, rfl⟩; first | rw [if_pos rfl] | rw [if_neg (by decide)])
          go_roundw
          case rel =>
            exact RRel.mk ⟨a + 1, f, out, by omega, by omega, by omega, HR2, Lib.hid (by rw [show ((a + 1 : Nat) : Int) = (a : Int) + 1 by omega]; first | exact (HT.out.drewN _).move _ | exact ((HT.out.drewN _).drewN _).move _)⟩
          case measure =>
            have h5 := fun nd => (((HT.out.drewN nd).move ((a : Int) + 1)).sc).cells.2.1
            simp [h5, x1, intOf]; omega
      · have f1 : ¬ (s.size : Int) ≤ a := by omega
        have e10 : ((c.toNat : Int) == 10) = true := by simp; omega
        have e32 : ((c.toNat : Int) == 32) = false := by simp; omega
        have e9 : ((c.toNat : Int) == 9) = false := by simp; omega
        have e13 : ((c.toNat : Int) == 13) = false := by simp; omega
        obtain rfl := (blank_not h2).2.2.2 h3
        have HR2 := Lib.hid h4
        have HBS : Hid (w.heap.size ≤ WR.heap.size + 1) := Lib.hid (by have := HT.out.bl.size; omega)
        clear h2 h3 h4
        go_wp2_with (first | (go_at_call 79; refine (HC.out _ (by decide) _ (by exact HT.out.sc)).mono ?_; rintro e w3 ⟨rfl, nn3, rfl⟩; first | rw [if_pos rfl] | rw [if_neg (by decide)]) | (at_builtin; refine wpList_append_lies _ (by rfl) _ _ _ (by rfl) w.heap.size 107 i0 _ 5 48 Tryz.underlying92 HI.out.1 HI.out.2.1 HI.out.2.2.1 HI.out.2.2.2 rfl (by omega) u8 out.length (toksC out) (by rfl) (LoS.own (LoS.below (HT.out.drewN nn3) ((Below.refl _ _).alloc (Nat.le_refl _) _))) ⟨WR.heap.size, 0, none⟩ 1 1 (tokC ⟨7, 0, 0, [10], a⟩) (by rfl) (by rfl) (World.news_of_block (cs := (tokC ⟨7, 0, 0, [10], a⟩).toArray) (t := 107) (fr := (0, 0)) (heap_alloc_new _ _)) (tokC_one _) (by omega) (by simp only [maxLen]; omega) (by omega) (by simp; exact HBS.out) (WR.heap.size + 1) (by simp) ?_; intro g cap w4 hown4 hgrow4 hat4 hlt4; have H4 := Lib.hid (LoS.app (LoS.below (HT.out.drewN nn3) ((Below.refl _ _).alloc (Nat.le_refl _) _)) hown4 hgrow4 (hat4.imp id (fun h => by omega))); have k4 := H4.out.sc.cells; have k4a := k4.2.1; have k4b := k4.2.2.2; clear k4; clear hown4 hgrow4 hat4 hlt4))
        go_roundw
        case rel =>
          exact RRel.mk ⟨a + 1, f, _, by omega, by omega, by simp; omega, HR2, Lib.hid (by rw [show ((a + 1 : Nat) : Int) = (a : Int) + 1 by omega]; exact H4.out.move _)⟩
        case measure =>
          have h5 := ((H4.out.move ((a : Int) + 1)).sc).cells.2.1
          simp [h5, x1, intOf]; omega
      · have f1 : ¬ (s.size : Int) ≤ a := by omega
        have e10 : ((c.toNat : Int) == 10) = false := by simp; omega
        have e40 : ((c.toNat : Int) == 40) = true := by simp; omega
        have e42 : ((c'.toNat : Int) == 42) = true := by simp; omega
        have e32 : ((c.toNat : Int) == 32) = false := by simp; omega
        have e9 : ((c.toNat : Int) == 9) = false := by simp; omega
        have e13 : ((c.toNat : Int) == 13) = false := by simp; omega
        have HR2 := Lib.hid h6
        have HIX := Lib.hid h5
        have ha2 : a + 2 ≤ s.size := by
          have := cAt_lt2 (s := s) (p := a + 1) (by rw [HC1.out]; omega)
          omega
        clear h2 h3 h4 h5 h6
        go_wp2_with (go_at_call 79; refine (HC.out _ (by decide) _ (by exact HT.out.sc)).mono ?_; rintro e w3 ⟨rfl, nn3, rfl⟩; first | rw [if_pos rfl] | rw [if_neg (by decide)])
        go_loopw [] (fun wr2 => RRel (∃ j : Nat, a + 2 + j ≤ s.size ∧ Hid (Lib.NoOcc (s.data.toList.drop (a + 2)) [42, 41] j) ∧ Hid (LoS w b s ((a + 2 + j : Nat) : Int) u8 out wr2))) (fun wr2 => s.size - (intOf ((wr2.cell? ⟨b, 1, none⟩).getD undef)).toNat)
        case atStart => exact RRel.mk ⟨0, by omega, Lib.hid (Lib.NoOcc.zero _ _), Lib.hid (by rw [show ((a + 2 + 0 : Nat) : Int) = (a : Int) + 2 by omega]; first | exact (HT.out.drewN _).move _ | exact ((HT.out.drewN _).drewN _).move _)⟩
        case round =>
          obtain ⟨j, hj, HNO, HT2⟩ := hrel.it
          clear hrel
          obtain ⟨W2, rfl⟩ : ∃ W2, W2 = wr := ⟨_, rfl⟩
          obtain ⟨q, hq⟩ : ∃ q, a + 2 + j = q := ⟨_, rfl⟩
          rw [hq] at HT2 hj
          have HQ := Lib.hid hq
          have hocc := occ_at (l := s.data.toList) (a := a + 2) (i := j)
          rw [hq] at hocc
          obtain ⟨d, hd⟩ : ∃ d, cAt s.data.toList q = d := ⟨_, rfl⟩
          obtain ⟨d', hd'⟩ : ∃ d, cAt s.data.toList (q + 1) = d := ⟨_, rfl⟩
          rw [hd, hd'] at hocc
          have HOC := Lib.hid hocc
          have HD0 := Lib.hid hd
          have HD1 := Lib.hid hd'
          have HC2 := Lib.hid (fun k hk W (hW : ScB W b s (q : Int)) => rc_two hd hd' hsz' hj k hk W hW)
          obtain ⟨y0, y1, k0, k1⟩ := HT2.out.sc.cells
          have hbl2 := HT2.out.sc.lt
          have q3 : IntKind.i64.wrap ((q : Int) + 1) = (q : Int) + 1 := IntWalk.i64_in _ (by omega)
          have q4 : IntKind.i64.wrap ((q : Int) + 2) = (q : Int) + 2 := IntWalk.i64_in _ (by omega)
          clear hd hd' hocc hq
          have hway : (q = s.size) ∨ (q < s.size ∧ d.toNat ≠ 42) ∨ (q < s.size ∧ d.toNat = 42 ∧ d'.toNat ≠ 41) ∨ (q < s.size ∧ d.toNat = 42 ∧ d'.toNat = 41) := by omega
          rcases hway with k1 | ⟨k1, k2⟩ | ⟨k1, k2, k3⟩ | ⟨k1, k2, k3⟩
          · have HE := Lib.hid (Lib.index_past (by simp) HNO.out (by rw [List.length_drop, show s.data.toList.length = s.size from rfl]; simp only [List.length_cons, List.length_nil]; have := HQ.out; omega))
            have z1 : ¬ (q : Int) < s.size := by omega
            have z2 : (s.size : Int) ≤ q := by omega
            clear k1
            go_wp2_with (go_at_call 79; refine (HC2.out _ (by decide) _ (by exact HT2.out.sc)).mono ?_; rintro e w3 ⟨rfl, nn3, rfl⟩; first | rw [if_pos rfl] | rw [if_neg (by decide)])
            rw [HR2.out]
            refine bodyPost_ret (v := .tuple #[.slice none 0 0, .int .i64 a, .int .i64 120]) (by simp [results, Tryz.results46, go_sem]) rfl ?_
            exact ⟨rfl, HT2.out.bl⟩
          · have z1 : (q : Int) < s.size := by omega
            have z3 : ((d.toNat : Int) == 42) = false := by simp; omega
            have HNE : Hid (Lib.occAt (s.data.toList.drop (a + 2)) [42, 41] j = false) := Lib.hid (by
              cases h : Lib.occAt (s.data.toList.drop (a + 2)) [42, 41] j with
              | false => rfl
              | true => have := HOC.out.1 h; omega)
            go_wp2_with (go_at_call 79; refine (HC2.out _ (by decide) _ (by exact HT2.out.sc)).mono ?_; rintro e w3 ⟨rfl, nn3, rfl⟩; first | rw [if_pos rfl] | rw [if_neg (by decide)])
            go_roundw
            case rel =>
              exact RRel.mk ⟨j + 1, by have := HQ.out; omega, Lib.hid (HNO.out.succ HNE.out), Lib.hid (by rw [show ((a + 2 + (j + 1) : Nat) : Int) = (q : Int) + 1 by have := HQ.out; omega]; first | exact (HT2.out.drewN _).move _ | exact ((HT2.out.drewN _).drewN _).move _)⟩
            case measure =>
              have h5 := fun nd => (((HT2.out.drewN nd).move ((q : Int) + 1)).sc).cells.2.1
              simp [h5, y1, intOf]; omega
          · have z1 : (q : Int) < s.size := by omega
            have z3 : ((d.toNat : Int) == 42) = true := by simp; omega
            have z4 : ((d'.toNat : Int) == 41) = false := by simp; omega
            have HNE : Hid (Lib.occAt (s.data.toList.drop (a + 2)) [42, 41] j = false) := Lib.hid (by
              cases h : Lib.occAt (s.data.toList.drop (a + 2)) [42, 41] j with
              | false => rfl
              | true => have := HOC.out.1 h; omega)
            go_wp2_with (go_at_call 79; refine (HC2.out _ (by decide) _ (by exact HT2.out.sc)).mono ?_; rintro e w3 ⟨rfl, nn3, rfl⟩; first | rw [if_pos rfl] | rw [if_neg (by decide)])
            go_roundw
            case rel =>
              exact RRel.mk ⟨j + 1, by have := HQ.out; omega, Lib.hid (HNO.out.succ HNE.out), Lib.hid (by rw [show ((a + 2 + (j + 1) : Nat) : Int) = (q : Int) + 1 by have := HQ.out; omega]; first | exact (HT2.out.drewN _).move _ | exact ((HT2.out.drewN _).drewN _).move _)⟩
            case measure =>
              have h5 := fun nd => (((HT2.out.drewN nd).move ((q : Int) + 1)).sc).cells.2.1
              simp [h5, y1, intOf]; omega
          · have HE := Lib.hid (Lib.index_hit HNO.out (by rw [List.length_drop, show s.data.toList.length = s.size from rfl]; have := HQ.out; omega) (HOC.out.2 ⟨k2, k3⟩))
            exfalso
            have h := HIX.out
            rw [HE.out] at h
            omega
      · have f1 : ¬ (s.size : Int) ≤ a := by omega
        have e10 : ((c.toNat : Int) == 10) = false := by simp; omega
        have e40 : ((c.toNat : Int) == 40) = true := by simp; omega
        have e42 : ((c'.toNat : Int) == 42) = true := by simp; omega
        have e32 : ((c.toNat : Int) == 32) = false := by simp; omega
        have e9 : ((c.toNat : Int) == 9) = false := by simp; omega
        have e13 : ((c.toNat : Int) == 13) = false := by simp; omega
        have HR2 := Lib.hid h6
        have HIX := Lib.hid h5
        have ha2 : a + 2 ≤ s.size := by
          have := cAt_lt2 (s := s) (p := a + 1) (by rw [HC1.out]; omega)
          omega
        clear h2 h3 h4 h5 h6
        go_wp2_with (go_at_call 79; refine (HC.out _ (by decide) _ (by exact HT.out.sc)).mono ?_; rintro e w3 ⟨rfl, nn3, rfl⟩; first | rw [if_pos rfl] | rw [if_neg (by decide)])
        go_loopw [] (fun wr2 => RRel (∃ j : Nat, a + 2 + j ≤ s.size ∧ Hid (Lib.NoOcc (s.data.toList.drop (a + 2)) [42, 41] j) ∧ Hid (LoS w b s ((a + 2 + j : Nat) : Int) u8 out wr2))) (fun wr2 => s.size - (intOf ((wr2.cell? ⟨b, 1, none⟩).getD undef)).toNat)
        case atStart => exact RRel.mk ⟨0, by omega, Lib.hid (Lib.NoOcc.zero _ _), Lib.hid (by rw [show ((a + 2 + 0 : Nat) : Int) = (a : Int) + 2 by omega]; first | exact (HT.out.drewN _).move _ | exact ((HT.out.drewN _).drewN _).move _)⟩
        case round =>
          obtain ⟨j, hj, HNO, HT2⟩ := hrel.it
          clear hrel
          obtain ⟨W2, rfl⟩ : ∃ W2, W2 = wr := ⟨_, rfl⟩
          obtain ⟨q, hq⟩ : ∃ q, a + 2 + j = q := ⟨_, rfl⟩
          rw [hq] at HT2 hj
          have HQ := Lib.hid hq
          have hocc := occ_at (l := s.data.toList) (a := a + 2) (i := j)
          rw [hq] at hocc
          obtain ⟨d, hd⟩ : ∃ d, cAt s.data.toList q = d := ⟨_, rfl⟩
          obtain ⟨d', hd'⟩ : ∃ d, cAt s.data.toList (q + 1) = d := ⟨_, rfl⟩
          rw [hd, hd'] at hocc
          have HOC := Lib.hid hocc
          have HD0 := Lib.hid hd
          have HD1 := Lib.hid hd'
          have HC2 := Lib.hid (fun k hk W (hW : ScB W b s (q : Int)) => rc_two hd hd' hsz' hj k hk W hW)
          obtain ⟨y0, y1, k0, k1⟩ := HT2.out.sc.cells
          have hbl2 := HT2.out.sc.lt
          have q3 : IntKind.i64.wrap ((q : Int) + 1) = (q : Int) + 1 := IntWalk.i64_in _ (by omega)
          have q4 : IntKind.i64.wrap ((q : Int) + 2) = (q : Int) + 2 := IntWalk.i64_in _ (by omega)
          clear hd hd' hocc hq
          have hway : (q = s.size) ∨ (q < s.size ∧ d.toNat ≠ 42) ∨ (q < s.size ∧ d.toNat = 42 ∧ d'.toNat ≠ 41) ∨ (q < s.size ∧ d.toNat = 42 ∧ d'.toNat = 41) := by omega
          rcases hway with k1 | ⟨k1, k2⟩ | ⟨k1, k2, k3⟩ | ⟨k1, k2, k3⟩
          · have HE := Lib.hid (Lib.index_past (by simp) HNO.out (by rw [List.length_drop, show s.data.toList.length = s.size from rfl]; simp only [List.length_cons, List.length_nil]; have := HQ.out; omega))
            have z1 : ¬ (q : Int) < s.size := by omega
            have z2 : (s.size : Int) ≤ q := by omega
            clear k1
            exfalso
            have h := HIX.out
            rw [HE.out] at h
            omega
          · have z1 : (q : Int) < s.size := by omega
            have z3 : ((d.toNat : Int) == 42) = false := by simp; omega
            have HNE : Hid (Lib.occAt (s.data.toList.drop (a + 2)) [42, 41] j = false) := Lib.hid (by
              cases h : Lib.occAt (s.data.toList.drop (a + 2)) [42, 41] j with
              | false => rfl
              | true => have := HOC.out.1 h; omega)
            go_wp2_with (go_at_call 79; refine (HC2.out _ (by decide) _ (by exact HT2.out.sc)).mono ?_; rintro e w3 ⟨rfl, nn3, rfl⟩; first | rw [if_pos rfl] | rw [if_neg (by decide)])
            go_roundw
            case rel =>
              exact RRel.mk ⟨j + 1, by have := HQ.out; omega, Lib.hid (HNO.out.succ HNE.out), Lib.hid (by rw [show ((a + 2 + (j + 1) : Nat) : Int) = (q : Int) + 1 by have := HQ.out; omega]; first | exact (HT2.out.drewN _).move _ | exact ((HT2.out.drewN _).drewN _).move _)⟩
            case measure =>
              have h5 := fun nd => (((HT2.out.drewN nd).move ((q : Int) + 1)).sc).cells.2.1
              simp [h5, y1, intOf]; omega
          · have z1 : (q : Int) < s.size := by omega
            have z3 : ((d.toNat : Int) == 42) = true := by simp; omega
            have z4 : ((d'.toNat : Int) == 41) = false := by simp; omega
            have HNE : Hid (Lib.occAt (s.data.toList.drop (a + 2)) [42, 41] j = false) := Lib.hid (by
              cases h : Lib.occAt (s.data.toList.drop (a + 2)) [42, 41] j with
              | false => rfl
              | true => have := HOC.out.1 h; omega)
            go_wp2_with (go_at_call 79; refine (HC2.out _ (by decide) _ (by exact HT2.out.sc)).mono ?_; rintro e w3 ⟨rfl, nn3, rfl⟩; first | rw [if_pos rfl] | rw [if_neg (by decide)])
            go_roundw
            case rel =>
              exact RRel.mk ⟨j + 1, by have := HQ.out; omega, Lib.hid (HNO.out.succ HNE.out), Lib.hid (by rw [show ((a + 2 + (j + 1) : Nat) : Int) = (q : Int) + 1 by have := HQ.out; omega]; first | exact (HT2.out.drewN _).move _ | exact ((HT2.out.drewN _).drewN _).move _)⟩
            case measure =>
              have h5 := fun nd => (((HT2.out.drewN nd).move ((q : Int) + 1)).sc).cells.2.1
              simp [h5, y1, intOf]; omega
          · have HE := Lib.hid (Lib.index_hit HNO.out (by rw [List.length_drop, show s.data.toList.length = s.size from rfl]; have := HQ.out; omega) (HOC.out.2 ⟨k2, k3⟩))
            have hji : j = i := by have h := HIX.out; rw [HE.out] at h; omega
            have z1 : (q : Int) < s.size := by omega
            have z3 : ((d.toNat : Int) == 42) = true := by simp; omega
            have z4 : ((d'.toNat : Int) == 41) = true := by simp; omega
            have z5 : ¬ (s.size : Int) ≤ q := by omega
            have hq2 : q + 2 ≤ s.size := by
              have := cAt_lt2 (s := s) (p := q + 1) (by rw [HD1.out]; omega)
              omega
            have HJ := Lib.hid hji
            clear hji
            go_wp2_with (go_at_call 79; refine (HC2.out _ (by decide) _ (by exact HT2.out.sc)).mono ?_; rintro e w3 ⟨rfl, nn3, rfl⟩; first | rw [if_pos rfl] | rw [if_neg (by decide)])
            go_roundw
            case rel =>
              exact RRel.mk ⟨a + i + 4, f, out, by have := HQ.out; have := HJ.out; omega, by have := HQ.out; have := HJ.out; omega, by omega, HR2, Lib.hid (by rw [show ((a + i + 4 : Nat) : Int) = (q : Int) + 2 by have := HQ.out; have := HJ.out; omega]; first | exact (HT2.out.drewN _).move _ | exact ((HT2.out.drewN _).drewN _).move _)⟩
            case measure =>
              have h5 := fun nd => (((HT2.out.drewN nd).move ((q : Int) + 2)).sc).cells.2.1
              have := HQ.out
              simp [h5, x1, intOf]; omega
      · have f1 : ¬ (s.size : Int) ≤ a := by omega
        have e10 : ((c.toNat : Int) == 10) = false := by simp; omega
        obtain ⟨m32, m9, m13, -⟩ := blank_not h2
        have e32 : ((c.toNat : Int) == 32) = false := by simp; omega
        have e9 : ((c.toNat : Int) == 9) = false := by simp; omega
        have e13 : ((c.toNat : Int) == 13) = false := by simp; omega
        clear m32 m9 m13
        have hN : (cAt s.data.toList a).toNat ≠ 10 := by rw [HC0.out]; exact h3
        have H107 := Lib.hid (fun W (hW : ScB W b s (a : Int)) => rtoken_at h5 hN hsz' h1 W hW)
        obtain ⟨tk, kd, nn, tx, ta⟩ := t
        have HR2 := Lib.hid h7
        have hcm : ((c.toNat : Int) == 40) = false ∨ (((c.toNat : Int) == 40) = true ∧ ((c'.toNat : Int) == 42) = false) := by
          by_cases k40 : c.toNat = 40
          · right; exact ⟨by simp; omega, by simp; omega⟩
          · left; simp; omega
        clear h2 h3 h4 h5 h7 hN
        rcases hcm with e40 | ⟨e40, e42⟩
        all_goals
          go_wp2_with (go_at_call 79; refine (HC.out _ (by decide) _ (by exact HT.out.sc)).mono ?_; rintro e w3 ⟨rfl, nn3, rfl⟩; first | rw [if_pos rfl] | rw [if_neg (by decide)])
          refine (H107.out _ (by first | exact HT.out.sc.drewN _ | exact (HT.out.sc.drewN _).drewN _)).mono ?_
          rintro ev w6 ⟨p1, p2, p3⟩
          obtain ⟨z1, z2, z3, z4, rfl⟩ := p2 h6
          have HBL : Hid (Below w.heap.size w w6) := Lib.hid (by first | exact (HT.out.drewN _).bl.trans (p3.below HT.out.ge (HT.out.drewN _).bl.size) | exact ((HT.out.drewN _).drewN _).bl.trans (p3.below HT.out.ge ((HT.out.drewN _).drewN _).bl.size))
          have ee : (e == 0) = false := by simpa using h6
          clear p1 p2 p3
          simp only [upBy]
          have kA : ∀ (o : Obj) (i : Nat) (v : Value), o = .cells #[.int .i64 0, .int .i64 0, .int .i64 0, .string ⟨#[]⟩, .int .i64 0] 107 → True := fun _ _ _ _ => trivial
          clear kA
          go_upto_region 22 with fail
          have HST := heap_alloc_new w6 (.cells #[.int .i64 z1, .int .i64 z2, .int .i64 z3, .string z4, .int .i64 a] 107)
          have hbl6 : Below w6.heap.size w6 (w6.alloc (.cells #[.int .i64 z1, .int .i64 z2, .int .i64 z3, .string z4, .int .i64 a] 107)) := (Below.refl _ _).alloc (Nat.le_refl _) _
          obtain ⟨W7, hW7⟩ : ∃ W7, W7 = w6.alloc (.cells #[.int .i64 z1, .int .i64 z2, .int .i64 z3, .string z4, .int .i64 a] 107) := ⟨_, rfl⟩
          have hst : W7.heap[w6.heap.size]? = some (.cells #[.int .i64 z1, .int .i64 z2, .int .i64 z3, .string z4, .int .i64 a] 107) := by rw [hW7]; exact HST
          clear HST
          rw [← hW7] at hbl6 ⊢
          have HB7 : Hid (Below w.heap.size w W7) := Lib.hid (HBL.out.trans ⟨hbl6.os, hbl6.tape, hbl6.output, hbl6.size, fun k hk => hbl6.block k (Nat.lt_of_lt_of_le hk HBL.out.size)⟩)
          obtain ⟨c60, c61, c62, c63, c64, -⟩ := blk5 hst
          clear hW7 hst hbl6 h6
          go_wp2
          go_quiet (fail)
          go_wp2
          rw [HR2.out]
          refine bodyPost_ret (v := .tuple #[.slice none 0 0, .int .i64 a, .int .i64 e]) (by simp [results, Tryz.results46, go_sem]) rfl ?_
          exact ⟨rfl, HB7.out.drewN _⟩
      · have f1 : ¬ (s.size : Int) ≤ a := by omega
        have e10 : ((c.toNat : Int) == 10) = false := by simp; omega
        obtain ⟨m32, m9, m13, -⟩ := blank_not h2
        have e32 : ((c.toNat : Int) == 32) = false := by simp; omega
        have e9 : ((c.toNat : Int) == 9) = false := by simp; omega
        have e13 : ((c.toNat : Int) == 13) = false := by simp; omega
        clear m32 m9 m13
        have hN : (cAt s.data.toList a).toNat ≠ 10 := by rw [HC0.out]; exact h3
        have H107 := Lib.hid (fun W (hW : ScB W b s (a : Int)) => rtoken_at h5 hN hsz' h1 W hW)
        obtain ⟨tk, kd, nn, tx, ta⟩ := t
        have hsize := rToken_size (by intro h0; have := congrArg List.length h0; rw [List.length_drop, List.length_nil, show s.data.toList.length = s.size from rfl] at this; omega) h5
        rw [List.length_drop, show s.data.toList.length = s.size from rfl] at hsize
        obtain ⟨n1, n2⟩ := hsize
        have HR2 := Lib.hid h6
        have hcm : ((c.toNat : Int) == 40) = false ∨ (((c.toNat : Int) == 40) = true ∧ ((c'.toNat : Int) == 42) = false) := by
          by_cases k40 : c.toNat = 40
          · right; exact ⟨by simp; omega, by simp; omega⟩
          · left; simp; omega
        clear h2 h3 h4 h5 h6 hN
        rcases hcm with e40 | ⟨e40, e42⟩
        all_goals
          go_wp2_with (go_at_call 79; refine (HC.out _ (by decide) _ (by exact HT.out.sc)).mono ?_; rintro e w3 ⟨rfl, nn3, rfl⟩; first | rw [if_pos rfl] | rw [if_neg (by decide)])
          refine (H107.out _ (by first | exact HT.out.sc.drewN _ | exact (HT.out.sc.drewN _).drewN _)).mono ?_
          rintro ev w6 ⟨p1, p2, p3⟩
          obtain ⟨rfl, hsc⟩ := p1 rfl
          have HT6 : Hid (LoS w b s ((a + n : Nat) : Int) u8 out w6) := Lib.hid (by first | exact (HT.out.drewN _).only hsc p3 | exact ((HT.out.drewN _).drewN _).only hsc p3)
          clear p1 p2 p3 hsc
          simp only [tokV, upBy]
          go_upto_region 22 with fail
          have HST := heap_alloc_new w6 (.cells #[.int .i64 tk, .int .i64 kd, .int .i64 nn, .string ⟨tx.toArray⟩, .int .i64 a] 107)
          have hbl6 : Below w6.heap.size w6 (w6.alloc (.cells #[.int .i64 tk, .int .i64 kd, .int .i64 nn, .string ⟨tx.toArray⟩, .int .i64 a] 107)) := (Below.refl _ _).alloc (Nat.le_refl _) _
          obtain ⟨W7, hW7⟩ : ∃ W7, W7 = w6.alloc (.cells #[.int .i64 tk, .int .i64 kd, .int .i64 nn, .string ⟨tx.toArray⟩, .int .i64 a] 107) := ⟨_, rfl⟩
          have hst : W7.heap[w6.heap.size]? = some (.cells #[.int .i64 tk, .int .i64 kd, .int .i64 nn, .string ⟨tx.toArray⟩, .int .i64 a] 107) := by rw [hW7]; exact HST
          clear HST
          rw [← hW7] at hbl6 ⊢
          have HT7 := Lib.hid (HT6.out.below hbl6)
          have HBS : Hid (w.heap.size ≤ W7.heap.size + 1) := Lib.hid (by have := HT7.out.bl.size; omega)
          have hlb : b < W7.heap.size := HT7.out.sc.lt
          obtain ⟨c60, c61, c62, c63, c64, -⟩ := blk5 hst
          clear hW7 hst hbl6
          go_wp2_with (at_builtin; refine wpList_append_lies _ (by rfl) _ _ _ (by rfl) w.heap.size 107 i0 _ 5 48 Tryz.underlying92 HI.out.1 HI.out.2.1 HI.out.2.2.1 HI.out.2.2.2 rfl (by omega) u8 out.length (toksC out) (by rfl) (LoS.own (LoS.below HT7.out ((Below.refl _ _).alloc (Nat.le_refl _) _))) ⟨W7.heap.size, 0, none⟩ 1 1 (tokC ⟨tk, kd, nn, tx, a⟩) (by rfl) (by rfl) (World.news_of_block (cs := (tokC ⟨tk, kd, nn, tx, a⟩).toArray) (t := 107) (fr := (0, 0)) (heap_alloc_new _ _)) (tokC_one _) (by omega) (by simp only [maxLen]; omega) (by omega) (by simp; exact HBS.out) (W7.heap.size + 1) (by simp) ?_; intro g cap w4 hown4 hgrow4 hat4 hlt4; have H4 := Lib.hid (LoS.app (LoS.below HT7.out ((Below.refl _ _).alloc (Nat.le_refl _) _)) hown4 hgrow4 (hat4.imp id (fun h => by omega))); clear hown4 hgrow4 hat4 hlt4)
          go_roundw
          case rel =>
            exact RRel.mk ⟨a + n, f, _, by omega, by omega, by simp; omega, HR2, H4⟩
          case measure =>
            have h5 := H4.out.sc.cells.2.1
            simp [h5, x1, intOf]; omega
end Go.Proofs.YtdpkjpjkdmkkpaaGreatDoor

/- The cells of the tokens that a lexer hands over. -/
namespace Go.Proofs.YtdpkjpjkdmkkpaaGreatDoor
open Go.RowKit Lx Ad

/-- The cells of tokens lie at block g. -/
def TC (w : World) (g : Nat) (ts : List Tok) : Prop := ∀ j u, (toksC ts)[j]? = some u → w.cell? ⟨g, j, none⟩ = some u
theorem toksC_get {ts : List Tok} {i : Nat} {t : Tok} (h : ts[i]? = some t) (k : Nat) (hk : k < 5) : (toksC ts)[i * 5 + k]? = (tokC t)[k]? := by
  induction ts generalizing i with
  | nil => simp at h
  | cons t0 ts ih =>
    cases i with
    | zero =>
      simp at h
      subst h
      simp only [toksC, List.flatMap_cons]
      rw [List.getElem?_append_left (by simp [tokC]; omega)]
      simp
    | succ i =>
      have := ih (i := i) (by simpa using h)
      simp only [toksC, List.flatMap_cons] at this ⊢
      rw [List.getElem?_append_right (by simp [tokC]; omega), show (i + 1) * 5 + k - (tokC t0).length = i * 5 + k by simp [tokC]; omega]
      exact this
theorem TC.cells {w : World} {g : Nat} {ts : List Tok} (h : TC w g ts) {i : Nat} {t : Tok} (hi : ts[i]? = some t) :
    w.cell? ⟨g, i * 5, none⟩ = some (.int .i64 t.tok) ∧ w.cell? ⟨g, i * 5 + 1, none⟩ = some (.int .i64 t.kind) ∧ w.cell? ⟨g, i * 5 + 2, none⟩ = some (.int .i64 t.n) ∧ w.cell? ⟨g, i * 5 + 3, none⟩ = some (.string ⟨t.text.toArray⟩) ∧ w.cell? ⟨g, i * 5 + 4, none⟩ = some (.int .i64 t.at_) := by
  refine ⟨?_, ?_, ?_, ?_, ?_⟩
  · exact h _ _ (by rw [← Nat.add_zero (i * 5), toksC_get hi 0 (by omega)]; rfl)
  · exact h _ _ (by rw [toksC_get hi 1 (by omega)]; rfl)
  · exact h _ _ (by rw [toksC_get hi 2 (by omega)]; rfl)
  · exact h _ _ (by rw [toksC_get hi 3 (by omega)]; rfl)
  · exact h _ _ (by rw [toksC_get hi 4 (by omega)]; rfl)
theorem TC.below {w w' : World} {g : Nat} {ts : List Tok} (h : TC w g ts) (hb : Below w.heap.size w w') : TC w' g ts := fun j u hj => cell_later hb (h j u hj)

theorem TC.own {w : World} {B g cap n : Nat} {ts : List Tok} {x : Value} (ho : w.ownsRow B 107 5 x n (toksC ts)) (hx : x = .slice (some ⟨g, 0, none⟩) n cap) : TC w g ts := by
  subst hx
  intro j u hj
  have h := ho.cells (g := g) rfl j u hj
  have hadd : (⟨g, 0, none⟩ : Addr).add j = ⟨g, j, none⟩ := by unfold Addr.add; split <;> simp_all
  rw [hadd] at h
  exact h
end Go.Proofs.YtdpkjpjkdmkkpaaGreatDoor
