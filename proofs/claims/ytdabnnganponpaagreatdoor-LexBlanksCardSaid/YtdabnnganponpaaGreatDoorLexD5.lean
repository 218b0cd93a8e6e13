/- A token has at least one byte, and no more than there are. -/
import Derived.Test.YtdabnnganponpaaGreatDoorLexW11
namespace Go.Proofs.YtdabnnganponpaaGreatDoor
open Lx

theorem times_ends (l : List UInt8) : ∀ (f at_ : Nat) (n : Int) (next : Nat), at_ ≤ l.length → next ≤ 5 → at_ ≤ (times l f at_ n next).1 ∧ (times l f at_ n next).1 ≤ l.length := by
  intro f
  induction f with
  | zero => intro at_ n next h _; exact ⟨Nat.le_refl _, h⟩
  | succ f ih =>
    intro at_ n next h hn
    simp only [times]
    split
    · exact ⟨Nat.le_refl _, h⟩
    · rename_i hk
      obtain ⟨j, hj, h1, h2, h3⟩ := unitOf_is (rest := l.drop (at_ + (digits (l.drop at_) 10).2)) rfl hn hk
      rw [hj, Int.toNat_natCast]
      have hd := digits_size (l.drop at_) 10
      rw [List.length_drop] at hd h3
      have := ih (at_ + (digits (l.drop at_) 10).2 + (unitS j).length) (timeStep n (digits (l.drop at_) 10).1 j) (j + 1) (by omega) (by omega)
      omega
theorem number_size {l : List UInt8} {n e : Int} {z : Nat} (h : Lx.number l = (n, z, e)) (he : e = 0) : 1 ≤ z ∧ z ≤ l.length := by
  subst he
  unfold Lx.number at h
  simp only at h
  split at h
  · cases h
  · rename_i h0
    have hd := digits_size l 10
    split at h
    · rename_i h1
      have hlt : (digits l 10).2 < l.length := by
        rcases Nat.lt_or_ge (digits l 10).2 l.length with h2 | h2
        · exact h2
        · rw [List.getElem?_eq_none h2] at h1; exact absurd h1.1 (by simp)
      have hm := digits_size (l.drop ((digits l 10).2 + 1)) (digits l 10).1
      rw [List.length_drop] at hm
      split at h
      · cases h
      · injection h with _ h2; injection h2 with h2 _; omega
    · injection h with _ h2; injection h2 with h2 _; omega
theorem span_pos {p : UInt8 → Bool} {c : UInt8} {l : List UInt8} (h : p c = true) : 1 ≤ span p (c :: l) := by
  simp [span, h]
theorem lTyped_size {l : List UInt8} {a k z : Nat} {t : Tok} {e : Int} (h : lTyped l a k = (t, z, e)) (he : e = 0) (ha : a ≤ l.length) (ha1 : 1 ≤ a) : 1 ≤ z ∧ z ≤ l.length := by
  subst he
  unfold lTyped at h
  simp only at h
  split at h
  · injection h with _ h2; injection h2 with h2 _
    have : (List.take (span wordB (List.drop a l)) (List.drop a l)).length ≤ (l.drop a).length := by rw [List.length_take]; omega
    rw [List.length_drop] at this
    omega
  · split at h
    · rename_i hp
      have hp2 := prefix_len hp.2
      rw [List.length_drop] at hp2
      simp only [List.length_cons, List.length_nil] at hp2
      have hd := digits_size (List.drop 1 (List.drop a l)) 10
      rw [List.length_drop, List.length_drop] at hd
      split at h
      · injection h with _ h2; injection h2 with _ h2; cases h2
      · split at h
        · injection h with _ h2; injection h2 with h2 _; omega
        · injection h with _ h2; injection h2 with _ h2; cases h2
    · split at h
      · rename_i h3
        injection h with _ h2; injection h2 with _ h2; exact absurd h2 h3
      · rename_i h3
        have h3 : (Lx.number (l.drop a)).2.2 = 0 := by simpa using h3
        have hz := number_size (l := l.drop a) (n := (Lx.number (l.drop a)).1) (z := (Lx.number (l.drop a)).2.1) (e := (Lx.number (l.drop a)).2.2) rfl h3
        rw [List.length_drop] at hz
        split at h
        · injection h with _ h2; injection h2 with h2 _; omega
        · injection h with _ h2; injection h2 with _ h2; cases h2
theorem lTime_size {s : Int} {q : Nat × Int × Nat} {t : Tok} {z : Nat} {e : Int} (h : lTime s q = (t, z, e)) (he : e = 0) : z = q.1 := by
  subst he
  unfold lTime at h
  split at h
  · injection h with _ h2; injection h2 with _ h2; cases h2
  · split at h
    · injection h with _ h2; injection h2 with h2 _; exact h2.symm
    · injection h with _ h2; injection h2 with _ h2; cases h2
theorem lSpan2_size {l : List UInt8} {a z : Nat} {t : Tok} {e : Int} (h : lSpan2 l a = (t, z, e)) (he : e = 0) (ha : a ≤ l.length) (ha1 : 1 ≤ a) : 1 ≤ z ∧ z ≤ l.length := by
  unfold lSpan2 at h
  split at h
  · rename_i hp
    have hp2 := prefix_len hp
    rw [List.length_drop] at hp2
    simp only [List.length_cons, List.length_nil] at hp2
    have h1 := lTime_size h he
    have h2 := times_ends l 5 (a + 1) 0 0 (by omega) (by omega)
    omega
  · have h1 := lTime_size h he
    have h2 := times_ends l 5 a 0 0 ha (by omega)
    omega
theorem lWordTok_size {c : UInt8} {l : List UInt8} {t : Tok} {z : Nat} {e : Int} (hc : wordB c = true) (h : lWordTok (c :: l) = (t, z, e)) (he : e = 0) : 1 ≤ z ∧ z ≤ (c :: l).length := by
  have h1 := span_pos (l := l) hc
  have h2 := span_le wordB (c :: l)
  unfold lWordTok at h
  simp only at h
  split at h
  · rename_i hh
    have hlt : span wordB (c :: l) < (c :: l).length := by
      rcases Nat.lt_or_ge (span wordB (c :: l)) (c :: l).length with h3 | h3
      · exact h3
      · rw [List.getElem?_eq_none h3] at hh; exact absurd hh.1 (by simp)
    split at h
    · exact lSpan2_size h he (by omega) (by omega)
    · exact lTyped_size h he (by omega) (by omega)
  · subst he
    unfold wordRest at h
    repeat' split at h
    all_goals (injection h with _ h2; injection h2 with h2 h3)
    all_goals first | omega | cases h3
theorem signF_size {l : List UInt8} (gs : List (List UInt8)) (hg : ∀ g ∈ gs, 1 ≤ g.length) {t : Tok} {z : Nat} {e : Int} (h : signF l gs = (t, z, e)) (he : e = 0) : 1 ≤ z ∧ z ≤ l.length := by
  induction gs with
  | nil => subst he; simp only [signF] at h; injection h with _ h2; injection h2 with _ h2; cases h2
  | cons g gs ih =>
    simp only [signF] at h
    split at h
    · rename_i hp
      injection h with _ h2; injection h2 with h2 _
      have := hg g (by simp)
      have := prefix_len hp
      omega
    · exact ih (fun g hg' => hg g (by simp [hg'])) h
theorem lToken_size {l : List UInt8} {t : Tok} {z : Nat} {e : Int} (hl : l ≠ []) (h : lToken l = (t, z, e)) (he : e = 0) : 1 ≤ z ∧ z ≤ l.length := by
  cases l with
  | nil => exact absurd rfl hl
  | cons c l =>
    simp only [lToken] at h
    split at h
    · injection h with _ h2; injection h2 with h2 _; simp; omega
    · split at h
      · rename_i hc
        exact lWordTok_size (by simp [wordB, hc]) h he
      · split at h
        · unfold lNumTok at h
          injection h with _ h2; injection h2 with h2 h3
          subst he
          split at h3
          · cases h3
          · have := number_size (l := c :: l) (n := (Lx.number (c :: l)).1) (z := (Lx.number (c :: l)).2.1) (e := (Lx.number (c :: l)).2.2) rfl h3
            omega
        · split at h
          · have hs := span_le addrB l
            unfold lAddrTok at h
            split at h
            · rename_i h3; injection h with _ h2; injection h2 with _ h2; exact absurd (h2.trans he) h3
            · injection h with _ h2; injection h2 with h2 _; simp; omega
          · exact signF_size SG (by decide) h he
end Go.Proofs.YtdabnnganponpaaGreatDoor
