/- Places and texts lead to each other: plain laws. No program in sight. -/
import Derived.Test.YtfllgaoknigbnaaDoorAddrE
namespace Go.Proofs.YtfllgaoknigbnaaDoor.Ad

theorem aSize_0 : aSize 0 = 0 := rfl
theorem aSize_1 : aSize 1 = 128 := rfl
theorem aSize_2 : aSize 2 = 128 := rfl
theorem aSize_3 : aSize 3 = 128 := rfl
theorem aSize_4 : aSize 4 = 64 := rfl
theorem aSize_5 : aSize 5 = 64 := rfl
theorem aSize_6 : aSize 6 = 64 := rfl

theorem text_back1 : ∀ n : Fin 128, aParse (aText 1 ((n : Nat) : Int)) = (1, ((n : Nat) : Int), 0) := by decide +kernel
theorem text_back2 : ∀ n : Fin 128, aParse (aText 2 ((n : Nat) : Int)) = (2, ((n : Nat) : Int), 0) := by decide +kernel
theorem text_back3 : ∀ n : Fin 128, aParse (aText 3 ((n : Nat) : Int)) = (3, ((n : Nat) : Int), 0) := by decide +kernel
theorem text_back4 : ∀ n : Fin 64, aParse (aText 4 ((n : Nat) : Int)) = (4, ((n : Nat) : Int), 0) := by decide +kernel
theorem text_back5 : ∀ n : Fin 64, aParse (aText 5 ((n : Nat) : Int)) = (5, ((n : Nat) : Int), 0) := by decide +kernel
theorem text_back6 : ∀ n : Fin 64, aParse (aText 6 ((n : Nat) : Int)) = (6, ((n : Nat) : Int), 0) := by decide +kernel

theorem text_back {a n : Int} (ha : 1 ≤ a) (ha' : a ≤ 6) (h0 : 0 ≤ n) (h1 : n < aSize a) : aParse (aText a n) = (a, n, 0) := by
  obtain ⟨m, rfl⟩ := Int.eq_ofNat_of_zero_le h0
  have h : a = 1 ∨ a = 2 ∨ a = 3 ∨ a = 4 ∨ a = 5 ∨ a = 6 := by omega
  rcases h with rfl | rfl | rfl | rfl | rfl | rfl
  · exact text_back1 ⟨m, by rw [aSize_1] at h1; omega⟩
  · exact text_back2 ⟨m, by rw [aSize_2] at h1; omega⟩
  · exact text_back3 ⟨m, by rw [aSize_3] at h1; omega⟩
  · exact text_back4 ⟨m, by rw [aSize_4] at h1; omega⟩
  · exact text_back5 ⟨m, by rw [aSize_5] at h1; omega⟩
  · exact text_back6 ⟨m, by rw [aSize_6] at h1; omega⟩

theorem aText_len (a n : Int) : (aText a n).length ≤ 12 := by
  unfold aText
  have l1 := aSign_len a
  have l2 := dd_len (n / 8).toNat
  have l3 := dd_len (n % 8).toNat
  have l4 := dd_len n.toNat
  split
  · simp
  · split <;> simp <;> omega

/-- The function of an area's table. -/
def fnOf (a : Int) : Int := if a = 1 then 2 else if a = 2 ∨ a = 3 then 1 else if a = 4 then 4 else 3
theorem coil_place {a n : Int} (ha : 1 ≤ a) (ha' : a ≤ 6) (h0 : 0 ≤ n) (h1 : n < aSize a) : aPlace (fnOf a) (aCoil a n) = (a, n) := by
  have h : a = 1 ∨ a = 2 ∨ a = 3 ∨ a = 4 ∨ a = 5 ∨ a = 6 := by omega
  rcases h with rfl | rfl | rfl | rfl | rfl | rfl
  all_goals
    simp only [aSize_1, aSize_2, aSize_3, aSize_4, aSize_5, aSize_6] at h1
    unfold aCoil
    rw [if_neg (by simp only [aSize_1, aSize_2, aSize_3, aSize_4, aSize_5, aSize_6]; omega)]
    simp [fnOf, aPlace, aTable, aSize_1, aSize_2, aSize_3, aSize_4, aSize_5, aSize_6, aSize_0]
    repeat' (split <;> try omega)
    all_goals (try simp; try omega)

theorem table_coil {f s n a m : Int} (hf : (f = 2 ∧ s = 3) ∨ (f = 1 ∧ s = 0) ∨ (f = 5 ∧ s = 6) ∨ (f = 4 ∧ s = 0)) (h : aTable f s n = (a, m)) : a = 0 ∧ m = 0 ∨ (1 ≤ a ∧ a ≤ 6 ∧ aCoil a m = n) := by
  unfold aTable at h
  by_cases h0 : n < 0
  · rw [if_pos h0] at h; injection h with h1 h2; subst h1; subst h2; exact .inl ⟨rfl, rfl⟩
  rw [if_neg h0] at h
  by_cases h1 : n < aSize f
  · rw [if_pos h1] at h; injection h with h1 h2; subst h1; subst h2
    refine .inr ⟨by omega, by omega, ?_⟩
    unfold aCoil
    rw [if_neg (by omega), if_neg (by omega)]
  rw [if_neg h1] at h
  by_cases h2 : n - aSize f < aSize s
  · rw [if_pos h2] at h; injection h with h3 h4; subst h3; subst h4
    rcases hf with ⟨rfl, rfl⟩ | ⟨rfl, rfl⟩ | ⟨rfl, rfl⟩ | ⟨rfl, rfl⟩
    all_goals simp only [aSize_1, aSize_2, aSize_3, aSize_4, aSize_5, aSize_6, aSize_0] at h1 h2
    · refine .inr ⟨by omega, by omega, ?_⟩
      unfold aCoil; rw [aSize_2, aSize_3, if_neg (by omega), if_pos (.inl rfl)]; omega
    · omega
    · refine .inr ⟨by omega, by omega, ?_⟩
      unfold aCoil; rw [aSize_5, aSize_6, if_neg (by omega), if_pos (.inr rfl)]; omega
    · omega
  · rw [if_neg h2] at h; injection h with h3 h4; subst h3; subst h4; exact .inl ⟨rfl, rfl⟩
theorem place_coil {fn n a m : Int} (h : aPlace fn n = (a, m)) : a = 0 ∧ m = 0 ∨ (1 ≤ a ∧ a ≤ 6 ∧ aCoil a m = n) := by
  unfold aPlace at h
  split at h
  · exact table_coil (.inl ⟨rfl, rfl⟩) h
  split at h
  · exact table_coil (.inr (.inl ⟨rfl, rfl⟩)) h
  split at h
  · exact table_coil (.inr (.inr (.inl ⟨rfl, rfl⟩))) h
  split at h
  · exact table_coil (.inr (.inr (.inr ⟨rfl, rfl⟩))) h
  · injection h with h3 h4; subst h3; subst h4; exact .inl ⟨rfl, rfl⟩

theorem pl1 {fn n : Int} (h : fn = 1 ∨ fn = 5 ∨ fn = 15) : aPlace fn n = aTable 2 3 n := if_pos h
theorem pl2 {fn n : Int} (h : fn = 2) : aPlace fn n = aTable 1 0 n := by subst h; rfl
theorem pl3 {fn n : Int} (h : fn = 3 ∨ fn = 6 ∨ fn = 16 ∨ fn = 22 ∨ fn = 23) : aPlace fn n = aTable 5 6 n := by
  unfold aPlace; rw [if_neg (show ¬ (fn = 1 ∨ fn = 5 ∨ fn = 15) by omega), if_neg (show ¬ fn = 2 by omega), if_pos h]
theorem pl4 {fn n : Int} (h : fn = 4) : aPlace fn n = aTable 4 0 n := by subst h; rfl
theorem pl5 {fn n : Int} (h : ¬ (fn = 1 ∨ fn = 5 ∨ fn = 15) ∧ fn ≠ 2 ∧ ¬ (fn = 3 ∨ fn = 6 ∨ fn = 16 ∨ fn = 22 ∨ fn = 23) ∧ fn ≠ 4) : aPlace fn n = (0, 0) := by
  unfold aPlace; rw [if_neg h.1, if_neg h.2.1, if_neg h.2.2.1, if_neg h.2.2.2]
theorem tb0 {f s n : Int} (h : n < 0) : aTable f s n = (0, 0) := if_pos h
theorem tb1 {f s n sf : Int} (hf : aSize f = sf) (h : 0 ≤ n) (h1 : n < sf) : aTable f s n = (f, n) := by
  unfold aTable; rw [hf, if_neg (show ¬ n < 0 by omega), if_pos h1]
theorem tb2 {f s n sf ss : Int} (hf : aSize f = sf) (hs : aSize s = ss) (h : 0 ≤ n) (h1 : sf ≤ n) (h2 : n - sf < ss) : aTable f s n = (s, n - sf) := by
  unfold aTable; rw [hf, hs, if_neg (show ¬ n < 0 by omega), if_neg (show ¬ n < sf by omega), if_pos h2]
theorem tb3 {f s n sf ss : Int} (hf : aSize f = sf) (hs : aSize s = ss) (h : 0 ≤ n) (h1 : sf ≤ n) (h2 : ss ≤ n - sf) : aTable f s n = (0, 0) := by
  unfold aTable; rw [hf, hs, if_neg (show ¬ n < 0 by omega), if_neg (show ¬ n < sf by omega), if_neg (show ¬ n - sf < ss by omega)]

/-- The remainder of a number below 0. -/
theorem tmod_neg {k n : Int} (hn : 0 < n) (hk : k < 0) : -n < k.tmod n ∧ k.tmod n ≤ 0 ∧ (k.tmod n < 0 → k.tmod n + n = k % n) ∧ (0 ≤ k.tmod n → k.tmod n = k % n) := by
  have h1 := Int.tmod_eq_emod (a := k) (b := n)
  have h2 := Int.emod_nonneg k (show n ≠ 0 by omega)
  have h3 := Int.emod_lt_of_pos k hn
  by_cases hd : n ∣ k
  · rw [if_pos (.inr hd)] at h1
    have h4 := Int.emod_eq_zero_of_dvd hd
    simp at h1
    refine ⟨by omega, by omega, by omega, by omega⟩
  · rw [if_neg (by rintro (h | h); omega; exact hd h)] at h1
    have h5 : (n.natAbs : Int) = n := by omega
    rw [h5] at h1
    have h6 : k % n ≠ 0 := fun h => hd (Int.dvd_of_emod_eq_zero h)
    refine ⟨by omega, by omega, by omega, by omega⟩
end Go.Proofs.YtfllgaoknigbnaaDoor.Ad
