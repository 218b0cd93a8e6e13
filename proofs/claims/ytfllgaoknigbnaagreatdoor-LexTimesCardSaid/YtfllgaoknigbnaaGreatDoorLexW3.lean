/- The walks through package lex: number. -/
import Derived.Test.YtfllgaoknigbnaaGreatDoorLexW2
namespace Go.Proofs.YtfllgaoknigbnaaGreatDoor
open Go.RowKit Lx

theorem digF_pow (l : List UInt8) (ok : Bool) (i : Nat) (n : Int) (size : Nat) (h : n < 10 ^ size) (hs : size ≤ i) :
    (digF 10 l ok i n size).1 < 10 ^ (digF 10 l ok i n size).2 := by
  induction l generalizing ok i n size with
  | nil => simpa [digF] using h
  | cons c l ih =>
    simp only [digF]
    split
    · exact ih _ _ _ _ h (by omega)
    · split
      · rename_i hv
        simp [valOk] at hv
        refine ih _ _ _ _ ?_ (by omega)
        have h1 : (10 : Int) ^ (size + 1) ≤ 10 ^ (i + 1) := by
          have : (10 : Nat) ^ (size + 1) ≤ 10 ^ (i + 1) := Nat.pow_le_pow_right (by omega) (by omega)
          exact_mod_cast this
        have h2 : (10 : Int) ^ (size + 1) = 10 ^ size * 10 := Int.pow_succ _ _
        omega
      · exact h
theorem digits_small {l : List UInt8} {n : Int} {z : Nat} (h : digits l 10 = (n, z)) (hz : z ≤ 2) : n ≤ 99 := by
  have h1 := digF_pow l false 0 0 0 (by decide) (by omega)
  rw [show digF 10 l false 0 0 0 = (n, z) from h] at h1
  have h2 : (10 : Int) ^ z ≤ 10 ^ 2 := by
    have : (10 : Nat) ^ z ≤ 10 ^ 2 := Nat.pow_le_pow_right (by omega) hz
    exact_mod_cast this
  have h3 : n < 10 ^ z := h1
  have h4 : (10 : Int) ^ 2 = 100 := by decide
  omega

def basesS : List ByteArray := [⟨#[50]⟩, ⟨#[56]⟩, ⟨#[49, 54]⟩]
theorem bases_iff {s : ByteArray} {z : Nat} : Lib.containsS basesS (s.extract 0 z) = true ↔ (s.data.toList.take z = [50] ∨ s.data.toList.take z = [56] ∨ s.data.toList.take z = [49, 54]) := by
  rw [Lib.containsS_iff]
  have h : ∀ l : List UInt8, s.extract 0 z = ⟨l.toArray⟩ ↔ s.data.toList.take z = l := by
    intro l
    constructor
    · intro h
      have := congrArg (fun b : ByteArray => b.data.toList) h
      simpa [ByteArray.data_extract] using this
    · intro h
      apply ByteArray.ext
      rw [← h, ByteArray.data_extract]
      apply Array.toList_inj.1
      simp
  simp only [basesS, List.mem_cons, List.not_mem_nil, or_false]
  rw [← h [50], ← h [56], ← h [49, 54]]

theorem ext_drop (s : ByteArray) (k : Nat) : (s.extract k s.size).data.toList = s.data.toList.drop k := by
  rw [ByteArray.data_extract, Array.toList_extract, List.extract_eq_take_drop]
  exact List.take_of_length_le (by have : s.data.toList.length = s.size := rfl; rw [List.length_drop]; omega)
theorem size_extract_le (s : ByteArray) (a b : Nat) : (s.extract a b).size ≤ s.size := by
  simp [ByteArray.size_extract]; omega

theorem num_end {r : Int × Nat × Int} {a : Int} {n : Nat} {c : Int} {w w' : World} (h : r = (a, n, c)) (hb : Below w.heap.size w w') :
    Ending.returned (.tuple #[.int .i64 a, .int .i64 n, .int .i64 c]) = .returned (.tuple #[.int .i64 r.1, .int .i64 r.2.1, .int .i64 r.2.2]) ∧ Below w.heap.size w w' := by subst h; exact ⟨rfl, hb⟩

theorem contains_bases (x : ByteArray) (W : World) (b : Nat) (h0 : W.cell? ⟨b, 0, none⟩ = some (.string ⟨#[50]⟩)) (h1 : W.cell? ⟨b, 1, none⟩ = some (.string ⟨#[56]⟩)) (h2 : W.cell? ⟨b, 2, none⟩ = some (.string ⟨#[49, 54]⟩)) :
    Calls Tryz.prog 22 #[.slice (some ⟨b, 0, none⟩) 3 3, .string x] W fun e w' => e = .returned (.bool (Lib.containsS basesS x)) ∧ W = w' := by
  refine (Tryz.slices_Contains_string b 0 3 3 basesS x W (by decide) (by omega) ?_).mono fun _ _ ⟨h, k⟩ => ⟨h, k.symm⟩
  intro j hj
  have hj' : j < 3 := hj
  have h : j = 0 ∨ j = 1 ∨ j = 2 := by omega
  rcases h with rfl | rfl | rfl
  · exact h0
  · exact h1
  · exact h2

set_option maxHeartbeats 2000000 in
theorem lnumber_at {s : ByteArray} {r : Int × Nat × Int} (hr : Lx.number s.data.toList = r) (hs : s.size ≤ 140737488351232) (w : World) :
    Calls Tryz.prog 31 #[.string s] w fun e w' => e = .returned (.tuple #[.int .i64 r.1, .int .i64 r.2.1, .int .i64 r.2.2]) ∧ Below w.heap.size w w' := by
  obtain ⟨d, hd⟩ : ∃ d, digits s.data.toList 10 = d := ⟨_, rfl⟩
  have hz : d.2 ≤ s.size := by rw [← hd]; simpa using digits_size s.data.toList 10
  have hn := digits_range s.data.toList 10 (by omega)
  rw [hd] at hn
  obtain ⟨n, z⟩ := d
  simp only [Lx.number, hd] at hr
  replace hz : z ≤ s.size := hz
  obtain ⟨n0, n1⟩ := hn
  replace n0 : 0 ≤ n := n0
  replace n1 : n ≤ 1099511627776 := n1
  have HD := Lib.hid hd
  by_cases h0 : z = 0
  · subst h0
    rw [if_pos rfl] at hr
    have HR := Lib.hid hr
    clear hr hd
    go_enter Tryz.func31, Tryz.ntmps31
    go_wp2_with (go_at_call 51; refine (ldigits_at HD.out hs ⟨by omega, by omega⟩ _).mono ?_; rintro e w1 ⟨rfl, rfl⟩)
    go_ret3
    exact num_end HR.out.symm (Below.refl _ _)
  rw [if_neg h0] at hr
  obtain ⟨c, hc⟩ : ∃ c, Lib.containsS basesS (s.extract 0 z) = c := ⟨_, rfl⟩
  have HC := Lib.hid hc
  have h0' : ¬ ((z : Int) = 0) := by omega
  have z0 : 0 ≤ (z : Int) := by omega
  by_cases hlt : z < s.size
  · by_cases h35 : s[z].toNat = 35
    · cases c with
      | true =>
        have hb := bases_iff.1 hc
        have hz2 : z ≤ 2 := by
          have hl : (s.data.toList.take z).length = z := by rw [List.length_take]; have : s.data.toList.length = s.size := rfl; omega
          rcases hb with h | h | h <;> rw [h] at hl <;> simp at hl <;> omega
        have hn99 := digits_small hd hz2
        have hg : s.data.toList[z]? = some 35 := by
          rw [List.getElem?_eq_getElem (by simpa using hlt)]
          rw [show s.data.toList[z]'(by simpa using hlt) = s[z] by simp [ByteArray.getElem_eq_getElem_data]]
          rw [UInt8.toNat_inj.1 (show s[z].toNat = (35 : UInt8).toNat from h35)]
        rw [if_pos ⟨hg, hb⟩] at hr
        obtain ⟨m, hm⟩ : ∃ m, digits (s.data.toList.drop (z + 1)) n = m := ⟨_, rfl⟩
        have hmz : m.2 ≤ s.size := by rw [← hm]; have := digits_size (s.data.toList.drop (z + 1)) n; simp at this; omega
        rw [hm] at hr
        rw [← ext_drop] at hm
        obtain ⟨m1, m2⟩ := m
        replace hmz : m2 ≤ s.size := hmz
        have HM := Lib.hid hm
        have e35 : ((s[z].toNat : Int) == 35) = true := by simp [h35]
        clear hm hg hb hd hc h35
        by_cases hm0 : m2 = 0
        · rw [if_pos hm0] at hr
          have HR := Lib.hid hr
          clear hr
          subst hm0
          go_enter Tryz.func31, Tryz.ntmps31
          go_wp2_with (fail)
          refine (ldigits_at HD.out hs ⟨by omega, by omega⟩ _).mono ?_
          rintro e w1 ⟨rfl, rfl⟩
          go_wp2_with (go_at_call 22; refine (contains_bases _ _ _ (World.cell?_alloc_at _ _ _ _ rfl) (World.cell?_alloc_at _ _ _ _ rfl) (World.cell?_alloc_at _ _ _ _ rfl)).mono ?_; rintro e w1 ⟨rfl, rfl⟩; rw [HC.out])
          refine (ldigits_at HM.out (Nat.le_trans (size_extract_le _ _ _) hs) ⟨by omega, by omega⟩ _).mono ?_
          rintro e w1 ⟨rfl, rfl⟩
          go_wp2
          go_ret3
          exact num_end HR.out.symm ((Below.refl _ _).alloc (Nat.le_refl _) _)
        · rw [if_neg hm0] at hr
          have HR := Lib.hid hr
          have hm0' : ¬ ((m2 : Int) = 0) := by omega
          clear hr
          go_enter Tryz.func31, Tryz.ntmps31
          go_wp2_with (fail)
          refine (ldigits_at HD.out hs ⟨by omega, by omega⟩ _).mono ?_
          rintro e w1 ⟨rfl, rfl⟩
          go_wp2_with (go_at_call 22; refine (contains_bases _ _ _ (World.cell?_alloc_at _ _ _ _ rfl) (World.cell?_alloc_at _ _ _ _ rfl) (World.cell?_alloc_at _ _ _ _ rfl)).mono ?_; rintro e w1 ⟨rfl, rfl⟩; rw [HC.out])
          refine (ldigits_at HM.out (Nat.le_trans (size_extract_le _ _ _) hs) ⟨by omega, by omega⟩ _).mono ?_
          rintro e w1 ⟨rfl, rfl⟩
          go_wp2
          go_ret3
          exact num_end HR.out.symm ((Below.refl _ _).alloc (Nat.le_refl _) _)
      | false =>
        rw [if_neg (fun h => by rw [bases_iff.2 h.2] at hc; cases hc)] at hr
        have HR := Lib.hid hr
        have e35 : ((s[z].toNat : Int) == 35) = true := by simp [h35]
        clear hr hd hc h35
        go_enter Tryz.func31, Tryz.ntmps31
        go_wp2_with (first
          | (go_at_call 51; refine (ldigits_at HD.out hs ⟨by omega, by omega⟩ _).mono ?_; rintro e w1 ⟨rfl, rfl⟩)
          | (go_at_call 22; refine (contains_bases _ _ _ (World.cell?_alloc_at _ _ _ _ rfl) (World.cell?_alloc_at _ _ _ _ rfl) (World.cell?_alloc_at _ _ _ _ rfl)).mono ?_; rintro e w1 ⟨rfl, rfl⟩; rw [HC.out]))
        go_ret3
        exact num_end HR.out.symm ((Below.refl _ _).alloc (Nat.le_refl _) _)
    · have hg : s.data.toList[z]? ≠ some 35 := by
        rw [List.getElem?_eq_getElem (by simpa using hlt)]
        rw [show s.data.toList[z]'(by simpa using hlt) = s[z] by simp [ByteArray.getElem_eq_getElem_data]]
        intro h; injection h with h; exact h35 (by rw [h]; rfl)
      rw [if_neg (fun h => hg h.1)] at hr
      have HR := Lib.hid hr
      have e35 : ((s[z].toNat : Int) == 35) = false := by simp; omega
      clear hr hd hc h35 hg
      go_enter Tryz.func31, Tryz.ntmps31
      go_wp2_with (go_at_call 51; refine (ldigits_at HD.out hs ⟨by omega, by omega⟩ _).mono ?_; rintro e w1 ⟨rfl, rfl⟩)
      go_ret3
      exact num_end HR.out.symm (Below.refl _ _)
  · have hg : s.data.toList[z]? = none := List.getElem?_eq_none (by have : s.data.toList.length = s.size := rfl; omega)
    rw [if_neg (fun h => by rw [hg] at h; cases h.1)] at hr
    have HR := Lib.hid hr
    clear hr hd hc hg
    go_enter Tryz.func31, Tryz.ntmps31
    go_wp2_with (go_at_call 51; refine (ldigits_at HD.out hs ⟨by omega, by omega⟩ _).mono ?_; rintro e w1 ⟨rfl, rfl⟩)
    go_ret3
    exact num_end HR.out.symm (Below.refl _ _)
end Go.Proofs.YtfllgaoknigbnaaGreatDoor
