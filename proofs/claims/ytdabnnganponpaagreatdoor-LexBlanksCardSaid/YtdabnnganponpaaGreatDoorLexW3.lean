/- The walks through package lex: digits, numbers. -/
import Derived.Test.YtdabnnganponpaaGreatDoorLexW
namespace Go.Proofs.YtdabnnganponpaaGreatDoor
open Go.RowKit Lx

theorem ret_tib {a b : Int} {c d : Bool} (h : a = b) (k : c = d) : Ending.returned (.tuple #[.int .i64 a, .bool c]) = .returned (.tuple #[.int .i64 b, .bool d]) := by rw [h, k]

set_option maxHeartbeats 400000 in
theorem lvalue_any (c : UInt8) (base : Int) (w : World) :
    Calls Tryz.prog 66 #[.int .u8 c.toNat, .int .i64 base] w fun e w' => e = .returned (.tuple #[.int .i64 (valD c), .bool (valOk c base)]) ∧ w = w' := by
  obtain ⟨a, ha⟩ : ∃ a, dig c = a := ⟨_, rfl⟩
  have HA := Lib.hid ha
  have hc := c.toNat_lt
  cases a with
  | true =>
    have h1 : 48 ≤ c.toNat := by simp [dig] at ha; omega
    have h2 : c.toNat ≤ 57 := by simp [dig] at ha; omega
    clear ha
    have hv : valD c = c.toNat - 48 := by simp [valD, HA.out]
    have HV := Lib.hid hv
    clear hv
    have hw : IntKind.u8.wrap ((c.toNat : Int) - 48) = (c.toNat : Int) - 48 := IntWalk.u8_in _ (by omega)
    by_cases hb : (c.toNat : Int) - 48 < base
    all_goals
      have HB := Lib.hid hb
      go_enter Tryz.func66, Tryz.ntmps66
      go_wp2_with (go_at_call 20; refine (ldigit_any _ _).mono ?_; rintro e w1 ⟨rfl, rfl⟩; rw [HA.out])
      go_ret2; exact ⟨ret_tib HV.out.symm (by simp [valOk, HV.out, HB.out]; try omega), rfl⟩
  | false =>
    clear ha
    by_cases h : 65 ≤ c.toNat ∧ c.toNat ≤ 70
    · have hv : valD c = (c.toNat : Int) - 65 + 10 := by simp [valD, HA.out, h]
      have HV := Lib.hid hv
      clear hv
      obtain ⟨h1, h2⟩ := h
      have hw : IntKind.u8.wrap ((c.toNat : Int) - 65) = (c.toNat : Int) - 65 := IntWalk.u8_in _ (by omega)
      by_cases hb : (c.toNat : Int) - 65 + 10 < base
      all_goals
        have HB := Lib.hid hb
        go_enter Tryz.func66, Tryz.ntmps66
        go_wp2_with (go_at_call 20; refine (ldigit_any _ _).mono ?_; rintro e w1 ⟨rfl, rfl⟩; rw [HA.out])
        go_ret2; exact ⟨ret_tib HV.out.symm (by simp [valOk, HV.out, HB.out]; try omega), rfl⟩
    · have hv : valD c = -1 := by simp only [valD, HA.out]; rw [if_neg (by simp), if_neg h]
      have HV := Lib.hid hv
      clear hv
      have h' : c.toNat < 65 ∨ (65 ≤ c.toNat ∧ 70 < c.toNat) := by omega
      clear h
      rcases h' with h' | ⟨h1, h2⟩
      all_goals
        go_enter Tryz.func66, Tryz.ntmps66
        go_wp2_with (go_at_call 20; refine (ldigit_any _ _).mono ?_; rintro e w1 ⟨rfl, rfl⟩; rw [HA.out])
        go_ret2; exact ⟨ret_tib HV.out.symm (by simp [valOk, HV.out]), rfl⟩

theorem lvalue_v (c : UInt8) {v : Int} (hv : v = c.toNat) (base : Int) (w : World) :
    Calls Tryz.prog 66 #[.int .u8 v, .int .i64 base] w fun e w' => e = .returned (.tuple #[.int .i64 (valD c), .bool (valOk c base)]) ∧ w = w' := by subst hv; exact lvalue_any c base w

theorem drop_at {s : ByteArray} {k : Nat} (hk : k < s.size) : s.data.toList.drop k = s[k] :: s.data.toList.drop (k + 1) := by
  rw [List.drop_eq_getElem_cons (by simpa using hk)]
  rw [show s.data.toList[k]'(by simpa using hk) = s[k] by simp [ByteArray.getElem_eq_getElem_data]]

def DigAt (base : Int) (s : ByteArray) (r : Int × Nat) (k : Nat) (acc : Int) (sz : Nat) (ok : Bool) : Prop := digF base (s.data.toList.drop k) ok k acc sz = r

theorem DigAt.und {base : Int} {s : ByteArray} {r : Int × Nat} {k : Nat} {acc : Int} {sz : Nat} (h : DigAt base s r k acc sz true) (hk : k < s.size) (hc : s[k].toNat = 95) :
    DigAt base s r (k + 1) acc sz false := by
  unfold DigAt at h ⊢; rw [drop_at hk, digF, if_pos ⟨hc, rfl⟩] at h; exact h
theorem DigAt.yes {base : Int} {s : ByteArray} {r : Int × Nat} {k : Nat} {acc : Int} {sz : Nat} {ok : Bool} (h : DigAt base s r k acc sz ok) (hk : k < s.size) (hc : ¬ (s[k].toNat = 95 ∧ ok = true)) (hv : valOk s[k] base = true) :
    DigAt base s r (k + 1) (min (acc * base + valD s[k]) 1099511627776) (k + 1) true := by
  unfold DigAt at h ⊢; rw [drop_at hk, digF, if_neg hc, if_pos hv] at h; exact h
theorem DigAt.no {base : Int} {s : ByteArray} {r : Int × Nat} {k : Nat} {acc : Int} {sz : Nat} {ok : Bool} (h : DigAt base s r k acc sz ok) (hk : k < s.size) (hc : ¬ (s[k].toNat = 95 ∧ ok = true)) (hv : valOk s[k] base = false) :
    r = (acc, sz) := by
  unfold DigAt at h; rw [drop_at hk, digF, if_neg hc, if_neg (by simp [hv])] at h; exact h.symm
theorem DigAt.over {base : Int} {s : ByteArray} {r : Int × Nat} {k : Nat} {acc : Int} {sz : Nat} {ok : Bool} (h : DigAt base s r k acc sz ok) (hk : s.size ≤ k) : r = (acc, sz) := by
  unfold DigAt at h; rw [List.drop_of_length_le (by simpa using hk)] at h; exact h.symm
theorem dig_end {r : Int × Nat} {a : Int} {n : Nat} {w : World} (h : r = (a, n)) :
    Ending.returned (.tuple #[.int .i64 a, .int .i64 n]) = .returned (.tuple #[.int .i64 r.1, .int .i64 r.2]) ∧ w = w := by subst h; exact ⟨rfl, rfl⟩

theorem valOk_not95 {c : UInt8} {base : Int} (h : valOk c base = true) : c.toNat ≠ 95 := by
  intro h95
  simp [valOk, valD, dig, h95] at h

set_option maxHeartbeats 2000000 in
theorem ldigits_at {s : ByteArray} {base : Int} {r : Int × Nat} (hr : digits s.data.toList base = r) (hs : s.size ≤ 140737488351232) (hb : 0 ≤ base ∧ base ≤ 1048576) (w : World) :
    Calls Tryz.prog 40 #[.string s, .int .i64 base] w fun e w' => e = .returned (.tuple #[.int .i64 r.1, .int .i64 r.2]) ∧ w = w' := by
  have HR : Hid (DigAt base s r 0 0 0 false) := Lib.hid (by unfold DigAt; simpa [digits] using hr)
  clear hr
  obtain ⟨hb0, hb1⟩ := hb
  go_enter Tryz.func40, Tryz.ntmps40
  go_wp2
  go_loop [6, 7, 8] (fun n size i => ∃ (k sz : Nat) (acc : Int) (ok : Bool), k ≤ s.size ∧ 0 ≤ acc ∧ acc ≤ 1099511627776 ∧ sz ≤ k ∧ n = .int .i64 acc ∧ size = .int .i64 sz ∧ i = .int .i64 k ∧ Hid (DigAt base s r k acc sz ok) ∧ Hid (ok = true ↔ ∃ h : 0 < k ∧ k - 1 < s.size, (s[k - 1]'h.2).toNat ≠ 95)) (fun n size i => s.size - (intOf i).toNat)
  case atStart => exact ⟨0, 0, 0, false, by omega, by omega, by omega, by omega, rfl, rfl, rfl, HR, Lib.hid ⟨fun h => (nomatch h), fun ⟨h, _⟩ => absurd h.1 (by omega)⟩⟩
  case round =>
    obtain ⟨k, sz, acc, ok, hk, a0, a1, hsz, rfl, rfl, rfl, HD, HO⟩ := hrel
    by_cases hlt : k < s.size
    · have k0 : 0 ≤ (k : Int) := by omega
      have k1 : (k : Int) < s.size := by omega
      by_cases hund : s[k].toNat = 95 ∧ ok = true
      · obtain ⟨hu, rfl⟩ := hund
        have HD' := Lib.hid (HD.out.und hlt hu)
        obtain ⟨⟨hk0, hk1⟩, hne⟩ := HO.out.1 rfl
        clear HD HO
        have e95 : ((s[k].toNat : Int) == 95) = true := by simp [hu]
        have HE := Lib.hid hu
        clear hu
        have e1 : ¬ ((s[k - 1].toNat : Int) = 95) := by omega
        have e3 : 0 ≤ (k : Int) - 1 := by omega
        have e4 : ((k : Int) - 1).toNat = k - 1 := by omega
        have ek : IntKind.i64.wrap ((k : Int) - 1) = ((k - 1 : Nat) : Int) := by rw [IntWalk.i64_in _ (by omega)]; omega
        clear hne
        go_wp2
        go_round
        case rel => exact ⟨k + 1, sz, acc, false, by omega, a0, a1, by omega, rfl, rfl, by go_num, HD', Lib.hid ⟨fun h => (nomatch h), fun ⟨h, h2⟩ => absurd HE.out h2⟩⟩
        case measure => simp [intOf]; omega
      · by_cases hu : s[k].toNat = 95
        · have hok : ok = false := by cases ok with
            | true => exact absurd ⟨hu, rfl⟩ hund
            | false => rfl
          subst hok
          have HE := Lib.hid (HD.out.no hlt hund (by cases hv : valOk s[k] base with
            | true => exact absurd hu (valOk_not95 hv)
            | false => rfl))
          have hprev : k = 0 ∨ ∃ h : 0 < k ∧ k - 1 < s.size, (s[k - 1]'h.2).toNat = 95 := by
            by_cases h0 : k = 0
            · exact .inl h0
            · refine .inr ⟨⟨by omega, by omega⟩, ?_⟩
              by_cases h : (s[k - 1]'(by omega)).toNat = 95
              · exact h
              · exact absurd (HO.out.2 ⟨⟨by omega, by omega⟩, h⟩) (by simp)
          have e95 : ((s[k].toNat : Int) == 95) = true := by simp [hu]
          have HV : Hid (valOk s[k] base = false) := Lib.hid (by cases hv : valOk s[k] base with
            | true => exact absurd hu (valOk_not95 hv)
            | false => rfl)
          have HU := Lib.hid hu
          clear HD HO hund hu
          obtain ⟨C, hC⟩ : ∃ c, c = s[k] := ⟨_, rfl⟩
          rcases hprev with rfl | ⟨⟨hk0, hk1⟩, he⟩
          · go_wp2_with (go_at_call 66; refine (lvalue_v s[0] (by simp [HU.out]) _ _).mono ?_; rintro e w1 ⟨rfl, rfl⟩; rw [HV.out])
            go_ret2
            exact dig_end HE.out
          · have e3 : 0 ≤ (k : Int) - 1 := by omega
            have e4 : ((k : Int) - 1).toNat = k - 1 := by omega
            have ek : IntKind.i64.wrap ((k : Int) - 1) = ((k - 1 : Nat) : Int) := by rw [IntWalk.i64_in _ (by omega)]; omega
            have e1 : ((s[k - 1].toNat : Int) = 95) := by omega
            clear he
            go_wp2_with (go_at_call 66; refine (lvalue_v s[k] (by simp [HU.out]) _ _).mono ?_; rintro e w1 ⟨rfl, rfl⟩; rw [HV.out])
            go_ret2
            exact dig_end HE.out
        · have e95 : ((s[k].toNat : Int) == 95) = false := by simp; omega
          obtain ⟨b, hb⟩ : ∃ b, valOk s[k] base = b := ⟨_, rfl⟩
          have HB := Lib.hid hb
          have HU := Lib.hid hu
          cases b with
          | false =>
            have HE := Lib.hid (HD.out.no hlt hund hb)
            clear HD HO hund hu hb
            go_wp2_with (go_at_call 66; refine (lvalue_any _ _ _).mono ?_; rintro e w1 ⟨rfl, rfl⟩; rw [HB.out])
            go_ret2
            exact dig_end HE.out
          | true =>
            have HD' := HD.out.yes hlt hund hb
            have hv15 := valD_lt s[k]
            have hv0 : 0 ≤ valD s[k] := by simp [valOk] at hb; omega
            obtain ⟨v, hv⟩ : ∃ v, valD s[k] = v := ⟨_, rfl⟩
            rw [hv] at HD' hv15 hv0
            have HV := Lib.hid hv
            have HD2 := Lib.hid HD'
            clear HD HO hund hu hb hv HD'
            have hm0 : 0 ≤ acc * base := Int.mul_nonneg a0 hb0
            have hm1 : acc * base ≤ 1099511627776 * 1048576 := Int.mul_le_mul a1 hb1 hb0 (by omega)
            obtain ⟨m, hm⟩ : ∃ m, acc * base = m := ⟨_, rfl⟩
            rw [hm] at hm0 hm1 HD2
            have x1 : IntKind.i64.wrap (acc * base) = m := by rw [hm]; exact IntWalk.i64_in _ (by omega)
            have x2 : IntKind.i64.wrap (m + v) = m + v := IntWalk.i64_in _ (by omega)
            clear hm
            go_wp2_with (go_at_call 66; refine (lvalue_any _ _ _).mono ?_; rintro e w1 ⟨rfl, rfl⟩; rw [HB.out, HV.out])
            go_round
            case rel => exact ⟨k + 1, k + 1, min (m + v) 1099511627776, true, by omega, by omega, by omega, by omega, by go_num, by go_num, by go_num, HD2, Lib.hid ⟨fun _ => ⟨⟨by omega, by omega⟩, HU.out⟩, fun _ => rfl⟩⟩
            case measure => simp [intOf]; omega
    · have HE := Lib.hid (HD.out.over (by omega))
      clear HD HO
      go_wp2
      go_ret2
      exact dig_end HE.out
end Go.Proofs.YtdabnnganponpaaGreatDoor

/- The walks through package lex: number. -/
namespace Go.Proofs.YtdabnnganponpaaGreatDoor
open Go.RowKit Lx

theorem digF_pow (l : List UInt8) (ok : Bool) (i : Nat) (n : Int) (size : Nat) (h : n < 10 ^ size) (hs : size ≤ i) :
    (digF 10 l ok i n size).1 < 10 ^ (digF 10 l ok i n size).2 := by
  induction l generalizing ok i n size with
  | nil => simpa [digF] using h
  | cons c l ih =>
    simp only [digF]
    split
    · exact ih _ _ _ _ h (by omega)
    · split
      · rename_i hv
        simp [valOk] at hv
        refine ih _ _ _ _ ?_ (by omega)
        have h1 : (10 : Int) ^ (size + 1) ≤ 10 ^ (i + 1) := by
          have : (10 : Nat) ^ (size + 1) ≤ 10 ^ (i + 1) := Nat.pow_le_pow_right (by omega) (by omega)
          exact_mod_cast this
        have h2 : (10 : Int) ^ (size + 1) = 10 ^ size * 10 := Int.pow_succ _ _
        omega
      · exact h
theorem digits_small {l : List UInt8} {n : Int} {z : Nat} (h : digits l 10 = (n, z)) (hz : z ≤ 2) : n ≤ 99 := by
  have h1 := digF_pow l false 0 0 0 (by decide) (by omega)
  rw [show digF 10 l false 0 0 0 = (n, z) from h] at h1
  have h2 : (10 : Int) ^ z ≤ 10 ^ 2 := by
    have : (10 : Nat) ^ z ≤ 10 ^ 2 := Nat.pow_le_pow_right (by omega) hz
    exact_mod_cast this
  have h3 : n < 10 ^ z := h1
  have h4 : (10 : Int) ^ 2 = 100 := by decide
  omega

def basesS : List ByteArray := [⟨#[50]⟩, ⟨#[56]⟩, ⟨#[49, 54]⟩]
theorem bases_iff {s : ByteArray} {z : Nat} : Lib.containsS basesS (s.extract 0 z) = true ↔ (s.data.toList.take z = [50] ∨ s.data.toList.take z = [56] ∨ s.data.toList.take z = [49, 54]) := by
  rw [Lib.containsS_iff]
  have h : ∀ l : List UInt8, s.extract 0 z = ⟨l.toArray⟩ ↔ s.data.toList.take z = l := by
    intro l
    constructor
    · intro h
      have := congrArg (fun b : ByteArray => b.data.toList) h
      simpa [ByteArray.data_extract] using this
    · intro h
      apply ByteArray.ext
      rw [← h, ByteArray.data_extract]
      apply Array.toList_inj.1
      simp
  simp only [basesS, List.mem_cons, List.not_mem_nil, or_false]
  rw [← h [50], ← h [56], ← h [49, 54]]

theorem ext_drop (s : ByteArray) (k : Nat) : (s.extract k s.size).data.toList = s.data.toList.drop k := by
  rw [ByteArray.data_extract, Array.toList_extract, List.extract_eq_take_drop]
  exact List.take_of_length_le (by have : s.data.toList.length = s.size := rfl; rw [List.length_drop]; omega)
theorem size_extract_le (s : ByteArray) (a b : Nat) : (s.extract a b).size ≤ s.size := by
  simp [ByteArray.size_extract]; omega

theorem num_end {r : Int × Nat × Int} {a : Int} {n : Nat} {c : Int} {w w' : World} (h : r = (a, n, c)) (hb : Below w.heap.size w w') :
    Ending.returned (.tuple #[.int .i64 a, .int .i64 n, .int .i64 c]) = .returned (.tuple #[.int .i64 r.1, .int .i64 r.2.1, .int .i64 r.2.2]) ∧ Below w.heap.size w w' := by subst h; exact ⟨rfl, hb⟩

theorem contains_bases (x : ByteArray) (W : World) (b : Nat) (h0 : W.cell? ⟨b, 0, none⟩ = some (.string ⟨#[50]⟩)) (h1 : W.cell? ⟨b, 1, none⟩ = some (.string ⟨#[56]⟩)) (h2 : W.cell? ⟨b, 2, none⟩ = some (.string ⟨#[49, 54]⟩)) :
    Calls Tryz.prog 14 #[.slice (some ⟨b, 0, none⟩) 3 3, .string x] W fun e w' => e = .returned (.bool (Lib.containsS basesS x)) ∧ W = w' := by
  refine (Tryz.slices_Contains_string b 0 3 3 basesS x W (by decide) (by omega) ?_).mono fun _ _ ⟨h, k⟩ => ⟨h, k.symm⟩
  intro j hj
  have hj' : j < 3 := hj
  have h : j = 0 ∨ j = 1 ∨ j = 2 := by omega
  rcases h with rfl | rfl | rfl
  · exact h0
  · exact h1
  · exact h2

set_option maxHeartbeats 2000000 in
theorem lnumber_at {s : ByteArray} {r : Int × Nat × Int} (hr : Lx.number s.data.toList = r) (hs : s.size ≤ 140737488351232) (w : World) :
    Calls Tryz.prog 21 #[.string s] w fun e w' => e = .returned (.tuple #[.int .i64 r.1, .int .i64 r.2.1, .int .i64 r.2.2]) ∧ Below w.heap.size w w' := by
  obtain ⟨d, hd⟩ : ∃ d, digits s.data.toList 10 = d := ⟨_, rfl⟩
  have hz : d.2 ≤ s.size := by rw [← hd]; simpa using digits_size s.data.toList 10
  have hn := digits_range s.data.toList 10 (by omega)
  rw [hd] at hn
  obtain ⟨n, z⟩ := d
  simp only [Lx.number, hd] at hr
  replace hz : z ≤ s.size := hz
  obtain ⟨n0, n1⟩ := hn
  replace n0 : 0 ≤ n := n0
  replace n1 : n ≤ 1099511627776 := n1
  have HD := Lib.hid hd
  by_cases h0 : z = 0
  · subst h0
    rw [if_pos rfl] at hr
    have HR := Lib.hid hr
    clear hr hd
    go_enter Tryz.func21, Tryz.ntmps21
    go_wp2_with (go_at_call 40; refine (ldigits_at HD.out hs ⟨by omega, by omega⟩ _).mono ?_; rintro e w1 ⟨rfl, rfl⟩)
    go_ret3
    exact num_end HR.out.symm (Below.refl _ _)
  rw [if_neg h0] at hr
  obtain ⟨c, hc⟩ : ∃ c, Lib.containsS basesS (s.extract 0 z) = c := ⟨_, rfl⟩
  have HC := Lib.hid hc
  have h0' : ¬ ((z : Int) = 0) := by omega
  have z0 : 0 ≤ (z : Int) := by omega
  by_cases hlt : z < s.size
  · by_cases h35 : s[z].toNat = 35
    · cases c with
      | true =>
        have hb := bases_iff.1 hc
        have hz2 : z ≤ 2 := by
          have hl : (s.data.toList.take z).length = z := by rw [List.length_take]; have : s.data.toList.length = s.size := rfl; omega
          rcases hb with h | h | h <;> rw [h] at hl <;> simp at hl <;> omega
        have hn99 := digits_small hd hz2
        have hg : s.data.toList[z]? = some 35 := by
          rw [List.getElem?_eq_getElem (by simpa using hlt)]
          rw [show s.data.toList[z]'(by simpa using hlt) = s[z] by simp [ByteArray.getElem_eq_getElem_data]]
          rw [UInt8.toNat_inj.1 (show s[z].toNat = (35 : UInt8).toNat from h35)]
        rw [if_pos ⟨hg, hb⟩] at hr
        obtain ⟨m, hm⟩ : ∃ m, digits (s.data.toList.drop (z + 1)) n = m := ⟨_, rfl⟩
        have hmz : m.2 ≤ s.size := by rw [← hm]; have := digits_size (s.data.toList.drop (z + 1)) n; simp at this; omega
        rw [hm] at hr
        rw [← ext_drop] at hm
        obtain ⟨m1, m2⟩ := m
        replace hmz : m2 ≤ s.size := hmz
        have HM := Lib.hid hm
        have e35 : ((s[z].toNat : Int) == 35) = true := by simp [h35]
        clear hm hg hb hd hc h35
        by_cases hm0 : m2 = 0
        · rw [if_pos hm0] at hr
          have HR := Lib.hid hr
          clear hr
          subst hm0
          go_enter Tryz.func21, Tryz.ntmps21
          go_wp2_with (fail)
          refine (ldigits_at HD.out hs ⟨by omega, by omega⟩ _).mono ?_
          rintro e w1 ⟨rfl, rfl⟩
          go_wp2_with (go_at_call 14; refine (contains_bases _ _ _ (World.cell?_alloc_at _ _ _ _ rfl) (World.cell?_alloc_at _ _ _ _ rfl) (World.cell?_alloc_at _ _ _ _ rfl)).mono ?_; rintro e w1 ⟨rfl, rfl⟩; rw [HC.out])
          refine (ldigits_at HM.out (Nat.le_trans (size_extract_le _ _ _) hs) ⟨by omega, by omega⟩ _).mono ?_
          rintro e w1 ⟨rfl, rfl⟩
          go_wp2
          go_ret3
          exact num_end HR.out.symm ((Below.refl _ _).alloc (Nat.le_refl _) _)
        · rw [if_neg hm0] at hr
          have HR := Lib.hid hr
          have hm0' : ¬ ((m2 : Int) = 0) := by omega
          clear hr
          go_enter Tryz.func21, Tryz.ntmps21
          go_wp2_with (fail)
          refine (ldigits_at HD.out hs ⟨by omega, by omega⟩ _).mono ?_
          rintro e w1 ⟨rfl, rfl⟩
          go_wp2_with (go_at_call 14; refine (contains_bases _ _ _ (World.cell?_alloc_at _ _ _ _ rfl) (World.cell?_alloc_at _ _ _ _ rfl) (World.cell?_alloc_at _ _ _ _ rfl)).mono ?_; rintro e w1 ⟨rfl, rfl⟩; rw [HC.out])
          refine (ldigits_at HM.out (Nat.le_trans (size_extract_le _ _ _) hs) ⟨by omega, by omega⟩ _).mono ?_
          rintro e w1 ⟨rfl, rfl⟩
          go_wp2
          go_ret3
          exact num_end HR.out.symm ((Below.refl _ _).alloc (Nat.le_refl _) _)
      | false =>
        rw [if_neg (fun h => by rw [bases_iff.2 h.2] at hc; cases hc)] at hr
        have HR := Lib.hid hr
        have e35 : ((s[z].toNat : Int) == 35) = true := by simp [h35]
        clear hr hd hc h35
        go_enter Tryz.func21, Tryz.ntmps21
        go_wp2_with (first
          | (go_at_call 40; refine (ldigits_at HD.out hs ⟨by omega, by omega⟩ _).mono ?_; rintro e w1 ⟨rfl, rfl⟩)
          | (go_at_call 14; refine (contains_bases _ _ _ (World.cell?_alloc_at _ _ _ _ rfl) (World.cell?_alloc_at _ _ _ _ rfl) (World.cell?_alloc_at _ _ _ _ rfl)).mono ?_; rintro e w1 ⟨rfl, rfl⟩; rw [HC.out]))
        go_ret3
        exact num_end HR.out.symm ((Below.refl _ _).alloc (Nat.le_refl _) _)
    · have hg : s.data.toList[z]? ≠ some 35 := by
        rw [List.getElem?_eq_getElem (by simpa using hlt)]
        rw [show s.data.toList[z]'(by simpa using hlt) = s[z] by simp [ByteArray.getElem_eq_getElem_data]]
        intro h; injection h with h; exact h35 (by rw [h]; rfl)
      rw [if_neg (fun h => hg h.1)] at hr
      have HR := Lib.hid hr
      have e35 : ((s[z].toNat : Int) == 35) = false := by simp; omega
      clear hr hd hc h35 hg
      go_enter Tryz.func21, Tryz.ntmps21
      go_wp2_with (go_at_call 40; refine (ldigits_at HD.out hs ⟨by omega, by omega⟩ _).mono ?_; rintro e w1 ⟨rfl, rfl⟩)
      go_ret3
      exact num_end HR.out.symm (Below.refl _ _)
  · have hg : s.data.toList[z]? = none := List.getElem?_eq_none (by have : s.data.toList.length = s.size := rfl; omega)
    rw [if_neg (fun h => by rw [hg] at h; cases h.1)] at hr
    have HR := Lib.hid hr
    clear hr hd hc hg
    go_enter Tryz.func21, Tryz.ntmps21
    go_wp2_with (go_at_call 40; refine (ldigits_at HD.out hs ⟨by omega, by omega⟩ _).mono ?_; rintro e w1 ⟨rfl, rfl⟩)
    go_ret3
    exact num_end HR.out.symm (Below.refl _ _)
end Go.Proofs.YtdabnnganponpaaGreatDoor
