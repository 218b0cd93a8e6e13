/- The walks through package rungref10. -/
import Derived.Test.YtdabnnganponpaaGreatDoorAddrW
import Derived.Test.YtdabnnganponpaaGreatDoorRef10P
namespace Go.Proofs.YtdabnnganponpaaGreatDoor
open Go.RowKit Ad

set_option maxHeartbeats 400000 in
theorem rsize_any (a : Int) (w : World) :
    Calls Tryz.prog 78 #[.int .i64 a] w fun e w' => e = .returned (.int .i64 (aSize a)) ∧ w = w' := by
  go_enter Tryz.func78, Tryz.ntmps78
  go_wp2
  all_goals (go_ret; exact ⟨ret_i64 (by simp_all [aSize]), rfl⟩)

set_option maxHeartbeats 400000 in
theorem rbit_any (a : Int) (w : World) :
    Calls Tryz.prog 76 #[.int .i64 a] w fun e w' => e = .returned (.bool (aBit a)) ∧ w = w' := by
  by_cases h1 : a = 1
  · subst h1
    go_enter Tryz.func76, Tryz.ntmps76
    go_wp2
    go_ret; exact ⟨ret_bool (by decide), rfl⟩
  by_cases h2 : a = 2
  · subst h2
    go_enter Tryz.func76, Tryz.ntmps76
    go_wp2
    go_ret; exact ⟨ret_bool (by decide), rfl⟩
  have e1 : (a == 1) = false := by simpa using h1
  have e2 : (a == 2) = false := by simpa using h2
  go_enter Tryz.func76, Tryz.ntmps76
  go_wp2
  go_ret; exact ⟨ret_bool (Bool.eq_iff_iff.2 (by simp [aBit, h1, h2])), rfl⟩

set_option maxHeartbeats 1000000 in
theorem rnum_at {s : ByteArray} {r : Int} (hr : rNum s.data.toList = r) (hs : s.size ≤ 140737488351232) (w : World) :
    Calls Tryz.prog 77 #[.string s] w fun e w' => e = .returned (.int .i64 r) ∧ w = w' := by
  have HR := Lib.hid hr
  clear hr
  have hl : s.data.toList.length = s.size := rfl
  have HL := Lib.hid hl
  clear hl
  by_cases h1 : s.size < 1
  · go_enter Tryz.func77, Tryz.ntmps77
    go_wp2
    go_ret; exact ⟨ret_i64 (by rw [← HR.out, rNum, if_pos (.inl (by have := HL.out; omega))]), rfl⟩
  by_cases h3 : 3 < s.size
  · go_enter Tryz.func77, Tryz.ntmps77
    go_wp2
    go_ret; exact ⟨ret_i64 (by rw [← HR.out, rNum, if_pos (.inr (.inl (by have := HL.out; omega)))]), rfl⟩
  have hp : 0 < s.size := by omega
  have h3' : s.size ≤ 3 := by omega
  have hc : ((s[0].toNat : Int) == 48) = false ∨ ((s[0].toNat : Int) == 48) = true ∧ s.size = 1 ∨ ((s[0].toNat : Int) == 48) = true ∧ 1 < s.size := by
    by_cases h : (s[0].toNat : Int) = 48
    · rw [beq_iff_eq.2 h]; simp; omega
    · rw [beq_eq_false_iff_ne.2 h]; simp
  have hmain : ¬ (((s[0].toNat : Int) == 48) = true ∧ 1 < s.size) → rDigits (s.data.toList.drop 0) 0 = r := by
    intro h
    have h' : ¬ (s.data.toList.length < 1 ∨ s.data.toList.length > 3 ∨ (s.data.toList.head? = some 48 ∧ s.data.toList.length > 1)) := by
      rw [HL.out, head_at hp]
      rintro (h | h | ⟨h4, h5⟩)
      · omega
      · omega
      · injection h4 with h4
        exact h ⟨by rw [h4]; rfl, h5⟩
    rw [← HR.out, rNum, if_neg h']; rfl
  have HM := Lib.hid hmain
  clear hmain
  rcases hc with hc | ⟨hc, h5⟩ | ⟨hc, h5⟩
  rotate_right
  · have HC := Lib.hid hc
    go_enter Tryz.func77, Tryz.ntmps77
    go_wp2
    go_ret
    have hx : s.data.toList.head? = some 48 := by
      rw [head_at hp]
      have h6 : (s[0].toNat : Int) = 48 := by simpa using HC.out
      have h7 : s[0].toNat = (48 : UInt8).toNat := by
        have : (48 : UInt8).toNat = 48 := rfl
        omega
      rw [UInt8.toNat_inj.1 h7]
    exact ⟨ret_i64 (by rw [← HR.out, rNum, if_pos (.inr (.inr ⟨hx, by have := HL.out; omega⟩))]), rfl⟩
  all_goals
    have HM' : rDigits (s.data.toList.drop 0) 0 = r := HM.out (by rw [hc]; simp; try omega)
    have HQ := Lib.hid HM'
    clear HM' HM
    go_enter Tryz.func77, Tryz.ntmps77
    go_wp2
    clear hc
    go_loop [3, 4] (fun n i => ∃ (k : Nat) (acc : Int), k ≤ s.size ∧ 0 ≤ acc ∧ acc < 1000 ∧ (k = 0 → acc = 0) ∧ (k = 1 → acc < 10) ∧ (k = 2 → acc < 100) ∧ i = .int .i64 k ∧ n = .int .i64 acc ∧ Hid (rDigits (s.data.toList.drop k) acc = r)) (fun _ i => s.size - (intOf i).toNat)
    case atStart => exact ⟨0, 0, by omega, by omega, by omega, by omega, by omega, by omega, rfl, rfl, HQ⟩
    case round =>
      obtain ⟨k, acc, hk, a0, a1, k0, k1, k2, rfl, rfl, HD⟩ := hrel
      have hacc : k = 3 ∨ acc < 100 := by omega
      by_cases hlt : k < s.size
      · by_cases hd : 48 ≤ s[k].toNat ∧ s[k].toNat ≤ 57
        · have HE := Lib.hid ((rDigits_yes hlt hd.1 hd.2).symm.trans HD.out)
          obtain ⟨d1, d2⟩ := hd
          clear HD
          go_wp2
          go_round
          case rel => exact ⟨k + 1, 10 * acc + (s[k].toNat - 48), by omega, by omega, by omega, by omega, by omega, by omega, by go_num, by go_num, HE⟩
          case measure => simp [intOf]; omega
        · have HE := Lib.hid ((rDigits_no (acc := acc) hlt hd).symm.trans HD.out)
          have hd' : (s[k].toNat : Int) < 48 ∨ (48 ≤ (s[k].toNat : Int) ∧ 57 < (s[k].toNat : Int)) := by omega
          clear HD hd
          rcases hd' with hd' | ⟨hd', hd2⟩
          all_goals
            go_wp2
            go_ret
            exact ⟨ret_i64 HE.out, rfl⟩
      · go_wp2
        go_ret
        exact ⟨ret_i64 (by rw [← HD.out, rDigits_end (by omega)]), rfl⟩

end Go.Proofs.YtdabnnganponpaaGreatDoor

/- The walk through package rungref10's Parse. -/
namespace Go.Proofs.YtdabnnganponpaaGreatDoor
open Go.RowKit Ad

theorem heads_cell (k : Nat) (hk : k < 6) (w : World) :
    (w.alloc (.cells #[.string ⟨#[37, 73, 88]⟩, .string ⟨#[37, 81, 88]⟩, .string ⟨#[37, 77, 88]⟩, .string ⟨#[37, 73, 87]⟩, .string ⟨#[37, 81, 87]⟩, .string ⟨#[37, 77, 87]⟩] 9)).cell? ⟨w.heap.size, k, none⟩ = some (.string ⟨(aSign (1 + (k : Int))).toArray⟩) := by
  have h : k = 0 ∨ k = 1 ∨ k = 2 ∨ k = 3 ∨ k = 4 ∨ k = 5 := by omega
  rcases h with rfl | rfl | rfl | rfl | rfl | rfl <;> exact (World.cell?_alloc_at _ _ _ _ rfl)

theorem rparse_end {r : Int × Int × Int} {a n z : Int} {w w' : World} (h : (a, n, z) = r) (hb : Below w.heap.size w w') :
    Ending.returned (.tuple #[.int .i64 a, .int .i64 n, .int .i64 z]) = .returned (.tuple #[.int .i64 r.1, .int .i64 r.2.1, .int .i64 r.2.2]) ∧ Below w.heap.size w w' := by
  subst h; exact ⟨rfl, hb⟩

set_option maxRecDepth 100000 in
set_option maxHeartbeats 2000000 in
theorem rparse_at {s : ByteArray} {r : Int × Int × Int} (hr : rParse s.data.toList = r) (hs : s.size ≤ 140737488351232) (w : World) :
    Calls Tryz.prog 53 #[.string s] w fun e w' => e = .returned (.tuple #[.int .i64 r.1, .int .i64 r.2.1, .int .i64 r.2.2]) ∧ Below w.heap.size w w' := by
  have HR := Lib.hid hr
  clear hr
  have hl : s.data.toList.length = s.size := rfl
  have HL := Lib.hid hl
  clear hl
  go_enter Tryz.func53, Tryz.ntmps53
  go_wp2
  have hcell := fun k hk => heads_cell k hk w
  have HC := Lib.hid hcell
  clear hcell
  obtain ⟨W0, hW0⟩ : ∃ W0, W0 = w.alloc (.cells #[.string ⟨#[37, 73, 88]⟩, .string ⟨#[37, 81, 88]⟩, .string ⟨#[37, 77, 88]⟩, .string ⟨#[37, 73, 87]⟩, .string ⟨#[37, 81, 87]⟩, .string ⟨#[37, 77, 87]⟩] 9) := ⟨_, rfl⟩
  have hb0 : Below w.heap.size w W0 := by rw [hW0]; exact (Below.refl _ _).alloc (Nat.le_refl _) _
  rw [← hW0] at HC ⊢
  clear hW0
  go_loopw [6] (fun i wr => ∃ k : Nat, k ≤ 6 ∧ i = .int .i64 k ∧ Hid (rFrom s.data.toList (6 - k) k = r) ∧ ∃ n, wr = W0.drewN n) (fun i _ => 6 - (intOf i).toNat)
  case atStart => exact ⟨0, by omega, rfl, HR, 0, rfl⟩
  case round =>
    obtain ⟨k, hk, rfl, HD, n, rfl⟩ := hrel
    by_cases hlt : k < 6
    · have hc := HC.out k hlt
      have k0 : 0 ≤ (k : Int) := by omega
      have k6 : (k : Int) < 6 := by omega
      by_cases h4 : s.size < 4
      · have e4 : decide ((s.size : Int) < 4) = true := by simp; omega
        go_wp2
        go_quiet (fail)
        go_wp2
        go_roundw
        case rel => exact ⟨k + 1, by omega, by go_num, Lib.hid ((rFrom_miss hlt (.inl (by have := HL.out; omega))).symm.trans HD.out), _, rfl⟩
        case measure => simp [intOf]; omega
      · have e4 : decide ((s.size : Int) < 4) = false := by simp; omega
        go_wp2
        have h3 : (s.extract 0 3).toList = s.data.toList.take 3 := by rw [ByteArray.toList_eq]; simp [ByteArray.data_extract]
        have H3 := Lib.hid h3
        clear h3
        cases hp : ((s.extract 0 3).toList == aSign (1 + (k : Int))) with
        | false =>
          go_quiet (fail)
          go_wp2
          go_roundw
          case rel =>
            have hne : s.data.toList.take 3 ≠ aSign (1 + (k : Int)) := by rw [← H3.out]; exact ne_of_beq_false hp
            exact ⟨k + 1, by omega, by go_num, Lib.hid ((rFrom_miss hlt (.inr hne)).symm.trans HD.out), _, rfl⟩
          case measure => simp [intOf]; omega
        | true =>
          have hsz : 3 ≤ s.size := by omega
          go_quiet (fail)
          go_wp2
          go_quiet (fail)
          have hpe : s.data.toList.take 3 = aSign (1 + (k : Int)) := by rw [← H3.out]; exact eq_of_beq hp
          have HP := Lib.hid hpe
          clear hpe hp H3 hc e4
          have ha : (k : Int) + 1 = 1 + (k : Int) := by omega
          have HA := Lib.hid ha
          clear ha
          obtain ⟨sz, hz⟩ : ∃ sz, aSize (1 + (k : Int)) = sz := ⟨_, rfl⟩
          have HZ := Lib.hid hz
          clear hz
          have hR0 : (s.extract 3 s.size).data.toList = s.data.toList.drop 3 := by simp [ByteArray.data_extract]; rw [List.take_of_length_le (by simp)]
          have hR1 : (s.extract 3 s.size).size ≤ 140737488351232 := by simp; omega
          generalize hR : s.extract 3 s.size = R at hR0 hR1 ⊢
          have HR0 := Lib.hid hR0
          clear hR hR0
          obtain ⟨v, hv⟩ : ∃ v, rNo (1 + (k : Int)) R.data.toList = v := ⟨_, rfl⟩
          have HV : Hid (rNo (1 + (k : Int)) (s.data.toList.drop 3) = v) := by rw [← HR0.out]; exact hv
          cases hb : aBit (1 + (k : Int)) with
          | false =>
            have hv' : rNum R.data.toList = v := by rw [← hv, rNo, hb]; rfl
            have HV' := Lib.hid hv'
            clear hv hv'
            by_cases h0 : 0 ≤ v
            · go_wp2_with (first
                | (go_at_call 76; refine (rbit_any _ _).mono ?_; rintro e w1 ⟨rfl, rfl⟩; rw [HA.out, hb])
                | (go_at_call 77; refine (rnum_at HV'.out hR1 _).mono ?_; rintro e w1 ⟨rfl, rfl⟩)
                | (go_at_call 78; refine (rsize_any _ _).mono ?_; rintro e w1 ⟨rfl, rfl⟩; rw [HZ.out]))
              · have h1 : v < sz := by assumption
                go_ret3
                exact rparse_end ((rFrom_yes hlt (by have := HL.out; omega) HP.out HV.out HZ.out h0 h1).symm.trans HD.out) (hb0.drewN _)
              · have h1 : sz ≤ v := by assumption
                go_roundw
                case rel => exact ⟨k + 1, by omega, by go_num, Lib.hid ((rFrom_no hlt (by have := HL.out; omega) HP.out HV.out HZ.out (.inr h1)).symm.trans HD.out), _, rfl⟩
                case measure => simp [intOf]; omega
            · go_wp2_with (first
                | (go_at_call 76; refine (rbit_any _ _).mono ?_; rintro e w1 ⟨rfl, rfl⟩; rw [HA.out, hb])
                | (go_at_call 77; refine (rnum_at HV'.out hR1 _).mono ?_; rintro e w1 ⟨rfl, rfl⟩))
              go_roundw
              case rel => exact ⟨k + 1, by omega, by go_num, Lib.hid ((rFrom_no hlt (by have := HL.out; omega) HP.out HV.out HZ.out (.inl (by omega))).symm.trans HD.out), _, rfl⟩
              case measure => simp [intOf]; omega
          | true =>
            have hv' : rBitNo R.data.toList = v := by rw [← hv, rNo, hb]; rfl
            have HV' := Lib.hid hv'
            clear hv hv'
            go_wp2_with (first
              | (go_at_call 76; refine (rbit_any _ _).mono ?_; rintro e w1 ⟨rfl, rfl⟩; rw [HA.out, hb]))
            go_loop [10] (fun i => ∃ j : Nat, j ≤ R.size ∧ i = .int .i64 j ∧ Hid (j ≤ tw R.data.toList)) (fun i => R.size - (intOf i).toNat)
            case atStart => exact ⟨0, by omega, rfl, Lib.hid (Nat.zero_le _)⟩
            case round =>
              obtain ⟨j, hj, rfl, HT⟩ := hrel
              by_cases hjl : j < R.size
              · cases hdot : ((R[j].toNat : Int) == 46) with
                | false =>
                  have hn := tw_step HT.out (c := R[j]) (by simp [hjl]; rfl) (by intro h; rw [h] at hdot; simp at hdot)
                  go_wp2
                  go_round
                  case rel => exact ⟨j + 1, by omega, by go_num, Lib.hid hn⟩
                  case measure => simp [intOf]; omega
                | true =>
                  have hje := tw_end HT.out (.inr (by simp [hjl]; exact UInt8.toNat_inj.1 (by simp at hdot; exact Int.ofNat.inj hdot)))
                  have HJE := Lib.hid hje
                  clear HT hje
                  by_cases h2 : R.size = j + 2
                  rotate_left
                  · have e2 : ((R.size : Int) == (j : Int) + 2) = false := beq_eq_false_iff_ne.2 (by omega)
                    have hbad := rBitNo_bad (l := R.data.toList) HJE.out (by rintro ⟨_, h, _⟩; exact h2 (by simpa using h))
                    have h0 : v < 0 := by rw [← HV'.out, hbad]; omega
                    have HN := Lib.hid ((rFrom_no hlt (by have := HL.out; omega) HP.out HV.out HZ.out (.inl h0)).symm.trans HD.out)
                    clear hbad h0
                    go_wp2_with fail
                    go_roundw
                    case rel => exact ⟨k + 1, by omega, by go_num, HN, _, rfl⟩
                    case measure => simp [intOf]; omega
                  have e2 : ((R.size : Int) == (j : Int) + 2) = true := beq_iff_eq.2 (by omega)
                  have hj1 : j + 1 < R.size := by omega
                  have hg : (R.data.toList.getD (j + 1) 0) = R[j + 1] := by rw [List.getD_eq_getElem?_getD, List.getElem?_eq_getElem (by simpa using hj1)]; rfl
                  have HG := Lib.hid hg
                  have H2 := Lib.hid h2
                  clear hg h2
                  by_cases h3 : 48 ≤ (R[j + 1].toNat : Int)
                  rotate_left
                  · have hbad := rBitNo_bad (l := R.data.toList) HJE.out (by rintro ⟨_, _, h, _⟩; rw [HG.out] at h; omega)
                    have h0 : v < 0 := by rw [← HV'.out, hbad]; omega
                    have HN := Lib.hid ((rFrom_no hlt (by have := HL.out; omega) HP.out HV.out HZ.out (.inl h0)).symm.trans HD.out)
                    clear hbad h0
                    go_wp2_with fail
                    go_roundw
                    case rel => exact ⟨k + 1, by omega, by go_num, HN, _, rfl⟩
                    case measure => simp [intOf]; omega
                  by_cases h4 : (R[j + 1].toNat : Int) ≤ 55
                  rotate_left
                  · have hbad := rBitNo_bad (l := R.data.toList) HJE.out (by rintro ⟨_, _, _, h, _⟩; rw [HG.out] at h; omega)
                    have h0 : v < 0 := by rw [← HV'.out, hbad]; omega
                    have HN := Lib.hid ((rFrom_no hlt (by have := HL.out; omega) HP.out HV.out HZ.out (.inl h0)).symm.trans HD.out)
                    clear hbad h0
                    go_wp2_with fail
                    go_roundw
                    case rel => exact ⟨k + 1, by omega, by go_num, HN, _, rfl⟩
                    case measure => simp [intOf]; omega
                  obtain ⟨m, hm⟩ : ∃ m, rNum (R.extract 0 j).data.toList = m := ⟨_, rfl⟩
                  have hm2 : rNum (R.data.toList.take j) = m := by rw [← hm]; simp [ByteArray.data_extract]
                  have HM := Lib.hid hm
                  have HM2 := Lib.hid hm2
                  clear hm hm2
                  have hR2 : (R.extract 0 j).size ≤ 140737488351232 := by simp; omega
                  by_cases h5 : 0 ≤ m
                  rotate_left
                  · have hbad := rBitNo_bad (l := R.data.toList) HJE.out (by rintro ⟨_, _, _, _, h⟩; rw [HM2.out] at h; omega)
                    have h0 : v < 0 := by rw [← HV'.out, hbad]; omega
                    have HN := Lib.hid ((rFrom_no hlt (by have := HL.out; omega) HP.out HV.out HZ.out (.inl h0)).symm.trans HD.out)
                    clear hbad h0
                    go_wp2_with (go_at_call 77; refine (rnum_at HM.out hR2 _).mono ?_; rintro e w1 ⟨rfl, rfl⟩)
                    go_roundw
                    case rel => exact ⟨k + 1, by omega, by go_num, HN, _, rfl⟩
                    case measure => simp [intOf]; omega
                  have hgood := rBitNo_good (l := R.data.toList) HJE.out ⟨by simpa using hjl, by have := H2.out; simpa using this, by rw [HG.out]; omega, by rw [HG.out]; omega, by rw [HM2.out]; exact h5⟩
                  rw [HV'.out, HM2.out, HG.out] at hgood
                  have HGOOD := Lib.hid hgood
                  clear hgood
                  go_wp2_with (go_at_call 77; refine (rnum_at HM.out hR2 _).mono ?_; rintro e w1 ⟨rfl, rfl⟩)
                  have w1 : IntKind.i64.wrap ((j : Int) + 1) = (j : Int) + 1 := IntWalk.i64_in _ (by omega)
                  have w2 : 0 ≤ (j : Int) + 1 := by omega
                  have w3 : ((j : Int) + 1).toNat = j + 1 := by omega
                  have w4 : 0 ≤ (j : Int) := by omega
                  have w5 : (j : Int) ≤ (R.size : Int) := by omega
                  have w6 : (j : Int) + 1 < (R.size : Int) := by omega
                  have m3 : m < 1000 := by rw [← HM.out]; exact rNum_lt _
                  have w7 : IntKind.i64.wrap (8 * m) = 8 * m := IntWalk.i64_in _ (by omega)
                  have w8 : IntKind.u8.wrap ((R[j + 1].toNat : Int) - 48) = (R[j + 1].toNat : Int) - 48 := IntWalk.u8_in _ (by omega)
                  have w9 : IntKind.i64.wrap (8 * m + ((R[j + 1].toNat : Int) - 48)) = 8 * m + ((R[j + 1].toNat : Int) - 48) := IntWalk.i64_in _ (by omega)
                  have w10 : IntKind.i64.wrap ((R[j + 1].toNat : Int) - 48) = (R[j + 1].toNat : Int) - 48 := IntWalk.i64_in _ (by omega)
                  go_quiet ((go_at_call 77; exact quiet_add_same (rnum_at HM.out hR2 _)))
                  have hv0 : 0 ≤ 8 * m + ((R[j + 1].toNat : Int) - 48) := by omega
                  go_wp2_with (go_at_call 78; refine (rsize_any _ _).mono ?_; rintro e w1 ⟨rfl, rfl⟩; rw [HZ.out])
                  · have h1 : 8 * m + ((R[j + 1].toNat : Int) - 48) < sz := by assumption
                    have hg := HGOOD.out
                    go_ret3
                    refine rparse_end ?_ (hb0.drewN _)
                    rw [← (rFrom_yes hlt (by have := HL.out; omega) HP.out HV.out HZ.out (by omega) (by omega)).symm.trans HD.out, hg]
                  · have h1 : sz ≤ 8 * m + ((R[j + 1].toNat : Int) - 48) := by assumption
                    have hg := HGOOD.out
                    have HN := Lib.hid ((rFrom_no hlt (by have := HL.out; omega) HP.out HV.out HZ.out (.inr (by omega))).symm.trans HD.out)
                    clear hg
                    go_roundw
                    case rel => exact ⟨k + 1, by omega, by go_num, HN, _, rfl⟩
                    case measure => simp [intOf]; omega
              · have hje := tw_end HT.out (.inl (by simp; omega))
                have HJE := Lib.hid hje
                clear HT hje
                have hbad := rBitNo_bad (l := R.data.toList) HJE.out (by rintro ⟨h, _⟩; exact hjl (by simpa using h))
                have h0 : v < 0 := by rw [← HV'.out, hbad]; omega
                have HN := Lib.hid ((rFrom_no hlt (by have := HL.out; omega) HP.out HV.out HZ.out (.inl h0)).symm.trans HD.out)
                clear hbad h0
                go_wp2_with fail
                go_roundw
                case rel => exact ⟨k + 1, by omega, by go_num, HN, _, rfl⟩
                case measure => simp [intOf]; omega
    · go_wp2
      have hk6 : k = 6 := by omega
      go_ret3
      subst hk6
      exact rparse_end HD.out (hb0.drewN _)
end Go.Proofs.YtdabnnganponpaaGreatDoor
