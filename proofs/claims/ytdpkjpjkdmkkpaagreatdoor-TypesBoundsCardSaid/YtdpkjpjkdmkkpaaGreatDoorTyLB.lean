/- The walk through TypesBounds. -/
import Derived.Test.YtdpkjpjkdmkkpaaGreatDoorTyB3
import Derived.Test.YtdpkjpjkdmkkpaaGreatDoorNC
namespace Go.Proofs.YtdpkjpjkdmkkpaaGreatDoor
open Go.RowKit Lx Pa Ad

set_option maxRecDepth 100000 in
set_option maxHeartbeats 8000000 in
theorem typesBounds_at (k : Int) (hk : -9223372036854775808 ≤ k) (hk2 : k ≤ 9223372036854775807) (n : Int) (hn : -9223372036854775808 ≤ n) (hn2 : n ≤ 9223372036854775807) (w : World) (he : TEnv w) :
    Calls Tryz.prog 6 #[.int .i64 k, .int .i64 n] w fun e w' => e = .returned (.bool true) ∧ Below w.heap.size w w' := by
  obtain ⟨nm, lo9, hi9, el, at9, hel, hpar⟩ := text3_known
  have HPAR := Lib.hid hpar
  have HE := Lib.hid he
  have HKK := Lib.hid (And.intro (And.intro hk hk2) (And.intro hn hn2))
  have HEL := Lib.hid hel
  clear hpar he hk hk2 hn hn2 hel
  go_enter Tryz.func6, Tryz.ntmps6
  go_wp2_with fail
  refine (known_at w HE.out).mono ?_
  rintro e w1 ⟨rfl, hb⟩
  have B1 := Lib.hid hb
  clear hb
  go_wp2_with fail
  refine (hplace_at k 4294966896 HKK.out.1.1 HKK.out.1.2 (by omega) (by omega) w1).mono ?_
  rintro e w1' ⟨rfl, rfl⟩
  obtain ⟨LO, hLO⟩ : ∃ x, k % 4294966896 - 2147483648 = x := ⟨_, rfl⟩
  have hl0 : -2147483648 ≤ LO := by have := Int.emod_nonneg k (b := 4294966896) (by omega); omega
  have hl1 : LO ≤ 2147483247 := by have := Int.emod_lt_of_pos k (b := 4294966896) (by omega); omega
  have hw : IntKind.i64.wrap (k % 4294966896 - 2147483648) = LO := by rw [hLO]; exact IntWalk.i64_in _ (by omega)
  go_wp2_with fail
  refine (hplace_at n 300 HKK.out.2.1 HKK.out.2.2 (by omega) (by omega) w1).mono ?_
  rintro e w1' ⟨rfl, rfl⟩
  obtain ⟨N, hN⟩ : ∃ x, n % 300 - 20 = x := ⟨_, rfl⟩
  have hn0 : -20 ≤ N := by have := Int.emod_nonneg n (b := 300) (by omega); omega
  have hn1 : N ≤ 279 := by have := Int.emod_lt_of_pos n (b := 300) (by omega); omega
  have hv : IntKind.i64.wrap (n % 300 - 20) = N := by rw [hN]; exact IntWalk.i64_in _ (by omega)
  clear hN hLO
  go_wp2_with fail
  refine (HPAR.out w1).mono ?_
  rintro e w2 ⟨row, rfl, hd, hb⟩
  obtain ⟨vs, iv, g, cp, rfl, hss, hini, hpg, hcf⟩ := one_mem hd
  obtain ⟨va, vn, vc, rfl⟩ := hss.shape
  have D2 := Lib.hid (And.intro hss (And.intro hini (And.intro hpg hcf)))
  have B2 := Lib.hid (bjoin B1.out hb)
  have kb1 := B1.out.size
  have hg0 : w.heap.size ≤ g := Nat.le_trans kb1 hpg.1
  have hg1 : g < w2.heap.size := hpg.2
  have HPG := Lib.hid hpg
  clear hss hini hpg hcf hd hb hw hv
  go_upto_region 6 with fail
  refine gen_world (P := Code.wp _ _ _ _) (F := fun W => Bl W w2.heap.size #[.string ⟨nm.toArray⟩, .slice va vn vc, .slice (some ⟨g, 0, none⟩) 1 cp, .bool false, .slice none 0 0, .slice none 0 0] 28 ∧ (SSl W (Btw w1.heap.size w2.heap.size) [] (.slice va vn vc) ∧ IniV W (Btw w1.heap.size w2.heap.size) none iv ∧ CellsF W g (oneC lo9 hi9 el at9 iv)) ∧ Below w.heap.size w W)
    ⟨Bl.new w2 _ _, ⟨D2.out.1.keeps (keepsOf ((Below.refl _ _).alloc (Nat.le_refl _) _)), D2.out.2.1.keeps (keepsOf ((Below.refl _ _).alloc (Nat.le_refl _) _)), D2.out.2.2.2.same (P := fun _ => True) (Below.sameOn ((Below.refl _ _).alloc (Nat.le_refl _) _)) trivial⟩, B2.out.alloc B2.out.size _⟩ ?_
  intro w3 ⟨P3, D3, B3⟩
  have P3 := Lib.hid P3
  have D3 := Lib.hid D3
  have B3 := Lib.hid B3
  have h12 : Hid (w.heap.size ≤ w1.heap.size) := Lib.hid kb1
  obtain ⟨-, -, p2, -, -, -⟩ := P3.out.cells6
  have kp := P3.out.lt
  have c2 := D3.out.2.2.lie 2 _ rfl
  have c3 := D3.out.2.2.lie 3 _ rfl
  have f2 := D3.out.2.2.free 2
  have f3 := D3.out.2.2.free 3
  have hwn : IntKind.i64.wrap (LO + N) = LO + N := IntWalk.i64_in _ (by omega)
  have hwm : IntKind.i64.wrap (LO + N - 1) = LO + N - 1 := IntWalk.i64_in _ (by omega)
  clear D2 B2 kb1 B1
  go_wp2_with fail
  go_region
  refine gen_world (P := Exit.then _ _ _ _) (F := fun W => Bl W w2.heap.size #[.string ⟨nm.toArray⟩, .slice va vn vc, .slice (some ⟨g, 0, none⟩) 1 cp, .bool false, .slice none 0 0, .slice none 0 0] 28 ∧ PVals W (Btw w1.heap.size w2.heap.size) false ⟨nm, [], [⟨[120], 12, LO, LO + N - 1, el, [], false, [], none, at9⟩]⟩ [.string ⟨nm.toArray⟩, .slice va vn vc, .slice (some ⟨g, 0, none⟩) 1 cp, .bool false, .slice none 0 0, .slice none 0 0] ∧ Below w.heap.size w W)
    ⟨((P3.out.other (by omega) _ _).other (by omega) _ _).drew, one_turn D3.out.1 D3.out.2.1 HPG.out D3.out.2.2, ((B3.out.setCell hg0 _).setCell hg0 _).drew⟩ ?_
  clear P3 D3 B3 p2 kp c2 c3 f2 f3
  intro w4 ⟨P4, D4, B4⟩
  have HX : Hid (∀ a, Btw w1.heap.size w2.heap.size a → a < w4.heap.size) := Lib.hid (fun a ha => Nat.lt_trans ha.2 P4.lt)
  have HPG2 := Lib.hid HPG.out.1
  obtain ⟨X, hX⟩ : ∃ X, w2.heap.size = X := ⟨_, rfl⟩
  rw [hX] at P4 D4 HX ⊢
  clear hX hg1 HPG
  have P4 := Lib.hid P4
  have D4 := Lib.hid D4
  have B4 := Lib.hid B4
  have HOK : Hid (DeclOk ⟨nm, [], [⟨[120], 12, LO, LO + N - 1, el, [], false, [], none, at9⟩]⟩) := Lib.hid (one_ok ⟨by omega, by omega⟩ ⟨by omega, by omega⟩)
  have HBC := Lib.hid (bounds_check (v := ⟨[120], 12, LO, LO + N - 1, el, [], false, [], none, at9⟩) (n := N) (one_arr HEL.out) hl0 (by show LO + N - 1 ≤ 2147483647; omega) rfl)
  have HBL := Lib.hid (bounds_cells (v := ⟨[120], 12, LO, LO + N - 1, el, [], false, [], none, at9⟩) (n := N) (one_arr HEL.out) hl0 (by show LO + N - 1 ≤ 2147483647; omega) rfl)
  obtain ⟨q0, q1, q2, q3, q4, q5⟩ := P4.out.cells6
  have kp := P4.out.lt
  by_cases hb : N < 1 ∨ 256 < N
  · have HC1 := Lib.hid (HBC.out.1 hb)
    have HC2 := Lib.hid (HBL.out.1 hb)
    clear HBC HBL
    go_wp2_with fail
    refine (tcheck_at HC1.out HOK.out w4 (HE.out.lex.below B4.out) D4.out).mono ?_
    rintro e w5 ⟨ev, rfl, ⟨pp, rfl, hp⟩, hb5⟩
    have P5 := Lib.hid (P4.out.below hb5)
    have D5 := Lib.hid (D4.out.keeps (keepsOf hb5))
    have B5 := Lib.hid (bjoin B4.out hb5)
    have X5 : Hid (∀ a, Btw w1.heap.size X a → a < w5.heap.size) := Lib.hid (fun a ha => Nat.lt_of_lt_of_le (HX.out a ha) hb5.size)
    have HPP := Lib.hid hp
    clear hp hb5 P4 D4 B4 HX q0 q1 q2 q3 q4 q5 kp
    go_wp2_with fail
    refine (told_place w5 (HE.out.hnd.below B5.out) HPP.out).mono ?_
    rintro e w6 ⟨rfl, hb5⟩
    have P6 := Lib.hid (P5.out.below hb5)
    have D6 := Lib.hid (D5.out.keeps (keepsOf hb5))
    have B6 := Lib.hid (bjoin B5.out hb5)
    have X6 : Hid (∀ a, Btw w1.heap.size X a → a < w6.heap.size) := Lib.hid (fun a ha => Nat.lt_of_lt_of_le (X5.out a ha) hb5.size)
    clear HPP hb5 P5 D5 B5 X5
    obtain ⟨q0, q1, q2, q3, q4, q5⟩ := P6.out.cells6
    have kp := P6.out.lt
    have HCC := Lib.hid (tcells_at HC2.out HOK.out w6 X6.out (HE.out.lex.below B6.out) D6.out)
    clear HC1 HC2
    by_cases h1 : N < 1
    · go_wp2_with fail
      refine HCC.out.mono ?_
      rintro e w7 ⟨v7, rfl, ho, hb7⟩
      obtain ⟨ra, rc, rfl⟩ := own_len ho
      have B7 := Lib.hid (bjoin B6.out hb7)
      clear ho hb7
      go_wp2_with fail
      go_ret
      exact ⟨rfl, B7.out⟩
    · have h2 : 256 < N := by omega
      go_wp2_with fail
      refine HCC.out.mono ?_
      rintro e w7 ⟨v7, rfl, ho, hb7⟩
      obtain ⟨ra, rc, rfl⟩ := own_len ho
      have B7 := Lib.hid (bjoin B6.out hb7)
      clear ho hb7
      go_wp2_with fail
      go_ret
      exact ⟨rfl, B7.out⟩
  · obtain ⟨m, hm⟩ : ∃ m : Nat, N = (m : Int) := ⟨N.toNat, by omega⟩
    have hm1 : 1 ≤ m := by omega
    have hm2 : m ≤ 256 := by omega
    have HC1 := Lib.hid (HBC.out.2 (by omega))
    have HC2 := Lib.hid (HBL.out.2 (by omega))
    have HFI := Lib.hid (fun ix => bounds_find (v := ⟨[120], 12, LO, LO + N - 1, el, [], false, [], none, at9⟩) (n := N) (ix := ix) (one_arr HEL.out) hl0 (by show LO + N - 1 ≤ 2147483647; omega) rfl (by omega))
    clear HBC HBL hb
    subst hm
    obtain ⟨cl, hcl⟩ : ∃ cl, (List.range' 0 (m : Int).toNat).map (arrC el false LO) = cl := ⟨_, rfl⟩
    have HCL : Hid (Ty.cells [] [⟨[120], 12, LO, LO + (m : Int) - 1, el, [], false, [], none, at9⟩] = cl) := Lib.hid (HC2.out.trans hcl)
    have HLN : Hid (cl.length = m) := Lib.hid (by rw [← hcl]; simp)
    have H0 : Hid (cl[0]? = some (arrC el false LO 0)) := Lib.hid (by rw [← hcl, List.getElem?_map, List.getElem?_range' (by omega)]; rfl)
    have H1 : Hid (cl[m - 1]? = some (arrC el false LO (m - 1))) := Lib.hid (by rw [← hcl, List.getElem?_map, List.getElem?_range' (by omega)]; simp)
    clear HC2 hcl
    go_wp2_with fail
    refine (tcheck_at HC1.out HOK.out w4 (HE.out.lex.below B4.out) D4.out).mono ?_
    rintro e w5 ⟨ev, rfl, hev, hb5⟩
    have hev2 : ev = .nilIface := hev
    subst hev2
    have P5 := Lib.hid (P4.out.below hb5)
    have D5 := Lib.hid (D4.out.keeps (keepsOf hb5))
    have B5 := Lib.hid (bjoin B4.out hb5)
    have X5 : Hid (∀ a, Btw w1.heap.size X a → a < w5.heap.size) := Lib.hid (fun a ha => Nat.lt_of_lt_of_le (HX.out a ha) hb5.size)
    clear hev hb5 P4 D4 B4 HX q0 q1 q2 q3 q4 q5 kp HC1
    go_wp2_with fail
    refine (told_nil w5).mono ?_
    rintro e w5' ⟨rfl, rfl⟩
    obtain ⟨q0, q1, q2, q3, q4, q5⟩ := P5.out.cells6
    have kp := P5.out.lt
    have h1 : ¬ (m : Int) < 1 := by omega
    have h2 : ¬ (256 : Int) < (m : Int) := by omega
    go_wp2_with fail
    refine (tcells_at HCL.out HOK.out w5 X5.out (HE.out.lex.below B5.out) D5.out).mono ?_
    rintro e w6 ⟨cv, rfl, hc, hb⟩
    rw [HLN.out] at hc
    obtain ⟨g6, c6, rfl, _, _⟩ := hc.form (by omega)
    have a0 : w6.cell? ⟨g6, 2, none⟩ = some (.int .i64 LO) := by
      have h := hc.cells (g := g6) rfl 2 _ (cellsC_get H0.out (j := 2) rfl)
      simpa [Addr.add, arrC] using h
    have a1 : w6.cell? ⟨g6, (m - 1) * 8 + 2, none⟩ = some (.int .i64 (LO + (m : Int) - 1)) := by
      have h := hc.cells (g := g6) rfl ((m - 1) * 8 + 2) _ (cellsC_get H1.out (j := 2) rfl)
      have hadd : (⟨g6, 0, none⟩ : Addr).add ((m - 1) * 8 + 2) = ⟨g6, (m - 1) * 8 + 2, none⟩ := by unfold Addr.add; split <;> simp_all
      rw [hadd] at h
      rw [h]
      show some (Value.int .i64 (LO + ((m - 1 : Nat) : Int))) = _
      rw [show LO + ((m - 1 : Nat) : Int) = LO + (m : Int) - 1 by omega]
    have P6 := Lib.hid (P5.out.below hb)
    have D6 := Lib.hid (D5.out.keeps (keepsOf hb))
    have B6 := Lib.hid (bjoin B5.out hb)
    have X6 : Hid (∀ a, Btw w1.heap.size X a → a < w6.heap.size) := Lib.hid (fun a ha => Nat.lt_of_lt_of_le (X5.out a ha) hb.size)
    clear hc hb P5 D5 B5 X5 q0 q1 q2 q3 q4 q5 kp H0 H1 HCL HLN
    obtain ⟨q0, q1, q2, q3, q4, q5⟩ := P6.out.cells6
    have kp := P6.out.lt
    have kg := lt_of_cell a0
    have y0 : IntKind.i64.wrap ((m : Int) - 1) = (m : Int) - 1 := IntWalk.i64_in _ (by omega)
    have y1 : 0 ≤ (m : Int) - 1 := by omega
    have y2 : (m : Int) - 1 < (m : Int) := by omega
    have y3 : ((m : Int) - 1).toNat = m - 1 := by omega
    go_wp2_with fail
    have F1 : Hid (Ty.find [] [⟨[120], 12, LO, LO + (m : Int) - 1, el, [], false, [], none, at9⟩] [120] [] (LO + (m : Int) / 2) = (m : Int) / 2) := Lib.hid ((HFI.out _).trans (by
      show (if LO ≤ LO + (m : Int) / 2 ∧ LO + (m : Int) / 2 < LO + (m : Int) then LO + (m : Int) / 2 - LO else -1) = (m : Int) / 2
      rw [if_pos (by omega)]; omega))
    have F2 : Hid (Ty.find [] [⟨[120], 12, LO, LO + (m : Int) - 1, el, [], false, [], none, at9⟩] [120] [] (LO - 1) = -1) := Lib.hid ((HFI.out _).trans (by
      show (if LO ≤ LO - 1 ∧ LO - 1 < LO + (m : Int) then LO - 1 - LO else -1) = -1
      rw [if_neg (by omega)]))
    clear HFI a0 a1 y0 y1 y2 y3 kg
    refine (tfind_at (NM := ⟨#[120]⟩) (FD := ⟨#[]⟩) F1.out HOK.out w6 X6.out (HE.out.lex.below B6.out) D6.out).mono ?_
    rintro e w7 ⟨rfl, hb⟩
    have P7 := Lib.hid (P6.out.below hb)
    have D7 := Lib.hid (D6.out.keeps (keepsOf hb))
    have B7 := Lib.hid (bjoin B6.out hb)
    have X7 : Hid (∀ a, Btw w1.heap.size X a → a < w7.heap.size) := Lib.hid (fun a ha => Nat.lt_of_lt_of_le (X6.out a ha) hb.size)
    clear hb P6 D6 B6 X6 q0 q1 q2 q3 q4 q5 kp F1
    obtain ⟨q0, q1, q2, q3, q4, q5⟩ := P7.out.cells6
    have kp := P7.out.lt
    have hlm : IntKind.i64.wrap (LO - 1) = LO - 1 := IntWalk.i64_in _ (by omega)
    go_wp2_with fail
    refine (tfind_at (NM := ⟨#[120]⟩) (FD := ⟨#[]⟩) F2.out HOK.out w7 X7.out (HE.out.lex.below B7.out) D7.out).mono ?_
    rintro e w8 ⟨rfl, hb⟩
    have B8 := Lib.hid (bjoin B7.out hb)
    clear hb P7 D7 B7 X7 q0 q1 q2 q3 q4 q5 kp F2
    go_wp2_with fail
    go_ret
    exact ⟨rfl, B8.out⟩
end Go.Proofs.YtdpkjpjkdmkkpaaGreatDoor
