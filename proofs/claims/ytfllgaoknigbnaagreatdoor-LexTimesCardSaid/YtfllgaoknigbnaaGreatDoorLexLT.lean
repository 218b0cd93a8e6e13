/- The statement on times: its walk. -/
import Derived.Test.YtfllgaoknigbnaaGreatDoorLexLW
import Derived.Deep.CutRange
namespace Go.Proofs.YtfllgaoknigbnaaGreatDoor
open Go.RowKit Lx Ad

/-- The first i parts of a time, their sum, whether there is one. -/
def preT (vs : Nat → Nat) (wh : Nat → Bool) : Nat → List UInt8
  | 0 => []
  | i + 1 => preT vs wh i ++ (if wh i = true then decs (vs i) ++ unitS i else [])
def preN (vs : Nat → Nat) (wh : Nat → Bool) : Nat → Int
  | 0 => 0
  | i + 1 => if wh i = true then preN vs wh i + vs i * unitMs i else preN vs wh i
def preB (wh : Nat → Bool) : Nat → Bool
  | 0 => false
  | i + 1 => preB wh i || wh i
theorem preT_all (vs : Nat → Nat) (wh : Nat → Bool) : preT vs wh 5 = partsT vs wh 5 0 := by
  simp only [preT, partsT]
  cases wh 0 <;> cases wh 1 <;> cases wh 2 <;> cases wh 3 <;> cases wh 4 <;> simp
theorem preN_all (vs : Nat → Nat) (wh : Nat → Bool) : preN vs wh 5 = sumT vs wh 5 0 0 := by
  simp only [preN, sumT]
theorem preB_all (wh : Nat → Bool) : preB wh 5 = !noneT wh := by
  simp only [preB, noneT]
  cases wh 0 <;> cases wh 1 <;> cases wh 2 <;> cases wh 3 <;> cases wh 4 <;> rfl

/-- The world while the text is put together: the five numbers lie in block g. -/
structure TS (w0 : World) (g : Nat) (vs : Nat → Nat) (w : World) : Prop where
  c : ∀ i, i < 5 → w.cell? ⟨g, i, none⟩ = some (.int .i64 (vs i))
  bel : Below w0.heap.size w0 w
theorem TS.drew {w0 w : World} {g : Nat} {vs : Nat → Nat} (h : TS w0 g vs w) : TS w0 g vs w.drew := ⟨h.c, h.bel.drew⟩
theorem TS.alloc {w0 w : World} {g : Nat} {vs : Nat → Nat} (h : TS w0 g vs w) (o : Obj) : TS w0 g vs (w.alloc o) :=
  ⟨fun i hi => cell_later ((Below.refl _ _).alloc (Nat.le_refl _) o) (h.c i hi), h.bel.alloc h.bel.size o⟩

theorem TS.at {w0 w : World} {g : Nat} {vs : Nat → Nat} (h : TS w0 g vs w) (i : Nat) (hi : i < 5) {v : Nat} (hv : vs i = v) : w.cell? ⟨g, i, none⟩ = some (.int .i64 v) := by rw [← hv]; exact h.c i hi

def vsT (v0 v1 v2 v3 v4 : Nat) : Nat → Nat
  | 0 => v0 | 1 => v1 | 2 => v2 | 3 => v3 | 4 => v4 | _ => 0
/-- What stands ahead of the parts. -/
def lead1 (long : Bool) : ByteArray := if long = true then ⟨#[84, 73, 77, 69, 35]⟩ else ⟨#[84, 35]⟩
def lead2 (minus long : Bool) : ByteArray := if minus = true then lead1 long ++ ⟨#[45]⟩ else lead1 long
theorem lead_is (minus long : Bool) : (lead2 minus long).data.toList = nameT long ++ 35 :: signT minus := by cases minus <;> cases long <;> decide
theorem lead_small (minus long : Bool) : (lead2 minus long).size ≤ 10 := by cases minus <;> cases long <;> decide

/-- The bits that tell which parts there are, as the program reckons them. -/
def bitT (x : Int) : Nat → Bool
  | 0 => bits BinOp.and IntKind.u8 x 1 == 1
  | 1 => bits BinOp.and IntKind.u8 (x / 2) 1 == 1
  | 2 => bits BinOp.and IntKind.u8 (x / 4) 1 == 1
  | 3 => bits BinOp.and IntKind.u8 (x / 8) 1 == 1
  | 4 => bits BinOp.and IntKind.u8 (x / 16) 1 == 1
  | _ => false
theorem vs_small (v0 v1 v2 v3 v4 : Nat) (l0 : v0 < 30) (l1 : v1 < 700) (l2 : v2 < 40000) (l3 : v3 < 3000000) (l4 : v4 < 3000000000) :
    (∀ i, i < 5 → (vsT v0 v1 v2 v3 v4 i : Int) * unitMs i ≤ 3000000000) ∧ (∀ i, vsT v0 v1 v2 v3 v4 i < 1099511627776) := by
  refine ⟨fun i hi => ?_, fun i => ?_⟩
  · have h : i = 0 ∨ i = 1 ∨ i = 2 ∨ i = 3 ∨ i = 4 := by omega
    rcases h with rfl | rfl | rfl | rfl | rfl
    · show (v0 : Int) * 86400000 ≤ 3000000000; omega
    · show (v1 : Int) * 3600000 ≤ 3000000000; omega
    · show (v2 : Int) * 60000 ≤ 3000000000; omega
    · show (v3 : Int) * 1000 ≤ 3000000000; omega
    · show (v4 : Int) * 1 ≤ 3000000000; omega
  · unfold vsT
    split <;> omega
theorem preT_next (vs : Nat → Nat) (wh : Nat → Bool) (i : Nat) : preT vs wh (i + 1) = preT vs wh i ++ (if wh i = true then decs (vs i) ++ unitS i else []) := rfl
theorem preN_next (vs : Nat → Nat) (wh : Nat → Bool) (i : Nat) : preN vs wh (i + 1) = if wh i = true then preN vs wh i + vs i * unitMs i else preN vs wh i := rfl
theorem preB_next (wh : Nat → Bool) (i : Nat) : preB wh (i + 1) = (preB wh i || wh i) := rfl
theorem grow_size (t : ByteArray) (l m : List UInt8) : (t ++ ⟨l.toArray⟩ ++ ⟨m.toArray⟩ : ByteArray).size = t.size + l.length + m.length := by
  have e : ∀ k : List UInt8, (⟨k.toArray⟩ : ByteArray).size = k.length := fun k => by simp [ByteArray.size]
  rw [ByteArray.size_append, ByteArray.size_append, e l, e m]
theorem grow_data (t : ByteArray) (l m : List UInt8) : (t ++ ⟨l.toArray⟩ ++ ⟨m.toArray⟩ : ByteArray).data.toList = t.data.toList ++ (l ++ m) := by
  rw [ByteArray.data_append, ByteArray.data_append]
  simp
theorem time_all (vs : Nat → Nat) (wh : Nat → Bool) (minus long : Bool) (hv : ∀ i, i < 5 → (vs i : Int) * unitMs i ≤ 3000000000) (hv2 : ∀ i, vs i < 1099511627776) (n : Int) (hn : n = if minus = true then -(preN vs wh 5) else preN vs wh 5) :
    lTokens ((nameT long ++ 35 :: signT minus) ++ preT vs wh 5) false = if preB wh 5 = false then .error (0, 120) else if n < -2147483648 ∨ 2147483647 < n then .error (0, 163) else .ok [⟨4, 11, n, [], 0⟩, ⟨0, 0, 0, [], (textT vs wh minus long).length⟩] := by
  have h := time_law vs wh minus long hv hv2 (n := n) (by rw [hn, preN_all])
  rw [preT_all, preB_all]
  rw [show (nameT long ++ 35 :: signT minus) ++ partsT vs wh 5 0 = textT vs wh minus long by simp [textT]]
  rw [h]
  cases noneT wh <;> simp

theorem ts_start {w w1 : World} (v0 v1 v2 v3 v4 : Nat) (hb : Below w.heap.size w w1) :
    TS w w1.heap.size (vsT v0 v1 v2 v3 v4) (w1.alloc (.cells #[.int .i64 v0, .int .i64 v1, .int .i64 v2, .int .i64 v3, .int .i64 v4] 3)) := by
  refine ⟨fun i hi => ?_, hb.alloc hb.size _⟩
  have h : i = 0 ∨ i = 1 ∨ i = 2 ∨ i = 3 ∨ i = 4 := by omega
  rcases h with rfl | rfl | rfl | rfl | rfl <;> exact (World.cell?_alloc_at _ _ _ _ rfl)

set_option maxRecDepth 100000 in
set_option maxHeartbeats 80000000 in
theorem lexTimes_walk (x0 : Int) (a0 : -9223372036854775808 ≤ x0) (b0 : x0 ≤ 9223372036854775807) (x1 : Int) (a1 : -9223372036854775808 ≤ x1) (b1 : x1 ≤ 9223372036854775807) (x2 : Int) (a2 : -9223372036854775808 ≤ x2) (b2 : x2 ≤ 9223372036854775807)
    (x3 : Int) (a3 : -9223372036854775808 ≤ x3) (b3 : x3 ≤ 9223372036854775807) (x4 : Int) (a4 : -9223372036854775808 ≤ x4) (b4 : x4 ≤ 9223372036854775807) (x5 : Int) (_a5 : 0 ≤ x5) (_b5 : x5 ≤ 255) (minus long : Bool) (w : World) (he : TEnv w) :
    Calls Tryz.prog 6 #[.int .i64 x0, .int .i64 x1, .int .i64 x2, .int .i64 x3, .int .i64 x4, .int .u8 x5, .bool minus, .bool long] w fun e w' => e = .returned (.bool true) ∧ Below w.heap.size w w' := by
  obtain ⟨v0, h0⟩ : ∃ v : Nat, x0 % 30 = v := ⟨(x0 % 30).toNat, by omega⟩
  obtain ⟨v1, h1⟩ : ∃ v : Nat, x1 % 700 = v := ⟨(x1 % 700).toNat, by omega⟩
  obtain ⟨v2, h2⟩ : ∃ v : Nat, x2 % 40000 = v := ⟨(x2 % 40000).toNat, by omega⟩
  obtain ⟨v3, h3⟩ : ∃ v : Nat, x3 % 3000000 = v := ⟨(x3 % 3000000).toNat, by omega⟩
  obtain ⟨v4, h4⟩ : ∃ v : Nat, x4 % 3000000000 = v := ⟨(x4 % 3000000000).toNat, by omega⟩
  have l0 : v0 < 30 := by omega
  have l1 : v1 < 700 := by omega
  have l2 : v2 < 40000 := by omega
  have l3 : v3 < 3000000 := by omega
  have l4 : v4 < 3000000000 := by omega
  have P0 := Lib.hid (hplace_at x0 30 a0 b0 (by omega) (by omega))
  have P1 := Lib.hid (hplace_at x1 700 a1 b1 (by omega) (by omega))
  have P2 := Lib.hid (hplace_at x2 40000 a2 b2 (by omega) (by omega))
  have P3 := Lib.hid (hplace_at x3 3000000 a3 b3 (by omega) (by omega))
  have P4 := Lib.hid (hplace_at x4 3000000000 a4 b4 (by omega) (by omega))
  have E0 := Lib.hid h0
  have E1 := Lib.hid h1
  have E2 := Lib.hid h2
  have E3 := Lib.hid h3
  have E4 := Lib.hid h4
  have HE := Lib.hid he
  clear he h0 h1 h2 h3 h4 a0 a1 a2 a3 a4 b0 b1 b2 b3 b4
  obtain ⟨vs, hvs⟩ : ∃ vs, vsT v0 v1 v2 v3 v4 = vs := ⟨_, rfl⟩
  obtain ⟨wh, hwh⟩ : ∃ wh, bitT x5 = wh := ⟨_, rfl⟩
  obtain ⟨pre, hpre⟩ : ∃ pre, nameT long ++ 35 :: signT minus = pre := ⟨_, rfl⟩
  obtain ⟨tx0, htx0⟩ : ∃ t, lead2 minus long = t := ⟨_, rfl⟩
  have hlead := lead_is minus long
  have hleads := lead_small minus long
  rw [htx0] at hlead hleads
  rw [hpre] at hlead
  have hsm := vs_small v0 v1 v2 v3 v4 l0 l1 l2 l3 l4
  rw [hvs] at hsm
  have hlaw := fun n hn => time_all vs wh minus long hsm.1 hsm.2 n hn
  rw [hpre] at hlaw
  have HLAW : Hid (∀ n, n = (if minus = true then -(preN vs wh 5) else preN vs wh 5) → ∃ z : Int, lTokens (pre ++ preT vs wh 5) false = if preB wh 5 = false then .error (0, 120) else if n < -2147483648 ∨ 2147483647 < n then .error (0, 163) else .ok [⟨4, 11, n, [], 0⟩, ⟨0, 0, 0, [], z⟩]) := Lib.hid (fun n hn => ⟨_, hlaw n hn⟩)
  have HV0 : Hid (vs 0 = v0) := Lib.hid (by rw [← hvs]; rfl)
  have HV1 : Hid (vs 1 = v1) := Lib.hid (by rw [← hvs]; rfl)
  have HV2 : Hid (vs 2 = v2) := Lib.hid (by rw [← hvs]; rfl)
  have HV3 : Hid (vs 3 = v3) := Lib.hid (by rw [← hvs]; rfl)
  have HV4 : Hid (vs 4 = v4) := Lib.hid (by rw [← hvs]; rfl)
  have W0 : Hid (IntKind.u64.wrap (v0 : Int) = v0) := Lib.hid (by simp [IntKind.wrap, IntKind.bits, IntKind.signed]; omega)
  have W1 : Hid (IntKind.u64.wrap (v1 : Int) = v1) := Lib.hid (by simp [IntKind.wrap, IntKind.bits, IntKind.signed]; omega)
  have W2 : Hid (IntKind.u64.wrap (v2 : Int) = v2) := Lib.hid (by simp [IntKind.wrap, IntKind.bits, IntKind.signed]; omega)
  have W3 : Hid (IntKind.u64.wrap (v3 : Int) = v3) := Lib.hid (by simp [IntKind.wrap, IntKind.bits, IntKind.signed]; omega)
  have W4 : Hid (IntKind.u64.wrap (v4 : Int) = v4) := Lib.hid (by simp [IntKind.wrap, IntKind.bits, IntKind.signed]; omega)
  have HV := Lib.hid hvs
  have HW := Lib.hid hwh
  have HTX0 := Lib.hid htx0
  have HLEAD := Lib.hid hlead
  have HLEADS := Lib.hid hleads
  have L0 := Lib.hid l0
  have L1 := Lib.hid l1
  have L2 := Lib.hid l2
  have L3 := Lib.hid l3
  have L4 := Lib.hid l4
  clear l0 l1 l2 l3 l4
  clear hvs hwh hpre hsm hlaw htx0 hlead hleads
  go_enter Tryz.func6, Tryz.ntmps6
  go_wp2_with (go_at_call 8; refine (known_at _ HE.out).mono ?_; rintro e w1 ⟨rfl, hb1⟩; have H1 := Lib.hid hb1; clear hb1)
  refine (P0.out _).mono ?_; rintro e w2 ⟨rfl, rfl⟩; rw [E0.out]
  go_wp2_with (fail)
  refine (P1.out _).mono ?_; rintro e w2 ⟨rfl, rfl⟩; rw [E1.out]
  go_wp2_with (fail)
  refine (P2.out _).mono ?_; rintro e w2 ⟨rfl, rfl⟩; rw [E2.out]
  go_wp2_with (fail)
  refine (P3.out _).mono ?_; rintro e w2 ⟨rfl, rfl⟩; rw [E3.out]
  go_wp2_with (fail)
  refine (P4.out _).mono ?_; rintro e w2 ⟨rfl, rfl⟩; rw [E4.out]
  go_upto_if 39 with fail
  have hts := ts_start v0 v1 v2 v3 v4 H1.out
  rw [HV.out] at hts
  obtain ⟨g, hg⟩ : ∃ g, w1.heap.size = g := ⟨_, rfl⟩
  rw [hg] at hts ⊢
  have HTS := Lib.hid hts
  clear hg hts
  go_cut [18] from 39 (fun tx wx => tx = .string (lead1 long) ∧ TS w g vs wx)
  case first =>
    cases long
    all_goals
      go_wp2_with fail
      go_meet
      case rel => exact ⟨rfl, HTS.out⟩
  case rest =>
  clear HTS
  obtain ⟨rfl, hts⟩ := hcut
  have HTS := Lib.hid hts
  clear hts
  go_upto_if 40 with fail
  have hsz1 : (lead1 long).size + 1 ≤ 9223372036854775807 := by cases long <;> decide
  go_cut [18] from 39 (fun tx wx => tx = .string tx0 ∧ TS w g vs wx)
  case first =>
    cases minus
    all_goals
      go_wp2_with fail
      go_meet
      case rel => exact ⟨by rw [← HTX0.out]; rfl, HTS.out⟩
  case rest =>
  clear HTS hsz1
  obtain ⟨rfl, hts⟩ := hcut
  have HTS := Lib.hid hts
  clear hts
  go_wp2
  go_loopw [18, 19, 20, 21] (fun tx s sm ii wr => ∃ (i : Nat) (t : ByteArray) (sn : Int) (sb : Bool), i ≤ 5 ∧ tx = .string t ∧ s = .int .i64 sn ∧ sm = .bool sb ∧ ii = .int .i64 i ∧ 0 ≤ sn ∧ sn ≤ 3000000000 * i ∧ t.size ≤ 10 + 30 * i ∧ Hid (t.data.toList = pre ++ preT vs wh i) ∧ Hid (sn = preN vs wh i) ∧ Hid (sb = preB wh i) ∧ Hid (TS w g vs wr)) (fun tx s sm ii _ => 5 - (intOf ii).toNat)
  case atStart => exact ⟨0, tx0, 0, false, by omega, rfl, rfl, rfl, rfl, by omega, by omega, HLEADS.out, Lib.hid (by rw [HLEAD.out]; exact (List.append_nil _).symm), Lib.hid rfl, Lib.hid rfl, HTS⟩
  case round =>
    clear HTS
    obtain ⟨i, t, sn, sb, hi, rfl, rfl, rfl, rfl, s0, s1, t1, HT, HN, HB, HS⟩ := hrel
    obtain ⟨WR, rfl⟩ : ∃ WR, WR = wr := ⟨_, rfl⟩
    by_cases hlt : i < 5
    · have hi5 : i = 0 ∨ i = 1 ∨ i = 2 ∨ i = 3 ∨ i = 4 := by omega
      rcases hi5 with rfl | rfl | rfl | rfl | rfl
      · have hc := HS.out.at 0 (by decide) HV0.out
        have dl := decs_len v0
        have ll := L0.out
        have s2 : sn ≤ 0 := by omega
        have t2 : t.size ≤ 10 := by omega
        have z1 : t.size + (decs v0).length ≤ 9223372036854775807 := by omega
        have z2 : t.size + (decs v0).length + 1 ≤ 9223372036854775807 := by omega
        obtain ⟨b, hbit⟩ : ∃ b, (bits BinOp.and IntKind.u8 x5 1 == 1) = b := ⟨_, rfl⟩
        have HWI : Hid (wh 0 = b) := Lib.hid (by rw [← HW.out]; exact hbit)
        clear s1 t1
        cases b with
        | false =>
          go_wp2
          go_roundw
          case rel => exact ⟨1, t, sn, sb, by omega, rfl, rfl, rfl, by go_num, s0, by omega, by omega, Lib.hid (by rw [preT_next vs wh 0, HT.out, HWI.out]; simp), Lib.hid (by rw [preN_next vs wh 0, HWI.out]; exact HN.out), Lib.hid (by rw [preB_next wh 0, HWI.out, Bool.or_false]; exact HB.out), HS⟩
          case measure => simp [intOf]
        | true =>
          go_wp2
          have hT := HS.out
          go_cut [18] from 43 to 75 (fun tx wx => tx = .string (t ++ ⟨(decs v0).toArray⟩ ++ ⟨#[100]⟩) ∧ TS w g vs wx)
          case first =>
            have hA1 := fun o => (hT.alloc o).at 0 (by decide) HV0.out
            have hA2 := fun o => (hT.drew.alloc o).at 0 (by decide) HV0.out
            go_region_with (first | (go_at_call 15; rw [W0.out]; refine (rdigits_at v0 (by omega) _).mono ?_; rintro e w9 ⟨rfl, rfl⟩))
            all_goals go_wp2_with fail
            all_goals go_meet
            all_goals exact ⟨rfl, by first | assumption | exact TS.drew (TS.alloc hT _) | exact (TS.drew hT).alloc _ | exact (by assumption : _ ∧ TS w g vs _).2⟩
          case rest =>
            obtain ⟨rfl, hT2⟩ := hcut
            have e1 : IntKind.i64.wrap ((v0 : Int) * 86400000) = (v0 : Int) * 86400000 := IntWalk.i64_in _ (by omega)
            have e2 : IntKind.i64.wrap (sn + (v0 : Int) * 86400000) = sn + (v0 : Int) * 86400000 := IntWalk.i64_in _ (by omega)
            have hc2 := hT2.at 0 (by decide) HV0.out
            go_wp2
            have hA1 := fun o => (hT2.alloc o).at 0 (by decide) HV0.out
            have hA2 := fun o => (hT2.drew.alloc o).at 0 (by decide) HV0.out
            go_region_with (fail)
            all_goals go_wp2
            all_goals
              go_roundw
              case rel => exact ⟨1, t ++ ⟨(decs v0).toArray⟩ ++ ⟨#[100]⟩, sn + v0 * 86400000, true, by omega, rfl, (by first | rfl | (simp; done) | go_num), rfl, by go_num, by omega, by omega, Nat.le_trans (Nat.le_of_eq (grow_size t (decs v0) [100])) (by simp only [List.length_cons, List.length_nil]; omega), Lib.hid ((grow_data t (decs v0) [100]).trans (by rw [HT.out, preT_next vs wh 0, HWI.out, if_pos rfl, HV0.out, List.append_assoc]; rfl)), Lib.hid (by rw [preN_next vs wh 0, HWI.out, if_pos rfl, ← HN.out, HV0.out]; rfl), Lib.hid (by rw [preB_next wh 0, HWI.out, Bool.or_true]), Lib.hid (by first | assumption | exact TS.drew (TS.alloc hT2 _) | exact (TS.drew hT2).alloc _ | exact (by assumption : _ ∧ TS w g vs _).2)⟩
              case measure => simp [intOf]
      · have hc := HS.out.at 1 (by decide) HV1.out
        have dl := decs_len v1
        have ll := L1.out
        have s2 : sn ≤ 3000000000 := by omega
        have t2 : t.size ≤ 40 := by omega
        have z1 : t.size + (decs v1).length ≤ 9223372036854775807 := by omega
        have z2 : t.size + (decs v1).length + 1 ≤ 9223372036854775807 := by omega
        obtain ⟨b, hbit⟩ : ∃ b, (bits BinOp.and IntKind.u8 (x5 / 2) 1 == 1) = b := ⟨_, rfl⟩
        have HWI : Hid (wh 1 = b) := Lib.hid (by rw [← HW.out]; exact hbit)
        clear s1 t1
        cases b with
        | false =>
          go_wp2
          go_roundw
          case rel => exact ⟨2, t, sn, sb, by omega, rfl, rfl, rfl, by go_num, s0, by omega, by omega, Lib.hid (by rw [preT_next vs wh 1, HT.out, HWI.out]; simp), Lib.hid (by rw [preN_next vs wh 1, HWI.out]; exact HN.out), Lib.hid (by rw [preB_next wh 1, HWI.out, Bool.or_false]; exact HB.out), HS⟩
          case measure => simp [intOf]
        | true =>
          go_wp2
          have hT := HS.out
          go_cut [18] from 43 to 75 (fun tx wx => tx = .string (t ++ ⟨(decs v1).toArray⟩ ++ ⟨#[104]⟩) ∧ TS w g vs wx)
          case first =>
            have hA1 := fun o => (hT.alloc o).at 1 (by decide) HV1.out
            have hA2 := fun o => (hT.drew.alloc o).at 1 (by decide) HV1.out
            go_region_with (first | (go_at_call 15; rw [W1.out]; refine (rdigits_at v1 (by omega) _).mono ?_; rintro e w9 ⟨rfl, rfl⟩))
            all_goals go_wp2_with fail
            all_goals go_meet
            all_goals exact ⟨rfl, by first | assumption | exact TS.drew (TS.alloc hT _) | exact (TS.drew hT).alloc _ | exact (by assumption : _ ∧ TS w g vs _).2⟩
          case rest =>
            obtain ⟨rfl, hT2⟩ := hcut
            have e1 : IntKind.i64.wrap ((v1 : Int) * 3600000) = (v1 : Int) * 3600000 := IntWalk.i64_in _ (by omega)
            have e2 : IntKind.i64.wrap (sn + (v1 : Int) * 3600000) = sn + (v1 : Int) * 3600000 := IntWalk.i64_in _ (by omega)
            have hc2 := hT2.at 1 (by decide) HV1.out
            go_wp2
            have hA1 := fun o => (hT2.alloc o).at 1 (by decide) HV1.out
            have hA2 := fun o => (hT2.drew.alloc o).at 1 (by decide) HV1.out
            go_region_with (fail)
            all_goals go_wp2
            all_goals
              go_roundw
              case rel => exact ⟨2, t ++ ⟨(decs v1).toArray⟩ ++ ⟨#[104]⟩, sn + v1 * 3600000, true, by omega, rfl, (by first | rfl | (simp; done) | go_num), rfl, by go_num, by omega, by omega, Nat.le_trans (Nat.le_of_eq (grow_size t (decs v1) [104])) (by simp only [List.length_cons, List.length_nil]; omega), Lib.hid ((grow_data t (decs v1) [104]).trans (by rw [HT.out, preT_next vs wh 1, HWI.out, if_pos rfl, HV1.out, List.append_assoc]; rfl)), Lib.hid (by rw [preN_next vs wh 1, HWI.out, if_pos rfl, ← HN.out, HV1.out]; rfl), Lib.hid (by rw [preB_next wh 1, HWI.out, Bool.or_true]), Lib.hid (by first | assumption | exact TS.drew (TS.alloc hT2 _) | exact (TS.drew hT2).alloc _ | exact (by assumption : _ ∧ TS w g vs _).2)⟩
              case measure => simp [intOf]
      · have hc := HS.out.at 2 (by decide) HV2.out
        have dl := decs_len v2
        have ll := L2.out
        have s2 : sn ≤ 6000000000 := by omega
        have t2 : t.size ≤ 70 := by omega
        have z1 : t.size + (decs v2).length ≤ 9223372036854775807 := by omega
        have z2 : t.size + (decs v2).length + 1 ≤ 9223372036854775807 := by omega
        obtain ⟨b, hbit⟩ : ∃ b, (bits BinOp.and IntKind.u8 (x5 / 4) 1 == 1) = b := ⟨_, rfl⟩
        have HWI : Hid (wh 2 = b) := Lib.hid (by rw [← HW.out]; exact hbit)
        clear s1 t1
        cases b with
        | false =>
          go_wp2
          go_roundw
          case rel => exact ⟨3, t, sn, sb, by omega, rfl, rfl, rfl, by go_num, s0, by omega, by omega, Lib.hid (by rw [preT_next vs wh 2, HT.out, HWI.out]; simp), Lib.hid (by rw [preN_next vs wh 2, HWI.out]; exact HN.out), Lib.hid (by rw [preB_next wh 2, HWI.out, Bool.or_false]; exact HB.out), HS⟩
          case measure => simp [intOf]
        | true =>
          go_wp2
          have hT := HS.out
          go_cut [18] from 43 to 75 (fun tx wx => tx = .string (t ++ ⟨(decs v2).toArray⟩ ++ ⟨#[109]⟩) ∧ TS w g vs wx)
          case first =>
            have hA1 := fun o => (hT.alloc o).at 2 (by decide) HV2.out
            have hA2 := fun o => (hT.drew.alloc o).at 2 (by decide) HV2.out
            go_region_with (first | (go_at_call 15; rw [W2.out]; refine (rdigits_at v2 (by omega) _).mono ?_; rintro e w9 ⟨rfl, rfl⟩))
            all_goals go_wp2_with fail
            all_goals go_meet
            all_goals exact ⟨rfl, by first | assumption | exact TS.drew (TS.alloc hT _) | exact (TS.drew hT).alloc _ | exact (by assumption : _ ∧ TS w g vs _).2⟩
          case rest =>
            obtain ⟨rfl, hT2⟩ := hcut
            have e1 : IntKind.i64.wrap ((v2 : Int) * 60000) = (v2 : Int) * 60000 := IntWalk.i64_in _ (by omega)
            have e2 : IntKind.i64.wrap (sn + (v2 : Int) * 60000) = sn + (v2 : Int) * 60000 := IntWalk.i64_in _ (by omega)
            have hc2 := hT2.at 2 (by decide) HV2.out
            go_wp2
            have hA1 := fun o => (hT2.alloc o).at 2 (by decide) HV2.out
            have hA2 := fun o => (hT2.drew.alloc o).at 2 (by decide) HV2.out
            go_region_with (fail)
            all_goals go_wp2
            all_goals
              go_roundw
              case rel => exact ⟨3, t ++ ⟨(decs v2).toArray⟩ ++ ⟨#[109]⟩, sn + v2 * 60000, true, by omega, rfl, (by first | rfl | (simp; done) | go_num), rfl, by go_num, by omega, by omega, Nat.le_trans (Nat.le_of_eq (grow_size t (decs v2) [109])) (by simp only [List.length_cons, List.length_nil]; omega), Lib.hid ((grow_data t (decs v2) [109]).trans (by rw [HT.out, preT_next vs wh 2, HWI.out, if_pos rfl, HV2.out, List.append_assoc]; rfl)), Lib.hid (by rw [preN_next vs wh 2, HWI.out, if_pos rfl, ← HN.out, HV2.out]; rfl), Lib.hid (by rw [preB_next wh 2, HWI.out, Bool.or_true]), Lib.hid (by first | assumption | exact TS.drew (TS.alloc hT2 _) | exact (TS.drew hT2).alloc _ | exact (by assumption : _ ∧ TS w g vs _).2)⟩
              case measure => simp [intOf]
      · have hc := HS.out.at 3 (by decide) HV3.out
        have dl := decs_len v3
        have ll := L3.out
        have s2 : sn ≤ 9000000000 := by omega
        have t2 : t.size ≤ 100 := by omega
        have z1 : t.size + (decs v3).length ≤ 9223372036854775807 := by omega
        have z2 : t.size + (decs v3).length + 1 ≤ 9223372036854775807 := by omega
        obtain ⟨b, hbit⟩ : ∃ b, (bits BinOp.and IntKind.u8 (x5 / 8) 1 == 1) = b := ⟨_, rfl⟩
        have HWI : Hid (wh 3 = b) := Lib.hid (by rw [← HW.out]; exact hbit)
        clear s1 t1
        cases b with
        | false =>
          go_wp2
          go_roundw
          case rel => exact ⟨4, t, sn, sb, by omega, rfl, rfl, rfl, by go_num, s0, by omega, by omega, Lib.hid (by rw [preT_next vs wh 3, HT.out, HWI.out]; simp), Lib.hid (by rw [preN_next vs wh 3, HWI.out]; exact HN.out), Lib.hid (by rw [preB_next wh 3, HWI.out, Bool.or_false]; exact HB.out), HS⟩
          case measure => simp [intOf]
        | true =>
          go_wp2
          have hT := HS.out
          go_cut [18] from 43 to 75 (fun tx wx => tx = .string (t ++ ⟨(decs v3).toArray⟩ ++ ⟨#[115]⟩) ∧ TS w g vs wx)
          case first =>
            have hA1 := fun o => (hT.alloc o).at 3 (by decide) HV3.out
            have hA2 := fun o => (hT.drew.alloc o).at 3 (by decide) HV3.out
            go_region_with (first | (go_at_call 15; rw [W3.out]; refine (rdigits_at v3 (by omega) _).mono ?_; rintro e w9 ⟨rfl, rfl⟩))
            all_goals go_wp2_with fail
            all_goals go_meet
            all_goals exact ⟨rfl, by first | assumption | exact TS.drew (TS.alloc hT _) | exact (TS.drew hT).alloc _ | exact (by assumption : _ ∧ TS w g vs _).2⟩
          case rest =>
            obtain ⟨rfl, hT2⟩ := hcut
            have e1 : IntKind.i64.wrap ((v3 : Int) * 1000) = (v3 : Int) * 1000 := IntWalk.i64_in _ (by omega)
            have e2 : IntKind.i64.wrap (sn + (v3 : Int) * 1000) = sn + (v3 : Int) * 1000 := IntWalk.i64_in _ (by omega)
            have hc2 := hT2.at 3 (by decide) HV3.out
            go_wp2
            have hA1 := fun o => (hT2.alloc o).at 3 (by decide) HV3.out
            have hA2 := fun o => (hT2.drew.alloc o).at 3 (by decide) HV3.out
            go_region_with (fail)
            all_goals go_wp2
            all_goals
              go_roundw
              case rel => exact ⟨4, t ++ ⟨(decs v3).toArray⟩ ++ ⟨#[115]⟩, sn + v3 * 1000, true, by omega, rfl, (by first | rfl | (simp; done) | go_num), rfl, by go_num, by omega, by omega, Nat.le_trans (Nat.le_of_eq (grow_size t (decs v3) [115])) (by simp only [List.length_cons, List.length_nil]; omega), Lib.hid ((grow_data t (decs v3) [115]).trans (by rw [HT.out, preT_next vs wh 3, HWI.out, if_pos rfl, HV3.out, List.append_assoc]; rfl)), Lib.hid (by rw [preN_next vs wh 3, HWI.out, if_pos rfl, ← HN.out, HV3.out]; rfl), Lib.hid (by rw [preB_next wh 3, HWI.out, Bool.or_true]), Lib.hid (by first | assumption | exact TS.drew (TS.alloc hT2 _) | exact (TS.drew hT2).alloc _ | exact (by assumption : _ ∧ TS w g vs _).2)⟩
              case measure => simp [intOf]
      · have hc := HS.out.at 4 (by decide) HV4.out
        have dl := decs_len v4
        have ll := L4.out
        have s2 : sn ≤ 12000000000 := by omega
        have t2 : t.size ≤ 130 := by omega
        have z1 : t.size + (decs v4).length ≤ 9223372036854775807 := by omega
        have z2 : t.size + (decs v4).length + 2 ≤ 9223372036854775807 := by omega
        obtain ⟨b, hbit⟩ : ∃ b, (bits BinOp.and IntKind.u8 (x5 / 16) 1 == 1) = b := ⟨_, rfl⟩
        have HWI : Hid (wh 4 = b) := Lib.hid (by rw [← HW.out]; exact hbit)
        clear s1 t1
        cases b with
        | false =>
          go_wp2
          go_roundw
          case rel => exact ⟨5, t, sn, sb, by omega, rfl, rfl, rfl, by go_num, s0, by omega, by omega, Lib.hid (by rw [preT_next vs wh 4, HT.out, HWI.out]; simp), Lib.hid (by rw [preN_next vs wh 4, HWI.out]; exact HN.out), Lib.hid (by rw [preB_next wh 4, HWI.out, Bool.or_false]; exact HB.out), HS⟩
          case measure => simp [intOf]
        | true =>
          go_wp2
          have hT := HS.out
          go_cut [18] from 43 to 75 (fun tx wx => tx = .string (t ++ ⟨(decs v4).toArray⟩ ++ ⟨#[109, 115]⟩) ∧ TS w g vs wx)
          case first =>
            have hA1 := fun o => (hT.alloc o).at 4 (by decide) HV4.out
            have hA2 := fun o => (hT.drew.alloc o).at 4 (by decide) HV4.out
            go_region_with (first | (go_at_call 15; rw [W4.out]; refine (rdigits_at v4 (by omega) _).mono ?_; rintro e w9 ⟨rfl, rfl⟩))
            all_goals go_wp2_with fail
            all_goals go_meet
            all_goals exact ⟨rfl, by first | assumption | exact TS.drew (TS.alloc hT _) | exact (TS.drew hT).alloc _ | exact (by assumption : _ ∧ TS w g vs _).2⟩
          case rest =>
            obtain ⟨rfl, hT2⟩ := hcut
            have e1 : IntKind.i64.wrap ((v4 : Int)) = (v4 : Int) := IntWalk.i64_in _ (by omega)
            have e2 : IntKind.i64.wrap (sn + (v4 : Int)) = sn + (v4 : Int) := IntWalk.i64_in _ (by omega)
            have hc2 := hT2.at 4 (by decide) HV4.out
            go_wp2
            have hA1 := fun o => (hT2.alloc o).at 4 (by decide) HV4.out
            have hA2 := fun o => (hT2.drew.alloc o).at 4 (by decide) HV4.out
            go_region_with (fail)
            all_goals go_wp2
            all_goals
              go_roundw
              case rel => exact ⟨5, t ++ ⟨(decs v4).toArray⟩ ++ ⟨#[109, 115]⟩, sn + v4, true, by omega, rfl, (by first | rfl | (simp; done) | go_num), rfl, by go_num, by omega, by omega, Nat.le_trans (Nat.le_of_eq (grow_size t (decs v4) [109, 115])) (by simp only [List.length_cons, List.length_nil]; omega), Lib.hid ((grow_data t (decs v4) [109, 115]).trans (by rw [HT.out, preT_next vs wh 4, HWI.out, if_pos rfl, HV4.out, List.append_assoc]; rfl)), Lib.hid (by rw [preN_next vs wh 4, HWI.out, if_pos rfl, ← HN.out, HV4.out]; simp [unitMs]), Lib.hid (by rw [preB_next wh 4, HWI.out, Bool.or_true]), Lib.hid (by first | assumption | exact TS.drew (TS.alloc hT2 _) | exact (TS.drew hT2).alloc _ | exact (by assumption : _ ∧ TS w g vs _).2)⟩
              case measure => simp [intOf]
    · obtain rfl : i = 5 := by omega
      have s2 : sn ≤ 15000000000 := by omega
      clear s1
      cases minus
      · obtain ⟨z, hz⟩ := HLAW.out (sn) (by rw [HN.out]; rfl)
        rw [← HT.out, ← HB.out] at hz
        cases sb with
        | false =>
          rw [if_pos rfl] at hz
          have HQ := Lib.hid hz
          clear hz
          go_wp2_with (first | (go_at_call 9; refine (tokens_err HQ.out (by omega) _ (HE.out.lex.below HS.out.bel)).mono ?_; rintro e w5 ⟨p, rfl, hp, hb5⟩; have H5 := Lib.hid (And.intro hp (bjoin HS.out.bel hb5)); clear hp hb5) | (go_at_call 16; refine (told_place _ (HE.out.hnd.below H5.out.2) H5.out.1).mono ?_; rintro e w6 ⟨rfl, hb6⟩; have H6 := Lib.hid (bjoin H5.out.2 hb6); clear hb6))
          all_goals go_ret
          all_goals exact ⟨rfl, H6.out⟩
        | true =>
          rw [if_neg (by simp)] at hz
          by_cases r1 : sn < -2147483648
          · rw [if_pos (.inl r1)] at hz
            have HQ := Lib.hid hz
            clear hz
            go_wp2_with (first | (go_at_call 9; refine (tokens_err HQ.out (by omega) _ (HE.out.lex.below HS.out.bel)).mono ?_; rintro e w5 ⟨p, rfl, hp, hb5⟩; have H5 := Lib.hid (And.intro hp (bjoin HS.out.bel hb5)); clear hp hb5) | (go_at_call 16; refine (told_place _ (HE.out.hnd.below H5.out.2) H5.out.1).mono ?_; rintro e w6 ⟨rfl, hb6⟩; have H6 := Lib.hid (bjoin H5.out.2 hb6); clear hb6))
            all_goals go_ret
            all_goals exact ⟨rfl, H6.out⟩
          · by_cases r2 : 2147483647 < sn
            · rw [if_pos (.inr r2)] at hz
              have HQ := Lib.hid hz
              clear hz
              go_wp2_with (first | (go_at_call 9; refine (tokens_err HQ.out (by omega) _ (HE.out.lex.below HS.out.bel)).mono ?_; rintro e w5 ⟨p, rfl, hp, hb5⟩; have H5 := Lib.hid (And.intro hp (bjoin HS.out.bel hb5)); clear hp hb5) | (go_at_call 16; refine (told_place _ (HE.out.hnd.below H5.out.2) H5.out.1).mono ?_; rintro e w6 ⟨rfl, hb6⟩; have H6 := Lib.hid (bjoin H5.out.2 hb6); clear hb6))
              all_goals go_ret
              all_goals exact ⟨rfl, H6.out⟩
            · rw [if_neg (by omega)] at hz
              have HQ := Lib.hid hz
              clear hz
              go_wp2_with (first | (go_at_call 9; refine (tokens_ok HQ.out (by simp) (by omega) _ (HE.out.lex.below HS.out.bel)).mono ?_; rintro e w5 ⟨gg, cap, rfl, hc, hb5⟩; have q0 := hc 0 _ rfl; have q2 := hc 2 _ rfl; have H6 := Lib.hid (bjoin HS.out.bel hb5); clear hc hb5) | (go_at_call 16; refine (told_nil _).mono ?_; rintro e w6 ⟨rfl, rfl⟩))
              all_goals go_ret
              all_goals exact ⟨rfl, H6.out⟩
      · obtain ⟨z, hz⟩ := HLAW.out (-sn) (by rw [HN.out]; rfl)
        rw [← HT.out, ← HB.out] at hz
        cases sb with
        | false =>
          rw [if_pos rfl] at hz
          have HQ := Lib.hid hz
          clear hz
          go_wp2_with (first | (go_at_call 9; refine (tokens_err HQ.out (by omega) _ (HE.out.lex.below HS.out.bel)).mono ?_; rintro e w5 ⟨p, rfl, hp, hb5⟩; have H5 := Lib.hid (And.intro hp (bjoin HS.out.bel hb5)); clear hp hb5) | (go_at_call 16; refine (told_place _ (HE.out.hnd.below H5.out.2) H5.out.1).mono ?_; rintro e w6 ⟨rfl, hb6⟩; have H6 := Lib.hid (bjoin H5.out.2 hb6); clear hb6))
          all_goals go_ret
          all_goals exact ⟨rfl, H6.out⟩
        | true =>
          rw [if_neg (by simp)] at hz
          by_cases r1 : -sn < -2147483648
          · rw [if_pos (.inl r1)] at hz
            have HQ := Lib.hid hz
            clear hz
            go_wp2_with (first | (go_at_call 9; refine (tokens_err HQ.out (by omega) _ (HE.out.lex.below HS.out.bel)).mono ?_; rintro e w5 ⟨p, rfl, hp, hb5⟩; have H5 := Lib.hid (And.intro hp (bjoin HS.out.bel hb5)); clear hp hb5) | (go_at_call 16; refine (told_place _ (HE.out.hnd.below H5.out.2) H5.out.1).mono ?_; rintro e w6 ⟨rfl, hb6⟩; have H6 := Lib.hid (bjoin H5.out.2 hb6); clear hb6))
            all_goals go_ret
            all_goals exact ⟨rfl, H6.out⟩
          · by_cases r2 : 2147483647 < -sn
            · rw [if_pos (.inr r2)] at hz
              have HQ := Lib.hid hz
              clear hz
              go_wp2_with (first | (go_at_call 9; refine (tokens_err HQ.out (by omega) _ (HE.out.lex.below HS.out.bel)).mono ?_; rintro e w5 ⟨p, rfl, hp, hb5⟩; have H5 := Lib.hid (And.intro hp (bjoin HS.out.bel hb5)); clear hp hb5) | (go_at_call 16; refine (told_place _ (HE.out.hnd.below H5.out.2) H5.out.1).mono ?_; rintro e w6 ⟨rfl, hb6⟩; have H6 := Lib.hid (bjoin H5.out.2 hb6); clear hb6))
              all_goals go_ret
              all_goals exact ⟨rfl, H6.out⟩
            · rw [if_neg (by omega)] at hz
              have HQ := Lib.hid hz
              clear hz
              go_wp2_with (first | (go_at_call 9; refine (tokens_ok HQ.out (by simp) (by omega) _ (HE.out.lex.below HS.out.bel)).mono ?_; rintro e w5 ⟨gg, cap, rfl, hc, hb5⟩; have q0 := hc 0 _ rfl; have q2 := hc 2 _ rfl; have H6 := Lib.hid (bjoin HS.out.bel hb5); clear hc hb5) | (go_at_call 16; refine (told_nil _).mono ?_; rintro e w6 ⟨rfl, rfl⟩))
              all_goals go_ret
              all_goals exact ⟨rfl, H6.out⟩
end Go.Proofs.YtfllgaoknigbnaaGreatDoor
