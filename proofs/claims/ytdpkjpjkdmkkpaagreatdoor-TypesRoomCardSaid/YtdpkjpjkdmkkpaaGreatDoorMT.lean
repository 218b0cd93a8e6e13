/- The walks through package types: first values; the kinds' help. -/
import Derived.Test.YtdpkjpjkdmkkpaaGreatDoorMS
namespace Go.Proofs.YtdpkjpjkdmkkpaaGreatDoor
open Go.RowKit Lx Pa Ad

set_option maxRecDepth 100000 in
set_option maxHeartbeats 4000000 in
theorem of_none (k : Int) (hk : Ty.scalar k = false) (w : World) :
    Calls Tryz.prog 92 #[.int .i64 k] w fun e w' => e = .returned (.tuple #[.agg #[.string ⟨#[]⟩, .int .i64 0, .bool false, .bool false], .bool false]) ∧ Below w.heap.size w w' := by
  unfold Ty.scalar at hk
  simp only [Bool.and_eq_false_iff, decide_eq_false_iff_not] at hk
  have e1 : (k == 1) = false := by simp; omega
  have e2 : (k == 2) = false := by simp; omega
  have e3 : (k == 3) = false := by simp; omega
  have e4 : (k == 4) = false := by simp; omega
  have e5 : (k == 5) = false := by simp; omega
  have e6 : (k == 6) = false := by simp; omega
  have e7 : (k == 7) = false := by simp; omega
  have e8 : (k == 8) = false := by simp; omega
  have e9 : (k == 9) = false := by simp; omega
  have e10 : (k == 10) = false := by simp; omega
  have e11 : (k == 11) = false := by simp; omega
  clear hk
  go_enter Tryz.func92, Tryz.ntmps92
  go_wp2
  exact bodyPost_ret (v := (.tuple #[.agg #[.string ⟨#[]⟩, .int .i64 0, .bool false, .bool false], .bool false])) (by simp [results, Tryz.results92, go_sem]) rfl ⟨rfl, (Below.refl _ _).alloc (Nat.le_refl _) _⟩

/-- What 'of' answers of any number. -/
theorem of_any (k : Int) (_w : World) : ∃ a b c d, (b = if Ty.scalar k = true then kWidth k.toNat else 0) ∧ ∀ w, Calls Tryz.prog 92 #[.int .i64 k] w fun e w' => e = .returned (.tuple #[.agg #[.string a, .int .i64 b, .bool c, .bool d], .bool (Ty.scalar k)]) ∧ Below w.heap.size w w' := by
  cases hs : Ty.scalar k with
  | false =>
    refine ⟨⟨#[]⟩, 0, false, false, by simp, fun w => ?_⟩
    exact of_none k hs w
  | true =>
    have h2 := hs
    unfold Ty.scalar at h2
    simp only [Bool.and_eq_true, decide_eq_true_eq] at h2
    have hk : ((k.toNat : Nat) : Int) = k := by omega
    refine ⟨kName k.toNat, kWidth k.toNat, kSigned k.toNat, kBits k.toNat, by simp, fun w => ?_⟩
    have h3 := of_at k.toNat (by omega) (by omega) w
    rw [hk] at h3
    exact h3

set_option maxRecDepth 100000 in
set_option maxHeartbeats 4000000 in
theorem scalar_at (k : Int) (w : World) : Calls Tryz.prog 66 #[.int .i64 k] w fun e w' => e = .returned (.bool (Ty.scalar k)) ∧ Below w.heap.size w w' := by
  obtain ⟨a, b, c, d, -, hc⟩ := of_any k w
  obtain ⟨sc, hsc⟩ : ∃ sc, Ty.scalar k = sc := ⟨_, rfl⟩
  rw [hsc] at hc ⊢
  have HC := Lib.hid hc
  clear hc hsc
  go_enter Tryz.func66, Tryz.ntmps66
  go_wp2_with (go_at_call 92; refine (HC.out _).mono ?_; rintro e w1 ⟨rfl, hb1⟩; have B1 := Lib.hid hb1; clear hb1)
  go_ret
  exact ⟨rfl, B1.out.alloc B1.out.size _⟩

set_option maxRecDepth 100000 in
set_option maxHeartbeats 4000000 in
theorem width_at (k : Int) (w : World) : Calls Tryz.prog 70 #[.int .i64 k] w fun e w' => e = .returned (.int .i64 (if Ty.scalar k = true then kWidth k.toNat else 0)) ∧ Below w.heap.size w w' := by
  obtain ⟨a, b, c, d, hb, hc⟩ := of_any k w
  rw [← hb]
  obtain ⟨sc, hsc⟩ : ∃ sc, Ty.scalar k = sc := ⟨_, rfl⟩
  rw [hsc] at hc
  have HC := Lib.hid hc
  clear hc hsc hb
  go_enter Tryz.func70, Tryz.ntmps70
  go_wp2_with (go_at_call 92; refine (HC.out _).mono ?_; rintro e w1 ⟨rfl, hb1⟩; have B1 := Lib.hid hb1; clear hb1)
  go_ret
  exact ⟨rfl, B1.out.alloc B1.out.size _⟩

theorem kwrap_in (k : Nat) (h1 : 1 ≤ k) (h2 : k ≤ 11) (n : Int) : (n == kWrap k n) = Ty.inKind k n := by
  have h : k = 1 ∨ k = 2 ∨ k = 3 ∨ k = 4 ∨ k = 5 ∨ k = 6 ∨ k = 7 ∨ k = 8 ∨ k = 9 ∨ k = 10 ∨ k = 11 := by omega
  rw [Bool.eq_iff_iff]
  unfold Ty.inKind Ty.low Ty.high
  rcases h with rfl | rfl | rfl | rfl | rfl | rfl | rfl | rfl | rfl | rfl | rfl
  · simp only [kWrap]
    by_cases h0 : n = 0
    · subst h0; simp
    · simp [h0]; omega
  all_goals
    simp only [kWrap, IntKind.wrap, IntKind.bits, IntKind.signed]
    simp
    omega

/-- A first value whose numbers are of 64 bits. -/
def IniOk : Ini → Prop
  | .plain l => Is64 l.n ∧ (l.op = 0 ∨ l.op = 1)
  | .neg l _ => Is64 l.n
/-- What literal answers. -/
def LitPost (r : Option Int) (w : World) (e : Ending) (w' : World) : Prop :=
  ∃ n, e = .returned (.tuple #[.int .i64 n, .bool r.isSome]) ∧ (∀ m, r = some m → n = m) ∧ Below w.heap.size w w'
theorem EVals.plainRow {w : World} {P : Nat → Prop} {l : Pa.Lit} {row : List Value} (h : EVals w P (exIni (.plain l)) row) :
    ∃ a c, row = [.int .i64 l.op, .int .i64 l.kind, .int .i64 l.n, .string ⟨#[]⟩, .string ⟨#[]⟩, .slice a 0 c, .int .i64 l.at_] := by
  rw [exIni, exLit, EVals] at h
  obtain ⟨v, cs, h1, h2, _⟩ := h
  obtain ⟨a, c, h3, _⟩ := h2.form
  exact ⟨a, c, by rw [h1, h3]; rfl⟩
theorem EVals.negRow {w : World} {P : Nat → Prop} {l : Pa.Lit} {ta : Int} {row : List Value} (h : EVals w P (exIni (.neg l ta)) row) :
    ∃ g c, row = [.int .i64 3, .int .i64 0, .int .i64 0, .string ⟨#[]⟩, .string ⟨#[]⟩, .slice (some ⟨g, 0, none⟩) 1 c, .int .i64 ta] ∧
      w.cell? ⟨g, 0, none⟩ = some (.int .i64 l.op) ∧ w.cell? ⟨g, 1, none⟩ = some (.int .i64 l.kind) ∧ w.cell? ⟨g, 2, none⟩ = some (.int .i64 l.n) := by
  rw [exIni, EVals] at h
  obtain ⟨v, cs, h1, h2, h3⟩ := h
  obtain ⟨a, c, h4, h5⟩ := h2.form
  obtain ⟨g, h6, _, h7⟩ := h5 (by simp)
  rw [ERows] at h3
  obtain ⟨row2, cr, h8, h9, h10⟩ := h3
  obtain ⟨a2, c2, h11⟩ := EVals.plainRow (l := l) h9
  refine ⟨g, c, by rw [h1, h4, h6]; rfl, ?_, ?_, ?_⟩
  · exact h7 0 _ (by rw [h8, h11]; rfl)
  · exact h7 1 _ (by rw [h8, h11]; rfl)
  · exact h7 2 _ (by rw [h8, h11]; rfl)
theorem neg64_is (n : Int) : Is64 (neg64 n) := by
  unfold neg64 Is64
  simp only [IntKind.wrap, IntKind.bits, IntKind.signed]
  simp
  omega
theorem alloc_cell {w : World} {p : Addr} {v : Value} (o : Obj) (h : w.cell? p = some v) : (w.alloc o).cell? p = some v := cell_later ((Below.refl _ _).alloc (Nat.le_refl _) o) h

set_option maxRecDepth 100000 in
set_option maxHeartbeats 4000000 in
theorem tliteral_at {i : Ini} {row : List Value} {P : Nat → Prop} {k : Nat} {r : Option Int} (hr : Ty.literal i k = r) (h1 : 1 ≤ k) (h2 : k ≤ 11) (hi : IniOk i) (w : World) (hv : EVals w P (exIni i) row) :
    Calls Tryz.prog 93 #[.agg row.toArray, .int .i64 k] w (LitPost r w) := by
  cases i with
  | plain l =>
    obtain ⟨a, c, rfl⟩ := hv.plainRow
    obtain ⟨h64, hop⟩ := hi
    have HW := Lib.hid (fun W => kwrap_at k h1 h2 l.n h64 W)
    have HI := Lib.hid (kwrap_in k h1 h2 l.n)
    obtain ⟨op, kd, n, ta⟩ := l
    simp only at HW HI hop h64
    simp only [Ty.literal] at hr
    obtain ⟨kw, hkw⟩ : ∃ kw, kWrap k n = kw := ⟨_, rfl⟩
    rw [hkw] at HW HI
    clear hkw h64
    have hways : (op = 0 ∧ r = none) ∨ (op = 1 ∧ kd ≠ 0 ∧ kd ≠ k ∧ r = none) ∨ (op = 1 ∧ kd = 0 ∧ k = 11 ∧ r = none) ∨
        (op = 1 ∧ kd = 0 ∧ k ≠ 11 ∧ r = if Ty.inKind k n = true then some n else none) ∨ (op = 1 ∧ kd ≠ 0 ∧ (kd = k ∧ k = 11) ∧ r = if Ty.inKind k n = true then some n else none) ∨ (op = 1 ∧ kd ≠ 0 ∧ (kd = k ∧ k ≠ 11) ∧ r = if Ty.inKind k n = true then some n else none) := by
      rcases hop with h0 | h0
      · exact .inl ⟨h0, by rw [← hr, if_pos (.inl (by omega))]⟩
      · by_cases d0 : kd = 0
        · by_cases d1 : k = 11
          · exact .inr (.inr (.inl ⟨h0, d0, d1, by rw [← hr, if_pos (.inr (.inr ⟨by omega, by omega⟩))]⟩))
          · exact .inr (.inr (.inr (.inl ⟨h0, d0, d1, by rw [← hr, if_neg (by omega)]⟩)))
        · by_cases d1 : kd = k
          · by_cases d2 : k = 11
            · exact .inr (.inr (.inr (.inr (.inl ⟨h0, d0, ⟨d1, d2⟩, by rw [← hr, if_neg (by omega)]⟩))))
            · exact .inr (.inr (.inr (.inr (.inr ⟨h0, d0, ⟨d1, d2⟩, by rw [← hr, if_neg (by omega)]⟩))))
          · exact .inr (.inl ⟨h0, d0, d1, by rw [← hr, if_pos (.inr (.inl ⟨d0, d1⟩))]⟩)
    clear hr hop hv
    rcases hways with ⟨q1, q2⟩ | ⟨q1, q2, q3, q4⟩ | ⟨q1, q2, q3, q4⟩ | ⟨q1, q2, q3, q4⟩ | ⟨q1, q2, q3, q4⟩ | ⟨q1, q2, q3, q4⟩
    · have e1 : (op == 3) = false := by simp <;> omega
      have e2 : (op != 1) = true := by simp <;> omega
      have HRN := Lib.hid q2
      clear q1 q2 HI HW
      go_enter Tryz.func93, Tryz.ntmps93
      go_wp2
      go_returns
      rw [HRN.out]
      exact ⟨_, rfl, by simp, (Below.refl _ _).alloc (Nat.le_refl _) _⟩
    · have e1 : (op == 3) = false := by simp <;> omega
      have e2 : (op != 1) = false := by simp <;> omega
      have e3 : (kd != 0) = true := by simp <;> omega
      have e4 : (kd != (k : Int)) = true := by simp <;> omega
      have HRN := Lib.hid q4
      clear q1 q2 q3 q4 HI HW
      go_enter Tryz.func93, Tryz.ntmps93
      go_wp2
      go_returns
      rw [HRN.out]
      exact ⟨_, rfl, by simp, (Below.refl _ _).alloc (Nat.le_refl _) _⟩
    · have e1 : (op == 3) = false := by simp <;> omega
      have e2 : (op != 1) = false := by simp <;> omega
      have e3 : (kd != 0) = false := by simp <;> omega
      have e5 : ((k : Int) == 11) = true := by simp <;> omega
      have e4 : (kd != (k : Int)) = true := by simp <;> omega
      have HRN := Lib.hid q4
      clear q1 q2 q3 q4 HI HW
      go_enter Tryz.func93, Tryz.ntmps93
      go_wp2
      go_returns
      rw [HRN.out]
      exact ⟨_, rfl, by simp, (Below.refl _ _).alloc (Nat.le_refl _) _⟩
    · have e1 : (op == 3) = false := by simp <;> omega
      have e2 : (op != 1) = false := by simp <;> omega
      have e3 : (kd != 0) = false := by simp <;> omega
      have e5 : ((k : Int) == 11) = false := by simp <;> omega
      have HRR : Hid (r.isSome = Ty.inKind k n) := Lib.hid (by rw [q4]; cases Ty.inKind k n <;> rfl)
      have HRM : Hid (∀ z, r = some z → n = z) := Lib.hid (by
        intro z hm
        rw [q4] at hm
        cases h : Ty.inKind k n with
        | true => rw [h, if_pos rfl] at hm; exact Option.some.inj hm
        | false => rw [h, if_neg (by simp)] at hm; cases hm)
      have HIN := Lib.hid HI.out
      clear q1 q2 q3 q4
      go_enter Tryz.func93, Tryz.ntmps93
      go_wp2_with (go_at_call 116; refine (HW.out _).mono ?_; rintro e w1 ⟨rfl, hb1⟩; have B1 := Lib.hid hb1; clear hb1)
      go_returns
      rw [HIN.out]
      exact ⟨_, by rw [HRR.out]; rfl, HRM.out, below_join ((Below.refl _ _).alloc (Nat.le_refl _) _) B1.out (by simp)⟩
    · have e1 : (op == 3) = false := by simp <;> omega
      have e2 : (op != 1) = false := by simp <;> omega
      have e3 : (kd != 0) = true := by simp <;> omega
      have e4 : (kd != (k : Int)) = false := by simp <;> omega
      have e5 : ((k : Int) == 11) = true := by simp <;> omega
      have HRR : Hid (r.isSome = Ty.inKind k n) := Lib.hid (by rw [q4]; cases Ty.inKind k n <;> rfl)
      have HRM : Hid (∀ z, r = some z → n = z) := Lib.hid (by
        intro z hm
        rw [q4] at hm
        cases h : Ty.inKind k n with
        | true => rw [h, if_pos rfl] at hm; exact Option.some.inj hm
        | false => rw [h, if_neg (by simp)] at hm; cases hm)
      have HIN := Lib.hid HI.out
      clear q1 q2 q3 q4
      go_enter Tryz.func93, Tryz.ntmps93
      go_wp2_with (go_at_call 116; refine (HW.out _).mono ?_; rintro e w1 ⟨rfl, hb1⟩; have B1 := Lib.hid hb1; clear hb1)
      go_returns
      rw [HIN.out]
      exact ⟨_, by rw [HRR.out]; rfl, HRM.out, below_join ((Below.refl _ _).alloc (Nat.le_refl _) _) B1.out (by simp)⟩
    · have e1 : (op == 3) = false := by simp <;> omega
      have e2 : (op != 1) = false := by simp <;> omega
      have e3 : (kd != 0) = true := by simp <;> omega
      have e4 : (kd != (k : Int)) = false := by simp <;> omega
      have e5 : ((k : Int) == 11) = false := by simp <;> omega
      have HRR : Hid (r.isSome = Ty.inKind k n) := Lib.hid (by rw [q4]; cases Ty.inKind k n <;> rfl)
      have HRM : Hid (∀ z, r = some z → n = z) := Lib.hid (by
        intro z hm
        rw [q4] at hm
        cases h : Ty.inKind k n with
        | true => rw [h, if_pos rfl] at hm; exact Option.some.inj hm
        | false => rw [h, if_neg (by simp)] at hm; cases hm)
      have HIN := Lib.hid HI.out
      clear q1 q2 q3 q4
      go_enter Tryz.func93, Tryz.ntmps93
      go_wp2_with (go_at_call 116; refine (HW.out _).mono ?_; rintro e w1 ⟨rfl, hb1⟩; have B1 := Lib.hid hb1; clear hb1)
      go_returns
      rw [HIN.out]
      exact ⟨_, by rw [HRR.out]; rfl, HRM.out, below_join ((Below.refl _ _).alloc (Nat.le_refl _) _) B1.out (by simp)⟩
  | neg l ta =>
    obtain ⟨g, c, rfl, c0, c1, c2⟩ := hv.negRow
    have kg0 := lt_of_cell c0
    replace c0 := alloc_cell (.cells #[.int .i64 3, .int .i64 0, .int .i64 0, .string ⟨#[]⟩, .string ⟨#[]⟩, .slice (some ⟨g, 0, none⟩) 1 c, .int .i64 ta] 112) c0
    replace c1 := alloc_cell (.cells #[.int .i64 3, .int .i64 0, .int .i64 0, .string ⟨#[]⟩, .string ⟨#[]⟩, .slice (some ⟨g, 0, none⟩) 1 c, .int .i64 ta] 112) c1
    replace c2 := alloc_cell (.cells #[.int .i64 3, .int .i64 0, .int .i64 0, .string ⟨#[]⟩, .string ⟨#[]⟩, .slice (some ⟨g, 0, none⟩) 1 c, .int .i64 ta] 112) c2
    obtain ⟨op, kd, n, at9⟩ := l
    simp only at c0 c1 c2
    have h64 : Is64 (neg64 n) := neg64_is n
    have HW := Lib.hid (fun W => kwrap_at k h1 h2 (neg64 n) h64 W)
    have HI := Lib.hid (kwrap_in k h1 h2 (neg64 n))
    simp only [Ty.literal] at hr
    obtain ⟨kw, hkw⟩ : ∃ kw, kWrap k (neg64 n) = kw := ⟨_, rfl⟩
    obtain ⟨m, hm⟩ : ∃ m, neg64 n = m := ⟨_, rfl⟩
    rw [hkw] at HW HI
    rw [hm] at HW HI hr
    have hneg : wrap64 (-n) = m := by rw [wrap64_is]; exact hm
    have hways : ((op ≠ 1 ∨ (op = 1 ∧ kd ≠ 0)) ∧ r = none) ∨ (op = 1 ∧ kd = 0 ∧ k = 11 ∧ r = none) ∨ (op = 1 ∧ kd = 0 ∧ k ≠ 11 ∧ r = if Ty.inKind k m = true then some m else none) := by
      by_cases d0 : op = 1
      · by_cases d1 : kd = 0
        · by_cases d2 : k = 11
          · exact .inr (.inl ⟨d0, d1, d2, by rw [← hr, if_neg (by omega)]⟩)
          · refine .inr (.inr ⟨d0, d1, d2, ?_⟩)
            rw [← hr]
            have d3 : (k : Int) ≠ 11 := by omega
            cases h : Ty.inKind k m with
            | true => rw [if_pos ⟨d0, d1, d3, rfl⟩, if_pos rfl]
            | false => rw [if_neg (by simp), if_neg (by simp)]
        · exact .inl ⟨.inr ⟨d0, d1⟩, by rw [← hr, if_neg (by omega)]⟩
      · exact .inl ⟨.inl d0, by rw [← hr, if_neg (by omega)]⟩
    clear hkw h64 hm hr hv
    rcases hways with ⟨q1 | ⟨q1, q2⟩, q4⟩ | ⟨q1, q2, q3, q4⟩ | ⟨q1, q2, q3, q4⟩
    · have e0 : ((3 : Int) != 1) = true := rfl
      have e1 : (op == 1) = false := by simp <;> omega
      have HRN := Lib.hid q4
      clear q1 q4 HI HW hneg
      go_enter Tryz.func93, Tryz.ntmps93
      go_wp2
      go_returns
      rw [HRN.out]
      exact ⟨_, rfl, by simp, (Below.refl _ _).alloc (Nat.le_refl _) _⟩
    · have e0 : ((3 : Int) != 1) = true := rfl
      have e1 : (op == 1) = true := by simp <;> omega
      have e2 : (kd == 0) = false := by simp <;> omega
      have HRN := Lib.hid q4
      clear q1 q2 q4 HI HW hneg
      go_enter Tryz.func93, Tryz.ntmps93
      go_wp2
      go_returns
      rw [HRN.out]
      exact ⟨_, rfl, by simp, (Below.refl _ _).alloc (Nat.le_refl _) _⟩
    · have e1 : (op == 1) = true := by simp <;> omega
      have e2 : (kd == 0) = true := by simp <;> omega
      have e6 : ((0 : Int) != (k : Int)) = true := by simp <;> omega
      have e5 : ((k : Int) == 11) = true := by simp <;> omega
      have HRN := Lib.hid q4
      clear q1 q2 q3 q4 HI HW
      go_enter Tryz.func93, Tryz.ntmps93
      go_wp2
      go_returns
      rw [HRN.out]
      exact ⟨_, rfl, by simp, (Below.refl _ _).alloc (Nat.le_refl _) _⟩
    · have e1 : (op == 1) = true := by simp <;> omega
      have e2 : (kd == 0) = true := by simp <;> omega
      have e6 : ((0 : Int) != (k : Int)) = true := by simp <;> omega
      have e5 : ((k : Int) == 11) = false := by simp <;> omega
      have HRR : Hid (r.isSome = Ty.inKind k m) := Lib.hid (by rw [q4]; cases Ty.inKind k m <;> rfl)
      have HRM : Hid (∀ z, r = some z → m = z) := Lib.hid (by
        intro z hm
        rw [q4] at hm
        cases h : Ty.inKind k m with
        | true => rw [h, if_pos rfl] at hm; exact Option.some.inj hm
        | false => rw [h, if_neg (by simp)] at hm; cases hm)
      have HIN := Lib.hid HI.out
      clear q1 q2 q3 q4
      go_enter Tryz.func93, Tryz.ntmps93
      go_wp2_with (go_at_call 116; refine (HW.out _).mono ?_; rintro e w1 ⟨rfl, hb1⟩; have B1 := Lib.hid hb1; clear hb1)
      go_returns
      rw [HIN.out]
      exact ⟨_, by rw [HRR.out]; rfl, HRM.out, below_join ((Below.refl _ _).alloc (Nat.le_refl _) _) B1.out (by simp)⟩
end Go.Proofs.YtdpkjpjkdmkkpaaGreatDoor

/- The walks through package types: first, start, wrong, place. -/
namespace Go.Proofs.YtdpkjpjkdmkkpaaGreatDoor
open Go.RowKit Lx Pa Ad

/-- A first value's memory: nothing, or one expression's seven cells. -/
theorem ini_ways {w : World} {P : Nat → Prop} {o : Option Ini} {v : Value} (h : IniV w P o v) :
    (o = none ∧ ∃ a c, v = .slice a 0 c) ∨ (∃ i g c row, o = some i ∧ v = .slice (some ⟨g, 0, none⟩) 1 c ∧ EVals w P (exIni i) row ∧ CellsAt w g row) := by
  obtain ⟨cs, h1, h2⟩ := h
  obtain ⟨a, c, h3, h4⟩ := h1.form
  cases o with
  | none => exact .inl ⟨rfl, a, c, h3⟩
  | some i =>
    obtain ⟨g, h5, _, h6⟩ := h4 (by simp)
    have h2' : ERows w P [exIni i] cs := h2
    rw [ERows] at h2'
    obtain ⟨row, cr, h7, h8, h9⟩ := h2'
    rw [ERows] at h9
    subst h9
    rw [List.append_nil] at h7
    subst h7
    exact .inr ⟨i, g, c, cs, rfl, by rw [h3, h5]; rfl, h8, h6⟩

set_option maxRecDepth 100000 in
set_option maxHeartbeats 4000000 in
theorem tfirst_at {o : Option Ini} {v : Value} {P : Nat → Prop} {k : Nat} {b : Bool} (hb : Ty.first o k = b) (h1 : 1 ≤ k) (h2 : k ≤ 11) (hi : ∀ i, o = some i → IniOk i) (w : World) (hv : IniV w P o v) :
    Calls Tryz.prog 67 #[v, .int .i64 k] w fun e w' => e = .returned (.bool b) ∧ Below w.heap.size w w' := by
  rcases ini_ways hv with ⟨rfl, a, c, rfl⟩ | ⟨i, g, c, row, rfl, rfl, he, hc⟩
  · have HB := Lib.hid hb
    clear hb  hv
    go_enter Tryz.func67, Tryz.ntmps67
    go_wp2
    go_ret
    exact ⟨by rw [← HB.out]; rfl, Below.refl _ _⟩
  · obtain ⟨r, hr⟩ : ∃ r, Ty.literal i k = r := ⟨_, rfl⟩
    have HL := Lib.hid (tliteral_at hr h1 h2 (hi i rfl) w he)
    have HB := Lib.hid hb
    
    obtain ⟨op, kd, n, nm, fl, a, ln, c2, ta, rfl⟩ := he.shape
    have d0 := hc 0 _ rfl
    have d1 := hc 1 _ rfl
    have d2 := hc 2 _ rfl
    have d3 := hc 3 _ rfl
    have d4 := hc 4 _ rfl
    have d5 := hc 5 _ rfl
    have d6 := hc 6 _ rfl
    have kg := lt_of_cell d0
    have HR := Lib.hid hr
    clear hb  hv he hc hr hi
    go_enter Tryz.func67, Tryz.ntmps67
    go_wp2_with (go_at_call 93; refine HL.out.mono ?_; rintro e w1 ⟨n, rfl, hn, hb1⟩; have B1 := Lib.hid hb1; have HN := Lib.hid hn; clear hb1 hn)
    all_goals
      go_ret
      refine ⟨?_, B1.out⟩
      rw [← HB.out]
      simp only [Ty.first, HR.out]
      first | rfl | simp [*]

set_option maxRecDepth 100000 in
set_option maxHeartbeats 4000000 in
theorem tstart_at {o : Option Ini} {v : Value} {P : Nat → Prop} {k : Nat} {b : Int} (hf : Ty.first o k = true) (hb : Ty.start o k = b) (h1 : 1 ≤ k) (h2 : k ≤ 11) (hi : ∀ i, o = some i → IniOk i) (w : World) (hv : IniV w P o v) :
    Calls Tryz.prog 72 #[v, .int .i64 k] w fun e w' => e = .returned (.int .i64 b) ∧ Below w.heap.size w w' := by
  rcases ini_ways hv with ⟨rfl, a, c, rfl⟩ | ⟨i, g, c, row, rfl, rfl, he, hc⟩
  · have HB := Lib.hid hb
    clear hb hf hv
    go_enter Tryz.func72, Tryz.ntmps72
    go_wp2
    go_ret
    exact ⟨by rw [← HB.out]; rfl, Below.refl _ _⟩
  · obtain ⟨r, hr⟩ : ∃ r, Ty.literal i k = r := ⟨_, rfl⟩
    have HL := Lib.hid (tliteral_at hr h1 h2 (hi i rfl) w he)
    have HB := Lib.hid hb
    have HF := Lib.hid hf
    obtain ⟨op, kd, n, nm, fl, a, ln, c2, ta, rfl⟩ := he.shape
    have d0 := hc 0 _ rfl
    have d1 := hc 1 _ rfl
    have d2 := hc 2 _ rfl
    have d3 := hc 3 _ rfl
    have d4 := hc 4 _ rfl
    have d5 := hc 5 _ rfl
    have d6 := hc 6 _ rfl
    have kg := lt_of_cell d0
    have HR := Lib.hid hr
    clear hb hf hv he hc hr hi
    go_enter Tryz.func72, Tryz.ntmps72
    go_wp2_with (go_at_call 93; refine HL.out.mono ?_; rintro e w1 ⟨n, rfl, hn, hb1⟩; have B1 := Lib.hid hb1; have HN := Lib.hid hn; clear hb1 hn)
    go_ret
    refine ⟨?_, B1.out⟩
    have h3 := HF.out
    have h4 := HB.out
    simp only [Ty.first, HR.out] at h3
    simp only [Ty.start, HR.out] at h4
    obtain ⟨m, hm⟩ := Option.isSome_iff_exists.1 h3
    rw [hm] at h4
    exact ret_i64 (by rw [HN.out m hm, ← h4]; rfl)

/-- An error's value: nothing, or a place and a number. -/
def ErrV (w : World) (r : Option (Int × Int)) (v : Value) : Prop := match r with
  | none => v = .nilIface
  | some q => ∃ p, v = .iface 70 (.pointer (some ⟨p, 0, none⟩)) ∧ w.heap[p]? = some (.cells #[.int .i64 q.1, .int .i64 q.2] 75)

set_option maxRecDepth 100000 in
set_option maxHeartbeats 4000000 in
theorem twrong_at (a n : Int) (w : World) : Calls Tryz.prog 35 #[.int .i64 a, .int .i64 n] w fun e w' => ∃ v, e = .returned v ∧ ErrV w' (some (a, n)) v ∧ Below w.heap.size w w' := by
  go_enter Tryz.func35, Tryz.ntmps35
  go_wp2
  go_ret
  exact ⟨_, rfl, ⟨_, rfl, Bl.new _ _ _⟩, (Below.refl _ _).alloc (Nat.le_refl _) _⟩

theorem width_16 (k : Int) : ((if Ty.scalar k = true then kWidth k.toNat else 0) == 16) = decide (k = 3 ∨ k = 6 ∨ k = 9) := by
  cases hs : Ty.scalar k with
  | false =>
    unfold Ty.scalar at hs
    simp only [Bool.and_eq_false_iff, decide_eq_false_iff_not] at hs
    have h : ¬ (k = 3 ∨ k = 6 ∨ k = 9) := by omega
    simp [h]
  | true =>
    unfold Ty.scalar at hs
    simp only [Bool.and_eq_true, decide_eq_true_eq] at hs
    have h : k = 1 ∨ k = 2 ∨ k = 3 ∨ k = 4 ∨ k = 5 ∨ k = 6 ∨ k = 7 ∨ k = 8 ∨ k = 9 ∨ k = 10 ∨ k = 11 := by omega
    rcases h with rfl | rfl | rfl | rfl | rfl | rfl | rfl | rfl | rfl | rfl | rfl <;> decide

/-- What place answers. -/
def PlcPost (r : Option (Int × Int)) (w : World) (e : Ending) (w' : World) : Prop :=
  ∃ a n, e = .returned (.tuple #[.int .i64 a, .int .i64 n, .bool r.isSome]) ∧ (∀ q, r = some q → (a, n) = q) ∧ Below w.heap.size w w'
set_option maxRecDepth 100000 in
set_option maxHeartbeats 4000000 in
theorem tplace_at {p : PVar} {row : List Value} {P : Nat → Prop} {r : Option (Int × Int)} (hr : Ty.place p = r) (hs : p.addr.length ≤ 100000) (w : World) (he : Env w) (hv : VVals w P p row) :
    Calls Tryz.prog 38 #[.agg row.toArray] w (PlcPost r w) := by
  obtain ⟨v, rfl, hi⟩ := hv
  obtain ⟨ia, il, ic, rfl⟩ := hi.slice
  obtain ⟨nm, kind, lo, hi9, el, tn, re, ad, ini, at9⟩ := p
  simp only at hs hi
  obtain ⟨A, hA⟩ : ∃ A : ByteArray, (⟨ad.toArray⟩ : ByteArray) = A := ⟨_, rfl⟩
  obtain ⟨NM, hNM⟩ : ∃ A : ByteArray, (⟨nm.toArray⟩ : ByteArray) = A := ⟨_, rfl⟩
  obtain ⟨TN, hTN⟩ : ∃ A : ByteArray, (⟨tn.toArray⟩ : ByteArray) = A := ⟨_, rfl⟩
  have hAl : A.data.toList = ad := by rw [← hA]
  have hsz : A.size ≤ 100000 := by rw [← hA]; exact hs
  have HE := Lib.hid he
  obtain ⟨q, hq⟩ : ∃ q, aParse ad = q := ⟨_, rfl⟩
  obtain ⟨q1, q2, q3⟩ := q
  have HPA : Hid (∀ W, Env W → Calls Tryz.prog 68 #[.string A] W fun e w' => e = .returned (.tuple #[.int .i64 q1, .int .i64 q2, .int .i64 q3]) ∧ Below W.heap.size W w') := Lib.hid (fun W hW => (aparse_any A (by omega) W hW).mono fun e w' h => by unfold ParsePost at h; rw [hAl, hq] at h; exact h)
  have HBT := Lib.hid (fun W => bit_any q1 W)
  have HWD := Lib.hid (fun W => width_at kind W)
  have HW6 := width_16 kind
  obtain ⟨wd, hwd⟩ : ∃ wd, (if Ty.scalar kind = true then kWidth kind.toNat else 0) = wd := ⟨_, rfl⟩
  rw [hwd] at HWD HW6
  obtain ⟨bt, hbt⟩ : ∃ bt, aBit q1 = bt := ⟨_, rfl⟩
  rw [hbt] at HBT
  simp only [Ty.place, hq, hbt] at hr
  simp only [hA, hNM, hTN]
  have hways : (q3 ≠ 0 ∧ r = none) ∨ (q3 = 0 ∧ bt = true ∧ kind = 1 ∧ r = some (q1, q2)) ∨ (q3 = 0 ∧ bt = true ∧ kind ≠ 1 ∧ r = none) ∨
      (q3 = 0 ∧ bt = false ∧ (kind = 3 ∨ kind = 6 ∨ kind = 9) ∧ r = some (q1, q2)) ∨ (q3 = 0 ∧ bt = false ∧ ¬ (kind = 3 ∨ kind = 6 ∨ kind = 9) ∧ r = none) := by
    by_cases h0 : q3 = 0
    · rw [if_neg (by simpa using h0)] at hr
      cases bt with
      | true =>
        by_cases h1 : kind = 1
        · exact .inr (.inl ⟨h0, rfl, h1, by rw [← hr, if_pos (.inl ⟨rfl, h1⟩)]⟩)
        · exact .inr (.inr (.inl ⟨h0, rfl, h1, by rw [← hr, if_neg (by simp [h1])]⟩))
      | false =>
        by_cases h1 : kind = 3 ∨ kind = 6 ∨ kind = 9
        · exact .inr (.inr (.inr (.inl ⟨h0, rfl, h1, by rw [← hr, if_pos (.inr ⟨rfl, h1⟩)]⟩)))
        · exact .inr (.inr (.inr (.inr ⟨h0, rfl, h1, by rw [← hr, if_neg (by simp only [Bool.false_eq_true, false_and, true_and, false_or]; exact h1)]⟩)))
    · exact .inl ⟨h0, by rw [← hr, if_pos (by simpa using h0)]⟩
  clear hr hq hwd hbt hA hNM hTN hAl hsz hs hi he
  rcases hways with ⟨h0, h9⟩ | ⟨h0, rfl, h1, h9⟩ | ⟨h0, rfl, h1, h9⟩ | ⟨h0, rfl, h1, h9⟩ | ⟨h0, rfl, h1, h9⟩
  · have e0 : (q3 != 0) = true := by simp [h0]
    have H9 := Lib.hid h9
    clear h0 h9 HBT HWD HW6
    go_enter Tryz.func38, Tryz.ntmps38
    go_wp2_with (first | (go_at_call 68; refine (HPA.out _ (HE.out.below ((Below.refl _ _).alloc (Nat.le_refl _) _))).mono ?_; rintro e w1 ⟨rfl, hb1⟩; have B1 := Lib.hid (below_join ((Below.refl _ _).alloc (Nat.le_refl _) _) hb1 (by simp)); have c1 := (Bl.below (Bl.new _ _ _) hb1).cells10.2.1; have k1 := lt_of_cell c1; clear hb1) | (go_at_call 69; refine (HBT.out _).mono ?_; rintro e w2 ⟨rfl, rfl⟩) | (go_at_call 70; refine (HWD.out _).mono ?_; rintro e w3 ⟨rfl, hb3⟩; have B3 := Lib.hid (bjoin B1.out hb3); clear hb3))
    go_returns
    rw [H9.out]
    exact ⟨_, _, rfl, by simp, B1.out⟩
  · have e0 : (q3 != 0) = false := by simp [h0]
    have e1 : (kind == 1) = true := by simp [h1]
    have H9 := Lib.hid h9
    clear h0 h1 h9 HWD HW6
    go_enter Tryz.func38, Tryz.ntmps38
    go_wp2_with (first | (go_at_call 68; refine (HPA.out _ (HE.out.below ((Below.refl _ _).alloc (Nat.le_refl _) _))).mono ?_; rintro e w1 ⟨rfl, hb1⟩; have B1 := Lib.hid (below_join ((Below.refl _ _).alloc (Nat.le_refl _) _) hb1 (by simp)); have c1 := (Bl.below (Bl.new _ _ _) hb1).cells10.2.1; have k1 := lt_of_cell c1; clear hb1) | (go_at_call 69; refine (HBT.out _).mono ?_; rintro e w2 ⟨rfl, rfl⟩) | (go_at_call 70; refine (HWD.out _).mono ?_; rintro e w3 ⟨rfl, hb3⟩; have B3 := Lib.hid (bjoin B1.out hb3); clear hb3))
    go_returns
    rw [H9.out]
    exact ⟨_, _, rfl, by simp, B1.out⟩
  · have e0 : (q3 != 0) = false := by simp [h0]
    have e1 : (kind == 1) = false := by simp [h1]
    have H9 := Lib.hid h9
    clear h0 h1 h9 HWD HW6
    go_enter Tryz.func38, Tryz.ntmps38
    go_wp2_with (first | (go_at_call 68; refine (HPA.out _ (HE.out.below ((Below.refl _ _).alloc (Nat.le_refl _) _))).mono ?_; rintro e w1 ⟨rfl, hb1⟩; have B1 := Lib.hid (below_join ((Below.refl _ _).alloc (Nat.le_refl _) _) hb1 (by simp)); have c1 := (Bl.below (Bl.new _ _ _) hb1).cells10.2.1; have k1 := lt_of_cell c1; clear hb1) | (go_at_call 69; refine (HBT.out _).mono ?_; rintro e w2 ⟨rfl, rfl⟩) | (go_at_call 70; refine (HWD.out _).mono ?_; rintro e w3 ⟨rfl, hb3⟩; have B3 := Lib.hid (bjoin B1.out hb3); clear hb3))
    go_returns
    rw [H9.out]
    exact ⟨_, _, rfl, by simp, B1.out⟩
  · have e0 : (q3 != 0) = false := by simp [h0]
    have e1 : (wd == 16) = true := by rw [HW6]; simp [h1]
    have H9 := Lib.hid h9
    clear h0 h1 h9 HW6
    go_enter Tryz.func38, Tryz.ntmps38
    go_wp2_with (first | (go_at_call 68; refine (HPA.out _ (HE.out.below ((Below.refl _ _).alloc (Nat.le_refl _) _))).mono ?_; rintro e w1 ⟨rfl, hb1⟩; have B1 := Lib.hid (below_join ((Below.refl _ _).alloc (Nat.le_refl _) _) hb1 (by simp)); have c1 := (Bl.below (Bl.new _ _ _) hb1).cells10.2.1; have k1 := lt_of_cell c1; clear hb1) | (go_at_call 69; refine (HBT.out _).mono ?_; rintro e w2 ⟨rfl, rfl⟩) | (go_at_call 70; refine (HWD.out _).mono ?_; rintro e w3 ⟨rfl, hb3⟩; have B3 := Lib.hid (bjoin B1.out hb3); clear hb3))
    go_returns
    rw [H9.out]
    exact ⟨_, _, rfl, by simp, B3.out⟩
  · have e0 : (q3 != 0) = false := by simp [h0]
    have e1 : (wd == 16) = false := by rw [HW6]; simp only [decide_eq_false_iff_not]; exact h1
    have H9 := Lib.hid h9
    clear h0 h1 h9 HW6
    go_enter Tryz.func38, Tryz.ntmps38
    go_wp2_with (first | (go_at_call 68; refine (HPA.out _ (HE.out.below ((Below.refl _ _).alloc (Nat.le_refl _) _))).mono ?_; rintro e w1 ⟨rfl, hb1⟩; have B1 := Lib.hid (below_join ((Below.refl _ _).alloc (Nat.le_refl _) _) hb1 (by simp)); have c1 := (Bl.below (Bl.new _ _ _) hb1).cells10.2.1; have k1 := lt_of_cell c1; clear hb1) | (go_at_call 69; refine (HBT.out _).mono ?_; rintro e w2 ⟨rfl, rfl⟩) | (go_at_call 70; refine (HWD.out _).mono ?_; rintro e w3 ⟨rfl, hb3⟩; have B3 := Lib.hid (bjoin B1.out hb3); clear hb3))
    go_returns
    rw [H9.out]
    exact ⟨_, _, rfl, by simp, B3.out⟩
end Go.Proofs.YtdpkjpjkdmkkpaaGreatDoor
