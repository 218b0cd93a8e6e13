/- The walks through the Types statements' parsed and known. -/
import Derived.Test.YtdpkjpjkdmkkpaaGreatDoorNB
import Derived.Test.YtdpkjpjkdmkkpaaGreatDoorMX
import Derived.Test.YtdpkjpjkdmkkpaaGreatDoorMC
namespace Go.Proofs.YtdpkjpjkdmkkpaaGreatDoor
open Go.RowKit Lx Pa Ad

theorem PVals.form {w : World} {P : Nat → Prop} {il : Bool} {d : PDecl} {row : List Value} (h : PVals w P il d row) :
    ∃ nb va vn vc ua un uc, row = [.string nb, .slice va vn vc, .slice ua un uc, .bool il, .slice none 0 0, .slice none 0 0] := by
  obtain ⟨vs, vv, rfl, hss, ⟨cs, hsl, _⟩⟩ := h
  obtain ⟨va, vn, vc, rfl⟩ := hss.shape
  obtain ⟨ua, uc, rfl, _⟩ := hsl.form
  exact ⟨_, _, _, _, _, _, _, rfl⟩
/-- What parsed answers. -/
def ParsedPost (d : PDecl) (w : World) (e : Ending) (w' : World) : Prop := ∃ row, e = .returned (.agg row.toArray) ∧ PVals w' (Btw w.heap.size w'.heap.size) false d row ∧ Below w.heap.size w w'

set_option maxRecDepth 100000 in
set_option maxHeartbeats 4000000 in
theorem parsed_at {x : ByteArray} {ts : List Tok} {d : PDecl} (hts : rTokens x.data.toList false = .ok ts) (hok : POk ts d) (hs : x.size ≤ 65536) (w : World) :
    Calls Tryz.prog 24 #[.string x] w (ParsedPost d w) := by
  have HC := Lib.hid (fun W => parse_at hts hok hs W)
  clear hts hok hs
  go_enter Tryz.func24, Tryz.ntmps24
  go_wp2_with fail
  refine (HC.out _).mono ?_
  rintro e w1 ⟨row, rfl, hd, hb⟩
  obtain ⟨nb, va, vn, vc, ua, un, uc, rfl⟩ := hd.form
  have D1 := Lib.hid hd
  have B1 := Lib.hid hb
  have R1 := Lib.hid ((Bl.new w #[.string ⟨#[]⟩, .slice none 0 0, .slice none 0 0, .bool false, .slice none 0 0, .slice none 0 0] 28).below hb)
  have BW : Hid (Below w.heap.size w w1) := Lib.hid (below_join ((Below.refl _ _).alloc (Nat.le_refl _) _) hb (by simp))
  have kr := R1.out.lt
  clear hd hb HC
  go_upto_region 2 with fail
  refine gen_world (P := Code.wp _ _ _ _) (F := fun W => Bl W w.heap.size #[.string ⟨#[]⟩, .slice none 0 0, .slice none 0 0, .bool false, .slice none 0 0, .slice none 0 0] 28 ∧ Bl W w1.heap.size #[.string nb, .slice va vn vc, .slice ua un uc, .bool false, .slice none 0 0, .slice none 0 0] 28 ∧ Only w.heap.size w1 W)
    ⟨R1.out.alloc _, Bl.new w1 _ _, alloc_only _ _ _⟩ ?_
  intro w2 ⟨R2, P2, O2⟩
  have O2 := Lib.hid O2
  obtain ⟨q0, q1, q2, q3, q4, q5⟩ := P2.cells6
  obtain ⟨r0, r1, r2, r3, r4, r5⟩ := R2.cells6
  obtain ⟨g0, g1, g2, g3, g4, g5⟩ := R2.free6
  have k2 := R2.lt
  have k3 := P2.lt
  have R2 := Lib.hid R2
  clear P2
  go_wp2_with fail
  refine gen_world (P := bodyPost _ _ _ _ _) (F := fun W => Bl W w.heap.size #[.string nb, .slice va vn vc, .slice ua un uc, .bool false, .slice none 0 0, .slice none 0 0] 28 ∧ Only w.heap.size w1 W)
    ⟨R2.out.set6, (((((O2.out.setCell _ _).setCell _ _).setCell _ _).setCell _ _).setCell _ _).setCell _ _⟩ ?_
  clear q0 q1 q2 q3 q4 q5 r0 r1 r2 r3 r4 r5 g0 g1 g2 g3 g4 g5 k2 k3
  intro wz ⟨RZ, OZ⟩
  obtain ⟨r0, r1, r2, r3, r4, r5⟩ := RZ.cells6
  refine bodyPost_ret (v := .agg #[.string nb, .slice va vn vc, .slice ua un uc, .bool false, .slice none 0 0, .slice none 0 0]) (by simp [results, Tryz.results24, go_sem, *]) rfl ?_
  refine ⟨_, rfl, D1.out.keeps ⟨OZ.sameOn (fun h => by have := h.1; simp at this <;> omega), fun a ha => ⟨by have := ha.1; simp at this; omega, Nat.lt_of_lt_of_le ha.2 OZ.size⟩⟩, BW.out.trans (OZ.below (Nat.le_refl _) BW.out.size)⟩

/-- All that the known text answers, with the text out of sight. -/
structure Known1 (x : ByteArray) (d : PDecl) (l : List Ty.Cell) : Prop where
  run : ∀ w, Calls Tryz.prog 24 #[.string x] w (ParsedPost d w)
  ok : DeclOk d
  check : Ty.check d.structs d.vars = none
  cells : Ty.cells d.structs d.vars = l
  len : l.length = 12
  c0 : ∃ c, l[0]? = some c ∧ c.index = 2
  c10 : ∃ c, l[10]? = some c ∧ c.init = 3
  c11 : ∃ c, l[11]? = some c ∧ c.retain = true
  find : Ty.find d.structs d.vars [116] [69, 84] 0 = 6
  field : Ty.fieldOf d.structs 0 [84, 79, 78] [69, 84] = (11, true)
theorem text1_known : ∃ d l, Known1 text1 d l :=
  ⟨declOf text1, knownCells, ⟨fun w => parsed_at (okText_tokens text1_ok) (okText_ok text1_ok) (of_decide_eq_true (by kernel_rfl)) w, text1_decl, known_check1, rfl, known_len, known_c0, known_c10, known_c11, known_find, known_field⟩⟩
theorem text2_known : ∃ d, (∀ w, Calls Tryz.prog 24 #[.string text2] w (ParsedPost d w)) ∧ DeclOk d ∧ Ty.check d.structs d.vars = some (23, 151) :=
  ⟨declOf text2, fun w => parsed_at (okText_tokens text2_ok) (okText_ok text2_ok) (of_decide_eq_true (by kernel_rfl)) w, text2_decl, known_check2⟩
end Go.Proofs.YtdpkjpjkdmkkpaaGreatDoor

/- The walk through the Types statements' known. -/
namespace Go.Proofs.YtdpkjpjkdmkkpaaGreatDoor
open Go.RowKit Lx Pa Ad

set_option maxRecDepth 100000 in
set_option maxHeartbeats 8000000 in
theorem known_at (w : World) (he : TEnv w) : Calls Tryz.prog 8 #[] w fun e w' => e = .returned (.bool true) ∧ Below w.heap.size w w' := by
  obtain ⟨d, l, K⟩ := text1_known
  obtain ⟨d2, hd2, ok2, ck2⟩ := text2_known
  have HK := Lib.hid K
  have HQ := Lib.hid (And.intro hd2 (And.intro ok2 ck2))
  have HE := Lib.hid he
  clear K hd2 ok2 ck2 he
  go_enter Tryz.func8, Tryz.ntmps8
  go_wp2_with fail
  refine (HK.out.run w).mono ?_
  rintro e w1 ⟨row, rfl, hd, hb⟩
  obtain ⟨nb, va, vn, vc, ua, un, uc, rfl⟩ := hd.form
  have D1 := Lib.hid hd
  have B1 := Lib.hid hb
  clear hd hb
  go_upto_region 2 with fail
  refine gen_world (P := Code.wp _ _ _ _) (F := fun W => Bl W w1.heap.size #[.string nb, .slice va vn vc, .slice ua un uc, .bool false, .slice none 0 0, .slice none 0 0] 28 ∧ PVals W (Btw w.heap.size w1.heap.size) false d [.string nb, .slice va vn vc, .slice ua un uc, .bool false, .slice none 0 0, .slice none 0 0] ∧ Below w.heap.size w W)
    ⟨Bl.new w1 _ _, D1.out.keeps ⟨Only.sameOn (b := w1.heap.size) (alloc_only w1.heap.size w1 _) (fun h => by have := h.2; omega), fun _ h => h⟩, B1.out.alloc B1.out.size _⟩ ?_
  clear D1 B1
  intro w2 ⟨P2, D2, B2⟩
  obtain ⟨X, hX⟩ : ∃ X, w1.heap.size = X := ⟨_, rfl⟩
  rw [hX] at P2 D2 ⊢
  clear hX
  have HX2 : Hid (∀ a, Btw w.heap.size X a → a < w2.heap.size) := Lib.hid (fun a ha => Nat.lt_trans ha.2 P2.lt)
  have P2 := Lib.hid P2
  have D2 := Lib.hid D2
  have B2 := Lib.hid B2
  obtain ⟨q0, q1, q2, q3, q4, q5⟩ := P2.out.cells6
  have kp := P2.out.lt
  go_wp2_with fail
  refine (tcells_at HK.out.cells HK.out.ok w2 HX2.out (HE.out.lex.below B2.out) D2.out).mono ?_
  rintro e w3 ⟨cv, rfl, hc, hb⟩
  rw [HK.out.len] at hc
  obtain ⟨g, cp, rfl, _, _⟩ := hc.form (by omega)
  have A3 : Hid (w3.cell? ⟨g, 2, none⟩ = some (.int .i64 2) ∧ w3.cell? ⟨g, 87, none⟩ = some (.int .i64 3) ∧ w3.cell? ⟨g, 92, none⟩ = some (.bool true)) := Lib.hid (by
    obtain ⟨c0, h0, hi0⟩ := HK.out.c0
    obtain ⟨c10, h10, hi10⟩ := HK.out.c10
    obtain ⟨c11, h11, hi11⟩ := HK.out.c11
    refine ⟨?_, ?_, ?_⟩
    · have h := hc.cells (g := g) rfl 2 _ (cellsC_get h0 (j := 2) rfl)
      rw [hi0] at h
      simpa [Addr.add] using h
    · have h := hc.cells (g := g) rfl 87 _ (cellsC_get h10 (j := 7) rfl)
      rw [hi10] at h
      simpa [Addr.add] using h
    · have h := hc.cells (g := g) rfl 92 _ (cellsC_get h11 (j := 4) rfl)
      rw [hi11] at h
      simpa [Addr.add] using h)
  have P3 := Lib.hid (P2.out.below hb)
  have D3 := Lib.hid (D2.out.keeps (keepsOf hb))
  have HX3 : Hid (∀ a, Btw w.heap.size X a → a < w3.heap.size) := Lib.hid (fun a ha => Nat.lt_of_lt_of_le (HX2.out a ha) hb.size)
  have B3 := Lib.hid (bjoin B2.out hb)
  clear hc hb P2 D2 B2 HX2
  clear q0 q1 q2 q3 q4 q5 kp
  go_wp2_with fail
  refine (HQ.out.1 w3).mono ?_
  rintro e w4 ⟨row2, rfl, hd, hb⟩
  obtain ⟨nb2, va2, vn2, vc2, ua2, un2, uc2, rfl⟩ := hd.form
  have E4 := Lib.hid hd
  have B4 := Lib.hid hb
  clear hd hb
  go_upto_region 4 with fail
  refine gen_world (P := Code.wp _ _ _ _) (F := fun W => Bl W w4.heap.size #[.string nb2, .slice va2 vn2 vc2, .slice ua2 un2 uc2, .bool false, .slice none 0 0, .slice none 0 0] 28 ∧ PVals W (Btw w3.heap.size w4.heap.size) false d2 [.string nb2, .slice va2 vn2 vc2, .slice ua2 un2 uc2, .bool false, .slice none 0 0, .slice none 0 0] ∧ Below w3.heap.size w3 W)
    ⟨Bl.new w4 _ _, E4.out.keeps ⟨Only.sameOn (b := w4.heap.size) (alloc_only w4.heap.size w4 _) (fun h => by have := h.2; omega), fun _ h => h⟩, B4.out.alloc B4.out.size _⟩ ?_
  clear E4 B4
  intro w5 ⟨Q5, E5, hb⟩
  obtain ⟨Y, hY⟩ : ∃ Y, w4.heap.size = Y := ⟨_, rfl⟩
  rw [hY] at Q5 E5 ⊢
  clear hY
  have E5 := Lib.hid E5
  obtain ⟨q0, q1, q2, q3, q4, q5⟩ := Q5.cells6
  have kp := Q5.lt
  clear Q5
  have P5 := Lib.hid (P3.out.below hb)
  have D5 := Lib.hid (D3.out.keeps (keepsOf hb))
  have A5 := Lib.hid (And.intro (cell_later hb A3.out.1) (And.intro (cell_later hb A3.out.2.1) (cell_later hb A3.out.2.2)))
  have HX5 : Hid (∀ a, Btw w.heap.size X a → a < w5.heap.size) := Lib.hid (fun a ha => Nat.lt_of_lt_of_le (HX3.out a ha) hb.size)
  have B5 := Lib.hid (bjoin B3.out hb)
  clear hb P3 D3 A3 HX3 B3
  go_wp2_with fail
  refine (tcheck_at HQ.out.2.2 HQ.out.2.1 w5 (HE.out.lex.below B5.out) E5.out).mono ?_
  rintro e w6 ⟨ev, rfl, ⟨pp, rfl, hp⟩, hb⟩
  clear E5
  clear q0 q1 q2 q3 q4 q5 kp
  have P6 := Lib.hid (P5.out.below hb)
  have D6 := Lib.hid (D5.out.keeps (keepsOf hb))
  have A6 := Lib.hid (And.intro (cell_later hb A5.out.1) (And.intro (cell_later hb A5.out.2.1) (cell_later hb A5.out.2.2)))
  have HX6 : Hid (∀ a, Btw w.heap.size X a → a < w6.heap.size) := Lib.hid (fun a ha => Nat.lt_of_lt_of_le (HX5.out a ha) hb.size)
  have B6 := Lib.hid (bjoin B5.out hb)
  clear hb P5 D5 A5 HX5 B5
  have HPP := Lib.hid hp
  clear hp
  go_wp2_with fail
  refine (told_place w6 (HE.out.hnd.below B6.out) HPP.out).mono ?_
  rintro e w7 ⟨rfl, hb⟩
  clear HPP
  have P7 := Lib.hid (P6.out.below hb)
  have D7 := Lib.hid (D6.out.keeps (keepsOf hb))
  have A7 := Lib.hid (And.intro (cell_later hb A6.out.1) (And.intro (cell_later hb A6.out.2.1) (cell_later hb A6.out.2.2)))
  have HX7 : Hid (∀ a, Btw w.heap.size X a → a < w7.heap.size) := Lib.hid (fun a ha => Nat.lt_of_lt_of_le (HX6.out a ha) hb.size)
  have B7 := Lib.hid (bjoin B6.out hb)
  clear hb P6 D6 A6 HX6 B6
  obtain ⟨q0, q1, q2, q3, q4, q5⟩ := P7.out.cells6
  have kp := P7.out.lt
  go_wp2_with fail
  refine (tfieldOf_at (TN := ⟨#[84, 79, 78]⟩) (Q := ⟨#[69, 84]⟩) HK.out.field w7 (HE.out.lex.below B7.out) D7.out HK.out.ok.few (fun s hs => (HK.out.ok.strs s hs).few)).mono ?_
  rintro e w8 ⟨rfl, hb⟩
  clear q0 q1 q2 q3 q4 q5 kp
  have P8 := Lib.hid (P7.out.below hb)
  have D8 := Lib.hid (D7.out.keeps (keepsOf hb))
  have A8 := Lib.hid (And.intro (cell_later hb A7.out.1) (And.intro (cell_later hb A7.out.2.1) (cell_later hb A7.out.2.2)))
  have HX8 : Hid (∀ a, Btw w.heap.size X a → a < w8.heap.size) := Lib.hid (fun a ha => Nat.lt_of_lt_of_le (HX7.out a ha) hb.size)
  have B8 := Lib.hid (bjoin B7.out hb)
  clear hb P7 D7 A7 HX7 B7
  go_wp2_with fail
  refine (tpins2_at ⟨#[67, 84, 85]⟩ w8 (HE.out.lex.below B8.out)).mono ?_
  rintro e w9 ⟨v1, v2, rfl, ho1, ho2, hb⟩
  rw [show (Ty.insOf (⟨#[67, 84, 85]⟩ : ByteArray).data.toList).length = 3 from known_ins] at ho1
  rw [show (Ty.outsOf (⟨#[67, 84, 85]⟩ : ByteArray).data.toList).length = 2 from known_outs] at ho2
  obtain ⟨g1, cp1, rfl, _, _⟩ := ho1.form (by omega)
  obtain ⟨g2, cp2, rfl, _, _⟩ := ho2.form (by omega)
  clear ho1 ho2
  have P9 := Lib.hid (P8.out.below hb)
  have D9 := Lib.hid (D8.out.keeps (keepsOf hb))
  have A9 := Lib.hid (And.intro (cell_later hb A8.out.1) (And.intro (cell_later hb A8.out.2.1) (cell_later hb A8.out.2.2)))
  have HX9 : Hid (∀ a, Btw w.heap.size X a → a < w9.heap.size) := Lib.hid (fun a ha => Nat.lt_of_lt_of_le (HX8.out a ha) hb.size)
  have B9 := Lib.hid (bjoin B8.out hb)
  clear hb P8 D8 A8 HX8 B8
  obtain ⟨q0, q1, q2, q3, q4, q5⟩ := P9.out.cells6
  have kp := P9.out.lt
  go_wp2_with fail
  refine (tcheck_at HK.out.check HK.out.ok w9 (HE.out.lex.below B9.out) D9.out).mono ?_
  rintro e w10 ⟨ev2, rfl, hev, hb⟩
  have hev2 : ev2 = .nilIface := hev
  subst hev2
  clear hev
  clear q0 q1 q2 q3 q4 q5 kp
  have P10 := Lib.hid (P9.out.below hb)
  have D10 := Lib.hid (D9.out.keeps (keepsOf hb))
  have A10 := Lib.hid (And.intro (cell_later hb A9.out.1) (And.intro (cell_later hb A9.out.2.1) (cell_later hb A9.out.2.2)))
  have HX10 : Hid (∀ a, Btw w.heap.size X a → a < w10.heap.size) := Lib.hid (fun a ha => Nat.lt_of_lt_of_le (HX9.out a ha) hb.size)
  have B10 := Lib.hid (bjoin B9.out hb)
  clear hb P9 D9 A9 HX9 B9
  obtain ⟨q0, q1, q2, q3, q4, q5⟩ := P10.out.cells6
  have kp := P10.out.lt
  obtain ⟨a0, a1, a2⟩ := A10.out
  have ka := lt_of_cell a0
  go_wp2_with fail
  refine (tfind_at (NM := ⟨#[116]⟩) (FD := ⟨#[69, 84]⟩) HK.out.find HK.out.ok w10 HX10.out (HE.out.lex.below B10.out) D10.out).mono ?_
  rintro e w11 ⟨rfl, hb⟩
  clear a0 a1 a2 ka
  clear q0 q1 q2 q3 q4 q5 kp
  have P11 := Lib.hid (P10.out.below hb)
  have D11 := Lib.hid (D10.out.keeps (keepsOf hb))
  have A11 := Lib.hid (And.intro (cell_later hb A10.out.1) (And.intro (cell_later hb A10.out.2.1) (cell_later hb A10.out.2.2)))
  have HX11 : Hid (∀ a, Btw w.heap.size X a → a < w11.heap.size) := Lib.hid (fun a ha => Nat.lt_of_lt_of_le (HX10.out a ha) hb.size)
  have B11 := Lib.hid (bjoin B10.out hb)
  clear hb P10 D10 A10 HX10 B10
  go_wp2_with fail
  refine (tblock_at (x := ⟨#[83, 82]⟩) known_sr w11).mono ?_
  rintro e w12 ⟨rfl, rfl⟩
  go_wp2_with fail
  refine (tpin_at (x := ⟨#[67, 84, 68]⟩) (q := ⟨#[76, 68]⟩) known_ld w11 (HE.out.lex.below B11.out)).mono ?_
  rintro e w13 ⟨rfl, hb⟩
  have B13 := Lib.hid (bjoin B11.out hb)
  clear hb
  go_wp2_with fail
  go_ret
  exact ⟨rfl, B13.out⟩
end Go.Proofs.YtdpkjpjkdmkkpaaGreatDoor

/- The walk through the statements' help Place. -/
namespace Go.Proofs.YtdpkjpjkdmkkpaaGreatDoor
open Go.RowKit Lx Ad

set_option maxHeartbeats 400000 in
/-- runghelp.Place: the remainder that is not below 0. -/
theorem hplace_at (k n : Int) (hk : -9223372036854775808 ≤ k) (hk2 : k ≤ 9223372036854775807) (hn : 0 < n) (hn2 : n ≤ 9223372036854775807) (w : World) :
    Calls Tryz.prog 23 #[.int .i64 k, .int .i64 n] w fun e w' => e = .returned (.int .i64 (k % n)) ∧ w = w' := by
  by_cases h0 : 0 ≤ k
  · have hm : 0 ≤ k % n ∧ k % n < n := ⟨Int.emod_nonneg _ (by omega), Int.emod_lt_of_pos _ hn⟩
    obtain ⟨m0, m1⟩ := hm
    go_enter Tryz.func23, Tryz.ntmps23
    go_wp2
    go_ret
    exact ⟨rfl, rfl⟩
  · have ht := tmod_neg (k := k) hn (by omega)
    obtain ⟨t0, t1, t2, t3⟩ := ht
    have T2 := Lib.hid t2
    have T3 := Lib.hid t3
    clear t2 t3
    go_enter Tryz.func23, Tryz.ntmps23
    go_wp2
    · go_ret
      exact ⟨ret_i64 (T2.out (by assumption)), rfl⟩
    · go_ret
      exact ⟨ret_i64 (T3.out (by assumption)), rfl⟩
end Go.Proofs.YtdpkjpjkdmkkpaaGreatDoor
