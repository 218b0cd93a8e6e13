/- The walk through the Lex statements' known. -/
import Derived.Test.YtdabnnganponpaaGreatDoorLexR3
namespace Go.Proofs.YtdabnnganponpaaGreatDoor
open Go.RowKit Lx Ad

theorem kn1 : lTokens (⟨#[120, 32, 58, 61, 32, 73, 78, 84, 35, 45, 53, 32, 43, 32, 49, 54, 35, 70, 70, 32, 40, 42, 32, 99, 32, 42, 41, 59]⟩ : ByteArray).data.toList false = .ok [⟨2, 0, 0, [120], 0⟩, ⟨6, 0, 0, [58, 61], 2⟩, ⟨3, 3, -5, [], 5⟩, ⟨6, 0, 0, [43], 12⟩, ⟨3, 0, 255, [], 14⟩, ⟨6, 0, 0, [59], 27⟩, ⟨0, 0, 0, [], 28⟩] := by
  decide +kernel
theorem kn2 : lTokens (⟨#[84, 35, 49, 104, 51, 48, 109, 32, 37, 81, 88, 49, 46, 51, 32, 84, 82, 85, 69]⟩ : ByteArray).data.toList true = .ok [⟨4, 11, 5400000, [], 0⟩, ⟨5, 0, 0, [37, 81, 88, 49, 46, 51], 8⟩, ⟨3, 1, 1, [], 15⟩, ⟨0, 0, 0, [], 19⟩] := by
  decide +kernel
theorem kn3 : lTokens (⟨#[97, 32, 63, 32, 98]⟩ : ByteArray).data.toList false = .error (2, 120) := by
  decide +kernel
theorem kn4 : lWord ⟨#[69, 78, 68, 95, 73, 70]⟩ = true := by decide +kernel
theorem kn5 : lWord ⟨#[101, 110, 100, 95, 105, 102]⟩ = false := by decide +kernel

set_option maxRecDepth 100000 in
set_option maxHeartbeats 1600000 in
theorem known_at (w : World) (he : TEnv w) : Calls Tryz.prog 4 #[] w fun e w' => e = .returned (.bool true) ∧ Below w.heap.size w w' := by
  have HE := Lib.hid he
  clear he
  go_enter Tryz.func4, Tryz.ntmps4
  go_wp2_with (fail)
  refine (tokens_ok kn1 (by decide) (by decide) _ HE.out.lex).mono ?_
  rintro e w1 ⟨g1, p1, rfl, hc1, hb1⟩
  have a1 := hc1 3 _ rfl
  have a2 := hc1 8 _ rfl
  have a3 := hc1 11 _ rfl
  have a4 := hc1 12 _ rfl
  have a5 := hc1 22 _ rfl
  have a6 := hc1 30 _ rfl
  have H1 := Lib.hid hb1
  clear hc1 hb1
  go_wp2_with (fail)
  refine (tokens_ok kn2 (by decide) (by decide) _ (HE.out.lex.below H1.out)).mono ?_
  rintro e w2 ⟨g2, p2, rfl, hc2, hb2⟩
  have b1 := hc2 2 _ rfl
  have b2 := hc2 8 _ rfl
  have b3 := hc2 12 _ rfl
  have H2 := Lib.hid (bjoin H1.out hb2)
  clear hc2 hb2 a1 a2 a3 a4 a5 a6
  go_wp2_with (fail)
  refine (tokens_err kn3 (by decide) _ (HE.out.lex.below H2.out)).mono ?_
  rintro e w3 ⟨p3, rfl, hp3, hb3⟩
  replace b1 := cell_later hb3 b1
  replace b2 := cell_later hb3 b2
  replace b3 := cell_later hb3 b3
  have H3 := Lib.hid (And.intro hp3 (bjoin H2.out hb3))
  clear hp3 hb3
  go_wp2_with (fail)
  refine (told_place _ (HE.out.hnd.below H3.out.2) H3.out.1).mono ?_
  rintro e w4 ⟨rfl, hb4⟩
  replace b1 := cell_later hb4 b1
  replace b2 := cell_later hb4 b2
  replace b3 := cell_later hb4 b3
  have H4 := Lib.hid (bjoin H3.out.2 hb4)
  clear hb4
  go_wp2_with (fail)
  refine (lWord_at kn4 _ (HE.out.lex.below H4.out)).mono ?_
  rintro e w5 ⟨rfl, hb5⟩
  have H5 := Lib.hid (bjoin H4.out hb5)
  clear hb5
  go_wp2_with (fail)
  refine (lWord_at kn5 _ (HE.out.lex.below H5.out)).mono ?_
  rintro e w6 ⟨rfl, hb6⟩
  have H6 := Lib.hid (bjoin H5.out hb6)
  clear hb6
  go_wp2
  go_ret
  exact ⟨rfl, H6.out⟩
end Go.Proofs.YtdabnnganponpaaGreatDoor
