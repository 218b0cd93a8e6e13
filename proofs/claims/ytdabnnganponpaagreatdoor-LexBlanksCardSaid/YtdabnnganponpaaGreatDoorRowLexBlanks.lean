/- The statement LexBlanks holds for every input: the call returns true and leaves its arguments as they were. Beyond the row's own words there is no condition; the card ties the listed variables of Go's library to the program's text. -/
import Derived.Test.YtdabnnganponpaaGreatDoorLexLY
import Derived.Test.YtdabnnganponpaaGreatDoorRowKitL
import Derived.Test.YtdabnnganponpaaGreatDoorCards
import Derived.Test.YtdabnnganponpaaGreatDoorTie
import Derived.SevenTiedAt
namespace Go.Proofs.YtdabnnganponpaaGreatDoor
open Go.ChangeShapes Go.WideShapes Go.ChangeAt Go.WideMaps Go.WideElems Go.RowKit
open Go.ChangeMaps (open_string shut_string)
/-- What a []uint8 that was handed in holds. -/
theorem bytes_given {H : Type} {enc : TypeId × Value → H} {W : World} {fuel n cp : Nat} {a : Option Addr} {d : DataW H} {ps : List MemPlace} (h : DataW.trod enc Tryz.prog W 0 (fun _ => true) true fuel 22 (Value.slice a n cp).cells.toList = some (d, ps)) :
    ∃ zs : List Int, (0 < n → ∃ bb off, a = some ⟨bb, off, none⟩ ∧ ∀ i, i < n → W.cell? ⟨bb, off + i, none⟩ = some (.int .u8 (zs.getD i 0))) ∧ (∀ i, i < n → 0 ≤ zs.getD i 0 ∧ zs.getD i 0 ≤ 255) ∧ n ≤ 9223372036854775807 := by
  rcases open_ints Tryz.underlying22 Tryz.underlying5 (by kernel_rfl) h with ⟨hcs, _⟩ | ⟨a', len', cap', zs, hcs, _, hl, hm, hz, _, hcell, hwz⟩
  · simp [Value.cells] at hcs
    obtain ⟨rfl, rfl, rfl⟩ := hcs
    exact ⟨[], fun h => absurd h (by omega), fun i h => absurd h (by omega), by omega⟩
  · simp [Value.cells] at hcs
    obtain ⟨rfl, rfl, rfl⟩ := hcs
    simp only [if_true] at hz
    simp only [maxLen] at hm
    refine ⟨zs, fun h0 => ?_, fun i hi => ?_, by omega⟩
    · obtain ⟨bb, off, spot⟩ := a'
      have h1 := hcell 0 (by omega)
      have hs : spot = none := by
        cases spot with
        | none => rfl
        | some s =>
          exfalso
          simp only [Addr.add, if_true, World.cell?] at h1
          split at h1 <;> simp at h1
      subst hs
      refine ⟨bb, off, rfl, fun i hi => ?_⟩
      have h2 := hcell i (by omega)
      have hadd : (⟨bb, off, none⟩ : Addr).add i = ⟨bb, off + i, none⟩ := by unfold Addr.add; split <;> simp_all
      rw [hadd] at h2
      exact h2
    · have hlt : i < zs.length := by omega
      have hm2 : zs.getD i 0 = zs[i] := by rw [List.getD_eq_getElem?_getD, List.getElem?_eq_getElem hlt]; rfl
      rw [hm2]
      exact bounds_u8 (hwz _ (List.getElem_mem hlt))

set_option maxRecDepth 100000 in
theorem lexBlanks_lifted (os : Os) (started : os.Started) (H : Type) (enc : TypeId × Value → H) :
    ReturnsInHanded {} Tryz.checked os 3 .any (fun w args => (Rows.lexBlanksSpec.pre enc Tryz.prog Tryz.f3 [] false w args ∧ laidMetH Tryz.prog laidAll w) ∧ sizedMet enc Tryz.prog Tryz.f3 (OpenSpec.ofChange Rows.lexBlanksSpec) false w args)
      (Rows.lexBlanksSpec.post enc Tryz.prog Tryz.f3 false true false false) := by
  refine wrapBoth (C := Tryz.checked) (X := fun w _ => laidMetH Tryz.prog laidAll w) (fun _ _ _ hh h => h.of_heap hh) rowOwn started (by kernel_rfl) Tryz.func3
    (ChangeSpec.witness_shaped (enc := enc) (C := Tryz.checked) (os := os) (X := fun w _ => laidMetH Tryz.prog laidAll w) false (World.doorLaid Tryz.prog doorSteps os) #[.string ⟨#[]⟩, .slice none 0 0] 8 rfl (World.shaped_of_RefB (by kernel_rfl) (by kernel_rfl)) (by kernel_rfl) (by kernel_rfl) (by kernel_rfl) (door_met os _)) ?_
  intro W base args ds gs before hval0 hW _ hsz0 hL hshape _
  have hsz : (DataW.weightsEach Tryz.prog (Tryz.f3.params.toList ++ Rows.lexBlanksSpec.plain.varTypes Tryz.prog) (ds ++ gs)).all (· ≤ reachBytes) = true := hsz0
  clear hsz0
  have hval : ∀ (j : Nat) t v, Tryz.f3.params[j]? = some t → args[j]? = some v → Value.okWide Tryz.prog W .any base t v := hval0
  have hW' := hW
  obtain ⟨p, q, hA0, hV, rfl, _, _⟩ := hW
  have hA : DataW.TrodAll enc Tryz.prog W 0 (fun _ => true) true Tryz.f3.params.toList args.toList ds p := hA0
  rw [Tryz.params3] at hA hval hsz
  obtain ⟨v0, v1, d0, d1, p0, p1, rfl, rfl, rfl, h0, h1⟩ := trodAll_two hA
  obtain ⟨rfl, rfl⟩ := trodVars_none hV
  obtain ⟨x0, rfl, rfl, rfl, b0⟩ := open_string Tryz.underlying9 (hval 0 9 v0 rfl rfl) h0
  obtain ⟨a1, n1, c1, rfl⟩ := okWide_slice Tryz.underlying22 (hval 1 22 v1 rfl rfl)
  have hk1 := h1
  obtain ⟨fuel1, hf1⟩ := h1
  clear hA0 hval0
  simp only [List.append_nil] at hW'
  have l0 : x0.size ≤ 140737488351232 := by
    have h1 := sized_string hsz (j := 0) (t := 9) rfl rfl
    have e1 : x0.size = x0.data.size := rfl
    have e2 : x0.data.toList.length = x0.data.size := Array.length_toList
    have e3 : reachBytes = 140737488351232 := rfl
    omega
  have hlt1 : ∀ x ∈ p1, x.block < W.heap.size := fun x hx => hW'.lt x (by simp [hx])
  obtain ⟨zs1, y1⟩ := bytes_given hf1
  refine (lexBlanks_walk x0 l0 a1 n1 c1 zs1 y1 (env_of hL hshape)).mono fun e W' ⟨he, hnx⟩ => ?_
  subst he
  refine ⟨_, rfl, _, _, _, [], [] ++ (p1), [], hW', ?_, ?_, rfl, hnx.frame _, fun h => by cases h⟩
  · exact trodAll_mk1 (shut_bool Tryz.underlying4 _)
  · exact trodAll_mk2 (shut_string Tryz.underlying9 b0) (Below.trod rowLaidOut (by kernel_rfl) (of_decide_eq_true (by kernel_rfl)) hk1 hnx hlt1)

theorem lexBlanks_row : Rows.LexBlanksSaid :=
  OpenClaim.holds_of_wide 3 Tryz.f3 rfl rfl rfl rfl rfl rfl rfl ⟨rfl, rfl, rfl, rfl, rfl⟩ rfl rfl rfl rfl rfl (by kernel_rfl) Tryz.func3 (by kernel_rfl)
    (of_decide_eq_true (by kernel_rfl)) (by unfold Func.isWrapper; rw [if_neg (of_decide_eq_false (by kernel_rfl))]; exact ⟨rfl, rfl⟩)
    (fun os started H enc _ => lexBlanks_lifted os started H enc)

theorem lexBlanks_holds : Rows.LexBlanksCardSaid :=
  Claim7.holds_tied_plain_at .later [] laidKinds true (true, rowHarness) true
    lexBlanks_row (fun _ h => by cases h) (by kernel_rfl) (fun _ h => by cases h) lexBlanks_row_tie rfl ⟨rfl, rfl⟩ (by kernel_rfl) rfl
    (fun f fn hf hfn => by
      obtain rfl : f = 3 := Option.some.inj ((show Tryz.prog.funcNamed "rung/runglaw12.LexBlanks" = some 3 by kernel_rfl).symm.trans hf) |>.symm
      obtain rfl : fn = Tryz.f3 := (Option.some.inj (Tryz.func3.symm.trans hfn)).symm
      exact ⟨by kernel_rfl, fun j t ht => by
        rw [Tryz.params3] at ht
        have h3 : t = 9 ∨ t = 22 := by
          rcases j with _ | ⟨_ | j⟩
          · simp at ht; subst ht; simp
          · simp at ht; subst ht; simp
          · simp at ht
        rcases h3 with rfl | rfl
        · exact (show Tryz.prog.wantsStandIn 9 = false by kernel_rfl)
        · exact (show Tryz.prog.wantsStandIn 22 = false by kernel_rfl)⟩)
    (by kernel_rfl)
#print axioms lexBlanks_holds
end Go.Proofs.YtdabnnganponpaaGreatDoor
