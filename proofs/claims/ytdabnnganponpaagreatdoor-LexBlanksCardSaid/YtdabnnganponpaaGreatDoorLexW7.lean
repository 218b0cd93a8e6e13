/- The walk through package lex's Word. -/
import Derived.Test.YtdabnnganponpaaGreatDoorLexW6
namespace Go.Proofs.YtdabnnganponpaaGreatDoor
open Go.RowKit Lx Ad

/-- The keywords that are no kinds. -/
def KW : List (List UInt8) := [[80, 82, 79, 71, 82, 65, 77], [69, 78, 68, 95, 80, 82, 79, 71, 82, 65, 77], [86, 65, 82], [82, 69, 84, 65, 73, 78], [69, 78, 68, 95, 86, 65, 82], [84, 89, 80, 69], [69, 78, 68, 95, 84, 89, 80, 69], [83, 84, 82, 85, 67, 84], [69, 78, 68, 95, 83, 84, 82, 85, 67, 84], [65, 82, 82, 65, 89], [79, 70], [65, 84], [73, 70], [84, 72, 69, 78], [69, 76, 83, 73, 70], [69, 76, 83, 69], [69, 78, 68, 95, 73, 70], [67, 65, 83, 69], [69, 78, 68, 95, 67, 65, 83, 69], [70, 79, 82], [84, 79], [66, 89], [68, 79], [69, 78, 68, 95, 70, 79, 82], [87, 72, 73, 76, 69], [69, 78, 68, 95, 87, 72, 73, 76, 69], [82, 69, 80, 69, 65, 84], [85, 78, 84, 73, 76], [69, 78, 68, 95, 82, 69, 80, 69, 65, 84], [69, 88, 73, 84], [82, 69, 84, 85, 82, 78], [65, 78, 68], [79, 82], [88, 79, 82], [78, 79, 84], [77, 79, 68]]
def mkS (l : List UInt8) : ByteArray := ⟨l.toArray⟩
def lWord (x : ByteArray) : Bool := kindOf x != 0 || Lib.containsS (KW.map mkS) x

/-- What lex asks of the library's variables besides Env. -/
structure LEnv (w : World) : Prop where
  env : Env w
  space : Lib.TabIs Tryz.prog w "strings.asciiSpace" .u8 Lib.asciiSpaceTab

theorem spaceAt : Tryz.prog.globalNamed "strings.asciiSpace" = some 1 := by kernel_rfl
theorem Env.lt {w : World} (h : Env w) : 3 < w.heap.size := by
  obtain ⟨m, hm⟩ := h.maxLen
  exact lt_of_cell hm
theorem LEnv.below {w w' : World} (h : LEnv w) (hb : Below w.heap.size w w') : LEnv w' where
  env := h.env.below hb
  space := Joins.tab_stays spaceAt h.space hb (Nat.le_refl _)

theorem fields_cells (L : List (List UInt8)) (w : World) (t : TypeId) (j : Nat) (hj : j < (L.map mkS).length) :
    (w.alloc (.cells (L.map fun l => Value.string ⟨l.toArray⟩).toArray t)).cell? ⟨w.heap.size, 0 + j, none⟩ = some (.string ((L.map mkS).getD j ByteArray.empty)) := by
  rw [Nat.zero_add, World.cell?_alloc_at _ _ _ _ rfl]
  rw [List.length_map] at hj
  rw [List.getElem?_toArray, List.getElem?_map, List.getElem?_eq_getElem hj, List.getD_eq_getElem?_getD, List.getElem?_map, List.getElem?_eq_getElem hj]
  rfl

theorem contains_fields (L : List (List UInt8)) (hn : L.length ≤ 1000) (x : ByteArray) (w : World) (t : TypeId) :
    Calls Tryz.prog 14 #[.slice (some ⟨w.heap.size, 0, none⟩) L.length L.length, .string x] (w.alloc (.cells (L.map fun l => Value.string ⟨l.toArray⟩).toArray t)) fun e w' => e = .returned (.bool (Lib.containsS (L.map mkS) x)) ∧ w.alloc (.cells (L.map fun l => Value.string ⟨l.toArray⟩).toArray t) = w' := by
  have h := Tryz.slices_Contains_string w.heap.size 0 L.length L.length (L.map mkS) x _ (by simp) (by omega) (fields_cells L w t)
  rw [List.take_of_length_le (by simp)] at h
  exact h.mono fun _ _ ⟨h1, k⟩ => ⟨h1, k.symm⟩

theorem ascii_of_all {l : List UInt8} (h : l.all (fun b => decide (b.toNat < 128)) = true) : ∀ (j : Nat) b, l[j]? = some b → b.toNat < 128 := by
  intro j b hj
  have := List.all_eq_true.1 h b (List.mem_of_getElem? hj)
  simpa using this
theorem fields_L (s : ByteArray) (L : List (List UInt8)) (hs : s.size < 4294967281) (ha : s.data.toList.all (fun b => decide (b.toNat < 128)) = true) (hL : Lib.fields s.data.toList = L) (w : World)
    (htab : Lib.TabIs Tryz.prog w "strings.asciiSpace" .u8 Lib.asciiSpaceTab) :
    Calls Tryz.prog 15 #[.string s] w fun e w' => e = .returned (.slice (some ⟨w.heap.size, 0, none⟩) L.length L.length) ∧ w' = w.alloc (.cells (L.map fun l => Value.string ⟨l.toArray⟩).toArray 9) := by
  subst hL
  exact Tryz.strings_Fields s w hs (ascii_of_all ha) htab

set_option maxRecDepth 100000 in
set_option maxHeartbeats 4000000 in
theorem lWord_at {x : ByteArray} {r : Bool} (hr : lWord x = r) (w : World) (he : LEnv w) :
    Calls Tryz.prog 8 #[.string x] w fun e w' => e = .returned (.bool r) ∧ Below w.heap.size w w' := by
  obtain ⟨k, hk⟩ : ∃ k, kindOf x = k := ⟨_, rfl⟩
  have HK := Lib.hid hk
  have HR : Hid ((k != 0 || Lib.containsS (KW.map mkS) x) = r) := Lib.hid (by rw [← hr, ← hk]; rfl)
  have HE := Lib.hid he
  clear hr hk he
  by_cases h0 : k = 0
  · subst h0
    have HR2 : Hid (Lib.containsS (KW.map mkS) x = r) := Lib.hid (by rw [← HR.out]; simp)
    clear HR
    go_enter Tryz.func8, Tryz.ntmps8
    go_wp2_with (go_at_call 13; refine (kind_at HK.out _).mono ?_; rintro e w1 ⟨rfl, hb1⟩)
    have HE1 := Lib.hid (HE.out.below hb1)
    refine (fields_L _ KW (by decide +kernel) (by decide +kernel) (by decide +kernel) _ HE1.out.space).mono ?_
    rintro e w2 ⟨rfl, rfl⟩
    go_wp2_with (go_at_call 14; refine (contains_fields KW (by decide) x _ _).mono ?_; rintro e w3 ⟨rfl, rfl⟩)
    go_ret
    exact ⟨ret_bool HR2.out, hb1.alloc hb1.size _⟩
  · have h0' : ¬ ((k : Int) = 0) := by omega
    have HR2 : Hid (true = r) := Lib.hid (by rw [← HR.out]; simp [h0])
    clear HR
    go_enter Tryz.func8, Tryz.ntmps8
    go_wp2_with (go_at_call 13; refine (kind_at HK.out _).mono ?_; rintro e w1 ⟨rfl, hb1⟩)
    go_ret
    exact ⟨ret_bool HR2.out, hb1⟩
end Go.Proofs.YtdabnnganponpaaGreatDoor
