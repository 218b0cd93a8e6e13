/- The walk through runghelp's Told: an error's place and number. -/
import Derived.Test.YtdabnnganponpaaGreatDoorAs
import Derived.Test.YtdabnnganponpaaGreatDoorLexW7
namespace Go.Proofs.YtdabnnganponpaaGreatDoor
open Go.RowKit

/-- What Told asks of the library's variables: the handle of the type 'error'. -/
def HEnv (w : World) : Prop := w.cell? ⟨0, 0, none⟩ = some (.iface 103 (.agg #[.pointer (some ⟨10, 26, none⟩)]))
theorem HEnv.below {w w' : World} (h : HEnv w) (hb : Below w.heap.size w w') : HEnv w' := (hb.cell (p := ⟨_, _, none⟩) (lt_of_cell h)).trans h

theorem as_place {p : Nat} {cs : Array Value} (w : World) (hg : HEnv w) (hp : w.heap[p]? = some (.cells cs 40)) :
    Calls Tryz.prog 12 #[.iface 37 (.pointer (some ⟨p, 0, none⟩)), .iface 50 (.pointer (some ⟨w.heap.size, 0, none⟩))] (w.alloc (.cells #[.pointer none] 37))
      fun e w' => e = .returned (.bool true) ∧ w'.cell? ⟨w.heap.size, 0, none⟩ = some (.pointer (some ⟨p, 0, none⟩)) ∧ w'.heap[p]? = some (.cells cs 40) ∧ Below w.heap.size w w' := by
  have hb1 : Below w.heap.size w (w.alloc (.cells #[.pointer none] 37)) := (Below.refl _ _).alloc (Nat.le_refl _) _
  have hg1 : HEnv (w.alloc (.cells #[.pointer none] 37)) := HEnv.below hg hb1
  have hpl : p < w.heap.size := by
    rcases Nat.lt_or_ge p w.heap.size with h | h
    · exact h
    · rw [Array.getElem?_eq_none h] at hp; cases hp
  refine (as_hit ⟨p, 0, none⟩ ⟨w.heap.size, 0, none⟩ (.pointer none) _ hg1 (by simp) (by simp)).mono ?_
  rintro e w' ⟨rfl, rfl⟩
  have hb : Below w.heap.size w ((((((w.alloc (.cells #[.pointer none] 37)).alloc (.cells #[.pointer (some ⟨w.heap.size, 0, none⟩)] 50)).alloc (.cells #[.pointer (some ⟨10, 50, none⟩), .pointer (some ⟨(w.alloc (.cells #[.pointer none] 37)).heap.size, 0, none⟩), .int .u64 150] 72)).alloc (.cells #[.pointer (some ⟨10, 50, none⟩), .pointer (some ⟨(w.alloc (.cells #[.pointer none] 37)).heap.size, 0, none⟩), .int .u64 150] 72)).alloc (.cells #[.pointer (some ⟨p, 0, none⟩)] 37)).setCell ⟨w.heap.size, 0, none⟩ (.pointer (some ⟨p, 0, none⟩))) := by
    refine Below.setCell (B := w.heap.size) ?_ (by simp) _
    refine Below.alloc ?_ (by simp; omega) _
    refine Below.alloc ?_ (by simp; omega) _
    refine Below.alloc ?_ (by simp; omega) _
    refine Below.alloc ?_ (by simp) _
    exact hb1
  refine ⟨rfl, ?_, (hb.block p hpl).trans hp, hb⟩
  refine World.cell?_setCell_same (u := .pointer none) _ _ _ ?_
  rw [World.cell?_alloc_lt _ _ ⟨w.heap.size, 0, none⟩ (by simp; omega), World.cell?_alloc_lt _ _ ⟨w.heap.size, 0, none⟩ (by simp; omega), World.cell?_alloc_lt _ _ ⟨w.heap.size, 0, none⟩ (by simp; omega), World.cell?_alloc_lt _ _ ⟨w.heap.size, 0, none⟩ (by simp)]
  simp

theorem as_place2 {p : Nat} {a n : Int} (w : World) (hg : HEnv w) (hp : w.heap[p]? = some (.cells #[.int .i64 a, .int .i64 n] 40)) :
    Calls Tryz.prog 12 #[.iface 37 (.pointer (some ⟨p, 0, none⟩)), .iface 50 (.pointer (some ⟨w.heap.size, 0, none⟩))] (w.alloc (.cells #[.pointer none] 37))
      fun e w' => e = .returned (.bool true) ∧ w'.cell? ⟨w.heap.size, 0, none⟩ = some (.pointer (some ⟨p, 0, none⟩)) ∧ w'.cell? ⟨p, 0, none⟩ = some (.int .i64 a) ∧ w'.cell? ⟨p, 1, none⟩ = some (.int .i64 n) ∧ Below w.heap.size w w' :=
  (as_place w hg hp).mono fun _ w' ⟨h1, h2, h3, h4⟩ => ⟨h1, h2, by simp [World.cell?, h3], by simp [World.cell?, h3], h4⟩

theorem told_nil (w : World) : Calls Tryz.prog 7 #[.nilIface] w fun e w' => e = .returned (.tuple #[.int .i64 0, .int .i64 0]) ∧ w = w' := by
  go_enter Tryz.func7, Tryz.ntmps7
  go_wp2
  exact bodyPost_ret (v := .tuple #[.int .i64 0, .int .i64 0]) (by simp [results, Tryz.results7, go_sem]) rfl ⟨rfl, rfl⟩

set_option maxRecDepth 100000 in
set_option maxHeartbeats 4000000 in
theorem told_place {a n : Int} {p : Nat} (w : World) (hg : HEnv w) (hp : w.heap[p]? = some (.cells #[.int .i64 a, .int .i64 n] 40)) :
    Calls Tryz.prog 7 #[.iface 37 (.pointer (some ⟨p, 0, none⟩))] w fun e w' => e = .returned (.tuple #[.int .i64 a, .int .i64 n]) ∧ Below w.heap.size w w' := by
  have HG := Lib.hid (And.intro hg hp)
  clear hg hp
  go_enter Tryz.func7, Tryz.ntmps7
  go_wp2_with (go_at_call 12; refine (as_place2 w HG.out.1 HG.out.2).mono ?_; rintro e w2 ⟨rfl, ht2, hc0, hc1, hb2⟩; have HB := Lib.hid hb2; clear hb2)
  go_quiet (fail)
  go_wp2
  exact bodyPost_ret (v := .tuple #[.int .i64 a, .int .i64 n]) (by simp [results, Tryz.results7, go_sem]) rfl ⟨rfl, HB.out.drewN _⟩
end Go.Proofs.YtdabnnganponpaaGreatDoor
