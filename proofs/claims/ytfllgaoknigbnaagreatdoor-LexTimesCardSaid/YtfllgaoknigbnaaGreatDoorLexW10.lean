/- The walk through package lex's blanks. -/
import Derived.Test.YtfllgaoknigbnaaGreatDoorLexT
namespace Go.Proofs.YtfllgaoknigbnaaGreatDoor
open Go.RowKit Lx Ad

/-- What the lexer's block holds. -/
def LexB (w : World) (b : Nat) (s : ByteArray) (a : Int) (il : Bool) (lv : Value) : Prop :=
  w.heap[b]? = some (.cells #[.string s, .int .i64 a, .bool il, lv] 53)
theorem LexB.cells {w : World} {b : Nat} {s : ByteArray} {a : Int} {il : Bool} {lv : Value} (h : LexB w b s a il lv) :
    w.cell? ⟨b, 0, none⟩ = some (.string s) ∧ w.cell? ⟨b, 1, none⟩ = some (.int .i64 a) ∧ w.cell? ⟨b, 2, none⟩ = some (.bool il) ∧ w.cell? ⟨b, 3, none⟩ = some lv ∧
    w.frozen? ⟨b, 0, none⟩ = false ∧ w.frozen? ⟨b, 1, none⟩ = false ∧ w.frozen? ⟨b, 2, none⟩ = false ∧ w.frozen? ⟨b, 3, none⟩ = false := by
  unfold LexB at h
  simp [World.cell?, World.frozen?, h]
theorem LexB.lt {w : World} {b : Nat} {s : ByteArray} {a : Int} {il : Bool} {lv : Value} (h : LexB w b s a il lv) : b < w.heap.size := by
  rcases Nat.lt_or_ge b w.heap.size with h1 | h1
  · exact h1
  · unfold LexB at h; rw [Array.getElem?_eq_none h1] at h; cases h
theorem LexB.below {w w' : World} {b : Nat} {s : ByteArray} {a : Int} {il : Bool} {lv : Value} (h : LexB w b s a il lv) (hb : Below w.heap.size w w') : LexB w' b s a il lv := blk_stays h hb
theorem LexB.drewN {w : World} {b : Nat} {s : ByteArray} {a : Int} {il : Bool} {lv : Value} (h : LexB w b s a il lv) (n : Nat) : LexB (w.drewN n) b s a il lv := h
theorem LexB.set {w : World} {b : Nat} {s : ByteArray} {a : Int} {il : Bool} {lv : Value} (h : LexB w b s a il lv) (a' : Int) : LexB (w.setCell ⟨b, 1, none⟩ (.int .i64 a')) b s a' il lv := by
  unfold LexB at h ⊢
  simp [World.setCell, Array.getElem?_modify, h]

theorem index_any (s p : ByteArray) (hs : s.size < 4294967281) (w : World) (he : Env w) :
    Calls Tryz.prog 27 #[.string s, .string p] w fun e w' => e = .returned (.int .i64 (Lib.index s.data.toList p.data.toList)) ∧ w = w' := by
  obtain ⟨m, hm⟩ := he.maxLen
  exact (Tryz.strings_Index s p m w hs hm).mono fun _ _ ⟨h, k⟩ => ⟨h, k.symm⟩

/-- What blanks answers. -/
def BlankPost (b : Nat) (s : ByteArray) (il : Bool) (lv : Value) (w : World) (r : Except Nat Nat) (e : Ending) (w' : World) : Prop := match r with
  | .ok a' => e = .returned .nilIface ∧ a' ≤ s.size ∧ LexB w' b s a' il lv ∧ Only b w w'
  | .error a' => ∃ p, e = .returned (.iface 47 (.pointer (some ⟨p, 0, none⟩))) ∧ w.heap.size ≤ p ∧ w'.heap[p]? = some (.cells #[.int .i64 a', .int .i64 120] 50) ∧ Only b w w'
end Go.Proofs.YtfllgaoknigbnaaGreatDoor
