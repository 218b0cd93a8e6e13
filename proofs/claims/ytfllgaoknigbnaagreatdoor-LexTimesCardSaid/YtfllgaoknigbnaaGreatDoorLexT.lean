/- The chapter's examples, by the plain words; and what it means that only one old block changed. -/
import Derived.Test.YtfllgaoknigbnaaGreatDoorLexP4
namespace Go.Proofs.YtfllgaoknigbnaaGreatDoor
open Go.RowKit Lx

instance : DecidableEq (Except (Nat × Int) (List Tok)) := fun a b => match a, b with
  | .ok x, .ok y => if h : x = y then isTrue (by rw [h]) else isFalse (fun k => h (by injection k))
  | .error x, .error y => if h : x = y then isTrue (by rw [h]) else isFalse (fun k => h (by injection k))
  | .ok _, .error _ => isFalse (fun k => nomatch k)
  | .error _, .ok _ => isFalse (fun k => nomatch k)
theorem known1 : lTokens "x := INT#-5 + 16#FF (* c *);".toUTF8.data.toList false = .ok [⟨2, 0, 0, [120], 0⟩, ⟨6, 0, 0, [58, 61], 2⟩, ⟨3, 3, -5, [], 5⟩, ⟨6, 0, 0, [43], 12⟩, ⟨3, 0, 255, [], 14⟩, ⟨6, 0, 0, [59], 27⟩, ⟨0, 0, 0, [], 28⟩] := by
  decide +kernel
theorem known2 : (lTokens "T#1h30m %QX1.3 TRUE".toUTF8.data.toList true).toOption.map (fun l => l.map fun t => (t.n, t.text)) = some [(5400000, []), (0, "%QX1.3".toUTF8.data.toList), (1, []), (0, [])] := by
  decide +kernel
theorem known3 : lTokens "a ? b".toUTF8.data.toList false = .error (2, 120) := by
  decide +kernel

/-- Of the old blocks only block 'b' may have changed. -/
structure Only (b : Nat) (w w' : World) : Prop where
  os : w'.os = w.os
  tape : w'.tape = w.tape
  output : w'.output = w.output
  size : w.heap.size ≤ w'.heap.size
  block : ∀ k, k < w.heap.size → k ≠ b → w'.heap[k]? = w.heap[k]?
theorem Only.refl (b : Nat) (w : World) : Only b w w := ⟨rfl, rfl, rfl, Nat.le_refl _, fun _ _ _ => rfl⟩
theorem Only.trans {b : Nat} {w w1 w2 : World} (h : Only b w w1) (k : Only b w1 w2) : Only b w w2 :=
  ⟨k.os.trans h.os, k.tape.trans h.tape, k.output.trans h.output, Nat.le_trans h.size k.size, fun i hi hb => (k.block i (Nat.lt_of_lt_of_le hi h.size) hb).trans (h.block i hi hb)⟩
theorem Only.ofBelow {b : Nat} {w w' : World} (h : Below w.heap.size w w') : Only b w w' := ⟨h.os, h.tape, h.output, h.size, fun k hk _ => h.block k hk⟩
theorem Only.below {b B : Nat} {w w' : World} (h : Only b w w') (hb : B ≤ b) (hB : B ≤ w.heap.size) : Below B w w' :=
  ⟨h.os, h.tape, h.output, h.size, fun k hk => h.block k (by omega) (by omega)⟩
theorem Only.drewN {b : Nat} {w w' : World} (h : Only b w w') (n : Nat) : Only b w (w'.drewN n) := h.trans (Only.ofBelow ((Below.refl _ _).drewN n))
theorem Only.setCell {b : Nat} {w w' : World} (h : Only b w w') (o : Nat) (v : Value) : Only b w (w'.setCell ⟨b, o, none⟩ v) :=
  h.trans ⟨rfl, rfl, rfl, by simp [World.setCell], fun k _ hk => Below.heap_setCell _ _ _ _ (by simpa using hk)⟩
end Go.Proofs.YtfllgaoknigbnaaGreatDoor
