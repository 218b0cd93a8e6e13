/- The known text of no variable; the memory of many arrays. -/
import Derived.Test.YtdpkjpjkdmkkpaaGreatDoorTyB3
import Derived.Test.YtdpkjpjkdmkkpaaGreatDoorTyRP
namespace Go.Proofs.YtdpkjpjkdmkkpaaGreatDoor
open Go.RowKit Lx Pa Ad

def noVars (d : PDecl) : Bool := d.structs.isEmpty && d.vars.isEmpty
theorem noVars_form {d : PDecl} (h : noVars d = true) : ∃ nm, d = ⟨nm, [], []⟩ := by
  obtain ⟨nm, ss, vs⟩ := d
  unfold noVars at h
  simp only [Bool.and_eq_true, List.isEmpty_iff] at h
  obtain ⟨rfl, rfl⟩ := h
  exact ⟨nm, rfl⟩
theorem text4_none : noVars (declOf text4) = true := by kernel_rfl
theorem text4_known : ∃ nm, ∀ w, Calls Tryz.prog 24 #[.string text4] w (ParsedPost ⟨nm, [], []⟩ w) := by
  obtain ⟨nm, h1⟩ := noVars_form text4_none
  refine ⟨nm, fun w => ?_⟩
  rw [← h1]
  exact parsed_at (okText_tokens text4_ok) (okText_ok text4_ok) (of_decide_eq_true (by kernel_rfl)) w
/-- A program without variables: its cells. -/
theorem none_mem {w : World} {P : Nat → Prop} {nm : List UInt8} {row : List Value} (h : PVals w P false ⟨nm, [], []⟩ row) :
    row = [.string ⟨nm.toArray⟩, .slice none 0 0, .slice none 0 0, .bool false, .slice none 0 0, .slice none 0 0] := by
  obtain ⟨vs, vv, rfl, ⟨c1, h1, _⟩, ⟨c2, h2, _⟩⟩ := h
  rcases h1 with ⟨_, _, rfl⟩ | ⟨_, _, _, _, _, h⟩
  · rcases h2 with ⟨_, _, rfl⟩ | ⟨_, _, _, _, _, h⟩
    · rfl
    · exact absurd h (by simp)
  · exact absurd h (by simp)
def rmText (i : Nat) : ByteArray := (⟨#[118]⟩ : ByteArray) ++ (⟨#[48, 49, 50, 51, 52, 53, 54, 55, 56, 57]⟩ : ByteArray).extract (i / 100) (i / 100 + 1) ++ (⟨#[48, 49, 50, 51, 52, 53, 54, 55, 56, 57]⟩ : ByteArray).extract (i / 10 % 10) (i / 10 % 10 + 1) ++ (⟨#[48, 49, 50, 51, 52, 53, 54, 55, 56, 57]⟩ : ByteArray).extract (i % 10) (i % 10 + 1)
theorem rm_texts : (List.range 300).all (fun i => decide ((rmText i).data.toList = rmName i)) = true := by kernel_rfl
theorem rm_text {i : Nat} (h : i < 300) : (⟨#[118]⟩ : ByteArray) ++ (⟨#[48, 49, 50, 51, 52, 53, 54, 55, 56, 57]⟩ : ByteArray).extract (i / 100) (i / 100 + 1) ++ (⟨#[48, 49, 50, 51, 52, 53, 54, 55, 56, 57]⟩ : ByteArray).extract (i / 10 % 10) (i / 10 % 10 + 1) ++ (⟨#[48, 49, 50, 51, 52, 53, 54, 55, 56, 57]⟩ : ByteArray).extract (i % 10) (i % 10 + 1) = ⟨(rmName i).toArray⟩ := by
  have h1 := rm_texts
  simp only [List.all_eq_true, List.mem_range, decide_eq_true_eq] at h1
  have h2 := h1 i h
  show rmText i = _
  rw [← h2]
/-- The cells of the variable i. -/
def rmC (each : Int) (i : Nat) : List Value := [.string ⟨(rmName i).toArray⟩, .int .i64 12, .int .i64 1, .int .i64 each, .int .i64 1, .string ⟨#[]⟩, .bool false, .string ⟨#[]⟩, .slice none 0 0, .int .i64 (10 + (i : Int))]
def rmCs (each : Int) (n : Nat) : List Value := (List.range' 0 n).flatMap (rmC each)
theorem rmCs_snoc (each : Int) (n : Nat) : rmCs each (n + 1) = rmCs each n ++ rmC each n := by
  unfold rmCs
  rw [List.range'_concat, List.flatMap_append]
  simp
theorem rm_rows {w : World} {P : Nat → Prop} {each : Int} : ∀ (n a : Nat), VRows w P ((List.range' a n).map (rmVar each)) ((List.range' a n).flatMap (rmC each)) := by
  intro n
  induction n with
  | zero => intro a; exact rfl
  | succ n ih =>
    intro a
    rw [List.range'_succ]
    exact ⟨rmC each a, _, by simp, ⟨.slice none 0 0, rfl, IniV.none _ _⟩, ih (a + 1)⟩
/-- A row that the call owns, as a slice of rows. -/
theorem own_slAt {w : World} {lo sz n : Nat} {T : TypeId} {fv : Value} {cs : List Value} (h : w.ownsRow lo T sz fv n cs) (hn : 0 < n) : SlAt w (Btw lo w.heap.size) n cs fv := by
  rcases h.2 with ⟨_, h2⟩ | ⟨g, cap, cur, h1, h2, h3, _⟩
  · omega
  · refine .inr ⟨g, cap, h1, ?_, ⟨?_, ⟨cur, T, h3⟩⟩, hn⟩
    · have := (h.lt g (by rw [h1]; rfl))
      exact ⟨h2, this.2⟩
    · intro j u hj
      have h4 := h.cells (g := g) (by rw [h1]; rfl) j u hj
      have hadd : (⟨g, 0, none⟩ : Addr).add j = ⟨g, j, none⟩ := by unfold Addr.add; split <;> simp_all
      rw [hadd] at h4
      exact h4
theorem room_mem {w : World} {lo n : Nat} {T : TypeId} {nm : List UInt8} {each : Int} {fv : Value} (h : w.ownsRow lo T 10 fv n (rmCs each n)) (hn : 0 < n) :
    PVals w (Btw lo w.heap.size) false ⟨nm, [], (List.range' 0 n).map (rmVar each)⟩ [.string ⟨nm.toArray⟩, .slice none 0 0, fv, .bool false, .slice none 0 0, .slice none 0 0] := by
  refine ⟨.slice none 0 0, fv, rfl, ⟨[], .inl ⟨rfl, rfl, rfl⟩, rfl⟩, ⟨rmCs each n, ?_, rm_rows n 0⟩⟩
  have h1 := own_slAt h hn
  simpa using h1
theorem room_ok {nm : List UInt8} {each : Int} {n : Nat} (hn : n ≤ 260) (he : 1 ≤ each) (he2 : each ≤ 40) : DeclOk ⟨nm, [], (List.range' 0 n).map (rmVar each)⟩ := by
  refine ⟨by simp, fun s hs => by simp at hs, by simp; omega, fun v hv => ?_⟩
  simp only [List.mem_map] at hv
  obtain ⟨i, _, rfl⟩ := hv
  exact ⟨by simp [rmVar, rmName], fun i hi => (by cases hi), by simp [rmVar], ⟨by simp [rmVar], by simp [rmVar]⟩, ⟨by simp [rmVar]; omega, by simp [rmVar]; omega⟩⟩
theorem own_set {w : World} {X o lo sz n : Nat} {T : TypeId} {fv u : Value} {cs : List Value} (h : w.ownsRow lo T sz fv n cs) (hX : X < lo) : (w.setCell ⟨X, o, none⟩ u).ownsRow lo T sz fv n cs := by
  refine h.kept ((Only.refl X w).setCell o u).grown ?_
  cases hv : fv.ownBlock with
  | none => exact .inl rfl
  | some k => have := (h.lt k hv).1; exact .inr (by simp; omega)
end Go.Proofs.YtdpkjpjkdmkkpaaGreatDoor
