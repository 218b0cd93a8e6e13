/- The cells of the tokens that a lexer hands over. -/
import Derived.Test.YtdabnnganponpaaGreatDoorRef12J
namespace Go.Proofs.YtdabnnganponpaaGreatDoor
open Go.RowKit Lx Ad

/-- The cells of tokens lie at block g. -/
def TC (w : World) (g : Nat) (ts : List Tok) : Prop := ∀ j u, (toksC ts)[j]? = some u → w.cell? ⟨g, j, none⟩ = some u
theorem toksC_get {ts : List Tok} {i : Nat} {t : Tok} (h : ts[i]? = some t) (k : Nat) (hk : k < 5) : (toksC ts)[i * 5 + k]? = (tokC t)[k]? := by
  induction ts generalizing i with
  | nil => simp at h
  | cons t0 ts ih =>
    cases i with
    | zero =>
      simp at h
      subst h
      simp only [toksC, List.flatMap_cons]
      rw [List.getElem?_append_left (by simp [tokC]; omega)]
      simp
    | succ i =>
      have := ih (i := i) (by simpa using h)
      simp only [toksC, List.flatMap_cons] at this ⊢
      rw [List.getElem?_append_right (by simp [tokC]; omega), show (i + 1) * 5 + k - (tokC t0).length = i * 5 + k by simp [tokC]; omega]
      exact this
theorem TC.cells {w : World} {g : Nat} {ts : List Tok} (h : TC w g ts) {i : Nat} {t : Tok} (hi : ts[i]? = some t) :
    w.cell? ⟨g, i * 5, none⟩ = some (.int .i64 t.tok) ∧ w.cell? ⟨g, i * 5 + 1, none⟩ = some (.int .i64 t.kind) ∧ w.cell? ⟨g, i * 5 + 2, none⟩ = some (.int .i64 t.n) ∧ w.cell? ⟨g, i * 5 + 3, none⟩ = some (.string ⟨t.text.toArray⟩) ∧ w.cell? ⟨g, i * 5 + 4, none⟩ = some (.int .i64 t.at_) := by
  refine ⟨?_, ?_, ?_, ?_, ?_⟩
  · exact h _ _ (by rw [← Nat.add_zero (i * 5), toksC_get hi 0 (by omega)]; rfl)
  · exact h _ _ (by rw [toksC_get hi 1 (by omega)]; rfl)
  · exact h _ _ (by rw [toksC_get hi 2 (by omega)]; rfl)
  · exact h _ _ (by rw [toksC_get hi 3 (by omega)]; rfl)
  · exact h _ _ (by rw [toksC_get hi 4 (by omega)]; rfl)
theorem TC.below {w w' : World} {g : Nat} {ts : List Tok} (h : TC w g ts) (hb : Below w.heap.size w w') : TC w' g ts := fun j u hj => cell_later hb (h j u hj)

theorem TC.own {w : World} {B g cap n : Nat} {ts : List Tok} {x : Value} (ho : w.ownsRow B 31 5 x n (toksC ts)) (hx : x = .slice (some ⟨g, 0, none⟩) n cap) : TC w g ts := by
  subst hx
  intro j u hj
  have h := ho.cells (g := g) rfl j u hj
  have hadd : (⟨g, 0, none⟩ : Addr).add j = ⟨g, j, none⟩ := by unfold Addr.add; split <;> simp_all
  rw [hadd] at h
  exact h
end Go.Proofs.YtdabnnganponpaaGreatDoor
