/- The known text of one array: its declaration; the memory of one variable turned. -/
import Derived.Test.YtdpkjpjkdmkkpaaGreatDoorNC
import Derived.Test.YtdpkjpjkdmkkpaaGreatDoorTyBP
namespace Go.Proofs.YtdpkjpjkdmkkpaaGreatDoor
open Go.RowKit Lx Pa Ad

/-- A declaration of one array alone, as a test. -/
def oneArr (d : PDecl) : Bool := d.structs.isEmpty && (match d.vars with
  | [v] => decide (v.kind = 12) && Ty.scalar v.elem && decide (v.addr = []) && decide (v.init = none) && decide (v.name = [120]) && decide (v.tname = []) && (v.retain == false)
  | _ => false)
theorem oneArr_form {d : PDecl} (h : oneArr d = true) : ∃ nm lo hi el at9, d = ⟨nm, [], [⟨[120], 12, lo, hi, el, [], false, [], none, at9⟩]⟩ ∧ Ty.scalar el = true := by
  obtain ⟨nm, ss, vs⟩ := d
  unfold oneArr at h
  simp only [Bool.and_eq_true, List.isEmpty_iff] at h
  obtain ⟨rfl, h⟩ := h
  match vs, h with
  | [v], h =>
    obtain ⟨n9, k9, lo, hi, el, tn, re, ad, ini, at9⟩ := v
    simp only [Bool.and_eq_true, decide_eq_true_eq, beq_iff_eq] at h
    obtain ⟨⟨⟨⟨⟨⟨rfl, h2⟩, rfl⟩, rfl⟩, rfl⟩, rfl⟩, rfl⟩ := h
    exact ⟨nm, lo, hi, el, at9, rfl, h2⟩
theorem text3_one : oneArr (declOf text3) = true := by kernel_rfl
theorem text3_known : ∃ nm lo hi el at9, Ty.scalar el = true ∧ ∀ w, Calls Tryz.prog 24 #[.string text3] w (ParsedPost ⟨nm, [], [⟨[120], 12, lo, hi, el, [], false, [], none, at9⟩]⟩ w) := by
  obtain ⟨nm, lo, hi, el, at9, h1, h2⟩ := oneArr_form text3_one
  refine ⟨nm, lo, hi, el, at9, h2, fun w => ?_⟩
  rw [← h1]
  exact parsed_at (okText_tokens text3_ok) (okText_ok text3_ok) (of_decide_eq_true (by kernel_rfl)) w
theorem x_block : Ty.block [120] = false := by kernel_rfl
/-- The cells of one variable without a first value. -/
def oneC (lo hi el at9 : Int) (iv : Value) : List Value := [.string ⟨#[120]⟩, .int .i64 12, .int .i64 lo, .int .i64 hi, .int .i64 el, .string ⟨#[]⟩, .bool false, .string ⟨#[]⟩, iv, .int .i64 at9]
/-- A program of one array alone: what its memory is. -/
theorem one_mem {w : World} {P : Nat → Prop} {nm : List UInt8} {lo hi el at9 : Int} {row : List Value} (h : PVals w P false ⟨nm, [], [⟨[120], 12, lo, hi, el, [], false, [], none, at9⟩]⟩ row) :
    ∃ vs iv g cp, row = [.string ⟨nm.toArray⟩, vs, .slice (some ⟨g, 0, none⟩) 1 cp, .bool false, .slice none 0 0, .slice none 0 0] ∧ SSl w P [] vs ∧ IniV w P none iv ∧ P g ∧ CellsF w g (oneC lo hi el at9 iv) := by
  obtain ⟨vs, vv, rfl, hss, ⟨c2, h2, h3⟩⟩ := h
  rcases h2 with ⟨h4, _, _⟩ | ⟨g, cp, rfl, h5, h6, _⟩
  · cases h4
  · obtain ⟨row, cr, h7, ⟨iv, h8, h9⟩, h10⟩ := h3
    have h11 : cr = [] := h10
    subst h11
    rw [List.append_nil] at h7
    subst h7
    subst h8
    exact ⟨vs, iv, g, cp, rfl, hss, h9, h5, h6⟩
/-- The memory again, with other bounds. -/
theorem mem_one {w : World} {P : Nat → Prop} {nm : List UInt8} {lo hi' el at9 : Int} {vs iv : Value} {g cp : Nat} (hs : SSl w P [] vs) (hi : IniV w P none iv) (hg : P g) (hc : CellsF w g (oneC lo hi' el at9 iv)) :
    PVals w P false ⟨nm, [], [⟨[120], 12, lo, hi', el, [], false, [], none, at9⟩]⟩ [.string ⟨nm.toArray⟩, vs, .slice (some ⟨g, 0, none⟩) 1 cp, .bool false, .slice none 0 0, .slice none 0 0] :=
  ⟨vs, _, rfl, hs, ⟨oneC lo hi' el at9 iv, .inr ⟨g, cp, rfl, hg, hc, by simp⟩, ⟨oneC lo hi' el at9 iv, [], by simp, ⟨iv, rfl, hi⟩, rfl⟩⟩⟩
theorem CellsF.set23 {w : World} {g : Nat} {lo hi el at9 lo' hi' : Int} {iv : Value} (h : CellsF w g (oneC lo hi el at9 iv)) :
    CellsF ((w.setCell ⟨g, 2, none⟩ (.int .i64 lo')).setCell ⟨g, 3, none⟩ (.int .i64 hi')) g (oneC lo' hi' el at9 iv) := by
  refine ⟨?_, ?_⟩
  · intro j u hj
    by_cases h3 : j = 3
    · subst h3
      have hu : u = .int .i64 hi' := by injection hj with hj; exact hj.symm
      subst hu
      have h4 := h.lie 3 _ rfl
      exact World.cell?_setCell_same _ _ _ (u := .int .i64 hi) ((World.cell?_setCell_other _ ⟨g, 2, none⟩ ⟨g, 3, none⟩ _ (by simp)).trans h4)
    · rw [World.cell?_setCell_other _ ⟨g, 3, none⟩ ⟨g, j, none⟩ _ (by intro h; injection h with _ h; omega)]
      by_cases h2 : j = 2
      · subst h2
        have hu : u = .int .i64 lo' := by injection hj with hj; exact hj.symm
        subst hu
        exact World.cell?_setCell_same _ _ _ (h.lie 2 _ rfl)
      · rw [World.cell?_setCell_other _ ⟨g, 2, none⟩ ⟨g, j, none⟩ _ (by intro h; injection h with _ h; omega)]
        refine h.lie j u ?_
        rw [← hj]
        match j, h2, h3 with
        | 0, _, _ => rfl
        | 1, _, _ => rfl
        | k + 4, _, _ => rfl
  · obtain ⟨cur, T, h1⟩ := h.own
    have B : Bl w g cur T := h1
    exact ⟨_, _, (B.set 2 _).set 3 _⟩
theorem CellsF.set32 {w : World} {g : Nat} {lo hi el at9 lo' hi' : Int} {iv : Value} (h : CellsF w g (oneC lo hi el at9 iv)) :
    CellsF ((w.setCell ⟨g, 3, none⟩ (.int .i64 hi')).setCell ⟨g, 2, none⟩ (.int .i64 lo')) g (oneC lo' hi' el at9 iv) := by
  refine ⟨?_, ?_⟩
  · intro j u hj
    by_cases h2 : j = 2
    · subst h2
      have hu : u = .int .i64 lo' := by injection hj with hj; exact hj.symm
      subst hu
      have h4 := h.lie 2 _ rfl
      exact World.cell?_setCell_same _ _ _ (u := .int .i64 lo) ((World.cell?_setCell_other _ ⟨g, 3, none⟩ ⟨g, 2, none⟩ _ (by simp)).trans h4)
    · rw [World.cell?_setCell_other _ ⟨g, 2, none⟩ ⟨g, j, none⟩ _ (by intro h; injection h with _ h; omega)]
      by_cases h3 : j = 3
      · subst h3
        have hu : u = .int .i64 hi' := by injection hj with hj; exact hj.symm
        subst hu
        exact World.cell?_setCell_same _ _ _ (h.lie 3 _ rfl)
      · rw [World.cell?_setCell_other _ ⟨g, 3, none⟩ ⟨g, j, none⟩ _ (by intro h; injection h with _ h; omega)]
        refine h.lie j u ?_
        rw [← hj]
        match j, h2, h3 with
        | 0, _, _ => rfl
        | 1, _, _ => rfl
        | k + 4, _, _ => rfl
  · obtain ⟨cur, T, h1⟩ := h.own
    have B : Bl w g cur T := h1
    exact ⟨_, _, (B.set 3 _).set 2 _⟩
theorem CellsF.nilSet {w : World} {a g o : Nat} {v : Value} (h : CellsF w a []) : CellsF (w.setCell ⟨g, o, none⟩ v) a [] := by
  refine ⟨fun j u hj => by simp at hj, ?_⟩
  obtain ⟨cur, T, h1⟩ := h.own
  have B : Bl w a cur T := h1
  by_cases hg : a = g
  · subst hg
    exact ⟨_, _, B.set o v⟩
  · exact ⟨_, _, B.other hg o v⟩
theorem SlAt.nilSet {w : World} {P : Nat → Prop} {g o : Nat} {v vs : Value} {cs : List Value} (h : SlAt w P 0 cs vs) (hc : cs = []) : SlAt (w.setCell ⟨g, o, none⟩ v) P 0 cs vs := by
  subst hc
  rcases h with h | ⟨a, c, h1, h2, h3, h4⟩
  · exact .inl h
  · exact absurd h4 (by omega)
theorem ssl_nilSet {w : World} {P : Nat → Prop} {g o : Nat} {v vs : Value} (h : SSl w P [] vs) : SSl (w.setCell ⟨g, o, none⟩ v) P [] vs := by
  obtain ⟨cs, h1, h2⟩ := h
  have h3 : cs = [] := h2
  exact ⟨cs, SlAt.nilSet h1 h3, h2⟩
theorem ini_nilSet {w : World} {P : Nat → Prop} {g o : Nat} {v iv : Value} (h : IniV w P none iv) : IniV (w.setCell ⟨g, o, none⟩ v) P none iv := by
  obtain ⟨cs, h1, h2⟩ := h
  have h4 : ERows w P [] cs := h2
  rw [ERows] at h4
  refine ⟨cs, SlAt.nilSet h1 h4, ?_⟩
  show ERows _ P [] cs
  rw [ERows]
  exact h4
/-- The bounds turned: the memory. -/
theorem one_turn {w : World} {P : Nat → Prop} {nm : List UInt8} {lo hi el at9 lo' hi' : Int} {vs iv : Value} {g cp : Nat} (hs : SSl w P [] vs) (hini : IniV w P none iv) (hg : P g) (hc : CellsF w g (oneC lo hi el at9 iv)) :
    PVals ((w.setCell ⟨g, 2, none⟩ (.int .i64 lo')).setCell ⟨g, 3, none⟩ (.int .i64 hi')).drew P false ⟨nm, [], [⟨[120], 12, lo', hi', el, [], false, [], none, at9⟩]⟩ [.string ⟨nm.toArray⟩, vs, .slice (some ⟨g, 0, none⟩) 1 cp, .bool false, .slice none 0 0, .slice none 0 0] :=
  (mem_one (ssl_nilSet (ssl_nilSet hs)) (ini_nilSet (ini_nilSet hini)) hg hc.set23).keeps (keepsOf (Below.refl _ _).drew)
theorem one_ok {nm : List UInt8} {lo hi el at9 : Int} (h1 : Is64 lo) (h2 : Is64 hi) : DeclOk ⟨nm, [], [⟨[120], 12, lo, hi, el, [], false, [], none, at9⟩]⟩ := by
  refine ⟨by simp, fun s hs => by simp at hs, by simp, fun v hv => ?_⟩
  simp only [List.mem_singleton] at hv
  subst hv
  exact ⟨by simp, fun i hi => (by cases hi), by simp, h1, h2⟩
theorem one_arr {lo hi el at9 : Int} (h : Ty.scalar el = true) : ArrV ⟨[120], 12, lo, hi, el, [], false, [], none, at9⟩ := ⟨rfl, h, rfl, rfl, x_block⟩
end Go.Proofs.YtdpkjpjkdmkkpaaGreatDoor
