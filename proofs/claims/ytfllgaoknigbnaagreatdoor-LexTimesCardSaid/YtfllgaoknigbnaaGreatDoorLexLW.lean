/- The statement on words: its walk. -/
import Derived.Test.YtfllgaoknigbnaaGreatDoorLexR3
namespace Go.Proofs.YtfllgaoknigbnaaGreatDoor
open Go.RowKit Lx Ad

theorem tokens_pos {il : Bool} {l : List UInt8} : ∀ {f a : Nat} {out ts : List Tok}, tokens il l f a out = .ok ts → 0 < ts.length := by
  intro f
  induction f with
  | zero => intro a out ts h; cases h
  | succ f ih =>
    intro a out ts h
    rw [tokens] at h
    split at h
    · cases h
    · split at h
      · injection h with h; subst h; simp
      · simp only at h
        split at h
        · cases h
        · exact ih h
theorem lTokens_pos {il : Bool} {l : List UInt8} {ts : List Tok} (h : lTokens l il = .ok ts) : 0 < ts.length := by
  unfold lTokens at h
  split at h
  · cases h
  · exact tokens_pos h

/-- What the statement's last line reads. -/
structure WS (w0 : World) (g : Nat) (tk : Int) (tx : List UInt8) (w : World) : Prop where
  c0 : w.cell? ⟨g, 0, none⟩ = some (.int .i64 tk)
  c3 : w.cell? ⟨g, 3, none⟩ = some (.string ⟨tx.toArray⟩)
  bel : Below w0.heap.size w0 w
theorem WS.drew {w0 w : World} {g : Nat} {tk : Int} {tx : List UInt8} (h : WS w0 g tk tx w) : WS w0 g tk tx w.drew := ⟨h.c0, h.c3, h.bel.drew⟩
theorem WS.below {w0 w w' : World} {g : Nat} {tk : Int} {tx : List UInt8} (h : WS w0 g tk tx w) (hb : Below w.heap.size w w') : WS w0 g tk tx w' := ⟨cell_later hb h.c0, cell_later hb h.c3, bjoin h.bel hb⟩

set_option maxRecDepth 100000 in
set_option maxHeartbeats 1600000 in
theorem lexWords_walk (x : ByteArray) (hx : x.size ≤ 140737488351232) (w : World) (he : TEnv w) :
    Calls Tryz.prog 4 #[.string x] w fun e w' => e = .returned (.bool true) ∧ Below w.heap.size w w' := by
  have HE := Lib.hid he
  clear he
  by_cases hbig : 100 < x.size
  · have hb : (100 : Int) < x.size := by omega
    go_enter Tryz.func4, Tryz.ntmps4
    go_wp2_with (go_at_call 8; refine (known_at _ HE.out).mono ?_; rintro e w1 ⟨rfl, hb1⟩; have H1 := Lib.hid hb1; clear hb1)
    go_ret
    exact ⟨rfl, H1.out⟩
  · have hb : ¬ (100 : Int) < x.size := by omega
    have hxs : x.size ≤ 4294967000 := by omega
    obtain ⟨r, hr⟩ : ∃ r, lWord x = r := ⟨_, rfl⟩
    have HR := Lib.hid hr
    clear hr hbig hx
    have hrr : (r != r) = false := by cases r <;> rfl
    obtain ⟨q, hq⟩ : ∃ q, lTokens x.data.toList false = q := ⟨_, rfl⟩
    cases q with
    | error q =>
      obtain ⟨qa, qn⟩ := q
      have HQ := Lib.hid hq
      clear hq
      go_enter Tryz.func4, Tryz.ntmps4
      go_wp2_with (first | (go_at_call 8; refine (known_at _ HE.out).mono ?_; rintro e w1 ⟨rfl, hb1⟩; have H1 := Lib.hid hb1; clear hb1) | (go_at_call 11; refine (lWord_at HR.out _ (HE.out.lex.below H1.out)).mono ?_; rintro e w2 ⟨rfl, hb2⟩; have H2 := Lib.hid (bjoin H1.out hb2); clear hb2) | (go_at_call 12; refine (rWord_at HR.out _).mono ?_; rintro e w3 ⟨rfl, hb3⟩; have H3 := Lib.hid (bjoin H2.out hb3); clear hb3) | (go_at_call 9; refine (tokens_err HQ.out hxs _ (HE.out.lex.below H3.out)).mono ?_; rintro e w4 ⟨p, rfl, hp, hb4⟩; have H4 := Lib.hid (bjoin H3.out hb4); clear hb4 hp))
      go_ret
      exact ⟨rfl, H4.out⟩
    | ok ts =>
      have hpos := lTokens_pos hq
      have hword := lTokens_word hq
      have HQ := Lib.hid hq
      clear hq
      by_cases h2 : ts.length = 2
      · obtain ⟨t, t', rfl⟩ : ∃ t t', ts = [t, t'] := by
          match ts, h2 with
          | [t, t'], _ => exact ⟨t, t', rfl⟩
        have hw := hword t (by simp)
        obtain ⟨tk, kd, nn, tx, ta⟩ := t
        have HW := Lib.hid hw
        clear hpos hword hw h2
        have k2 : (([⟨tk, kd, nn, tx, ta⟩, t'] : List Tok).length : Int) = 2 := rfl
        by_cases h1 : tk = 1
        · subst h1
          have HWT : Hid (lWord ⟨tx.toArray⟩ = true) := Lib.hid (HW.out.1 rfl)
          clear HW
          go_enter Tryz.func4, Tryz.ntmps4
          go_wp2_with (first | (go_at_call 8; refine (known_at _ HE.out).mono ?_; rintro e w1 ⟨rfl, hb1⟩; have H1 := Lib.hid hb1; clear hb1) | (go_at_call 11; refine (lWord_at HR.out _ (HE.out.lex.below H1.out)).mono ?_; rintro e w2 ⟨rfl, hb2⟩; have H2 := Lib.hid (bjoin H1.out hb2); clear hb2) | (go_at_call 12; refine (rWord_at HR.out _).mono ?_; rintro e w3 ⟨rfl, hb3⟩; have H3 := Lib.hid (bjoin H2.out hb3); clear hb3) | (go_at_call 9; refine (tokens_ok HQ.out (by simp) hxs _ (HE.out.lex.below H3.out)).mono ?_; rintro e w4 ⟨g, cap, rfl, hc, hb4⟩; have c0 := hc 0 _ rfl; have c3 := hc 3 _ rfl; have H4 := Lib.hid (WS.mk c0 c3 (bjoin H3.out hb4)); clear hb4 hc))
          have hT := H4.out
          go_region_held3 (fun w' => w'.cell? ⟨g, 0, none⟩ = some (.int .i64 1) ∧ w'.cell? ⟨g, 3, none⟩ = some (.string ⟨tx.toArray⟩) ∧ WS w g 1 tx w') (first | exact ⟨WS.c0 (by assumption), WS.c3 (by assumption), by assumption⟩ | exact ⟨WS.c0 (WS.drew (by assumption)), WS.c3 (WS.drew (by assumption)), WS.drew (by assumption)⟩) (first | (go_at_call 12; refine (rWord_at HWT.out _).mono ?_; rintro e w9 ⟨rfl, hb9⟩; have hs9 : WS w g 1 tx w9 := WS.below (by first | assumption | exact (by assumption : _ ∧ _ ∧ WS w g 1 tx _).2.2 | exact hT.drew) hb9))
          all_goals go_wp2
          all_goals go_ret
          all_goals exact ⟨rfl, WS.bel (by assumption)⟩
        · by_cases h2 : tk = 2
          · subst h2
            have HWT : Hid (lWord ⟨tx.toArray⟩ = false) := Lib.hid (HW.out.2 rfl)
            clear HW h1
            go_enter Tryz.func4, Tryz.ntmps4
            go_wp2_with (first | (go_at_call 8; refine (known_at _ HE.out).mono ?_; rintro e w1 ⟨rfl, hb1⟩; have H1 := Lib.hid hb1; clear hb1) | (go_at_call 11; refine (lWord_at HR.out _ (HE.out.lex.below H1.out)).mono ?_; rintro e w2 ⟨rfl, hb2⟩; have H2 := Lib.hid (bjoin H1.out hb2); clear hb2) | (go_at_call 12; refine (rWord_at HR.out _).mono ?_; rintro e w3 ⟨rfl, hb3⟩; have H3 := Lib.hid (bjoin H2.out hb3); clear hb3) | (go_at_call 9; refine (tokens_ok HQ.out (by simp) hxs _ (HE.out.lex.below H3.out)).mono ?_; rintro e w4 ⟨g, cap, rfl, hc, hb4⟩; have c0 := hc 0 _ rfl; have c3 := hc 3 _ rfl; have H4 := Lib.hid (WS.mk c0 c3 (bjoin H3.out hb4)); clear hb4 hc))
            have hT := H4.out
            go_region_held3 (fun w' => w'.cell? ⟨g, 0, none⟩ = some (.int .i64 2) ∧ w'.cell? ⟨g, 3, none⟩ = some (.string ⟨tx.toArray⟩) ∧ WS w g 2 tx w') (first | exact ⟨WS.c0 (by assumption), WS.c3 (by assumption), by assumption⟩ | exact ⟨WS.c0 (WS.drew (by assumption)), WS.c3 (WS.drew (by assumption)), WS.drew (by assumption)⟩) (first | (go_at_call 12; refine (rWord_at HWT.out _).mono ?_; rintro e w9 ⟨rfl, hb9⟩; have hs9 : WS w g 2 tx w9 := WS.below (by first | assumption | exact (by assumption : _ ∧ _ ∧ WS w g 2 tx _).2.2 | exact hT.drew) hb9))
            all_goals go_wp2
            all_goals go_ret
            all_goals exact ⟨rfl, WS.bel (by assumption)⟩
          · have n1 : (tk != 1) = true := by simp [h1]
            have n2 : (tk != 2) = true := by simp [h2]
            clear HW
            go_enter Tryz.func4, Tryz.ntmps4
            go_wp2_with (first | (go_at_call 8; refine (known_at _ HE.out).mono ?_; rintro e w1 ⟨rfl, hb1⟩; have H1 := Lib.hid hb1; clear hb1) | (go_at_call 11; refine (lWord_at HR.out _ (HE.out.lex.below H1.out)).mono ?_; rintro e w2 ⟨rfl, hb2⟩; have H2 := Lib.hid (bjoin H1.out hb2); clear hb2) | (go_at_call 12; refine (rWord_at HR.out _).mono ?_; rintro e w3 ⟨rfl, hb3⟩; have H3 := Lib.hid (bjoin H2.out hb3); clear hb3) | (go_at_call 9; refine (tokens_ok HQ.out (by simp) hxs _ (HE.out.lex.below H3.out)).mono ?_; rintro e w4 ⟨g, cap, rfl, hc, hb4⟩; have c0 := hc 0 _ rfl; have c3 := hc 3 _ rfl; have H4 := Lib.hid (WS.mk c0 c3 (bjoin H3.out hb4)); clear hb4 hc))
            go_ret
            exact ⟨rfl, H4.out.bel⟩
      · have k2 : ¬ (ts.length : Int) = 2 := by omega
        clear hword h2
        go_enter Tryz.func4, Tryz.ntmps4
        go_wp2_with (first | (go_at_call 8; refine (known_at _ HE.out).mono ?_; rintro e w1 ⟨rfl, hb1⟩; have H1 := Lib.hid hb1; clear hb1) | (go_at_call 11; refine (lWord_at HR.out _ (HE.out.lex.below H1.out)).mono ?_; rintro e w2 ⟨rfl, hb2⟩; have H2 := Lib.hid (bjoin H1.out hb2); clear hb2) | (go_at_call 12; refine (rWord_at HR.out _).mono ?_; rintro e w3 ⟨rfl, hb3⟩; have H3 := Lib.hid (bjoin H2.out hb3); clear hb3) | (go_at_call 9; refine (tokens_ok HQ.out hpos hxs _ (HE.out.lex.below H3.out)).mono ?_; rintro e w4 ⟨g, cap, rfl, hc, hb4⟩; have H4 := Lib.hid (bjoin H3.out hb4); clear hb4 hc))
        go_ret
        exact ⟨rfl, H4.out⟩
end Go.Proofs.YtfllgaoknigbnaaGreatDoor
