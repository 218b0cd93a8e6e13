/- The walk through the reference lexer's Tokens. -/
import Derived.Test.YtdabnnganponpaaGreatDoorRef12I
import Derived.Test.YtdabnnganponpaaGreatDoorLexB11
import Derived.Test.YtdabnnganponpaaGreatDoorLexW12
namespace Go.Proofs.YtdabnnganponpaaGreatDoor
open Go.RowKit Lx Ad

/-- What the reference's Tokens answers. -/
def RTokensPost (w : World) (r : Except (Nat × Int) (List Tok)) (e : Ending) (w' : World) : Prop := match r with
  | .ok ts => ∃ v, e = .returned (.tuple #[v, .int .i64 0, .int .i64 0]) ∧ w'.ownsRow w.heap.size 31 5 v ts.length (toksC ts) ∧ Below w.heap.size w w'
  | .error q => e = .returned (.tuple #[.slice none 0 0, .int .i64 q.1, .int .i64 q.2]) ∧ Below w.heap.size w w'

theorem blank_ways {il : Bool} {c : UInt8} (h : blankB il c = true) : (c.toNat = 32) ∨ (c.toNat ≠ 32 ∧ c.toNat = 9) ∨ (c.toNat ≠ 32 ∧ c.toNat ≠ 9 ∧ c.toNat = 13) ∨ (c.toNat ≠ 32 ∧ c.toNat ≠ 9 ∧ c.toNat ≠ 13 ∧ c.toNat = 10 ∧ il = false) := by
  cases il
  · simp [blankB] at h ⊢; omega
  · simp [blankB] at h ⊢; omega
theorem blank_not {il : Bool} {c : UInt8} (h : blankB il c = false) : c.toNat ≠ 32 ∧ c.toNat ≠ 9 ∧ c.toNat ≠ 13 ∧ (c.toNat = 10 → il = true) := by
  cases il
  · simp [blankB] at h ⊢; omega
  · simp [blankB] at h ⊢; omega
theorem grown_of_below {C : Nat} {w w' : World} (hb : Below C w w') (hC : w.heap.size ≤ C) : w.grownBy w' none :=
  ⟨hb.os, hb.tape, hb.output, hb.size, fun k hk _ => hb.block k (by omega)⟩
/-- The loop's memory. -/
structure LoS (w0 : World) (b : Nat) (s : ByteArray) (a : Int) (lv : Value) (out : List Tok) (w : World) : Prop where
  sc : ScB w b s a
  own : w.ownsRow w0.heap.size 31 5 lv out.length (toksC out)
  ne : lv.ownBlock ≠ some b
  bl : Below w0.heap.size w0 w
  ge : w0.heap.size ≤ b
section
variable {w0 w w' : World} {b : Nat} {s : ByteArray} {a a' : Int} {lv : Value} {out : List Tok}
theorem LoS.only (h : LoS w0 b s a lv out w) (hs : ScB w' b s a') (ho : Only b w w') : LoS w0 b s a' lv out w' :=
  ⟨hs, h.own.kept ho.grown (.inr h.ne), h.ne, h.bl.trans (ho.below h.ge h.bl.size), h.ge⟩
theorem LoS.below (h : LoS w0 b s a lv out w) (hb : Below w.heap.size w w') : LoS w0 b s a lv out w' :=
  h.only ((hb.block b h.sc.lt).trans h.sc) (Only.ofBelow hb)
theorem LoS.drewN (h : LoS w0 b s a lv out w) (n : Nat) : LoS w0 b s a lv out (w.drewN n) := h.below (Below.drewN (Below.refl _ _) n)
theorem LoS.move (h : LoS w0 b s a lv out w) (p' : Int) : LoS w0 b s p' lv out (w.setCell ⟨b, 1, none⟩ (.int .i64 p')) := h.only (h.sc.set p') ((Only.refl b w).setCell 1 _)
theorem LoS.app {t : Tok} {g cap : Nat} (h : LoS w0 b s a lv out w) (hown : w'.ownsRow w0.heap.size 31 5 (.slice (some ⟨g, 0, none⟩) (out.length + 1) cap) (out.length + 1) (toksC out ++ tokC t)) (hg : w.grownBy w' lv.ownBlock) (hat : lv.ownBlock = some g ∨ b < g) :
    LoS w0 b s a (.slice (some ⟨g, 0, none⟩) (out.length + 1) cap) (out ++ [t]) w' := by
  have hlt := h.sc.lt
  have hgb : g ≠ b := by
    intro he
    rcases hat with h1 | h1
    · rw [he] at h1; exact h.ne h1
    · omega
  refine ⟨(hg.block b hlt (Ne.symm h.ne)).trans h.sc, by rw [toksC_add, List.length_append]; exact hown, by simpa [Value.ownBlock] using hgb, ?_, h.ge⟩
  exact h.bl.trans ⟨hg.os, hg.tape, hg.output, hg.size, fun k hk => hg.block k (by have := h.bl.size; omega) (fun e => by have := (h.own.lt k e.symm).1; omega)⟩
end

set_option maxRecDepth 100000 in
set_option maxHeartbeats 4000000 in
theorem rtokens_at {s : ByteArray} {il : Bool} {r : Except (Nat × Int) (List Tok)} (hr : rTokens s.data.toList il = r) (hs : s.size ≤ 4294967000) (w : World) :
    Calls Tryz.prog 11 #[.string s, .bool il] w (RTokensPost w r) := by
  have hlen : s.data.toList.length = s.size := rfl
  unfold rTokens at hr
  by_cases hbig : 65536 < s.size
  · rw [if_pos (by rw [hlen]; exact hbig)] at hr
    have HR := Lib.hid hr
    have hb : (65536 : Int) < s.size := by omega
    clear hr
    go_enter Tryz.func11, Tryz.ntmps11
    go_wp2
    refine bodyPost_ret (v := .tuple #[.slice none 0 0, .int .i64 65536, .int .i64 121]) (by simp [results, Tryz.results11, go_sem]) rfl ?_
    rw [← HR.out]
    exact ⟨rfl, Below.refl _ _⟩
  · rw [if_neg (by rw [hlen]; exact hbig), hlen] at hr
    have HR := Lib.hid hr
    have hb : (s.size : Int) ≤ 65536 := by omega
    have hsz : s.size ≤ 65536 := by omega
    obtain ⟨i0, hi, hz0, hz1, hz2⟩ := info_parts tokInfo
    have HI := Lib.hid (And.intro hi (And.intro hz0 (And.intro hz1 hz2)))
    clear hr hbig hi hz0 hz1 hz2 hlen
    go_enter Tryz.func11, Tryz.ntmps11
    go_wp2
    obtain ⟨b, hbe⟩ : ∃ b, b = w.heap.size := ⟨_, rfl⟩
    have HL : Hid (LoS w b s ((0 : Nat) : Int) (.slice none 0 0) [] (w.alloc (.cells #[.string s, .int .i64 0] 65))) := Lib.hid ⟨by rw [hbe]; exact heap_alloc_new w _, World.ownsRow_nil _ _ _ _, by simp [Value.ownBlock], (Below.refl _ _).alloc (Nat.le_refl _) _, by rw [hbe]; exact Nat.le_refl _⟩
    rw [← hbe]
    clear hbe
    go_loopw [8] (fun v8 wr => RRel (∃ (a f : Nat) (out : List Tok), a ≤ s.size ∧ s.size - a < f ∧ out.length ≤ a ∧ Hid (rT il s.data.toList f a out = r) ∧ Hid (LoS w b s (a : Int) v8 out wr))) (fun _ wr => s.size - (intOf ((wr.cell? ⟨b, 1, none⟩).getD undef)).toNat)
    case atStart => exact RRel.mk ⟨0, s.size + 1, [], by omega, by omega, by simp, HR, HL⟩
    case round =>
      clear HR HL
      obtain ⟨a, f, out, ha, hf, hol, HD, HT⟩ := hrel.it
      clear hrel
      obtain ⟨WR, rfl⟩ : ∃ WR, WR = wr := ⟨_, rfl⟩
      obtain ⟨f, rfl⟩ : ∃ g, f = g + 1 := ⟨f - 1, by omega⟩
      have hsz' : s.size ≤ 4294967000 := by omega
      obtain ⟨x0, x1, g0, g1⟩ := HT.out.sc.cells
      have hbl := HT.out.sc.lt
      have hcas := rT_cases HD.out
      rw [show s.data.toList.length = s.size from rfl] at hcas
      obtain ⟨c, hc⟩ : ∃ c, cAt s.data.toList a = c := ⟨_, rfl⟩
      obtain ⟨c', hc'⟩ : ∃ c, cAt s.data.toList (a + 1) = c := ⟨_, rfl⟩
      rw [hc, hc'] at hcas
      have HC := Lib.hid (fun k hk W (hW : ScB W b s (a : Int)) => rc_two hc hc' hsz' ha k hk W hW)
      have HC0 := Lib.hid hc
      have HC1 := Lib.hid hc'
      have q1 : IntKind.i64.wrap ((a : Int) + 1) = (a : Int) + 1 := IntWalk.i64_in _ (by omega)
      have q2 : IntKind.i64.wrap ((a : Int) + 2) = (a : Int) + 2 := IntWalk.i64_in _ (by omega)
      have hbb := fun il' => (show blankB il' c = (c.toNat == 32 || c.toNat == 9 || c.toNat == 13 || (c.toNat == 10 && !il')) from rfl)
      have HBB := Lib.hid hbb
      clear hc hc' hbb HD
      rcases hcas with ⟨h1, h2⟩ | ⟨h1, h2, h3⟩ | ⟨h1, h2, h3, h4⟩ | ⟨h1, h2, h3, h4, h5, h6⟩ | ⟨i, h1, h2, h3, h4, h5, h6⟩ | ⟨t, n, e, h1, h2, h3, h4, h5, h6, h7⟩ | ⟨t, n, h1, h2, h3, h4, h5, h6⟩
      · have HR2 := Lib.hid h2
        have hae : a = s.size := by omega
        subst hae
        have f1 : decide ((s.size : Int) ≥ s.size) = true := by simp
        clear h2
        have HBS : Hid (w.heap.size ≤ WR.heap.size + 1) := Lib.hid (by have := HT.out.bl.size; omega)
        go_wp2_with (first | (go_at_call 25; refine (HC.out _ (by decide) _ (by exact HT.out.sc)).mono ?_; rintro e w3 ⟨rfl, nn3, rfl⟩; first | rw [if_pos rfl] | rw [if_neg (by decide)]) | (at_builtin; refine wpList_append_lies _ (by rfl) _ _ _ (by rfl) w.heap.size 31 i0 _ 5 48 Tryz.underlying24 HI.out.1 HI.out.2.1 HI.out.2.2.1 HI.out.2.2.2 rfl (by omega) u8 out.length (toksC out) (by rfl) (LoS.own (LoS.below (HT.out.drewN nn3) ((Below.refl _ _).alloc (Nat.le_refl _) _))) ⟨WR.heap.size, 0, none⟩ 1 1 (tokC ⟨0, 0, 0, [], s.size⟩) (by rfl) (by rfl) (World.news_of_block (cs := (tokC ⟨0, 0, 0, [], s.size⟩).toArray) (t := 31) (fr := (0, 0)) (heap_alloc_new _ _)) (tokC_one _) (by omega) (by simp only [maxLen]; omega) (by omega) (by simp; exact HBS.out) (WR.heap.size + 1) (by simp) ?_; intro g cap w4 hown4 hgrow4 hat4 hlt4; have H4 := Lib.hid (LoS.app (LoS.below (HT.out.drewN nn3) ((Below.refl _ _).alloc (Nat.le_refl _) _)) hown4 hgrow4 (hat4.imp id (fun h => by omega))); clear hown4 hgrow4 hat4 hlt4))
        rw [HR2.out]
        refine bodyPost_ret (v := .tuple #[.slice (some ⟨g, 0, none⟩) (out.length + 1) cap, .int .i64 0, .int .i64 0]) (by simp [results, Tryz.results11, go_sem]) rfl ?_
        exact ⟨_, rfl, H4.out.own, H4.out.bl⟩
      · have f1 : ¬ (s.size : Int) ≤ a := by omega
        have HR2 := Lib.hid h3
        have hway := blank_ways h2
        clear h2 h3
        rcases hway with k1 | ⟨k1, k2⟩ | ⟨k1, k2, k3⟩ | ⟨k1, k2, k3, k4, rfl⟩
        · have e32 : ((c.toNat : Int) == 32) = true := by simp; omega
          go_wp2_with (go_at_call 25; refine (HC.out _ (by decide) _ (by exact HT.out.sc)).mono ?_; rintro e w3 ⟨rfl, nn3, rfl⟩; first | rw [if_pos rfl] | rw [if_neg (by decide)])
          go_roundw
          case rel =>
            exact RRel.mk ⟨a + 1, f, out, by omega, by omega, by omega, HR2, Lib.hid (by rw [show ((a + 1 : Nat) : Int) = (a : Int) + 1 by omega]; first | exact (HT.out.drewN _).move _ | exact ((HT.out.drewN _).drewN _).move _)⟩
          case measure =>
            have h5 := fun nd => (((HT.out.drewN nd).move ((a : Int) + 1)).sc).cells.2.1
            simp [h5, x1, intOf]; omega
        · have e32 : ((c.toNat : Int) == 32) = false := by simp; omega
          have e9 : ((c.toNat : Int) == 9) = true := by simp; omega
          go_wp2_with (go_at_call 25; refine (HC.out _ (by decide) _ (by exact HT.out.sc)).mono ?_; rintro e w3 ⟨rfl, nn3, rfl⟩; first | rw [if_pos rfl] | rw [if_neg (by decide)])
          go_roundw
          case rel =>
            exact RRel.mk ⟨a + 1, f, out, by omega, by omega, by omega, HR2, Lib.hid (by rw [show ((a + 1 : Nat) : Int) = (a : Int) + 1 by omega]; first | exact (HT.out.drewN _).move _ | exact ((HT.out.drewN _).drewN _).move _)⟩
          case measure =>
            have h5 := fun nd => (((HT.out.drewN nd).move ((a : Int) + 1)).sc).cells.2.1
            simp [h5, x1, intOf]; omega
        · have e32 : ((c.toNat : Int) == 32) = false := by simp; omega
          have e9 : ((c.toNat : Int) == 9) = false := by simp; omega
          have e13 : ((c.toNat : Int) == 13) = true := by simp; omega
          go_wp2_with (go_at_call 25; refine (HC.out _ (by decide) _ (by exact HT.out.sc)).mono ?_; rintro e w3 ⟨rfl, nn3, rfl⟩; first | rw [if_pos rfl] | rw [if_neg (by decide)])
          go_roundw
          case rel =>
            exact RRel.mk ⟨a + 1, f, out, by omega, by omega, by omega, HR2, Lib.hid (by rw [show ((a + 1 : Nat) : Int) = (a : Int) + 1 by omega]; first | exact (HT.out.drewN _).move _ | exact ((HT.out.drewN _).drewN _).move _)⟩
          case measure =>
            have h5 := fun nd => (((HT.out.drewN nd).move ((a : Int) + 1)).sc).cells.2.1
            simp [h5, x1, intOf]; omega
        · have e32 : ((c.toNat : Int) == 32) = false := by simp; omega
          have e9 : ((c.toNat : Int) == 9) = false := by simp; omega
          have e13 : ((c.toNat : Int) == 13) = false := by simp; omega
          have e10 : ((c.toNat : Int) == 10) = true := by simp; omega
          go_wp2_with (go_at_call 25; refine (HC.out _ (by decide) _ (by exact HT.out.sc)).mono ?_; rintro e w3 ⟨rfl, nn3, rfl⟩; first | rw [if_pos rfl] | rw [if_neg (by decide)])
          go_roundw
          case rel =>
            exact RRel.mk ⟨a + 1, f, out, by omega, by omega, by omega, HR2, Lib.hid (by rw [show ((a + 1 : Nat) : Int) = (a : Int) + 1 by omega]; first | exact (HT.out.drewN _).move _ | exact ((HT.out.drewN _).drewN _).move _)⟩
          case measure =>
            have h5 := fun nd => (((HT.out.drewN nd).move ((a : Int) + 1)).sc).cells.2.1
            simp [h5, x1, intOf]; omega
      · have f1 : ¬ (s.size : Int) ≤ a := by omega
        have e10 : ((c.toNat : Int) == 10) = true := by simp; omega
        have e32 : ((c.toNat : Int) == 32) = false := by simp; omega
        have e9 : ((c.toNat : Int) == 9) = false := by simp; omega
        have e13 : ((c.toNat : Int) == 13) = false := by simp; omega
        obtain rfl := (blank_not h2).2.2.2 h3
        have HR2 := Lib.hid h4
        have HBS : Hid (w.heap.size ≤ WR.heap.size + 1) := Lib.hid (by have := HT.out.bl.size; omega)
        clear h2 h3 h4
        go_wp2_with (first | (go_at_call 25; refine (HC.out _ (by decide) _ (by exact HT.out.sc)).mono ?_; rintro e w3 ⟨rfl, nn3, rfl⟩; first | rw [if_pos rfl] | rw [if_neg (by decide)]) | (at_builtin; refine wpList_append_lies _ (by rfl) _ _ _ (by rfl) w.heap.size 31 i0 _ 5 48 Tryz.underlying24 HI.out.1 HI.out.2.1 HI.out.2.2.1 HI.out.2.2.2 rfl (by omega) u8 out.length (toksC out) (by rfl) (LoS.own (LoS.below (HT.out.drewN nn3) ((Below.refl _ _).alloc (Nat.le_refl _) _))) ⟨WR.heap.size, 0, none⟩ 1 1 (tokC ⟨7, 0, 0, [10], a⟩) (by rfl) (by rfl) (World.news_of_block (cs := (tokC ⟨7, 0, 0, [10], a⟩).toArray) (t := 31) (fr := (0, 0)) (heap_alloc_new _ _)) (tokC_one _) (by omega) (by simp only [maxLen]; omega) (by omega) (by simp; exact HBS.out) (WR.heap.size + 1) (by simp) ?_; intro g cap w4 hown4 hgrow4 hat4 hlt4; have H4 := Lib.hid (LoS.app (LoS.below (HT.out.drewN nn3) ((Below.refl _ _).alloc (Nat.le_refl _) _)) hown4 hgrow4 (hat4.imp id (fun h => by omega))); have k4 := H4.out.sc.cells; have k4a := k4.2.1; have k4b := k4.2.2.2; clear k4; clear hown4 hgrow4 hat4 hlt4))
        go_roundw
        case rel =>
          exact RRel.mk ⟨a + 1, f, _, by omega, by omega, by simp; omega, HR2, Lib.hid (by rw [show ((a + 1 : Nat) : Int) = (a : Int) + 1 by omega]; exact H4.out.move _)⟩
        case measure =>
          have h5 := ((H4.out.move ((a : Int) + 1)).sc).cells.2.1
          simp [h5, x1, intOf]; omega
      · have f1 : ¬ (s.size : Int) ≤ a := by omega
        have e10 : ((c.toNat : Int) == 10) = false := by simp; omega
        have e40 : ((c.toNat : Int) == 40) = true := by simp; omega
        have e42 : ((c'.toNat : Int) == 42) = true := by simp; omega
        have e32 : ((c.toNat : Int) == 32) = false := by simp; omega
        have e9 : ((c.toNat : Int) == 9) = false := by simp; omega
        have e13 : ((c.toNat : Int) == 13) = false := by simp; omega
        have HR2 := Lib.hid h6
        have HIX := Lib.hid h5
        have ha2 : a + 2 ≤ s.size := by
          have := cAt_lt2 (s := s) (p := a + 1) (by rw [HC1.out]; omega)
          omega
        clear h2 h3 h4 h5 h6
        go_wp2_with (go_at_call 25; refine (HC.out _ (by decide) _ (by exact HT.out.sc)).mono ?_; rintro e w3 ⟨rfl, nn3, rfl⟩; first | rw [if_pos rfl] | rw [if_neg (by decide)])
        go_loopw [] (fun wr2 => RRel (∃ j : Nat, a + 2 + j ≤ s.size ∧ Hid (Lib.NoOcc (s.data.toList.drop (a + 2)) [42, 41] j) ∧ Hid (LoS w b s ((a + 2 + j : Nat) : Int) u8 out wr2))) (fun wr2 => s.size - (intOf ((wr2.cell? ⟨b, 1, none⟩).getD undef)).toNat)
        case atStart => exact RRel.mk ⟨0, by omega, Lib.hid (Lib.NoOcc.zero _ _), Lib.hid (by rw [show ((a + 2 + 0 : Nat) : Int) = (a : Int) + 2 by omega]; first | exact (HT.out.drewN _).move _ | exact ((HT.out.drewN _).drewN _).move _)⟩
        case round =>
          obtain ⟨j, hj, HNO, HT2⟩ := hrel.it
          clear hrel
          obtain ⟨W2, rfl⟩ : ∃ W2, W2 = wr := ⟨_, rfl⟩
          obtain ⟨q, hq⟩ : ∃ q, a + 2 + j = q := ⟨_, rfl⟩
          rw [hq] at HT2 hj
          have HQ := Lib.hid hq
          have hocc := occ_at (l := s.data.toList) (a := a + 2) (i := j)
          rw [hq] at hocc
          obtain ⟨d, hd⟩ : ∃ d, cAt s.data.toList q = d := ⟨_, rfl⟩
          obtain ⟨d', hd'⟩ : ∃ d, cAt s.data.toList (q + 1) = d := ⟨_, rfl⟩
          rw [hd, hd'] at hocc
          have HOC := Lib.hid hocc
          have HD0 := Lib.hid hd
          have HD1 := Lib.hid hd'
          have HC2 := Lib.hid (fun k hk W (hW : ScB W b s (q : Int)) => rc_two hd hd' hsz' hj k hk W hW)
          obtain ⟨y0, y1, k0, k1⟩ := HT2.out.sc.cells
          have hbl2 := HT2.out.sc.lt
          have q3 : IntKind.i64.wrap ((q : Int) + 1) = (q : Int) + 1 := IntWalk.i64_in _ (by omega)
          have q4 : IntKind.i64.wrap ((q : Int) + 2) = (q : Int) + 2 := IntWalk.i64_in _ (by omega)
          clear hd hd' hocc hq
          have hway : (q = s.size) ∨ (q < s.size ∧ d.toNat ≠ 42) ∨ (q < s.size ∧ d.toNat = 42 ∧ d'.toNat ≠ 41) ∨ (q < s.size ∧ d.toNat = 42 ∧ d'.toNat = 41) := by omega
          rcases hway with k1 | ⟨k1, k2⟩ | ⟨k1, k2, k3⟩ | ⟨k1, k2, k3⟩
          · have HE := Lib.hid (Lib.index_past (by simp) HNO.out (by rw [List.length_drop, show s.data.toList.length = s.size from rfl]; simp only [List.length_cons, List.length_nil]; have := HQ.out; omega))
            have z1 : ¬ (q : Int) < s.size := by omega
            have z2 : (s.size : Int) ≤ q := by omega
            clear k1
            go_wp2_with (go_at_call 25; refine (HC2.out _ (by decide) _ (by exact HT2.out.sc)).mono ?_; rintro e w3 ⟨rfl, nn3, rfl⟩; first | rw [if_pos rfl] | rw [if_neg (by decide)])
            rw [HR2.out]
            refine bodyPost_ret (v := .tuple #[.slice none 0 0, .int .i64 a, .int .i64 120]) (by simp [results, Tryz.results11, go_sem]) rfl ?_
            exact ⟨rfl, HT2.out.bl⟩
          · have z1 : (q : Int) < s.size := by omega
            have z3 : ((d.toNat : Int) == 42) = false := by simp; omega
            have HNE : Hid (Lib.occAt (s.data.toList.drop (a + 2)) [42, 41] j = false) := Lib.hid (by
              cases h : Lib.occAt (s.data.toList.drop (a + 2)) [42, 41] j with
              | false => rfl
              | true => have := HOC.out.1 h; omega)
            go_wp2_with (go_at_call 25; refine (HC2.out _ (by decide) _ (by exact HT2.out.sc)).mono ?_; rintro e w3 ⟨rfl, nn3, rfl⟩; first | rw [if_pos rfl] | rw [if_neg (by decide)])
            go_roundw
            case rel =>
              exact RRel.mk ⟨j + 1, by have := HQ.out; omega, Lib.hid (HNO.out.succ HNE.out), Lib.hid (by rw [show ((a + 2 + (j + 1) : Nat) : Int) = (q : Int) + 1 by have := HQ.out; omega]; first | exact (HT2.out.drewN _).move _ | exact ((HT2.out.drewN _).drewN _).move _)⟩
            case measure =>
              have h5 := fun nd => (((HT2.out.drewN nd).move ((q : Int) + 1)).sc).cells.2.1
              simp [h5, y1, intOf]; omega
          · have z1 : (q : Int) < s.size := by omega
            have z3 : ((d.toNat : Int) == 42) = true := by simp; omega
            have z4 : ((d'.toNat : Int) == 41) = false := by simp; omega
            have HNE : Hid (Lib.occAt (s.data.toList.drop (a + 2)) [42, 41] j = false) := Lib.hid (by
              cases h : Lib.occAt (s.data.toList.drop (a + 2)) [42, 41] j with
              | false => rfl
              | true => have := HOC.out.1 h; omega)
            go_wp2_with (go_at_call 25; refine (HC2.out _ (by decide) _ (by exact HT2.out.sc)).mono ?_; rintro e w3 ⟨rfl, nn3, rfl⟩; first | rw [if_pos rfl] | rw [if_neg (by decide)])
            go_roundw
            case rel =>
              exact RRel.mk ⟨j + 1, by have := HQ.out; omega, Lib.hid (HNO.out.succ HNE.out), Lib.hid (by rw [show ((a + 2 + (j + 1) : Nat) : Int) = (q : Int) + 1 by have := HQ.out; omega]; first | exact (HT2.out.drewN _).move _ | exact ((HT2.out.drewN _).drewN _).move _)⟩
            case measure =>
              have h5 := fun nd => (((HT2.out.drewN nd).move ((q : Int) + 1)).sc).cells.2.1
              simp [h5, y1, intOf]; omega
          · have HE := Lib.hid (Lib.index_hit HNO.out (by rw [List.length_drop, show s.data.toList.length = s.size from rfl]; have := HQ.out; omega) (HOC.out.2 ⟨k2, k3⟩))
            exfalso
            have h := HIX.out
            rw [HE.out] at h
            omega
      · have f1 : ¬ (s.size : Int) ≤ a := by omega
        have e10 : ((c.toNat : Int) == 10) = false := by simp; omega
        have e40 : ((c.toNat : Int) == 40) = true := by simp; omega
        have e42 : ((c'.toNat : Int) == 42) = true := by simp; omega
        have e32 : ((c.toNat : Int) == 32) = false := by simp; omega
        have e9 : ((c.toNat : Int) == 9) = false := by simp; omega
        have e13 : ((c.toNat : Int) == 13) = false := by simp; omega
        have HR2 := Lib.hid h6
        have HIX := Lib.hid h5
        have ha2 : a + 2 ≤ s.size := by
          have := cAt_lt2 (s := s) (p := a + 1) (by rw [HC1.out]; omega)
          omega
        clear h2 h3 h4 h5 h6
        go_wp2_with (go_at_call 25; refine (HC.out _ (by decide) _ (by exact HT.out.sc)).mono ?_; rintro e w3 ⟨rfl, nn3, rfl⟩; first | rw [if_pos rfl] | rw [if_neg (by decide)])
        go_loopw [] (fun wr2 => RRel (∃ j : Nat, a + 2 + j ≤ s.size ∧ Hid (Lib.NoOcc (s.data.toList.drop (a + 2)) [42, 41] j) ∧ Hid (LoS w b s ((a + 2 + j : Nat) : Int) u8 out wr2))) (fun wr2 => s.size - (intOf ((wr2.cell? ⟨b, 1, none⟩).getD undef)).toNat)
        case atStart => exact RRel.mk ⟨0, by omega, Lib.hid (Lib.NoOcc.zero _ _), Lib.hid (by rw [show ((a + 2 + 0 : Nat) : Int) = (a : Int) + 2 by omega]; first | exact (HT.out.drewN _).move _ | exact ((HT.out.drewN _).drewN _).move _)⟩
        case round =>
          obtain ⟨j, hj, HNO, HT2⟩ := hrel.it
          clear hrel
          obtain ⟨W2, rfl⟩ : ∃ W2, W2 = wr := ⟨_, rfl⟩
          obtain ⟨q, hq⟩ : ∃ q, a + 2 + j = q := ⟨_, rfl⟩
          rw [hq] at HT2 hj
          have HQ := Lib.hid hq
          have hocc := occ_at (l := s.data.toList) (a := a + 2) (i := j)
          rw [hq] at hocc
          obtain ⟨d, hd⟩ : ∃ d, cAt s.data.toList q = d := ⟨_, rfl⟩
          obtain ⟨d', hd'⟩ : ∃ d, cAt s.data.toList (q + 1) = d := ⟨_, rfl⟩
          rw [hd, hd'] at hocc
          have HOC := Lib.hid hocc
          have HD0 := Lib.hid hd
          have HD1 := Lib.hid hd'
          have HC2 := Lib.hid (fun k hk W (hW : ScB W b s (q : Int)) => rc_two hd hd' hsz' hj k hk W hW)
          obtain ⟨y0, y1, k0, k1⟩ := HT2.out.sc.cells
          have hbl2 := HT2.out.sc.lt
          have q3 : IntKind.i64.wrap ((q : Int) + 1) = (q : Int) + 1 := IntWalk.i64_in _ (by omega)
          have q4 : IntKind.i64.wrap ((q : Int) + 2) = (q : Int) + 2 := IntWalk.i64_in _ (by omega)
          clear hd hd' hocc hq
          have hway : (q = s.size) ∨ (q < s.size ∧ d.toNat ≠ 42) ∨ (q < s.size ∧ d.toNat = 42 ∧ d'.toNat ≠ 41) ∨ (q < s.size ∧ d.toNat = 42 ∧ d'.toNat = 41) := by omega
          rcases hway with k1 | ⟨k1, k2⟩ | ⟨k1, k2, k3⟩ | ⟨k1, k2, k3⟩
          · have HE := Lib.hid (Lib.index_past (by simp) HNO.out (by rw [List.length_drop, show s.data.toList.length = s.size from rfl]; simp only [List.length_cons, List.length_nil]; have := HQ.out; omega))
            have z1 : ¬ (q : Int) < s.size := by omega
            have z2 : (s.size : Int) ≤ q := by omega
            clear k1
            exfalso
            have h := HIX.out
            rw [HE.out] at h
            omega
          · have z1 : (q : Int) < s.size := by omega
            have z3 : ((d.toNat : Int) == 42) = false := by simp; omega
            have HNE : Hid (Lib.occAt (s.data.toList.drop (a + 2)) [42, 41] j = false) := Lib.hid (by
              cases h : Lib.occAt (s.data.toList.drop (a + 2)) [42, 41] j with
              | false => rfl
              | true => have := HOC.out.1 h; omega)
            go_wp2_with (go_at_call 25; refine (HC2.out _ (by decide) _ (by exact HT2.out.sc)).mono ?_; rintro e w3 ⟨rfl, nn3, rfl⟩; first | rw [if_pos rfl] | rw [if_neg (by decide)])
            go_roundw
            case rel =>
              exact RRel.mk ⟨j + 1, by have := HQ.out; omega, Lib.hid (HNO.out.succ HNE.out), Lib.hid (by rw [show ((a + 2 + (j + 1) : Nat) : Int) = (q : Int) + 1 by have := HQ.out; omega]; first | exact (HT2.out.drewN _).move _ | exact ((HT2.out.drewN _).drewN _).move _)⟩
            case measure =>
              have h5 := fun nd => (((HT2.out.drewN nd).move ((q : Int) + 1)).sc).cells.2.1
              simp [h5, y1, intOf]; omega
          · have z1 : (q : Int) < s.size := by omega
            have z3 : ((d.toNat : Int) == 42) = true := by simp; omega
            have z4 : ((d'.toNat : Int) == 41) = false := by simp; omega
            have HNE : Hid (Lib.occAt (s.data.toList.drop (a + 2)) [42, 41] j = false) := Lib.hid (by
              cases h : Lib.occAt (s.data.toList.drop (a + 2)) [42, 41] j with
              | false => rfl
              | true => have := HOC.out.1 h; omega)
            go_wp2_with (go_at_call 25; refine (HC2.out _ (by decide) _ (by exact HT2.out.sc)).mono ?_; rintro e w3 ⟨rfl, nn3, rfl⟩; first | rw [if_pos rfl] | rw [if_neg (by decide)])
            go_roundw
            case rel =>
              exact RRel.mk ⟨j + 1, by have := HQ.out; omega, Lib.hid (HNO.out.succ HNE.out), Lib.hid (by rw [show ((a + 2 + (j + 1) : Nat) : Int) = (q : Int) + 1 by have := HQ.out; omega]; first | exact (HT2.out.drewN _).move _ | exact ((HT2.out.drewN _).drewN _).move _)⟩
            case measure =>
              have h5 := fun nd => (((HT2.out.drewN nd).move ((q : Int) + 1)).sc).cells.2.1
              simp [h5, y1, intOf]; omega
          · have HE := Lib.hid (Lib.index_hit HNO.out (by rw [List.length_drop, show s.data.toList.length = s.size from rfl]; have := HQ.out; omega) (HOC.out.2 ⟨k2, k3⟩))
            have hji : j = i := by have h := HIX.out; rw [HE.out] at h; omega
            have z1 : (q : Int) < s.size := by omega
            have z3 : ((d.toNat : Int) == 42) = true := by simp; omega
            have z4 : ((d'.toNat : Int) == 41) = true := by simp; omega
            have z5 : ¬ (s.size : Int) ≤ q := by omega
            have hq2 : q + 2 ≤ s.size := by
              have := cAt_lt2 (s := s) (p := q + 1) (by rw [HD1.out]; omega)
              omega
            have HJ := Lib.hid hji
            clear hji
            go_wp2_with (go_at_call 25; refine (HC2.out _ (by decide) _ (by exact HT2.out.sc)).mono ?_; rintro e w3 ⟨rfl, nn3, rfl⟩; first | rw [if_pos rfl] | rw [if_neg (by decide)])
            go_roundw
            case rel =>
              exact RRel.mk ⟨a + i + 4, f, out, by have := HQ.out; have := HJ.out; omega, by have := HQ.out; have := HJ.out; omega, by omega, HR2, Lib.hid (by rw [show ((a + i + 4 : Nat) : Int) = (q : Int) + 2 by have := HQ.out; have := HJ.out; omega]; first | exact (HT2.out.drewN _).move _ | exact ((HT2.out.drewN _).drewN _).move _)⟩
            case measure =>
              have h5 := fun nd => (((HT2.out.drewN nd).move ((q : Int) + 2)).sc).cells.2.1
              have := HQ.out
              simp [h5, x1, intOf]; omega
      · have f1 : ¬ (s.size : Int) ≤ a := by omega
        have e10 : ((c.toNat : Int) == 10) = false := by simp; omega
        obtain ⟨m32, m9, m13, -⟩ := blank_not h2
        have e32 : ((c.toNat : Int) == 32) = false := by simp; omega
        have e9 : ((c.toNat : Int) == 9) = false := by simp; omega
        have e13 : ((c.toNat : Int) == 13) = false := by simp; omega
        clear m32 m9 m13
        have hN : (cAt s.data.toList a).toNat ≠ 10 := by rw [HC0.out]; exact h3
        have H31 := Lib.hid (fun W (hW : ScB W b s (a : Int)) => rtoken_at h5 hN hsz' h1 W hW)
        obtain ⟨tk, kd, nn, tx, ta⟩ := t
        have HR2 := Lib.hid h7
        have hcm : ((c.toNat : Int) == 40) = false ∨ (((c.toNat : Int) == 40) = true ∧ ((c'.toNat : Int) == 42) = false) := by
          by_cases k40 : c.toNat = 40
          · right; exact ⟨by simp; omega, by simp; omega⟩
          · left; simp; omega
        clear h2 h3 h4 h5 h7 hN
        rcases hcm with e40 | ⟨e40, e42⟩
        all_goals
          go_wp2_with (go_at_call 25; refine (HC.out _ (by decide) _ (by exact HT.out.sc)).mono ?_; rintro e w3 ⟨rfl, nn3, rfl⟩; first | rw [if_pos rfl] | rw [if_neg (by decide)])
          refine (H31.out _ (by first | exact HT.out.sc.drewN _ | exact (HT.out.sc.drewN _).drewN _)).mono ?_
          rintro ev w6 ⟨p1, p2, p3⟩
          obtain ⟨z1, z2, z3, z4, rfl⟩ := p2 h6
          have HBL : Hid (Below w.heap.size w w6) := Lib.hid (by first | exact (HT.out.drewN _).bl.trans (p3.below HT.out.ge (HT.out.drewN _).bl.size) | exact ((HT.out.drewN _).drewN _).bl.trans (p3.below HT.out.ge ((HT.out.drewN _).drewN _).bl.size))
          have ee : (e == 0) = false := by simpa using h6
          clear p1 p2 p3
          simp only [upBy]
          have kA : ∀ (o : Obj) (i : Nat) (v : Value), o = .cells #[.int .i64 0, .int .i64 0, .int .i64 0, .string ⟨#[]⟩, .int .i64 0] 31 → True := fun _ _ _ _ => trivial
          clear kA
          go_upto_region 22 with fail
          have HST := heap_alloc_new w6 (.cells #[.int .i64 z1, .int .i64 z2, .int .i64 z3, .string z4, .int .i64 a] 31)
          have hbl6 : Below w6.heap.size w6 (w6.alloc (.cells #[.int .i64 z1, .int .i64 z2, .int .i64 z3, .string z4, .int .i64 a] 31)) := (Below.refl _ _).alloc (Nat.le_refl _) _
          obtain ⟨W7, hW7⟩ : ∃ W7, W7 = w6.alloc (.cells #[.int .i64 z1, .int .i64 z2, .int .i64 z3, .string z4, .int .i64 a] 31) := ⟨_, rfl⟩
          have hst : W7.heap[w6.heap.size]? = some (.cells #[.int .i64 z1, .int .i64 z2, .int .i64 z3, .string z4, .int .i64 a] 31) := by rw [hW7]; exact HST
          clear HST
          rw [← hW7] at hbl6 ⊢
          have HB7 : Hid (Below w.heap.size w W7) := Lib.hid (HBL.out.trans ⟨hbl6.os, hbl6.tape, hbl6.output, hbl6.size, fun k hk => hbl6.block k (Nat.lt_of_lt_of_le hk HBL.out.size)⟩)
          obtain ⟨c60, c61, c62, c63, c64, -⟩ := blk5 hst
          clear hW7 hst hbl6 h6
          go_wp2
          go_quiet (fail)
          go_wp2
          rw [HR2.out]
          refine bodyPost_ret (v := .tuple #[.slice none 0 0, .int .i64 a, .int .i64 e]) (by simp [results, Tryz.results11, go_sem]) rfl ?_
          exact ⟨rfl, HB7.out.drewN _⟩
      · have f1 : ¬ (s.size : Int) ≤ a := by omega
        have e10 : ((c.toNat : Int) == 10) = false := by simp; omega
        obtain ⟨m32, m9, m13, -⟩ := blank_not h2
        have e32 : ((c.toNat : Int) == 32) = false := by simp; omega
        have e9 : ((c.toNat : Int) == 9) = false := by simp; omega
        have e13 : ((c.toNat : Int) == 13) = false := by simp; omega
        clear m32 m9 m13
        have hN : (cAt s.data.toList a).toNat ≠ 10 := by rw [HC0.out]; exact h3
        have H31 := Lib.hid (fun W (hW : ScB W b s (a : Int)) => rtoken_at h5 hN hsz' h1 W hW)
        obtain ⟨tk, kd, nn, tx, ta⟩ := t
        have hsize := rToken_size (by intro h0; have := congrArg List.length h0; rw [List.length_drop, List.length_nil, show s.data.toList.length = s.size from rfl] at this; omega) h5
        rw [List.length_drop, show s.data.toList.length = s.size from rfl] at hsize
        obtain ⟨n1, n2⟩ := hsize
        have HR2 := Lib.hid h6
        have hcm : ((c.toNat : Int) == 40) = false ∨ (((c.toNat : Int) == 40) = true ∧ ((c'.toNat : Int) == 42) = false) := by
          by_cases k40 : c.toNat = 40
          · right; exact ⟨by simp; omega, by simp; omega⟩
          · left; simp; omega
        clear h2 h3 h4 h5 h6 hN
        rcases hcm with e40 | ⟨e40, e42⟩
        all_goals
          go_wp2_with (go_at_call 25; refine (HC.out _ (by decide) _ (by exact HT.out.sc)).mono ?_; rintro e w3 ⟨rfl, nn3, rfl⟩; first | rw [if_pos rfl] | rw [if_neg (by decide)])
          refine (H31.out _ (by first | exact HT.out.sc.drewN _ | exact (HT.out.sc.drewN _).drewN _)).mono ?_
          rintro ev w6 ⟨p1, p2, p3⟩
          obtain ⟨rfl, hsc⟩ := p1 rfl
          have HT6 : Hid (LoS w b s ((a + n : Nat) : Int) u8 out w6) := Lib.hid (by first | exact (HT.out.drewN _).only hsc p3 | exact ((HT.out.drewN _).drewN _).only hsc p3)
          clear p1 p2 p3 hsc
          simp only [tokV, upBy]
          go_upto_region 22 with fail
          have HST := heap_alloc_new w6 (.cells #[.int .i64 tk, .int .i64 kd, .int .i64 nn, .string ⟨tx.toArray⟩, .int .i64 a] 31)
          have hbl6 : Below w6.heap.size w6 (w6.alloc (.cells #[.int .i64 tk, .int .i64 kd, .int .i64 nn, .string ⟨tx.toArray⟩, .int .i64 a] 31)) := (Below.refl _ _).alloc (Nat.le_refl _) _
          obtain ⟨W7, hW7⟩ : ∃ W7, W7 = w6.alloc (.cells #[.int .i64 tk, .int .i64 kd, .int .i64 nn, .string ⟨tx.toArray⟩, .int .i64 a] 31) := ⟨_, rfl⟩
          have hst : W7.heap[w6.heap.size]? = some (.cells #[.int .i64 tk, .int .i64 kd, .int .i64 nn, .string ⟨tx.toArray⟩, .int .i64 a] 31) := by rw [hW7]; exact HST
          clear HST
          rw [← hW7] at hbl6 ⊢
          have HT7 := Lib.hid (HT6.out.below hbl6)
          have HBS : Hid (w.heap.size ≤ W7.heap.size + 1) := Lib.hid (by have := HT7.out.bl.size; omega)
          have hlb : b < W7.heap.size := HT7.out.sc.lt
          obtain ⟨c60, c61, c62, c63, c64, -⟩ := blk5 hst
          clear hW7 hst hbl6
          go_wp2_with (at_builtin; refine wpList_append_lies _ (by rfl) _ _ _ (by rfl) w.heap.size 31 i0 _ 5 48 Tryz.underlying24 HI.out.1 HI.out.2.1 HI.out.2.2.1 HI.out.2.2.2 rfl (by omega) u8 out.length (toksC out) (by rfl) (LoS.own (LoS.below HT7.out ((Below.refl _ _).alloc (Nat.le_refl _) _))) ⟨W7.heap.size, 0, none⟩ 1 1 (tokC ⟨tk, kd, nn, tx, a⟩) (by rfl) (by rfl) (World.news_of_block (cs := (tokC ⟨tk, kd, nn, tx, a⟩).toArray) (t := 31) (fr := (0, 0)) (heap_alloc_new _ _)) (tokC_one _) (by omega) (by simp only [maxLen]; omega) (by omega) (by simp; exact HBS.out) (W7.heap.size + 1) (by simp) ?_; intro g cap w4 hown4 hgrow4 hat4 hlt4; have H4 := Lib.hid (LoS.app (LoS.below HT7.out ((Below.refl _ _).alloc (Nat.le_refl _) _)) hown4 hgrow4 (hat4.imp id (fun h => by omega))); clear hown4 hgrow4 hat4 hlt4)
          go_roundw
          case rel =>
            exact RRel.mk ⟨a + n, f, _, by omega, by omega, by simp; omega, HR2, H4⟩
          case measure =>
            have h5 := H4.out.sc.cells.2.1
            simp [h5, x1, intOf]; omega
end Go.Proofs.YtdabnnganponpaaGreatDoor
