/- The walk through package lex's Tokens: its words. -/
import Derived.Test.YtdabnnganponpaaGreatDoorLexW11
import Derived.Test.YtdabnnganponpaaGreatDoorLexD5
import Derived.Deep.AppendLies
import Derived.OwnWalk
import Derived.Deep.RegionHeld3
import Derived.Deep.RegionLaw
namespace Go.Proofs.YtdabnnganponpaaGreatDoor
open Go.RowKit Lx Ad

/-- The cells of tokens. -/
def tokC (t : Tok) : List Value := [.int .i64 t.tok, .int .i64 t.kind, .int .i64 t.n, .string ⟨t.text.toArray⟩, .int .i64 t.at_]
def toksC (ts : List Tok) : List Value := ts.flatMap tokC
theorem toksC_add (ts : List Tok) (t : Tok) : toksC (ts ++ [t]) = toksC ts ++ tokC t := by simp [toksC]
theorem toksC_len (ts : List Tok) : (toksC ts).length = ts.length * 5 := by
  induction ts with
  | nil => rfl
  | cons t ts ih => simp only [toksC, List.flatMap_cons, List.length_append, List.length_cons] at *; rw [ih]; simp [tokC]; omega

theorem tokInfo : (Tryz.prog.info? 31).map (fun i => (i.zero, i.size, i.bytes)) = some (some (.agg #[.int .i64 0, .int .i64 0, .int .i64 0, .string ⟨#[]⟩, .int .i64 0]), 5, 48) := by kernel_rfl

/-- What Tokens answers. -/
def TokensPost (w : World) (r : Except (Nat × Int) (List Tok)) (e : Ending) (w' : World) : Prop := match r with
  | .ok ts => ∃ v, e = .returned (.tuple #[v, .nilIface]) ∧ w'.ownsRow w.heap.size 31 5 v ts.length (toksC ts) ∧ Below w.heap.size w w'
  | .error q => ∃ p, e = .returned (.tuple #[.slice none 0 0, .iface 37 (.pointer (some ⟨p, 0, none⟩))]) ∧ w.heap.size ≤ p ∧ w'.heap[p]? = some (.cells #[.int .i64 q.1, .int .i64 q.2] 40) ∧ Below w.heap.size w w'

theorem Only.grown {b : Nat} {w w' : World} (h : Only b w w') : w.grownBy w' (some b) := ⟨h.os, h.tape, h.output, h.size, fun k hk hb => h.block k hk (fun e => hb (by rw [e]))⟩
theorem lToken_big {l : List UInt8} (h : 65536 < l.length) (il : Bool) : lTokens l il = .error (65536, 121) := by rw [lTokens, if_pos h]

theorem lToken_at_end {il : Bool} {s : ByteArray} {f a : Nat} {out : List Tok} {r : Except (Nat × Int) (List Tok)} (h : tokens il s.data.toList (f + 1) a out = r) :
    (∃ a', blanks il s.data.toList (s.size + 1) a = .error a' ∧ r = .error (a', 120)) ∨
    (blanks il s.data.toList (s.size + 1) a = .ok s.size ∧ r = .ok (out ++ [⟨0, 0, 0, [], s.size⟩])) ∨
    (∃ a' t n e, blanks il s.data.toList (s.size + 1) a = .ok a' ∧ a' ≠ s.size ∧ lToken (s.data.toList.drop a') = (t, n, e) ∧ e ≠ 0 ∧ r = .error (a', e)) ∨
    (∃ a' t n, blanks il s.data.toList (s.size + 1) a = .ok a' ∧ a' ≠ s.size ∧ lToken (s.data.toList.drop a') = (t, n, 0) ∧ tokens il s.data.toList f (a' + n) (out ++ [{ t with at_ := a' }]) = r) := by
  have hl : s.data.toList.length = s.size := rfl
  rw [tokens, hl] at h
  cases hb : blanks il s.data.toList (s.size + 1) a with
  | error a' => rw [hb] at h; exact .inl ⟨a', rfl, h.symm⟩
  | ok a' =>
    rw [hb] at h
    right
    by_cases h1 : a' = s.size
    · left
      simp only [if_pos h1] at h
      subst h1
      exact ⟨rfl, h.symm⟩
    · right
      simp only [if_neg h1] at h
      by_cases h2 : (lToken (s.data.toList.drop a')).2.2 = 0
      · right
        rw [if_neg (by simpa using h2)] at h
        exact ⟨a', (lToken (s.data.toList.drop a')).1, (lToken (s.data.toList.drop a')).2.1, rfl, h1, by rw [← h2], h⟩
      · left
        rw [if_pos h2] at h
        exact ⟨a', (lToken (s.data.toList.drop a')).1, (lToken (s.data.toList.drop a')).2.1, _, rfl, h1, rfl, h2, h.symm⟩

theorem lTokens_big {s : ByteArray} {il : Bool} {r : Except (Nat × Int) (List Tok)} (hr : lTokens s.data.toList il = r) (h : 65536 < s.size) : r = .error (65536, 121) := by
  rw [← hr, lTokens, if_pos (show 65536 < s.data.toList.length from h)]
theorem lTokens_go {s : ByteArray} {il : Bool} {r : Except (Nat × Int) (List Tok)} (hr : lTokens s.data.toList il = r) (h : ¬ 65536 < s.size) : tokens il s.data.toList (s.size + 1) 0 [] = r := by
  rw [← hr, lTokens, if_neg (show ¬ 65536 < s.data.toList.length from h)]
  rfl

theorem own_drewN {w : World} {B sz n : Nat} {T : TypeId} {v : Value} {xs : List Value} (h : w.ownsRow B T sz v n xs) (k : Nat) : (w.drewN k).ownsRow B T sz v n xs := h
theorem tokC_one (t : Tok) : ∀ u ∈ tokC t, u.oneCell' = true := by
  intro u hu
  simp only [tokC, List.mem_cons, List.mem_nil_iff, or_false] at hu
  rcases hu with rfl | rfl | rfl | rfl | rfl <;> rfl

theorem blanks_le {il : Bool} {l : List UInt8} : ∀ {f a a' : Nat}, blanks il l f a = .ok a' → a ≤ l.length → a ≤ a' ∧ a' ≤ l.length := by
  intro f
  induction f with
  | zero => intro a a' h ha; injection h with h; omega
  | succ f ih =>
    intro a a' h ha
    rw [blanks] at h
    split at h
    · injection h with h; omega
    · rename_i c t hd
      have hlt : a < l.length := by
        rcases Nat.lt_or_ge a l.length with h1 | h1
        · exact h1
        · rw [List.drop_of_length_le h1] at hd; cases hd
      have hlen : (c :: t).length = l.length - a := by rw [← hd, List.length_drop]
      split at h
      · have := ih h (by omega); omega
      · split at h
        · rename_i hp
          have hp2 := prefix_len hp
          simp only [List.length_cons, List.length_nil] at hp2 hlen
          split at h
          · cases h
          · rename_i hi
            have hr := Lib.index_room (List.drop 2 (c :: t)) [42, 41] (by omega)
            rw [List.length_drop] at hr
            simp only [List.length_cons, List.length_nil] at hr
            have := ih h (by omega); omega
        · injection h with h; omega
theorem LexB.set3 {w : World} {b : Nat} {s : ByteArray} {a : Int} {il : Bool} {lv : Value} (h : LexB w b s a il lv) (v : Value) : LexB (w.setCell ⟨b, 3, none⟩ v) b s a il v := by
  unfold LexB at h ⊢
  simp [World.setCell, h, Array.getElem?_modify]
theorem below_app (w : World) (k : Nat) (o : Obj) : Below w.heap.size w ((w.drewN k).drew.alloc o) := ((Below.drewN (Below.refl _ _) k).drew).alloc (Nat.le_refl _) o
theorem app_stays {w1 W w3 : World} {b : Nat} {s : ByteArray} {a : Int} {il : Bool} {lv : Value} (hx : LexB w1 b s a il lv) (hW : Below w1.heap.size w1 W) (hg : W.grownBy w3 lv.ownBlock) (hne : lv.ownBlock ≠ some b) : LexB w3 b s a il lv := by
  have h1 := hx.below hW
  exact (hg.block b h1.lt (Ne.symm hne)).trans h1
theorem app_after {w w1 W w3 : World} {b B g n cap : Nat} {s : ByteArray} {a : Int} {il : Bool} {lv : Value} {xs ys : List Value} (hx : LexB w1 b s a il lv) (ho : w1.ownsRow B 31 5 lv n xs)
    (hb : Below B w w1) (hBb : B ≤ b) (hne : lv.ownBlock ≠ some b) (hW : Below w1.heap.size w1 W) (hg : W.grownBy w3 lv.ownBlock)
    (hown : w3.ownsRow B 31 5 (.slice (some ⟨g, 0, none⟩) (n + 1) cap) (n + 1) ys) (hat : lv.ownBlock = some g ∨ b < g) :
    LexB (w3.setCell ⟨b, 3, none⟩ (.slice (some ⟨g, 0, none⟩) (n + 1) cap)) b s a il (.slice (some ⟨g, 0, none⟩) (n + 1) cap) ∧
    (w3.setCell ⟨b, 3, none⟩ (.slice (some ⟨g, 0, none⟩) (n + 1) cap)).ownsRow B 31 5 (.slice (some ⟨g, 0, none⟩) (n + 1) cap) (n + 1) ys ∧
    (Value.slice (some ⟨g, 0, none⟩) (n + 1) cap).ownBlock ≠ some b ∧
    Below B w (w3.setCell ⟨b, 3, none⟩ (.slice (some ⟨g, 0, none⟩) (n + 1) cap)) := by
  have hlt := hx.lt
  have hx3 := app_stays hx hW hg hne
  have hgb : g ≠ b := by
    intro h
    rcases hat with h1 | h1
    · rw [h] at h1; exact hne h1
    · omega
  have hne2 : (Value.slice (some ⟨g, 0, none⟩) (n + 1) cap).ownBlock ≠ some b := by simpa [Value.ownBlock] using hgb
  have hset : w3.grownBy (w3.setCell ⟨b, 3, none⟩ (.slice (some ⟨g, 0, none⟩) (n + 1) cap)) (some b) := (Only.setCell (Only.refl b w3) 3 _).grown
  refine ⟨hx3.set3 _, hown.kept hset (.inr hne2), hne2, ?_⟩
  have hbs : B ≤ w1.heap.size := by omega
  have hW2 : Below B w W := hb.trans ⟨hW.os, hW.tape, hW.output, hW.size, fun k hk => hW.block k (by omega)⟩
  have h3 : Below B w w3 := hW2.trans ⟨hg.os, hg.tape, hg.output, hg.size, fun k hk => hg.block k (by have := hW.size; omega) (fun e => by have := (ho.lt k e.symm).1; omega)⟩
  exact h3.setCell hBb _
theorem heap_alloc_two (w : World) (o1 o2 : Obj) : ((w.alloc o1).alloc o2).drew.heap[w.heap.size + 1]? = some o2 := by
  have h := heap_alloc_new (w.alloc o1) o2
  rw [show (w.alloc o1).heap.size = w.heap.size + 1 by simp] at h
  exact h
theorem below_two (w : World) (o1 o2 : Obj) : Below w.heap.size w ((w.alloc o1).alloc o2).drew := (((Below.refl _ _).alloc (Nat.le_refl _) o1).alloc (by simp) o2).drew
theorem own_below {w w' : World} {B C sz n : Nat} {T : TypeId} {v : Value} {xs : List Value} (h : w.ownsRow B T sz v n xs) (hb : Below C w w') (hC : w.heap.size ≤ C) : w'.ownsRow B T sz v n xs := by
  refine h.kept (row := none) ⟨hb.os, hb.tape, hb.output, hb.size, fun k hk _ => hb.block k (by omega)⟩ ?_
  cases hv : v.ownBlock with
  | none => exact .inl rfl
  | some k => exact .inr (by simp)
theorem set1_after {w w3 : World} {b B n : Nat} {s : ByteArray} {a : Int} {il : Bool} {v : Value} {ys : List Value} (h : LexB w3 b s a il v ∧ w3.ownsRow B 31 5 v n ys ∧ v.ownBlock ≠ some b ∧ Below B w w3) (hBb : B ≤ b) (a2 : Int) :
    LexB (w3.setCell ⟨b, 1, none⟩ (.int .i64 a2)) b s a2 il v ∧ (w3.setCell ⟨b, 1, none⟩ (.int .i64 a2)).ownsRow B 31 5 v n ys ∧ v.ownBlock ≠ some b ∧ Below B w (w3.setCell ⟨b, 1, none⟩ (.int .i64 a2)) :=
  ⟨h.1.set a2, h.2.1.kept (Only.setCell (Only.refl b w3) 1 _).grown (.inr h.2.2.1), h.2.2.1, h.2.2.2.setCell hBb _⟩

set_option maxRecDepth 100000 in
set_option maxHeartbeats 800000 in
theorem ltokens_at {s : ByteArray} {il : Bool} {r : Except (Nat × Int) (List Tok)} (hr : lTokens s.data.toList il = r) (hs : s.size ≤ 4294967000) (w : World) (he : LEnv w) :
    Calls Tryz.prog 5 #[.string s, .bool il] w (TokensPost w r) := by
  have HE := Lib.hid he
  clear he
  by_cases hbig : 65536 < s.size
  · have HR := Lib.hid (lTokens_big hr hbig)
    have hb : (65536 : Int) < s.size := by omega
    clear hr
    go_enter Tryz.func5, Tryz.ntmps5
    go_wp2
    go_step3
    go_wp2

    rw [Exit.noGoto_ret, HR.out]
    refine bodyPost_ret (v := .tuple #[.slice none 0 0, .iface 37 (.pointer (some ⟨w.heap.size, 0, none⟩))]) (by simp [results, Tryz.results5, go_sem]) rfl ?_
    exact ⟨w.heap.size, rfl, Nat.le_refl _, heap_alloc_new w _, (Below.refl _ _).alloc (Nat.le_refl _) _⟩
  · have HR := Lib.hid (lTokens_go hr hbig)
    have hb : (s.size : Int) ≤ 65536 := by omega
    have hsz : s.size ≤ 65536 := by omega
    obtain ⟨i0, hi, hz0, hz1, hz2⟩ := info_parts tokInfo
    have HI := Lib.hid (And.intro hi (And.intro hz0 (And.intro hz1 hz2)))
    clear hr hbig hs hi hz0 hz1 hz2
    go_enter Tryz.func5, Tryz.ntmps5
    go_wp2
    go_step3
    go_wp2
    go_step3
    go_wp2
    obtain ⟨b, hbe⟩ : ∃ b, b = w.heap.size := ⟨_, rfl⟩
    have HL : Hid (LexB (w.alloc (.cells #[.string s, .int .i64 0, .bool il, .slice none 0 0] 43)) b s ((0 : Nat) : Int) il (.slice none 0 0)) := Lib.hid (by rw [hbe]; exact heap_alloc_new w _)
    have HO : Hid ((w.alloc (.cells #[.string s, .int .i64 0, .bool il, .slice none 0 0] 43)).ownsRow w.heap.size 31 5 (.slice none 0 0) 0 (toksC [])) := Lib.hid (World.ownsRow_nil _ _ _ _)
    have HB : Hid (Below w.heap.size w (w.alloc (.cells #[.string s, .int .i64 0, .bool il, .slice none 0 0] 43))) := Lib.hid ((Below.refl _ _).alloc (Nat.le_refl _) _)
    rw [← hbe]
    have HBE := Lib.hid (Nat.le_of_eq hbe.symm)
    clear hbe
    go_loopw [] (fun wr => ∃ (a f : Nat) (out : List Tok) (lv : Value), a ≤ s.size ∧ s.size - a < f ∧ out.length ≤ a ∧ Hid (tokens il s.data.toList f a out = r) ∧ Hid (LexB wr b s a il lv) ∧ Hid (wr.ownsRow w.heap.size 31 5 lv out.length (toksC out)) ∧ Hid (lv.ownBlock ≠ some b) ∧ Hid (Below w.heap.size w wr)) (fun wr => s.size - (intOf ((wr.cell? ⟨b, 1, none⟩).getD undef)).toNat)
    case atStart => exact ⟨0, s.size + 1, [], .slice none 0 0, by omega, by omega, by simp, HR, HL, HO, Lib.hid (by simp [Value.ownBlock]), HB⟩
    case round =>
      clear HR HL HO HB
      obtain ⟨a, f, out, lv, ha, hf, hol, HD, HX, HO, HN, HB⟩ := hrel
      obtain ⟨WR, rfl⟩ : ∃ WR, WR = wr := ⟨_, rfl⟩
      obtain ⟨f, rfl⟩ : ∃ g, f = g + 1 := ⟨f - 1, by omega⟩
      have HLE := Lib.hid (HE.out.below HB.out)
      have hsz' : s.size ≤ 4294967000 := by omega
      rcases lToken_at_end HD.out with ⟨a', hb1, hr1⟩ | ⟨hb1, hr1⟩ | ⟨a', t, n, e, hb1, hne, ht, he, hr1⟩ | ⟨a', t, n, hb1, hne, ht, hr1⟩
      · have HBL := Lib.hid (lblanks_at hb1 ha (by omega) hsz' WR HLE.out.env HX.out)
        have HR2 := Lib.hid hr1
        clear hb1 hr1
        go_wp2_with (go_at_call 9; refine HBL.out.mono ?_; rintro e w1 ⟨p, rfl, hp1, hp2, ho1⟩; have H1 := Lib.hid (And.intro hp1 (And.intro hp2 ho1)); clear hp1 hp2 ho1)
        rw [Exit.noGoto_ret, HR2.out]
        refine bodyPost_ret (v := .tuple #[.slice none 0 0, .iface 37 (.pointer (some ⟨p, 0, none⟩))]) (by simp [results, Tryz.results5, go_sem]) rfl ?_
        exact ⟨p, rfl, Nat.le_trans HB.out.size H1.out.1, H1.out.2.1, HB.out.trans (H1.out.2.2.below HBE.out HB.out.size)⟩
      · have HBL := Lib.hid (lblanks_at hb1 ha (by omega) hsz' WR HLE.out.env HX.out)
        have HR2 := Lib.hid hr1
        have e1 : ((s.size : Int) == s.size) = true := by simp
        clear hb1 hr1
        go_wp2_with (go_at_call 9; refine HBL.out.mono ?_; rintro e w1 ⟨rfl, hle1, hx1, ho1⟩; obtain ⟨c0, c1, c2, c3, f0, f1, f2, f3⟩ := hx1.cells; have hbl1 := hx1.lt; have H1 := Lib.hid (And.intro hx1 ho1); clear hx1 ho1)
        go_quiet (fail)
        go_wp2
        have HO1 := Lib.hid (HO.out.kept H1.out.2.grown (.inr HN.out))
        have hbase : w.heap.size ≤ w1.heap.size := Nat.le_trans HB.out.size H1.out.2.size
        have HB1 := Lib.hid (HB.out.trans (H1.out.2.below HBE.out HB.out.size))
        have hA : ∀ (k : Nat) (o : Obj), ((w1.drewN k).alloc o).cell? ⟨b, 3, none⟩ = some lv := fun k o => (World.cell?_alloc_lt (w1.drewN k) o ⟨b, 3, none⟩ hbl1).trans c3
        go_region_law ((refine step_append_lies _ (by rfl) _ _ _ (by rfl) w.heap.size 31 i0 _ 5 48 Tryz.underlying24 HI.out.1 HI.out.2.1 HI.out.2.2.1 HI.out.2.2.2 rfl (by omega) lv out.length (toksC out) (by rfl) (((own_drewN HO1.out _).drew).alloc _) ⟨w1.heap.size, 0, none⟩ 1 1 (tokC ⟨0, 0, 0, [], s.size⟩) (by rfl) (by rfl) (World.news_of_block (cs := (tokC ⟨0, 0, 0, [], s.size⟩).toArray) (t := 31) (fr := (0, 0)) (heap_alloc_new (w1.drewN _).drew _)) (tokC_one _) (by omega) (by simp only [maxLen]; omega) (by omega) (by simp; omega) (w1.heap.size + 1) (by simp) ?_; intro g cap w3 hown3 hgrow3 hat3 hlt3; have k3 := (app_stays H1.out.1 (below_app _ _ _) hgrow3 HN.out).cells; have k3a := k3.2.2.2.1; have k3b := k3.2.2.2.2.2.2.2; have H3 := Lib.hid (app_after H1.out.1 HO1.out HB1.out HBE.out HN.out (below_app _ _ _) hgrow3 hown3 (hat3.imp id (fun h => by omega))); clear k3 hown3 hgrow3 hat3 hlt3))
        all_goals go_wp2
        all_goals
          rw [Exit.noGoto_ret, HR2.out]
          refine bodyPost_ret (v := .tuple #[.slice (some ⟨g, 0, none⟩) (out.length + 1) cap, .nilIface]) (by simp [results, Tryz.results5, go_sem]) rfl ?_
          exact ⟨_, rfl, by rw [toksC_add, List.length_append]; exact H3.out.2.1, H3.out.2.2.2⟩
      · obtain ⟨haa, ha'⟩ : a ≤ a' ∧ a' ≤ s.size := blanks_le hb1 ha
        have hlt' : a' < s.size := by omega
        have HBL := Lib.hid (lblanks_at hb1 ha (by omega) hsz' WR HLE.out.env HX.out)
        have HR2 := Lib.hid hr1
        have e1 : ((a' : Int) == s.size) = false := by simp; omega
        obtain ⟨tk, kd, nn, tx, ta⟩ := t
        have HT := Lib.hid ht
        clear hb1 hr1 ht
        go_wp2_with (go_at_call 9; refine HBL.out.mono ?_; rintro e w1 ⟨rfl, hle1, hx1, ho1⟩; obtain ⟨c0, c1, c2, c3, f0, f1, f2, f3⟩ := hx1.cells; have hbl1 := hx1.lt; have H1 := Lib.hid (And.intro hx1 ho1); clear hx1 ho1)
        go_quiet (fail)
        have HB1 := Lib.hid (HB.out.trans (H1.out.2.below HBE.out HB.out.size))
        go_wp2_with (go_at_call 10; refine (ltoken_at HT.out hlt' hsz' _ (HE.out.below (HB1.out.drewN _)) (by exact hbl1) (by exact c0) (by exact c1)).mono ?_; rintro e w2 ⟨rfl, hb2⟩; have hx2 := ((H1.out.1.drewN _).below hb2); have k1 := hx2.cells.2.1; have hbl2 := hx2.lt; have H2 := Lib.hid hb2; clear hb2 hx2; simp only [tokR, tokV])
        have kA : ∀ (o : Obj), (w2.alloc o).cell? ⟨b, 1, none⟩ = some (.int .i64 a') := fun o => (World.cell?_alloc_lt w2 o ⟨b, 1, none⟩ hbl2).trans k1
        go_region
        all_goals go_wp2
        all_goals
          rw [Exit.noGoto_ret, HR2.out]
          refine bodyPost_ret (v := .tuple #[.slice none 0 0, .iface 37 (.pointer (some ⟨w2.heap.size + 1, 0, none⟩))]) (by simp [results, Tryz.results5, go_sem]) rfl ?_
          have hB2 : Below w.heap.size w w2 := (HB1.out.drewN _).trans ⟨H2.out.os, H2.out.tape, H2.out.output, H2.out.size, fun k hk => H2.out.block k (Nat.lt_of_lt_of_le hk HB1.out.size)⟩
          refine ⟨w2.heap.size + 1, rfl, by have := hB2.size; omega, ?_, ?_⟩
          · exact heap_alloc_two w2 _ _
          · exact ((hB2.alloc hB2.size _).alloc (Nat.le_trans hB2.size (by simp)) _).drew
      · obtain ⟨haa, ha'⟩ : a ≤ a' ∧ a' ≤ s.size := blanks_le hb1 ha
        have hlt' : a' < s.size := by omega
        have HBL := Lib.hid (lblanks_at hb1 ha (by omega) hsz' WR HLE.out.env HX.out)
        obtain ⟨hn1, hn2⟩ : 1 ≤ n ∧ n ≤ s.size - a' := by
          have hne2 : s.data.toList.drop a' ≠ [] := by
            intro h
            have := congrArg List.length h
            rw [List.length_drop, List.length_nil, show s.data.toList.length = s.size from rfl] at this
            omega
          have h := lToken_size hne2 ht rfl
          rw [List.length_drop, show s.data.toList.length = s.size from rfl] at h
          exact h
        have HR2 := Lib.hid hr1
        have e1 : ((a' : Int) == s.size) = false := by simp; omega
        obtain ⟨tk, kd, nn, tx, ta⟩ := t
        have HT := Lib.hid ht
        clear hb1 hr1 ht
        go_wp2_with (go_at_call 9; refine HBL.out.mono ?_; rintro e w1 ⟨rfl, hle1, hx1, ho1⟩; obtain ⟨c0, c1, c2, c3, f0, f1, f2, f3⟩ := hx1.cells; have hbl1 := hx1.lt; have H1 := Lib.hid (And.intro hx1 ho1); clear hx1 ho1)
        go_quiet (fail)
        have HB1 := Lib.hid (HB.out.trans (H1.out.2.below HBE.out HB.out.size))
        go_wp2_with (go_at_call 10; refine (ltoken_at HT.out hlt' hsz' _ (HE.out.below (HB1.out.drewN _)) (by exact hbl1) (by exact c0) (by exact c1)).mono ?_; rintro e w2 ⟨rfl, hb2⟩; have hx2 := ((H1.out.1.drewN _).below hb2); obtain ⟨d0, d1, d2, d3, g0, g1, g2, g3⟩ := hx2.cells; have hbl2 := hx2.lt; have H2 := Lib.hid (And.intro hb2 hx2); clear hb2 hx2; have kA : ∀ (o : Obj), (w2.alloc o).cell? ⟨b, 1, none⟩ = some (.int .i64 a') := (fun o => (World.cell?_alloc_lt w2 o ⟨b, 1, none⟩ hbl2).trans d1); simp only [tokR, tokV])
        have HO2 := Lib.hid (own_below (own_drewN (HO.out.kept H1.out.2.grown (.inr HN.out)) _) H2.out.1 (Nat.le_refl _))
        have hB2 : Below w.heap.size w w2 := (HB1.out.drewN _).trans ⟨H2.out.1.os, H2.out.1.tape, H2.out.1.output, H2.out.1.size, fun k hk => H2.out.1.block k (Nat.lt_of_lt_of_le hk HB1.out.size)⟩
        have hbase : w.heap.size ≤ w2.heap.size := hB2.size
        have HB2 := Lib.hid hB2
        have kB : ∀ (o : Obj), (w2.alloc o).cell? ⟨b, 3, none⟩ = some lv := fun o => (World.cell?_alloc_lt w2 o ⟨b, 3, none⟩ hbl2).trans d3
        have kC : ∀ (o o' : Obj), ((w2.alloc o).alloc o').cell? ⟨b, 3, none⟩ = some lv := fun o o' => (World.cell?_alloc_lt (w2.alloc o) o' ⟨b, 3, none⟩ (by simp; omega)).trans (kB o)
        clear hB2
        go_region_law ((refine step_append_lies _ (by rfl) _ _ _ (by rfl) w.heap.size 31 i0 _ 5 48 Tryz.underlying24 HI.out.1 HI.out.2.1 HI.out.2.2.1 HI.out.2.2.2 rfl (by omega) lv out.length (toksC out) (by rfl) (((HO2.out.alloc _).alloc _).drew) ⟨w2.heap.size + 1, 0, none⟩ 1 1 (tokC ⟨tk, kd, nn, tx, a'⟩) (by rfl) (by rfl) (World.news_of_block (cs := (tokC ⟨tk, kd, nn, tx, a'⟩).toArray) (t := 31) (fr := (0, 0)) (heap_alloc_two _ _ _)) (tokC_one _) (by omega) (by simp only [maxLen]; omega) (by omega) (by simp; omega) (w2.heap.size + 1 + 1) (by simp) ?_; intro g cap w3 hown3 hgrow3 hat3 hlt3; have k3 := (app_stays H2.out.2 (below_two _ _ _) hgrow3 HN.out).cells; have k3a := k3.2.2.2.1; have k3b := k3.2.2.2.2.2.2.2; have k3c := k3.2.1; have k3d := k3.2.2.2.2.2.1; have H3 := Lib.hid (app_after H2.out.2 HO2.out HB2.out HBE.out HN.out (below_two _ _ _) hgrow3 hown3 (hat3.imp id (fun h => by omega))); clear k3 hown3 hgrow3 hat3 hlt3))
        all_goals go_wp2
        all_goals
          go_roundw
          case rel =>
            have h4 := set1_after H3.out HBE.out ((a' : Int) + n)
            have hc : (((a' + n : Nat)) : Int) = (a' : Int) + n := by omega
            exact ⟨a' + n, f, out ++ [⟨tk, kd, nn, tx, a'⟩], _, by omega, by omega, by simp; omega, HR2, Lib.hid (by rw [hc]; exact h4.1), Lib.hid (by rw [toksC_add, List.length_append]; exact h4.2.1), Lib.hid h4.2.2.1, Lib.hid h4.2.2.2⟩
          case measure =>
            have h4 := set1_after H3.out HBE.out ((a' : Int) + n)
            have h5 := h4.1.cells.2.1
            have h6 := HX.out.cells.2.1
            simp [h5, h6, intOf]; omega
end Go.Proofs.YtdabnnganponpaaGreatDoor
