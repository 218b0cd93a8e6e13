/- The walk through the reference's Pin (package rungref15). -/
import Derived.Test.YtdpkjpjkdmkkpaaGreatDoorMY
import Derived.Test.YtdpkjpjkdmkkpaaGreatDoorMU
namespace Go.Proofs.YtdpkjpjkdmkkpaaGreatDoor
open Go.RowKit Lx

/-- The kind of a pin by its name. -/
def rKindP (q : List UInt8) : Int := if q = [80, 84] ∨ q = [69, 84] then 11 else if q = [80, 86] ∨ q = [67, 86] then 3 else 1
def rPinF (q : List UInt8) : List (List UInt8) → Int
  | [] => 0
  | a :: r => if a = q then rKindP q else rPinF q r
def pairsOk : List (List UInt8) → Bool
  | a :: k :: r => decide (Pa.kindOf k = rKindP a) && pairsOk r
  | [] => true
  | [_] => false
theorem pinF_pairs (q : List UInt8) : ∀ (n : Nat) (ws : List (List UInt8)), ws.length ≤ n → pairsOk ws = true → Ty.pinF ws q = rPinF q (Ty.evens ws) := by
  intro n
  induction n with
  | zero =>
    intro ws h _
    cases ws with
    | nil => rfl
    | cons a r => simp at h
  | succ n ih =>
    intro ws h hp
    match ws, h, hp with
    | [], _, _ => rfl
    | [a], _, hp => cases hp
    | a :: k :: r, h, hp =>
      unfold pairsOk at hp
      simp only [Bool.and_eq_true, decide_eq_true_eq] at hp
      have h2 := ih r (by simp at h; omega) hp.2
      show (if a = q then Pa.kindOf k else Ty.pinF r q) = (if a = q then rKindP q else rPinF q (Ty.evens r))
      rw [h2, hp.1]
      by_cases hq : a = q
      · rw [if_pos hq, if_pos hq, hq]
      · rw [if_neg hq, if_neg hq]
theorem rpin_same (x : ByteArray) (q : List UInt8) : rPinF q (Ty.insOf x.data.toList ++ Ty.outsOf x.data.toList) = Ty.pin x.data.toList q := by
  have key : (pairsOk (Ty.words ((pinsB x).1.data.toList ++ 32 :: (pinsB x).2.1.data.toList)) && decide (Ty.evens (Ty.words ((pinsB x).1.data.toList ++ 32 :: (pinsB x).2.1.data.toList)) = Ty.evens (Ty.words (pinsB x).1.data.toList) ++ Ty.evens (Ty.words (pinsB x).2.1.data.toList))) = true := by
    rcases pins_ways x with ⟨_, h⟩ | ⟨_, h⟩ | ⟨_, h⟩ | ⟨_, h⟩ | ⟨_, h⟩ | ⟨_, h⟩ | ⟨_, h⟩ | ⟨_, h⟩ | ⟨_, h⟩ | ⟨_, h⟩ | ⟨h, _⟩
    all_goals
      rw [h]
      kernel_rfl
  simp only [Bool.and_eq_true, decide_eq_true_eq] at key
  obtain ⟨h1, h2, h3⟩ := pins_words x
  rw [h1, h2, h3 q, pinF_pairs q _ _ (Nat.le_refl _) key.1, key.2]
theorem rPinF_next {q a : List UInt8} {ps : List (List UInt8)} {i : Nat} (h : ps[i]? = some a) : rPinF q (ps.drop i) = if a = q then rKindP q else rPinF q (ps.drop (i + 1)) := by
  obtain ⟨hi, ha⟩ := List.getElem?_eq_some_iff.1 h
  rw [List.drop_eq_getElem_cons hi, ha, rPinF]
theorem rPinF_end {q : List UInt8} {ps : List (List UInt8)} {i : Nat} (h : ps.length ≤ i) : rPinF q (ps.drop i) = 0 := by
  rw [List.drop_of_length_le h]; rfl
theorem ins_some {x : ByteArray} (h : 0 < (Ty.insOf x.data.toList).length) : 0 < (Ty.outsOf x.data.toList).length := by
  have key : (decide (0 < (Ty.evens (Ty.words (pinsB x).1.data.toList)).length) == decide (0 < (Ty.evens (Ty.words (pinsB x).2.1.data.toList)).length)) = true := by
    rcases pins_ways x with ⟨_, h⟩ | ⟨_, h⟩ | ⟨_, h⟩ | ⟨_, h⟩ | ⟨_, h⟩ | ⟨_, h⟩ | ⟨_, h⟩ | ⟨_, h⟩ | ⟨_, h⟩ | ⟨_, h⟩ | ⟨h, _⟩
    all_goals
      rw [h]
      kernel_rfl
  obtain ⟨h1, h2, _⟩ := pins_words x
  rw [← h1, ← h2] at key
  simp only [beq_iff_eq, decide_eq_decide] at key
  exact key.1 h
theorem ins_none {x : ByteArray} (h : ¬ 0 < (Ty.insOf x.data.toList).length) : pinsB x = (⟨#[]⟩, ⟨#[]⟩, false) := by
  rcases pins_ways x with ⟨rfl, _⟩ | ⟨rfl, _⟩ | ⟨rfl, _⟩ | ⟨rfl, _⟩ | ⟨rfl, _⟩ | ⟨rfl, _⟩ | ⟨rfl, _⟩ | ⟨rfl, _⟩ | ⟨rfl, _⟩ | ⟨rfl, _⟩ | ⟨h2, _⟩
  all_goals first
    | exact h2
    | exact absurd (of_decide_eq_true (by kernel_rfl)) h

set_option maxRecDepth 100000 in
set_option maxHeartbeats 4000000 in
theorem rpinsNone_at {x : ByteArray} (h : pinsB x = (⟨#[]⟩, ⟨#[]⟩, false)) (w : World) : Calls Tryz.prog 17 #[.string x] w fun e w' => e = .returned (.tuple #[.slice none 0 0, .slice none 0 0]) ∧ w = w' := by
  rcases pins_ways x with ⟨_, h2⟩ | ⟨_, h2⟩ | ⟨_, h2⟩ | ⟨_, h2⟩ | ⟨_, h2⟩ | ⟨_, h2⟩ | ⟨_, h2⟩ | ⟨_, h2⟩ | ⟨_, h2⟩ | ⟨_, h2⟩ | ⟨h2, e0, e1, e2, e3, e4, e5, e6, e7, e8, e9⟩
  rotate_right
  · clear h h2
    go_enter Tryz.func17, Tryz.ntmps17
    go_wp2
    go_returns
    exact ⟨rfl, rfl⟩
  all_goals
    rw [h] at h2
    simp at h2

set_option maxRecDepth 100000 in
set_option maxHeartbeats 4000000 in
theorem rpin_at {x q : ByteArray} {r : Int} (hr : Ty.pin x.data.toList q.data.toList = r) (w : World) :
    Calls Tryz.prog 22 #[.string x, .string q] w fun e w' => e = .returned (.int .i64 r) ∧ Below w.heap.size w w' := by
  rw [← rpin_same] at hr
  obtain ⟨ps, hps⟩ : ∃ ps, Ty.insOf x.data.toList ++ Ty.outsOf x.data.toList = ps := ⟨_, rfl⟩
  rw [hps] at hr
  obtain ⟨i0, hi0, hz0, hz1, hz2⟩ := info_parts strInfo
  have HI := Lib.hid (And.intro hi0 (And.intro hz0 (And.intro hz1 hz2)))
  by_cases hb : 0 < (Ty.insOf x.data.toList).length
  · have hb2 := ins_some hb
    obtain ⟨p1, p2⟩ := pins_few x.data.toList
    have HP := Lib.hid (rpins_at x w)
    obtain ⟨il, hil⟩ : ∃ l, Ty.insOf x.data.toList = l := ⟨_, rfl⟩
    obtain ⟨ol, hol⟩ : ∃ l, Ty.outsOf x.data.toList = l := ⟨_, rfl⟩
    have HIL := Lib.hid hil
    have HOL := Lib.hid hol
    rw [hil, hol] at hps
    rw [hil] at hb p1
    rw [hol] at hb2 p2
    obtain ⟨N1, hN1⟩ : ∃ n, il.length = n := ⟨_, rfl⟩
    obtain ⟨N2, hN2⟩ : ∃ n, ol.length = n := ⟨_, rfl⟩
    have HN1 := Lib.hid hN1
    have HN2 := Lib.hid hN2
    rw [hN1] at hb p1
    rw [hN2] at hb2 p2
    have HR := Lib.hid hr
    have HPS := Lib.hid hps
    have HPL : Hid (ps.length = N1 + N2) := Lib.hid (by rw [← hps, List.length_append, hN1, hN2])
    clear hi0 hz0 hz1 hz2 hr hps hil hol hN1 hN2
    go_enter Tryz.func22, Tryz.ntmps22
    go_wp2_with fail
    refine HP.out.mono ?_
    rintro e w1 ⟨v1, v2, rfl, ho1, ho2, hb1⟩
    rw [HIL.out, HN1.out] at ho1
    rw [HOL.out, HN2.out] at ho2
    obtain ⟨g1, c1, rfl, _, _⟩ := ho1.form hb
    obtain ⟨g2, c2, rfl, _, _⟩ := ho2.form hb2
    have O1 := Lib.hid ho1
    have O2 := Lib.hid ho2
    have B1 := Lib.hid hb1
    have kb1 := hb1.size
    clear ho1 ho2 hb1 HP
    go_wp2_with (first | (at_builtin; refine wpList_append_lies _ (by rfl) _ _ _ (by rfl) w1.heap.size 9 i0 _ 1 16 Tryz.underlying41 HI.out.1 HI.out.2.1 HI.out.2.2.1 HI.out.2.2.2 rfl (by omega) (.slice none 0 0) 0 (strC []) (by rfl) (own_nil _ _) ⟨g1, 0, none⟩ N1 c1 (strC il) (by rfl) (by simpa using O1.out.1) (O1.out.cells (g := g1) rfl) (by intro u hu; simp only [strC, List.mem_map] at hu; obtain ⟨a, _, rfl⟩ := hu; rfl) (by omega) (by simp only [maxLen]; omega) (by omega) (Nat.le_refl _) _ rfl ?_; intro g9 cp9 w2 hown hgrow hat hlt9; have W2 : Hid (w2.ownsRow w1.heap.size 9 1 (.slice (some ⟨g9, 0, none⟩) N1 cp9) N1 (strC il)) := Lib.hid (by simpa [strC] using hown); have B2 := Lib.hid (B1.out.grown hgrow kb1 (fun k hk => by cases hk)); have D2 := Lib.hid ((Below.refl w1.heap.size w1).grown hgrow (Nat.le_refl _) (fun k hk => by cases hk)); have kb2 := D2.out.size; clear hown hgrow hat hlt9) | (at_builtin; refine wpList_append_lies _ (by rfl) _ _ _ (by rfl) w1.heap.size 9 i0 _ 1 16 Tryz.underlying41 HI.out.1 HI.out.2.1 HI.out.2.2.1 HI.out.2.2.2 rfl (by omega) _ N1 (strC il) (by rfl) W2.out ⟨g2, 0, none⟩ N2 c2 (strC ol) (by rfl) (by simpa using O2.out.1) ((own_below O2.out D2.out (Nat.le_refl _)).cells (g := g2) rfl) (by intro u hu; simp only [strC, List.mem_map] at hu; obtain ⟨a, _, rfl⟩ := hu; rfl) (by omega) (by simp only [maxLen]; omega) (by omega) kb2 _ rfl ?_; intro g8 cp8 w3 hown hgrow hat hlt9; have W3 := Lib.hid hown; have B3 := Lib.hid (B2.out.grown hgrow B2.out.size (fun k hk => by have := (W2.out.lt k hk).1; omega)); clear hown hgrow hat hlt9))
    obtain ⟨M, hM⟩ : ∃ M, N1 + N2 = M := ⟨_, rfl⟩
    rw [hM] at W3 ⊢
    have HM : Hid (ps.length = M) := Lib.hid (by rw [HPL.out, ← hM])
    have hMl : M ≤ 200 := by omega
    have C3 : Hid (CellsAt w3 g8 (strC ps)) := Lib.hid (by
      intro j u hj
      have h4 := W3.out.cells (g := g8) rfl j u (by rw [← HPS.out] at hj; simpa [strC] using hj)
      have hadd : (⟨g8, 0, none⟩ : Addr).add j = ⟨g8, j, none⟩ := by unfold Addr.add; split <;> simp_all
      rw [hadd] at h4
      exact h4)
    clear O1 O2 B1 B2 D2 W2 W3 hb hb2 p1 p2 HPL HIL HOL HN1 HN2 hM kb1 kb2
    go_wp2_with fail
    go_loop [8] (fun v8 => RRel (∃ i : Nat, i ≤ M ∧ v8 = .int .i64 i ∧ Hid (rPinF q.data.toList (ps.drop i) = r))) (fun v8 => M - (intOf v8).toNat)
    case atStart => exact RRel.mk ⟨0, by omega, rfl, HR⟩
    case round =>
      obtain ⟨i, hi, rfl, HR2⟩ := hrel.it
      clear hrel HR
      by_cases hlt : i < M
      · obtain ⟨a, ha⟩ : ∃ a, ps[i]? = some a := ⟨ps[i]'(by have := HM.out; omega), by rw [List.getElem?_eq_getElem]⟩
        have HS := Lib.hid (rPinF_next (q := q.data.toList) ha)
        obtain ⟨ab, hab⟩ : ∃ ab : ByteArray, (⟨a.toArray⟩ : ByteArray) = ab := ⟨_, rfl⟩
        have HAB : Hid (a = ab.data.toList) := Lib.hid (by rw [← hab])
        have d1 := C3.out i (.string ab) (by simp [strC, ha, hab])
        have kg := lt_of_cell d1
        have z0 : 0 ≤ (i : Int) := by omega
        have z1 : (i : Int) < M := by omega
        have z2 : (i : Int).toNat = i := by omega
        have z3 : IntKind.i64.wrap ((i : Int) + 1) = (i : Int) + 1 := IntWalk.i64_in _ (by omega)
        clear ha hab
        by_cases hq : ab = q
        · subst hq
          have e0 : (ab.toList != ab.toList) = false := by simp
          have HRK : Hid (rKindP ab.data.toList = r) := Lib.hid (by rw [← HR2.out, HS.out, if_pos HAB.out])
          obtain ⟨b1, hb1⟩ : ∃ b, (ab.toList == [80, 84]) = b := ⟨_, rfl⟩
          obtain ⟨b2, hb2⟩ : ∃ b, (ab.toList == [69, 84]) = b := ⟨_, rfl⟩
          obtain ⟨b3, hb3⟩ : ∃ b, (ab.toList == [80, 86]) = b := ⟨_, rfl⟩
          obtain ⟨b4, hb4⟩ : ∃ b, (ab.toList == [67, 86]) = b := ⟨_, rfl⟩
          have HB : Hid ((b1 = true ↔ ab.data.toList = [80, 84]) ∧ (b2 = true ↔ ab.data.toList = [69, 84]) ∧ (b3 = true ↔ ab.data.toList = [80, 86]) ∧ (b4 = true ↔ ab.data.toList = [67, 86])) := Lib.hid (by
            rw [← hb1, ← hb2, ← hb3, ← hb4]
            simp only [ByteArray.toList_eq, beq_iff_eq, and_self])
          cases b1 with
          | true =>
            have HX : Hid ((11 : Int) = r) := Lib.hid (by rw [← HRK.out]; unfold rKindP; rw [if_pos (.inl (HB.out.1.1 rfl))])
            clear HRK HB
            go_wp2_with fail
            go_ret
            exact ⟨ret_i64 HX.out, B3.out⟩
          | false =>
            cases b2 with
            | true =>
              have HX : Hid ((11 : Int) = r) := Lib.hid (by rw [← HRK.out]; unfold rKindP; rw [if_pos (.inr (HB.out.2.1.1 rfl))])
              clear HRK HB
              go_wp2_with fail
              go_ret
              exact ⟨ret_i64 HX.out, B3.out⟩
            | false =>
              have HN9 : Hid (¬ (ab.data.toList = [80, 84] ∨ ab.data.toList = [69, 84])) := Lib.hid (by
                rintro (h | h)
                · have := HB.out.1.2 h; cases this
                · have := HB.out.2.1.2 h; cases this)
              cases b3 with
              | true =>
                have HX : Hid ((3 : Int) = r) := Lib.hid (by rw [← HRK.out]; unfold rKindP; rw [if_neg HN9.out, if_pos (.inl (HB.out.2.2.1.1 rfl))])
                clear HRK HB
                go_wp2_with fail
                go_ret
                exact ⟨ret_i64 HX.out, B3.out⟩
              | false =>
                cases b4 with
                | true =>
                  have HX : Hid ((3 : Int) = r) := Lib.hid (by rw [← HRK.out]; unfold rKindP; rw [if_neg HN9.out, if_pos (.inr (HB.out.2.2.2.1 rfl))])
                  clear HRK HB
                  go_wp2_with fail
                  go_ret
                  exact ⟨ret_i64 HX.out, B3.out⟩
                | false =>
                  have HX : Hid ((1 : Int) = r) := Lib.hid (by
                    rw [← HRK.out]; unfold rKindP
                    rw [if_neg HN9.out, if_neg (by
                      rintro (h | h)
                      · have := HB.out.2.2.1.2 h; cases this
                      · have := HB.out.2.2.2.2 h; cases this)])
                  clear HRK HB
                  go_wp2_with fail
                  go_ret
                  exact ⟨ret_i64 HX.out, B3.out⟩
        · have e1 : (ab.toList == q.toList) = false := by
            cases h : (ab.toList == q.toList) with
            | false => rfl
            | true => exact absurd ((ba_eq_iff ab q).1 h) hq
          have e0 : (ab.toList != q.toList) = true := by unfold bne; rw [e1]; rfl
          have HNE : Hid (¬ a = q.data.toList) := Lib.hid (fun h => hq (ByteArray.ext (Array.toList_inj.1 (by rw [← HAB.out, h]))))
          clear hq
          go_wp2_with fail
          go_round
          case rel => exact RRel.mk ⟨i + 1, by omega, by simp, Lib.hid (by rw [← HR2.out, HS.out, if_neg HNE.out])⟩
          case measure => simp [intOf]; omega
      · have HX : Hid ((0 : Int) = r) := Lib.hid (by rw [← HR2.out]; exact (rPinF_end (by have := HM.out; omega)).symm)
        have z1 : ¬ (i : Int) < M := by omega
        go_wp2_with fail
        go_ret
        exact ⟨ret_i64 HX.out, B3.out⟩
  · have hn := ins_none hb
    have HX : Hid ((0 : Int) = r) := Lib.hid (by
      rw [← hr, ← hps, (pins_none hn).1, (pins_none hn).2]
      rfl)
    have HP := Lib.hid (rpinsNone_at hn w)
    clear hi0 hz0 hz1 hz2 hr hps hb hn HI
    go_enter Tryz.func22, Tryz.ntmps22
    go_wp2_with (go_at_call 17; refine HP.out.mono ?_; rintro e w1 ⟨rfl, rfl⟩)
    go_wp2_with fail
    go_loop [8] (fun v8 => RRel (v8 = .int .i64 0)) (fun _ => 0)
    case atStart => exact RRel.mk rfl
    case round =>
      obtain rfl := hrel.it
      clear hrel
      go_wp2_with fail
      go_ret
      exact ⟨ret_i64 HX.out, Below.refl _ _⟩
end Go.Proofs.YtdpkjpjkdmkkpaaGreatDoor
