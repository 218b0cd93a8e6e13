/- The statement LexBlanks: where a token's text ends. -/
import Derived.Test.YtdabnnganponpaaGreatDoorTokC
import Derived.Test.YtdabnnganponpaaGreatDoorLexB11
import Derived.Deep.CutRange
namespace Go.Proofs.YtdabnnganponpaaGreatDoor
open Go.RowKit Lx Ad
theorem rjust_ways {p : List UInt8} {x : Tok} {R : Except (Nat × Int) (List Tok)} (h : rTokens p false = R) :
    (∃ q e, R = .error (q, e) ∧ e ≠ 0 ∧ rjust p x = false) ∨ (∃ ts, R = .ok ts ∧ 0 < ts.length ∧ ts.length ≠ 2 ∧ rjust p x = false) ∨ (∃ y z, R = .ok [y, z] ∧ rjust p x = decide (at0 y = at0 x)) := by
  unfold rjust
  rw [h]
  cases R with
  | error q => exact .inl ⟨q.1, q.2, rfl, rTokens_err h, rfl⟩
  | ok ts =>
    have hne : ts ≠ [] := by
      unfold rTokens at h
      split at h
      · cases h
      · obtain ⟨r, h1, h2⟩ := rT_ok _ _ _ _ h
        rw [List.nil_append] at h1
        rw [h1]; exact h2
    match ts, hne with
    | [y], _ => exact .inr (.inl ⟨_, rfl, by simp, by simp, rfl⟩)
    | [y, z], _ => exact .inr (.inr ⟨y, z, rfl, rfl⟩)
    | y :: z :: q :: r, _ => exact .inr (.inl ⟨_, rfl, by simp, by simp, rfl⟩)
theorem rendF_step {l : List UInt8} {x : Tok} {a lim k r : Nat} (hk : k ≤ lim) (h : rendF l x a lim (lim + 1 - k) k = r) : (rjust ((l.drop a).take (k - a)) x = true ∧ r = k) ∨ (rjust ((l.drop a).take (k - a)) x = false ∧ rendF l x a lim (lim + 1 - (k + 1)) (k + 1) = r) := by
  rw [show lim + 1 - k = (lim - k) + 1 by omega, rendF] at h
  cases hj : rjust ((l.drop a).take (k - a)) x with
  | true => rw [hj, if_pos rfl] at h; exact .inl ⟨rfl, h.symm⟩
  | false => rw [hj, if_neg (by simp)] at h; exact .inr ⟨rfl, by rw [show lim + 1 - (k + 1) = lim - k by omega]; exact h⟩

set_option maxRecDepth 100000 in
set_option maxHeartbeats 4000000 in
theorem rend_at {s : ByteArray} {ts : List Tok} {g n cap i a a2 r : Nat} {t t' : Tok} (hn : ts.length = n) (hnb : n ≤ 100000) (hi : ts[i]? = some t) (hi' : ts[i + 1]? = some t') (ha : t.at_ = (a : Nat)) (ha' : t'.at_ = (a2 : Nat)) (haa : a ≤ a2) (has : a2 ≤ s.size) (hs : s.size ≤ 4294967000)
    (hr : rendF s.data.toList t a a2 (a2 - a) (a + 1) = r) (w : World) (hT : TC w g ts) :
    Calls Tryz.prog 6 #[.string s, .slice (some ⟨g, 0, none⟩) n cap, .int .i64 i] w fun e w' => e = .returned (.int .i64 r) ∧ Below w.heap.size w w' := by
  obtain ⟨c0, c1, c2, c3, c4⟩ := hT.cells hi
  rw [ha] at c4
  have hlt : i + 1 < n := by
    rcases Nat.lt_or_ge (i + 1) ts.length with h | h
    · omega
    · rw [List.getElem?_eq_none h] at hi'; cases hi'
  have i0 : 0 ≤ (i : Int) := by omega
  have i1 : (i : Int) < n := by omega
  have i2 : (i : Int) + 1 < n := by omega
  have i3 : ((i : Int) + 1).toNat = i + 1 := by omega
  have i4 : 0 ≤ (i : Int) + 1 := by omega
  have i5 : IntKind.i64.wrap ((i : Int) + 1) = (i : Int) + 1 := IntWalk.i64_in _ (by omega)
  have HS := Lib.hid hs
  have HT := Lib.hid hT
  have HI := Lib.hid hi
  have HI' := Lib.hid hi'
  have HA := Lib.hid ha
  have HA' := Lib.hid ha'
  have HAS := Lib.hid (And.intro haa has)
  have HR : Hid (rendF s.data.toList t a a2 (a2 + 1 - (a + 1)) (a + 1) = r) := Lib.hid (by rw [show a2 + 1 - (a + 1) = a2 - a by omega]; exact hr)
  have hss : s.size ≤ 4294967000 := hs
  have haa2 : (a : Int) ≤ a2 := by omega
  have has2 : (a2 : Int) ≤ s.size := by omega
  have q0 : IntKind.i64.wrap ((a : Int) + 1) = (a : Int) + 1 := IntWalk.i64_in _ (by omega)
  obtain ⟨tk, kd, nn, tx, ta⟩ := t
  clear hn hnb hi hi' ha ha' haa has hs hr hT
  go_enter Tryz.func6, Tryz.ntmps6
  go_wp2
  go_loopw [7] (fun v7 wr => RRel (∃ k : Nat, a + 1 ≤ k ∧ k ≤ a2 + 1 ∧ v7 = .int .i64 k ∧ Hid (rendF s.data.toList ⟨tk, kd, nn, tx, ta⟩ a a2 (a2 + 1 - k) k = r) ∧ Hid (Below w.heap.size w wr))) (fun v7 _ => (a2 + 1 - (intOf v7).toNat))
  case atStart => exact RRel.mk ⟨a + 1, by omega, by omega, rfl, HR, Lib.hid (Below.refl _ _)⟩
  case round =>
    clear HR q0 c0 c1 c2 c3 c4
    obtain ⟨k, k1, k2, rfl, HD, HB⟩ := hrel.it
    clear hrel
    obtain ⟨WR, rfl⟩ : ∃ WR, WR = wr := ⟨_, rfl⟩
    have HT1 := Lib.hid (HT.out.below HB.out)
    obtain ⟨c0, c1, c2, c3, c4⟩ := HT1.out.cells HI.out
    obtain ⟨-, -, -, -, d4⟩ := HT1.out.cells HI'.out
    rw [HA'.out] at d4
    replace c4 : WR.cell? ⟨g, i * 5 + 4, none⟩ = some (.int .i64 a) := by rw [c4]; exact congrArg (fun x => some (Value.int .i64 x)) HA.out
    have q1 : IntKind.i64.wrap ((k : Int) + 1) = (k : Int) + 1 := IntWalk.i64_in _ (by omega)
    have j0 : 0 ≤ (a : Int) := by omega
    have j1 : 0 ≤ (k : Int) := by omega
    have j2 : (a : Int) ≤ k := by omega
    by_cases hk : k ≤ a2
    · have j3 : (k : Int) ≤ s.size := by omega
      have j4 : (k : Int) ≤ a2 := by omega
      obtain ⟨p, hp⟩ : ∃ p, s.extract a k = p := ⟨_, rfl⟩
      have hpl : p.data.toList = (s.data.toList.drop a).take (k - a) := by
        rw [← hp, ByteArray.data_extract]
        simp only [Array.toList_extract, List.extract_eq_take_drop]
      have hps : p.size ≤ 4294967000 := by rw [← hp]; simp [ByteArray.size_extract]; omega
      obtain ⟨R, hR⟩ : ∃ R, rTokens p.data.toList false = R := ⟨_, rfl⟩
      have hst := rendF_step hk HD.out
      rw [← hpl] at hst
      have HC := Lib.hid (fun W => rtokens_at hR hps W)
      have hways := rjust_ways (x := ⟨tk, kd, nn, tx, ta⟩) hR
      clear HD hR hps hpl
      rcases hways with ⟨q, e, rfl, he, hj⟩ | ⟨ts2, rfl, hl0, hl2, hj⟩ | ⟨y, z, rfl, hj⟩
      · rw [hj] at hst
        have HD2 : Hid (rendF s.data.toList ⟨tk, kd, nn, tx, ta⟩ a a2 (a2 + 1 - (k + 1)) (k + 1) = r) := Lib.hid (by rcases hst with ⟨h, _⟩ | ⟨_, h⟩; cases h; exact h)
        have ee : (e != 0) = true := by simpa using he
        clear hst hj he
        go_wp2_with fail
        refine (HC.out _).mono ?_
        rintro ev w2 ⟨rfl, hb2⟩
        have HB2 := Lib.hid (bjoin HB.out hb2)
        clear hb2
        go_wp2
        go_roundw
        case rel => exact RRel.mk ⟨k + 1, by omega, by omega, by go_num, HD2, HB2⟩
        case measure => simp [intOf]; omega
      · rw [hj] at hst
        have HD2 : Hid (rendF s.data.toList ⟨tk, kd, nn, tx, ta⟩ a a2 (a2 + 1 - (k + 1)) (k + 1) = r) := Lib.hid (by rcases hst with ⟨h, _⟩ | ⟨_, h⟩; cases h; exact h)
        have ee : ((ts2.length : Int) != 2) = true := by simp; omega
        clear hst hj
        go_wp2_with fail
        refine (HC.out _).mono ?_
        rintro ev w2 ⟨v, rfl, ho, hb2⟩
        obtain ⟨g2, cap2, rfl, _, _⟩ := ho.form hl0
        have HB2 := Lib.hid (bjoin HB.out hb2)
        clear hb2 ho
        go_wp2
        go_roundw
        case rel => exact RRel.mk ⟨k + 1, by omega, by omega, by go_num, HD2, HB2⟩
        case measure => simp [intOf]; omega
      · rw [hj] at hst
        have HST := Lib.hid hst
        clear hst hj
        go_wp2_with fail
        refine (HC.out _).mono ?_
        rintro ev w2 ⟨v, rfl, ho, hb2⟩
        obtain ⟨g2, cap2, hv, _, _⟩ := ho.form (by simp)
        have HT2 := Lib.hid (TC.own ho hv)
        subst hv
        have HB2 := Lib.hid (bjoin HB.out hb2)
        have HT3 := Lib.hid (HT1.out.below hb2)
        clear hb2 ho
        obtain ⟨c0, c1, c2, c3, c4⟩ := HT3.out.cells HI.out
        obtain ⟨yk, yd, yn, yx, ya⟩ := y
        obtain ⟨y0, y1, y2, y3, y4⟩ := HT2.out.cells (i := 0) rfl
        simp only [Nat.zero_mul, Nat.zero_add] at y0 y1 y2 y3 y4
        simp only at c0 c1 c2 c3 c4
        have i1' : (0 : Int) < 2 := by omega
        have hl1 : g < w2.heap.size := lt_of_cell c0
        have hl2 : g2 < w2.heap.size := lt_of_cell y0
        go_upto_region 6 with fail
        go_region
        all_goals
          go_wp2
          · go_ret
            have hrk : r = k := by
              rcases HST.out with ⟨_, h⟩ | ⟨h, _⟩
              · exact h
              · exfalso
                simp only [at0, decide_eq_false_iff_not, Tok.mk.injEq] at h
                apply h
                exact ⟨by assumption, by assumption, by assumption, by assumption, trivial⟩
            exact ⟨ret_i64 (by rw [hrk]), ((HB2.out.alloc HB2.out.size _).alloc (Nat.le_trans HB2.out.size (by simp)) _).drew⟩
          all_goals
            have hrk : rendF s.data.toList ⟨tk, kd, nn, tx, ta⟩ a a2 (a2 + 1 - (k + 1)) (k + 1) = r := by
              rcases HST.out with ⟨h, _⟩ | ⟨_, h⟩
              · exfalso
                simp only [at0, decide_eq_true_eq, Tok.mk.injEq] at h
                first
                  | exact absurd h.1 (by assumption)
                  | exact absurd h.2.1 (by assumption)
                  | exact absurd h.2.2.1 (by assumption)
                  | exact absurd h.2.2.2.1 (by assumption)
              · exact h
            go_roundw
            case rel => exact RRel.mk ⟨k + 1, by omega, by omega, by go_num, Lib.hid hrk, Lib.hid ((HB2.out.alloc HB2.out.size _).alloc (Nat.le_trans HB2.out.size (by simp)) _).drew⟩
            case measure => simp [intOf]; omega
    · have hka : k = a2 + 1 := by omega
      have HE : Hid (a2 = r) := Lib.hid (by have h := HD.out; rw [hka, Nat.sub_self] at h; exact h)
      have j4 : ¬ (k : Int) ≤ a2 := by omega
      clear HD
      go_wp2
      go_ret
      exact ⟨ret_i64 (by rw [HE.out]), HB.out⟩
end Go.Proofs.YtdabnnganponpaaGreatDoor
