/- The walk through the statement LexBlanks. -/
import Derived.Test.YtdabnnganponpaaGreatDoorLexLX
import Derived.Test.YtdabnnganponpaaGreatDoorLexRK
namespace Go.Proofs.YtdabnnganponpaaGreatDoor
open Go.RowKit Lx Ad

/-- The blanks that are written ahead of the i-th token. -/
def blOf (zs : List Int) (n i : Nat) : Nat := if i < n then (zs.getD i 0 % 6).toNat else 0
theorem blOf_lt (zs : List Int) (n i : Nat) : blOf zs n i < 6 := by
  unfold blOf
  split
  · have h1 := Int.emod_nonneg (zs.getD i 0) (show (6 : Int) ≠ 0 by decide)
    have h2 := Int.emod_lt_of_pos (zs.getD i 0) (show (0 : Int) < 6 by decide)
    omega
  · decide
theorem bl_get (j : Nat) (hj : j < 6) : ∀ h : j < ([.string ⟨#[32]⟩, .string ⟨#[10]⟩, .string ⟨#[9, 32, 13]⟩, .string ⟨#[40, 42, 32, 120, 32, 42, 41]⟩, .string ⟨#[32, 40, 42, 42, 41, 32]⟩, .string ⟨#[10, 40, 42, 32, 40, 42, 32, 42, 41, 10]⟩] : List Value).length, ([.string ⟨#[32]⟩, .string ⟨#[10]⟩, .string ⟨#[9, 32, 13]⟩, .string ⟨#[40, 42, 32, 120, 32, 42, 41]⟩, .string ⟨#[32, 40, 42, 42, 41, 32]⟩, .string ⟨#[10, 40, 42, 32, 40, 42, 32, 42, 41, 10]⟩] : List Value)[j]'h = .string (mkS (BL j)) := by
  have h : j = 0 ∨ j = 1 ∨ j = 2 ∨ j = 3 ∨ j = 4 ∨ j = 5 := by omega
  rcases h with rfl | rfl | rfl | rfl | rfl | rfl <;> exact fun _ => rfl
theorem bl_cell (j : Nat) (hj : j < 6) (W : World) : (W.alloc (.cells #[.string ⟨#[32]⟩, .string ⟨#[10]⟩, .string ⟨#[9, 32, 13]⟩, .string ⟨#[40, 42, 32, 120, 32, 42, 41]⟩, .string ⟨#[32, 40, 42, 42, 41, 32]⟩, .string ⟨#[10, 40, 42, 32, 40, 42, 32, 42, 41, 10]⟩] 9)).cell? ⟨W.heap.size, j, none⟩ = some (.string (mkS (BL j))) := by
  have h : j = 0 ∨ j = 1 ∨ j = 2 ∨ j = 3 ∨ j = 4 ∨ j = 5 := by omega
  rcases h with rfl | rfl | rfl | rfl | rfl | rfl <;> exact (World.cell?_alloc_at _ _ _ _ rfl)
theorem rout_step {l : List UInt8} {bl : Nat → Nat} {ts : List Tok} {i : Nat} {t t' : Tok} {a a2 r : Nat} (hi : ts[i]? = some t) (hi' : ts[i + 1]? = some t') (ha : t.at_ = (a : Nat)) (ha' : t'.at_ = (a2 : Nat)) (hr : rendF l t a a2 (a2 - a) (a + 1) = r) :
    routL l bl i (ts.drop i) = BL (bl i) ++ ((l.drop a).take (r - a) ++ routL l bl (i + 1) (ts.drop (i + 1))) := by
  have h1 : i < ts.length := by
    rcases Nat.lt_or_ge i ts.length with h | h
    · exact h
    · rw [List.getElem?_eq_none h] at hi; cases hi
  have h2 : i + 1 < ts.length := by
    rcases Nat.lt_or_ge (i + 1) ts.length with h | h
    · exact h
    · rw [List.getElem?_eq_none h] at hi'; cases hi'
  rw [List.getElem?_eq_getElem h1] at hi
  rw [List.getElem?_eq_getElem h2] at hi'
  rw [List.drop_eq_getElem_cons h1, List.drop_eq_getElem_cons h2, Option.some.inj hi, Option.some.inj hi']
  simp only [routL, ha, ha', Int.toNat_natCast, hr]
theorem rout_last {l : List UInt8} {bl : Nat → Nat} {ts : List Tok} {i : Nat} (h : ts.length = i + 1) : routL l bl i (ts.drop i) = [] := by
  rw [List.drop_eq_getElem_cons (by omega), List.drop_of_length_le (by omega)]
  rfl
theorem at0_get {ts ms : List Tok} (h : ms.map at0 = ts.map at0) {i : Nat} {tk kd nn ta : Int} {tx : List UInt8} (hi : ts[i]? = some ⟨tk, kd, nn, tx, ta⟩) : ∃ ta', ms[i]? = some ⟨tk, kd, nn, tx, ta'⟩ := by
  have h1 := congrArg (fun l => l[i]?) h
  simp only [List.getElem?_map, hi, Option.map_some] at h1
  cases hm : ms[i]? with
  | none => rw [hm] at h1; cases h1
  | some m =>
    rw [hm] at h1
    obtain ⟨mk, md, mn, mx, ma⟩ := m
    simp only [Option.map_some, Option.some.injEq, at0, Tok.mk.injEq] at h1
    obtain ⟨rfl, rfl, rfl, rfl, -⟩ := h1
    exact ⟨ma, rfl⟩
theorem str_cat (o : ByteArray) (b : List UInt8) (p : ByteArray) : (o ++ mkS b ++ p).data.toList = o.data.toList ++ (b ++ p.data.toList) := by
  rw [ByteArray.data_append, ByteArray.data_append]
  simp [mkS]

set_option maxRecDepth 100000 in
set_option maxHeartbeats 8000000 in
theorem lexBlanks_walk (x : ByteArray) (hx : x.size ≤ 140737488351232) (a0 : Option Addr) (n cp : Nat) (zs : List Int) {w : World} (y : (0 < n → ∃ bb off, a0 = some ⟨bb, off, none⟩ ∧ ∀ i, i < n → w.cell? ⟨bb, off + i, none⟩ = some (.int .u8 (zs.getD i 0))) ∧ (∀ i, i < n → 0 ≤ zs.getD i 0 ∧ zs.getD i 0 ≤ 255) ∧ n ≤ 9223372036854775807) (he : TEnv w) :
    Calls Tryz.prog 3 #[.string x, .slice a0 n cp] w fun e w' => e = .returned (.bool true) ∧ Below w.heap.size w w' := by
  obtain ⟨hcell, hzs, hn⟩ := y
  have HE := Lib.hid he
  have hxs : (x.size : Int) ≤ 140737488351232 := by omega
  have HCB := Lib.hid hcell
  have HZB := Lib.hid hzs
  clear hcell hzs
  clear he
  by_cases hbig : 1500 < x.size ∨ 400 < n
  · have hways : ((1500 : Int) < x.size) ∨ ((x.size : Int) ≤ 1500 ∧ (400 : Int) < n) := by omega
    rcases hways with z1 | ⟨z1, z2⟩
    all_goals
      go_enter Tryz.func3, Tryz.ntmps3
      go_wp2_with (go_at_call 4; refine (known_at _ HE.out).mono ?_; rintro e w1 ⟨rfl, hb1⟩; have H1 := Lib.hid hb1; clear hb1)
      go_ret
      exact ⟨rfl, H1.out⟩
  have z1 : (x.size : Int) ≤ 1500 := by omega
  have z2 : (n : Int) ≤ 400 := by omega
  have hx15 : x.size ≤ 1500 := by omega
  obtain ⟨R, hR⟩ : ∃ R, lTokens x.data.toList false = R := ⟨_, rfl⟩
  cases R with
  | error q =>
    obtain ⟨qa, qn⟩ := q
    have HC := Lib.hid (fun W hW => tokens_err hR (by omega) W hW)
    clear hR hbig
    go_enter Tryz.func3, Tryz.ntmps3
    go_wp2_with (go_at_call 4; refine (known_at _ HE.out).mono ?_; rintro e w1 ⟨rfl, hb1⟩; have H1 := Lib.hid hb1; clear hb1)
    refine (HC.out _ (HE.out.lex.below H1.out)).mono ?_
    rintro e w2 ⟨p, rfl, hp, hb2⟩
    have H2 := Lib.hid (bjoin H1.out hb2)
    clear hp hb2
    go_wp2
    go_ret
    exact ⟨rfl, H2.out⟩
  | ok ts =>
    obtain ⟨L, hL⟩ : ∃ L, x.data.toList = L := ⟨_, rfl⟩
    have hLl : L.length = x.size := by rw [← hL]; rfl
    have hpos := lTokens_pos hR
    have HC := Lib.hid (fun W hW => tokens_ok hR hpos (by omega) W hW)
    rw [hL] at hR
    obtain ⟨ms, hms, hat, hlen⟩ := blanks_rlaw (bl := (blOf zs n)) (fun i => blOf_lt _ _ i) hR (by omega)
    have hch := lTokens_chain hR
    have hcnt := chain_count ts 0 hch
    rw [hLl] at hcnt
    have HCH := Lib.hid (chain_places ts 0 hch)
    have HAT := Lib.hid hat
    have hmlen : ms.length = ts.length := by have := congrArg List.length hat; simpa using this
    obtain ⟨OUT, hOUT⟩ : ∃ OUT, routL L (blOf zs n) 0 ts = OUT := ⟨_, rfl⟩
    rw [hOUT] at hms hlen
    have HOUT := Lib.hid hOUT
    have HMS := Lib.hid hms
    have HL := Lib.hid hL
    have HLL := Lib.hid hLl
    have HOL := Lib.hid hlen
    have hts : ts.length ≤ 1501 := by omega
    clear hR hL hLl hms hat hlen hch hcnt hOUT hbig
    go_enter Tryz.func3, Tryz.ntmps3
    go_wp2_with (go_at_call 4; refine (known_at _ HE.out).mono ?_; rintro e w1 ⟨rfl, hb1⟩; have H1 := Lib.hid hb1; clear hb1)
    refine (HC.out _ (HE.out.lex.below H1.out)).mono ?_
    rintro e w2 ⟨g, cap, rfl, hcs, hb2⟩
    have HTC : Hid (TC w2 g ts) := Lib.hid hcs
    have H2 := Lib.hid (bjoin H1.out hb2)
    clear hcs hb2 HC H1
    go_wp2
    go_loopw [7, 8] (fun v7 v8 wr => RRel (∃ (i : Nat) (out : ByteArray), i < ts.length ∧ v7 = .string out ∧ v8 = .int .i64 i ∧ Hid (out.data.toList ++ routL L (blOf zs n) i (ts.drop i) = OUT) ∧ Hid (Below w2.heap.size w2 wr))) (fun _ v8 _ => ts.length - (intOf v8).toNat)
    case atStart => exact RRel.mk ⟨0, ⟨#[]⟩, hpos, rfl, rfl, HOUT, Lib.hid (Below.refl _ _)⟩
    case round =>
      clear HOUT
      obtain ⟨i, out, hit, rfl, rfl, HD, HB⟩ := hrel.it
      clear hrel
      obtain ⟨WR, rfl⟩ : ∃ WR, WR = wr := ⟨_, rfl⟩
      have HT1 := Lib.hid (HTC.out.below HB.out)
      have hol : out.size ≤ 17000 := by
        have h := congrArg List.length HD.out
        rw [List.length_append, size_list] at h
        have := HOL.out
        omega
      by_cases hlt : i + 1 < ts.length
      · obtain ⟨t, hi⟩ : ∃ t, ts[i]? = some t := ⟨ts[i], List.getElem?_eq_getElem hit⟩
        obtain ⟨t', hi'⟩ : ∃ t, ts[i + 1]? = some t := ⟨ts[i + 1], List.getElem?_eq_getElem hlt⟩
        obtain ⟨a, ha, _, hal, hnext⟩ := HCH.out i t hi
        obtain ⟨a2, ha', haa, ha2l⟩ := hnext t' hi'
        rw [HLL.out] at hal ha2l
        obtain ⟨r, hr⟩ : ∃ r, rendF L t a a2 (a2 - a) (a + 1) = r := ⟨_, rfl⟩
        have hrle := rend_le (l := L) (x := t) (a := a) (lim := a2) (a2 - a) (a + 1) (by omega) (by omega) haa
        rw [hr] at hrle
        obtain ⟨hr1, hr2⟩ := hrle
        have HST : Hid (out.data.toList ++ (BL ((blOf zs n) i) ++ ((L.drop a).take (r - a) ++ routL L (blOf zs n) (i + 1) (ts.drop (i + 1)))) = OUT) := Lib.hid (by rw [← rout_step hi hi' ha ha' hr]; exact HD.out)
        have HEND := Lib.hid (fun W (hW : TC W g ts) => rend_at (s := x) (cap := cap) (r := r) rfl (by omega) hi hi' ha ha' haa (by omega) (by omega) (by rw [HL.out]; exact hr) W hW)
        obtain ⟨c0, c1, c2, c3, c4⟩ := HT1.out.cells hi
        rw [ha] at c4
        have hg : g < WR.heap.size := lt_of_cell c4
        obtain ⟨p, hp⟩ : ∃ p, x.extract a r = p := ⟨_, rfl⟩
        have hpl : p.data.toList = (L.drop a).take (r - a) := by
          rw [← hp, ← HL.out, ByteArray.data_extract]
          simp only [Array.toList_extract, List.extract_eq_take_drop]
        have hps : p.size ≤ 1500 := by rw [← hp]; simp [ByteArray.size_extract]; omega
        have HPL := Lib.hid hpl
        obtain ⟨j, hj⟩ : ∃ j, (blOf zs n) i = j := ⟨_, rfl⟩
        have hj6 : j < 6 := by rw [← hj]; exact blOf_lt _ _ _
        rw [hj] at HST
        have HJ := Lib.hid hj
        have hblen := BL_len j
        have hmg := bl_get j hj6
        have hmc := fun W => bl_cell j hj6 W
        obtain ⟨bs, hbs⟩ : ∃ bs, mkS (BL j) = bs := ⟨_, rfl⟩
        have hbsz : bs.size = (BL j).length := by rw [← hbs]; simp [mkS, ByteArray.size]
        rw [hbs] at hmg hmc
        have HBS := Lib.hid hbs
        have i0 : 0 ≤ (i : Int) := by omega
        have i1 : (i : Int) < ts.length := by omega
        have i2 : (i : Int) + 1 < ts.length := by omega
        have i5 : IntKind.i64.wrap ((i : Int) + 1) = (i : Int) + 1 := IntWalk.i64_in _ (by omega)
        have j0 : 0 ≤ (j : Int) := by omega
        have j1 : (j : Int) < 6 := by omega
        have ap0 : 0 ≤ (a : Int) := by omega
        have r0 : 0 ≤ (r : Int) := by omega
        have ar : (a : Int) ≤ r := by omega
        have rx : (r : Int) ≤ x.size := by omega
        have s1 : out.size + bs.size ≤ 9223372036854775807 := by omega
        have s2 : out.size + bs.size + p.size ≤ 9223372036854775807 := by omega
        have s3 : (out ++ bs).size + p.size ≤ 9223372036854775807 := by rw [ByteArray.size_append]; omega
        clear hi hi' ha ha' hr hal ha2l hnext hpl hj hbs HD hol hblen hbsz hps c0 c1 c2 c3
        go_upto_if 42 with fail
        go_cut [1, 9] from 42 to 48 (fun v1 v9 wx => v1 = .slice a0 n cp ∧ v9 = .int .i64 j ∧ WR = wx)
        case first =>
          by_cases hib : i < n
          · have ib : (i : Int) < n := by omega
            obtain ⟨bb, off, rfl, hcb0⟩ := HCB.out (by omega)
            obtain ⟨z, hz⟩ : ∃ z, zs.getD i 0 = z := ⟨_, rfl⟩
            have hcb := hcb0 i hib
            obtain ⟨hz0, hz1⟩ := HZB.out i hib
            rw [hz] at hcb hz0 hz1
            have hjz : z % 6 = (j : Int) := by
              have h := HJ.out
              unfold blOf at h
              rw [if_pos hib, hz] at h
              omega
            have hcb2 : WR.cell? ⟨bb, off + i, none⟩ = some (.int .u8 z) := cell_later (bjoin H2.out HB.out) hcb
            have HJZ := Lib.hid hjz
            clear hz hcb hcb0 hib hjz
            go_wp2_with fail
            go_meet
            exact ⟨rfl, by rw [HJZ.out], rfl⟩
          · have ib : ¬ (i : Int) < n := by omega
            have hj0 : j = 0 := by
              have h := HJ.out
              unfold blOf at h
              rw [if_neg hib] at h
              exact h.symm
            have HJ0 := Lib.hid hj0
            clear hib hj0
            go_wp2_with fail
            go_meet
            exact ⟨rfl, by rw [HJ0.out]; rfl, rfl⟩
        case rest =>
        obtain ⟨rfl, rfl, rfl⟩ := hcut
        go_upto_region 15 with fail
        go_region_with (go_at_call 6; refine (HEND.out _ (by first | exact HT1.out | exact HT1.out.below ((Below.refl _ _).drew) | exact HT1.out.below ((Below.refl _ _).alloc (Nat.le_refl _) _) | exact HT1.out.below (((Below.refl _ _).drew).alloc (by simp) _) | exact HT1.out.below (((Below.refl _ _).alloc (Nat.le_refl _) _).drew))).mono ?_; rintro e w5 ⟨rfl, hb5⟩; have k4 : w5.cell? ⟨g, i * 5 + 4, none⟩ = some (.int .i64 a) := (by first | exact cell_later hb5 c4 | exact cell_later hb5 (show WR.drew.cell? _ = _ from c4) | exact cell_later hb5 ((World.cell?_alloc_lt WR.drew _ ⟨g, i * 5 + 4, none⟩ hg).trans c4) | exact cell_later hb5 ((World.cell?_alloc_lt WR _ ⟨g, i * 5 + 4, none⟩ hg).trans c4)); have hg5 : g < w5.heap.size := lt_of_cell k4; have hB5 : Below w2.heap.size w2 w5 := (by first | exact bjoin HB.out.drew hb5 | exact bjoin (HB.out.alloc HB.out.size _).drew hb5 | exact bjoin (HB.out.drew.alloc HB.out.size _) hb5); try have kb : w5.cell? ⟨WR.heap.size, j, none⟩ = some (.string bs) := (by first | exact cell_later hb5 (hmc WR) | exact cell_later hb5 (hmc WR.drew) | exact cell_later hb5 (show (WR.alloc _).drew.cell? _ = _ from hmc WR)))
        all_goals
          go_wp2
          go_roundw
          case rel =>
            exact RRel.mk ⟨i + 1, out ++ bs ++ p, hlt, rfl, by go_num, Lib.hid (by rw [← HBS.out, str_cat, HPL.out, List.append_assoc, List.append_assoc]; exact HST.out), Lib.hid (by first | exact hB5 | exact Below.alloc hB5 hB5.size _)⟩
          case measure => simp [intOf]; omega
      · have hil : ts.length = i + 1 := by omega
        have HO : Hid (out.data.toList = OUT) := Lib.hid (by have h := HD.out; rw [rout_last hil, List.append_nil] at h; exact h)
        have hod : (out ++ ⟨#[32]⟩ : ByteArray).data.toList = OUT ++ [32] := by rw [ByteArray.data_append, ← HO.out]; simp
        have hmpos : 0 < ms.length := by omega
        have HC2 := Lib.hid (fun W hW => tokens_ok (s := out ++ ⟨#[32]⟩) (il := false) (ts := ms) (by rw [hod]; exact HMS.out) hmpos (by rw [ByteArray.size_append, show (⟨#[32]⟩ : ByteArray).size = 1 from rfl]; omega) W hW)
        have s1 : out.size + 1 ≤ 9223372036854775807 := by omega
        have i2 : ¬ (i : Int) + 1 < ts.length := by omega
        have i5 : IntKind.i64.wrap ((i : Int) + 1) = (i : Int) + 1 := IntWalk.i64_in _ (by omega)
        have em : ((ms.length : Int) != ts.length) = false := by rw [hmlen]; simp
        clear HD hil hod HO hol
        go_wp2_with fail
        refine (HC2.out _ (HE.out.lex.below (bjoin H2.out HB.out))).mono ?_
        rintro e w3 ⟨g3, cap3, rfl, hcs3, hb3⟩
        have HTM : Hid (TC w3 g3 ms) := Lib.hid hcs3
        have HTS := Lib.hid (HT1.out.below hb3)
        have H3 := Lib.hid (bjoin (bjoin H2.out HB.out) hb3)
        clear hcs3 hb3 HC2 HT1 HTC
        go_wp2
        go_loopw [12] (fun v12 wr => RRel (∃ k : Nat, k ≤ ts.length ∧ v12 = .int .i64 k ∧ Hid (Below w3.heap.size w3 wr))) (fun v12 _ => ts.length - (intOf v12).toNat)
        case atStart => exact RRel.mk ⟨0, by omega, rfl, Lib.hid (Below.refl _ _)⟩
        case round =>
          obtain ⟨k, hk, rfl, HB4⟩ := hrel.it
          clear hrel
          obtain ⟨W4, rfl⟩ : ∃ W4, W4 = wr := ⟨_, rfl⟩
          by_cases hkl : k < ts.length
          · obtain ⟨⟨tk, kd, nn, tx, ta⟩, hi⟩ : ∃ t, ts[k]? = some t := ⟨ts[k], List.getElem?_eq_getElem hkl⟩
            obtain ⟨ta2, hi2⟩ := at0_get HAT.out hi
            obtain ⟨c0, c1, c2, c3, c4⟩ := (HTS.out.below HB4.out).cells hi
            obtain ⟨d0, d1, d2, d3, d4⟩ := (HTM.out.below HB4.out).cells hi2
            simp only at c0 c1 c2 c3 c4 d0 d1 d2 d3 d4
            have hg : g < W4.heap.size := lt_of_cell c0
            have hg3 : g3 < W4.heap.size := lt_of_cell d0
            have k0 : 0 ≤ (k : Int) := by omega
            have k1 : (k : Int) < ts.length := by omega
            have k2 : (k : Int) < ms.length := by omega
            have k5 : IntKind.i64.wrap ((k : Int) + 1) = (k : Int) + 1 := IntWalk.i64_in _ (by omega)
            clear hi hi2
            go_upto_region 22 with fail
            go_region
            all_goals
              go_wp2
              go_roundw
              case rel => exact RRel.mk ⟨k + 1, by omega, by go_num, Lib.hid ((HB4.out.alloc HB4.out.size _).alloc (Nat.le_trans HB4.out.size (by simp)) _).drew⟩
              case measure => simp [intOf]; omega
          · have k1 : ¬ (k : Int) < ts.length := by omega
            go_wp2
            go_ret
            exact ⟨rfl, bjoin H3.out HB4.out⟩

end Go.Proofs.YtdabnnganponpaaGreatDoor
