/- The walk through package lex's token. -/
import Derived.Test.YtdabnnganponpaaGreatDoorLexW8
namespace Go.Proofs.YtdabnnganponpaaGreatDoor
open Go.RowKit Lx Ad

/-- The signs, the longer ones first. -/
def SG : List (List UInt8) := [[58, 61], [46, 46], [60, 61], [62, 61], [60, 62], [61, 62], [58], [59], [44], [46], [40], [41], [91], [93], [61], [60], [62], [43], [45], [42], [47]]
def signF (l : List UInt8) : List (List UInt8) → Tok × Nat × Int
  | [] => (tok0, 0, 120)
  | g :: gs => if Lib.hasPrefix l g = true then (⟨6, 0, 0, g, 0⟩, g.length, 0) else signF l gs
def lNumTok (q : Int × Nat × Int) : Tok × Nat × Int := (⟨3, 0, q.1, [], 0⟩, q.2.1, if q.2.2 = 0 ∧ 4294967295 < q.1 then 121 else q.2.2)
def lAddrTok (l : List UInt8) (z : Nat) (e : Int) : Tok × Nat × Int := if e ≠ 0 then (tok0, 0, e) else (⟨5, 0, 0, l.take z, 0⟩, z, 0)
/-- The token that stands at the head. -/
def lToken (l : List UInt8) : Tok × Nat × Int := match l with
  | [] => (tok0, 0, 0)
  | c :: t =>
    if c.toNat = 10 then (⟨7, 0, 0, [10], 0⟩, 1, 0)
    else if lett c = true then lWordTok (c :: t)
    else if dig c = true then lNumTok (Lx.number (c :: t))
    else if c.toNat = 37 then lAddrTok (c :: t) (1 + span addrB t) (aParse ((c :: t).take (1 + span addrB t))).2.2
    else signF (c :: t) SG

theorem sg_cell (j : Nat) (hj : j < 21) : (SG.map fun l => Value.string ⟨l.toArray⟩).toArray[j]? = some (.string ⟨(SG.getD j []).toArray⟩) := by
  have h : j < SG.length := hj
  rw [List.getElem?_toArray, List.getElem?_map, List.getElem?_eq_getElem h, List.getD_eq_getElem?_getD, List.getElem?_eq_getElem h]
  rfl
theorem sg_step (l : List UInt8) (k : Nat) (hk : k < 21) : signF l (SG.drop k) = if Lib.hasPrefix l (SG.getD k []) = true then (⟨6, 0, 0, SG.getD k [], 0⟩, (SG.getD k []).length, 0) else signF l (SG.drop (k + 1)) := by
  have h : k < SG.length := hk
  rw [List.drop_eq_getElem_cons h, signF, List.getD_eq_getElem?_getD, List.getElem?_eq_getElem h]
  rfl

theorem blk_drew {w w2 : World} {A : Array Value} {t : TypeId} {n : Nat} (hb : Below ((w.alloc (.cells A t)).drewN n).heap.size ((w.alloc (.cells A t)).drewN n) w2) :
    w2.heap[w.heap.size]? = some (.cells A t) ∧ Below w.heap.size w w2 := by
  have h : Below (w.alloc (.cells A t)).heap.size (w.alloc (.cells A t)) w2 := by
    refine (Below.drewN (Below.refl _ _) n).trans ?_
    simpa using hb
  exact one_block h

set_option maxRecDepth 100000 in
set_option maxHeartbeats 8000000 in
theorem ltoken_at {s : ByteArray} {a b : Nat} {r : Tok × Nat × Int} (hr : lToken (s.data.toList.drop a) = r) (ha : a < s.size) (hs : s.size ≤ 4294967000) (w : World) (he : LEnv w)
    (hbl : b < w.heap.size) (hx0 : w.cell? ⟨b, 0, none⟩ = some (.string s)) (hx1 : w.cell? ⟨b, 1, none⟩ = some (.int .i64 a)) :
    Calls Tryz.prog 10 #[.pointer (some ⟨b, 0, none⟩)] w fun e w' => e = tokR r ∧ Below w.heap.size w w' := by
  obtain ⟨R, hR⟩ : ∃ R, R = s.extract a s.size := ⟨_, rfl⟩
  have hRl : R.data.toList = s.data.toList.drop a := by rw [hR]; exact ext_drop s a
  have hRs : R.size = s.size - a := by rw [hR]; simp [ByteArray.size_extract]
  have hR0 : 0 < R.size := by omega
  have hRn : R.size ≤ 4294967000 := by omega
  have hcons : R.data.toList = R[0] :: R.data.toList.drop 1 := by have := drop_at hR0; simpa using this
  rw [← hRl, hcons] at hr
  dsimp only [lToken] at hr
  rw [← hcons] at hr
  clear hcons hRl hRs
  have HE := Lib.hid he
  have a0 : 0 ≤ (a : Int) := by omega
  have a1 : (a : Int) ≤ s.size := by omega
  clear he
  by_cases h10 : R[0].toNat = 10
  · rw [if_pos h10] at hr
    have HR := Lib.hid hr
    have e10 : ((R[0].toNat : Int) == 10) = true := by simp [h10]
    clear hr h10
    go_enter Tryz.func10, Tryz.ntmps10
    go_wp2
    go_quiet (fail)
    rw [← hR]
    clear hR
    go_wp2
    refine bodyPost_ret (v := .tuple #[tokV ⟨7, 0, 0, [10], 0⟩, .int .i64 1, .int .i64 0]) (by simp [results, Tryz.results10, go_sem, tokV, *]) rfl ⟨?_, ?_⟩
    · exact tok_fin HR.out.symm (by first | rfl | (push_cast; omega))
    · go_grown
      exact (Below.drewN ((Below.refl _ _).alloc (Nat.le_refl _) _) _)

  rw [if_neg h10] at hr
  have e10 : ((R[0].toNat : Int) == 10) = false := by simp; omega
  clear h10
  obtain ⟨bl, hbl'⟩ : ∃ b, lett R[0] = b := ⟨_, rfl⟩
  have HL := Lib.hid hbl'
  rw [hbl'] at hr
  clear hbl'
  cases bl with
  | true =>
    rw [if_pos rfl] at hr
    obtain ⟨⟨⟨tk, kd, nn, tx, ta⟩, sz, er⟩, hq⟩ : ∃ q, q = r := ⟨_, rfl⟩
    rw [← hq] at hr ⊢
    have HC := Lib.hid hr
    clear hr hq
    go_enter Tryz.func10, Tryz.ntmps10
    go_wp2
    go_quiet (fail)
    rw [← hR]
    clear hR
    go_wp2_with (first | (go_at_call 18; refine (lletter_any _ _).mono ?_; rintro e w0 ⟨rfl, rfl⟩; rw [HL.out]) | (go_at_call 19; refine (lword_at HC.out (by omega) _ (HE.out.below ((Below.drewN ((Below.refl _ _).alloc (Nat.le_refl _) _) _)))).mono ?_; rintro e w2 ⟨rfl, hb2⟩; have hk2 := blk_drew hb2; obtain ⟨d60, d61, d62, d63, d64, g60, g61, g62, g63, g64⟩ := blk5 hk2.1; have h2 := Lib.hid hk2; clear hk2 hb2); simp only [tokR, tokV])
    refine bodyPost_ret (v := .tuple #[tokV ⟨tk, kd, nn, tx, ta⟩, .int .i64 sz, .int .i64 er]) (by simp [results, Tryz.results10, go_sem, tokV, *]) rfl ⟨?_, ?_⟩
    · exact tok_fin rfl (by first | rfl | (push_cast; omega))
    · go_grown
      exact h2.out.2

  | false =>
    rw [if_neg (by simp)] at hr
    obtain ⟨bg, hbg⟩ : ∃ b, dig R[0] = b := ⟨_, rfl⟩
    have HG := Lib.hid hbg
    rw [hbg] at hr
    clear hbg
    cases bg with
    | true =>
      rw [if_pos rfl] at hr
      obtain ⟨⟨n, z, er⟩, hq⟩ : ∃ q, Lx.number R.data.toList = q := ⟨_, rfl⟩
      have hnb := number_bounds R.data.toList
      rw [hq] at hr hnb
      obtain ⟨n0, n1, -⟩ := hnb
      replace n0 : 0 ≤ n := n0
      replace n1 : n ≤ 1099511627776 := n1
      have HQ := Lib.hid hq
      clear hq
      by_cases he0 : er = 0
      · subst he0
        by_cases hbig : 4294967295 < n
        · have HR : Hid (((⟨3, 0, n, [], 0⟩, z, 121) : Tok × Nat × Int) = r) := Lib.hid (by rw [← hr]; simp [lNumTok, hbig])
          clear hr
          go_enter Tryz.func10, Tryz.ntmps10
          go_wp2
          go_quiet (fail)
          rw [← hR]
          clear hR
          go_wp2_with (first | (go_at_call 18; refine (lletter_any _ _).mono ?_; rintro e w0 ⟨rfl, rfl⟩; rw [HL.out]) | (go_at_call 20; refine (ldigit_any _ _).mono ?_; rintro e w0 ⟨rfl, rfl⟩; rw [HG.out]) | (go_at_call 21; refine (lnumber_at HQ.out (by omega) _).mono ?_; rintro e w2 ⟨rfl, hb2⟩; have hk2 := blk_drew hb2; obtain ⟨d60, d61, d62, d63, d64, g60, g61, g62, g63, g64⟩ := blk5 hk2.1; have h2 := Lib.hid hk2; clear hk2 hb2))
          refine bodyPost_ret (v := .tuple #[tokV ⟨3, 0, n, [], 0⟩, .int .i64 z, .int .i64 121]) (by simp [results, Tryz.results10, go_sem, tokV, *]) rfl ⟨?_, ?_⟩
          · exact tok_fin HR.out.symm (by first | rfl | (push_cast; omega))
          · go_grown
            exact h2.out.2

        · have HR : Hid (((⟨3, 0, n, [], 0⟩, z, 0) : Tok × Nat × Int) = r) := Lib.hid (by rw [← hr]; simp [lNumTok, hbig])
          have hbig' : n ≤ 4294967295 := by omega
          clear hr
          go_enter Tryz.func10, Tryz.ntmps10
          go_wp2
          go_quiet (fail)
          rw [← hR]
          clear hR
          go_wp2_with (first | (go_at_call 18; refine (lletter_any _ _).mono ?_; rintro e w0 ⟨rfl, rfl⟩; rw [HL.out]) | (go_at_call 20; refine (ldigit_any _ _).mono ?_; rintro e w0 ⟨rfl, rfl⟩; rw [HG.out]) | (go_at_call 21; refine (lnumber_at HQ.out (by omega) _).mono ?_; rintro e w2 ⟨rfl, hb2⟩; have hk2 := blk_drew hb2; obtain ⟨d60, d61, d62, d63, d64, g60, g61, g62, g63, g64⟩ := blk5 hk2.1; have h2 := Lib.hid hk2; clear hk2 hb2))
          refine bodyPost_ret (v := .tuple #[tokV ⟨3, 0, n, [], 0⟩, .int .i64 z, .int .i64 0]) (by simp [results, Tryz.results10, go_sem, tokV, *]) rfl ⟨?_, ?_⟩
          · exact tok_fin HR.out.symm (by first | rfl | (push_cast; omega))
          · go_grown
            exact h2.out.2

      · have HR : Hid (((⟨3, 0, n, [], 0⟩, z, er) : Tok × Nat × Int) = r) := Lib.hid (by rw [← hr]; simp [lNumTok, he0])
        clear hr
        go_enter Tryz.func10, Tryz.ntmps10
        go_wp2
        go_quiet (fail)
        rw [← hR]
        clear hR
        go_wp2_with (first | (go_at_call 18; refine (lletter_any _ _).mono ?_; rintro e w0 ⟨rfl, rfl⟩; rw [HL.out]) | (go_at_call 20; refine (ldigit_any _ _).mono ?_; rintro e w0 ⟨rfl, rfl⟩; rw [HG.out]) | (go_at_call 21; refine (lnumber_at HQ.out (by omega) _).mono ?_; rintro e w2 ⟨rfl, hb2⟩; have hk2 := blk_drew hb2; obtain ⟨d60, d61, d62, d63, d64, g60, g61, g62, g63, g64⟩ := blk5 hk2.1; have h2 := Lib.hid hk2; clear hk2 hb2))
        refine bodyPost_ret (v := .tuple #[tokV ⟨3, 0, n, [], 0⟩, .int .i64 z, .int .i64 er]) (by simp [results, Tryz.results10, go_sem, tokV, *]) rfl ⟨?_, ?_⟩
        · exact tok_fin HR.out.symm (by first | rfl | (push_cast; omega))
        · go_grown
          exact h2.out.2

    | false =>
      rw [if_neg (by simp)] at hr
      by_cases h37 : R[0].toNat = 37
      · rw [if_pos h37] at hr
        have e37 : ((R[0].toNat : Int) == 37) = true := by simp [h37]
        clear h37
        have hR1 : (R.extract 1 R.size).data.toList = R.data.toList.drop 1 := ext_drop R 1
        have hR1s : (R.extract 1 R.size).size ≤ R.size := size_extract_le _ _ _
        obtain ⟨z, hz⟩ : ∃ z, span addrB (R.extract 1 R.size).data.toList = z := ⟨_, rfl⟩
        have hzs : z ≤ (R.extract 1 R.size).size := by rw [← hz]; exact span_le addrB (R.extract 1 R.size).data.toList
        have hR1e : (R.extract 1 R.size).size = R.size - 1 := by simp [ByteArray.size_extract]
        have hz1 : 1 + z ≤ R.size := by omega
        rw [← hR1, hz] at hr
        have HZ := Lib.hid hz
        have hX : (R.extract 0 (1 + z)).data.toList = R.data.toList.take (1 + z) := by rw [ext0_eq]
        have hXs : (R.extract 0 (1 + z)).size ≤ R.size := size_extract_le _ _ _
        obtain ⟨⟨p1, p2, p3⟩, hp⟩ : ∃ p, aParse (R.extract 0 (1 + z)).data.toList = p := ⟨_, rfl⟩
        rw [← hX, hp] at hr
        have HPq : Hid (∀ w, Env w → Calls Tryz.prog 24 #[.string (R.extract 0 (1 + z))] w fun e w' => e = .returned (.tuple #[.int .i64 p1, .int .i64 p2, .int .i64 p3]) ∧ Below w.heap.size w w') := Lib.hid (by
          intro w he
          have h := aparse_any (R.extract 0 (1 + z)) (by omega) w he
          unfold ParsePost at h
          rw [hp] at h
          exact h)
        clear hz hX hp hR1 hR1e
        have x1 : (1 + (z : Int)).toNat = 1 + z := by omega
        have x0 : (1 : Int) ≤ R.size := by omega
        by_cases hp3 : p3 = 0
        · have HR : Hid (((⟨5, 0, 0, R.data.toList.take (1 + z), 0⟩, 1 + z, 0) : Tok × Nat × Int) = r) := Lib.hid (by rw [← hr]; simp [lAddrTok, hp3])
          subst hp3
          clear hr
          go_enter Tryz.func10, Tryz.ntmps10
          go_wp2
          go_quiet (fail)
          rw [← hR]
          clear hR
          go_wp2_with (first | (go_at_call 18; refine (lletter_any _ _).mono ?_; rintro e w0 ⟨rfl, rfl⟩; rw [HL.out]) | (go_at_call 20; refine (ldigit_any _ _).mono ?_; rintro e w0 ⟨rfl, rfl⟩; rw [HG.out]) | (go_at_call 22; refine (span_addr HZ.out (by omega) _).mono ?_; rintro e w1 ⟨rfl, rfl⟩) | (go_at_call 24; refine (HPq.out _ (HE.out.below ((Below.drewN ((Below.refl _ _).alloc (Nat.le_refl _) _) _))).env).mono ?_; rintro e w2 ⟨rfl, hb2⟩; have hk2 := blk_drew hb2; obtain ⟨d60, d61, d62, d63, d64, g60, g61, g62, g63, g64⟩ := blk5 hk2.1; have h2 := Lib.hid hk2; clear hk2 hb2))
          refine bodyPost_ret (v := .tuple #[tokV ⟨5, 0, 0, R.data.toList.take (1 + z), 0⟩, .int .i64 (1 + (z : Int)), .int .i64 0]) (by simp [results, Tryz.results10, go_sem, tokV, *] <;> exact ext0_eq _ _) rfl ⟨?_, ?_⟩
          · exact tok_fin HR.out.symm (by first | rfl | (push_cast; omega))
          · go_grown
            exact h2.out.2

        · have HR : Hid (((tok0, 0, p3) : Tok × Nat × Int) = r) := Lib.hid (by rw [← hr]; simp [lAddrTok, hp3])
          clear hr
          go_enter Tryz.func10, Tryz.ntmps10
          go_wp2
          go_quiet (fail)
          rw [← hR]
          clear hR
          go_wp2_with (first | (go_at_call 18; refine (lletter_any _ _).mono ?_; rintro e w0 ⟨rfl, rfl⟩; rw [HL.out]) | (go_at_call 20; refine (ldigit_any _ _).mono ?_; rintro e w0 ⟨rfl, rfl⟩; rw [HG.out]) | (go_at_call 22; refine (span_addr HZ.out (by omega) _).mono ?_; rintro e w1 ⟨rfl, rfl⟩) | (go_at_call 24; refine (HPq.out _ (HE.out.below ((Below.drewN ((Below.refl _ _).alloc (Nat.le_refl _) _) _))).env).mono ?_; rintro e w2 ⟨rfl, hb2⟩; have hk2 := blk_drew hb2; obtain ⟨d60, d61, d62, d63, d64, g60, g61, g62, g63, g64⟩ := blk5 hk2.1; have h2 := Lib.hid hk2; clear hk2 hb2))
          refine bodyPost_ret (v := .tuple #[tokV tok0, .int .i64 0, .int .i64 p3]) (by simp [results, Tryz.results10, go_sem, tokV, tok0, *]) rfl ⟨?_, ?_⟩
          · exact tok_fin HR.out.symm (by first | rfl | (push_cast; omega))
          · go_grown
            exact h2.out.2

      · rw [if_neg h37] at hr
        have e37 : ((R[0].toNat : Int) == 37) = false := by simp; omega
        clear h37
        have HR0 : Hid (signF R.data.toList (SG.drop 0) = r) := Lib.hid hr
        clear hr
        go_enter Tryz.func10, Tryz.ntmps10
        go_wp2
        go_quiet (fail)
        rw [← hR]
        clear hR
        go_wp2_with (first | (go_at_call 18; refine (lletter_any _ _).mono ?_; rintro e w0 ⟨rfl, rfl⟩; rw [HL.out]) | (go_at_call 20; refine (ldigit_any _ _).mono ?_; rintro e w0 ⟨rfl, rfl⟩; rw [HG.out]) | (go_at_call 15; refine (fields_L _ SG (by decide +kernel) (by decide +kernel) (by decide +kernel) _ (HE.out.below (Below.drewN ((Below.refl _ _).alloc (Nat.le_refl _) _) _)).space).mono ?_; rintro e w1 ⟨rfl, rfl⟩; rw [show SG.length = 21 from by decide]))

        have hcell : ∀ j, j < 21 → ((((w.alloc (.cells #[.int .i64 0, .int .i64 0, .int .i64 0, .string ⟨#[]⟩, .int .i64 0] 31)).drewN nq).alloc (.cells (SG.map fun l => Value.string ⟨l.toArray⟩).toArray 9))).cell? ⟨w.heap.size + 1, j, none⟩ = some (.string ⟨(SG.getD j []).toArray⟩) := by
          intro j hj
          rw [World.cell?_alloc_at _ _ _ _ (by simp)]
          exact sg_cell j hj
        have HC := Lib.hid hcell
        clear hcell
        have H0 := Lib.hid (blk_drew (w := w) (A := #[.int .i64 0, .int .i64 0, .int .i64 0, .string ⟨#[]⟩, .int .i64 0]) (t := 31) (n := nq) ((Below.refl _ _).alloc (Nat.le_refl _) (.cells (SG.map fun l => Value.string ⟨l.toArray⟩).toArray 9)))
        obtain ⟨W1, hW1⟩ : ∃ W1, W1 = (((w.alloc (.cells #[.int .i64 0, .int .i64 0, .int .i64 0, .string ⟨#[]⟩, .int .i64 0] 31)).drewN nq).alloc (.cells (SG.map fun l => Value.string ⟨l.toArray⟩).toArray 9)) := ⟨_, rfl⟩
        rw [← hW1] at HC H0 ⊢
        clear hW1 hx0 hx1
        obtain ⟨d60, d61, d62, d63, d64, g60, g61, g62, g63, g64⟩ := blk5 H0.out.1
        go_loop [84] (fun i => ∃ k : Nat, k ≤ 21 ∧ i = .int .i64 k ∧ Hid (signF R.data.toList (SG.drop k) = r)) (fun i => 21 - (intOf i).toNat)
        case atStart => exact ⟨0, by omega, rfl, HR0⟩
        case round =>
          clear HR0
          obtain ⟨k, hk, rfl, HD⟩ := hrel
          by_cases hlt : k < 21
          · have hc := HC.out k hlt
            have hsg := sg_step R.data.toList k hlt
            obtain ⟨g, hg⟩ : ∃ g, SG.getD k [] = g := ⟨_, rfl⟩
            rw [hg] at hc hsg
            rw [HD.out] at hsg
            clear hg
            have k0 : 0 ≤ (k : Int) := by omega
            have k1 : (k : Int) < 21 := by omega
            obtain ⟨bp, hbp⟩ : ∃ b, Lib.hasPrefix R.data.toList g = b := ⟨_, rfl⟩
            have HP := Lib.hid hbp
            rw [hbp] at hsg
            clear hbp HD
            cases bp with
            | true =>
              rw [if_pos rfl] at hsg
              have HR : Hid (((⟨6, 0, 0, g, 0⟩, g.length, 0) : Tok × Nat × Int) = r) := Lib.hid hsg.symm
              clear hsg
              go_wp2_with (go_at_call 16; refine (hasPrefix_any _ _ _).mono ?_; rintro e w1 ⟨rfl, rfl⟩; rw [HP.out])
              refine bodyPost_ret (v := .tuple #[tokV ⟨6, 0, 0, g, 0⟩, .int .i64 (g.length : Int), .int .i64 0]) (by simp [results, Tryz.results10, go_sem, tokV, *]) rfl ⟨?_, ?_⟩
              · exact tok_fin HR.out.symm (by first | rfl | (push_cast; omega))
              · go_grown
                exact H0.out.2

            | false =>
              rw [if_neg (by simp)] at hsg
              have HS2 := Lib.hid hsg.symm
              clear hsg
              go_wp2_with (go_at_call 16; refine (hasPrefix_any _ _ _).mono ?_; rintro e w1 ⟨rfl, rfl⟩; rw [HP.out])
              go_round
              case rel => exact ⟨k + 1, by omega, by go_num, HS2⟩
              case measure => simp [intOf]; omega
          · obtain rfl : k = 21 := by omega
            have HR : Hid (((tok0, 0, 120) : Tok × Nat × Int) = r) := Lib.hid HD.out
            clear HD
            go_wp2
            refine bodyPost_ret (v := .tuple #[tokV tok0, .int .i64 0, .int .i64 120]) (by simp [results, Tryz.results10, go_sem, tokV, tok0, *]) rfl ⟨?_, ?_⟩
            · exact tok_fin HR.out.symm (by first | rfl | (push_cast; omega))
            · go_grown
              exact H0.out.2

end Go.Proofs.YtdabnnganponpaaGreatDoor
