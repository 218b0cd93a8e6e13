/- The walk through package lex's word. -/
import Derived.Test.YtdabnnganponpaaGreatDoorLexW7
namespace Go.Proofs.YtdabnnganponpaaGreatDoor
open Go.RowKit Lx Ad

/-- A word that no '#' with a kind follows. -/
def wordRest (x : ByteArray) (z : Nat) : Tok × Nat × Int :=
  if (x.toList == strTrue) = true then (⟨3, 1, 1, [], 0⟩, z, 0)
  else if (x.toList == strFalse) = true then (⟨3, 1, 0, [], 0⟩, z, 0)
  else if lWord x = true then (⟨1, 0, 0, x.data.toList, 0⟩, z, 0)
  else if 32 < z then (tok0, 0, 121)
  else (⟨2, 0, 0, x.data.toList, 0⟩, z, 0)
/-- A word's token. -/
def lWordTok (l : List UInt8) : Tok × Nat × Int :=
  let z := span wordB l
  let x := mkS (l.take z)
  let k := kindOf x
  if l[z]? = some 35 ∧ (k ≠ 0 ∨ (x.toList == [84]) = true) then
    if k = 11 ∨ k = 0 then lSpan2 l (z + 1) else lTyped l (z + 1) k
  else wordRest x z

theorem ext0_eq (s : ByteArray) (z : Nat) : s.extract 0 z = ⟨(s.data.toList.take z).toArray⟩ := by
  apply ByteArray.ext
  rw [ByteArray.data_extract]
  apply Array.toList_inj.1
  simp
theorem one_block {w w2 : World} {A : Array Value} {t : TypeId} (hb : Below (w.alloc (.cells A t)).heap.size (w.alloc (.cells A t)) w2) :
    w2.heap[w.heap.size]? = some (.cells A t) ∧ Below w.heap.size w w2 := by
  refine ⟨?_, ?_⟩
  · rw [hb.block _ (by simp)]
    show (w.heap.push _)[_]? = _
    rw [Array.getElem?_push_size]
  · exact btr ((Below.refl _ _).alloc (Nat.le_refl _) _) hb

set_option maxRecDepth 100000 in
set_option maxHeartbeats 8000000 in
theorem lword_at {s : ByteArray} {r : Tok × Nat × Int} (hr : lWordTok s.data.toList = r) (hs : s.size ≤ 140737488351232) (w : World) (he : LEnv w) :
    Calls Tryz.prog 19 #[.string s] w fun e w' => e = tokR r ∧ Below w.heap.size w w' := by
  obtain ⟨z, hz⟩ : ∃ z, span wordB s.data.toList = z := ⟨_, rfl⟩
  have hzs : z ≤ s.size := by rw [← hz]; exact span_le wordB s.data.toList
  have hx : mkS (s.data.toList.take z) = s.extract 0 z := by
    apply ByteArray.ext
    rw [ByteArray.data_extract]
    apply Array.toList_inj.1
    simp [mkS]
  dsimp only [lWordTok] at hr
  rw [hz, hx] at hr
  have HZ := Lib.hid hz
  obtain ⟨k, hk⟩ : ∃ k, kindOf (s.extract 0 z) = k := ⟨_, rfl⟩
  have HK := Lib.hid hk
  have hk11 : k ≤ 11 := by rw [← hk]; exact kindOf_le _
  rw [hk] at hr
  have HE := Lib.hid he
  clear he hk hz hx
  by_cases hlt : z < s.size
  · have hat : s.data.toList[z]? = some s[z] := by
      rw [List.getElem?_eq_getElem (by simpa using hlt)]
      rw [show s.data.toList[z]'(by simpa using hlt) = s[z] by simp [ByteArray.getElem_eq_getElem_data]]
    rw [hat] at hr
    clear hat
    by_cases h35 : s[z].toNat = 35
    · have h35' : s[z] = 35 := UInt8.toNat_inj.1 h35
      have e35 : ((s[z].toNat : Int) == 35) = true := by simp [h35]
      by_cases hk0 : k = 0
      · subst hk0
        obtain ⟨bT, hbT⟩ : ∃ b, ((s.extract 0 z).toList == [84]) = b := ⟨_, rfl⟩
        cases bT with
        | true =>
          rw [if_pos ⟨by rw [h35'], .inr hbT⟩, if_pos (.inr rfl)] at hr
          have HD := Lib.hid hr
          clear hr h35 h35'
          obtain ⟨⟨⟨tk, kd, nn, tx, ta⟩, sz, er⟩, hq⟩ : ∃ q, q = r := ⟨_, rfl⟩
          rw [← hq] at HD ⊢
          have HC := HD
          clear HD
          go_enter Tryz.func19, Tryz.ntmps19
          go_wp2_with (first | (go_at_call 22; refine (span_word HZ.out hs _).mono ?_; rintro e w0 ⟨rfl, rfl⟩) | (go_at_call 13; refine (kind_at HK.out _).mono ?_; rintro e w1 ⟨rfl, hb1⟩; have hk1 := one_block hb1; obtain ⟨c60, c61, c62, c63, c64, f60, f61, f62, f63, f64⟩ := blk5 hk1.1; have h1 := Lib.hid hk1; clear hk1 hb1) | (go_at_call 38; refine (lspan2_at HC.out (by omega) hs _).mono ?_; rintro e w2 ⟨rfl, hb2⟩; have hk2 := tokS0 h1.out.1 h1.out.2 hb2; obtain ⟨d60, d61, d62, d63, d64, g60, g61, g62, g63, g64⟩ := blk5 hk2.1; have h2 := Lib.hid hk2; clear hk2 hb2; simp only [tokR, tokV]))
          refine bodyPost_ret (v := .tuple #[tokV ⟨tk, kd, nn, tx, ta⟩, .int .i64 sz, .int .i64 er]) (by simp [results, Tryz.results19, go_sem, tokV, *]) rfl ⟨?_, ?_⟩
          · exact tok_fin rfl rfl
          · go_grown
            exact h2.out.2

        | false =>
          rw [if_neg (fun h => by rcases h.2 with h | h; exact h rfl; rw [hbT] at h; cases h)] at hr
          have HD := Lib.hid hr
          clear hr h35 h35'
          obtain ⟨bt, hbt⟩ : ∃ b, ((s.extract 0 z).toList == [84, 82, 85, 69]) = b := ⟨_, rfl⟩
          obtain ⟨bf, hbf⟩ : ∃ b, ((s.extract 0 z).toList == [70, 65, 76, 83, 69]) = b := ⟨_, rfl⟩
          obtain ⟨bw, hbw⟩ : ∃ b, lWord (s.extract 0 z) = b := ⟨_, rfl⟩
          have HW := Lib.hid hbw
          have hrest := HD.out
          unfold wordRest at hrest
          rw [show strTrue = [84, 82, 85, 69] from rfl, show strFalse = [70, 65, 76, 83, 69] from rfl, hbt, hbf, hbw] at hrest
          have HF := Lib.hid hrest
          clear hbw hrest HD
          cases bt with
          | true =>
            have HR : Hid (((⟨3, 1, 1, [], 0⟩, z, 0) : Tok × Nat × Int) = r) := Lib.hid HF.out
            clear HF
            go_enter Tryz.func19, Tryz.ntmps19
            go_wp2_with (first | (go_at_call 22; refine (span_word HZ.out hs _).mono ?_; rintro e w0 ⟨rfl, rfl⟩) | (go_at_call 13; refine (kind_at HK.out _).mono ?_; rintro e w1 ⟨rfl, hb1⟩; have hk1 := one_block hb1; obtain ⟨c60, c61, c62, c63, c64, f60, f61, f62, f63, f64⟩ := blk5 hk1.1; have h1 := Lib.hid hk1; clear hk1 hb1))
            refine bodyPost_ret (v := .tuple #[tokV ⟨3, 1, 1, [], 0⟩, .int .i64 (z : Int), .int .i64 0]) (by simp [results, Tryz.results19, go_sem, tokV, *] <;> exact ext0_eq _ _) rfl ⟨?_, ?_⟩
            · exact tok_fin HR.out.symm rfl
            · go_grown
              exact h1.out.2

          | false =>
            cases bf with
            | true =>
              have HR : Hid (((⟨3, 1, 0, [], 0⟩, z, 0) : Tok × Nat × Int) = r) := Lib.hid HF.out
              clear HF
              go_enter Tryz.func19, Tryz.ntmps19
              go_wp2_with (first | (go_at_call 22; refine (span_word HZ.out hs _).mono ?_; rintro e w0 ⟨rfl, rfl⟩) | (go_at_call 13; refine (kind_at HK.out _).mono ?_; rintro e w1 ⟨rfl, hb1⟩; have hk1 := one_block hb1; obtain ⟨c60, c61, c62, c63, c64, f60, f61, f62, f63, f64⟩ := blk5 hk1.1; have h1 := Lib.hid hk1; clear hk1 hb1))
              refine bodyPost_ret (v := .tuple #[tokV ⟨3, 1, 0, [], 0⟩, .int .i64 (z : Int), .int .i64 0]) (by simp [results, Tryz.results19, go_sem, tokV, *] <;> exact ext0_eq _ _) rfl ⟨?_, ?_⟩
              · exact tok_fin HR.out.symm rfl
              · go_grown
                exact h1.out.2

            | false =>
              cases bw with
              | true =>
                have HR : Hid (((⟨1, 0, 0, (s.extract 0 z).data.toList, 0⟩, z, 0) : Tok × Nat × Int) = r) := Lib.hid HF.out
                clear HF
                go_enter Tryz.func19, Tryz.ntmps19
                go_wp2_with (first | (go_at_call 22; refine (span_word HZ.out hs _).mono ?_; rintro e w0 ⟨rfl, rfl⟩) | (go_at_call 13; refine (kind_at HK.out _).mono ?_; rintro e w1 ⟨rfl, hb1⟩; have hk1 := one_block hb1; obtain ⟨c60, c61, c62, c63, c64, f60, f61, f62, f63, f64⟩ := blk5 hk1.1; have h1 := Lib.hid hk1; clear hk1 hb1) | (go_at_call 8; refine (lWord_at HW.out _ (HE.out.below h1.out.2)).mono ?_; rintro e w2 ⟨rfl, hb2⟩; have hk2 := tokS0 h1.out.1 h1.out.2 hb2; obtain ⟨d60, d61, d62, d63, d64, g60, g61, g62, g63, g64⟩ := blk5 hk2.1; have h2 := Lib.hid hk2; clear hk2 hb2))
                refine bodyPost_ret (v := .tuple #[tokV ⟨1, 0, 0, (s.extract 0 z).data.toList, 0⟩, .int .i64 (z : Int), .int .i64 0]) (by simp [results, Tryz.results19, go_sem, tokV, *] <;> exact ext0_eq _ _) rfl ⟨?_, ?_⟩
                · exact tok_fin HR.out.symm rfl
                · go_grown
                  exact h2.out.2

              | false =>
                by_cases h32 : 32 < z
                · have HR : Hid (((tok0, 0, 121) : Tok × Nat × Int) = r) := Lib.hid (by rw [← HF.out]; exact (if_pos h32).symm)
                  have h32' : (32 : Int) < z := by omega
                  clear HF
                  go_enter Tryz.func19, Tryz.ntmps19
                  go_wp2_with (first | (go_at_call 22; refine (span_word HZ.out hs _).mono ?_; rintro e w0 ⟨rfl, rfl⟩) | (go_at_call 13; refine (kind_at HK.out _).mono ?_; rintro e w1 ⟨rfl, hb1⟩; have hk1 := one_block hb1; obtain ⟨c60, c61, c62, c63, c64, f60, f61, f62, f63, f64⟩ := blk5 hk1.1; have h1 := Lib.hid hk1; clear hk1 hb1) | (go_at_call 8; refine (lWord_at HW.out _ (HE.out.below h1.out.2)).mono ?_; rintro e w2 ⟨rfl, hb2⟩; have hk2 := tokS0 h1.out.1 h1.out.2 hb2; obtain ⟨d60, d61, d62, d63, d64, g60, g61, g62, g63, g64⟩ := blk5 hk2.1; have h2 := Lib.hid hk2; clear hk2 hb2))
                  refine bodyPost_ret (v := .tuple #[tokV tok0, .int .i64 0, .int .i64 121]) (by simp [results, Tryz.results19, go_sem, tokV, tok0, *] <;> exact ext0_eq _ _) rfl ⟨?_, ?_⟩
                  · exact tok_fin HR.out.symm rfl
                  · go_grown
                    exact h2.out.2

                · have HR : Hid (((⟨2, 0, 0, (s.extract 0 z).data.toList, 0⟩, z, 0) : Tok × Nat × Int) = r) := Lib.hid (by rw [← HF.out]; exact (if_neg h32).symm)
                  have h32' : (z : Int) ≤ 32 := by omega
                  clear HF
                  go_enter Tryz.func19, Tryz.ntmps19
                  go_wp2_with (first | (go_at_call 22; refine (span_word HZ.out hs _).mono ?_; rintro e w0 ⟨rfl, rfl⟩) | (go_at_call 13; refine (kind_at HK.out _).mono ?_; rintro e w1 ⟨rfl, hb1⟩; have hk1 := one_block hb1; obtain ⟨c60, c61, c62, c63, c64, f60, f61, f62, f63, f64⟩ := blk5 hk1.1; have h1 := Lib.hid hk1; clear hk1 hb1) | (go_at_call 8; refine (lWord_at HW.out _ (HE.out.below h1.out.2)).mono ?_; rintro e w2 ⟨rfl, hb2⟩; have hk2 := tokS0 h1.out.1 h1.out.2 hb2; obtain ⟨d60, d61, d62, d63, d64, g60, g61, g62, g63, g64⟩ := blk5 hk2.1; have h2 := Lib.hid hk2; clear hk2 hb2))
                  refine bodyPost_ret (v := .tuple #[tokV ⟨2, 0, 0, (s.extract 0 z).data.toList, 0⟩, .int .i64 (z : Int), .int .i64 0]) (by simp [results, Tryz.results19, go_sem, tokV, *] <;> exact ext0_eq _ _) rfl ⟨?_, ?_⟩
                  · exact tok_fin HR.out.symm rfl
                  · go_grown
                    exact h2.out.2


      · have hk0' : ¬ ((k : Int) = 0) := by omega
        rw [if_pos ⟨by rw [h35'], .inl hk0⟩] at hr
        by_cases hk1 : k = 11
        · subst hk1
          rw [if_pos (.inl rfl)] at hr
          have HD := Lib.hid hr
          clear hr h35 h35'
          obtain ⟨⟨⟨tk, kd, nn, tx, ta⟩, sz, er⟩, hq⟩ : ∃ q, q = r := ⟨_, rfl⟩
          rw [← hq] at HD ⊢
          have HC := HD
          clear HD
          go_enter Tryz.func19, Tryz.ntmps19
          go_wp2_with (first | (go_at_call 22; refine (span_word HZ.out hs _).mono ?_; rintro e w0 ⟨rfl, rfl⟩) | (go_at_call 13; refine (kind_at HK.out _).mono ?_; rintro e w1 ⟨rfl, hb1⟩; have hk1 := one_block hb1; obtain ⟨c60, c61, c62, c63, c64, f60, f61, f62, f63, f64⟩ := blk5 hk1.1; have h1 := Lib.hid hk1; clear hk1 hb1) | (go_at_call 38; refine (lspan2_at HC.out (by omega) hs _).mono ?_; rintro e w2 ⟨rfl, hb2⟩; have hk2 := tokS0 h1.out.1 h1.out.2 hb2; obtain ⟨d60, d61, d62, d63, d64, g60, g61, g62, g63, g64⟩ := blk5 hk2.1; have h2 := Lib.hid hk2; clear hk2 hb2; simp only [tokR, tokV]))
          refine bodyPost_ret (v := .tuple #[tokV ⟨tk, kd, nn, tx, ta⟩, .int .i64 sz, .int .i64 er]) (by simp [results, Tryz.results19, go_sem, tokV, *]) rfl ⟨?_, ?_⟩
          · exact tok_fin rfl rfl
          · go_grown
            exact h2.out.2

        · rw [if_neg (by omega)] at hr
          have HD := Lib.hid hr
          have ek : ((k : Int) == 11) = false := by simp; omega
          have ek0 : ((k : Int) == 0) = false := by simp; omega
          clear hr h35 h35'
          obtain ⟨⟨⟨tk, kd, nn, tx, ta⟩, sz, er⟩, hq⟩ : ∃ q, q = r := ⟨_, rfl⟩
          rw [← hq] at HD ⊢
          have HC := HD
          clear HD
          go_enter Tryz.func19, Tryz.ntmps19
          go_wp2_with (first | (go_at_call 22; refine (span_word HZ.out hs _).mono ?_; rintro e w0 ⟨rfl, rfl⟩) | (go_at_call 13; refine (kind_at HK.out _).mono ?_; rintro e w1 ⟨rfl, hb1⟩; have hk1 := one_block hb1; obtain ⟨c60, c61, c62, c63, c64, f60, f61, f62, f63, f64⟩ := blk5 hk1.1; have h1 := Lib.hid hk1; clear hk1 hb1) | (go_at_call 39; refine (ltyped_at HC.out (by omega) hs (by omega) (by omega) _).mono ?_; rintro e w2 ⟨rfl, hb2⟩; have hk2 := tokS0 h1.out.1 h1.out.2 hb2; obtain ⟨d60, d61, d62, d63, d64, g60, g61, g62, g63, g64⟩ := blk5 hk2.1; have h2 := Lib.hid hk2; clear hk2 hb2; simp only [tokR, tokV]))
          refine bodyPost_ret (v := .tuple #[tokV ⟨tk, kd, nn, tx, ta⟩, .int .i64 sz, .int .i64 er]) (by simp [results, Tryz.results19, go_sem, tokV, *]) rfl ⟨?_, ?_⟩
          · exact tok_fin rfl rfl
          · go_grown
            exact h2.out.2

    · have e35 : ((s[z].toNat : Int) == 35) = false := by simp; omega
      rw [if_neg (fun h => h35 (by have := h.1; injection this with this; rw [this]; rfl))] at hr
      have HD := Lib.hid hr
      clear hr h35
      obtain ⟨bt, hbt⟩ : ∃ b, ((s.extract 0 z).toList == [84, 82, 85, 69]) = b := ⟨_, rfl⟩
      obtain ⟨bf, hbf⟩ : ∃ b, ((s.extract 0 z).toList == [70, 65, 76, 83, 69]) = b := ⟨_, rfl⟩
      obtain ⟨bw, hbw⟩ : ∃ b, lWord (s.extract 0 z) = b := ⟨_, rfl⟩
      have HW := Lib.hid hbw
      have hrest := HD.out
      unfold wordRest at hrest
      rw [show strTrue = [84, 82, 85, 69] from rfl, show strFalse = [70, 65, 76, 83, 69] from rfl, hbt, hbf, hbw] at hrest
      have HF := Lib.hid hrest
      clear hbw hrest HD
      cases bt with
      | true =>
        have HR : Hid (((⟨3, 1, 1, [], 0⟩, z, 0) : Tok × Nat × Int) = r) := Lib.hid HF.out
        clear HF
        go_enter Tryz.func19, Tryz.ntmps19
        go_wp2_with (first | (go_at_call 22; refine (span_word HZ.out hs _).mono ?_; rintro e w0 ⟨rfl, rfl⟩) | (go_at_call 13; refine (kind_at HK.out _).mono ?_; rintro e w1 ⟨rfl, hb1⟩; have hk1 := one_block hb1; obtain ⟨c60, c61, c62, c63, c64, f60, f61, f62, f63, f64⟩ := blk5 hk1.1; have h1 := Lib.hid hk1; clear hk1 hb1))
        refine bodyPost_ret (v := .tuple #[tokV ⟨3, 1, 1, [], 0⟩, .int .i64 (z : Int), .int .i64 0]) (by simp [results, Tryz.results19, go_sem, tokV, *] <;> exact ext0_eq _ _) rfl ⟨?_, ?_⟩
        · exact tok_fin HR.out.symm rfl
        · go_grown
          exact h1.out.2

      | false =>
        cases bf with
        | true =>
          have HR : Hid (((⟨3, 1, 0, [], 0⟩, z, 0) : Tok × Nat × Int) = r) := Lib.hid HF.out
          clear HF
          go_enter Tryz.func19, Tryz.ntmps19
          go_wp2_with (first | (go_at_call 22; refine (span_word HZ.out hs _).mono ?_; rintro e w0 ⟨rfl, rfl⟩) | (go_at_call 13; refine (kind_at HK.out _).mono ?_; rintro e w1 ⟨rfl, hb1⟩; have hk1 := one_block hb1; obtain ⟨c60, c61, c62, c63, c64, f60, f61, f62, f63, f64⟩ := blk5 hk1.1; have h1 := Lib.hid hk1; clear hk1 hb1))
          refine bodyPost_ret (v := .tuple #[tokV ⟨3, 1, 0, [], 0⟩, .int .i64 (z : Int), .int .i64 0]) (by simp [results, Tryz.results19, go_sem, tokV, *] <;> exact ext0_eq _ _) rfl ⟨?_, ?_⟩
          · exact tok_fin HR.out.symm rfl
          · go_grown
            exact h1.out.2

        | false =>
          cases bw with
          | true =>
            have HR : Hid (((⟨1, 0, 0, (s.extract 0 z).data.toList, 0⟩, z, 0) : Tok × Nat × Int) = r) := Lib.hid HF.out
            clear HF
            go_enter Tryz.func19, Tryz.ntmps19
            go_wp2_with (first | (go_at_call 22; refine (span_word HZ.out hs _).mono ?_; rintro e w0 ⟨rfl, rfl⟩) | (go_at_call 13; refine (kind_at HK.out _).mono ?_; rintro e w1 ⟨rfl, hb1⟩; have hk1 := one_block hb1; obtain ⟨c60, c61, c62, c63, c64, f60, f61, f62, f63, f64⟩ := blk5 hk1.1; have h1 := Lib.hid hk1; clear hk1 hb1) | (go_at_call 8; refine (lWord_at HW.out _ (HE.out.below h1.out.2)).mono ?_; rintro e w2 ⟨rfl, hb2⟩; have hk2 := tokS0 h1.out.1 h1.out.2 hb2; obtain ⟨d60, d61, d62, d63, d64, g60, g61, g62, g63, g64⟩ := blk5 hk2.1; have h2 := Lib.hid hk2; clear hk2 hb2))
            refine bodyPost_ret (v := .tuple #[tokV ⟨1, 0, 0, (s.extract 0 z).data.toList, 0⟩, .int .i64 (z : Int), .int .i64 0]) (by simp [results, Tryz.results19, go_sem, tokV, *] <;> exact ext0_eq _ _) rfl ⟨?_, ?_⟩
            · exact tok_fin HR.out.symm rfl
            · go_grown
              exact h2.out.2

          | false =>
            by_cases h32 : 32 < z
            · have HR : Hid (((tok0, 0, 121) : Tok × Nat × Int) = r) := Lib.hid (by rw [← HF.out]; exact (if_pos h32).symm)
              have h32' : (32 : Int) < z := by omega
              clear HF
              go_enter Tryz.func19, Tryz.ntmps19
              go_wp2_with (first | (go_at_call 22; refine (span_word HZ.out hs _).mono ?_; rintro e w0 ⟨rfl, rfl⟩) | (go_at_call 13; refine (kind_at HK.out _).mono ?_; rintro e w1 ⟨rfl, hb1⟩; have hk1 := one_block hb1; obtain ⟨c60, c61, c62, c63, c64, f60, f61, f62, f63, f64⟩ := blk5 hk1.1; have h1 := Lib.hid hk1; clear hk1 hb1) | (go_at_call 8; refine (lWord_at HW.out _ (HE.out.below h1.out.2)).mono ?_; rintro e w2 ⟨rfl, hb2⟩; have hk2 := tokS0 h1.out.1 h1.out.2 hb2; obtain ⟨d60, d61, d62, d63, d64, g60, g61, g62, g63, g64⟩ := blk5 hk2.1; have h2 := Lib.hid hk2; clear hk2 hb2))
              refine bodyPost_ret (v := .tuple #[tokV tok0, .int .i64 0, .int .i64 121]) (by simp [results, Tryz.results19, go_sem, tokV, tok0, *] <;> exact ext0_eq _ _) rfl ⟨?_, ?_⟩
              · exact tok_fin HR.out.symm rfl
              · go_grown
                exact h2.out.2

            · have HR : Hid (((⟨2, 0, 0, (s.extract 0 z).data.toList, 0⟩, z, 0) : Tok × Nat × Int) = r) := Lib.hid (by rw [← HF.out]; exact (if_neg h32).symm)
              have h32' : (z : Int) ≤ 32 := by omega
              clear HF
              go_enter Tryz.func19, Tryz.ntmps19
              go_wp2_with (first | (go_at_call 22; refine (span_word HZ.out hs _).mono ?_; rintro e w0 ⟨rfl, rfl⟩) | (go_at_call 13; refine (kind_at HK.out _).mono ?_; rintro e w1 ⟨rfl, hb1⟩; have hk1 := one_block hb1; obtain ⟨c60, c61, c62, c63, c64, f60, f61, f62, f63, f64⟩ := blk5 hk1.1; have h1 := Lib.hid hk1; clear hk1 hb1) | (go_at_call 8; refine (lWord_at HW.out _ (HE.out.below h1.out.2)).mono ?_; rintro e w2 ⟨rfl, hb2⟩; have hk2 := tokS0 h1.out.1 h1.out.2 hb2; obtain ⟨d60, d61, d62, d63, d64, g60, g61, g62, g63, g64⟩ := blk5 hk2.1; have h2 := Lib.hid hk2; clear hk2 hb2))
              refine bodyPost_ret (v := .tuple #[tokV ⟨2, 0, 0, (s.extract 0 z).data.toList, 0⟩, .int .i64 (z : Int), .int .i64 0]) (by simp [results, Tryz.results19, go_sem, tokV, *] <;> exact ext0_eq _ _) rfl ⟨?_, ?_⟩
              · exact tok_fin HR.out.symm rfl
              · go_grown
                exact h2.out.2


  · rw [if_neg (fun h => by rw [List.getElem?_eq_none (by have : s.data.toList.length = s.size := rfl; omega)] at h; cases h.1)] at hr
    have HD := Lib.hid hr
    clear hr
    obtain ⟨bt, hbt⟩ : ∃ b, ((s.extract 0 z).toList == [84, 82, 85, 69]) = b := ⟨_, rfl⟩
    obtain ⟨bf, hbf⟩ : ∃ b, ((s.extract 0 z).toList == [70, 65, 76, 83, 69]) = b := ⟨_, rfl⟩
    obtain ⟨bw, hbw⟩ : ∃ b, lWord (s.extract 0 z) = b := ⟨_, rfl⟩
    have HW := Lib.hid hbw
    have hrest := HD.out
    unfold wordRest at hrest
    rw [show strTrue = [84, 82, 85, 69] from rfl, show strFalse = [70, 65, 76, 83, 69] from rfl, hbt, hbf, hbw] at hrest
    have HF := Lib.hid hrest
    clear hbw hrest HD
    cases bt with
    | true =>
      have HR : Hid (((⟨3, 1, 1, [], 0⟩, z, 0) : Tok × Nat × Int) = r) := Lib.hid HF.out
      clear HF
      go_enter Tryz.func19, Tryz.ntmps19
      go_wp2_with (first | (go_at_call 22; refine (span_word HZ.out hs _).mono ?_; rintro e w0 ⟨rfl, rfl⟩) | (go_at_call 13; refine (kind_at HK.out _).mono ?_; rintro e w1 ⟨rfl, hb1⟩; have hk1 := one_block hb1; obtain ⟨c60, c61, c62, c63, c64, f60, f61, f62, f63, f64⟩ := blk5 hk1.1; have h1 := Lib.hid hk1; clear hk1 hb1))
      refine bodyPost_ret (v := .tuple #[tokV ⟨3, 1, 1, [], 0⟩, .int .i64 (z : Int), .int .i64 0]) (by simp [results, Tryz.results19, go_sem, tokV, *] <;> exact ext0_eq _ _) rfl ⟨?_, ?_⟩
      · exact tok_fin HR.out.symm rfl
      · go_grown
        exact h1.out.2

    | false =>
      cases bf with
      | true =>
        have HR : Hid (((⟨3, 1, 0, [], 0⟩, z, 0) : Tok × Nat × Int) = r) := Lib.hid HF.out
        clear HF
        go_enter Tryz.func19, Tryz.ntmps19
        go_wp2_with (first | (go_at_call 22; refine (span_word HZ.out hs _).mono ?_; rintro e w0 ⟨rfl, rfl⟩) | (go_at_call 13; refine (kind_at HK.out _).mono ?_; rintro e w1 ⟨rfl, hb1⟩; have hk1 := one_block hb1; obtain ⟨c60, c61, c62, c63, c64, f60, f61, f62, f63, f64⟩ := blk5 hk1.1; have h1 := Lib.hid hk1; clear hk1 hb1))
        refine bodyPost_ret (v := .tuple #[tokV ⟨3, 1, 0, [], 0⟩, .int .i64 (z : Int), .int .i64 0]) (by simp [results, Tryz.results19, go_sem, tokV, *] <;> exact ext0_eq _ _) rfl ⟨?_, ?_⟩
        · exact tok_fin HR.out.symm rfl
        · go_grown
          exact h1.out.2

      | false =>
        cases bw with
        | true =>
          have HR : Hid (((⟨1, 0, 0, (s.extract 0 z).data.toList, 0⟩, z, 0) : Tok × Nat × Int) = r) := Lib.hid HF.out
          clear HF
          go_enter Tryz.func19, Tryz.ntmps19
          go_wp2_with (first | (go_at_call 22; refine (span_word HZ.out hs _).mono ?_; rintro e w0 ⟨rfl, rfl⟩) | (go_at_call 13; refine (kind_at HK.out _).mono ?_; rintro e w1 ⟨rfl, hb1⟩; have hk1 := one_block hb1; obtain ⟨c60, c61, c62, c63, c64, f60, f61, f62, f63, f64⟩ := blk5 hk1.1; have h1 := Lib.hid hk1; clear hk1 hb1) | (go_at_call 8; refine (lWord_at HW.out _ (HE.out.below h1.out.2)).mono ?_; rintro e w2 ⟨rfl, hb2⟩; have hk2 := tokS0 h1.out.1 h1.out.2 hb2; obtain ⟨d60, d61, d62, d63, d64, g60, g61, g62, g63, g64⟩ := blk5 hk2.1; have h2 := Lib.hid hk2; clear hk2 hb2))
          refine bodyPost_ret (v := .tuple #[tokV ⟨1, 0, 0, (s.extract 0 z).data.toList, 0⟩, .int .i64 (z : Int), .int .i64 0]) (by simp [results, Tryz.results19, go_sem, tokV, *] <;> exact ext0_eq _ _) rfl ⟨?_, ?_⟩
          · exact tok_fin HR.out.symm rfl
          · go_grown
            exact h2.out.2

        | false =>
          by_cases h32 : 32 < z
          · have HR : Hid (((tok0, 0, 121) : Tok × Nat × Int) = r) := Lib.hid (by rw [← HF.out]; exact (if_pos h32).symm)
            have h32' : (32 : Int) < z := by omega
            clear HF
            go_enter Tryz.func19, Tryz.ntmps19
            go_wp2_with (first | (go_at_call 22; refine (span_word HZ.out hs _).mono ?_; rintro e w0 ⟨rfl, rfl⟩) | (go_at_call 13; refine (kind_at HK.out _).mono ?_; rintro e w1 ⟨rfl, hb1⟩; have hk1 := one_block hb1; obtain ⟨c60, c61, c62, c63, c64, f60, f61, f62, f63, f64⟩ := blk5 hk1.1; have h1 := Lib.hid hk1; clear hk1 hb1) | (go_at_call 8; refine (lWord_at HW.out _ (HE.out.below h1.out.2)).mono ?_; rintro e w2 ⟨rfl, hb2⟩; have hk2 := tokS0 h1.out.1 h1.out.2 hb2; obtain ⟨d60, d61, d62, d63, d64, g60, g61, g62, g63, g64⟩ := blk5 hk2.1; have h2 := Lib.hid hk2; clear hk2 hb2))
            refine bodyPost_ret (v := .tuple #[tokV tok0, .int .i64 0, .int .i64 121]) (by simp [results, Tryz.results19, go_sem, tokV, tok0, *] <;> exact ext0_eq _ _) rfl ⟨?_, ?_⟩
            · exact tok_fin HR.out.symm rfl
            · go_grown
              exact h2.out.2

          · have HR : Hid (((⟨2, 0, 0, (s.extract 0 z).data.toList, 0⟩, z, 0) : Tok × Nat × Int) = r) := Lib.hid (by rw [← HF.out]; exact (if_neg h32).symm)
            have h32' : (z : Int) ≤ 32 := by omega
            clear HF
            go_enter Tryz.func19, Tryz.ntmps19
            go_wp2_with (first | (go_at_call 22; refine (span_word HZ.out hs _).mono ?_; rintro e w0 ⟨rfl, rfl⟩) | (go_at_call 13; refine (kind_at HK.out _).mono ?_; rintro e w1 ⟨rfl, hb1⟩; have hk1 := one_block hb1; obtain ⟨c60, c61, c62, c63, c64, f60, f61, f62, f63, f64⟩ := blk5 hk1.1; have h1 := Lib.hid hk1; clear hk1 hb1) | (go_at_call 8; refine (lWord_at HW.out _ (HE.out.below h1.out.2)).mono ?_; rintro e w2 ⟨rfl, hb2⟩; have hk2 := tokS0 h1.out.1 h1.out.2 hb2; obtain ⟨d60, d61, d62, d63, d64, g60, g61, g62, g63, g64⟩ := blk5 hk2.1; have h2 := Lib.hid hk2; clear hk2 hb2))
            refine bodyPost_ret (v := .tuple #[tokV ⟨2, 0, 0, (s.extract 0 z).data.toList, 0⟩, .int .i64 (z : Int), .int .i64 0]) (by simp [results, Tryz.results19, go_sem, tokV, *] <;> exact ext0_eq _ _) rfl ⟨?_, ?_⟩
            · exact tok_fin HR.out.symm rfl
            · go_grown
              exact h2.out.2


end Go.Proofs.YtdabnnganponpaaGreatDoor
