/- The walk through the reference lexer's typed: its times; all of it. -/
import Derived.Test.YtdabnnganponpaaGreatDoorRef12F
import Derived.Test.YtdabnnganponpaaGreatDoorRef12D
namespace Go.Proofs.YtdabnnganponpaaGreatDoor
open Go.RowKit Lx Ad

set_option maxRecDepth 100000 in
set_option maxHeartbeats 4000000 in
theorem rtyped_time {s x : ByteArray} {p b kd : Nat} {A : Int} {r : Tok × Nat × Int} (hr : rSpan2 s.data.toList p = r) (hk : kindOf x = kd) (hx11 : (x.toList == [84]) = true ∨ (x.toList == [84]) = false ∧ kd = 11) (hs : s.size ≤ 4294967000) (hp : p ≤ s.size) (w : World) (hx : ScB w b s p) :
    Calls Tryz.prog 50 #[.pointer (some ⟨b, 0, none⟩), .agg #[.int .i64 0, .int .i64 0, .int .i64 0, .string ⟨#[]⟩, .int .i64 A], .string x] w (RTyPost s A b r w) := by
  obtain ⟨⟨Z, N, B⟩, hq⟩ : ∃ q, rTimeR s.data.toList p = q := ⟨_, rfl⟩
  rw [rSpan2_is, hq] at hr
  have HR := Lib.hid hr
  have HD := Lib.hid (fun W (hW : ScB W b s (p : Int)) => rtime_at hq hs hp W hW)
  have HK := Lib.hid hk
  have HX := Lib.hid hx
  have hlt := hx.lt
  obtain ⟨bT, hbT⟩ : ∃ bT, (x.toList == [84]) = bT := ⟨_, rfl⟩
  rw [hbT] at hx11
  clear hr hq hk hx hs hp
  have hway : (B = false) ∨ (B = true ∧ N < -2147483648) ∨ (B = true ∧ -2147483648 ≤ N ∧ 2147483647 < N) ∨ (B = true ∧ -2147483648 ≤ N ∧ N ≤ 2147483647) := by cases B <;> simp; omega
  rcases hx11 with rfl | ⟨rfl, rfl⟩
  all_goals
    rcases hway with rfl | ⟨rfl, n1⟩ | ⟨rfl, n1, n2⟩ | ⟨rfl, n1, n2⟩
    all_goals
      go_enter Tryz.func50, Tryz.ntmps50
      go_wp2_with (first
        | (go_at_call 49; refine (rkind_at HK.out _).mono ?_; rintro e w1 ⟨rfl, hb1⟩; have HT := Lib.hid (TyS.start HX.out hb1); clear hb1; obtain ⟨c40, c41, c42, c43, c44, f40, f41, f42, f43, f44⟩ := blk5 HT.out.tk; obtain ⟨c60, c61, c62, c63, c64, f60, f61, f62, f63, f64⟩ := blk5 HT.out.an)
        | (go_at_call 72; refine (HD.out _ HT.out.sc).mono ?_; rintro e w2 ⟨rfl, hx2, ho2, hz2⟩; have HT2 := Lib.hid (HT.out.call hx2 ho2); clear hx2 ho2 c40 c41 c42 c43 c44 f40 f41 f42 f43 f44 c60 c61 c62 c63 c64 f60 f61 f62 f63 f64; obtain ⟨c40, c41, c42, c43, c44, f40, f41, f42, f43, f44⟩ := blk5 HT2.out.tk; obtain ⟨c60, c61, c62, c63, c64, f60, f61, f62, f63, f64⟩ := blk5 HT2.out.an))
    · refine bodyPost_ret (v := .tuple #[.agg #[.int .i64 0, .int .i64 0, .int .i64 0, .string ⟨#[]⟩, .int .i64 A], .int .i64 120]) (by simp [results, Tryz.results50, go_sem, *]) rfl ?_
      exact ty_err (by rw [← HR.out]; rfl) (by decide) (by (repeat (refine Only.setFar ?_ (by omega) _ _)); exact HT2.out.on)
    · refine bodyPost_ret (v := .tuple #[.agg #[.int .i64 0, .int .i64 0, .int .i64 0, .string ⟨#[]⟩, .int .i64 A], .int .i64 163]) (by simp [results, Tryz.results50, go_sem, *]) rfl ?_
      exact ty_err (by rw [← HR.out]; simp only [rTime]; rw [if_neg (by simp), if_pos (by omega)]) (by decide) (by (repeat (refine Only.setFar ?_ (by omega) _ _)); exact HT2.out.on)
    · refine bodyPost_ret (v := .tuple #[.agg #[.int .i64 0, .int .i64 0, .int .i64 0, .string ⟨#[]⟩, .int .i64 A], .int .i64 163]) (by simp [results, Tryz.results50, go_sem, *]) rfl ?_
      exact ty_err (by rw [← HR.out]; simp only [rTime]; rw [if_neg (by simp), if_pos (by omega)]) (by decide) (by (repeat (refine Only.setFar ?_ (by omega) _ _)); exact HT2.out.on)
    · refine bodyPost_ret (v := .tuple #[.agg #[.int .i64 4, .int .i64 11, .int .i64 N, .string ⟨#[]⟩, .int .i64 A], .int .i64 0]) (by simp [results, Tryz.results50, go_sem, *]) rfl ?_
      exact ty_ok (by rw [← HR.out]; simp only [rTime]; rw [if_neg (by simp), if_neg (by omega)]) (by (repeat (refine Only.setFar ?_ (by omega) _ _)); exact HT2.out.on) (by (repeat (refine ScB.setFar ?_ (by omega) _ _)); exact HT2.out.sc)


theorem rtyped_at {s x : ByteArray} {p b k : Nat} {A : Int} {r : Tok × Nat × Int} (hk : kindOf x = k) (h0 : (x.toList == [84]) = true ∨ (x.toList == [84]) = false ∧ k ≠ 0) (hr : (if (x.toList == [84]) = true ∨ k = 11 then rSpan2 s.data.toList p else lTyped s.data.toList p k) = r) (hs : s.size ≤ 4294967000) (hp : p ≤ s.size) (w : World) (hx : ScB w b s p) :
    Calls Tryz.prog 50 #[.pointer (some ⟨b, 0, none⟩), .agg #[.int .i64 0, .int .i64 0, .int .i64 0, .string ⟨#[]⟩, .int .i64 A], .string x] w (RTyPost s A b r w) := by
  have hk11 : k ≤ 11 := by rw [← hk]; exact kindOf_le _
  rcases h0 with h0 | ⟨h0, hk0⟩
  · rw [if_pos (.inl h0)] at hr
    exact rtyped_time hr hk (.inl h0) hs hp w hx
  · by_cases h11 : k = 11
    · rw [if_pos (.inr h11)] at hr
      exact rtyped_time hr hk (.inr ⟨h0, h11⟩) hs hp w hx
    · rw [if_neg (by rw [h0]; simp [h11])] at hr
      by_cases hm : kSigned k = true ∧ (cAt s.data.toList p).toNat = 45
      · refine rtyped_minus hr hk h0 ?_ (by omega) hm.1 hm.2 hs hp w hx
        rcases Nat.lt_or_ge k 2 with h | h
        · have : k = 1 := by omega
          rw [this] at hm; simp [kSigned] at hm
        · exact h
      · by_cases h1 : k = 1 ∧ lett (cAt s.data.toList p) = true
        · obtain ⟨rfl, h1⟩ := h1
          exact rtyped_bool hr hk h0 h1 hs hp w hx
        · by_cases hk1 : k = 1
          · subst hk1
            refine rtyped_number1 hr hk h0 ?_ hs hp w hx
            cases hl : lett (cAt s.data.toList p) with
            | false => rfl
            | true => exact absurd ⟨rfl, hl⟩ h1
          · exact rtyped_number hr hk h0 (by omega) (by omega) hm hs hp w hx
end Go.Proofs.YtdabnnganponpaaGreatDoor
