/- The statement on numbers of each kind: its walk. -/
import Derived.Test.YtfllgaoknigbnaaGreatDoorLexLW
namespace Go.Proofs.YtfllgaoknigbnaaGreatDoor
open Go.RowKit Lx Ad

def kNames : List (List UInt8) := [[83, 73, 78, 84], [73, 78, 84], [68, 73, 78, 84], [85, 83, 73, 78, 84], [85, 73, 78, 84], [85, 68, 73, 78, 84], [66, 89, 84, 69], [87, 79, 82, 68], [68, 87, 79, 82, 68]]
theorem kNames_cell (j : Nat) (hj : j < 9) (W : World) :
    (W.alloc (.cells #[.string ⟨#[83, 73, 78, 84]⟩, .string ⟨#[73, 78, 84]⟩, .string ⟨#[68, 73, 78, 84]⟩, .string ⟨#[85, 83, 73, 78, 84]⟩, .string ⟨#[85, 73, 78, 84]⟩, .string ⟨#[85, 68, 73, 78, 84]⟩, .string ⟨#[66, 89, 84, 69]⟩, .string ⟨#[87, 79, 82, 68]⟩, .string ⟨#[68, 87, 79, 82, 68]⟩] 9)).cell? ⟨W.heap.size, j, none⟩ = some (.string (mkS (kNm (j + 2)))) := by
  have h : j = 0 ∨ j = 1 ∨ j = 2 ∨ j = 3 ∨ j = 4 ∨ j = 5 ∨ j = 6 ∨ j = 7 ∨ j = 8 := by omega
  rcases h with rfl | rfl | rfl | rfl | rfl | rfl | rfl | rfl | rfl <;> exact (World.cell?_alloc_at _ _ _ _ rfl)

theorem kLoHi (k : Nat) (h1 : k < 11) (h2 : 2 ≤ k) : -2147483648 ≤ kLo k ∧ kLo k ≤ 0 ∧ 127 ≤ kHi k ∧ kHi k ≤ 4294967295 := by
  match k, h1, h2 with
  | 2, _, _ => decide
  | 3, _, _ => decide
  | 4, _, _ => decide
  | 5, _, _ => decide
  | 6, _, _ => decide
  | 7, _, _ => decide
  | 8, _, _ => decide
  | 9, _, _ => decide
  | 10, _, _ => decide

theorem signed_neg {u : Nat} (hu : 0 < u) : signed (-(u : Int)) = 45 :: decs u := by
  rw [signed, if_pos (by omega), show (-(-(u : Int))).toNat = u by omega]
theorem signed_pos (u : Nat) : signed (u : Int) = decs u := by
  rw [signed, if_neg (by omega), Int.toNat_natCast]
theorem text_neg (k : Nat) {u : Nat} (hu : 0 < u) : (mkS (kNm k) ++ ⟨#[35]⟩ ++ ⟨#[45]⟩ ++ ⟨(decs u).toArray⟩ : ByteArray).data.toList = kNm k ++ 35 :: signed (-(u : Int)) := by
  rw [signed_neg hu]
  simp [mkS, ByteArray.data_append]
theorem text_pos (k u : Nat) : (mkS (kNm k) ++ ⟨#[35]⟩ ++ ⟨#[]⟩ ++ ⟨(decs u).toArray⟩ : ByteArray).data.toList = kNm k ++ 35 :: signed (u : Int) := by
  rw [signed_pos]
  simp [mkS, ByteArray.data_append]
theorem text_hex (k u : Nat) : (mkS (kNm k) ++ ⟨#[35, 49, 54, 35]⟩ ++ ⟨(hexs u).toArray⟩ : ByteArray).data.toList = kNm k ++ 35 :: ([49, 54, 35] ++ hexs u) := by
  simp [mkS, ByteArray.data_append]
theorem ba_size (l : List UInt8) : (⟨l.toArray⟩ : ByteArray).size = l.length := by simp [ByteArray.size]
theorem kNm_size (k : Nat) : (mkS (kNm k)).size ≤ 5 := by
  unfold kNm
  split <;> decide

set_option maxRecDepth 100000 in
set_option maxHeartbeats 1600000 in
theorem lexNumbers_walk (kd : Int) (k0 : -9223372036854775808 ≤ kd) (k1 : kd ≤ 9223372036854775807) (n : Int) (n0 : -9223372036854775808 ≤ n) (n1 : n ≤ 9223372036854775807) (w : World) (he : TEnv w) :
    Calls Tryz.prog 5 #[.int .i64 kd, .int .i64 n] w fun e w' => e = .returned (.bool true) ∧ Below w.heap.size w w' := by
  obtain ⟨j, hj⟩ : ∃ j : Nat, kd % 9 = j := ⟨(kd % 9).toNat, by omega⟩
  have hj9 : j < 9 := by omega
  have HE := Lib.hid he
  have HJ := Lib.hid hj
  have HP := Lib.hid (hplace_at kd 9 k0 k1 (by omega) (by omega))
  have HC := Lib.hid (kNames_cell j hj9)
  obtain ⟨x, hx⟩ : ∃ x, mkS (kNm (j + 2)) = x := ⟨_, rfl⟩
  rw [hx] at HC
  have hb := kLoHi (j + 2) (by omega) (by omega)
  have hrg := rranges_at (k := j + 2) (by omega) (by omega)
  obtain ⟨lo, hlo⟩ : ∃ lo, kLo (j + 2) = lo := ⟨_, rfl⟩
  obtain ⟨hi, hhi⟩ : ∃ hi, kHi (j + 2) = hi := ⟨_, rfl⟩
  rw [hlo, hhi] at hb hrg
  rw [show ((j + 2 : Nat) : Int) = 2 + j by omega] at hrg
  obtain ⟨lo0, lo1, hi0, hi1⟩ := hb
  have HRG := Lib.hid hrg
  have HLO := Lib.hid hlo
  have HHI := Lib.hid hhi
  have HX := Lib.hid hx
  clear he hj hx hrg hlo hhi k0 k1
  have j0 : (0 : Int) ≤ j := by omega
  have j1 : (j : Int) < 9 := by omega
  have hcell := HC.out
  obtain ⟨m, hm⟩ : ∃ m, max (min n (hi + 1)) (lo - 1) = m := ⟨_, rfl⟩
  have m0 : lo - 1 ≤ m := by omega
  have m1 : m ≤ hi + 1 := by omega
  have hnum := num_law (k := j + 2) (by omega) (by omega) (n := m) (by omega)
  rw [HLO.out, HHI.out, show ((j + 2 : Nat) : Int) = 2 + j by omega] at hnum
  have hxs : x.size ≤ 5 := by rw [← HX.out]; exact kNm_size (j + 2)
  by_cases hneg : m < 0
  · obtain ⟨u, rfl⟩ : ∃ u : Nat, m = -(u : Int) := ⟨(-m).toNat, by omega⟩
    have hu0 : 0 < u := by omega
    have htx := text_neg (j + 2) hu0
    rw [HX.out] at htx
    rw [← htx] at hnum
    have hdl := decs_len u
    have HZ : Hid ((x ++ ⟨#[35]⟩ ++ ⟨#[45]⟩ ++ ⟨(decs u).toArray⟩ : ByteArray).size ≤ 4294967000) := Lib.hid (by rw [ByteArray.size_append, ByteArray.size_append, ByteArray.size_append, ba_size (decs u), show (⟨#[35]⟩ : ByteArray).size = 1 from rfl, show (⟨#[45]⟩ : ByteArray).size = 1 from rfl]; omega)
    have s1 : x.size + 1 ≤ 9223372036854775807 := by omega
    have s2 : x.size + 1 + 1 ≤ 9223372036854775807 := by omega
    have s3 : x.size + 1 + 1 + (decs u).length ≤ 9223372036854775807 := by omega
    clear htx
    by_cases hlo0 : lo = 0
    · rw [if_pos ⟨hneg, hlo0⟩] at hnum
      have HQ := Lib.hid hnum
      have e1 : (lo == 0) = true := by simp [hlo0]
      have HL0 := Lib.hid hlo0
      clear hnum hlo0
      go_enter Tryz.func5, Tryz.ntmps5
      go_wp2_with (first | (go_at_call 8; refine (known_at _ HE.out).mono ?_; rintro e w1 ⟨rfl, hb1⟩; have H1 := Lib.hid hb1; clear hb1) | (go_at_call 13; refine (HP.out _).mono ?_; rintro e w2 ⟨rfl, rfl⟩; rw [HJ.out]) | (go_at_call 14; refine (HRG.out _).mono ?_; rintro e w3 ⟨rfl, rfl⟩; have H3 := Lib.hid (H1.out.alloc H1.out.size (.cells #[.string ⟨#[83, 73, 78, 84]⟩, .string ⟨#[73, 78, 84]⟩, .string ⟨#[68, 73, 78, 84]⟩, .string ⟨#[85, 83, 73, 78, 84]⟩, .string ⟨#[85, 73, 78, 84]⟩, .string ⟨#[85, 68, 73, 78, 84]⟩, .string ⟨#[66, 89, 84, 69]⟩, .string ⟨#[87, 79, 82, 68]⟩, .string ⟨#[68, 87, 79, 82, 68]⟩] 9))) | (go_at_call 15; refine (rdigits_at u (by omega) _).mono ?_; rintro e w4 ⟨rfl, rfl⟩) | (go_at_call 9; refine (tokens_err HQ.out HZ.out _ (HE.out.lex.below H3.out)).mono ?_; rintro e w5 ⟨p, rfl, hp, hb5⟩; have H5 := Lib.hid (And.intro hp (bjoin H3.out hb5)); clear hp hb5) | (go_at_call 16; refine (told_place _ (HE.out.hnd.below H5.out.2) H5.out.1).mono ?_; rintro e w6 ⟨rfl, hb6⟩; have H6 := Lib.hid (bjoin H5.out.2 hb6); clear hb6))
      go_ret
      exact ⟨rfl, H6.out⟩
    · rw [if_neg (fun h => hlo0 h.2)] at hnum
      have e1 : (lo == 0) = false := by simp [hlo0]
      by_cases hlt : -(u : Int) < lo
      · rw [if_pos (.inl hlt)] at hnum
        have HQ := Lib.hid hnum
        clear hnum
        go_enter Tryz.func5, Tryz.ntmps5
        go_wp2_with (first | (go_at_call 8; refine (known_at _ HE.out).mono ?_; rintro e w1 ⟨rfl, hb1⟩; have H1 := Lib.hid hb1; clear hb1) | (go_at_call 13; refine (HP.out _).mono ?_; rintro e w2 ⟨rfl, rfl⟩; rw [HJ.out]) | (go_at_call 14; refine (HRG.out _).mono ?_; rintro e w3 ⟨rfl, rfl⟩; have H3 := Lib.hid (H1.out.alloc H1.out.size (.cells #[.string ⟨#[83, 73, 78, 84]⟩, .string ⟨#[73, 78, 84]⟩, .string ⟨#[68, 73, 78, 84]⟩, .string ⟨#[85, 83, 73, 78, 84]⟩, .string ⟨#[85, 73, 78, 84]⟩, .string ⟨#[85, 68, 73, 78, 84]⟩, .string ⟨#[66, 89, 84, 69]⟩, .string ⟨#[87, 79, 82, 68]⟩, .string ⟨#[68, 87, 79, 82, 68]⟩] 9))) | (go_at_call 15; refine (rdigits_at u (by omega) _).mono ?_; rintro e w4 ⟨rfl, rfl⟩) | (go_at_call 9; refine (tokens_err HQ.out HZ.out _ (HE.out.lex.below H3.out)).mono ?_; rintro e w5 ⟨p, rfl, hp, hb5⟩; have H5 := Lib.hid (And.intro hp (bjoin H3.out hb5)); clear hp hb5) | (go_at_call 16; refine (told_place _ (HE.out.hnd.below H5.out.2) H5.out.1).mono ?_; rintro e w6 ⟨rfl, hb6⟩; have H6 := Lib.hid (bjoin H5.out.2 hb6); clear hb6))
        go_ret
        exact ⟨rfl, H6.out⟩
      · rw [if_neg (by omega)] at hnum
        have HQ := Lib.hid hnum
        have c1 : ¬ hi < -(u : Int) := by omega
        clear hnum
        go_enter Tryz.func5, Tryz.ntmps5
        go_wp2_with (first | (go_at_call 8; refine (known_at _ HE.out).mono ?_; rintro e w1 ⟨rfl, hb1⟩; have H1 := Lib.hid hb1; clear hb1) | (go_at_call 13; refine (HP.out _).mono ?_; rintro e w2 ⟨rfl, rfl⟩; rw [HJ.out]) | (go_at_call 14; refine (HRG.out _).mono ?_; rintro e w3 ⟨rfl, rfl⟩; have H3 := Lib.hid (H1.out.alloc H1.out.size (.cells #[.string ⟨#[83, 73, 78, 84]⟩, .string ⟨#[73, 78, 84]⟩, .string ⟨#[68, 73, 78, 84]⟩, .string ⟨#[85, 83, 73, 78, 84]⟩, .string ⟨#[85, 73, 78, 84]⟩, .string ⟨#[85, 68, 73, 78, 84]⟩, .string ⟨#[66, 89, 84, 69]⟩, .string ⟨#[87, 79, 82, 68]⟩, .string ⟨#[68, 87, 79, 82, 68]⟩] 9))) | (go_at_call 15; refine (rdigits_at u (by omega) _).mono ?_; rintro e w4 ⟨rfl, rfl⟩) | (go_at_call 9; refine (tokens_ok HQ.out (by simp) HZ.out _ (HE.out.lex.below H3.out)).mono ?_; rintro e w5 ⟨g, cap, rfl, hc, hb5⟩; have q1 := hc 1 _ rfl; have q2 := hc 2 _ rfl; have H5 := Lib.hid (bjoin H3.out hb5); clear hc hb5) | (go_at_call 16; refine (told_nil _).mono ?_; rintro e w6 ⟨rfl, rfl⟩) | (go_at_call 17; fail))
        go_ret
        exact ⟨rfl, H5.out⟩
  · obtain ⟨u, rfl⟩ : ∃ u : Nat, m = (u : Int) := ⟨m.toNat, by omega⟩
    have htx := text_pos (j + 2) u
    rw [HX.out] at htx
    rw [← htx] at hnum
    have hdl := decs_len u
    have hdx := hexs_len u
    have HZ : Hid ((x ++ ⟨#[35]⟩ ++ ⟨#[]⟩ ++ ⟨(decs u).toArray⟩ : ByteArray).size ≤ 4294967000) := Lib.hid (by rw [ByteArray.size_append, ByteArray.size_append, ByteArray.size_append, ba_size (decs u), show (⟨#[35]⟩ : ByteArray).size = 1 from rfl, show (⟨#[]⟩ : ByteArray).size = 0 from rfl]; omega)
    have s1 : x.size + 1 ≤ 9223372036854775807 := by omega
    have s2 : x.size + 4 ≤ 9223372036854775807 := by omega
    have s3 : x.size + 1 + (decs u).length ≤ 9223372036854775807 := by omega
    have s4 : x.size + 4 + (hexs u).length ≤ 9223372036854775807 := by omega
    have c2 : ¬ (u : Int) < lo := by omega
    rw [if_neg (fun h => hneg h.1)] at hnum
    by_cases hgt : hi < (u : Int)
    · rw [if_pos (.inr hgt)] at hnum
      have HQ := Lib.hid hnum
      clear hnum htx
      go_enter Tryz.func5, Tryz.ntmps5
      go_wp2_with (first | (go_at_call 8; refine (known_at _ HE.out).mono ?_; rintro e w1 ⟨rfl, hb1⟩; have H1 := Lib.hid hb1; clear hb1) | (go_at_call 13; refine (HP.out _).mono ?_; rintro e w2 ⟨rfl, rfl⟩; rw [HJ.out]) | (go_at_call 14; refine (HRG.out _).mono ?_; rintro e w3 ⟨rfl, rfl⟩; have H3 := Lib.hid (H1.out.alloc H1.out.size (.cells #[.string ⟨#[83, 73, 78, 84]⟩, .string ⟨#[73, 78, 84]⟩, .string ⟨#[68, 73, 78, 84]⟩, .string ⟨#[85, 83, 73, 78, 84]⟩, .string ⟨#[85, 73, 78, 84]⟩, .string ⟨#[85, 68, 73, 78, 84]⟩, .string ⟨#[66, 89, 84, 69]⟩, .string ⟨#[87, 79, 82, 68]⟩, .string ⟨#[68, 87, 79, 82, 68]⟩] 9))) | (go_at_call 15; refine (rdigits_at u (by omega) _).mono ?_; rintro e w4 ⟨rfl, rfl⟩) | (go_at_call 9; refine (tokens_err HQ.out HZ.out _ (HE.out.lex.below H3.out)).mono ?_; rintro e w5 ⟨p, rfl, hp, hb5⟩; have H5 := Lib.hid (And.intro hp (bjoin H3.out hb5)); clear hp hb5) | (go_at_call 16; refine (told_place _ (HE.out.hnd.below H5.out.2) H5.out.1).mono ?_; rintro e w6 ⟨rfl, hb6⟩; have H6 := Lib.hid (bjoin H5.out.2 hb6); clear hb6))
      go_ret
      exact ⟨rfl, H6.out⟩
    · rw [if_neg (by omega)] at hnum
      have hhex := hex_law (k := j + 2) (by omega) (by omega) (n := u) (by rw [HHI.out]; omega)
      have htx2 := text_hex (j + 2) u
      rw [HX.out] at htx2
      rw [← htx2] at hhex
      have HQ := Lib.hid hnum
      have HQ2 := Lib.hid hhex
      have HZ2 : Hid ((x ++ ⟨#[35, 49, 54, 35]⟩ ++ ⟨(hexs u).toArray⟩ : ByteArray).size ≤ 4294967000) := Lib.hid (by rw [ByteArray.size_append, ByteArray.size_append, ba_size (hexs u), show (⟨#[35, 49, 54, 35]⟩ : ByteArray).size = 4 from rfl]; omega)
      clear hnum hhex htx htx2
      go_enter Tryz.func5, Tryz.ntmps5
      go_wp2_with (first | (go_at_call 8; refine (known_at _ HE.out).mono ?_; rintro e w1 ⟨rfl, hb1⟩; have H1 := Lib.hid hb1; clear hb1) | (go_at_call 13; refine (HP.out _).mono ?_; rintro e w2 ⟨rfl, rfl⟩; rw [HJ.out]) | (go_at_call 14; refine (HRG.out _).mono ?_; rintro e w3 ⟨rfl, rfl⟩; have H3 := Lib.hid (H1.out.alloc H1.out.size (.cells #[.string ⟨#[83, 73, 78, 84]⟩, .string ⟨#[73, 78, 84]⟩, .string ⟨#[68, 73, 78, 84]⟩, .string ⟨#[85, 83, 73, 78, 84]⟩, .string ⟨#[85, 73, 78, 84]⟩, .string ⟨#[85, 68, 73, 78, 84]⟩, .string ⟨#[66, 89, 84, 69]⟩, .string ⟨#[87, 79, 82, 68]⟩, .string ⟨#[68, 87, 79, 82, 68]⟩] 9))) | (go_at_call 15; refine (rdigits_at u (by omega) _).mono ?_; rintro e w4 ⟨rfl, rfl⟩) | (go_at_call 9; refine (tokens_ok HQ.out (by simp) HZ.out _ (HE.out.lex.below H3.out)).mono ?_; rintro e w5 ⟨g, cap, rfl, hc, hb5⟩; have q1 := hc 1 _ rfl; have q2 := hc 2 _ rfl; have H5 := Lib.hid (bjoin H3.out hb5); clear hc hb5) | (go_at_call 16; refine (told_nil _).mono ?_; rintro e w6 ⟨rfl, rfl⟩) | (go_at_call 17; fail))
      refine (rhex_at u (by omega) _).mono ?_
      rintro e w7 ⟨rfl, rfl⟩
      go_wp2_with (fail)
      refine (tokens_ok HQ2.out (by simp) HZ2.out _ (HE.out.lex.below H5.out)).mono ?_
      rintro e w8 ⟨g2, cap2, rfl, hc2, hb8⟩
      have q3 := hc2 2 _ rfl
      have H8 := Lib.hid (bjoin H5.out hb8)
      clear hc2 hb8
      have q5 : ((u : Int) == u) = true := by simp
      go_wp2
      go_ret
      exact ⟨rfl, H8.out⟩
end Go.Proofs.YtfllgaoknigbnaaGreatDoor
