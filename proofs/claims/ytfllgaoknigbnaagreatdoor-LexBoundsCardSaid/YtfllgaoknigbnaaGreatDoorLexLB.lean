/- The statement on the bounds of names and texts: its walk. -/
import Derived.Test.YtfllgaoknigbnaaGreatDoorLexLW
import Derived.Laws.OwnMore
import Derived.Laws.BytesArg
namespace Go.Proofs.YtfllgaoknigbnaaGreatDoor
open Go.RowKit Lx Ad

def okT (r : Except (Nat × Int) (List Tok)) : Bool := match r with
  | .ok _ => true
  | .error _ => false
set_option maxRecDepth 100000 in
theorem name_ok : ∀ k, k < 60 → ¬ 31 < k → okT (lTokens (59 :: 32 :: List.replicate (k + 1) 110) false) = true := by
  decide +kernel
theorem name_good {k : Nat} (hk : k < 60) (h : ¬ 31 < k) : ∃ ts, lTokens (59 :: 32 :: List.replicate (k + 1) 110) false = .ok ts := by
  have h1 := name_ok k hk h
  cases hr : lTokens (59 :: 32 :: List.replicate (k + 1) 110) false with
  | ok ts => exact ⟨ts, rfl⟩
  | error q => rw [hr] at h1; cases h1
theorem name_long {k : Nat} (hk : k < 60) (h : 31 < k) : lTokens (59 :: 32 :: List.replicate (k + 1) 110) false = .error (2, 121) := by
  have h1 := name_law k hk
  rw [if_pos h] at h1
  cases hr : lTokens (59 :: 32 :: List.replicate (k + 1) 110) false with
  | ok ts => rw [hr] at h1; cases h1
  | error q =>
    rw [hr] at h1
    obtain ⟨a, e⟩ := q
    simp only [codeT, Prod.mk.injEq] at h1
    obtain ⟨h2, h3⟩ := h1
    have h4 : a = 2 := by omega
    rw [h4, h3]

/-- What an error value says. -/
def ErrIs (w : World) (ev : Value) (a e : Int) : Prop :=
  (ev = .nilIface ∧ a = 0 ∧ e = 0) ∨ ∃ p, ev = .iface 47 (.pointer (some ⟨p, 0, none⟩)) ∧ w.heap[p]? = some (.cells #[.int .i64 a, .int .i64 e] 50)

/-- One byte, many times. -/
def nS (c : UInt8) (j : Nat) : ByteArray := ⟨(List.replicate j c).toArray⟩
theorem nS_size (c : UInt8) (j : Nat) : (nS c j).size = j := by simp [nS, ByteArray.size]
theorem nS_data (c : UInt8) (j : Nat) : (nS c j).data.toList = List.replicate j c := by simp [nS]
theorem name_str (j : Nat) : nS 110 j ++ ⟨#[110]⟩ = nS 110 (j + 1) := by
  unfold nS
  rw [show (⟨#[110]⟩ : ByteArray) = ⟨([110] : List UInt8).toArray⟩ from rfl, str_app, ← List.replicate_succ']
theorem lead_data (j : Nat) : ((⟨#[59, 32]⟩ : ByteArray) ++ nS 110 j).data.toList = 59 :: 32 :: List.replicate j 110 := by
  rw [ByteArray.data_append, Array.toList_append, nS_data]
  rfl
theorem lead_size (j : Nat) : ((⟨#[59, 32]⟩ : ByteArray) ++ nS 110 j).size = j + 2 := by
  rw [ByteArray.size_append, nS_size, Nat.add_comm]
  rfl

theorem u8Info : (Tryz.prog.info? 5).map (fun i => (i.zero, i.size, i.bytes)) = some (some (.int .u8 0), 1, 1) := by kernel_rfl

/-- The bytes in the slice: 'k' blanks, then zeros. -/
def fillC (L k : Nat) : List Value := List.replicate k (.int .u8 32) ++ List.replicate (L - k) (.int .u8 0)
theorem fillC_len (L k : Nat) (h : k ≤ L) : (fillC L k).length = L := by simp [fillC]; omega
theorem fillC_set (L k : Nat) (h : k < L) : (fillC L k).set k (.int .u8 32) = fillC L (k + 1) := by
  unfold fillC
  rw [List.set_append_right _ _ (by simp), List.length_replicate, Nat.sub_self, show L - k = (L - (k + 1)) + 1 by omega, List.replicate_succ, List.set_cons_zero, List.replicate_succ' (n := k), List.append_assoc]
  rfl
theorem strOfNums_rep (L : Nat) : strOfNums (List.replicate L (32 : Int)) = nS 32 L := by
  simp [strOfNums, nS]

theorem fillC_get (L k : Nat) (h : k < L) : (fillC L k)[k]? = some (.int .u8 0) := by
  unfold fillC
  rw [List.getElem?_append_right (by simp), List.length_replicate, Nat.sub_self, show L - k = (L - (k + 1)) + 1 by omega, List.replicate_succ]
  rfl
theorem fillC_full (L i : Nat) (h : i < L) : (fillC L L)[i]? = some (.int .u8 32) := by
  unfold fillC
  rw [List.getElem?_append_left (by simpa using h)]
  simp [h]
theorem conv_blanks {W : World} {B g L : Nat} (h : W.ownsRow B 5 1 (.slice (some ⟨g, 0, none⟩) L L) L (fillC L L)) :
    (convert 22 9 (.slice (some ⟨g, 0, none⟩) L L)).run Tryz.prog W =   .ok (.string (nS 32 L)) W := by
  have h1 := run_convert_bytes_arg (P := Tryz.prog) W 22 5 Tryz.underlying22 Tryz.underlying5 g 0 L L (List.replicate L (32 : Int)) (by simp) (fun i hi => by
    rw [Nat.zero_add, h.cellAt i (by omega), fillC_full L i hi]
    simp [List.getD, hi]) 9 Tryz.underlying9
  rw [strOfNums_rep] at h1
  exact h1

set_option maxRecDepth 100000 in
set_option maxHeartbeats 3200000 in
theorem lexBounds_walk (n : Int) (n0 : -9223372036854775808 ≤ n) (n1 : n ≤ 9223372036854775807) (w : World) (he : TEnv w) :
    Calls Tryz.prog 7 #[.int .i64 n] w fun e w' => e = .returned (.bool true) ∧ Below w.heap.size w w' := by
  obtain ⟨k, hk⟩ : ∃ k : Nat, n % 60 = k := ⟨(n % 60).toNat, by omega⟩
  have hk60 : k < 60 := by omega
  obtain ⟨i0, hi, hz0, hz1, hz2⟩ := info_parts u8Info
  have HI := Lib.hid (And.intro hi (And.intro hz0 (And.intro hz1 hz2)))
  have HE := Lib.hid he
  have HK := Lib.hid hk
  have HP := Lib.hid (hplace_at n 60 n0 n1 (by omega) (by omega))
  clear he hi hz0 hz1 hz2 hk n0 n1
  obtain ⟨L, hL⟩ : ∃ L : Nat, L = 65507 + k := ⟨_, rfl⟩
  have hlen1 : (65506 + (1 + (k : Int))) = (L : Int) := by omega
  have HLEN := Lib.hid hlen1
  have HL := Lib.hid hL
  clear hlen1
  have hbl := blank_law true L
  by_cases h31 : 31 < k
  · have HQ1 : Hid (lTokens ((⟨#[59, 32]⟩ : ByteArray) ++ nS 110 (k + 1)).data.toList false = .error (2, 121)) := Lib.hid (by rw [lead_data]; exact name_long hk60 h31)
    have HQ2 : Hid (lTokens (nS 32 L).data.toList true = .error (65536, 121)) := Lib.hid (by rw [nS_data, hbl, if_pos (by omega)])
    have c1 : (32 : Int) < 1 + k := by omega
    have c2 : (65536 : Int) < L := by omega
    have c3 : (L : Int) ≤ 65566 := by omega
    clear hbl hL
    go_enter Tryz.func7, Tryz.ntmps7
    go_wp2_with (first | (go_at_call 8; refine (known_at _ HE.out).mono ?_; rintro e w1 ⟨rfl, hb1⟩; have H1 := Lib.hid hb1; clear hb1) | (go_at_call 13; refine (HP.out _).mono ?_; rintro e w2 ⟨rfl, rfl⟩; rw [HK.out]))
    go_loop [3, 4] (fun nm i => ∃ j : Nat, j ≤ k + 1 ∧ nm = .string (nS 110 j) ∧ i = .int .i64 j) (fun nm i => k + 1 - (intOf i).toNat)
    case atStart => exact ⟨0, by omega, rfl, rfl⟩
    case round =>
      obtain ⟨j, hj, rfl, rfl⟩ := hrel
      by_cases hlt : j < k + 1
      · have d1 : (j : Int) < 1 + k := by omega
        have d2 : (nS 110 j).size + 1 ≤ 9223372036854775807 := by rw [nS_size]; omega
        go_wp2
        go_round
        case rel => exact ⟨j + 1, by omega, by rw [name_str], by go_num⟩
        case measure => simp [intOf]; omega
      · obtain rfl : j = k + 1 := by omega
        have d1 : ¬ ((k + 1 : Nat) : Int) < 1 + k := by omega
        have d2 : 2 + (nS 110 (k + 1)).size ≤ 9223372036854775807 := by rw [nS_size]; omega
        go_wp2_with (fail)
        refine (tokens_err HQ1.out (by rw [lead_size]; omega) _ (HE.out.lex.below H1.out)).mono ?_
        rintro e w3 ⟨p3, rfl, hp3, hb3⟩
        have H3 := Lib.hid (And.intro hp3 (bjoin H1.out hb3))
        clear hp3 hb3
        go_wp2_with (fail)
        refine (told_place _ (HE.out.hnd.below H3.out.2) H3.out.1).mono ?_
        rintro e w4 ⟨rfl, hb4⟩
        have H4 := Lib.hid (bjoin H3.out.2 hb4)
        clear hb4
        have hbase : w.heap.size ≤ w4.heap.size := H4.out.size
        go_wp2_with (first | (at_make; refine wpList_make_full _ rfl _ _ _ rfl w.heap.size 5 i0 (.int .u8 0) 1 Tryz.underlying22 HI.out.1 HI.out.2.1 HI.out.2.2.1 _ _ _ _ L rfl rfl HLEN.out HLEN.out (by rw [HI.out.2.2.2, HL.out]; omega) (by rw [HL.out]; simp only [maxLen]; omega) hbase ?_; intro w5 hown5 hgrow5; have H5 := Lib.hid (And.intro hown5 (H4.out.grown hgrow5 hbase (fun _ h => nomatch h))); clear hown5 hgrow5))
        obtain ⟨g, hg⟩ : ∃ g, w4.heap.size = g := ⟨_, rfl⟩
        rw [hg] at H5 ⊢
        have HG := Lib.hid (Nat.le_trans hbase (Nat.le_of_eq hg))
        clear hbase hg
        have H6 : Hid (w5.ownsRow w.heap.size 5 1 (.slice (some ⟨g, 0, none⟩) L L) L (fillC L 0)) := Lib.hid (by
          have h := H5.out.1
          rw [Nat.mul_one, show (Value.int .u8 0).cells = #[.int .u8 0] from rfl, toList_madeCells_one] at h
          simpa [fillC] using h)
        go_loopw [10] (fun i wr => ∃ j : Nat, j ≤ L ∧ i = .int .i64 j ∧ Hid (wr.ownsRow w.heap.size 5 1 (.slice (some ⟨g, 0, none⟩) L L) L (fillC L j)) ∧ Hid (Below w.heap.size w wr)) (fun i _ => L - (intOf i).toNat)
        case atStart => exact ⟨0, by omega, rfl, H6, Lib.hid H5.out.2⟩
        case round =>
          clear H6 H5
          obtain ⟨j, hj, rfl, HO, HB⟩ := hrel
          obtain ⟨WR, rfl⟩ : ∃ WR, WR = wr := ⟨_, rfl⟩
          by_cases hlt : j < L
          · have q1 : (j : Int) < L := by omega
            have q0 : (0 : Int) ≤ j := by omega
            have qc : WR.cell? ⟨g, j, none⟩ = some (.int .u8 0) := (HO.out.cellAt j (by omega)).trans (fillC_get L j hlt)
            have qf : WR.frozen? ⟨g, j, none⟩ = false := HO.out.frozenAt j
            go_wp2
            go_roundw
            case rel =>
              have h := (HO.out.stored j (.int .u8 32)).1
              rw [fillC_set L j hlt] at h
              exact ⟨j + 1, by omega, by go_num, Lib.hid h, Lib.hid (HB.out.setCell HG.out _)⟩
            case measure => simp [intOf]; omega
          · have qn : ¬ (j : Int) < L := by omega
            have hjl : j = L := by omega
            have kc := conv_blanks (by rw [hjl] at HO; exact HO.out)
            clear hjl
            go_wp2_with (fail)
            refine (tokens_err HQ2.out (by rw [nS_size, HL.out]; omega) _ (HE.out.lex.below HB.out)).mono ?_
            rintro e w6 ⟨p6, rfl, hp6, hb6⟩
            have H7 := Lib.hid (And.intro hp6 (bjoin HB.out hb6))
            clear hp6 hb6
            go_wp2_with (fail)
            refine (told_place _ (HE.out.hnd.below H7.out.2) H7.out.1).mono ?_
            rintro e w7 ⟨rfl, hb7⟩
            have H8 := Lib.hid (bjoin H7.out.2 hb7)
            clear hb7
            go_wp2
            go_ret
            exact ⟨rfl, H8.out⟩
  · by_cases h29 : 29 < k
    · obtain ⟨ts, hts⟩ := name_good hk60 h31
      have HTP := Lib.hid (lTokens_pos hts)
      have HQ1 : Hid (lTokens ((⟨#[59, 32]⟩ : ByteArray) ++ nS 110 (k + 1)).data.toList false = .ok ts) := Lib.hid (by rw [lead_data]; exact hts)
      clear hts
      have HQ2 : Hid (lTokens (nS 32 L).data.toList true = .error (65536, 121)) := Lib.hid (by rw [nS_data, hbl, if_pos (by omega)])
      have c1 : ¬ (32 : Int) < 1 + k := by omega
      have c2 : (65536 : Int) < L := by omega
      have c3 : (L : Int) ≤ 65566 := by omega
      clear hbl hL
      go_enter Tryz.func7, Tryz.ntmps7
      go_wp2_with (first | (go_at_call 8; refine (known_at _ HE.out).mono ?_; rintro e w1 ⟨rfl, hb1⟩; have H1 := Lib.hid hb1; clear hb1) | (go_at_call 13; refine (HP.out _).mono ?_; rintro e w2 ⟨rfl, rfl⟩; rw [HK.out]))
      go_loop [3, 4] (fun nm i => ∃ j : Nat, j ≤ k + 1 ∧ nm = .string (nS 110 j) ∧ i = .int .i64 j) (fun nm i => k + 1 - (intOf i).toNat)
      case atStart => exact ⟨0, by omega, rfl, rfl⟩
      case round =>
        obtain ⟨j, hj, rfl, rfl⟩ := hrel
        by_cases hlt : j < k + 1
        · have d1 : (j : Int) < 1 + k := by omega
          have d2 : (nS 110 j).size + 1 ≤ 9223372036854775807 := by rw [nS_size]; omega
          go_wp2
          go_round
          case rel => exact ⟨j + 1, by omega, by rw [name_str], by go_num⟩
          case measure => simp [intOf]; omega
        · obtain rfl : j = k + 1 := by omega
          have d1 : ¬ ((k + 1 : Nat) : Int) < 1 + k := by omega
          have d2 : 2 + (nS 110 (k + 1)).size ≤ 9223372036854775807 := by rw [nS_size]; omega
          go_wp2_with (fail)
          refine (tokens_ok HQ1.out HTP.out (by rw [lead_size]; omega) _ (HE.out.lex.below H1.out)).mono ?_
          rintro e w3 ⟨g3, cap3, rfl, hc3, hb3⟩
          have H4 := Lib.hid (bjoin H1.out hb3)
          clear hc3 hb3
          go_wp2_with (fail)
          refine (told_nil _).mono ?_
          rintro e w4 ⟨rfl, rfl⟩
          have hbase : w.heap.size ≤ w3.heap.size := H4.out.size
          go_wp2_with (first | (at_make; refine wpList_make_full _ rfl _ _ _ rfl w.heap.size 5 i0 (.int .u8 0) 1 Tryz.underlying22 HI.out.1 HI.out.2.1 HI.out.2.2.1 _ _ _ _ L rfl rfl HLEN.out HLEN.out (by rw [HI.out.2.2.2, HL.out]; omega) (by rw [HL.out]; simp only [maxLen]; omega) hbase ?_; intro w5 hown5 hgrow5; have H5 := Lib.hid (And.intro hown5 (H4.out.grown hgrow5 hbase (fun _ h => nomatch h))); clear hown5 hgrow5))
          obtain ⟨g, hg⟩ : ∃ g, w3.heap.size = g := ⟨_, rfl⟩
          rw [hg] at H5 ⊢
          have HG := Lib.hid (Nat.le_trans hbase (Nat.le_of_eq hg))
          clear hbase hg
          have H6 : Hid (w5.ownsRow w.heap.size 5 1 (.slice (some ⟨g, 0, none⟩) L L) L (fillC L 0)) := Lib.hid (by
            have h := H5.out.1
            rw [Nat.mul_one, show (Value.int .u8 0).cells = #[.int .u8 0] from rfl, toList_madeCells_one] at h
            simpa [fillC] using h)
          go_loopw [10] (fun i wr => ∃ j : Nat, j ≤ L ∧ i = .int .i64 j ∧ Hid (wr.ownsRow w.heap.size 5 1 (.slice (some ⟨g, 0, none⟩) L L) L (fillC L j)) ∧ Hid (Below w.heap.size w wr)) (fun i _ => L - (intOf i).toNat)
          case atStart => exact ⟨0, by omega, rfl, H6, Lib.hid H5.out.2⟩
          case round =>
            clear H6 H5
            obtain ⟨j, hj, rfl, HO, HB⟩ := hrel
            obtain ⟨WR, rfl⟩ : ∃ WR, WR = wr := ⟨_, rfl⟩
            by_cases hlt : j < L
            · have q1 : (j : Int) < L := by omega
              have q0 : (0 : Int) ≤ j := by omega
              have qc : WR.cell? ⟨g, j, none⟩ = some (.int .u8 0) := (HO.out.cellAt j (by omega)).trans (fillC_get L j hlt)
              have qf : WR.frozen? ⟨g, j, none⟩ = false := HO.out.frozenAt j
              go_wp2
              go_roundw
              case rel =>
                have h := (HO.out.stored j (.int .u8 32)).1
                rw [fillC_set L j hlt] at h
                exact ⟨j + 1, by omega, by go_num, Lib.hid h, Lib.hid (HB.out.setCell HG.out _)⟩
              case measure => simp [intOf]; omega
            · have qn : ¬ (j : Int) < L := by omega
              have hjl : j = L := by omega
              have kc := conv_blanks (by rw [hjl] at HO; exact HO.out)
              clear hjl
              go_wp2_with (fail)
              refine (tokens_err HQ2.out (by rw [nS_size, HL.out]; omega) _ (HE.out.lex.below HB.out)).mono ?_
              rintro e w6 ⟨p6, rfl, hp6, hb6⟩
              have H7 := Lib.hid (And.intro hp6 (bjoin HB.out hb6))
              clear hp6 hb6
              go_wp2_with (fail)
              refine (told_place _ (HE.out.hnd.below H7.out.2) H7.out.1).mono ?_
              rintro e w7 ⟨rfl, hb7⟩
              have H8 := Lib.hid (bjoin H7.out.2 hb7)
              clear hb7
              go_wp2
              go_ret
              exact ⟨rfl, H8.out⟩
    · obtain ⟨ts, hts⟩ := name_good hk60 h31
      have HTP := Lib.hid (lTokens_pos hts)
      have HQ1 : Hid (lTokens ((⟨#[59, 32]⟩ : ByteArray) ++ nS 110 (k + 1)).data.toList false = .ok ts) := Lib.hid (by rw [lead_data]; exact hts)
      clear hts
      have HQ2 : Hid (lTokens (nS 32 L).data.toList true = .ok [⟨0, 0, 0, [], L⟩]) := Lib.hid (by rw [nS_data, hbl, if_neg (by omega)])
      have c1 : ¬ (32 : Int) < 1 + k := by omega
      have c2 : ¬ (65536 : Int) < L := by omega
      have c3 : (L : Int) ≤ 65566 := by omega
      clear hbl hL
      go_enter Tryz.func7, Tryz.ntmps7
      go_wp2_with (first | (go_at_call 8; refine (known_at _ HE.out).mono ?_; rintro e w1 ⟨rfl, hb1⟩; have H1 := Lib.hid hb1; clear hb1) | (go_at_call 13; refine (HP.out _).mono ?_; rintro e w2 ⟨rfl, rfl⟩; rw [HK.out]))
      go_loop [3, 4] (fun nm i => ∃ j : Nat, j ≤ k + 1 ∧ nm = .string (nS 110 j) ∧ i = .int .i64 j) (fun nm i => k + 1 - (intOf i).toNat)
      case atStart => exact ⟨0, by omega, rfl, rfl⟩
      case round =>
        obtain ⟨j, hj, rfl, rfl⟩ := hrel
        by_cases hlt : j < k + 1
        · have d1 : (j : Int) < 1 + k := by omega
          have d2 : (nS 110 j).size + 1 ≤ 9223372036854775807 := by rw [nS_size]; omega
          go_wp2
          go_round
          case rel => exact ⟨j + 1, by omega, by rw [name_str], by go_num⟩
          case measure => simp [intOf]; omega
        · obtain rfl : j = k + 1 := by omega
          have d1 : ¬ ((k + 1 : Nat) : Int) < 1 + k := by omega
          have d2 : 2 + (nS 110 (k + 1)).size ≤ 9223372036854775807 := by rw [nS_size]; omega
          go_wp2_with (fail)
          refine (tokens_ok HQ1.out HTP.out (by rw [lead_size]; omega) _ (HE.out.lex.below H1.out)).mono ?_
          rintro e w3 ⟨g3, cap3, rfl, hc3, hb3⟩
          have H4 := Lib.hid (bjoin H1.out hb3)
          clear hc3 hb3
          go_wp2_with (fail)
          refine (told_nil _).mono ?_
          rintro e w4 ⟨rfl, rfl⟩
          have hbase : w.heap.size ≤ w3.heap.size := H4.out.size
          go_wp2_with (first | (at_make; refine wpList_make_full _ rfl _ _ _ rfl w.heap.size 5 i0 (.int .u8 0) 1 Tryz.underlying22 HI.out.1 HI.out.2.1 HI.out.2.2.1 _ _ _ _ L rfl rfl HLEN.out HLEN.out (by rw [HI.out.2.2.2, HL.out]; omega) (by rw [HL.out]; simp only [maxLen]; omega) hbase ?_; intro w5 hown5 hgrow5; have H5 := Lib.hid (And.intro hown5 (H4.out.grown hgrow5 hbase (fun _ h => nomatch h))); clear hown5 hgrow5))
          obtain ⟨g, hg⟩ : ∃ g, w3.heap.size = g := ⟨_, rfl⟩
          rw [hg] at H5 ⊢
          have HG := Lib.hid (Nat.le_trans hbase (Nat.le_of_eq hg))
          clear hbase hg
          have H6 : Hid (w5.ownsRow w.heap.size 5 1 (.slice (some ⟨g, 0, none⟩) L L) L (fillC L 0)) := Lib.hid (by
            have h := H5.out.1
            rw [Nat.mul_one, show (Value.int .u8 0).cells = #[.int .u8 0] from rfl, toList_madeCells_one] at h
            simpa [fillC] using h)
          go_loopw [10] (fun i wr => ∃ j : Nat, j ≤ L ∧ i = .int .i64 j ∧ Hid (wr.ownsRow w.heap.size 5 1 (.slice (some ⟨g, 0, none⟩) L L) L (fillC L j)) ∧ Hid (Below w.heap.size w wr)) (fun i _ => L - (intOf i).toNat)
          case atStart => exact ⟨0, by omega, rfl, H6, Lib.hid H5.out.2⟩
          case round =>
            clear H6 H5
            obtain ⟨j, hj, rfl, HO, HB⟩ := hrel
            obtain ⟨WR, rfl⟩ : ∃ WR, WR = wr := ⟨_, rfl⟩
            by_cases hlt : j < L
            · have q1 : (j : Int) < L := by omega
              have q0 : (0 : Int) ≤ j := by omega
              have qc : WR.cell? ⟨g, j, none⟩ = some (.int .u8 0) := (HO.out.cellAt j (by omega)).trans (fillC_get L j hlt)
              have qf : WR.frozen? ⟨g, j, none⟩ = false := HO.out.frozenAt j
              go_wp2
              go_roundw
              case rel =>
                have h := (HO.out.stored j (.int .u8 32)).1
                rw [fillC_set L j hlt] at h
                exact ⟨j + 1, by omega, by go_num, Lib.hid h, Lib.hid (HB.out.setCell HG.out _)⟩
              case measure => simp [intOf]; omega
            · have qn : ¬ (j : Int) < L := by omega
              have hjl : j = L := by omega
              have kc := conv_blanks (by rw [hjl] at HO; exact HO.out)
              clear hjl
              go_wp2_with (fail)
              refine (tokens_ok HQ2.out (by simp) (by rw [nS_size, HL.out]; omega) _ (HE.out.lex.below HB.out)).mono ?_
              rintro e w6 ⟨g6, cap6, rfl, hc6, hb6⟩
              have q4 := hc6 4 _ rfl
              have H7 := Lib.hid (bjoin HB.out hb6)
              clear hc6 hb6
              go_wp2_with (fail)
              refine (told_nil _).mono ?_
              rintro e w7 ⟨rfl, rfl⟩
              have q5 : ((L : Int) == L) = true := by simp
              go_wp2
              go_ret
              exact ⟨rfl, H7.out⟩
end Go.Proofs.YtfllgaoknigbnaaGreatDoor
