/- The walk through package lex's span2: times. -/
import Derived.Test.YtdabnnganponpaaGreatDoorLexP3
namespace Go.Proofs.YtdabnnganponpaaGreatDoor
open Go.RowKit Lx Ad

def W3 (w : World) : World := ((w.alloc (.cells #[.int .i64 0, .int .i64 0, .int .i64 0, .string ⟨#[]⟩, .int .i64 0] 31)).alloc (.cells #[.string ⟨#[100]⟩, .string ⟨#[104]⟩, .string ⟨#[109]⟩, .string ⟨#[115]⟩, .string ⟨#[109, 115]⟩] 9)).alloc (.cells #[.int .i64 86400000, .int .i64 3600000, .int .i64 60000, .int .i64 1000, .int .i64 1] 2)
theorem W3_size (w : World) : (W3 w).heap.size = w.heap.size + 3 := by simp [W3]
theorem W3_below (w : World) : Below w.heap.size w (W3 w) :=
  (((Below.refl _ _).alloc (Nat.le_refl _) _).alloc (by simp) _).alloc (by simp; omega) _
theorem W3_units (w : World) (j : Nat) (hj : j < 5) : (W3 w).cell? ⟨w.heap.size + 1, j, none⟩ = some (.string ⟨(unitS j).toArray⟩) := by
  have h : j = 0 ∨ j = 1 ∨ j = 2 ∨ j = 3 ∨ j = 4 := by omega
  unfold W3
  rw [World.cell?_alloc_past _ _ _ (by simp), World.cell?_alloc_at _ _ _ _ (by simp)]
  rcases h with rfl | rfl | rfl | rfl | rfl <;> rfl
theorem W3_ms (w : World) (j : Nat) (hj : j < 5) : (W3 w).cell? ⟨w.heap.size + 2, j, none⟩ = some (.int .i64 (unitMs j)) := by
  have h : j = 0 ∨ j = 1 ∨ j = 2 ∨ j = 3 ∨ j = 4 := by omega
  unfold W3
  rw [World.cell?_alloc_at _ _ _ _ (by simp)]
  rcases h with rfl | rfl | rfl | rfl | rfl <;> rfl
theorem W3_tok (w : World) : (W3 w).heap[w.heap.size]? = some (.cells #[.int .i64 0, .int .i64 0, .int .i64 0, .string ⟨#[]⟩, .int .i64 0] 31) := by
  unfold W3
  show (((w.heap.push _).push _).push _)[w.heap.size]? = _
  rw [Array.getElem?_push, if_neg (by simp; omega), Array.getElem?_push, if_neg (by simp), Array.getElem?_push_size]

/-- The inner loop's state. -/
def UnitAt (rest : List UInt8) (z : Nat) (K : Int) (i : Nat) (k : Int) : Prop := (if z = 0 then k else unitFrom rest (5 - i) i k) = K
theorem UnitAt.step {rest : List UInt8} {z : Nat} {K : Int} {i : Nat} {k : Int} (h : UnitAt rest z K i k) (hz : 0 < z) (hi : i < 5) :
    UnitAt rest z K (i + 1) (if Lib.hasPrefix rest (unitS i) = true then (i : Int) else k) := by
  unfold UnitAt at h ⊢
  rw [if_neg (by omega)] at h ⊢
  rw [show 5 - i = (5 - (i + 1)) + 1 by omega, unitFrom] at h
  exact h
theorem UnitAt.over {rest : List UInt8} {z : Nat} {K : Int} {i : Nat} {k : Int} (h : UnitAt rest z K i k) (hi : z = 0 ∨ 5 ≤ i) : K = k := by
  unfold UnitAt at h
  split at h
  · exact h.symm
  · rw [show 5 - i = 0 by omega, unitFrom] at h; exact h.symm

def TimesAt (l : List UInt8) (t : Nat × Int × Nat) (f a : Nat) (n : Int) (nx : Nat) : Prop := times l f a n nx = t
theorem TimesAt.stop {l : List UInt8} {t : Nat × Int × Nat} {f a nx z : Nat} {n m : Int} (h : TimesAt l t (f + 1) a n nx) (hd : digits (l.drop a) 10 = (m, z)) (hk : unitOf (l.drop (a + z)) nx z < 0) :
    t = (a, n, nx) := by
  unfold TimesAt at h; simp only [times, hd] at h; rw [if_pos hk] at h; exact h.symm
theorem TimesAt.step {l : List UInt8} {t : Nat × Int × Nat} {f a nx z : Nat} {n m : Int} (h : TimesAt l t (f + 1) a n nx) (hd : digits (l.drop a) 10 = (m, z)) {j : Nat} (hk : unitOf (l.drop (a + z)) nx z = j) :
    TimesAt l t f (a + z + (unitS j).length) (timeStep n m j) (j + 1) := by
  unfold TimesAt at h ⊢; simp only [times, hd] at h; rw [if_neg (by rw [hk]; omega), hk] at h; exact h
theorem TimesAt.end5 {l : List UInt8} {t : Nat × Int × Nat} {f a : Nat} {n : Int} (h : TimesAt l t f a n 5) : t = (a, n, 5) := by
  unfold TimesAt at h
  cases f with
  | zero => exact h.symm
  | succ f =>
    simp only [times] at h
    rw [if_pos (by unfold unitOf; split <;> simp [unitFrom])] at h
    exact h.symm

theorem tokS0 {w w1 w2 : World} (h : w1.heap[w.heap.size]? = some (.cells #[.int .i64 0, .int .i64 0, .int .i64 0, .string ⟨#[]⟩, .int .i64 0] 31)) (hb : Below w.heap.size w w1) (hb2 : Below w1.heap.size w1 w2) :
    w2.heap[w.heap.size]? = some (.cells #[.int .i64 0, .int .i64 0, .int .i64 0, .string ⟨#[]⟩, .int .i64 0] 31) ∧ Below w.heap.size w w2 := ⟨blk_stays h hb2, btr hb hb2⟩

set_option maxRecDepth 100000 in
set_option maxHeartbeats 8000000 in
theorem span2_pos {s : ByteArray} {at_ : Nat} {r : Tok × Nat × Int} (hp : Lib.hasPrefix (s.data.toList.drop at_) [45] = false) (hr : lTime 1 (times s.data.toList 5 at_ 0 0) = r) (hat : at_ ≤ s.size) (hs : s.size ≤ 140737488351232) (w : World) :
    Calls Tryz.prog 38 #[.string s, .int .i64 at_] w fun e w' => e = tokR r ∧ Below w.heap.size w w' := by
  have HP : Hid (Lib.hasPrefix (s.extract at_ s.size).data.toList [45] = false) := Lib.hid (by rw [ext_drop]; exact hp)
  obtain ⟨t, ht⟩ : ∃ t, times s.data.toList 5 at_ 0 0 = t := ⟨_, rfl⟩
  have HT0 : Hid (TimesAt s.data.toList t 5 at_ 0 0) := Lib.hid ht
  have HRT : Hid (lTime 1 t = r) := Lib.hid (by rw [← ht]; exact hr)
  clear hp hr ht
  go_enter Tryz.func38, Tryz.ntmps38
  go_wp2_with (go_at_call 16; refine (hasPrefix_any _ _ _).mono ?_; rintro e w1 ⟨rfl, rfl⟩; rw [HP.out])
  have HU := Lib.hid (W3_units w)
  have HMs := Lib.hid (W3_ms w)
  have H0 := Lib.hid (W3_tok w)
  have HB0 := Lib.hid (W3_below w)
  obtain ⟨W0, hW0⟩ : ∃ W0, W0 = W3 w := ⟨_, rfl⟩
  rw [← hW0] at HU HMs H0 HB0
  have hW0' : W0 = ((w.alloc (.cells #[.int .i64 0, .int .i64 0, .int .i64 0, .string ⟨#[]⟩, .int .i64 0] 31)).alloc (.cells #[.string ⟨#[100]⟩, .string ⟨#[104]⟩, .string ⟨#[109]⟩, .string ⟨#[115]⟩, .string ⟨#[109, 115]⟩] 9)).alloc (.cells #[.int .i64 86400000, .int .i64 3600000, .int .i64 60000, .int .i64 1000, .int .i64 1] 2) := hW0
  rw [← hW0']
  clear hW0 hW0' HP
  go_loopw [1, 10, 11] (fun aa n nn wr => ∃ (a nx f : Nat) (acc : Int), a ≤ s.size ∧ nx ≤ 5 ∧ 5 ≤ f + nx ∧ 0 ≤ acc ∧ acc ≤ 1099511627776 ∧ aa = .int .i64 a ∧ n = .int .i64 acc ∧ nn = .int .i64 nx ∧ Hid (TimesAt s.data.toList t f a acc nx) ∧ ∃ nd, wr = W0.drewN nd) (fun aa n nn _ => 5 - (intOf nn).toNat)
  case atStart => exact ⟨at_, 0, 5, 0, hat, by omega, by omega, by omega, by omega, rfl, rfl, rfl, HT0, 0, rfl⟩
  case round =>
    clear HT0
    obtain ⟨a, nx, f, acc, ha, hnx5, hf, acc0, acc1, rfl, rfl, rfl, HD, nd, rfl⟩ := hrel
    by_cases hlt : nx < 5
    · obtain ⟨f, rfl⟩ : ∃ g, f = g + 1 := ⟨f - 1, by omega⟩
      obtain ⟨d, hd⟩ : ∃ d, digits (s.data.toList.drop a) 10 = d := ⟨_, rfl⟩
      have hdz : d.2 ≤ s.size - a := by
        rw [← hd]; have h := digits_size (s.data.toList.drop a) 10
        rw [List.length_drop] at h; exact h
      have hdn := digits_range (s.data.toList.drop a) 10 (by omega)
      rw [hd] at hdn
      obtain ⟨m, z⟩ := d
      obtain ⟨m0, m1⟩ := hdn
      replace m0 : 0 ≤ m := m0
      replace m1 : m ≤ 1099511627776 := m1
      replace hdz : z ≤ s.size - a := hdz
      have hd1 : digits (s.extract a s.size).data.toList 10 = (m, z) := by rw [ext_drop]; exact hd
      have HDg := Lib.hid hd1
      obtain ⟨K, hK⟩ : ∃ K, unitOf (s.data.toList.drop (a + z)) nx z = K := ⟨_, rfl⟩
      have hK2 := unitOf_ge hK hnx5
      have hstop : K < 0 → t = (a, acc, nx) := fun h => HD.out.stop hd (by rw [hK]; exact h)
      have hstep : ∀ j : Nat, K = j → TimesAt s.data.toList t f (a + z + (unitS j).length) (timeStep acc m j) (j + 1) := fun j hj => HD.out.step hd (by rw [hK]; exact hj)
      have hj : ¬ K < 0 → ∃ j : Nat, K = j ∧ nx ≤ j ∧ j < 5 ∧ (unitS j).length ≤ s.size - (a + z) := by
        intro h
        obtain ⟨j, h1, h2, h3, h4⟩ := unitOf_is hK hnx5 h
        rw [List.length_drop] at h4
        exact ⟨j, h1, h2, h3, h4⟩
      have hz0K : z = 0 → K = -1 := fun h => by rw [← hK]; exact if_pos h
      have HZ0 := Lib.hid hz0K
      clear hz0K
      have HST := Lib.hid hstop
      have HSP := Lib.hid hstep
      have HJ := Lib.hid hj
      obtain ⟨rest, hrest⟩ : ∃ x, x = s.extract (a + z) s.size := ⟨_, rfl⟩
      have hrl : rest.data.toList = s.data.toList.drop (a + z) := by rw [hrest, ext_drop]
      have HK : Hid (UnitAt rest.data.toList z K nx (-1)) := Lib.hid (by rw [hrl, ← hK]; rfl)
      obtain ⟨hK20, hK21⟩ := hK2
      clear HD hd hd1 hK hstop hstep hj hrl
      go_wp2_with (go_at_call 40; refine (ldigits_at HDg.out (Nat.le_trans (size_extract_le _ _ _) hs) ⟨by omega, by omega⟩ _).mono ?_; rintro e w4 ⟨rfl, rfl⟩)
      rw [← hrest]
      clear hrest HDg
      go_loop [15, 16] (fun k i => ∃ (i' : Nat) (kk : Int), nx ≤ i' ∧ i' ≤ 5 ∧ k = .int .i64 kk ∧ i = .int .i64 i' ∧ Hid (UnitAt rest.data.toList z K i' kk)) (fun k i => 5 - (intOf i).toNat)
      case atStart => exact ⟨nx, -1, by omega, by omega, rfl, rfl, HK⟩
      case round =>
        clear HK
        obtain ⟨i, kk, hi0, hi5, rfl, rfl, HUn⟩ := hrel
        by_cases hgo : i < 5 ∧ 0 < z
        · obtain ⟨hi, hz⟩ := hgo
          have hst := HUn.out.step hz hi
          have hc := HU.out i hi
          have i0 : 0 ≤ (i : Int) := by omega
          have i5 : (i : Int) < 5 := by omega
          have z0 : (0 : Int) < z := by omega
          obtain ⟨b, hb⟩ : ∃ b, Lib.hasPrefix rest.data.toList (unitS i) = b := ⟨_, rfl⟩
          rw [hb] at hst
          have HB := Lib.hid hb
          have HS2 := Lib.hid hst
          clear hb hst HUn
          cases b with
          | false =>
            go_wp2_with (go_at_call 16; refine (hasPrefix_any _ _ _).mono ?_; rintro e w1 ⟨rfl, rfl⟩; rw [HB.out])
            go_round
            case rel => exact ⟨i + 1, kk, by omega, by omega, rfl, by go_num, HS2⟩
            case measure => simp [intOf]; omega
          | true =>
            go_wp2_with (go_at_call 16; refine (hasPrefix_any _ _ _).mono ?_; rintro e w1 ⟨rfl, rfl⟩; rw [HB.out])
            go_round
            case rel => exact ⟨i + 1, i, by omega, by omega, rfl, by go_num, HS2⟩
            case measure => simp [intOf]; omega
        · have hx : (i < 5 ∧ z = 0) ∨ i = 5 := by omega
          have hKk : K = kk := HUn.out.over (by omega)
          subst hKk
          clear hgo HUn
          rcases hx with ⟨hi, hz⟩ | hi
          · have hK1 : K = -1 := HZ0.out hz
            have HT : Hid (t = (a, acc, nx)) := Lib.hid (HST.out (by omega))
            subst hK1
            subst hz
            clear HST HSP HJ HZ0
            by_cases hnx : nx = 0
            · have HR : Hid (((tok0, 0, 120) : Tok × Nat × Int) = r) := Lib.hid (by rw [← HRT.out, HT.out]; exact (if_pos hnx).symm)
              clear HRT HT
              subst hnx
              obtain ⟨c60, c61, c62, c63, c64, f60, f61, f62, f63, f64⟩ := blk5 H0.out
              go_wp2
              refine bodyPost_ret (v := .tuple #[tokV tok0, .int .i64 0, .int .i64 120]) (by simp [results, Tryz.results38, go_sem, tokV, tok0, *]) rfl ⟨?_, ?_⟩
              · exact tok_fin HR.out.symm rfl
              · go_grown
                exact HB0.out.drewN nd
            · have hnx' : ¬ ((nx : Int) = 0) := by omega
              obtain ⟨wv, hwv⟩ : ∃ wv, kWrap 11 acc = wv := ⟨_, rfl⟩
              have HW : Hid (∀ w, Calls Tryz.prog 63 #[.int .i64 11, .int .i64 acc] w fun e w' => e = .returned (.int .i64 wv) ∧ Below w.heap.size w w') := Lib.hid (by intro w; have := wrap_k11 acc ⟨by omega, by omega⟩ w; rw [hwv] at this; exact this)
              have HR : Hid ((if acc = wv then ((⟨4, 11, acc, [], 0⟩ : Tok), a, (0 : Int)) else (tok0, 0, 163)) = r) := Lib.hid (by
                rw [← HRT.out, HT.out]
                show _ = if nx = 0 then _ else _
                rw [if_neg hnx, show acc * 1 = acc by omega, hwv])
              clear hwv HRT HT
              by_cases hE : acc = wv
              · have HE := Lib.hid hE
                subst hE
                go_wp2_with (go_at_call 63; refine (HW.out _).mono ?_; rintro e w6 ⟨rfl, hb6⟩; have hk6 := tokS0 (w1 := W0.drewN nd) H0.out (HB0.out.drewN nd) hb6; obtain ⟨c60, c61, c62, c63, c64, f60, f61, f62, f63, f64⟩ := blk5 hk6.1; have HB := Lib.hid hk6.2; clear hk6 hb6)
                refine bodyPost_ret (v := .tuple #[tokV ⟨4, 11, acc, [], 0⟩, .int .i64 (a : Int), .int .i64 0]) (by simp [results, Tryz.results38, go_sem, tokV, *]) rfl ⟨?_, ?_⟩
                · exact tok_fin (HR.out.symm.trans (if_pos HE.out)) rfl
                · go_grown
                  exact HB.out
              · have HE := Lib.hid hE
                go_wp2_with (go_at_call 63; refine (HW.out _).mono ?_; rintro e w6 ⟨rfl, hb6⟩; have hk6 := tokS0 (w1 := W0.drewN nd) H0.out (HB0.out.drewN nd) hb6; obtain ⟨c60, c61, c62, c63, c64, f60, f61, f62, f63, f64⟩ := blk5 hk6.1; have HB := Lib.hid hk6.2; clear hk6 hb6)
                refine bodyPost_ret (v := .tuple #[tokV tok0, .int .i64 0, .int .i64 163]) (by simp [results, Tryz.results38, go_sem, tokV, tok0, *]) rfl ⟨?_, ?_⟩
                · exact tok_fin (HR.out.symm.trans (if_neg HE.out)) rfl
                · go_grown
                  exact HB.out

          · subst hi
            by_cases hKn : K < 0
            · have HT : Hid (t = (a, acc, nx)) := Lib.hid (HST.out hKn)
              clear HST HSP HJ HZ0
              by_cases hnx : nx = 0
              · have HR : Hid (((tok0, 0, 120) : Tok × Nat × Int) = r) := Lib.hid (by rw [← HRT.out, HT.out]; exact (if_pos hnx).symm)
                clear HRT HT
                subst hnx
                obtain ⟨c60, c61, c62, c63, c64, f60, f61, f62, f63, f64⟩ := blk5 H0.out
                go_wp2
                refine bodyPost_ret (v := .tuple #[tokV tok0, .int .i64 0, .int .i64 120]) (by simp [results, Tryz.results38, go_sem, tokV, tok0, *]) rfl ⟨?_, ?_⟩
                · exact tok_fin HR.out.symm rfl
                · go_grown
                  exact HB0.out.drewN nd
              · have hnx' : ¬ ((nx : Int) = 0) := by omega
                obtain ⟨wv, hwv⟩ : ∃ wv, kWrap 11 acc = wv := ⟨_, rfl⟩
                have HW : Hid (∀ w, Calls Tryz.prog 63 #[.int .i64 11, .int .i64 acc] w fun e w' => e = .returned (.int .i64 wv) ∧ Below w.heap.size w w') := Lib.hid (by intro w; have := wrap_k11 acc ⟨by omega, by omega⟩ w; rw [hwv] at this; exact this)
                have HR : Hid ((if acc = wv then ((⟨4, 11, acc, [], 0⟩ : Tok), a, (0 : Int)) else (tok0, 0, 163)) = r) := Lib.hid (by
                  rw [← HRT.out, HT.out]
                  show _ = if nx = 0 then _ else _
                  rw [if_neg hnx, show acc * 1 = acc by omega, hwv])
                clear hwv HRT HT
                by_cases hE : acc = wv
                · have HE := Lib.hid hE
                  subst hE
                  go_wp2_with (go_at_call 63; refine (HW.out _).mono ?_; rintro e w6 ⟨rfl, hb6⟩; have hk6 := tokS0 (w1 := W0.drewN nd) H0.out (HB0.out.drewN nd) hb6; obtain ⟨c60, c61, c62, c63, c64, f60, f61, f62, f63, f64⟩ := blk5 hk6.1; have HB := Lib.hid hk6.2; clear hk6 hb6)
                  refine bodyPost_ret (v := .tuple #[tokV ⟨4, 11, acc, [], 0⟩, .int .i64 (a : Int), .int .i64 0]) (by simp [results, Tryz.results38, go_sem, tokV, *]) rfl ⟨?_, ?_⟩
                  · exact tok_fin (HR.out.symm.trans (if_pos HE.out)) rfl
                  · go_grown
                    exact HB.out
                · have HE := Lib.hid hE
                  go_wp2_with (go_at_call 63; refine (HW.out _).mono ?_; rintro e w6 ⟨rfl, hb6⟩; have hk6 := tokS0 (w1 := W0.drewN nd) H0.out (HB0.out.drewN nd) hb6; obtain ⟨c60, c61, c62, c63, c64, f60, f61, f62, f63, f64⟩ := blk5 hk6.1; have HB := Lib.hid hk6.2; clear hk6 hb6)
                  refine bodyPost_ret (v := .tuple #[tokV tok0, .int .i64 0, .int .i64 163]) (by simp [results, Tryz.results38, go_sem, tokV, tok0, *]) rfl ⟨?_, ?_⟩
                  · exact tok_fin (HR.out.symm.trans (if_neg HE.out)) rfl
                  · go_grown
                    exact HB.out

            · obtain ⟨j, rfl, hj0, hj5, hj6⟩ := HJ.out (by omega)
              have hst := HSP.out j rfl
              clear HST HSP HJ HZ0
              have hj : j = 0 ∨ j = 1 ∨ j = 2 ∨ j = 3 ∨ j = 4 := by omega
              rcases hj with rfl | rfl | rfl | rfl | rfl
              all_goals
                have u1 := HU.out _ hj5
                have u2 := HMs.out _ hj5
                simp only [unitS, unitMs, timeStep, List.length_cons, List.length_nil, Int.reduceDiv, Int.reduceAdd, Nat.reduceAdd, Int.mul_one] at u1 u2 hst hj6
                have HS3 := Lib.hid hst
                clear hst
                go_wp2
                go_quiet (fail)
                go_wp2
                go_roundw
                case rel =>
                  refine ⟨_, _, f, _, ?_, ?_, ?_, ?_, ?_, ?_, rfl, ?_, HS3, _, rfl⟩
                  · omega
                  · omega
                  · omega
                  · omega
                  · omega
                  · go_num
                  · go_num
                case measure => simp [intOf]; omega
    · obtain rfl : nx = 5 := by omega
      have HT0 : t = (a, acc, 5) := HD.out.end5
      obtain ⟨nx, hnx⟩ : ∃ x, x = 5 := ⟨_, rfl⟩
      rw [← hnx] at HT0 ⊢
      have HT := Lib.hid HT0
      clear HD HT0
      have hnx : ¬ nx = 0 := by omega
      have hnx' : ¬ ((nx : Int) = 0) := by omega
      obtain ⟨wv, hwv⟩ : ∃ wv, kWrap 11 acc = wv := ⟨_, rfl⟩
      have HW : Hid (∀ w, Calls Tryz.prog 63 #[.int .i64 11, .int .i64 acc] w fun e w' => e = .returned (.int .i64 wv) ∧ Below w.heap.size w w') := Lib.hid (by intro w; have := wrap_k11 acc ⟨by omega, by omega⟩ w; rw [hwv] at this; exact this)
      have HR : Hid ((if acc = wv then ((⟨4, 11, acc, [], 0⟩ : Tok), a, (0 : Int)) else (tok0, 0, 163)) = r) := Lib.hid (by
        rw [← HRT.out, HT.out]
        show _ = if nx = 0 then _ else _
        rw [if_neg hnx, show acc * 1 = acc by omega, hwv])
      clear hwv HRT HT
      by_cases hE : acc = wv
      · have HE := Lib.hid hE
        subst hE
        go_wp2_with (go_at_call 63; refine (HW.out _).mono ?_; rintro e w6 ⟨rfl, hb6⟩; have hk6 := tokS0 (w1 := W0.drewN nd) H0.out (HB0.out.drewN nd) hb6; obtain ⟨c60, c61, c62, c63, c64, f60, f61, f62, f63, f64⟩ := blk5 hk6.1; have HB := Lib.hid hk6.2; clear hk6 hb6)
        refine bodyPost_ret (v := .tuple #[tokV ⟨4, 11, acc, [], 0⟩, .int .i64 (a : Int), .int .i64 0]) (by simp [results, Tryz.results38, go_sem, tokV, *]) rfl ⟨?_, ?_⟩
        · exact tok_fin (HR.out.symm.trans (if_pos HE.out)) rfl
        · go_grown
          exact HB.out
      · have HE := Lib.hid hE
        go_wp2_with (go_at_call 63; refine (HW.out _).mono ?_; rintro e w6 ⟨rfl, hb6⟩; have hk6 := tokS0 (w1 := W0.drewN nd) H0.out (HB0.out.drewN nd) hb6; obtain ⟨c60, c61, c62, c63, c64, f60, f61, f62, f63, f64⟩ := blk5 hk6.1; have HB := Lib.hid hk6.2; clear hk6 hb6)
        refine bodyPost_ret (v := .tuple #[tokV tok0, .int .i64 0, .int .i64 163]) (by simp [results, Tryz.results38, go_sem, tokV, tok0, *]) rfl ⟨?_, ?_⟩
        · exact tok_fin (HR.out.symm.trans (if_neg HE.out)) rfl
        · go_grown
          exact HB.out
set_option maxRecDepth 100000 in
set_option maxHeartbeats 8000000 in
theorem span2_neg {s : ByteArray} {at_ : Nat} {r : Tok × Nat × Int} (hp : Lib.hasPrefix (s.data.toList.drop at_) [45] = true) (hr : lTime (-1) (times s.data.toList 5 (at_ + 1) 0 0) = r) (hat : at_ ≤ s.size) (hs : s.size ≤ 140737488351232) (w : World) :
    Calls Tryz.prog 38 #[.string s, .int .i64 at_] w fun e w' => e = tokR r ∧ Below w.heap.size w w' := by
  have hat1 : at_ + 1 ≤ s.size := by
    have h := prefix_len hp
    rw [List.length_drop] at h
    have : s.data.toList.length = s.size := rfl
    simp at h; omega
  have HP : Hid (Lib.hasPrefix (s.extract at_ s.size).data.toList [45] = true) := Lib.hid (by rw [ext_drop]; exact hp)
  obtain ⟨t, ht⟩ : ∃ t, times s.data.toList 5 (at_ + 1) 0 0 = t := ⟨_, rfl⟩
  have HT0 : Hid (TimesAt s.data.toList t 5 (at_ + 1) 0 0) := Lib.hid ht
  have HRT : Hid (lTime (-1) t = r) := Lib.hid (by rw [← ht]; exact hr)
  clear hp hr ht
  go_enter Tryz.func38, Tryz.ntmps38
  go_wp2_with (go_at_call 16; refine (hasPrefix_any _ _ _).mono ?_; rintro e w1 ⟨rfl, rfl⟩; rw [HP.out])
  have HU := Lib.hid (W3_units w)
  have HMs := Lib.hid (W3_ms w)
  have H0 := Lib.hid (W3_tok w)
  have HB0 := Lib.hid (W3_below w)
  obtain ⟨W0, hW0⟩ : ∃ W0, W0 = W3 w := ⟨_, rfl⟩
  rw [← hW0] at HU HMs H0 HB0
  have hW0' : W0 = ((w.alloc (.cells #[.int .i64 0, .int .i64 0, .int .i64 0, .string ⟨#[]⟩, .int .i64 0] 31)).alloc (.cells #[.string ⟨#[100]⟩, .string ⟨#[104]⟩, .string ⟨#[109]⟩, .string ⟨#[115]⟩, .string ⟨#[109, 115]⟩] 9)).alloc (.cells #[.int .i64 86400000, .int .i64 3600000, .int .i64 60000, .int .i64 1000, .int .i64 1] 2) := hW0
  rw [← hW0']
  clear hW0 hW0' HP
  go_loopw [1, 10, 11] (fun aa n nn wr => ∃ (a nx f : Nat) (acc : Int), a ≤ s.size ∧ nx ≤ 5 ∧ 5 ≤ f + nx ∧ 0 ≤ acc ∧ acc ≤ 1099511627776 ∧ aa = .int .i64 a ∧ n = .int .i64 acc ∧ nn = .int .i64 nx ∧ Hid (TimesAt s.data.toList t f a acc nx) ∧ ∃ nd, wr = W0.drewN nd) (fun aa n nn _ => 5 - (intOf nn).toNat)
  case atStart => exact ⟨(at_ + 1), 0, 5, 0, hat1, by omega, by omega, by omega, by omega, by go_num, rfl, rfl, HT0, 0, rfl⟩
  case round =>
    clear HT0
    obtain ⟨a, nx, f, acc, ha, hnx5, hf, acc0, acc1, rfl, rfl, rfl, HD, nd, rfl⟩ := hrel
    by_cases hlt : nx < 5
    · obtain ⟨f, rfl⟩ : ∃ g, f = g + 1 := ⟨f - 1, by omega⟩
      obtain ⟨d, hd⟩ : ∃ d, digits (s.data.toList.drop a) 10 = d := ⟨_, rfl⟩
      have hdz : d.2 ≤ s.size - a := by
        rw [← hd]; have h := digits_size (s.data.toList.drop a) 10
        rw [List.length_drop] at h; exact h
      have hdn := digits_range (s.data.toList.drop a) 10 (by omega)
      rw [hd] at hdn
      obtain ⟨m, z⟩ := d
      obtain ⟨m0, m1⟩ := hdn
      replace m0 : 0 ≤ m := m0
      replace m1 : m ≤ 1099511627776 := m1
      replace hdz : z ≤ s.size - a := hdz
      have hd1 : digits (s.extract a s.size).data.toList 10 = (m, z) := by rw [ext_drop]; exact hd
      have HDg := Lib.hid hd1
      obtain ⟨K, hK⟩ : ∃ K, unitOf (s.data.toList.drop (a + z)) nx z = K := ⟨_, rfl⟩
      have hK2 := unitOf_ge hK hnx5
      have hstop : K < 0 → t = (a, acc, nx) := fun h => HD.out.stop hd (by rw [hK]; exact h)
      have hstep : ∀ j : Nat, K = j → TimesAt s.data.toList t f (a + z + (unitS j).length) (timeStep acc m j) (j + 1) := fun j hj => HD.out.step hd (by rw [hK]; exact hj)
      have hj : ¬ K < 0 → ∃ j : Nat, K = j ∧ nx ≤ j ∧ j < 5 ∧ (unitS j).length ≤ s.size - (a + z) := by
        intro h
        obtain ⟨j, h1, h2, h3, h4⟩ := unitOf_is hK hnx5 h
        rw [List.length_drop] at h4
        exact ⟨j, h1, h2, h3, h4⟩
      have hz0K : z = 0 → K = -1 := fun h => by rw [← hK]; exact if_pos h
      have HZ0 := Lib.hid hz0K
      clear hz0K
      have HST := Lib.hid hstop
      have HSP := Lib.hid hstep
      have HJ := Lib.hid hj
      obtain ⟨rest, hrest⟩ : ∃ x, x = s.extract (a + z) s.size := ⟨_, rfl⟩
      have hrl : rest.data.toList = s.data.toList.drop (a + z) := by rw [hrest, ext_drop]
      have HK : Hid (UnitAt rest.data.toList z K nx (-1)) := Lib.hid (by rw [hrl, ← hK]; rfl)
      obtain ⟨hK20, hK21⟩ := hK2
      clear HD hd hd1 hK hstop hstep hj hrl
      go_wp2_with (go_at_call 40; refine (ldigits_at HDg.out (Nat.le_trans (size_extract_le _ _ _) hs) ⟨by omega, by omega⟩ _).mono ?_; rintro e w4 ⟨rfl, rfl⟩)
      rw [← hrest]
      clear hrest HDg
      go_loop [15, 16] (fun k i => ∃ (i' : Nat) (kk : Int), nx ≤ i' ∧ i' ≤ 5 ∧ k = .int .i64 kk ∧ i = .int .i64 i' ∧ Hid (UnitAt rest.data.toList z K i' kk)) (fun k i => 5 - (intOf i).toNat)
      case atStart => exact ⟨nx, -1, by omega, by omega, rfl, rfl, HK⟩
      case round =>
        clear HK
        obtain ⟨i, kk, hi0, hi5, rfl, rfl, HUn⟩ := hrel
        by_cases hgo : i < 5 ∧ 0 < z
        · obtain ⟨hi, hz⟩ := hgo
          have hst := HUn.out.step hz hi
          have hc := HU.out i hi
          have i0 : 0 ≤ (i : Int) := by omega
          have i5 : (i : Int) < 5 := by omega
          have z0 : (0 : Int) < z := by omega
          obtain ⟨b, hb⟩ : ∃ b, Lib.hasPrefix rest.data.toList (unitS i) = b := ⟨_, rfl⟩
          rw [hb] at hst
          have HB := Lib.hid hb
          have HS2 := Lib.hid hst
          clear hb hst HUn
          cases b with
          | false =>
            go_wp2_with (go_at_call 16; refine (hasPrefix_any _ _ _).mono ?_; rintro e w1 ⟨rfl, rfl⟩; rw [HB.out])
            go_round
            case rel => exact ⟨i + 1, kk, by omega, by omega, rfl, by go_num, HS2⟩
            case measure => simp [intOf]; omega
          | true =>
            go_wp2_with (go_at_call 16; refine (hasPrefix_any _ _ _).mono ?_; rintro e w1 ⟨rfl, rfl⟩; rw [HB.out])
            go_round
            case rel => exact ⟨i + 1, i, by omega, by omega, rfl, by go_num, HS2⟩
            case measure => simp [intOf]; omega
        · have hx : (i < 5 ∧ z = 0) ∨ i = 5 := by omega
          have hKk : K = kk := HUn.out.over (by omega)
          subst hKk
          clear hgo HUn
          rcases hx with ⟨hi, hz⟩ | hi
          · have hK1 : K = -1 := HZ0.out hz
            have HT : Hid (t = (a, acc, nx)) := Lib.hid (HST.out (by omega))
            subst hK1
            subst hz
            clear HST HSP HJ HZ0
            by_cases hnx : nx = 0
            · have HR : Hid (((tok0, 0, 120) : Tok × Nat × Int) = r) := Lib.hid (by rw [← HRT.out, HT.out]; exact (if_pos hnx).symm)
              clear HRT HT
              subst hnx
              obtain ⟨c60, c61, c62, c63, c64, f60, f61, f62, f63, f64⟩ := blk5 H0.out
              go_wp2
              refine bodyPost_ret (v := .tuple #[tokV tok0, .int .i64 0, .int .i64 120]) (by simp [results, Tryz.results38, go_sem, tokV, tok0, *]) rfl ⟨?_, ?_⟩
              · exact tok_fin HR.out.symm rfl
              · go_grown
                exact HB0.out.drewN nd
            · have hnx' : ¬ ((nx : Int) = 0) := by omega
              obtain ⟨wv, hwv⟩ : ∃ wv, kWrap 11 (-acc) = wv := ⟨_, rfl⟩
              have HW : Hid (∀ w, Calls Tryz.prog 63 #[.int .i64 11, .int .i64 (-acc)] w fun e w' => e = .returned (.int .i64 wv) ∧ Below w.heap.size w w') := Lib.hid (by intro w; have := wrap_k11 (-acc) ⟨by omega, by omega⟩ w; rw [hwv] at this; exact this)
              have HR : Hid ((if (-acc) = wv then ((⟨4, 11, (-acc), [], 0⟩ : Tok), a, (0 : Int)) else (tok0, 0, 163)) = r) := Lib.hid (by
                rw [← HRT.out, HT.out]
                show _ = if nx = 0 then _ else _
                rw [if_neg hnx, show acc * -1 = -acc by omega, hwv])
              clear hwv HRT HT
              have x1 : IntKind.i64.wrap (acc * -1) = -acc := by rw [IntWalk.i64_in _ (by omega)]; omega
              by_cases hE : (-acc) = wv
              · have HE := Lib.hid hE
                subst hE
                go_wp2_with (go_at_call 63; refine (HW.out _).mono ?_; rintro e w6 ⟨rfl, hb6⟩; have hk6 := tokS0 (w1 := W0.drewN nd) H0.out (HB0.out.drewN nd) hb6; obtain ⟨c60, c61, c62, c63, c64, f60, f61, f62, f63, f64⟩ := blk5 hk6.1; have HB := Lib.hid hk6.2; clear hk6 hb6)
                refine bodyPost_ret (v := .tuple #[tokV ⟨4, 11, (-acc), [], 0⟩, .int .i64 (a : Int), .int .i64 0]) (by simp [results, Tryz.results38, go_sem, tokV, *]) rfl ⟨?_, ?_⟩
                · exact tok_fin (HR.out.symm.trans (if_pos HE.out)) rfl
                · go_grown
                  exact HB.out
              · have HE := Lib.hid hE
                go_wp2_with (go_at_call 63; refine (HW.out _).mono ?_; rintro e w6 ⟨rfl, hb6⟩; have hk6 := tokS0 (w1 := W0.drewN nd) H0.out (HB0.out.drewN nd) hb6; obtain ⟨c60, c61, c62, c63, c64, f60, f61, f62, f63, f64⟩ := blk5 hk6.1; have HB := Lib.hid hk6.2; clear hk6 hb6)
                refine bodyPost_ret (v := .tuple #[tokV tok0, .int .i64 0, .int .i64 163]) (by simp [results, Tryz.results38, go_sem, tokV, tok0, *]) rfl ⟨?_, ?_⟩
                · exact tok_fin (HR.out.symm.trans (if_neg HE.out)) rfl
                · go_grown
                  exact HB.out

          · subst hi
            by_cases hKn : K < 0
            · have HT : Hid (t = (a, acc, nx)) := Lib.hid (HST.out hKn)
              clear HST HSP HJ HZ0
              by_cases hnx : nx = 0
              · have HR : Hid (((tok0, 0, 120) : Tok × Nat × Int) = r) := Lib.hid (by rw [← HRT.out, HT.out]; exact (if_pos hnx).symm)
                clear HRT HT
                subst hnx
                obtain ⟨c60, c61, c62, c63, c64, f60, f61, f62, f63, f64⟩ := blk5 H0.out
                go_wp2
                refine bodyPost_ret (v := .tuple #[tokV tok0, .int .i64 0, .int .i64 120]) (by simp [results, Tryz.results38, go_sem, tokV, tok0, *]) rfl ⟨?_, ?_⟩
                · exact tok_fin HR.out.symm rfl
                · go_grown
                  exact HB0.out.drewN nd
              · have hnx' : ¬ ((nx : Int) = 0) := by omega
                obtain ⟨wv, hwv⟩ : ∃ wv, kWrap 11 (-acc) = wv := ⟨_, rfl⟩
                have HW : Hid (∀ w, Calls Tryz.prog 63 #[.int .i64 11, .int .i64 (-acc)] w fun e w' => e = .returned (.int .i64 wv) ∧ Below w.heap.size w w') := Lib.hid (by intro w; have := wrap_k11 (-acc) ⟨by omega, by omega⟩ w; rw [hwv] at this; exact this)
                have HR : Hid ((if (-acc) = wv then ((⟨4, 11, (-acc), [], 0⟩ : Tok), a, (0 : Int)) else (tok0, 0, 163)) = r) := Lib.hid (by
                  rw [← HRT.out, HT.out]
                  show _ = if nx = 0 then _ else _
                  rw [if_neg hnx, show acc * -1 = -acc by omega, hwv])
                clear hwv HRT HT
                have x1 : IntKind.i64.wrap (acc * -1) = -acc := by rw [IntWalk.i64_in _ (by omega)]; omega
                by_cases hE : (-acc) = wv
                · have HE := Lib.hid hE
                  subst hE
                  go_wp2_with (go_at_call 63; refine (HW.out _).mono ?_; rintro e w6 ⟨rfl, hb6⟩; have hk6 := tokS0 (w1 := W0.drewN nd) H0.out (HB0.out.drewN nd) hb6; obtain ⟨c60, c61, c62, c63, c64, f60, f61, f62, f63, f64⟩ := blk5 hk6.1; have HB := Lib.hid hk6.2; clear hk6 hb6)
                  refine bodyPost_ret (v := .tuple #[tokV ⟨4, 11, (-acc), [], 0⟩, .int .i64 (a : Int), .int .i64 0]) (by simp [results, Tryz.results38, go_sem, tokV, *]) rfl ⟨?_, ?_⟩
                  · exact tok_fin (HR.out.symm.trans (if_pos HE.out)) rfl
                  · go_grown
                    exact HB.out
                · have HE := Lib.hid hE
                  go_wp2_with (go_at_call 63; refine (HW.out _).mono ?_; rintro e w6 ⟨rfl, hb6⟩; have hk6 := tokS0 (w1 := W0.drewN nd) H0.out (HB0.out.drewN nd) hb6; obtain ⟨c60, c61, c62, c63, c64, f60, f61, f62, f63, f64⟩ := blk5 hk6.1; have HB := Lib.hid hk6.2; clear hk6 hb6)
                  refine bodyPost_ret (v := .tuple #[tokV tok0, .int .i64 0, .int .i64 163]) (by simp [results, Tryz.results38, go_sem, tokV, tok0, *]) rfl ⟨?_, ?_⟩
                  · exact tok_fin (HR.out.symm.trans (if_neg HE.out)) rfl
                  · go_grown
                    exact HB.out

            · obtain ⟨j, rfl, hj0, hj5, hj6⟩ := HJ.out (by omega)
              have hst := HSP.out j rfl
              clear HST HSP HJ HZ0
              have hj : j = 0 ∨ j = 1 ∨ j = 2 ∨ j = 3 ∨ j = 4 := by omega
              rcases hj with rfl | rfl | rfl | rfl | rfl
              all_goals
                have u1 := HU.out _ hj5
                have u2 := HMs.out _ hj5
                simp only [unitS, unitMs, timeStep, List.length_cons, List.length_nil, Int.reduceDiv, Int.reduceAdd, Nat.reduceAdd, Int.mul_one] at u1 u2 hst hj6
                have HS3 := Lib.hid hst
                clear hst
                go_wp2
                go_quiet (fail)
                go_wp2
                go_roundw
                case rel =>
                  refine ⟨_, _, f, _, ?_, ?_, ?_, ?_, ?_, ?_, rfl, ?_, HS3, _, rfl⟩
                  · omega
                  · omega
                  · omega
                  · omega
                  · omega
                  · go_num
                  · go_num
                case measure => simp [intOf]; omega
    · obtain rfl : nx = 5 := by omega
      have HT0 : t = (a, acc, 5) := HD.out.end5
      obtain ⟨nx, hnx⟩ : ∃ x, x = 5 := ⟨_, rfl⟩
      rw [← hnx] at HT0 ⊢
      have HT := Lib.hid HT0
      clear HD HT0
      have hnx : ¬ nx = 0 := by omega
      have hnx' : ¬ ((nx : Int) = 0) := by omega
      obtain ⟨wv, hwv⟩ : ∃ wv, kWrap 11 (-acc) = wv := ⟨_, rfl⟩
      have HW : Hid (∀ w, Calls Tryz.prog 63 #[.int .i64 11, .int .i64 (-acc)] w fun e w' => e = .returned (.int .i64 wv) ∧ Below w.heap.size w w') := Lib.hid (by intro w; have := wrap_k11 (-acc) ⟨by omega, by omega⟩ w; rw [hwv] at this; exact this)
      have HR : Hid ((if (-acc) = wv then ((⟨4, 11, (-acc), [], 0⟩ : Tok), a, (0 : Int)) else (tok0, 0, 163)) = r) := Lib.hid (by
        rw [← HRT.out, HT.out]
        show _ = if nx = 0 then _ else _
        rw [if_neg hnx, show acc * -1 = -acc by omega, hwv])
      clear hwv HRT HT
      have x1 : IntKind.i64.wrap (acc * -1) = -acc := by rw [IntWalk.i64_in _ (by omega)]; omega
      by_cases hE : (-acc) = wv
      · have HE := Lib.hid hE
        subst hE
        go_wp2_with (go_at_call 63; refine (HW.out _).mono ?_; rintro e w6 ⟨rfl, hb6⟩; have hk6 := tokS0 (w1 := W0.drewN nd) H0.out (HB0.out.drewN nd) hb6; obtain ⟨c60, c61, c62, c63, c64, f60, f61, f62, f63, f64⟩ := blk5 hk6.1; have HB := Lib.hid hk6.2; clear hk6 hb6)
        refine bodyPost_ret (v := .tuple #[tokV ⟨4, 11, (-acc), [], 0⟩, .int .i64 (a : Int), .int .i64 0]) (by simp [results, Tryz.results38, go_sem, tokV, *]) rfl ⟨?_, ?_⟩
        · exact tok_fin (HR.out.symm.trans (if_pos HE.out)) rfl
        · go_grown
          exact HB.out
      · have HE := Lib.hid hE
        go_wp2_with (go_at_call 63; refine (HW.out _).mono ?_; rintro e w6 ⟨rfl, hb6⟩; have hk6 := tokS0 (w1 := W0.drewN nd) H0.out (HB0.out.drewN nd) hb6; obtain ⟨c60, c61, c62, c63, c64, f60, f61, f62, f63, f64⟩ := blk5 hk6.1; have HB := Lib.hid hk6.2; clear hk6 hb6)
        refine bodyPost_ret (v := .tuple #[tokV tok0, .int .i64 0, .int .i64 163]) (by simp [results, Tryz.results38, go_sem, tokV, tok0, *]) rfl ⟨?_, ?_⟩
        · exact tok_fin (HR.out.symm.trans (if_neg HE.out)) rfl
        · go_grown
          exact HB.out

/-- lex.span2, whole. -/
theorem lspan2_at {s : ByteArray} {at_ : Nat} {r : Tok × Nat × Int} (hr : lSpan2 s.data.toList at_ = r) (hat : at_ ≤ s.size) (hs : s.size ≤ 140737488351232) (w : World) :
    Calls Tryz.prog 38 #[.string s, .int .i64 at_] w fun e w' => e = tokR r ∧ Below w.heap.size w w' := by
  unfold lSpan2 at hr
  cases hp : Lib.hasPrefix (s.data.toList.drop at_) [45] with
  | true => rw [if_pos hp] at hr; exact span2_neg hp hr hat hs w
  | false => rw [if_neg (by rw [hp]; simp)] at hr; exact span2_pos hp hr hat hs w
end Go.Proofs.YtdabnnganponpaaGreatDoor
