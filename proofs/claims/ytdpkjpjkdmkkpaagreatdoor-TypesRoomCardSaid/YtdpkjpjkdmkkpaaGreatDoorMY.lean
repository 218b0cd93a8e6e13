/- The walks through the reference's blocks (package rungref15: Pins, Block), and the statements' help Strings. -/
import Derived.Test.YtdpkjpjkdmkkpaaGreatDoorMS
import Derived.Lib.AppendZerosOnto
namespace Go.Proofs.YtdpkjpjkdmkkpaaGreatDoor
open Go.RowKit Lx

theorem own_slice {w : World} {B sz n : Nat} {T : TypeId} {v : Value} {xs : List Value} (h : w.ownsRow B T sz v n xs) : ∃ a c, v = .slice a n c := by
  rcases h.2 with ⟨h1, h2⟩ | ⟨g, cap, cur, h1, _⟩
  · exact ⟨_, _, by rw [h1, h2]⟩
  · exact ⟨_, _, h1⟩
theorem own_cell {w : World} {B n c i : Nat} {a : Option Addr} {l : List (List UInt8)} {s : List UInt8} (h : w.ownsRow B 9 1 (.slice a n c) n (strC l)) (hs : l[i]? = some s) (hn : 0 < n) :
    ∃ g, a = some ⟨g, 0, none⟩ ∧ w.cell? ⟨g, i, none⟩ = some (.string ⟨s.toArray⟩) := by
  obtain ⟨g, cap, h1, _, _⟩ := h.form hn
  injection h1 with h1 _ _
  subst h1
  refine ⟨g, rfl, ?_⟩
  have h4 := h.cells (g := g) rfl i (.string ⟨s.toArray⟩) (by simp [strC, hs])
  have hadd : (⟨g, 0, none⟩ : Addr).add i = ⟨g, i, none⟩ := by unfold Addr.add; split <;> simp_all
  rw [hadd] at h4
  exact h4
theorem drop_eq {l m : List (List UInt8)} {i : Nat} {s t : List UInt8} (hs : l[i]? = some s) (ht : m[i]? = some t) : (l.drop i = m.drop i) = (s = t ∧ l.drop (i + 1) = m.drop (i + 1)) := by
  obtain ⟨h1, h2⟩ := List.getElem?_eq_some_iff.1 hs
  obtain ⟨h3, h4⟩ := List.getElem?_eq_some_iff.1 ht
  rw [List.drop_eq_getElem_cons h1, List.drop_eq_getElem_cons h3, h2, h4]
  simp
theorem own_lit {w : World} {B X : Nat} {l : List (List UInt8)} (h : Bl w X (strC l).toArray 9) (hB : B ≤ X) (hl : l.length ≤ 1000) : w.ownsRow B 9 1 (.slice (some ⟨X, 0, none⟩) l.length l.length) l.length (strC l) := by
  refine ⟨by simp [strC], .inr ⟨X, l.length, (strC l).toArray, rfl, hB, h, Nat.le_refl _, by simp only [maxLen]; omega, by simp [strC], ?_⟩⟩
  rw [List.take_of_length_le (by simp [strC])]
theorem own_nil (w : World) (B : Nat) : w.ownsRow B 9 1 (.slice none 0 0) 0 (strC []) := ⟨by simp [strC], .inl ⟨rfl, rfl⟩⟩
theorem pins_none {x : ByteArray} (h : pinsB x = (⟨#[]⟩, ⟨#[]⟩, false)) : Ty.insOf x.data.toList = [] ∧ Ty.outsOf x.data.toList = [] := by
  have h1 := pins_words x
  rw [h] at h1
  exact ⟨h1.1.trans (by rfl), h1.2.1.trans (by rfl)⟩

set_option maxRecDepth 100000 in
set_option maxHeartbeats 4000000 in
theorem rpins_at (x : ByteArray) (w : World) : Calls Tryz.prog 17 #[.string x] w (TPinsPost x w) := by
  rcases pins_ways x with ⟨rfl, h2⟩ | ⟨rfl, h2⟩ | ⟨rfl, h2⟩ | ⟨rfl, h2⟩ | ⟨rfl, h2⟩ | ⟨rfl, h2⟩ | ⟨rfl, h2⟩ | ⟨rfl, h2⟩ | ⟨rfl, h2⟩ | ⟨rfl, h2⟩ | ⟨h2, e0, e1, e2, e3, e4, e5, e6, e7, e8, e9⟩
  · have h3 : Ty.insOf [84, 79, 78] = [[73, 78], [80, 84]] := by kernel_rfl
    have h4 : Ty.outsOf [84, 79, 78] = [[81], [69, 84]] := by kernel_rfl
    have H3 := Lib.hid h3
    have H4 := Lib.hid h4
    clear h2 h3 h4
    go_enter Tryz.func17, Tryz.ntmps17
    go_wp2
    go_returns
    refine ⟨_, _, rfl, ?_, ?_, ((Below.refl _ _).alloc (Nat.le_refl _) _).alloc (by simp) _⟩
    · rw [show (⟨#[84, 79, 78]⟩ : ByteArray).data.toList = [84, 79, 78] from rfl, H3.out]
      exact own_lit (l := [[73, 78], [80, 84]]) ((Bl.new _ _ _).alloc _) (Nat.le_refl _) (by decide)
    · rw [show (⟨#[84, 79, 78]⟩ : ByteArray).data.toList = [84, 79, 78] from rfl, H4.out]
      exact own_lit (l := [[81], [69, 84]]) (Bl.newAt _ (by simp)) (by omega) (by decide)
  · have h3 : Ty.insOf [84, 79, 70] = [[73, 78], [80, 84]] := by kernel_rfl
    have h4 : Ty.outsOf [84, 79, 70] = [[81], [69, 84]] := by kernel_rfl
    have H3 := Lib.hid h3
    have H4 := Lib.hid h4
    clear h2 h3 h4
    go_enter Tryz.func17, Tryz.ntmps17
    go_wp2
    go_returns
    refine ⟨_, _, rfl, ?_, ?_, ((Below.refl _ _).alloc (Nat.le_refl _) _).alloc (by simp) _⟩
    · rw [show (⟨#[84, 79, 70]⟩ : ByteArray).data.toList = [84, 79, 70] from rfl, H3.out]
      exact own_lit (l := [[73, 78], [80, 84]]) ((Bl.new _ _ _).alloc _) (Nat.le_refl _) (by decide)
    · rw [show (⟨#[84, 79, 70]⟩ : ByteArray).data.toList = [84, 79, 70] from rfl, H4.out]
      exact own_lit (l := [[81], [69, 84]]) (Bl.newAt _ (by simp)) (by omega) (by decide)
  · have h3 : Ty.insOf [84, 80] = [[73, 78], [80, 84]] := by kernel_rfl
    have h4 : Ty.outsOf [84, 80] = [[81], [69, 84]] := by kernel_rfl
    have H3 := Lib.hid h3
    have H4 := Lib.hid h4
    clear h2 h3 h4
    go_enter Tryz.func17, Tryz.ntmps17
    go_wp2
    go_returns
    refine ⟨_, _, rfl, ?_, ?_, ((Below.refl _ _).alloc (Nat.le_refl _) _).alloc (by simp) _⟩
    · rw [show (⟨#[84, 80]⟩ : ByteArray).data.toList = [84, 80] from rfl, H3.out]
      exact own_lit (l := [[73, 78], [80, 84]]) ((Bl.new _ _ _).alloc _) (Nat.le_refl _) (by decide)
    · rw [show (⟨#[84, 80]⟩ : ByteArray).data.toList = [84, 80] from rfl, H4.out]
      exact own_lit (l := [[81], [69, 84]]) (Bl.newAt _ (by simp)) (by omega) (by decide)
  · have h3 : Ty.insOf [67, 84, 85] = [[67, 85], [82], [80, 86]] := by kernel_rfl
    have h4 : Ty.outsOf [67, 84, 85] = [[81], [67, 86]] := by kernel_rfl
    have H3 := Lib.hid h3
    have H4 := Lib.hid h4
    clear h2 h3 h4
    go_enter Tryz.func17, Tryz.ntmps17
    go_wp2
    go_returns
    refine ⟨_, _, rfl, ?_, ?_, ((Below.refl _ _).alloc (Nat.le_refl _) _).alloc (by simp) _⟩
    · rw [show (⟨#[67, 84, 85]⟩ : ByteArray).data.toList = [67, 84, 85] from rfl, H3.out]
      exact own_lit (l := [[67, 85], [82], [80, 86]]) ((Bl.new _ _ _).alloc _) (Nat.le_refl _) (by decide)
    · rw [show (⟨#[67, 84, 85]⟩ : ByteArray).data.toList = [67, 84, 85] from rfl, H4.out]
      exact own_lit (l := [[81], [67, 86]]) (Bl.newAt _ (by simp)) (by omega) (by decide)
  · have h3 : Ty.insOf [67, 84, 68] = [[67, 68], [76, 68], [80, 86]] := by kernel_rfl
    have h4 : Ty.outsOf [67, 84, 68] = [[81], [67, 86]] := by kernel_rfl
    have H3 := Lib.hid h3
    have H4 := Lib.hid h4
    clear h2 h3 h4
    go_enter Tryz.func17, Tryz.ntmps17
    go_wp2
    go_returns
    refine ⟨_, _, rfl, ?_, ?_, ((Below.refl _ _).alloc (Nat.le_refl _) _).alloc (by simp) _⟩
    · rw [show (⟨#[67, 84, 68]⟩ : ByteArray).data.toList = [67, 84, 68] from rfl, H3.out]
      exact own_lit (l := [[67, 68], [76, 68], [80, 86]]) ((Bl.new _ _ _).alloc _) (Nat.le_refl _) (by decide)
    · rw [show (⟨#[67, 84, 68]⟩ : ByteArray).data.toList = [67, 84, 68] from rfl, H4.out]
      exact own_lit (l := [[81], [67, 86]]) (Bl.newAt _ (by simp)) (by omega) (by decide)
  · have h3 : Ty.insOf [67, 84, 85, 68] = [[67, 85], [67, 68], [82], [76, 68], [80, 86]] := by kernel_rfl
    have h4 : Ty.outsOf [67, 84, 85, 68] = [[81, 85], [81, 68], [67, 86]] := by kernel_rfl
    have H3 := Lib.hid h3
    have H4 := Lib.hid h4
    clear h2 h3 h4
    go_enter Tryz.func17, Tryz.ntmps17
    go_wp2
    go_returns
    refine ⟨_, _, rfl, ?_, ?_, ((Below.refl _ _).alloc (Nat.le_refl _) _).alloc (by simp) _⟩
    · rw [show (⟨#[67, 84, 85, 68]⟩ : ByteArray).data.toList = [67, 84, 85, 68] from rfl, H3.out]
      exact own_lit (l := [[67, 85], [67, 68], [82], [76, 68], [80, 86]]) ((Bl.new _ _ _).alloc _) (Nat.le_refl _) (by decide)
    · rw [show (⟨#[67, 84, 85, 68]⟩ : ByteArray).data.toList = [67, 84, 85, 68] from rfl, H4.out]
      exact own_lit (l := [[81, 85], [81, 68], [67, 86]]) (Bl.newAt _ (by simp)) (by omega) (by decide)
  · have h3 : Ty.insOf [82, 95, 84, 82, 73, 71] = [[67, 76, 75]] := by kernel_rfl
    have h4 : Ty.outsOf [82, 95, 84, 82, 73, 71] = [[81]] := by kernel_rfl
    have H3 := Lib.hid h3
    have H4 := Lib.hid h4
    clear h2 h3 h4
    go_enter Tryz.func17, Tryz.ntmps17
    go_wp2
    go_returns
    refine ⟨_, _, rfl, ?_, ?_, ((Below.refl _ _).alloc (Nat.le_refl _) _).alloc (by simp) _⟩
    · rw [show (⟨#[82, 95, 84, 82, 73, 71]⟩ : ByteArray).data.toList = [82, 95, 84, 82, 73, 71] from rfl, H3.out]
      exact own_lit (l := [[67, 76, 75]]) ((Bl.new _ _ _).alloc _) (Nat.le_refl _) (by decide)
    · rw [show (⟨#[82, 95, 84, 82, 73, 71]⟩ : ByteArray).data.toList = [82, 95, 84, 82, 73, 71] from rfl, H4.out]
      exact own_lit (l := [[81]]) (Bl.newAt _ (by simp)) (by omega) (by decide)
  · have h3 : Ty.insOf [70, 95, 84, 82, 73, 71] = [[67, 76, 75]] := by kernel_rfl
    have h4 : Ty.outsOf [70, 95, 84, 82, 73, 71] = [[81]] := by kernel_rfl
    have H3 := Lib.hid h3
    have H4 := Lib.hid h4
    clear h2 h3 h4
    go_enter Tryz.func17, Tryz.ntmps17
    go_wp2
    go_returns
    refine ⟨_, _, rfl, ?_, ?_, ((Below.refl _ _).alloc (Nat.le_refl _) _).alloc (by simp) _⟩
    · rw [show (⟨#[70, 95, 84, 82, 73, 71]⟩ : ByteArray).data.toList = [70, 95, 84, 82, 73, 71] from rfl, H3.out]
      exact own_lit (l := [[67, 76, 75]]) ((Bl.new _ _ _).alloc _) (Nat.le_refl _) (by decide)
    · rw [show (⟨#[70, 95, 84, 82, 73, 71]⟩ : ByteArray).data.toList = [70, 95, 84, 82, 73, 71] from rfl, H4.out]
      exact own_lit (l := [[81]]) (Bl.newAt _ (by simp)) (by omega) (by decide)
  · have h3 : Ty.insOf [83, 82] = [[83, 49], [82]] := by kernel_rfl
    have h4 : Ty.outsOf [83, 82] = [[81, 49]] := by kernel_rfl
    have H3 := Lib.hid h3
    have H4 := Lib.hid h4
    clear h2 h3 h4
    go_enter Tryz.func17, Tryz.ntmps17
    go_wp2
    go_returns
    refine ⟨_, _, rfl, ?_, ?_, ((Below.refl _ _).alloc (Nat.le_refl _) _).alloc (by simp) _⟩
    · rw [show (⟨#[83, 82]⟩ : ByteArray).data.toList = [83, 82] from rfl, H3.out]
      exact own_lit (l := [[83, 49], [82]]) ((Bl.new _ _ _).alloc _) (Nat.le_refl _) (by decide)
    · rw [show (⟨#[83, 82]⟩ : ByteArray).data.toList = [83, 82] from rfl, H4.out]
      exact own_lit (l := [[81, 49]]) (Bl.newAt _ (by simp)) (by omega) (by decide)
  · have h3 : Ty.insOf [82, 83] = [[83], [82, 49]] := by kernel_rfl
    have h4 : Ty.outsOf [82, 83] = [[81, 49]] := by kernel_rfl
    have H3 := Lib.hid h3
    have H4 := Lib.hid h4
    clear h2 h3 h4
    go_enter Tryz.func17, Tryz.ntmps17
    go_wp2
    go_returns
    refine ⟨_, _, rfl, ?_, ?_, ((Below.refl _ _).alloc (Nat.le_refl _) _).alloc (by simp) _⟩
    · rw [show (⟨#[82, 83]⟩ : ByteArray).data.toList = [82, 83] from rfl, H3.out]
      exact own_lit (l := [[83], [82, 49]]) ((Bl.new _ _ _).alloc _) (Nat.le_refl _) (by decide)
    · rw [show (⟨#[82, 83]⟩ : ByteArray).data.toList = [82, 83] from rfl, H4.out]
      exact own_lit (l := [[81, 49]]) (Bl.newAt _ (by simp)) (by omega) (by decide)
  · obtain ⟨h3, h4⟩ := pins_none h2
    have H3 := Lib.hid h3
    have H4 := Lib.hid h4
    clear h2 h3 h4
    go_enter Tryz.func17, Tryz.ntmps17
    go_wp2
    go_returns
    refine ⟨_, _, rfl, ?_, ?_, Below.refl _ _⟩
    · rw [H3.out]; exact own_nil _ _
    · rw [H4.out]; exact own_nil _ _

theorem block_ins (x : ByteArray) : Ty.block x.data.toList = decide (0 < (Ty.insOf x.data.toList).length) := by
  rcases pins_ways x with ⟨rfl, _⟩ | ⟨rfl, _⟩ | ⟨rfl, _⟩ | ⟨rfl, _⟩ | ⟨rfl, _⟩ | ⟨rfl, _⟩ | ⟨rfl, _⟩ | ⟨rfl, _⟩ | ⟨rfl, _⟩ | ⟨rfl, _⟩ | ⟨h2, _⟩
  · kernel_rfl
  · kernel_rfl
  · kernel_rfl
  · kernel_rfl
  · kernel_rfl
  · kernel_rfl
  · kernel_rfl
  · kernel_rfl
  · kernel_rfl
  · kernel_rfl
  · rw [(pins_none h2).1]
    have h3 : Ty.pins x.data.toList = none := by
      unfold pinsB at h2
      cases h : Ty.pins x.data.toList with
      | none => rfl
      | some p => rw [h] at h2; simp at h2
    unfold Ty.block
    rw [h3]
    rfl

set_option maxRecDepth 100000 in
set_option maxHeartbeats 4000000 in
theorem rblock_at (x : ByteArray) (w : World) : Calls Tryz.prog 20 #[.string x] w fun e w' => e = .returned (.bool (Ty.block x.data.toList)) ∧ Below w.heap.size w w' := by
  rw [block_ins]
  obtain ⟨n, hn⟩ : ∃ n, (Ty.insOf x.data.toList).length = n := ⟨_, rfl⟩
  rw [hn]
  have HN := Lib.hid hn
  clear hn
  have HP := Lib.hid (rpins_at x w)
  go_enter Tryz.func20, Tryz.ntmps20
  go_wp2_with fail
  refine HP.out.mono ?_
  rintro e w1 ⟨v1, v2, rfl, ho1, ho2, hb⟩
  rw [HN.out] at ho1
  obtain ⟨a1, c1, rfl⟩ := own_slice ho1
  have B1 := Lib.hid hb
  clear ho1 ho2 hb
  by_cases h0 : 0 < n
  · have h1 : (0 : Int) < n := by omega
    have HD : Hid (decide (0 < n) = true) := Lib.hid (by simpa using h0)
    clear h0
    go_wp2
    go_ret
    exact ⟨by rw [HD.out]; rfl, B1.out⟩
  · have h1 : ¬ (0 : Int) < n := by omega
    have HD : Hid (decide (0 < n) = false) := Lib.hid (by simpa using h0)
    clear h0
    go_wp2
    go_ret
    exact ⟨by rw [HD.out]; rfl, B1.out⟩

set_option maxRecDepth 100000 in
set_option maxHeartbeats 4000000 in
theorem hstrings_at {l m : List (List UInt8)} {r : Bool} (hr : decide (l = m) = r) (a b : Value) (B : Nat) (w : World) (ha : w.ownsRow B 9 1 a l.length (strC l)) (hb : w.ownsRow B 9 1 b m.length (strC m)) (hl : l.length ≤ 1000) (hm : m.length ≤ 1000) :
    Calls Tryz.prog 18 #[a, b] w fun e w' => e = .returned (.bool r) ∧ Below w.heap.size w w' := by
  obtain ⟨xa, ca, rfl⟩ := own_slice ha
  obtain ⟨xb, cb, rfl⟩ := own_slice hb
  obtain ⟨N, hN⟩ : ∃ n, l.length = n := ⟨_, rfl⟩
  obtain ⟨M, hM⟩ : ∃ n, m.length = n := ⟨_, rfl⟩
  have HN := Lib.hid hN
  have HM := Lib.hid hM
  have HA := Lib.hid ha
  have HB := Lib.hid hb
  have HR := Lib.hid hr
  rw [hN] at hl HA ⊢
  rw [hM] at hm HB ⊢
  clear ha hb hr hN hM
  by_cases hne : N = M
  · subst hne
    have e0 : ((N : Int) != N) = false := by simp
    go_enter Tryz.func18, Tryz.ntmps18
    go_wp2_with fail
    go_loopw [5] (fun v5 wr => RRel (∃ i : Nat, i ≤ N ∧ v5 = .int .i64 i ∧ Hid (decide (l.drop i = m.drop i) = r) ∧ Hid (Below w.heap.size w wr))) (fun v5 _ => N - (intOf v5).toNat)
    case atStart => exact RRel.mk ⟨0, by omega, rfl, HR, Lib.hid (Below.refl _ _)⟩
    case round =>
      obtain ⟨i, hi, rfl, HR2, B2⟩ := hrel.it
      clear hrel
      obtain ⟨w2, rfl⟩ : ∃ w2, w2 = wr := ⟨_, rfl⟩
      by_cases hlt : i < N
      · obtain ⟨s, hs⟩ : ∃ s, l[i]? = some s := ⟨l[i]'(by have := HN.out; omega), by rw [List.getElem?_eq_getElem]⟩
        obtain ⟨t, ht⟩ : ∃ t, m[i]? = some t := ⟨m[i]'(by have := HM.out; omega), by rw [List.getElem?_eq_getElem]⟩
        obtain ⟨g, hg, d1⟩ := own_cell (own_below HA.out B2.out (Nat.le_refl _)) hs (by omega)
        obtain ⟨g2, hg2, d2⟩ := own_cell (own_below HB.out B2.out (Nat.le_refl _)) ht (by omega)
        subst hg hg2
        have HS := Lib.hid (drop_eq hs ht)
        obtain ⟨sb, hsb⟩ : ∃ b : ByteArray, (⟨s.toArray⟩ : ByteArray) = b := ⟨_, rfl⟩
        obtain ⟨tb, htb⟩ : ∃ b : ByteArray, (⟨t.toArray⟩ : ByteArray) = b := ⟨_, rfl⟩
        have HSB : Hid (s = sb.data.toList) := Lib.hid (by rw [← hsb])
        have HTB : Hid (t = tb.data.toList) := Lib.hid (by rw [← htb])
        rw [hsb] at d1
        rw [htb] at d2
        have z0 : 0 ≤ (i : Int) := by omega
        have z1 : (i : Int) < N := by omega
        have z2 : (i : Int).toNat = i := by omega
        have z3 : IntKind.i64.wrap ((i : Int) + 1) = (i : Int) + 1 := IntWalk.i64_in _ (by omega)
        have kg := lt_of_cell d1
        have kg2 := lt_of_cell d2
        clear hs ht hsb htb
        by_cases hq : sb = tb
        · subst hq
          have e1 : (sb.toList != sb.toList) = false := by simp
          have HQ : Hid (s = t) := Lib.hid (by rw [HSB.out, HTB.out])
          go_upto_region 6 with fail
          go_quiet (fail)
          go_wp2_with fail
          go_roundw
          case rel => exact RRel.mk ⟨i + 1, by omega, by simp, Lib.hid (by rw [← HR2.out]; exact decide_eq_decide.2 (by rw [HS.out]; simp [HQ.out])), Lib.hid (B2.out.drewN _)⟩
          case measure => simp [intOf]; omega
        · have e1 : (sb.toList == tb.toList) = false := by
            cases h : (sb.toList == tb.toList) with
            | false => rfl
            | true => exact absurd ((ba_eq_iff sb tb).1 h) hq
          have e2 : (sb.toList != tb.toList) = true := by unfold bne; rw [e1]; rfl
          have HRF : Hid (r = false) := Lib.hid (by
            rw [← HR2.out]
            simp only [decide_eq_false_iff_not]
            rw [HS.out]
            rintro ⟨h, _⟩
            exact hq (ByteArray.ext (Array.toList_inj.1 (by rw [← HSB.out, ← HTB.out, h]))))
          go_upto_region 6 with fail
          go_quiet (fail)
          go_wp2_with fail
          go_ret
          exact ⟨by rw [HRF.out]; rfl, B2.out.drewN _⟩
      · have HRT : Hid (r = true) := Lib.hid (by
          rw [← HR2.out, List.drop_of_length_le (by have := HN.out; omega), List.drop_of_length_le (by have := HM.out; omega)]
          rfl)
        have z1 : ¬ (i : Int) < N := by omega
        go_wp2_with fail
        go_ret
        exact ⟨by rw [HRT.out]; rfl, B2.out⟩
  · have e0 : ((N : Int) != M) = true := by simp; omega
    have HRF : Hid (r = false) := Lib.hid (by
      rw [← HR.out]
      simp only [decide_eq_false_iff_not]
      intro h
      exact hne (by rw [← HN.out, ← HM.out, h]))
    go_enter Tryz.func18, Tryz.ntmps18
    go_wp2
    go_ret
    exact ⟨by rw [HRF.out]; rfl, Below.refl _ _⟩
end Go.Proofs.YtdpkjpjkdmkkpaaGreatDoor

/- The walks through the library's slices.Grow and slices.Concat, at rows of strings. -/
namespace Go.Proofs.YtdpkjpjkdmkkpaaGreatDoor
open Go.RowKit Lx

theorem zeroCells_size (n : Nat) : (Builtin.zeroCells #[Value.string ⟨#[]⟩] n).size = n := by
  simp [Builtin.zeroCells]

set_option maxRecDepth 100000 in
set_option maxHeartbeats 4000000 in
theorem tgrow_at (n : Nat) (h0 : 0 < n) (hn : n ≤ 10000) (w : World) :
    Calls Tryz.prog 99 #[.slice none 0 0, .int .i64 n] w fun e w' => ∃ g c, e = .returned (.slice (some ⟨g, 0, none⟩) 0 c) ∧ w'.ownsRow w.heap.size 9 1 (.slice (some ⟨g, 0, none⟩) 0 c) 0 [] ∧ Below w.heap.size w w' := by
  obtain ⟨i0, hi, hz0, hz1, hz2⟩ := info_parts strInfo
  have hrz : ∀ ty, (Builtin.append_ #[41, 3] ty #[.slice none 0 0, .int .i64 (n : Int)]).run Tryz.prog w =
      .ok (.slice (some ⟨w.heap.size, 0, none⟩) n (grownCap w n 0 9)) (w.drew.alloc (.cells (Builtin.zeroCells #[Value.string ⟨#[]⟩] n ++ Builtin.zeroCells #[Value.string ⟨#[]⟩] (grownCap w n 0 9 - n)) 9)) := fun ty => by
    have h := Lib.run_append_grow_zeros w 41 3 ty 9 i0 _ .i64 .i64 Tryz.underlying41 Tryz.underlying3 hi hz0 none 0 0 [] (run_firstCells_none w.drew i0.size 0 0 0) n (by omega) (by omega) (by omega) (by omega) (by rw [hz2]; omega)
      (by rw [hz2]; have := growslice_fits (old := 0) (need := 0 + n) (bytes := 16) (by omega) (by omega); omega)
    simpa [Value.cells] using h
  have hGn : n ≤ grownCap w n 0 9 := grownCap_ge w _ _ _
  have hG63 := grownCap_le_maxLen w n 0 9 (by unfold maxLen; omega)
  obtain ⟨G, hG⟩ : ∃ G, G = grownCap w n 0 9 := ⟨_, rfl⟩
  rw [← hG] at hrz hGn hG63
  obtain ⟨ob, hob⟩ : ∃ o : Array Value, Builtin.zeroCells #[Value.string ⟨#[]⟩] n ++ Builtin.zeroCells #[Value.string ⟨#[]⟩] (G - n) = o := ⟨_, rfl⟩
  have hos : ob.size = G := by rw [← hob, Array.size_append, zeroCells_size, zeroCells_size]; omega
  rw [hob] at hrz
  have HOS := Lib.hid hos
  have HG6 := Lib.hid hG63
  have g1 : G ≤ 9223372036854775807 := by unfold maxLen at hG63; omega
  have z0 : 0 < (n : Int) := by omega
  have z1 : ¬ ((n : Int) < 0) := by omega
  have z2 : IntKind.i64.wrap (n : Int) = n := IntWalk.i64_in _ (by omega)
  clear hG hob hos hi hz0 hz1 hz2 hG63
  go_enter Tryz.func99, Tryz.ntmps99
  go_wp2_with (at_builtin; refine Lib.wpList_append_run _ rfl _ _ _ _ rfl _ _ rfl rfl _ _ (hrz _) ?_)
  all_goals
    go_ret
    refine ⟨_, _, rfl, ⟨rfl, .inr ⟨_, _, ob, rfl, Nat.le_refl _, ?_, Nat.zero_le _, HG6.out, ?_, rfl⟩⟩, (Below.refl _ _).drew.alloc (Nat.le_refl _) _⟩
    · exact Bl.new w.drew ob 9
    · rw [HOS.out]; omega
end Go.Proofs.YtdpkjpjkdmkkpaaGreatDoor

/- The walk through the library's slices.Concat, of two rows of strings. -/
namespace Go.Proofs.YtdpkjpjkdmkkpaaGreatDoor
open Go.RowKit Lx

theorem strC_app (a b : List (List UInt8)) : strC (a ++ b) = strC a ++ strC b := by simp [strC]

set_option maxRecDepth 100000 in
set_option maxHeartbeats 4000000 in
theorem tconcat_at {l m : List (List UInt8)} {v1 v2 : Value} {X B1 B2 : Nat} (w : World) (h1 : w.cell? ⟨X, 0, none⟩ = some v1) (h2 : w.cell? ⟨X, 1, none⟩ = some v2) (o1 : w.ownsRow B1 9 1 v1 l.length (strC l)) (o2 : w.ownsRow B2 9 1 v2 m.length (strC m))
    (l0 : 0 < l.length) (m0 : 0 < m.length) (hl : l.length ≤ 1000) (hm : m.length ≤ 1000) :
    Calls Tryz.prog 73 #[.slice (some ⟨X, 0, none⟩) 2 2] w fun e w' => ∃ v, e = .returned v ∧ w'.ownsRow w.heap.size 9 1 v (l ++ m).length (strC (l ++ m)) ∧ Below w.heap.size w w' := by
  obtain ⟨g1, c1, rfl, _, _⟩ := o1.form l0
  obtain ⟨g2, c2, rfl, _, _⟩ := o2.form m0
  have O1 := Lib.hid o1
  have O2 := Lib.hid o2
  have H1 := Lib.hid h1
  have H2 := Lib.hid h2
  obtain ⟨i0, hi, hz0, hz1, hz2⟩ := info_parts strInfo
  have HI := Lib.hid (And.intro hi (And.intro hz0 (And.intro hz1 hz2)))
  obtain ⟨N, hN⟩ : ∃ n, l.length = n := ⟨_, rfl⟩
  obtain ⟨M, hM⟩ : ∃ n, m.length = n := ⟨_, rfl⟩
  have HN := Lib.hid hN
  have HM := Lib.hid hM
  rw [hN] at l0 hl h1 H1 O1
  rw [hM] at m0 hm h2 H2 O2
  have kX := lt_of_cell h1
  have s1 : IntKind.i64.wrap (0 + (N : Int)) = (N : Int) := IntWalk.i64_in _ (by omega) |>.trans (by omega)
  have s2 : IntKind.i64.wrap ((N : Int) + M) = (N : Int) + M := IntWalk.i64_in _ (by omega)
  have s3 : ¬ ((N : Int) < 0) := by omega
  have s4 : ¬ ((N : Int) + M < 0) := by omega
  have HG := Lib.hid (tgrow_at (N + M) (by omega) (by omega) w)
  clear o1 o2 hi hz0 hz1 hz2 hN hM
  go_enter Tryz.func73, Tryz.ntmps73
  go_wp2_with fail
  go_loop [3, 11] (fun v3 v11 => RRel (∃ i : Nat, v11 = .int .i64 i ∧ ((i = 0 ∧ v3 = .int .i64 0) ∨ (i = 1 ∧ v3 = .int .i64 N) ∨ (i = 2 ∧ v3 = .int .i64 ((N : Int) + M))))) (fun _ v11 => 2 - (intOf v11).toNat)
  case atStart => exact RRel.mk ⟨0, rfl, .inl ⟨rfl, rfl⟩⟩
  case round =>
    obtain ⟨i, rfl, ⟨rfl, rfl⟩ | ⟨rfl, rfl⟩ | ⟨rfl, rfl⟩⟩ := hrel.it
    · clear hrel
      go_wp2_with fail
      go_round
      case rel => exact RRel.mk ⟨1, by simp, .inr (.inl ⟨rfl, by simp [*]⟩)⟩
      case measure => simp [intOf]
    · clear hrel
      go_wp2_with fail
      go_round
      case rel => exact RRel.mk ⟨2, by simp, .inr (.inr ⟨rfl, by simp [*]⟩)⟩
      case measure => simp [intOf]
    · clear hrel
      have e9 : (((N + M : Nat) : Int)) = (N : Int) + M := by omega
      rw [e9] at HG
      clear e9
      go_wp2_with fail
      refine HG.out.mono ?_
      rintro e w1 ⟨g, cp, rfl, ho, hb⟩
      have W1 := Lib.hid ho
      have B1' := Lib.hid hb
      clear ho hb h1 h2 HG
      go_wp2_with fail
      go_loopw [6, 27] (fun v6 v27 wr => RRel (∃ (i : Nat) (acc : List (List UInt8)), ((i = 0 ∧ acc = []) ∨ (i = 1 ∧ acc = l) ∨ (i = 2 ∧ acc = l ++ m)) ∧ v27 = .int .i64 i ∧ Hid (wr.ownsRow w.heap.size 9 1 v6 acc.length (strC acc)) ∧ Hid (Below w.heap.size w wr))) (fun _ v27 _ => 2 - (intOf v27).toNat)
      case atStart => exact RRel.mk ⟨0, [], .inl ⟨rfl, rfl⟩, rfl, W1, B1'⟩
      case round =>
        obtain ⟨i, acc, hacc, rfl, W2, B2'⟩ := hrel.it
        clear hrel W1 B1'
        obtain ⟨w2, rfl⟩ : ∃ w2, w2 = wr := ⟨_, rfl⟩
        have d1 := cell_later B2'.out H1.out
        have d2 := cell_later B2'.out H2.out
        have kx2 := lt_of_cell d1
        have O1' := Lib.hid (own_below O1.out B2'.out (Nat.le_refl _))
        have O2' := Lib.hid (own_below O2.out B2'.out (Nat.le_refl _))
        have K2 := Lib.hid B2'.out.size
        rcases hacc with ⟨rfl, ha⟩ | ⟨rfl, ha⟩ | ⟨rfl, ha⟩
        all_goals
          have ha2 := ha.symm
          subst ha2
          clear ha
        · go_wp2_with (at_builtin; refine wpList_append_lies _ (by rfl) _ _ _ (by rfl) w.heap.size 9 i0 _ 1 16 Tryz.underlying41 HI.out.1 HI.out.2.1 HI.out.2.2.1 HI.out.2.2.2 rfl (by omega) _ _ (strC []) (by rfl) W2.out ⟨g1, 0, none⟩ N c1 (strC l) (by rfl) (by simpa using O1'.out.1) (O1'.out.cells (g := g1) rfl) (by intro u hu; simp only [strC, List.mem_map] at hu; obtain ⟨a, _, rfl⟩ := hu; rfl) (by omega) (by simp only [maxLen]; simp; omega) (by simp; omega) K2.out _ rfl ?_; intro g9 cp9 w3 hown hgrow hat hlt9; have W3 := Lib.hid hown; have B3 := Lib.hid (B2'.out.grown hgrow B2'.out.size (fun k hk => (W2.out.lt k hk).1)); clear hown hgrow hat hlt9)
          go_roundw
          case rel => exact RRel.mk ⟨1, l, .inr (.inl ⟨rfl, rfl⟩), by simp, Lib.hid (by have := W3.out; rw [HN.out]; simpa [strC] using this), B3⟩
          case measure => simp [intOf]
        · have HAL := Lib.hid HN.out
          go_wp2_with (at_builtin; refine wpList_append_lies _ (by rfl) _ _ _ (by rfl) w.heap.size 9 i0 _ 1 16 Tryz.underlying41 HI.out.1 HI.out.2.1 HI.out.2.2.1 HI.out.2.2.2 rfl (by omega) _ _ (strC l) (by rfl) W2.out ⟨g2, 0, none⟩ M c2 (strC m) (by rfl) (by simpa using O2'.out.1) (O2'.out.cells (g := g2) rfl) (by intro u hu; simp only [strC, List.mem_map] at hu; obtain ⟨a, _, rfl⟩ := hu; rfl) (by omega) (by simp only [maxLen]; have := HN.out; omega) (by have := HN.out; omega) K2.out _ rfl ?_; intro g9 cp9 w3 hown hgrow hat hlt9; have W3 := Lib.hid hown; have B3 := Lib.hid (B2'.out.grown hgrow B2'.out.size (fun k hk => (W2.out.lt k hk).1)); clear hown hgrow hat hlt9)
          go_roundw
          case rel => exact RRel.mk ⟨2, l ++ m, .inr (.inr ⟨rfl, rfl⟩), by simp, Lib.hid (by have := W3.out; rw [List.length_append, HM.out, strC_app]; exact this), B3⟩
          case measure => simp [intOf]
        · go_wp2_with fail
          go_ret
          exact ⟨_, rfl, W2.out, B2'.out⟩
end Go.Proofs.YtdpkjpjkdmkkpaaGreatDoor
