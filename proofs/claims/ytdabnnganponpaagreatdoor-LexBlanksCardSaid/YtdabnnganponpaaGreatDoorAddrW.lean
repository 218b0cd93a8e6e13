/- The walks through package addr: each function returns what the plain words say, and leaves all that was there as it was. -/
import Derived.Test.YtdabnnganponpaaGreatDoorBase
import Derived.Test.YtdabnnganponpaaGreatDoorAddrP
namespace Go.Proofs.YtdabnnganponpaaGreatDoor
open Go.RowKit Ad

set_option maxHeartbeats 400000 in
theorem size_any (a : Int) (w : World) :
    Calls Tryz.prog 46 #[.int .i64 a] w fun e w' => e = .returned (.int .i64 (aSize a)) ∧ w = w' := by
  go_enter Tryz.func46, Tryz.ntmps46
  go_wp2
  all_goals (go_ret; exact ⟨ret_i64 (by simp_all [aSize]), rfl⟩)

set_option maxHeartbeats 400000 in
theorem bit_any (a : Int) (w : World) :
    Calls Tryz.prog 43 #[.int .i64 a] w fun e w' => e = .returned (.bool (aBit a)) ∧ w = w' := by
  go_enter Tryz.func43, Tryz.ntmps43
  go_wp2
  all_goals (go_ret; exact ⟨ret_bool (by simp_all [aBit]), rfl⟩)

set_option maxHeartbeats 400000 in
theorem sign_any (a : Int) (w : World) :
    Calls Tryz.prog 42 #[.int .i64 a] w fun e w' => e = .returned (.string ⟨(aSign a).toArray⟩) ∧ w = w' := by
  go_enter Tryz.func42, Tryz.ntmps42
  go_wp2
  all_goals (go_ret; exact ⟨ret_str (by simp_all [aSign]), rfl⟩)

/-- What 'number' returns: a number beside the word whether it is one. -/
def NumberPost (l : List UInt8) (w : World) (e : Ending) (w' : World) : Prop :=
  ∃ (n : Int) (b : Bool), e = .returned (.tuple #[.int .i64 n, .bool b]) ∧ Num l n b ∧ Below w.heap.size w w'

theorem number_end {l : List UInt8} {n : Int} {b : Bool} {w w' : World} (hb : Below w.heap.size w w') (h1 : Is64 n)
    (h3 : b = numOk l) (h4 : ∀ m, numOf l = some m → n = m) : NumberPost l w (.returned (.tuple #[.int .i64 n, .bool b])) w' := ⟨n, b, rfl, ⟨h3, h1, h4⟩, hb⟩

set_option maxHeartbeats 400000 in
theorem number_any (s : ByteArray) (hs : s.size ≤ 281474976710656) (w : World) (he : Env w) :
    Calls Tryz.prog 45 #[.string s] w (NumberPost s.data.toList w) := by
  by_cases hok : ∃ v, Lib.atoiAll s.data.toList = .ok v
  · obtain ⟨v, h⟩ := hok
    have HV : Hid (Is64 v) := Lib.hid (Lib.atoiAll_bounds h)
    go_enter Tryz.func45, Tryz.ntmps45
    go_wp2_with (go_at_call 69; refine (Tryz.strconv_Atoi_ok s (by omega) v h _).mono ?_; rintro e w1 ⟨rfl, hw⟩)
    · go_wp2_with (go_at_call 70; refine (Tryz.strconv_Itoa v HV.out.1 HV.out.2 _ (he.below (bbytes hw)).pow).mono ?_; rintro e w2 ⟨rfl, hw2⟩)
      · have hlen : (s.size : Int) ≤ 3 := by assumption
        have hit : Lib.itoa v = s.toList := by assumption
        rw [ByteArray.toList_eq] at hit
        go_ret2
        have hl : s.data.toList.length = s.size := rfl
        refine number_end (btr (bbytes hw) (bgrow hw2)) HV.out ?_ ?_
        · unfold numOk; rw [num_ok h]
          by_cases h0 : 0 ≤ v
          · rw [if_pos ⟨by omega, hit, h0⟩]; simp [h0]
          · rw [if_neg (fun h => h0 h.2.2)]; simp; omega
        · intro m hm
          rw [num_ok h] at hm
          split at hm
          · rename_i hc; injection hm with hm; omega
          · cases hm
      · have hit : ¬ Lib.itoa v = s.toList := by assumption
        rw [ByteArray.toList_eq] at hit
        go_ret2
        refine number_end (btr (bbytes hw) (bgrow hw2)) HV.out ?_ ?_
        · unfold numOk; rw [num_ok h, if_neg (fun h => hit h.2.1)]; rfl
        · intro m hm; rw [num_ok h, if_neg (fun h => hit h.2.1)] at hm; cases hm
    · have hlen : (3 : Int) < s.size := by assumption
      have hl : s.data.toList.length = s.size := rfl
      go_ret2
      refine number_end (bbytes hw) HV.out ?_ ?_
      · unfold numOk; rw [num_ok h, if_neg (fun h => by omega)]; rfl
      · intro m hm; rw [num_ok h, if_neg (fun h => by omega)] at hm; cases hm
  have hbad := fun v hv => hok ⟨v, hv⟩
  have hn := num_bad (l := s.data.toList) hbad
  by_cases h : Lib.atoiAll s.data.toList = .range
  · obtain ⟨tp, p, hv⟩ := he.rng
    have HN := Lib.hid hn
    clear hn hbad hok
    go_enter Tryz.func45, Tryz.ntmps45
    go_wp2_with (go_at_call 69; refine (Tryz.strconv_Atoi_range s hs h _ _ hv (.inr ⟨_, _, rfl⟩)).mono ?_; rintro e w1 ⟨N, rfl, -, -, hb⟩)
    go_ret2
    exact number_end hb (is64_sat _) (by simp [numOk, HN.out]) (fun m hm => by rw [HN.out] at hm; cases hm)
  · obtain ⟨tp, p, hv⟩ := he.syn
    have HN := Lib.hid hn
    have HB := Lib.hid hbad
    have H := Lib.hid h
    clear hn hbad hok h
    go_enter Tryz.func45, Tryz.ntmps45
    go_wp2_with (go_at_call 69; refine (atoi_bad s hs HB.out H.out _ _ hv (.inr ⟨_, _, rfl⟩)).mono ?_; rintro e w1 ⟨x, rfl, hb⟩)
    go_ret2
    exact number_end hb ⟨by omega, by omega⟩ (by simp [numOk, HN.out]) (fun m hm => by rw [HN.out] at hm; cases hm)

theorem cutPrefix_any (s p : ByteArray) (w : World) :
    Calls Tryz.prog 41 #[.string s, .string p] w fun e w' => e = .returned (.tuple #[.string ⟨(Lib.trimPrefix s.data.toList p.data.toList).toArray⟩, .bool (Lib.hasPrefix s.data.toList p.data.toList)]) ∧ w = w' :=
  (Tryz.strings_CutPrefix s p w).mono fun _ _ ⟨h, k⟩ => ⟨h, k.symm⟩

theorem cut_any (s p : ByteArray) (hs : s.size < 4294967281) (w : World) (he : Env w) :
    Calls Tryz.prog 44 #[.string s, .string p] w fun e w' =>
      ∃ c1 c2 pt, e = .returned (.tuple #[.string ⟨c1.toArray⟩, .string ⟨c2.toArray⟩, .bool pt]) ∧ Cut s.data.toList p.data.toList c1 c2 pt ∧ ∃ n, w' = w.drewN n := by
  obtain ⟨m, hm⟩ := he.maxLen
  exact (Tryz.strings_Cut s p m w hs hm).mono fun e w' ⟨h1, h2⟩ => ⟨_, _, _, h1, rfl, h2⟩

def ParsePost (l : List UInt8) (w : World) (e : Ending) (w' : World) : Prop :=
  e = .returned (.tuple #[.int .i64 (aParse l).1, .int .i64 (aParse l).2.1, .int .i64 (aParse l).2.2]) ∧ Below w.heap.size w w'

theorem _root_.Go.RowKit.Below.drewN {B : Nat} {a w : World} (h : Below B a w) (n : Nat) : Below B a (w.drewN n) := h.trans (Joins.below_draws _ _ _)

theorem parse_end {l : List UInt8} {a n z : Int} {w w' : World} (h : aParse l = (a, n, z)) (hb : Below w.heap.size w w') :
    ParsePost l w (.returned (.tuple #[.int .i64 a, .int .i64 n, .int .i64 z])) w' := ⟨by rw [h], hb⟩

set_option maxHeartbeats 1000000 in
theorem aparse_any (s : ByteArray) (hs : s.size < 4294967281) (w : World) (he : Env w) :
    Calls Tryz.prog 24 #[.string s] w (ParsePost s.data.toList w) := by
  go_enter Tryz.func24, Tryz.ntmps24
  go_wp2
  go_loopw [17] (fun i wr => ∃ k : Nat, k ≤ 6 ∧ i = .int .i64 k ∧ aFrom s.data.toList (6 - k) k = aParse s.data.toList ∧ Below w.heap.size w wr) (fun i _ => 6 - (intOf i).toNat)
  case atStart => exact ⟨0, by omega, rfl, rfl, Below.refl _ _⟩
  case round =>
    obtain ⟨k, hk, rfl, hf, hb⟩ := hrel
    obtain ⟨WR, rfl⟩ : ∃ WR, WR = wr := ⟨_, rfl⟩
    by_cases hlt : k < 6
    · cases hp : Lib.hasPrefix s.data.toList (aSign (1 + (k : Int))) with
      | false =>
        go_wp2_with (first
          | (go_at_call 42; refine (sign_any _ _).mono ?_; rintro e w1 ⟨rfl, rfl⟩)
          | (go_at_call 41; refine (cutPrefix_any _ _ _).mono ?_; rintro e w1 ⟨rfl, rfl⟩))
        go_roundw
        case rel => exact ⟨k + 1, by omega, by go_num, (aFrom_miss hlt hp).trans hf, hb⟩
        case measure => simp [intOf]; omega
      | true =>
        cases hbit : aBit (1 + (k : Int)) with
        | false =>
          go_wp2_with (first
            | (go_at_call 42; refine (sign_any _ _).mono ?_; rintro e w1 ⟨rfl, rfl⟩)
            | (go_at_call 43; refine (bit_any _ _).mono ?_; rintro e w1 ⟨rfl, rfl⟩)
            | (go_at_call 46; refine (size_any _ _).mono ?_; rintro e w1 ⟨rfl, rfl⟩)
            | (go_at_call 41; refine (cutPrefix_any _ _ _).mono ?_; rintro e w1 ⟨rfl, rfl⟩))
          refine (number_any _ (short_trim hs) _ (he.below hb)).mono ?_
          rintro e w1 ⟨n, ok, rfl, hn, hb1⟩
          obtain ⟨sz, hsz⟩ : ∃ sz, aSize (1 + (k : Int)) = sz := ⟨_, rfl⟩
          have HZ := Lib.hid hsz
          clear hsz
          cases ok
          all_goals
            go_wp2_with (first
              | (go_at_call 42; refine (sign_any _ _).mono ?_; rintro e w1 ⟨rfl, rfl⟩)
              | (go_at_call 43; refine (bit_any _ _).mono ?_; rintro e w1 ⟨rfl, rfl⟩)
              | (go_at_call 46; refine (size_any _ _).mono ?_; rintro e w1 ⟨rfl, rfl⟩; rw [HZ.out])
              | (go_at_call 41; refine (cutPrefix_any _ _ _).mono ?_; rintro e w1 ⟨rfl, rfl⟩))
          all_goals go_ret3
          · exact parse_end (parse_none hlt hp hf (by rw [aAt_word hbit, hn.word HZ.out, if_neg (by simp)])) (btr hb hb1)
          · exact parse_end (parse_some hlt hp hf (by rw [aAt_word hbit, hn.word HZ.out, if_pos ⟨rfl, by assumption⟩])) (btr hb hb1)
          · have hge : sz ≤ n := by assumption
            exact parse_end (parse_none hlt hp hf (by rw [aAt_word hbit, hn.word HZ.out, if_neg (by omega)])) (btr hb hb1)
        | true =>
          go_wp2_with (first
            | (go_at_call 42; refine (sign_any _ _).mono ?_; rintro e w1 ⟨rfl, rfl⟩)
            | (go_at_call 43; refine (bit_any _ _).mono ?_; rintro e w1 ⟨rfl, rfl⟩)
            | (go_at_call 41; refine (cutPrefix_any _ _ _).mono ?_; rintro e w1 ⟨rfl, rfl⟩))
          refine (cut_any _ _ (short_trim' hs) _ (he.below hb)).mono ?_
          rintro e w1 ⟨c1, c2, pt, rfl, hc, nd, rfl⟩
          have HC := Lib.hid hc
          clear hc
          have hc0 := fun (h : (Lib.trimPrefix s.data.toList (aSign (1 + (k : Int)))).length ≤ 4294967281) => HC.out.short h
          have hcs := hc0 (by have := trim_le s.data.toList (aSign (1 + (k : Int))); have h : s.data.toList.length = s.size := rfl; omega)
          have HS := Lib.hid hcs
          clear hc0 hcs
          have hb' : Below w.heap.size w (WR.drewN nd) := hb.drewN nd
          go_wp2_with fail
          refine (number_any _ (Nat.le_trans HS.out.2 (by decide)) _ (he.below hb')).mono ?_
          rintro e w1 ⟨n2, ok2, rfl, hn2, hb2⟩
          have hb2' := btr hb' hb2
          clear hb2 hb'
          have ht : (pt = false ∨ ok2 = false ∨ 7 < n2) ∨ (pt = true ∧ ok2 = true ∧ n2 ≤ 7) := by
            cases pt <;> cases ok2 <;> simp <;> omega
          rcases ht with ht | ⟨rfl, rfl, hn7⟩
          · have HN := Lib.hid (parse_none hlt hp hf (by rw [HC.out.at hbit, hn2.bit_no ht]))
            clear hp hf
            cases pt
            · go_wp2_with fail
              go_ret3
              exact parse_end HN.out hb2'
            · cases ok2
              · go_wp2_with fail
                go_ret3
                exact parse_end HN.out hb2'
              · have h7 : 7 < n2 := by simpa using ht
                go_wp2_with fail
                go_ret3
                exact parse_end HN.out hb2'
          · go_wp2_with fail
            refine (number_any _ (Nat.le_trans HS.out.1 (by decide)) _ (he.below hb2')).mono ?_
            rintro e w1 ⟨n1, ok1, rfl, hn1, hb3⟩
            have hb3' := btr hb2' hb3
            clear hb3 hb2'
            obtain ⟨sz, hsz⟩ : ∃ sz, aSize (1 + (k : Int)) = sz := ⟨_, rfl⟩
            have HZ := Lib.hid hsz
            have H1 := Lib.hid hn1
            have H2 := Lib.hid hn2
            clear hsz hn1 hn2
            have hn20 : 0 ≤ n2 := by obtain ⟨m, _, hm⟩ := H2.out.yes; omega
            cases ok1
            · go_wp2_with (first
                | (go_at_call 43; refine (bit_any _ _).mono ?_; rintro e w1 ⟨rfl, rfl⟩)
                | (go_at_call 46; refine (size_any _ _).mono ?_; rintro e w1 ⟨rfl, rfl⟩; rw [HZ.out]))
              go_ret3
              exact parse_end (parse_none hlt hp hf (by rw [HC.out.at hbit, H1.out.bit H2.out HZ.out, if_neg (by simp)])) hb3'
            · have hn1b : 0 ≤ n1 ∧ n1 < 1000 := by
                obtain ⟨m, hm, hm'⟩ := H1.out.yes
                have := (numOf_some hm).1
                omega
              obtain ⟨hn10, hn11⟩ := hn1b
              go_wp2_with (first
                | (go_at_call 43; refine (bit_any _ _).mono ?_; rintro e w1 ⟨rfl, rfl⟩)
                | (go_at_call 46; refine (size_any _ _).mono ?_; rintro e w1 ⟨rfl, rfl⟩; rw [HZ.out]))
              all_goals go_ret3
              · exact parse_end (parse_some hlt hp hf (by rw [HC.out.at hbit, H1.out.bit H2.out HZ.out, if_pos ⟨rfl, rfl, hn7, rfl, by assumption⟩])) hb3'
              · have hge : sz ≤ 8 * n1 + n2 := by assumption
                exact parse_end (parse_none hlt hp hf (by rw [HC.out.at hbit, H1.out.bit H2.out HZ.out, if_neg (by omega)])) hb3'
    · go_wp2
      have hk6 : k = 6 := by omega
      go_ret3
      subst hk6
      exact parse_end hf.symm hb
end Go.Proofs.YtdabnnganponpaaGreatDoor
