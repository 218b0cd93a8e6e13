/- What the statements share: runghelp.Place, small facts of digits; the tokens as cells; the reference's keywords (rungref1's names and Kind, rungref12's Word). -/
import Derived.Test.YtdabnnganponpaaGreatDoorLexD4
import Derived.Test.YtdabnnganponpaaGreatDoorAddrW
import Derived.Test.YtdabnnganponpaaGreatDoorLexW12
import Derived.Test.YtdabnnganponpaaGreatDoorTold
namespace Go.Proofs.YtdabnnganponpaaGreatDoor
open Go.RowKit Lx Ad

theorem numF_more {base : Nat} (hb : 2 ≤ base) (f n : Nat) (h : n < base ^ (f + 1)) : numF base (f + 1) n = numF base f n := by
  induction f generalizing n with
  | zero =>
    simp only [numF]
    rw [if_pos (by rw [Nat.zero_add, Nat.pow_one] at h; exact h)]
  | succ f ih =>
    have e1 : numF base (f + 1 + 1) n = if n < base then [digB n] else numF base (f + 1) (n / base) ++ [digB (n % base)] := rfl
    have e2 : numF base (f + 1) n = if n < base then [digB n] else numF base f (n / base) ++ [digB (n % base)] := rfl
    rw [e1, e2]
    split
    · rfl
    · rw [ih (n / base)]
      rw [Nat.div_lt_iff_lt_mul (by omega), ← Nat.pow_succ]; exact h
theorem decs_small {n : Nat} (h : n < 10) : decs n = [digB n] := by rw [decs, numF, if_pos h]
theorem hexs_small {n : Nat} (h : n < 16) : hexs n = [digB n] := by rw [hexs, numF, if_pos h]
theorem decs_big {n : Nat} (h : 10 ≤ n) (hn : n < 18446744073709551616) : decs n = decs (n / 10) ++ decs (n % 10) := by
  rw [decs_small (n := n % 10) (by omega), decs, numF, if_neg (by omega), decs, numF_more (by omega) 19 (n / 10) (by omega)]
theorem hexs_big {n : Nat} (h : 16 ≤ n) (hn : n < 18446744073709551616) : hexs n = hexs (n / 16) ++ hexs (n % 16) := by
  rw [hexs_small (n := n % 16) (by omega), hexs, numF, if_neg (by omega), hexs, numF_more (by omega) 19 (n / 16) (by omega)]

theorem tmod_neg {k n : Int} (hn : 0 < n) (hk : k < 0) : -n < k.tmod n ∧ k.tmod n ≤ 0 ∧ (k.tmod n < 0 → k.tmod n + n = k % n) ∧ (0 ≤ k.tmod n → k.tmod n = k % n) := by
  have h1 := Int.tmod_eq_emod (a := k) (b := n)
  have h2 := Int.emod_nonneg k (show n ≠ 0 by omega)
  have h3 := Int.emod_lt_of_pos k hn
  by_cases hd : n ∣ k
  · rw [if_pos (.inr hd)] at h1
    have h4 := Int.emod_eq_zero_of_dvd hd
    simp at h1
    refine ⟨by omega, by omega, by omega, by omega⟩
  · rw [if_neg (by rintro (h | h); omega; exact hd h)] at h1
    have h5 : (n.natAbs : Int) = n := by omega
    rw [h5] at h1
    have h6 : k % n ≠ 0 := fun h => hd (Int.dvd_of_emod_eq_zero h)
    refine ⟨by omega, by omega, by omega, by omega⟩

theorem dec_slice {n : Nat} (h : n < 10) : (⟨#[48, 49, 50, 51, 52, 53, 54, 55, 56, 57]⟩ : ByteArray).extract n (n + 1) = ⟨(decs n).toArray⟩ := by
  have h2 : n = 0 ∨ n = 1 ∨ n = 2 ∨ n = 3 ∨ n = 4 ∨ n = 5 ∨ n = 6 ∨ n = 7 ∨ n = 8 ∨ n = 9 := by omega
  rcases h2 with rfl | rfl | rfl | rfl | rfl | rfl | rfl | rfl | rfl | rfl <;> decide
theorem hex_slice {n : Nat} (h : n < 16) : (⟨#[48, 49, 50, 51, 52, 53, 54, 55, 56, 57, 65, 66, 67, 68, 69, 70]⟩ : ByteArray).extract n (n + 1) = ⟨(hexs n).toArray⟩ := by
  have h2 : n = 0 ∨ n = 1 ∨ n = 2 ∨ n = 3 ∨ n = 4 ∨ n = 5 ∨ n = 6 ∨ n = 7 ∨ n = 8 ∨ n = 9 ∨ n = 10 ∨ n = 11 ∨ n = 12 ∨ n = 13 ∨ n = 14 ∨ n = 15 := by omega
  rcases h2 with rfl | rfl | rfl | rfl | rfl | rfl | rfl | rfl | rfl | rfl | rfl | rfl | rfl | rfl | rfl | rfl <;> decide
theorem str_app (a b : List UInt8) : (⟨a.toArray⟩ : ByteArray) ++ ⟨b.toArray⟩ = ⟨(a ++ b).toArray⟩ := by
  apply ByteArray.ext; simp [ByteArray.data_append]

/-- What the statements ask of the library's variables. -/
structure TEnv (w : World) : Prop where
  lex : LEnv w
  hnd : HEnv w
theorem TEnv.below {w w' : World} (h : TEnv w) (hb : Below w.heap.size w w') : TEnv w' := ⟨h.lex.below hb, h.hnd.below hb⟩
theorem below_join {B : Nat} {w w1 w2 : World} (h : Below B w w1) (k : Below w1.heap.size w1 w2) (hB : B ≤ w1.heap.size) : Below B w w2 :=
  h.trans ⟨k.os, k.tape, k.output, k.size, fun i hi => k.block i (Nat.lt_of_lt_of_le hi hB)⟩
theorem bjoin {w w1 w2 : World} (h : Below w.heap.size w w1) (k : Below w1.heap.size w1 w2) : Below w.heap.size w w2 := below_join h k h.size
theorem cell_later {w w' : World} {p : Addr} {v : Value} (hb : Below w.heap.size w w') (h : w.cell? p = some v) : w'.cell? p = some v := by
  have hl : p.block < w.heap.size := World.block_lt_of_cell? w p h
  rw [hb.cell hl]; exact h

/-- Tokens, where all goes well. -/
theorem tokens_ok {s : ByteArray} {il : Bool} {ts : List Tok} (hr : lTokens s.data.toList il = .ok ts) (h0 : 0 < ts.length) (hs : s.size ≤ 4294967000) (w : World) (he : LEnv w) :
    Calls Tryz.prog 5 #[.string s, .bool il] w fun e w' => ∃ g cap, e = .returned (.tuple #[.slice (some ⟨g, 0, none⟩) ts.length cap, .nilIface]) ∧ (∀ j u, (toksC ts)[j]? = some u → w'.cell? ⟨g, j, none⟩ = some u) ∧ Below w.heap.size w w' := by
  refine (ltokens_at hr hs w he).mono ?_
  rintro e w' ⟨v, rfl, ho, hb⟩
  obtain ⟨g, cap, rfl, _, _⟩ := ho.form h0
  refine ⟨g, cap, rfl, fun j u hj => ?_, hb⟩
  have h := ho.cells (g := g) rfl j u hj
  have hadd : (⟨g, 0, none⟩ : Addr).add j = ⟨g, j, none⟩ := by unfold Addr.add; split <;> simp_all
  rw [hadd] at h
  exact h
/-- Tokens, where a text is refused. -/
theorem tokens_err {s : ByteArray} {il : Bool} {a : Nat} {n : Int} (hr : lTokens s.data.toList il = .error (a, n)) (hs : s.size ≤ 4294967000) (w : World) (he : LEnv w) :
    Calls Tryz.prog 5 #[.string s, .bool il] w fun e w' => ∃ p, e = .returned (.tuple #[.slice none 0 0, .iface 37 (.pointer (some ⟨p, 0, none⟩))]) ∧ w'.heap[p]? = some (.cells #[.int .i64 a, .int .i64 n] 40) ∧ Below w.heap.size w w' := by
  refine (ltokens_at hr hs w he).mono ?_
  rintro e w' ⟨p, rfl, _, hp, hb⟩
  exact ⟨p, rfl, hp, hb⟩

def KN : List (List UInt8) := [[66, 79, 79, 76], [83, 73, 78, 84], [73, 78, 84], [68, 73, 78, 84], [85, 83, 73, 78, 84], [85, 73, 78, 84], [85, 68, 73, 78, 84], [66, 89, 84, 69], [87, 79, 82, 68], [68, 87, 79, 82, 68], [84, 73, 77, 69]]
theorem strs_cell (L : List (List UInt8)) (j : Nat) (hj : j < L.length) : (L.map fun l => Value.string ⟨l.toArray⟩).toArray[j]? = some (.string (mkS (L.getD j []))) := by
  rw [List.getElem?_toArray, List.getElem?_map, List.getElem?_eq_getElem hj, List.getD_eq_getElem?_getD, List.getElem?_eq_getElem hj]
  rfl
theorem kn_name : ∀ j, j < 11 → mkS (KN.getD j []) = kName (j + 1) := by
  intro j hj
  match j, hj with
  | 0, _ => rfl
  | 1, _ => rfl
  | 2, _ => rfl
  | 3, _ => rfl
  | 4, _ => rfl
  | 5, _ => rfl
  | 6, _ => rfl
  | 7, _ => rfl
  | 8, _ => rfl
  | 9, _ => rfl
  | 10, _ => rfl

theorem rnames_at (w : World) : Calls Tryz.prog 71 #[] w fun e w' => e = .returned (.slice (some ⟨w.heap.size, 0, none⟩) 11 11) ∧ w' = w.alloc (.cells (KN.map fun l => Value.string ⟨l.toArray⟩).toArray 9) := by
  go_enter Tryz.func71, Tryz.ntmps71
  go_wp2
  go_ret
  exact ⟨rfl, rfl⟩

set_option maxHeartbeats 800000 in
theorem rkind_at {x : ByteArray} {r : Nat} (hr : kindOf x = r) (w : World) :
    Calls Tryz.prog 49 #[.string x] w fun e w' => e = .returned (.int .i64 r) ∧ Below w.heap.size w w' := by
  have HR : Hid (KindAt x r 1) := Lib.hid hr
  clear hr
  go_enter Tryz.func49, Tryz.ntmps49
  go_wp2_with (go_at_call 71; refine (rnames_at _).mono ?_; rintro e w1 ⟨rfl, hw1⟩; have HW := Lib.hid hw1; clear hw1)
  have hw1 := HW.out
  have hcell : ∀ j, j < 11 → w1.cell? ⟨w.heap.size, j, none⟩ = some (.string (mkS (KN.getD j []))) := by
    intro j hj
    rw [hw1, World.cell?_alloc_at _ _ _ _ (by simp)]
    exact strs_cell KN j hj
  have HC := Lib.hid hcell
  have HB : Hid (Below w.heap.size w w1) := Lib.hid (by rw [hw1]; exact (Below.refl _ _).alloc (Nat.le_refl _) _)
  clear hcell hw1 HW
  obtain ⟨b, hb⟩ : ∃ b, w.heap.size = b := ⟨_, rfl⟩
  rw [hb] at HC ⊢
  have HBE := Lib.hid hb
  clear hb
  go_loop [4] (fun i => ∃ k : Nat, k ≤ 11 ∧ i = .int .i64 k ∧ Hid (KindAt x r (k + 1))) (fun i => 11 - (intOf i).toNat)
  case atStart => exact ⟨0, by omega, rfl, HR⟩
  case round =>
    clear HR
    obtain ⟨k, hk, rfl, HD⟩ := hrel
    by_cases hlt : k < 11
    · have hc := HC.out k hlt
      rw [kn_name k hlt] at hc
      have hhit := HD.out.hit (by omega)
      have hmiss := HD.out.miss (by omega)
      obtain ⟨a, ha⟩ : ∃ a, kName (k + 1) = a := ⟨_, rfl⟩
      rw [ha] at hc hhit hmiss
      have HH := Lib.hid hhit
      have HM := Lib.hid hmiss
      have k0 : 0 ≤ (k : Int) := by omega
      have k1 : (k : Int) < 11 := by omega
      clear hhit hmiss ha HD
      obtain ⟨d, hd⟩ : ∃ d, (a.toList == x.toList) = d := ⟨_, rfl⟩
      cases d with
      | true =>
        have HE := Lib.hid ((ba_eq_iff a x).1 hd)
        go_wp2
        go_ret
        exact ⟨ret_i64 (by rw [← HH.out HE.out]; go_num), HB.out⟩
      | false =>
        have HE : Hid (¬ a = x) := Lib.hid (fun h => by rw [(ba_eq_iff a x).2 h] at hd; cases hd)
        go_wp2
        go_round
        case rel => exact ⟨k + 1, by omega, by go_num, Lib.hid (HM.out HE.out)⟩
        case measure => simp [intOf]; omega
    · have HE : Hid (r = 0) := Lib.hid (by have := HD.out; unfold KindAt at this; rw [show 12 - (k + 1) = 0 by omega] at this; exact this.symm)
      have k1 : ¬ (k : Int) < 11 := by omega
      clear HD
      go_wp2
      go_ret
      exact ⟨ret_i64 (by rw [HE.out]; rfl), HB.out⟩

theorem kwMem_hit {x : ByteArray} {k : Nat} (hk : k < 36) (h : mkS (KW.getD k []) = x) : lWord x = true := by
  have hl : KW.length = 36 := by decide
  have hm : x ∈ KW.map mkS := by
    rw [← h, List.getD_eq_getElem?_getD, List.getElem?_eq_getElem (by omega)]
    exact List.mem_map.2 ⟨_, List.getElem_mem _, rfl⟩
  simp [lWord, (Lib.containsS_iff _ _).2 hm]
theorem kwMem_miss {x : ByteArray} (h : ∀ j, j < 36 → ¬ mkS (KW.getD j []) = x) : lWord x = (kindOf x != 0) := by
  have hl : KW.length = 36 := by decide
  have hm : Lib.containsS (KW.map mkS) x = false := by
    cases hc : Lib.containsS (KW.map mkS) x with
    | false => rfl
    | true =>
      obtain ⟨l, hl1, hl2⟩ := List.mem_map.1 ((Lib.containsS_iff _ _).1 hc)
      obtain ⟨j, hj, he⟩ := List.getElem_of_mem hl1
      exact absurd (by rw [List.getD_eq_getElem?_getD, List.getElem?_eq_getElem hj, Option.getD_some, he]; exact hl2) (h j (by omega))
  simp [lWord, hm]

set_option maxRecDepth 100000 in
set_option maxHeartbeats 1600000 in
theorem rWord_at {x : ByteArray} {r : Bool} (hr : lWord x = r) (w : World) :
    Calls Tryz.prog 51 #[.string x] w fun e w' => e = .returned (.bool r) ∧ Below w.heap.size w w' := by
  have HR := Lib.hid hr
  clear hr
  obtain ⟨kd, hkd⟩ : ∃ kd, kindOf x = kd := ⟨_, rfl⟩
  have HK := Lib.hid hkd
  clear hkd
  go_enter Tryz.func51, Tryz.ntmps51
  go_wp2
  generalize hw1 : w.alloc _ = w1
  have hcell : ∀ j, j < 36 → w1.cell? ⟨w.heap.size, j, none⟩ = some (.string (mkS (KW.getD j []))) := by
    intro j hj
    rw [← hw1, World.cell?_alloc_at _ _ _ _ (by simp)]
    exact strs_cell KW j hj
  have HC := Lib.hid hcell
  have HB : Hid (Below w.heap.size w w1) := Lib.hid (by rw [← hw1]; exact (Below.refl _ _).alloc (Nat.le_refl _) _)
  clear hcell hw1
  obtain ⟨b, hb⟩ : ∃ b, w.heap.size = b := ⟨_, rfl⟩
  rw [hb] at HC ⊢
  have HBE := Lib.hid hb
  clear hb
  go_loop [4] (fun i => ∃ k : Nat, k ≤ 36 ∧ i = .int .i64 k ∧ Hid (∀ j, j < k → ¬ mkS (KW.getD j []) = x)) (fun i => 36 - (intOf i).toNat)
  case atStart => exact ⟨0, by omega, rfl, Lib.hid (fun j hj => absurd hj (Nat.not_lt_zero _))⟩
  case round =>
    obtain ⟨k, hk, rfl, HD⟩ := hrel
    by_cases hlt : k < 36
    · have hc := HC.out k hlt
      obtain ⟨a, ha⟩ : ∃ a, mkS (KW.getD k []) = a := ⟨_, rfl⟩
      rw [ha] at hc
      have HA := Lib.hid ha
      have k0 : 0 ≤ (k : Int) := by omega
      have k1 : (k : Int) < 36 := by omega
      clear ha
      obtain ⟨d, hd⟩ : ∃ d, (a.toList == x.toList) = d := ⟨_, rfl⟩
      cases d with
      | true =>
        have HE := Lib.hid ((ba_eq_iff a x).1 hd)
        go_wp2
        go_ret
        exact ⟨by rw [← HR.out, kwMem_hit hlt (HA.out.trans HE.out)]; rfl, HB.out⟩
      | false =>
        have HE : Hid (¬ a = x) := Lib.hid (fun h => by rw [(ba_eq_iff a x).2 h] at hd; cases hd)
        go_wp2
        go_round
        case rel =>
          refine ⟨k + 1, by omega, by go_num, Lib.hid (fun j hj => ?_)⟩
          rcases Nat.lt_or_ge j k with h | h
          · exact HD.out j h
          · rw [show j = k by omega, HA.out]; exact HE.out
        case measure => simp [intOf]; omega
    · have hk36 : k = 36 := by omega
      have HE : Hid (r = (kd != 0)) := Lib.hid (by rw [← HR.out, kwMem_miss (by rw [← hk36]; exact HD.out), HK.out])
      have k1 : ¬ (k : Int) < 36 := by omega
      clear HD hk36
      by_cases h0 : kd = 0
      · subst h0
        go_wp2_with (go_at_call 49; refine (rkind_at HK.out _).mono ?_; rintro e w2 ⟨rfl, hb2⟩)
        go_ret
        exact ⟨by rw [HE.out]; rfl, bjoin HB.out hb2⟩
      · have h1 : ¬ ((kd : Nat) : Int) = 0 := by omega
        go_wp2_with (go_at_call 49; refine (rkind_at HK.out _).mono ?_; rintro e w2 ⟨rfl, hb2⟩)
        go_ret
        exact ⟨by rw [HE.out]; simp; rw [Bool.eq_iff_iff]; simp, bjoin HB.out hb2⟩

theorem tokens_pos {il : Bool} {l : List UInt8} : ∀ {f a : Nat} {out ts : List Tok}, tokens il l f a out = .ok ts → 0 < ts.length := by
  intro f
  induction f with
  | zero => intro a out ts h; cases h
  | succ f ih =>
    intro a out ts h
    rw [tokens] at h
    split at h
    · cases h
    · split at h
      · injection h with h; subst h; simp
      · simp only at h
        split at h
        · cases h
        · exact ih h
theorem lTokens_pos {il : Bool} {l : List UInt8} {ts : List Tok} (h : lTokens l il = .ok ts) : 0 < ts.length := by
  unfold lTokens at h
  split at h
  · cases h
  · exact tokens_pos h
end Go.Proofs.YtdabnnganponpaaGreatDoor
