/- The walk through TypesRoom. -/
import Derived.Test.YtdpkjpjkdmkkpaaGreatDoorTyR3
import Derived.Test.YtdpkjpjkdmkkpaaGreatDoorNC
namespace Go.Proofs.YtdpkjpjkdmkkpaaGreatDoor
open Go.RowKit Lx Pa Ad

set_option maxRecDepth 100000 in
set_option maxHeartbeats 8000000 in
theorem typesRoom_at (k : Int) (hk : -9223372036854775808 ≤ k) (hk2 : k ≤ 9223372036854775807) (n : Int) (hn : -9223372036854775808 ≤ n) (hn2 : n ≤ 9223372036854775807) (w : World) (he : TEnv w) :
    Calls Tryz.prog 7 #[.int .i64 k, .int .i64 n] w fun e w' => e = .returned (.bool true) ∧ Below w.heap.size w w' := by
  obtain ⟨nm, hpar⟩ := text4_known
  obtain ⟨i0, hi0, hz0, hz1, hz2⟩ := info_parts varInfo
  have HI := Lib.hid (And.intro hi0 (And.intro hz0 (And.intro hz1 hz2)))
  have HPAR := Lib.hid hpar
  have HE := Lib.hid he
  have HKK := Lib.hid (And.intro (And.intro hk hk2) (And.intro hn hn2))
  clear hpar he hk hk2 hn hn2 hi0 hz0 hz1 hz2
  obtain ⟨V, hV⟩ : ∃ V : Nat, 1 + k % 260 = (V : Int) := ⟨(1 + k % 260).toNat, by have := Int.emod_nonneg k (b := 260) (by omega); omega⟩
  obtain ⟨E, hE⟩ : ∃ E : Nat, 1 + n % 40 = (E : Int) := ⟨(1 + n % 40).toNat, by have := Int.emod_nonneg n (b := 40) (by omega); omega⟩
  have hV1 : 1 ≤ V := by have := Int.emod_nonneg k (b := 260) (by omega); omega
  have hV2 : V ≤ 260 := by have := Int.emod_lt_of_pos k (b := 260) (by omega); omega
  have hE1 : 1 ≤ E := by have := Int.emod_nonneg n (b := 40) (by omega); omega
  have hE2 : E ≤ 40 := by have := Int.emod_lt_of_pos n (b := 40) (by omega); omega
  have hwV : IntKind.i64.wrap (1 + k % 260) = (V : Int) := by rw [hV]; exact IntWalk.i64_in _ (by omega)
  have hwE : IntKind.i64.wrap (1 + n % 40) = (E : Int) := by rw [hE]; exact IntWalk.i64_in _ (by omega)
  clear hV hE
  go_enter Tryz.func7, Tryz.ntmps7
  go_wp2_with fail
  refine (known_at w HE.out).mono ?_
  rintro e w1 ⟨rfl, hb⟩
  have B1 := Lib.hid hb
  clear hb
  go_wp2_with fail
  refine (hplace_at k 260 HKK.out.1.1 HKK.out.1.2 (by omega) (by omega) w1).mono ?_
  rintro e w1' ⟨rfl, rfl⟩
  go_wp2_with fail
  refine (hplace_at n 40 HKK.out.2.1 HKK.out.2.2 (by omega) (by omega) w1).mono ?_
  rintro e w1' ⟨rfl, rfl⟩
  go_wp2_with fail
  refine (HPAR.out w1).mono ?_
  rintro e w2 ⟨row, rfl, hd, hb⟩
  obtain rfl := none_mem hd
  have B2 := Lib.hid (bjoin B1.out hb)
  clear hd hb B1 hwV hwE HPAR
  go_upto_region 5 with fail
  refine gen_world (P := Code.wp _ _ _ _) (F := fun W => Bl W w2.heap.size #[.string ⟨nm.toArray⟩, .slice none 0 0, .slice none 0 0, .bool false, .slice none 0 0, .slice none 0 0] 28 ∧ Below w.heap.size w W)
    ⟨Bl.new w2 _ _, B2.out.alloc B2.out.size _⟩ ?_
  have kX : Hid (w.heap.size ≤ w2.heap.size) := Lib.hid B2.out.size
  clear B2
  intro w3 ⟨P3, B3⟩
  obtain ⟨X, hX⟩ : ∃ X, w2.heap.size = X := ⟨_, rfl⟩
  rw [hX] at P3 kX ⊢
  clear hX
  have hXl : X < w3.heap.size := P3.lt
  have kX2 : w.heap.size ≤ X := kX.out
  obtain ⟨LO, hLO⟩ : ∃ L, w3.heap.size = L := ⟨_, rfl⟩
  rw [hLO] at hXl
  have A3 : Hid (w3.ownsRow LO 54 10 (.slice none 0 0) 0 (rmCs E 0)) := Lib.hid ⟨by simp [rmCs], .inl ⟨rfl, rfl⟩⟩
  have P3 := Lib.hid P3
  have B3 := Lib.hid B3
  have hL3 : LO ≤ w3.heap.size := by omega
  clear hLO
  go_wp2_with fail
  go_loopw [6] (fun v6 wr => RRel (∃ (i : Nat) (fv : Value), i ≤ V ∧ v6 = .int .i64 i ∧ Hid (Bl wr X #[.string ⟨nm.toArray⟩, .slice none 0 0, fv, .bool false, .slice none 0 0, .slice none 0 0] 28) ∧ Hid (wr.ownsRow LO 54 10 fv i (rmCs E i)) ∧ Hid (Below w.heap.size w wr) ∧ LO ≤ wr.heap.size)) (fun v6 _ => V - (intOf v6).toNat)
  case atStart => exact RRel.mk ⟨0, _, by omega, rfl, P3, A3, B3, hL3⟩
  case round =>
    obtain ⟨i, fv, hi, rfl, P4, A4, B4, hL4⟩ := hrel.it
    clear hrel P3 A3 B3 hL3
    obtain ⟨w4, rfl⟩ : ∃ w4, w4 = wr := ⟨_, rfl⟩
    obtain ⟨fa, fc, rfl⟩ : ∃ a c, fv = .slice a i c := by
      rcases A4.out.2 with ⟨h, h2⟩ | ⟨g, cp, _, h, _⟩
      · exact ⟨_, _, by rw [h, h2]⟩
      · exact ⟨_, _, h⟩
    by_cases hlt : i < V
    · have z1 : (i : Int) < (V : Int) := by omega
      have z2 : IntKind.i64.wrap ((i : Int) + 1) = (i : Int) + 1 := IntWalk.i64_in _ (by omega)
      go_wp2_with fail
      go_region
      rw [rm_text (i := i) (by omega)]
      obtain ⟨NMB, hNM⟩ : ∃ b : ByteArray, (⟨(rmName i).toArray⟩ : ByteArray) = b := ⟨_, rfl⟩
      have HNM : Hid (rmC E i = [.string NMB, .int .i64 12, .int .i64 1, .int .i64 E, .int .i64 1, .string ⟨#[]⟩, .bool false, .string ⟨#[]⟩, .slice none 0 0, .int .i64 (10 + (i : Int))]) := Lib.hid (by rw [← hNM]; rfl)
      rw [hNM]
      clear hNM
      refine gen_world (P := Exit.then _ _ _ _) (F := fun W => Bl W X #[.string ⟨nm.toArray⟩, .slice none 0 0, .slice fa i fc, .bool false, .slice none 0 0, .slice none 0 0] 28 ∧ W.ownsRow LO 54 10 (.slice fa i fc) i (rmCs E i) ∧ Below w.heap.size w W ∧ LO ≤ W.heap.size)
        ⟨P4.out.drew, own_below A4.out (Below.refl _ _).drew (Nat.le_refl _), B4.out.drew, Nat.le_trans hL4 (Below.refl w4.heap.size w4).drew.size⟩ ?_
      clear P4 A4 B4 hL4
      intro w5 ⟨P5, A5, B5, hL5⟩
      have P5 := Lib.hid P5
      have A5 := Lib.hid A5
      have B5 := Lib.hid B5
      have HNO : Hid (some X ≠ (Value.slice fa i fc).ownBlock) := Lib.hid (own_ne A5.out (by omega))
      obtain ⟨-, -, q2, -, -, -⟩ := P5.out.cells6
      obtain ⟨-, -, f2, -, -, -⟩ := P5.out.free6
      have kp := P5.out.lt
      have z3 : IntKind.i64.wrap (10 + (i : Int)) = 10 + (i : Int) := IntWalk.i64_in _ (by omega)
      have kw5 := B5.out.size
      go_wp2_with (at_builtin; refine wpList_append_lies _ (by rfl) _ _ _ (by rfl) LO 54 i0 _ 10 120 Tryz.underlying24 HI.out.1 HI.out.2.1 HI.out.2.2.1 HI.out.2.2.2 rfl (by omega) (.slice fa i fc) i (rmCs E i) (by rfl) (own_below A5.out ((Below.refl w5.heap.size w5).alloc (Nat.le_refl _) _) (Nat.le_refl _)) ⟨w5.heap.size, 0, none⟩ 1 1 [.string NMB, .int .i64 12, .int .i64 1, .int .i64 E, .int .i64 1, .string ⟨#[]⟩, .bool false, .string ⟨#[]⟩, .slice none 0 0, .int .i64 (10 + (i : Int))] (by rfl) (by rfl) (World.news_of_block (cs := #[.string NMB, .int .i64 12, .int .i64 1, .int .i64 E, .int .i64 1, .string ⟨#[]⟩, .bool false, .string ⟨#[]⟩, .slice none 0 0, .int .i64 (10 + (i : Int))]) (t := 54) (fr := (0, 0)) (heap_alloc_new _ _)) (by simp [Value.oneCell']) (by omega) (by simp only [maxLen]; omega) (by omega) (by simp; omega) (w5.heap.size + 1) (by simp) ?_; intro g9 cp9 w6 hown hgrow hat hlt9; have A6 : Hid (w6.ownsRow LO 54 10 (.slice (some ⟨g9, 0, none⟩) (i + 1) cp9) (i + 1) (rmCs E (i + 1))) := Lib.hid (by rw [rmCs_snoc, HNM.out]; exact hown); have P6 := Lib.hid ((P5.out.alloc _).grown hgrow HNO.out); have B6 := Lib.hid ((B5.out.alloc B5.out.size _).grown hgrow (Nat.le_trans B5.out.size ((Below.refl w5.heap.size w5).alloc (Nat.le_refl _) _).size) (fun k hk => by have := (A5.out.lt k hk).1; omega)); have hL6 : LO ≤ w6.heap.size := Nat.le_trans hL5 (Nat.le_trans (((Below.refl w5.heap.size w5).alloc (Nat.le_refl _) _).size) hgrow.size); obtain ⟨-, -, q6, -, -, -⟩ := P6.out.cells6; obtain ⟨-, -, f6, -, -, -⟩ := P6.out.free6; have kp6 := P6.out.lt; clear hown hgrow hat hlt9 q2 f2 kp A5 P5 B5)
      go_roundw
      case rel => exact RRel.mk ⟨i + 1, _, by omega, by simp, Lib.hid (by simpa using P6.out.set 2 (.slice (some ⟨g9, 0, none⟩) (i + 1) cp9)), Lib.hid (own_set A6.out hXl), Lib.hid (B6.out.setCell kX2 _), by simpa using hL6⟩
      case measure => simp [intOf]; omega
    · have z1 : ¬ (i : Int) < (V : Int) := by omega
      have hiV : i = V := by omega
      subst hiV
      have D4 : Hid (PVals w4 (Btw LO w4.heap.size) false ⟨nm, [], (List.range' 0 i).map (rmVar E)⟩ [.string ⟨nm.toArray⟩, .slice none 0 0, .slice fa i fc, .bool false, .slice none 0 0, .slice none 0 0]) := Lib.hid (room_mem A4.out hV1)
      have HOK : Hid (DeclOk ⟨nm, [], (List.range' 0 i).map (rmVar E)⟩) := Lib.hid (room_ok hV2 (by omega) (by omega))
      have HCK := Lib.hid (room_check (each := (E : Int)) (n := i) (by omega) (by omega) hV2)
      have HCL := Lib.hid (fun h1 h2 => room_cells (each := (E : Int)) (n := i) (by omega) (by omega) h1 h2)
      obtain ⟨M, hM⟩ : ∃ M, (i : Int) * (E : Int) = M := ⟨_, rfl⟩
      have hM0 : 0 ≤ M := by rw [← hM]; exact Int.mul_nonneg (by omega) (by omega)
      have hM2 : M ≤ 10400 := by
        rw [← hM]
        have h1 := Nat.mul_le_mul hV2 hE2
        have h2 : ((i * E : Nat) : Int) ≤ ((260 * 40 : Nat) : Int) := by exact_mod_cast h1
        push_cast at h2
        omega
      rw [hM] at HCK HCL
      have hmul : IntKind.i64.wrap ((i : Int) * (E : Int)) = M := by rw [hM]; exact IntWalk.i64_in _ (by omega)
      clear hM A4
      have hE0 : ((E : Int) == 0) = false := by simp; omega
      have hE3 : ¬ (E : Int) = 0 := by omega
      obtain ⟨q0, q1, q2, q3, q4, q5⟩ := P4.out.cells6
      have kp := P4.out.lt
      by_cases h1 : 256 < i
      · have HC1 : Hid (Ty.check [] ((List.range' 0 i).map (rmVar E)) = some (266, 155)) := Lib.hid (by rw [HCK.out, if_pos h1])
        have h2 : (256 : Int) < (i : Int) := by omega
        clear HCK HCL
        go_wp2_with fail
        refine (tcheck_at HC1.out HOK.out w4 (HE.out.lex.below B4.out) D4.out).mono ?_
        rintro e w5 ⟨ev, rfl, ⟨pp, rfl, hp⟩, hb5⟩
        have B5 := Lib.hid (bjoin B4.out hb5)
        have HPP := Lib.hid hp
        clear hp hb5 P4 D4 B4 q0 q1 q2 q3 q4 q5 kp
        go_wp2_with fail
        refine (told_place w5 (HE.out.hnd.below B5.out) HPP.out).mono ?_
        rintro e w6 ⟨rfl, hb5⟩
        have B6 := Lib.hid (bjoin B5.out hb5)
        clear HPP hb5 B5
        go_wp2_with fail
        go_ret
        exact ⟨rfl, B6.out⟩
      · have h2 : ¬ (256 : Int) < (i : Int) := by omega
        by_cases h3 : 4096 < M
        · have HC1 : Hid (Ty.check [] ((List.range' 0 i).map (rmVar E)) = some (10 + 4096 / (E : Int), 155)) := Lib.hid (by rw [HCK.out, if_neg h1, if_pos h3])
          have hq0 : 0 ≤ 4096 / (E : Int) := Int.ediv_nonneg (by omega) (by omega)
          have hq1 : 4096 / (E : Int) ≤ 4096 := Int.ediv_le_self _ (by omega)
          have hqw : IntKind.i64.wrap (10 + 4096 / (E : Int)) = 10 + 4096 / (E : Int) := IntWalk.i64_in _ (by omega)
          clear HCK HCL
          go_wp2_with fail
          refine (tcheck_at HC1.out HOK.out w4 (HE.out.lex.below B4.out) D4.out).mono ?_
          rintro e w5 ⟨ev, rfl, ⟨pp, rfl, hp⟩, hb5⟩
          have B5 := Lib.hid (bjoin B4.out hb5)
          have HPP := Lib.hid hp
          clear hp hb5 P4 D4 B4 q0 q1 q2 q3 q4 q5 kp
          go_wp2_with fail
          refine (told_place w5 (HE.out.hnd.below B5.out) HPP.out).mono ?_
          rintro e w6 ⟨rfl, hb5⟩
          have B6 := Lib.hid (bjoin B5.out hb5)
          clear HPP hb5 B5
          go_wp2_with fail
          go_ret
          exact ⟨rfl, B6.out⟩
        · have HC1 : Hid (Ty.check [] ((List.range' 0 i).map (rmVar E)) = none) := Lib.hid (by rw [HCK.out, if_neg h1, if_neg h3])
          obtain ⟨cl, hcl⟩ : ∃ cl, Ty.cells [] ((List.range' 0 i).map (rmVar E)) = cl := ⟨_, rfl⟩
          have HLN : Hid ((cl.length : Int) = M) := Lib.hid (by rw [← hcl]; exact HCL.out (by omega) (by omega))
          have HCE := Lib.hid hcl
          clear HCK HCL hcl
          go_wp2_with fail
          refine (tcheck_at HC1.out HOK.out w4 (HE.out.lex.below B4.out) D4.out).mono ?_
          rintro e w5 ⟨ev, rfl, hev, hb5⟩
          have hev2 : ev = .nilIface := hev
          subst hev2
          have P5 := Lib.hid (P4.out.below hb5)
          have D5 := Lib.hid (D4.out.keeps (keepsOf hb5))
          have B5 := Lib.hid (bjoin B4.out hb5)
          have X5 : Hid (∀ a, Btw LO w4.heap.size a → a < w5.heap.size) := Lib.hid (fun a ha => Nat.lt_of_lt_of_le ha.2 hb5.size)
          clear hev hb5 P4 D4 B4 q0 q1 q2 q3 q4 q5 kp
          go_wp2_with fail
          refine (told_nil w5).mono ?_
          rintro e w5' ⟨rfl, rfl⟩
          obtain ⟨q0, q1, q2, q3, q4, q5⟩ := P5.out.cells6
          have kp := P5.out.lt
          go_wp2_with fail
          refine (tcells_at HCE.out HOK.out w5 X5.out (HE.out.lex.below B5.out) D5.out).mono ?_
          rintro e w6 ⟨cv, rfl, hc, hb⟩
          obtain ⟨ra, rc, rfl⟩ := own_len hc
          obtain ⟨L, hL⟩ : ∃ L, cl.length = L := ⟨_, rfl⟩
          have hLM : (L : Int) = M := by rw [← hL]; exact HLN.out
          rw [hL]
          have B6 := Lib.hid (bjoin B5.out hb)
          clear hc hb hL HLN q0 q1 q2 q3 q4 q5 kp
          go_wp2_with fail
          go_ret
          exact ⟨rfl, B6.out⟩
end Go.Proofs.YtdpkjpjkdmkkpaaGreatDoor
