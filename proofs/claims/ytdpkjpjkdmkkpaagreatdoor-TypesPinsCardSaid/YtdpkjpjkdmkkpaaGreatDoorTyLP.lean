/- The walk through TypesPins. -/
import Derived.Test.YtdpkjpjkdmkkpaaGreatDoorNC
import Derived.Test.YtdpkjpjkdmkkpaaGreatDoorR15B
namespace Go.Proofs.YtdpkjpjkdmkkpaaGreatDoor
open Go.RowKit Lx

/-- The blocks' names. -/
def names10 : List (List UInt8) := [[84, 79, 78], [84, 79, 70], [84, 80], [67, 84, 85], [67, 84, 68], [67, 84, 85, 68], [82, 95, 84, 82, 73, 71], [70, 95, 84, 82, 73, 71], [83, 82], [82, 83]]
theorem names10_ins : names10.all (fun q => decide (0 < (Ty.insOf q).length)) = true := by kernel_rfl
theorem names10_get {i : Nat} (h : i < 10) : ∃ q, names10[i]? = some q ∧ 0 < (Ty.insOf q).length := by
  have hl : i < names10.length := h
  refine ⟨names10[i], List.getElem?_eq_getElem hl, ?_⟩
  have h1 := names10_ins
  simp only [List.all_eq_true, decide_eq_true_eq] at h1
  exact h1 _ (List.getElem_mem hl)
theorem mod_nat {k n : Int} (h : 0 < n) : ∃ q : Nat, k % n = (q : Int) ∧ (q : Int) < n :=
  ⟨(k % n).toNat, by have := Int.emod_nonneg k (b := n) (by omega); omega, by have := Int.emod_nonneg k (b := n) (by omega); have := Int.emod_lt_of_pos k h; omega⟩

theorem CellsAt.later {w w' : World} {a : Nat} {cs : List Value} (h : CellsAt w a cs) (hb : Below w.heap.size w w') : CellsAt w' a cs := fun j u hj => cell_later hb (h j u hj)
theorem own_low {w : World} {B C sz n : Nat} {T : TypeId} {v : Value} {xs : List Value} (h : w.ownsRow B T sz v n xs) (hC : C ≤ B) : w.ownsRow C T sz v n xs := by
  refine ⟨h.1, ?_⟩
  rcases h.2 with h2 | ⟨g, cap, cur, h2, h3, h4⟩
  · exact .inl h2
  · exact .inr ⟨g, cap, cur, h2, Nat.le_trans hC h3, h4⟩

set_option maxRecDepth 100000 in
set_option maxHeartbeats 8000000 in
theorem typesPins_at (x0 : ByteArray) (l0 : x0.size ≤ 140737488351232) (x1 : ByteArray) (l1 : x1.size ≤ 140737488351232) (k : Int) (hk : -9223372036854775808 ≤ k) (hk2 : k ≤ 9223372036854775807) (w : World) (he : TEnv w) :
    Calls Tryz.prog 5 #[.string x0, .string x1, .int .i64 k] w fun e w' => e = .returned (.bool true) ∧ Below w.heap.size w w' := by
  obtain ⟨i0, hi0, hz0, hz1, hz2⟩ := info_parts strInfo
  have HI := Lib.hid (And.intro hi0 (And.intro hz0 (And.intro hz1 hz2)))
  have HE := Lib.hid he
  have HKK := Lib.hid (And.intro hk hk2)
  have hsum : IntKind.i64.wrap ((x0.size : Int) + (x1.size : Int)) = (x0.size : Int) + (x1.size : Int) := IntWalk.i64_in _ (by omega)
  clear he hi0 hz0 hz1 hz2 hk hk2
  go_enter Tryz.func5, Tryz.ntmps5
  go_wp2_with fail
  refine (known_at w HE.out).mono ?_
  rintro e w1 ⟨rfl, hb⟩
  have B1 := Lib.hid hb
  clear hb
  by_cases hbig : (x0.size : Int) + (x1.size : Int) > 200
  · go_wp2_with fail
    go_ret
    exact ⟨rfl, B1.out⟩
  · have hbig2 : ¬ (200 : Int) < (x0.size : Int) + (x1.size : Int) := hbig
    go_upto_region 6 with fail
    refine gen_world (P := Code.wp _ _ _ _) (F := fun W => CellsAt W w1.heap.size (strC names10) ∧ Below w.heap.size w W)
      ⟨(Bl.new w1 #[.string ⟨#[84, 79, 78]⟩, .string ⟨#[84, 79, 70]⟩, .string ⟨#[84, 80]⟩, .string ⟨#[67, 84, 85]⟩, .string ⟨#[67, 84, 68]⟩, .string ⟨#[67, 84, 85, 68]⟩, .string ⟨#[82, 95, 84, 82, 73, 71]⟩, .string ⟨#[70, 95, 84, 82, 73, 71]⟩, .string ⟨#[83, 82]⟩, .string ⟨#[82, 83]⟩] 9).cellsAt, B1.out.alloc B1.out.size _⟩ ?_
    clear B1 hbig hbig2 l0 l1 hsum
    intro w2 ⟨C2, B2⟩
    have C2 := Lib.hid C2
    have B2 := Lib.hid B2
    obtain ⟨G, hG⟩ : ∃ G, w1.heap.size = G := ⟨_, rfl⟩
    rw [hG] at C2 ⊢
    clear hG
    go_wp2_with fail
    go_loopw [0, 1, 8] (fun v0 v1 v8 wr => RRel (∃ (i : Nat) (B Q : ByteArray), i ≤ 2 ∧ v0 = .string B ∧ v1 = .string Q ∧ v8 = .int .i64 i ∧ Hid (CellsAt wr G (strC names10)) ∧ Hid (Below w.heap.size w wr))) (fun _ _ v8 _ => 2 - (intOf v8).toNat)
    case atStart => exact RRel.mk ⟨0, x0, x1, by omega, rfl, rfl, rfl, C2, B2⟩
    case round =>
      obtain ⟨i, B, Q, hi, rfl, rfl, rfl, CW, BW⟩ := hrel.it
      clear hrel C2 B2
      obtain ⟨w3, rfl⟩ : ∃ w3, w3 = wr := ⟨_, rfl⟩
      by_cases hlt : i < 2
      · have z1 : (i : Int) < 2 := by omega
        have z0 : 0 ≤ (i : Int) := by omega
        have z2 : IntKind.i64.wrap ((i : Int) + 1) = (i : Int) + 1 := IntWalk.i64_in _ (by omega)
        obtain ⟨p1, p2⟩ := pins_few B.data.toList
        have HPF := Lib.hid (And.intro p1 p2)
        clear p1 p2
        obtain ⟨bl, hbl⟩ : ∃ b, Ty.block B.data.toList = b := ⟨_, rfl⟩
        obtain ⟨pn, hpn⟩ : ∃ b, Ty.pin B.data.toList Q.data.toList = b := ⟨_, rfl⟩
        have HRB := Lib.hid (fun W => rblock_at B W)
        rw [hbl] at HRB
        have HTB := Lib.hid (fun W => tblock_at hbl W)
        have HRP := Lib.hid (fun W => rpin_at hpn W)
        have HTP := Lib.hid (fun W (hW : LEnv W) => tpin_at hpn W hW)
        clear hbl hpn
        have e1 : (bl != bl) = false := by simp
        have e2 : (pn != pn) = false := by simp
        go_wp2_with fail
        refine (tpins2_at B w3 (HE.out.lex.below BW.out)).mono ?_
        rintro e w4 ⟨a1, a2, rfl, ho1, ho2, hb⟩
        have C4 := Lib.hid (CW.out.later hb)
        have B4 := Lib.hid (bjoin BW.out hb)
        have O4 := Lib.hid (And.intro ho1 ho2)
        have kb4 : Hid (w3.heap.size ≤ w4.heap.size) := Lib.hid hb.size
        clear ho1 ho2 hb CW BW
        go_wp2_with fail
        refine (rpins_at B w4).mono ?_
        rintro e w5 ⟨b1, b2, rfl, ho1, ho2, hb⟩
        have C5 := Lib.hid (C4.out.later hb)
        have B5 := Lib.hid (bjoin B4.out hb)
        have O5 := Lib.hid (And.intro (own_below O4.out.1 hb (Nat.le_refl _)) (own_below O4.out.2 hb (Nat.le_refl _)))
        have R5 := Lib.hid (And.intro (own_low ho1 kb4.out) (own_low ho2 kb4.out))
        clear ho1 ho2 hb C4 B4 O4
        go_wp2_with fail
        refine (hstrings_at (l := Ty.insOf B.data.toList) (m := Ty.insOf B.data.toList) (r := true) (by simp) a1 b1 w3.heap.size w5 O5.out.1 R5.out.1 (by have := HPF.out.1; omega) (by have := HPF.out.1; omega)).mono ?_
        rintro e w6 ⟨rfl, hb⟩
        have C6 := Lib.hid (C5.out.later hb)
        have B6 := Lib.hid (bjoin B5.out hb)
        have O6 := Lib.hid (own_below O5.out.2 hb (Nat.le_refl _))
        have R6 := Lib.hid (own_below R5.out.2 hb (Nat.le_refl _))
        clear hb C5 B5 O5 R5
        go_wp2_with fail
        refine (hstrings_at (l := Ty.outsOf B.data.toList) (m := Ty.outsOf B.data.toList) (r := true) (by simp) a2 b2 w3.heap.size w6 O6.out R6.out (by have := HPF.out.2; omega) (by have := HPF.out.2; omega)).mono ?_
        rintro e w7 ⟨rfl, hb⟩
        have C7 := Lib.hid (C6.out.later hb)
        have B7 := Lib.hid (bjoin B6.out hb)
        clear hb C6 B6 O6 R6 HPF
        go_wp2_with fail
        refine (HTB.out w7).mono ?_
        rintro e w7' ⟨rfl, rfl⟩
        go_wp2_with fail
        refine (HRB.out w7).mono ?_
        rintro e w8 ⟨rfl, hb⟩
        have C8 := Lib.hid (C7.out.later hb)
        have B8 := Lib.hid (bjoin B7.out hb)
        clear hb C7 B7
        go_wp2_with fail
        refine (HTP.out w8 (HE.out.lex.below B8.out)).mono ?_
        rintro e w9 ⟨rfl, hb⟩
        have C9 := Lib.hid (C8.out.later hb)
        have B9 := Lib.hid (bjoin B8.out hb)
        clear hb C8 B8
        go_wp2_with fail
        refine (HRP.out w9).mono ?_
        rintro e w10 ⟨rfl, hb⟩
        have C10 := Lib.hid (C9.out.later hb)
        have B10 := Lib.hid (bjoin B9.out hb)
        clear hb C9 B9 HTB HRB HTP HRP
        go_wp2_with fail
        refine (hplace_at k 10 HKK.out.1 HKK.out.2 (by omega) (by omega) w10).mono ?_
        rintro e w10' ⟨rfl, rfl⟩
        obtain ⟨q, hq, hq2⟩ := mod_nat (k := k) (n := 10) (by omega)
        rw [hq]
        obtain ⟨nm, hnm, hpos⟩ := names10_get (i := q) (by omega)
        obtain ⟨NB, hNB⟩ : ∃ b : ByteArray, (⟨nm.toArray⟩ : ByteArray) = b := ⟨_, rfl⟩
        have hnb : NB.data.toList = nm := by rw [← hNB]
        rw [← hnb] at hpos
        have dq := C10.out q (.string NB) (by simp [strC, hnm, hNB])
        have kg := lt_of_cell dq
        have y0 : 0 ≤ (q : Int) := by omega
        have y1 : (q : Int) < 10 := by omega
        have y2 : (q : Int).toNat = q := by omega
        have HC10 := Lib.hid C10.out
        clear hq hq2 hnm hNB hnb
        go_wp2_with fail
        refine (rpins_at NB w10).mono ?_
        rintro e w11 ⟨v1, v2, rfl, ho1, ho2, hb⟩
        clear dq kg y0 y1 y2
        have hb2 := ins_some hpos
        obtain ⟨p1, p2⟩ := pins_few NB.data.toList
        obtain ⟨il, hil⟩ : ∃ l, Ty.insOf NB.data.toList = l := ⟨_, rfl⟩
        obtain ⟨ol, hol⟩ : ∃ l, Ty.outsOf NB.data.toList = l := ⟨_, rfl⟩
        rw [hil] at hpos p1 ho1
        rw [hol] at hb2 p2 ho2
        obtain ⟨N1, hN1⟩ : ∃ n, il.length = n := ⟨_, rfl⟩
        obtain ⟨N2, hN2⟩ : ∃ n, ol.length = n := ⟨_, rfl⟩
        have HLN : Hid ((il ++ ol).length = N1 + N2) := Lib.hid (by rw [List.length_append, hN1, hN2])
        rw [hN1] at hpos p1 ho1
        rw [hN2] at hb2 p2 ho2
        obtain ⟨g1, c1, rfl, _, _⟩ := ho1.form hpos
        obtain ⟨g2, c2, rfl, _, _⟩ := ho2.form hb2
        have O1 := Lib.hid ho1
        have O2 := Lib.hid ho2
        have C11 := Lib.hid (HC10.out.later hb)
        have B11 := Lib.hid (bjoin B10.out hb)
        have kb11 := B11.out.size
        have HG : Hid (G < w11.heap.size) := Lib.hid (lt_of_cell (C11.out 0 _ (by rfl)))
        have hb := hpos
        clear ho1 ho2 HC10 C10 B10 hil hol hN1 hN2
        go_wp2_with (first | (at_builtin; refine wpList_append_lies _ (by rfl) _ _ _ (by rfl) w11.heap.size 9 i0 _ 1 16 Tryz.underlying41 HI.out.1 HI.out.2.1 HI.out.2.2.1 HI.out.2.2.2 rfl (by omega) (.slice none 0 0) 0 (strC []) (by rfl) (own_nil _ _) ⟨g1, 0, none⟩ N1 c1 (strC il) (by rfl) (by simpa using O1.out.1) (O1.out.cells (g := g1) rfl) (by intro u hu; simp only [strC, List.mem_map] at hu; obtain ⟨a, _, rfl⟩ := hu; rfl) (by omega) (by simp only [maxLen]; omega) (by omega) (Nat.le_refl _) _ rfl ?_; intro g9 cp9 w12 hown hgrow hat hlt9; have W12 : Hid (w12.ownsRow w11.heap.size 9 1 (.slice (some ⟨g9, 0, none⟩) N1 cp9) N1 (strC il)) := Lib.hid (by simpa [strC] using hown); have B12 := Lib.hid (B11.out.grown hgrow kb11 (fun k hk => by cases hk)); have D12 := Lib.hid ((Below.refl w11.heap.size w11).grown hgrow (Nat.le_refl _) (fun k hk => by cases hk)); have kb12 := D12.out.size; clear hown hgrow hat hlt9) | (at_builtin; refine wpList_append_lies _ (by rfl) _ _ _ (by rfl) w11.heap.size 9 i0 _ 1 16 Tryz.underlying41 HI.out.1 HI.out.2.1 HI.out.2.2.1 HI.out.2.2.2 rfl (by omega) _ N1 (strC il) (by rfl) W12.out ⟨g2, 0, none⟩ N2 c2 (strC ol) (by rfl) (by simpa using O2.out.1) ((own_below O2.out D12.out (Nat.le_refl _)).cells (g := g2) rfl) (by intro u hu; simp only [strC, List.mem_map] at hu; obtain ⟨a, _, rfl⟩ := hu; rfl) (by omega) (by simp only [maxLen]; omega) (by omega) kb12 _ rfl ?_; intro g8 cp8 w13 hown hgrow hat hlt9; have W13 := Lib.hid hown; have D13 := Lib.hid (D12.out.grown hgrow D12.out.size (fun k hk => by have := (W12.out.lt k hk).1; omega)); have B13 := Lib.hid (B12.out.grown hgrow B12.out.size (fun k hk => by have := (W12.out.lt k hk).1; omega)); clear hown hgrow hat hlt9))
        have C13 := Lib.hid (C11.out.later D13.out)
        clear C11 O1 O2 W12 B12 D12 D13 B11 kb11 kb12 HG HI
        refine (hplace_at k ((N1 : Int) + (N2 : Int)) HKK.out.1 HKK.out.2 (by omega) (by omega) w13).mono ?_
        rintro e w13' ⟨rfl, rfl⟩
        obtain ⟨q2, hq, hq2⟩ := mod_nat (k := k) (n := (N1 : Int) + (N2 : Int)) (by omega)
        rw [hq]
        obtain ⟨a, ha⟩ : ∃ a, (il ++ ol)[q2]? = some a := ⟨(il ++ ol)[q2]'(by have := HLN.out; omega), by rw [List.getElem?_eq_getElem]⟩
        obtain ⟨ab, hab⟩ : ∃ ab : ByteArray, (⟨a.toArray⟩ : ByteArray) = ab := ⟨_, rfl⟩
        have d1 : w13.cell? ⟨g8, q2, none⟩ = some (.string ab) := by
          have h4 := W13.out.cells (g := g8) rfl q2 (.string ab) (by
            have h5 : strC il ++ strC ol = strC (il ++ ol) := by simp [strC]
            rw [h5]
            unfold strC
            rw [List.getElem?_map, ha, ← hab]
            rfl)
          have hadd : (⟨g8, 0, none⟩ : Addr).add q2 = ⟨g8, q2, none⟩ := by unfold Addr.add; split <;> simp_all
          rw [hadd] at h4
          exact h4
        have kg := lt_of_cell d1
        have y0 : 0 ≤ (q2 : Int) := by omega
        have y1 : (q2 : Int) < (N1 : Int) + (N2 : Int) := by omega
        have y2 : (q2 : Int).toNat = q2 := by omega
        clear hq hq2 ha hab W13 HLN hb hb2 hpos p1 p2
        go_wp2_with fail
        go_roundw
        case rel => exact RRel.mk ⟨i + 1, NB, ab, by omega, rfl, rfl, by simp, C13, B13⟩
        case measure => simp [intOf]; omega
      · have z1 : ¬ (i : Int) < 2 := by omega
        go_wp2_with fail
        go_ret
        exact ⟨rfl, BW.out⟩
end Go.Proofs.YtdpkjpjkdmkkpaaGreatDoor
