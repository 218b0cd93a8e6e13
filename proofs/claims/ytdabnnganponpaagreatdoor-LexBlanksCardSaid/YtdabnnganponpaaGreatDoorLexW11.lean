/- Package lex in plain words, fourth part: blanks and comments, all tokens. -/
import Derived.Test.YtdabnnganponpaaGreatDoorLexW9
namespace Go.Proofs.YtdabnnganponpaaGreatDoor
open Go.RowKit Lx

def blankB (il : Bool) (c : UInt8) : Bool := c.toNat == 32 || c.toNat == 9 || c.toNat == 13 || (c.toNat == 10 && !il)
/-- Where the blanks and comments that begin at 'a' end; or where a comment begins that has no end. (The first number: as many bytes as may still come.) -/
def blanks (il : Bool) (l : List UInt8) : Nat → Nat → Except Nat Nat
  | 0, a => .ok a
  | f + 1, a => match l.drop a with
    | [] => .ok a
    | c :: t =>
      if blankB il c = true then blanks il l f (a + 1)
      else if Lib.hasPrefix (c :: t) [40, 42] = true then
        if Lib.index ((c :: t).drop 2) [42, 41] < 0 then .error a
        else blanks il l f (a + ((Lib.index ((c :: t).drop 2) [42, 41]).toNat + 4))
      else .ok a

/-- All tokens from 'a' on; or an error's place and number. -/
def tokens (il : Bool) (l : List UInt8) : Nat → Nat → List Tok → Except (Nat × Int) (List Tok)
  | 0, a, _ => .error (a, 0)
  | f + 1, a, out => match blanks il l (l.length + 1) a with
    | .error a' => .error (a', 120)
    | .ok a' =>
      if a' = l.length then .ok (out ++ [⟨0, 0, 0, [], a'⟩])
      else
        let r := lToken (l.drop a')
        if r.2.2 ≠ 0 then .error (a', r.2.2)
        else tokens il l f (a' + r.2.1) (out ++ [{ r.1 with at_ := a' }])

def lTokens (l : List UInt8) (il : Bool) : Except (Nat × Int) (List Tok) :=
  if 65536 < l.length then .error (65536, 121) else tokens il l (l.length + 1) 0 []
end Go.Proofs.YtdabnnganponpaaGreatDoor

/- The chapter's examples, by the plain words; and what it means that only one old block changed. -/
namespace Go.Proofs.YtdabnnganponpaaGreatDoor
open Go.RowKit Lx

instance : DecidableEq (Except (Nat × Int) (List Tok)) := fun a b => match a, b with
  | .ok x, .ok y => if h : x = y then isTrue (by rw [h]) else isFalse (fun k => h (by injection k))
  | .error x, .error y => if h : x = y then isTrue (by rw [h]) else isFalse (fun k => h (by injection k))
  | .ok _, .error _ => isFalse (fun k => nomatch k)
  | .error _, .ok _ => isFalse (fun k => nomatch k)
theorem known1 : lTokens "x := INT#-5 + 16#FF (* c *);".toUTF8.data.toList false = .ok [⟨2, 0, 0, [120], 0⟩, ⟨6, 0, 0, [58, 61], 2⟩, ⟨3, 3, -5, [], 5⟩, ⟨6, 0, 0, [43], 12⟩, ⟨3, 0, 255, [], 14⟩, ⟨6, 0, 0, [59], 27⟩, ⟨0, 0, 0, [], 28⟩] := by
  decide +kernel
theorem known2 : (lTokens "T#1h30m %QX1.3 TRUE".toUTF8.data.toList true).toOption.map (fun l => l.map fun t => (t.n, t.text)) = some [(5400000, []), (0, "%QX1.3".toUTF8.data.toList), (1, []), (0, [])] := by
  decide +kernel
theorem known3 : lTokens "a ? b".toUTF8.data.toList false = .error (2, 120) := by
  decide +kernel

/-- Of the old blocks only block 'b' may have changed. -/
structure Only (b : Nat) (w w' : World) : Prop where
  os : w'.os = w.os
  tape : w'.tape = w.tape
  output : w'.output = w.output
  size : w.heap.size ≤ w'.heap.size
  block : ∀ k, k < w.heap.size → k ≠ b → w'.heap[k]? = w.heap[k]?
theorem Only.refl (b : Nat) (w : World) : Only b w w := ⟨rfl, rfl, rfl, Nat.le_refl _, fun _ _ _ => rfl⟩
theorem Only.trans {b : Nat} {w w1 w2 : World} (h : Only b w w1) (k : Only b w1 w2) : Only b w w2 :=
  ⟨k.os.trans h.os, k.tape.trans h.tape, k.output.trans h.output, Nat.le_trans h.size k.size, fun i hi hb => (k.block i (Nat.lt_of_lt_of_le hi h.size) hb).trans (h.block i hi hb)⟩
theorem Only.ofBelow {b : Nat} {w w' : World} (h : Below w.heap.size w w') : Only b w w' := ⟨h.os, h.tape, h.output, h.size, fun k hk _ => h.block k hk⟩
theorem Only.below {b B : Nat} {w w' : World} (h : Only b w w') (hb : B ≤ b) (hB : B ≤ w.heap.size) : Below B w w' :=
  ⟨h.os, h.tape, h.output, h.size, fun k hk => h.block k (by omega) (by omega)⟩
theorem Only.drewN {b : Nat} {w w' : World} (h : Only b w w') (n : Nat) : Only b w (w'.drewN n) := h.trans (Only.ofBelow ((Below.refl _ _).drewN n))
theorem Only.setCell {b : Nat} {w w' : World} (h : Only b w w') (o : Nat) (v : Value) : Only b w (w'.setCell ⟨b, o, none⟩ v) :=
  h.trans ⟨rfl, rfl, rfl, by simp [World.setCell], fun k _ hk => Below.heap_setCell _ _ _ _ (by simpa using hk)⟩
end Go.Proofs.YtdabnnganponpaaGreatDoor

/- The walk through package lex's blanks. -/
namespace Go.Proofs.YtdabnnganponpaaGreatDoor
open Go.RowKit Lx Ad

/-- What the lexer's block holds. -/
def LexB (w : World) (b : Nat) (s : ByteArray) (a : Int) (il : Bool) (lv : Value) : Prop :=
  w.heap[b]? = some (.cells #[.string s, .int .i64 a, .bool il, lv] 43)
theorem LexB.cells {w : World} {b : Nat} {s : ByteArray} {a : Int} {il : Bool} {lv : Value} (h : LexB w b s a il lv) :
    w.cell? ⟨b, 0, none⟩ = some (.string s) ∧ w.cell? ⟨b, 1, none⟩ = some (.int .i64 a) ∧ w.cell? ⟨b, 2, none⟩ = some (.bool il) ∧ w.cell? ⟨b, 3, none⟩ = some lv ∧
    w.frozen? ⟨b, 0, none⟩ = false ∧ w.frozen? ⟨b, 1, none⟩ = false ∧ w.frozen? ⟨b, 2, none⟩ = false ∧ w.frozen? ⟨b, 3, none⟩ = false := by
  unfold LexB at h
  simp [World.cell?, World.frozen?, h]
theorem LexB.lt {w : World} {b : Nat} {s : ByteArray} {a : Int} {il : Bool} {lv : Value} (h : LexB w b s a il lv) : b < w.heap.size := by
  rcases Nat.lt_or_ge b w.heap.size with h1 | h1
  · exact h1
  · unfold LexB at h; rw [Array.getElem?_eq_none h1] at h; cases h
theorem LexB.below {w w' : World} {b : Nat} {s : ByteArray} {a : Int} {il : Bool} {lv : Value} (h : LexB w b s a il lv) (hb : Below w.heap.size w w') : LexB w' b s a il lv := blk_stays h hb
theorem LexB.drewN {w : World} {b : Nat} {s : ByteArray} {a : Int} {il : Bool} {lv : Value} (h : LexB w b s a il lv) (n : Nat) : LexB (w.drewN n) b s a il lv := h
theorem LexB.set {w : World} {b : Nat} {s : ByteArray} {a : Int} {il : Bool} {lv : Value} (h : LexB w b s a il lv) (a' : Int) : LexB (w.setCell ⟨b, 1, none⟩ (.int .i64 a')) b s a' il lv := by
  unfold LexB at h ⊢
  simp [World.setCell, Array.getElem?_modify, h]

theorem index_any (s p : ByteArray) (hs : s.size < 4294967281) (w : World) (he : Env w) :
    Calls Tryz.prog 17 #[.string s, .string p] w fun e w' => e = .returned (.int .i64 (Lib.index s.data.toList p.data.toList)) ∧ w = w' := by
  obtain ⟨m, hm⟩ := he.maxLen
  exact (Tryz.strings_Index s p m w hs hm).mono fun _ _ ⟨h, k⟩ => ⟨h, k.symm⟩

/-- What blanks answers. -/
def BlankPost (b : Nat) (s : ByteArray) (il : Bool) (lv : Value) (w : World) (r : Except Nat Nat) (e : Ending) (w' : World) : Prop := match r with
  | .ok a' => e = .returned .nilIface ∧ a' ≤ s.size ∧ LexB w' b s a' il lv ∧ Only b w w'
  | .error a' => ∃ p, e = .returned (.iface 37 (.pointer (some ⟨p, 0, none⟩))) ∧ w.heap.size ≤ p ∧ w'.heap[p]? = some (.cells #[.int .i64 a', .int .i64 120] 40) ∧ Only b w w'
end Go.Proofs.YtdabnnganponpaaGreatDoor

/- The walk through package lex's blanks: the loop. -/
namespace Go.Proofs.YtdabnnganponpaaGreatDoor
open Go.RowKit Lx Ad

theorem blanks_yes {il : Bool} {s : ByteArray} {f a : Nat} {r : Except Nat Nat} (h : blanks il s.data.toList (f + 1) a = r) (ha : a < s.size) (hb : blankB il s[a] = true) : blanks il s.data.toList f (a + 1) = r := by
  rw [blanks, drop_at ha] at h
  simpa [hb] using h
theorem blanks_over {il : Bool} {s : ByteArray} {f a : Nat} {r : Except Nat Nat} (h : blanks il s.data.toList (f + 1) a = r) (ha : s.size ≤ a) : r = .ok a := by
  rw [blanks, List.drop_of_length_le (by simpa using ha)] at h
  exact h.symm
theorem blanks_none {il : Bool} {s : ByteArray} {f a : Nat} {r : Except Nat Nat} (h : blanks il s.data.toList (f + 1) a = r) (ha : a < s.size) (hb : blankB il s[a] = false)
    (hp : Lib.hasPrefix (s.data.toList.drop a) [40, 42] = false) : r = .ok a := by
  rw [drop_at ha] at hp
  rw [blanks, drop_at ha] at h
  simp only [hb, hp] at h
  simpa using h.symm

theorem blanks_open {il : Bool} {s : ByteArray} {f a : Nat} {r : Except Nat Nat} (h : blanks il s.data.toList (f + 1) a = r) (ha : a < s.size) (hb : blankB il s[a] = false)
    (hp : Lib.hasPrefix (s.data.toList.drop a) [40, 42] = true) (hi : Lib.index (s.data.toList.drop (a + 2)) [42, 41] < 0) : r = .error a := by
  rw [← List.drop_drop, drop_at ha] at hi
  rw [drop_at ha] at hp
  rw [blanks, drop_at ha] at h
  simp only [hb, hp] at h
  rw [if_neg (by simp), if_pos trivial, if_pos hi] at h
  exact h.symm
theorem blanks_shut {il : Bool} {s : ByteArray} {f a : Nat} {r : Except Nat Nat} (h : blanks il s.data.toList (f + 1) a = r) (ha : a < s.size) (hb : blankB il s[a] = false)
    (hp : Lib.hasPrefix (s.data.toList.drop a) [40, 42] = true) (hi : ¬ Lib.index (s.data.toList.drop (a + 2)) [42, 41] < 0) :
    blanks il s.data.toList f (a + ((Lib.index (s.data.toList.drop (a + 2)) [42, 41]).toNat + 4)) = r := by
  rw [← List.drop_drop, drop_at ha] at hi ⊢
  rw [drop_at ha] at hp
  rw [blanks, drop_at ha] at h
  simp only [hb, hp] at h
  rw [if_neg (by simp), if_pos trivial, if_neg hi] at h
  exact h

theorem Only.alloc {b : Nat} {w w' : World} (h : Only b w w') (o : Obj) : Only b w (w'.alloc o) := h.trans (Only.ofBelow ((Below.refl _ _).alloc (Nat.le_refl _) _))
theorem index_m (s p : ByteArray) (hs : s.size < 4294967281) (w : World) {m : Int} (hm : w.cell? ⟨3, 0, none⟩ = some (.int .i64 m)) :
    Calls Tryz.prog 17 #[.string s, .string p] w fun e w' => e = .returned (.int .i64 (Lib.index s.data.toList p.data.toList)) ∧ w = w' :=
  (Tryz.strings_Index s p m w hs hm).mono fun _ _ ⟨h, k⟩ => ⟨h, k.symm⟩

set_option maxRecDepth 100000 in
set_option maxHeartbeats 4000000 in
theorem lblanks_at {s : ByteArray} {a b f : Nat} {il : Bool} {lv : Value} {r : Except Nat Nat} (hr : blanks il s.data.toList f a = r) (ha : a ≤ s.size) (hf : s.size - a < f) (hs : s.size ≤ 4294967000) (w : World) (he : Env w)
    (hx : LexB w b s a il lv) :
    Calls Tryz.prog 9 #[.pointer (some ⟨b, 0, none⟩)] w (BlankPost b s il lv w r) := by
  obtain ⟨m, hm⟩ := he.maxLen
  have hbg : 3 ≠ b := by
    intro h
    rw [h, hx.cells.1] at hm
    cases hm
  have HM := Lib.hid hm
  clear hm
  have HR := Lib.hid hr
  have HX := Lib.hid hx
  clear he hr hx
  go_enter Tryz.func9, Tryz.ntmps9
  go_wp2
  go_step3
  go_wp2
  go_step3
  go_wp2
  go_loopw [] (fun wr => ∃ a f : Nat, a ≤ s.size ∧ s.size - a < f ∧ Hid (blanks il s.data.toList f a = r) ∧ Hid (LexB wr b s a il lv) ∧ Hid (Only b w wr)) (fun wr => s.size - (intOf ((wr.cell? ⟨b, 1, none⟩).getD undef)).toNat)
  case atStart => exact ⟨a, f, ha, hf, HR, HX, Lib.hid (Only.refl _ _)⟩
  case round =>
    clear HR HX
    obtain ⟨a, f, ha, hf, HD, HX, HO⟩ := hrel
    obtain ⟨WR, rfl⟩ : ∃ WR, WR = wr := ⟨_, rfl⟩
    have hbl := HX.out.lt
    obtain ⟨c0, c1, c2, c3, f0, f1, f2, f3⟩ := HX.out.cells
    obtain ⟨f, rfl⟩ : ∃ g, f = g + 1 := ⟨f - 1, by omega⟩
    by_cases hlt : a < s.size
    · have a0 : 0 ≤ (a : Int) := by omega
      have a1 : (a : Int) < s.size := by omega
      have hlp : s.data.toList.length = s.size := rfl
      cases hb : blankB il s[a] with
      | true =>
        have HD2 := Lib.hid (blanks_yes HD.out hlt hb)
        have hkind : s[a].toNat = 32 ∨ (¬ s[a].toNat = 32 ∧ s[a].toNat = 9) ∨ (¬ s[a].toNat = 32 ∧ ¬ s[a].toNat = 9 ∧ s[a].toNat = 13) ∨ (¬ s[a].toNat = 32 ∧ ¬ s[a].toNat = 9 ∧ ¬ s[a].toNat = 13 ∧ s[a].toNat = 10 ∧ il = false) := by
          simp only [blankB, Bool.or_eq_true, Bool.and_eq_true, beq_iff_eq, Bool.not_eq_true'] at hb
          rcases hb with ((h | h) | h) | ⟨h, h2⟩
          · exact .inl h
          · exact .inr (.inl ⟨by omega, h⟩)
          · exact .inr (.inr (.inl ⟨by omega, by omega, h⟩))
          · exact .inr (.inr (.inr ⟨by omega, by omega, by omega, h, h2⟩))
        clear HD hb hlp
        have HX2 := fun nd => Lib.hid ((HX.out.drewN nd).set ((a : Int) + 1))
        have HO2 := fun nd => Lib.hid ((HO.out.drewN nd).setCell 1 (.int .i64 ((a : Int) + 1)))
        have HXX := Lib.hid HX2
        have HOO := Lib.hid HO2
        clear HX2 HO2
        rcases hkind with h1 | ⟨h1, h2⟩ | ⟨h1, h2, h3⟩ | ⟨h1, h2, h3, h4, rfl⟩
        all_goals
          go_wp2
          go_quiet (fail)
          go_wp2
          go_quiet (fail)
          go_wp2
          go_roundw
          case rel => exact ⟨a + 1, f, by omega, by omega, HD2, HXX.out _, HOO.out _⟩
          case measure =>
            have h5 := fun nd => (HXX.out nd).out.cells.2.1
            simp [intOf, *]; omega
      | false =>
        have hkind : ¬ s[a].toNat = 32 ∧ ¬ s[a].toNat = 9 ∧ ¬ s[a].toNat = 13 ∧ (¬ s[a].toNat = 10 ∨ (s[a].toNat = 10 ∧ il = true)) := by
          simp only [blankB, Bool.or_eq_false_iff, Bool.and_eq_false_iff, beq_eq_false_iff_ne, Bool.not_eq_false'] at hb
          obtain ⟨⟨⟨h1, h2⟩, h3⟩, h4⟩ := hb
          refine ⟨h1, h2, h3, ?_⟩
          rcases h4 with h4 | h4
          · exact .inl h4
          · by_cases h5 : s[a].toNat = 10
            · exact .inr ⟨h5, h4⟩
            · exact .inl h5
        obtain ⟨h1, h2, h3, h4⟩ := hkind
        have e32 : ((s[a].toNat : Int) == 32) = false := by simp; omega
        have e9 : ((s[a].toNat : Int) == 9) = false := by simp; omega
        have e13 : ((s[a].toNat : Int) == 13) = false := by simp; omega
        have e10 : ¬ s[a].toNat = 10 → ((s[a].toNat : Int) == 10) = false := by intro h; simp; omega
        have e10' : s[a].toNat = 10 → ((s[a].toNat : Int) == 10) = true := by intro h; simp; omega
        have hxd : (s.extract a s.size).data.toList = s.data.toList.drop a := ext_drop s a
        obtain ⟨bp, hbp⟩ : ∃ b, Lib.hasPrefix (s.extract a s.size).data.toList [40, 42] = b := ⟨_, rfl⟩
        have HP := Lib.hid hbp
        cases bp with
        | false =>
          have HE2 := Lib.hid (blanks_none HD.out hlt hb (by rw [← hxd]; exact hbp))
          clear HD hb hlp hxd hbp
          rcases h4 with h4 | ⟨h4, rfl⟩
          all_goals
            first | replace e10 := e10 h4 | replace e10 := e10' h4
            clear e10'
            go_wp2
            go_quiet (fail)
            go_wp2
            go_quiet (fail)
            go_wp2
            go_quiet ((go_at_call 16; exact quiet_add_same ((hasPrefix_any _ _ _).mono fun _ _ h => ⟨by rw [h.1, HP.out], h.2⟩)))
            go_wp2
            rw [Exit.noGoto_ret]
            go_ret
            rw [HE2.out]
            exact ⟨rfl, ha, HX.out, (HO.out.drewN _).drewN _⟩
        | true =>
          have h2le : a + 2 ≤ s.size := by
            have h9 := prefix_len hbp
            rw [hxd, List.length_drop] at h9
            simp only [List.length_cons, List.length_nil] at h9
            omega
          have hpd : Lib.hasPrefix (s.data.toList.drop a) [40, 42] = true := by rw [← hxd]; exact hbp
          obtain ⟨R1, hR1⟩ : ∃ R1 : ByteArray, R1 = s.extract (a + 2) s.size := ⟨_, rfl⟩
          have hR1d : R1.data.toList = s.data.toList.drop (a + 2) := by rw [hR1]; exact ext_drop s (a + 2)
          have hR1s : R1.size = s.size - (a + 2) := by rw [hR1]; simp [ByteArray.size_extract]
          obtain ⟨ix, hix⟩ : ∃ ix, Lib.index R1.data.toList [42, 41] = ix := ⟨_, rfl⟩
          have hroom := Lib.index_room R1.data.toList [42, 41]
          have hge := Lib.index_ge R1.data.toList [42, 41]
          have hRl : R1.data.toList.length = R1.size := rfl
          rw [hix, hRl, hR1s] at hroom
          rw [hix] at hge
          simp only [List.length_cons, List.length_nil] at hroom
          have hopen := blanks_open HD.out hlt hb hpd
          have hshut := blanks_shut HD.out hlt hb hpd
          rw [← hR1d, hix] at hopen hshut
          have hml : WR.cell? ⟨3, 0, none⟩ = some (.int .i64 m) :=
            (World.cell?_of_block (a := ⟨3, 0, none⟩) (HO.out.block _ (lt_of_cell HM.out) hbg)).trans HM.out
          have HML := Lib.hid hml
          clear hml
          have hRb : R1.size < 4294967281 := by omega
          have IX := Lib.hid (And.intro hRb hix)
          rw [hR1] at IX
          have hs' : s.size ≤ 4294967000 := hs
          have e2 : IntKind.i64.wrap ((a : Int) + 2) = (a : Int) + 2 := by clear hroom hge hopen hshut e10 e10' h4; simp [IntKind.wrap, IntKind.bits, IntKind.signed]; omega
          have b0 : 0 ≤ (a : Int) + 2 := by omega
          have b1 : (a : Int) + 2 ≤ s.size := by omega
          have b2 : ((a : Int) + 2).toNat = a + 2 := by omega
          clear HD hb hlp hxd hbp hpd hix hRl
          by_cases hneg : ix < 0
          · have HE2 := Lib.hid (hopen hneg)
            clear hopen hshut hroom hge
            rcases h4 with h4 | ⟨h4, rfl⟩
            all_goals
              first | replace e10 := e10 h4 | replace e10 := e10' h4
              clear e10'
              go_wp2
              go_quiet (fail)
              go_wp2
              go_quiet (fail)
              go_wp2
              go_quiet ((go_at_call 16; exact quiet_add_same ((hasPrefix_any _ _ _).mono fun _ _ h => ⟨by rw [h.1, HP.out], h.2⟩)))
              go_wp2
              go_quiet ((go_at_call 17; exact quiet_add_same ((index_m _ _ (by exact IX.out.1) _ (by exact HML.out)).mono fun _ _ h => ⟨by rw [h.1, IX.out.2], h.2⟩)))
              go_wp2
              rw [Exit.noGoto_ret]
              go_ret
              rw [HE2.out]
              exact ⟨WR.heap.size, rfl, HO.out.size, heap_alloc_new (WR.drewN _) _, (HO.out.drewN _).alloc _⟩
          · have HD2 := Lib.hid (hshut hneg)
            have hr0 := hroom (by omega)
            have hc : ((a + (ix.toNat + 4) : Nat) : Int) = (a : Int) + (ix + 4) := by omega
            have HX2 := fun nd => Lib.hid ((HX.out.drewN nd).set ((a : Int) + (ix + 4)))
            have HO2 := fun nd => Lib.hid ((HO.out.drewN nd).setCell 1 (.int .i64 ((a : Int) + (ix + 4))))
            have HXX := Lib.hid HX2
            have HOO := Lib.hid HO2
            clear HX2 HO2 hopen hshut hroom
            rcases h4 with h4 | ⟨h4, rfl⟩
            all_goals
              first | replace e10 := e10 h4 | replace e10 := e10' h4
              clear e10'
              go_wp2
              go_quiet (fail)
              go_wp2
              go_quiet (fail)
              go_wp2
              go_quiet ((go_at_call 16; exact quiet_add_same ((hasPrefix_any _ _ _).mono fun _ _ h => ⟨by rw [h.1, HP.out], h.2⟩)))
              go_wp2
              go_quiet ((go_at_call 17; exact quiet_add_same ((index_m _ _ (by exact IX.out.1) _ (by exact HML.out)).mono fun _ _ h => ⟨by rw [h.1, IX.out.2], h.2⟩)))
              go_wp2
              go_roundw
              case rel => exact ⟨a + (ix.toNat + 4), f, by omega, by omega, HD2, by rw [hc]; exact HXX.out _, HOO.out _⟩
              case measure =>
                have h5 := fun nd => (HXX.out nd).out.cells.2.1
                simp [intOf, *]; omega
    · have HE := Lib.hid (blanks_over HD.out (by omega))
      have a1 : (s.size : Int) ≤ a := by omega
      have ha2 : a = s.size := by omega
      clear HD
      go_wp2
      go_quiet (fail)
      go_wp2
      rw [Exit.noGoto_ret]
      go_ret
      rw [HE.out]
      exact ⟨rfl, ha, HX.out, HO.out.drewN _⟩
end Go.Proofs.YtdabnnganponpaaGreatDoor
