/- The walks through package num: kinds. -/
import Derived.Test.YtdabnnganponpaaGreatDoorLexW
import Derived.Test.YtdabnnganponpaaGreatDoorAddrP
namespace Go.Proofs.YtdabnnganponpaaGreatDoor
open Go.RowKit Lx Ad

def kStr (l : List UInt8) : ByteArray := ⟨l.toArray⟩
def kName : Nat → ByteArray
  | 1 => ⟨#[66, 79, 79, 76]⟩
  | 2 => ⟨#[83, 73, 78, 84]⟩
  | 3 => ⟨#[73, 78, 84]⟩
  | 4 => ⟨#[68, 73, 78, 84]⟩
  | 5 => ⟨#[85, 83, 73, 78, 84]⟩
  | 6 => ⟨#[85, 73, 78, 84]⟩
  | 7 => ⟨#[85, 68, 73, 78, 84]⟩
  | 8 => ⟨#[66, 89, 84, 69]⟩
  | 9 => ⟨#[87, 79, 82, 68]⟩
  | 10 => ⟨#[68, 87, 79, 82, 68]⟩
  | 11 => ⟨#[84, 73, 77, 69]⟩
  | _ => ⟨#[]⟩
def kWidth : Nat → Int
  | 1 => 1 | 2 => 8 | 3 => 16 | 4 => 32 | 5 => 8 | 6 => 16 | 7 => 32 | 8 => 8 | 9 => 16 | 10 => 32 | 11 => 32 | _ => 0
def kSigned : Nat → Bool
  | 2 => true | 3 => true | 4 => true | 11 => true | _ => false
def kBits : Nat → Bool
  | 1 => true | 8 => true | 9 => true | 10 => true | _ => false

set_option maxHeartbeats 2000000 in
theorem of_k1 (w : World) :
    Calls Tryz.prog 57 #[.int .i64 1] w fun e w' => e = .returned (.tuple #[.agg #[.string (kName 1), .int .i64 (kWidth 1), .bool (kSigned 1), .bool (kBits 1)], .bool true]) ∧ Below w.heap.size w w' := by
  go_enter Tryz.func57, Tryz.ntmps57
  go_wp2
  exact bodyPost_ret (v := (.tuple #[.agg #[.string (kName 1), .int .i64 (kWidth 1), .bool (kSigned 1), .bool (kBits 1)], .bool true])) (by simp [results, Tryz.results57, go_sem, kName, kWidth, kSigned, kBits]) rfl ⟨rfl, (Below.refl _ _).alloc (Nat.le_refl _) _⟩
set_option maxHeartbeats 2000000 in
theorem of_k2 (w : World) :
    Calls Tryz.prog 57 #[.int .i64 2] w fun e w' => e = .returned (.tuple #[.agg #[.string (kName 2), .int .i64 (kWidth 2), .bool (kSigned 2), .bool (kBits 2)], .bool true]) ∧ Below w.heap.size w w' := by
  go_enter Tryz.func57, Tryz.ntmps57
  go_wp2
  exact bodyPost_ret (v := (.tuple #[.agg #[.string (kName 2), .int .i64 (kWidth 2), .bool (kSigned 2), .bool (kBits 2)], .bool true])) (by simp [results, Tryz.results57, go_sem, kName, kWidth, kSigned, kBits]) rfl ⟨rfl, (Below.refl _ _).alloc (Nat.le_refl _) _⟩
set_option maxHeartbeats 2000000 in
theorem of_k3 (w : World) :
    Calls Tryz.prog 57 #[.int .i64 3] w fun e w' => e = .returned (.tuple #[.agg #[.string (kName 3), .int .i64 (kWidth 3), .bool (kSigned 3), .bool (kBits 3)], .bool true]) ∧ Below w.heap.size w w' := by
  go_enter Tryz.func57, Tryz.ntmps57
  go_wp2
  exact bodyPost_ret (v := (.tuple #[.agg #[.string (kName 3), .int .i64 (kWidth 3), .bool (kSigned 3), .bool (kBits 3)], .bool true])) (by simp [results, Tryz.results57, go_sem, kName, kWidth, kSigned, kBits]) rfl ⟨rfl, (Below.refl _ _).alloc (Nat.le_refl _) _⟩
set_option maxHeartbeats 2000000 in
theorem of_k4 (w : World) :
    Calls Tryz.prog 57 #[.int .i64 4] w fun e w' => e = .returned (.tuple #[.agg #[.string (kName 4), .int .i64 (kWidth 4), .bool (kSigned 4), .bool (kBits 4)], .bool true]) ∧ Below w.heap.size w w' := by
  go_enter Tryz.func57, Tryz.ntmps57
  go_wp2
  exact bodyPost_ret (v := (.tuple #[.agg #[.string (kName 4), .int .i64 (kWidth 4), .bool (kSigned 4), .bool (kBits 4)], .bool true])) (by simp [results, Tryz.results57, go_sem, kName, kWidth, kSigned, kBits]) rfl ⟨rfl, (Below.refl _ _).alloc (Nat.le_refl _) _⟩
set_option maxHeartbeats 2000000 in
theorem of_k5 (w : World) :
    Calls Tryz.prog 57 #[.int .i64 5] w fun e w' => e = .returned (.tuple #[.agg #[.string (kName 5), .int .i64 (kWidth 5), .bool (kSigned 5), .bool (kBits 5)], .bool true]) ∧ Below w.heap.size w w' := by
  go_enter Tryz.func57, Tryz.ntmps57
  go_wp2
  exact bodyPost_ret (v := (.tuple #[.agg #[.string (kName 5), .int .i64 (kWidth 5), .bool (kSigned 5), .bool (kBits 5)], .bool true])) (by simp [results, Tryz.results57, go_sem, kName, kWidth, kSigned, kBits]) rfl ⟨rfl, (Below.refl _ _).alloc (Nat.le_refl _) _⟩
set_option maxHeartbeats 2000000 in
theorem of_k6 (w : World) :
    Calls Tryz.prog 57 #[.int .i64 6] w fun e w' => e = .returned (.tuple #[.agg #[.string (kName 6), .int .i64 (kWidth 6), .bool (kSigned 6), .bool (kBits 6)], .bool true]) ∧ Below w.heap.size w w' := by
  go_enter Tryz.func57, Tryz.ntmps57
  go_wp2
  exact bodyPost_ret (v := (.tuple #[.agg #[.string (kName 6), .int .i64 (kWidth 6), .bool (kSigned 6), .bool (kBits 6)], .bool true])) (by simp [results, Tryz.results57, go_sem, kName, kWidth, kSigned, kBits]) rfl ⟨rfl, (Below.refl _ _).alloc (Nat.le_refl _) _⟩
set_option maxHeartbeats 2000000 in
theorem of_k7 (w : World) :
    Calls Tryz.prog 57 #[.int .i64 7] w fun e w' => e = .returned (.tuple #[.agg #[.string (kName 7), .int .i64 (kWidth 7), .bool (kSigned 7), .bool (kBits 7)], .bool true]) ∧ Below w.heap.size w w' := by
  go_enter Tryz.func57, Tryz.ntmps57
  go_wp2
  exact bodyPost_ret (v := (.tuple #[.agg #[.string (kName 7), .int .i64 (kWidth 7), .bool (kSigned 7), .bool (kBits 7)], .bool true])) (by simp [results, Tryz.results57, go_sem, kName, kWidth, kSigned, kBits]) rfl ⟨rfl, (Below.refl _ _).alloc (Nat.le_refl _) _⟩
set_option maxHeartbeats 2000000 in
theorem of_k8 (w : World) :
    Calls Tryz.prog 57 #[.int .i64 8] w fun e w' => e = .returned (.tuple #[.agg #[.string (kName 8), .int .i64 (kWidth 8), .bool (kSigned 8), .bool (kBits 8)], .bool true]) ∧ Below w.heap.size w w' := by
  go_enter Tryz.func57, Tryz.ntmps57
  go_wp2
  exact bodyPost_ret (v := (.tuple #[.agg #[.string (kName 8), .int .i64 (kWidth 8), .bool (kSigned 8), .bool (kBits 8)], .bool true])) (by simp [results, Tryz.results57, go_sem, kName, kWidth, kSigned, kBits]) rfl ⟨rfl, (Below.refl _ _).alloc (Nat.le_refl _) _⟩
set_option maxHeartbeats 2000000 in
theorem of_k9 (w : World) :
    Calls Tryz.prog 57 #[.int .i64 9] w fun e w' => e = .returned (.tuple #[.agg #[.string (kName 9), .int .i64 (kWidth 9), .bool (kSigned 9), .bool (kBits 9)], .bool true]) ∧ Below w.heap.size w w' := by
  go_enter Tryz.func57, Tryz.ntmps57
  go_wp2
  exact bodyPost_ret (v := (.tuple #[.agg #[.string (kName 9), .int .i64 (kWidth 9), .bool (kSigned 9), .bool (kBits 9)], .bool true])) (by simp [results, Tryz.results57, go_sem, kName, kWidth, kSigned, kBits]) rfl ⟨rfl, (Below.refl _ _).alloc (Nat.le_refl _) _⟩
set_option maxHeartbeats 2000000 in
theorem of_k10 (w : World) :
    Calls Tryz.prog 57 #[.int .i64 10] w fun e w' => e = .returned (.tuple #[.agg #[.string (kName 10), .int .i64 (kWidth 10), .bool (kSigned 10), .bool (kBits 10)], .bool true]) ∧ Below w.heap.size w w' := by
  go_enter Tryz.func57, Tryz.ntmps57
  go_wp2
  exact bodyPost_ret (v := (.tuple #[.agg #[.string (kName 10), .int .i64 (kWidth 10), .bool (kSigned 10), .bool (kBits 10)], .bool true])) (by simp [results, Tryz.results57, go_sem, kName, kWidth, kSigned, kBits]) rfl ⟨rfl, (Below.refl _ _).alloc (Nat.le_refl _) _⟩
set_option maxHeartbeats 2000000 in
theorem of_k11 (w : World) :
    Calls Tryz.prog 57 #[.int .i64 11] w fun e w' => e = .returned (.tuple #[.agg #[.string (kName 11), .int .i64 (kWidth 11), .bool (kSigned 11), .bool (kBits 11)], .bool true]) ∧ Below w.heap.size w w' := by
  go_enter Tryz.func57, Tryz.ntmps57
  go_wp2
  exact bodyPost_ret (v := (.tuple #[.agg #[.string (kName 11), .int .i64 (kWidth 11), .bool (kSigned 11), .bool (kBits 11)], .bool true])) (by simp [results, Tryz.results57, go_sem, kName, kWidth, kSigned, kBits]) rfl ⟨rfl, (Below.refl _ _).alloc (Nat.le_refl _) _⟩

theorem of_at (k : Nat) (h1 : 1 ≤ k) (h2 : k ≤ 11) (w : World) :
    Calls Tryz.prog 57 #[.int .i64 k] w fun e w' => e = .returned (.tuple #[.agg #[.string (kName k), .int .i64 (kWidth k), .bool (kSigned k), .bool (kBits k)], .bool true]) ∧ Below w.heap.size w w' := by
  have h : k = 1 ∨ k = 2 ∨ k = 3 ∨ k = 4 ∨ k = 5 ∨ k = 6 ∨ k = 7 ∨ k = 8 ∨ k = 9 ∨ k = 10 ∨ k = 11 := by omega
  rcases h with rfl | rfl | rfl | rfl | rfl | rfl | rfl | rfl | rfl | rfl | rfl
  · exact of_k1 w
  · exact of_k2 w
  · exact of_k3 w
  · exact of_k4 w
  · exact of_k5 w
  · exact of_k6 w
  · exact of_k7 w
  · exact of_k8 w
  · exact of_k9 w
  · exact of_k10 w
  · exact of_k11 w

set_option maxHeartbeats 2000000 in
theorem kname_at (k : Nat) (h1 : 1 ≤ k) (h2 : k ≤ 11) (w : World) :
    Calls Tryz.prog 31 #[.int .i64 k] w fun e w' => e = .returned (.string (kName k)) ∧ Below w.heap.size w w' := by
  have hc := of_at k h1 h2 w
  obtain ⟨a, ha⟩ : ∃ a, kName k = a := ⟨_, rfl⟩
  obtain ⟨b, hb⟩ : ∃ a, kWidth k = a := ⟨_, rfl⟩
  obtain ⟨c, hc'⟩ : ∃ a, kSigned k = a := ⟨_, rfl⟩
  obtain ⟨d, hd⟩ : ∃ a, kBits k = a := ⟨_, rfl⟩
  rw [ha, hb, hc', hd] at hc
  rw [ha]
  clear ha hb hc' hd
  have HC := Lib.hid hc
  clear hc
  go_enter Tryz.func31, Tryz.ntmps31
  go_wp2_with (go_at_call 57; refine HC.out.mono ?_; rintro e w1 ⟨rfl, hb1⟩)
  go_ret
  exact ⟨rfl, hb1.alloc hb1.size _⟩

set_option maxHeartbeats 2000000 in
theorem ksigned_at (k : Nat) (h1 : 1 ≤ k) (h2 : k ≤ 11) (w : World) :
    Calls Tryz.prog 65 #[.int .i64 k] w fun e w' => e = .returned (.bool (kSigned k)) ∧ Below w.heap.size w w' := by
  have hc := of_at k h1 h2 w
  obtain ⟨a, ha⟩ : ∃ a, kName k = a := ⟨_, rfl⟩
  obtain ⟨b, hb⟩ : ∃ a, kWidth k = a := ⟨_, rfl⟩
  obtain ⟨c, hc'⟩ : ∃ a, kSigned k = a := ⟨_, rfl⟩
  obtain ⟨d, hd⟩ : ∃ a, kBits k = a := ⟨_, rfl⟩
  rw [ha, hb, hc', hd] at hc
  rw [hc']
  clear ha hb hc' hd
  have HC := Lib.hid hc
  clear hc
  go_enter Tryz.func65, Tryz.ntmps65
  go_wp2_with (go_at_call 57; refine HC.out.mono ?_; rintro e w1 ⟨rfl, hb1⟩)
  go_ret
  exact ⟨rfl, hb1.alloc hb1.size _⟩

def kindF (x : ByteArray) : Nat → Nat → Nat
  | 0, _ => 0
  | n + 1, k => if kName k = x then k else kindF x n (k + 1)
/-- A kind's number by its name, or 0. -/
def kindOf (x : ByteArray) : Nat := kindF x 11 1

def KindAt (x : ByteArray) (r k : Nat) : Prop := kindF x (12 - k) k = r
theorem KindAt.hit {x : ByteArray} {r k : Nat} (h : KindAt x r k) (hk : k ≤ 11) (he : kName k = x) : k = r := by
  unfold KindAt at h; rw [show 12 - k = (11 - k) + 1 by omega, kindF, if_pos he] at h; exact h
theorem KindAt.miss {x : ByteArray} {r k : Nat} (h : KindAt x r k) (hk : k ≤ 11) (he : ¬ kName k = x) : KindAt x r (k + 1) := by
  unfold KindAt at h ⊢; rw [show 12 - k = (11 - k) + 1 by omega, kindF, if_neg he] at h; rw [show 12 - (k + 1) = 11 - k by omega]; exact h
theorem kindF_le (x : ByteArray) (n k : Nat) : kindF x n k = 0 ∨ (k ≤ kindF x n k ∧ kindF x n k < k + n) := by
  induction n generalizing k with
  | zero => exact .inl rfl
  | succ n ih =>
    simp only [kindF]
    split
    · right; omega
    · rcases ih (k + 1) with h | h
      · exact .inl h
      · right; omega
theorem kindOf_le (x : ByteArray) : kindOf x ≤ 11 := by have := kindF_le x 11 1; unfold kindOf; omega
theorem kindOf_empty : kindOf ⟨#[]⟩ = 0 := by decide +kernel

theorem ret_nat {a b : Nat} (h : a = b) : Ending.returned (.int .i64 (a : Int)) = .returned (.int .i64 (b : Int)) := by rw [h]

theorem ba_eq_iff (a x : ByteArray) : (a.toList == x.toList) = true ↔ a = x := by
  rw [ByteArray.toList_eq, ByteArray.toList_eq, beq_iff_eq]
  constructor
  · intro h; exact ByteArray.ext (Array.toList_inj.1 h)
  · rintro rfl; rfl

theorem kindOf_nil {x : ByteArray} (h : x.toList.isEmpty = true) : kindOf x = 0 := by
  have h2 : x = ⟨#[]⟩ := by
    rw [ByteArray.toList_eq] at h
    exact ByteArray.ext (Array.toList_inj.1 (by simpa using h))
  rw [h2, kindOf_empty]

set_option maxHeartbeats 2000000 in
theorem kind_at {x : ByteArray} {r : Nat} (hr : kindOf x = r) (w : World) :
    Calls Tryz.prog 13 #[.string x] w fun e w' => e = .returned (.int .i64 r) ∧ Below w.heap.size w w' := by
  obtain ⟨b, hb0⟩ : ∃ b, x.toList.isEmpty = b := ⟨_, rfl⟩
  have HR : Hid (KindAt x r 1) := Lib.hid hr
  have H0 : Hid (b = true → r = 0) := Lib.hid (fun h => by rw [← hr]; exact kindOf_nil (hb0.trans h))
  clear hr
  go_enter Tryz.func13, Tryz.ntmps13
  go_wp2
  go_loopw [3] (fun i wr => ∃ k : Nat, 1 ≤ k ∧ k ≤ 12 ∧ i = .int .i64 k ∧ Hid (KindAt x r k) ∧ Below w.heap.size w wr) (fun i _ => 12 - (intOf i).toNat)
  case atStart => exact ⟨1, by omega, by omega, rfl, HR, Below.refl _ _⟩
  case round =>
    obtain ⟨k, hk1, hk2, rfl, HD, hb⟩ := hrel
    obtain ⟨WR, rfl⟩ : ∃ WR, WR = wr := ⟨_, rfl⟩
    by_cases hlt : k ≤ 11
    · have hcall := kname_at k hk1 hlt
      have hhit := HD.out.hit hlt
      have hmiss := HD.out.miss hlt
      obtain ⟨a, ha⟩ : ∃ a, kName k = a := ⟨_, rfl⟩
      have HC : Hid (∀ w, Calls Tryz.prog 31 #[.int .i64 k] w fun e w' => e = .returned (.string a) ∧ Below w.heap.size w w') := Lib.hid (by intro w; have := hcall w; rw [ha] at this; exact this)
      rw [ha] at hhit hmiss
      have HH := Lib.hid hhit
      have HM := Lib.hid hmiss
      clear hhit hmiss hcall ha HD
      cases b with
      | true =>
        have HZ := Lib.hid (H0.out rfl)
        clear H0
        go_wp2
        go_ret
        exact ⟨ret_i64 (by rw [HZ.out]; rfl), hb⟩
      | false =>
        obtain ⟨d, hd⟩ : ∃ d, (a.toList == x.toList) = d := ⟨_, rfl⟩
        cases d with
        | true =>
          have HE := Lib.hid ((ba_eq_iff a x).1 hd)
          go_wp2_with (go_at_call 31; refine (HC.out _).mono ?_; rintro e w1 ⟨rfl, hb1⟩)
          go_ret
          exact ⟨ret_nat (HH.out HE.out), btr hb hb1⟩
        | false =>
          have HE : Hid (¬ a = x) := Lib.hid (fun h => by rw [(ba_eq_iff a x).2 h] at hd; cases hd)
          go_wp2_with (go_at_call 31; refine (HC.out _).mono ?_; rintro e w1 ⟨rfl, hb1⟩)
          go_roundw
          case rel => exact ⟨k + 1, by omega, by omega, by go_num, Lib.hid (HM.out HE.out), btr hb hb1⟩
          case measure => simp [intOf]; omega
    · have HE : Hid (r = 0) := Lib.hid (by have := HD.out; unfold KindAt at this; rw [show 12 - k = 0 by omega] at this; exact this.symm)
      clear HD
      go_wp2
      go_ret
      exact ⟨ret_i64 (by rw [HE.out]; rfl), hb⟩

/-- A number cut to its kind. -/
def kWrap (k : Nat) (n : Int) : Int := match k with
  | 1 => if n = 0 then 0 else 1
  | 2 => IntKind.i8.wrap n | 3 => IntKind.i16.wrap n | 4 => IntKind.i32.wrap n | 11 => IntKind.i32.wrap n
  | 5 => IntKind.u8.wrap n | 6 => IntKind.u16.wrap n | 7 => IntKind.u32.wrap n
  | 8 => IntKind.u8.wrap n | 9 => IntKind.u16.wrap n | 10 => IntKind.u32.wrap n
  | _ => 0

set_option maxHeartbeats 400000 in
theorem truth_any (b : Bool) (w : World) :
    Calls Tryz.prog 83 #[.bool b] w fun e w' => e = .returned (.int .i64 (if b then 1 else 0)) ∧ w = w' := by
  cases b
  all_goals
    go_enter Tryz.func83, Tryz.ntmps83
    go_wp2
    go_ret; exact ⟨rfl, rfl⟩

theorem lwrap_i8 (n : Int) : IntKind.i8.wrap n = (n + 128) % 256 - 128 := by
  simp only [IntKind.wrap, IntKind.bits, IntKind.signed]; simp; omega
theorem lwrap_i16 (n : Int) : IntKind.i16.wrap n = (n + 32768) % 65536 - 32768 := by
  simp only [IntKind.wrap, IntKind.bits, IntKind.signed]; simp; omega
set_option maxHeartbeats 2000000 in
theorem wrap_k1 (n : Int) (w : World) :
    Calls Tryz.prog 63 #[.int .i64 1, .int .i64 n] w fun e w' => e = .returned (.int .i64 (kWrap 1 n)) ∧ Below w.heap.size w w' := by
  by_cases h : n = 0
  · subst h
    go_enter Tryz.func63, Tryz.ntmps63
    go_wp2_with (first
      | (go_at_call 57; refine (of_k1 _).mono ?_; rintro e w1 ⟨rfl, hb1⟩; simp only [kName, kWidth, kSigned, kBits])
      | (go_at_call 83; refine (truth_any _ _).mono ?_; rintro e w2 ⟨rfl, rfl⟩))
    go_ret
    exact ⟨rfl, hb1.alloc hb1.size _⟩
  · have hn : ¬ n = 0 := h
    go_enter Tryz.func63, Tryz.ntmps63
    go_wp2_with (first
      | (go_at_call 57; refine (of_k1 _).mono ?_; rintro e w1 ⟨rfl, hb1⟩; simp only [kName, kWidth, kSigned, kBits])
      | (go_at_call 83; refine (truth_any _ _).mono ?_; rintro e w2 ⟨rfl, rfl⟩))
    go_ret
    exact ⟨ret_i64 (by simp [kWrap, hn]), hb1.alloc hb1.size _⟩
set_option maxHeartbeats 2000000 in
theorem wrap_k2 (n : Int) (h : Is64 n) (w : World) :
    Calls Tryz.prog 63 #[.int .i64 2, .int .i64 n] w fun e w' => e = .returned (.int .i64 (kWrap 2 n)) ∧ Below w.heap.size w w' := by
  obtain ⟨h1, h2⟩ := h
  go_enter Tryz.func63, Tryz.ntmps63
  go_wp2_with (go_at_call 57; refine (of_k2 _).mono ?_; rintro e w1 ⟨rfl, hb1⟩; simp only [kName, kWidth, kSigned, kBits])
  go_ret
  exact ⟨ret_i64 (by simp only [kWrap, lwrap_i8, wrap64]; omega), hb1.alloc hb1.size _⟩
set_option maxHeartbeats 2000000 in
theorem wrap_k3 (n : Int) (h : Is64 n) (w : World) :
    Calls Tryz.prog 63 #[.int .i64 3, .int .i64 n] w fun e w' => e = .returned (.int .i64 (kWrap 3 n)) ∧ Below w.heap.size w w' := by
  obtain ⟨h1, h2⟩ := h
  go_enter Tryz.func63, Tryz.ntmps63
  go_wp2_with (go_at_call 57; refine (of_k3 _).mono ?_; rintro e w1 ⟨rfl, hb1⟩; simp only [kName, kWidth, kSigned, kBits])
  go_ret
  exact ⟨ret_i64 (by simp only [kWrap, lwrap_i16, wrap64]; omega), hb1.alloc hb1.size _⟩
set_option maxHeartbeats 2000000 in
theorem wrap_k4 (n : Int) (h : Is64 n) (w : World) :
    Calls Tryz.prog 63 #[.int .i64 4, .int .i64 n] w fun e w' => e = .returned (.int .i64 (kWrap 4 n)) ∧ Below w.heap.size w w' := by
  obtain ⟨h1, h2⟩ := h
  go_enter Tryz.func63, Tryz.ntmps63
  go_wp2_with (go_at_call 57; refine (of_k4 _).mono ?_; rintro e w1 ⟨rfl, hb1⟩; simp only [kName, kWidth, kSigned, kBits])
  go_ret
  exact ⟨ret_i64 (by simp only [kWrap, IntKind.wrap_i32, wrap64]; omega), hb1.alloc hb1.size _⟩
set_option maxHeartbeats 2000000 in
theorem wrap_k5 (n : Int) (h : Is64 n) (w : World) :
    Calls Tryz.prog 63 #[.int .i64 5, .int .i64 n] w fun e w' => e = .returned (.int .i64 (kWrap 5 n)) ∧ Below w.heap.size w w' := by
  obtain ⟨h1, h2⟩ := h
  go_enter Tryz.func63, Tryz.ntmps63
  go_wp2_with (go_at_call 57; refine (of_k5 _).mono ?_; rintro e w1 ⟨rfl, hb1⟩; simp only [kName, kWidth, kSigned, kBits])
  go_ret
  exact ⟨ret_i64 (by simp only [kWrap, IntKind.wrap_u8, IntKind.wrap_u64, wrap64]; omega), hb1.alloc hb1.size _⟩
set_option maxHeartbeats 2000000 in
theorem wrap_k6 (n : Int) (h : Is64 n) (w : World) :
    Calls Tryz.prog 63 #[.int .i64 6, .int .i64 n] w fun e w' => e = .returned (.int .i64 (kWrap 6 n)) ∧ Below w.heap.size w w' := by
  obtain ⟨h1, h2⟩ := h
  go_enter Tryz.func63, Tryz.ntmps63
  go_wp2_with (go_at_call 57; refine (of_k6 _).mono ?_; rintro e w1 ⟨rfl, hb1⟩; simp only [kName, kWidth, kSigned, kBits])
  go_ret
  exact ⟨ret_i64 (by simp only [kWrap, IntKind.wrap_u16, IntKind.wrap_u64, wrap64]; omega), hb1.alloc hb1.size _⟩
set_option maxHeartbeats 2000000 in
theorem wrap_k7 (n : Int) (h : Is64 n) (w : World) :
    Calls Tryz.prog 63 #[.int .i64 7, .int .i64 n] w fun e w' => e = .returned (.int .i64 (kWrap 7 n)) ∧ Below w.heap.size w w' := by
  obtain ⟨h1, h2⟩ := h
  go_enter Tryz.func63, Tryz.ntmps63
  go_wp2_with (go_at_call 57; refine (of_k7 _).mono ?_; rintro e w1 ⟨rfl, hb1⟩; simp only [kName, kWidth, kSigned, kBits])
  go_ret
  exact ⟨ret_i64 (by simp only [kWrap, IntKind.wrap_u32, IntKind.wrap_u64, wrap64]; omega), hb1.alloc hb1.size _⟩
set_option maxHeartbeats 2000000 in
theorem wrap_k8 (n : Int) (h : Is64 n) (w : World) :
    Calls Tryz.prog 63 #[.int .i64 8, .int .i64 n] w fun e w' => e = .returned (.int .i64 (kWrap 8 n)) ∧ Below w.heap.size w w' := by
  obtain ⟨h1, h2⟩ := h
  go_enter Tryz.func63, Tryz.ntmps63
  go_wp2_with (go_at_call 57; refine (of_k8 _).mono ?_; rintro e w1 ⟨rfl, hb1⟩; simp only [kName, kWidth, kSigned, kBits])
  go_ret
  exact ⟨ret_i64 (by simp only [kWrap, IntKind.wrap_u8, IntKind.wrap_u64, wrap64]; omega), hb1.alloc hb1.size _⟩
set_option maxHeartbeats 2000000 in
theorem wrap_k9 (n : Int) (h : Is64 n) (w : World) :
    Calls Tryz.prog 63 #[.int .i64 9, .int .i64 n] w fun e w' => e = .returned (.int .i64 (kWrap 9 n)) ∧ Below w.heap.size w w' := by
  obtain ⟨h1, h2⟩ := h
  go_enter Tryz.func63, Tryz.ntmps63
  go_wp2_with (go_at_call 57; refine (of_k9 _).mono ?_; rintro e w1 ⟨rfl, hb1⟩; simp only [kName, kWidth, kSigned, kBits])
  go_ret
  exact ⟨ret_i64 (by simp only [kWrap, IntKind.wrap_u16, IntKind.wrap_u64, wrap64]; omega), hb1.alloc hb1.size _⟩
set_option maxHeartbeats 2000000 in
theorem wrap_k10 (n : Int) (h : Is64 n) (w : World) :
    Calls Tryz.prog 63 #[.int .i64 10, .int .i64 n] w fun e w' => e = .returned (.int .i64 (kWrap 10 n)) ∧ Below w.heap.size w w' := by
  obtain ⟨h1, h2⟩ := h
  go_enter Tryz.func63, Tryz.ntmps63
  go_wp2_with (go_at_call 57; refine (of_k10 _).mono ?_; rintro e w1 ⟨rfl, hb1⟩; simp only [kName, kWidth, kSigned, kBits])
  go_ret
  exact ⟨ret_i64 (by simp only [kWrap, IntKind.wrap_u32, IntKind.wrap_u64, wrap64]; omega), hb1.alloc hb1.size _⟩
set_option maxHeartbeats 2000000 in
theorem wrap_k11 (n : Int) (h : Is64 n) (w : World) :
    Calls Tryz.prog 63 #[.int .i64 11, .int .i64 n] w fun e w' => e = .returned (.int .i64 (kWrap 11 n)) ∧ Below w.heap.size w w' := by
  obtain ⟨h1, h2⟩ := h
  go_enter Tryz.func63, Tryz.ntmps63
  go_wp2_with (go_at_call 57; refine (of_k11 _).mono ?_; rintro e w1 ⟨rfl, hb1⟩; simp only [kName, kWidth, kSigned, kBits])
  go_ret
  exact ⟨ret_i64 (by simp only [kWrap, IntKind.wrap_i32, wrap64]; omega), hb1.alloc hb1.size _⟩

theorem kwrap_at (k : Nat) (hk1 : 1 ≤ k) (hk2 : k ≤ 11) (n : Int) (h : Is64 n) (w : World) :
    Calls Tryz.prog 63 #[.int .i64 k, .int .i64 n] w fun e w' => e = .returned (.int .i64 (kWrap k n)) ∧ Below w.heap.size w w' := by
  have h' : k = 1 ∨ k = 2 ∨ k = 3 ∨ k = 4 ∨ k = 5 ∨ k = 6 ∨ k = 7 ∨ k = 8 ∨ k = 9 ∨ k = 10 ∨ k = 11 := by omega
  rcases h' with rfl | rfl | rfl | rfl | rfl | rfl | rfl | rfl | rfl | rfl | rfl
  · exact wrap_k1 n w
  · exact wrap_k2 n h w
  · exact wrap_k3 n h w
  · exact wrap_k4 n h w
  · exact wrap_k5 n h w
  · exact wrap_k6 n h w
  · exact wrap_k7 n h w
  · exact wrap_k8 n h w
  · exact wrap_k9 n h w
  · exact wrap_k10 n h w
  · exact wrap_k11 n h w
end Go.Proofs.YtdabnnganponpaaGreatDoor

/- Package lex in plain words, second part: typed numbers, times, words, tokens. -/
namespace Go.Proofs.YtdabnnganponpaaGreatDoor
open Go.RowKit Lx

def strTrue : List UInt8 := [84, 82, 85, 69]
def strFalse : List UInt8 := [70, 65, 76, 83, 69]

/-- A number behind its kind. -/
def lTyped (l : List UInt8) (at_ k : Nat) : Tok × Nat × Int :=
  let rest := l.drop at_
  let w := rest.take (span wordB rest)
  if k = 1 ∧ (w = strTrue ∨ w = strFalse) then (⟨3, k, if w = strTrue then 1 else 0, [], 0⟩, at_ + w.length, 0)
  else if kSigned k = true ∧ Lib.hasPrefix rest [45] = true then
    let d := digits (rest.drop 1) 10
    if d.2 = 0 then (tok0, 0, 120)
    else if -d.1 = kWrap k (-d.1) then (⟨3, k, -d.1, [], 0⟩, at_ + 1 + d.2, 0) else (tok0, 0, 163)
  else
    let m := Lx.number rest
    if m.2.2 ≠ 0 then (tok0, 0, m.2.2)
    else if m.1 = kWrap k m.1 then (⟨3, k, m.1, [], 0⟩, at_ + m.2.1, 0) else (tok0, 0, 163)

def tokV (t : Tok) : Value := .agg #[.int .i64 t.tok, .int .i64 t.kind, .int .i64 t.n, .string ⟨t.text.toArray⟩, .int .i64 t.at_]
def tokR (r : Tok × Nat × Int) : Ending := .returned (.tuple #[tokV r.1, .int .i64 r.2.1, .int .i64 r.2.2])
end Go.Proofs.YtdabnnganponpaaGreatDoor
