/- The walks through package num: kinds. -/
import Derived.Test.YtdpkjpjkdmkkpaaGreatDoorMA
import Derived.Deep.RegionHeld3
import Derived.Handy
namespace Go.Proofs.YtdpkjpjkdmkkpaaGreatDoor
open Go.RowKit Lx Ad

def kStr (l : List UInt8) : ByteArray := ⟨l.toArray⟩
def kName : Nat → ByteArray
  | 1 => ⟨#[66, 79, 79, 76]⟩
  | 2 => ⟨#[83, 73, 78, 84]⟩
  | 3 => ⟨#[73, 78, 84]⟩
  | 4 => ⟨#[68, 73, 78, 84]⟩
  | 5 => ⟨#[85, 83, 73, 78, 84]⟩
  | 6 => ⟨#[85, 73, 78, 84]⟩
  | 7 => ⟨#[85, 68, 73, 78, 84]⟩
  | 8 => ⟨#[66, 89, 84, 69]⟩
  | 9 => ⟨#[87, 79, 82, 68]⟩
  | 10 => ⟨#[68, 87, 79, 82, 68]⟩
  | 11 => ⟨#[84, 73, 77, 69]⟩
  | _ => ⟨#[]⟩
def kWidth : Nat → Int
  | 1 => 1 | 2 => 8 | 3 => 16 | 4 => 32 | 5 => 8 | 6 => 16 | 7 => 32 | 8 => 8 | 9 => 16 | 10 => 32 | 11 => 32 | _ => 0
def kSigned : Nat → Bool
  | 2 => true | 3 => true | 4 => true | 11 => true | _ => false
def kBits : Nat → Bool
  | 1 => true | 8 => true | 9 => true | 10 => true | _ => false

set_option maxHeartbeats 2000000 in
theorem of_k1 (w : World) :
    Calls Tryz.prog 92 #[.int .i64 1] w fun e w' => e = .returned (.tuple #[.agg #[.string (kName 1), .int .i64 (kWidth 1), .bool (kSigned 1), .bool (kBits 1)], .bool true]) ∧ Below w.heap.size w w' := by
  go_enter Tryz.func92, Tryz.ntmps92
  go_wp2
  exact bodyPost_ret (v := (.tuple #[.agg #[.string (kName 1), .int .i64 (kWidth 1), .bool (kSigned 1), .bool (kBits 1)], .bool true])) (by simp [results, Tryz.results92, go_sem, kName, kWidth, kSigned, kBits]) rfl ⟨rfl, (Below.refl _ _).alloc (Nat.le_refl _) _⟩
set_option maxHeartbeats 2000000 in
theorem of_k2 (w : World) :
    Calls Tryz.prog 92 #[.int .i64 2] w fun e w' => e = .returned (.tuple #[.agg #[.string (kName 2), .int .i64 (kWidth 2), .bool (kSigned 2), .bool (kBits 2)], .bool true]) ∧ Below w.heap.size w w' := by
  go_enter Tryz.func92, Tryz.ntmps92
  go_wp2
  exact bodyPost_ret (v := (.tuple #[.agg #[.string (kName 2), .int .i64 (kWidth 2), .bool (kSigned 2), .bool (kBits 2)], .bool true])) (by simp [results, Tryz.results92, go_sem, kName, kWidth, kSigned, kBits]) rfl ⟨rfl, (Below.refl _ _).alloc (Nat.le_refl _) _⟩
set_option maxHeartbeats 2000000 in
theorem of_k3 (w : World) :
    Calls Tryz.prog 92 #[.int .i64 3] w fun e w' => e = .returned (.tuple #[.agg #[.string (kName 3), .int .i64 (kWidth 3), .bool (kSigned 3), .bool (kBits 3)], .bool true]) ∧ Below w.heap.size w w' := by
  go_enter Tryz.func92, Tryz.ntmps92
  go_wp2
  exact bodyPost_ret (v := (.tuple #[.agg #[.string (kName 3), .int .i64 (kWidth 3), .bool (kSigned 3), .bool (kBits 3)], .bool true])) (by simp [results, Tryz.results92, go_sem, kName, kWidth, kSigned, kBits]) rfl ⟨rfl, (Below.refl _ _).alloc (Nat.le_refl _) _⟩
set_option maxHeartbeats 2000000 in
theorem of_k4 (w : World) :
    Calls Tryz.prog 92 #[.int .i64 4] w fun e w' => e = .returned (.tuple #[.agg #[.string (kName 4), .int .i64 (kWidth 4), .bool (kSigned 4), .bool (kBits 4)], .bool true]) ∧ Below w.heap.size w w' := by
  go_enter Tryz.func92, Tryz.ntmps92
  go_wp2
  exact bodyPost_ret (v := (.tuple #[.agg #[.string (kName 4), .int .i64 (kWidth 4), .bool (kSigned 4), .bool (kBits 4)], .bool true])) (by simp [results, Tryz.results92, go_sem, kName, kWidth, kSigned, kBits]) rfl ⟨rfl, (Below.refl _ _).alloc (Nat.le_refl _) _⟩
set_option maxHeartbeats 2000000 in
theorem of_k5 (w : World) :
    Calls Tryz.prog 92 #[.int .i64 5] w fun e w' => e = .returned (.tuple #[.agg #[.string (kName 5), .int .i64 (kWidth 5), .bool (kSigned 5), .bool (kBits 5)], .bool true]) ∧ Below w.heap.size w w' := by
  go_enter Tryz.func92, Tryz.ntmps92
  go_wp2
  exact bodyPost_ret (v := (.tuple #[.agg #[.string (kName 5), .int .i64 (kWidth 5), .bool (kSigned 5), .bool (kBits 5)], .bool true])) (by simp [results, Tryz.results92, go_sem, kName, kWidth, kSigned, kBits]) rfl ⟨rfl, (Below.refl _ _).alloc (Nat.le_refl _) _⟩
set_option maxHeartbeats 2000000 in
theorem of_k6 (w : World) :
    Calls Tryz.prog 92 #[.int .i64 6] w fun e w' => e = .returned (.tuple #[.agg #[.string (kName 6), .int .i64 (kWidth 6), .bool (kSigned 6), .bool (kBits 6)], .bool true]) ∧ Below w.heap.size w w' := by
  go_enter Tryz.func92, Tryz.ntmps92
  go_wp2
  exact bodyPost_ret (v := (.tuple #[.agg #[.string (kName 6), .int .i64 (kWidth 6), .bool (kSigned 6), .bool (kBits 6)], .bool true])) (by simp [results, Tryz.results92, go_sem, kName, kWidth, kSigned, kBits]) rfl ⟨rfl, (Below.refl _ _).alloc (Nat.le_refl _) _⟩
set_option maxHeartbeats 2000000 in
theorem of_k7 (w : World) :
    Calls Tryz.prog 92 #[.int .i64 7] w fun e w' => e = .returned (.tuple #[.agg #[.string (kName 7), .int .i64 (kWidth 7), .bool (kSigned 7), .bool (kBits 7)], .bool true]) ∧ Below w.heap.size w w' := by
  go_enter Tryz.func92, Tryz.ntmps92
  go_wp2
  exact bodyPost_ret (v := (.tuple #[.agg #[.string (kName 7), .int .i64 (kWidth 7), .bool (kSigned 7), .bool (kBits 7)], .bool true])) (by simp [results, Tryz.results92, go_sem, kName, kWidth, kSigned, kBits]) rfl ⟨rfl, (Below.refl _ _).alloc (Nat.le_refl _) _⟩
set_option maxHeartbeats 2000000 in
theorem of_k8 (w : World) :
    Calls Tryz.prog 92 #[.int .i64 8] w fun e w' => e = .returned (.tuple #[.agg #[.string (kName 8), .int .i64 (kWidth 8), .bool (kSigned 8), .bool (kBits 8)], .bool true]) ∧ Below w.heap.size w w' := by
  go_enter Tryz.func92, Tryz.ntmps92
  go_wp2
  exact bodyPost_ret (v := (.tuple #[.agg #[.string (kName 8), .int .i64 (kWidth 8), .bool (kSigned 8), .bool (kBits 8)], .bool true])) (by simp [results, Tryz.results92, go_sem, kName, kWidth, kSigned, kBits]) rfl ⟨rfl, (Below.refl _ _).alloc (Nat.le_refl _) _⟩
set_option maxHeartbeats 2000000 in
theorem of_k9 (w : World) :
    Calls Tryz.prog 92 #[.int .i64 9] w fun e w' => e = .returned (.tuple #[.agg #[.string (kName 9), .int .i64 (kWidth 9), .bool (kSigned 9), .bool (kBits 9)], .bool true]) ∧ Below w.heap.size w w' := by
  go_enter Tryz.func92, Tryz.ntmps92
  go_wp2
  exact bodyPost_ret (v := (.tuple #[.agg #[.string (kName 9), .int .i64 (kWidth 9), .bool (kSigned 9), .bool (kBits 9)], .bool true])) (by simp [results, Tryz.results92, go_sem, kName, kWidth, kSigned, kBits]) rfl ⟨rfl, (Below.refl _ _).alloc (Nat.le_refl _) _⟩
set_option maxHeartbeats 2000000 in
theorem of_k10 (w : World) :
    Calls Tryz.prog 92 #[.int .i64 10] w fun e w' => e = .returned (.tuple #[.agg #[.string (kName 10), .int .i64 (kWidth 10), .bool (kSigned 10), .bool (kBits 10)], .bool true]) ∧ Below w.heap.size w w' := by
  go_enter Tryz.func92, Tryz.ntmps92
  go_wp2
  exact bodyPost_ret (v := (.tuple #[.agg #[.string (kName 10), .int .i64 (kWidth 10), .bool (kSigned 10), .bool (kBits 10)], .bool true])) (by simp [results, Tryz.results92, go_sem, kName, kWidth, kSigned, kBits]) rfl ⟨rfl, (Below.refl _ _).alloc (Nat.le_refl _) _⟩
set_option maxHeartbeats 2000000 in
theorem of_k11 (w : World) :
    Calls Tryz.prog 92 #[.int .i64 11] w fun e w' => e = .returned (.tuple #[.agg #[.string (kName 11), .int .i64 (kWidth 11), .bool (kSigned 11), .bool (kBits 11)], .bool true]) ∧ Below w.heap.size w w' := by
  go_enter Tryz.func92, Tryz.ntmps92
  go_wp2
  exact bodyPost_ret (v := (.tuple #[.agg #[.string (kName 11), .int .i64 (kWidth 11), .bool (kSigned 11), .bool (kBits 11)], .bool true])) (by simp [results, Tryz.results92, go_sem, kName, kWidth, kSigned, kBits]) rfl ⟨rfl, (Below.refl _ _).alloc (Nat.le_refl _) _⟩

theorem of_at (k : Nat) (h1 : 1 ≤ k) (h2 : k ≤ 11) (w : World) :
    Calls Tryz.prog 92 #[.int .i64 k] w fun e w' => e = .returned (.tuple #[.agg #[.string (kName k), .int .i64 (kWidth k), .bool (kSigned k), .bool (kBits k)], .bool true]) ∧ Below w.heap.size w w' := by
  have h : k = 1 ∨ k = 2 ∨ k = 3 ∨ k = 4 ∨ k = 5 ∨ k = 6 ∨ k = 7 ∨ k = 8 ∨ k = 9 ∨ k = 10 ∨ k = 11 := by omega
  rcases h with rfl | rfl | rfl | rfl | rfl | rfl | rfl | rfl | rfl | rfl | rfl
  · exact of_k1 w
  · exact of_k2 w
  · exact of_k3 w
  · exact of_k4 w
  · exact of_k5 w
  · exact of_k6 w
  · exact of_k7 w
  · exact of_k8 w
  · exact of_k9 w
  · exact of_k10 w
  · exact of_k11 w

set_option maxHeartbeats 2000000 in
theorem kname_at (k : Nat) (h1 : 1 ≤ k) (h2 : k ≤ 11) (w : World) :
    Calls Tryz.prog 78 #[.int .i64 k] w fun e w' => e = .returned (.string (kName k)) ∧ Below w.heap.size w w' := by
  have hc := of_at k h1 h2 w
  obtain ⟨a, ha⟩ : ∃ a, kName k = a := ⟨_, rfl⟩
  obtain ⟨b, hb⟩ : ∃ a, kWidth k = a := ⟨_, rfl⟩
  obtain ⟨c, hc'⟩ : ∃ a, kSigned k = a := ⟨_, rfl⟩
  obtain ⟨d, hd⟩ : ∃ a, kBits k = a := ⟨_, rfl⟩
  rw [ha, hb, hc', hd] at hc
  rw [ha]
  clear ha hb hc' hd
  have HC := Lib.hid hc
  clear hc
  go_enter Tryz.func78, Tryz.ntmps78
  go_wp2_with (go_at_call 92; refine HC.out.mono ?_; rintro e w1 ⟨rfl, hb1⟩)
  go_ret
  exact ⟨rfl, hb1.alloc hb1.size _⟩

def kindF (x : ByteArray) : Nat → Nat → Nat
  | 0, _ => 0
  | n + 1, k => if kName k = x then k else kindF x n (k + 1)
/-- A kind's number by its name, or 0. -/
def kindOf (x : ByteArray) : Nat := kindF x 11 1

def KindAt (x : ByteArray) (r k : Nat) : Prop := kindF x (12 - k) k = r
theorem KindAt.hit {x : ByteArray} {r k : Nat} (h : KindAt x r k) (hk : k ≤ 11) (he : kName k = x) : k = r := by
  unfold KindAt at h; rw [show 12 - k = (11 - k) + 1 by omega, kindF, if_pos he] at h; exact h
theorem KindAt.miss {x : ByteArray} {r k : Nat} (h : KindAt x r k) (hk : k ≤ 11) (he : ¬ kName k = x) : KindAt x r (k + 1) := by
  unfold KindAt at h ⊢; rw [show 12 - k = (11 - k) + 1 by omega, kindF, if_neg he] at h; rw [show 12 - (k + 1) = 11 - k by omega]; exact h
theorem kindF_le (x : ByteArray) (n k : Nat) : kindF x n k = 0 ∨ (k ≤ kindF x n k ∧ kindF x n k < k + n) := by
  induction n generalizing k with
  | zero => exact .inl rfl
  | succ n ih =>
    simp only [kindF]
    split
    · right; omega
    · rcases ih (k + 1) with h | h
      · exact .inl h
      · right; omega
theorem kindOf_le (x : ByteArray) : kindOf x ≤ 11 := by have := kindF_le x 11 1; unfold kindOf; omega
theorem kindOf_empty : kindOf ⟨#[]⟩ = 0 := by decide +kernel

theorem ret_nat {a b : Nat} (h : a = b) : Ending.returned (.int .i64 (a : Int)) = .returned (.int .i64 (b : Int)) := by rw [h]

theorem ba_eq_iff (a x : ByteArray) : (a.toList == x.toList) = true ↔ a = x := by
  rw [ByteArray.toList_eq, ByteArray.toList_eq, beq_iff_eq]
  constructor
  · intro h; exact ByteArray.ext (Array.toList_inj.1 h)
  · rintro rfl; rfl

theorem kindOf_nil {x : ByteArray} (h : x.toList.isEmpty = true) : kindOf x = 0 := by
  have h2 : x = ⟨#[]⟩ := by
    rw [ByteArray.toList_eq] at h
    exact ByteArray.ext (Array.toList_inj.1 (by simpa using h))
  rw [h2, kindOf_empty]

set_option maxHeartbeats 2000000 in
theorem kind_at {x : ByteArray} {r : Nat} (hr : kindOf x = r) (w : World) :
    Calls Tryz.prog 44 #[.string x] w fun e w' => e = .returned (.int .i64 r) ∧ Below w.heap.size w w' := by
  obtain ⟨b, hb0⟩ : ∃ b, x.toList.isEmpty = b := ⟨_, rfl⟩
  have HR : Hid (KindAt x r 1) := Lib.hid hr
  have H0 : Hid (b = true → r = 0) := Lib.hid (fun h => by rw [← hr]; exact kindOf_nil (hb0.trans h))
  clear hr
  go_enter Tryz.func44, Tryz.ntmps44
  go_wp2
  go_loopw [3] (fun i wr => ∃ k : Nat, 1 ≤ k ∧ k ≤ 12 ∧ i = .int .i64 k ∧ Hid (KindAt x r k) ∧ Below w.heap.size w wr) (fun i _ => 12 - (intOf i).toNat)
  case atStart => exact ⟨1, by omega, by omega, rfl, HR, Below.refl _ _⟩
  case round =>
    obtain ⟨k, hk1, hk2, rfl, HD, hb⟩ := hrel
    obtain ⟨WR, rfl⟩ : ∃ WR, WR = wr := ⟨_, rfl⟩
    by_cases hlt : k ≤ 11
    · have hcall := kname_at k hk1 hlt
      have hhit := HD.out.hit hlt
      have hmiss := HD.out.miss hlt
      obtain ⟨a, ha⟩ : ∃ a, kName k = a := ⟨_, rfl⟩
      have HC : Hid (∀ w, Calls Tryz.prog 78 #[.int .i64 k] w fun e w' => e = .returned (.string a) ∧ Below w.heap.size w w') := Lib.hid (by intro w; have := hcall w; rw [ha] at this; exact this)
      rw [ha] at hhit hmiss
      have HH := Lib.hid hhit
      have HM := Lib.hid hmiss
      clear hhit hmiss hcall ha HD
      cases b with
      | true =>
        have HZ := Lib.hid (H0.out rfl)
        clear H0
        go_wp2
        go_ret
        exact ⟨ret_i64 (by rw [HZ.out]; rfl), hb⟩
      | false =>
        obtain ⟨d, hd⟩ : ∃ d, (a.toList == x.toList) = d := ⟨_, rfl⟩
        cases d with
        | true =>
          have HE := Lib.hid ((ba_eq_iff a x).1 hd)
          go_wp2_with (go_at_call 78; refine (HC.out _).mono ?_; rintro e w1 ⟨rfl, hb1⟩)
          go_ret
          exact ⟨ret_nat (HH.out HE.out), btr hb hb1⟩
        | false =>
          have HE : Hid (¬ a = x) := Lib.hid (fun h => by rw [(ba_eq_iff a x).2 h] at hd; cases hd)
          go_wp2_with (go_at_call 78; refine (HC.out _).mono ?_; rintro e w1 ⟨rfl, hb1⟩)
          go_roundw
          case rel => exact ⟨k + 1, by omega, by omega, by go_num, Lib.hid (HM.out HE.out), btr hb hb1⟩
          case measure => simp [intOf]; omega
    · have HE : Hid (r = 0) := Lib.hid (by have := HD.out; unfold KindAt at this; rw [show 12 - k = 0 by omega] at this; exact this.symm)
      clear HD
      go_wp2
      go_ret
      exact ⟨ret_i64 (by rw [HE.out]; rfl), hb⟩

/-- A number cut to its kind. -/
def kWrap (k : Nat) (n : Int) : Int := match k with
  | 1 => if n = 0 then 0 else 1
  | 2 => IntKind.i8.wrap n | 3 => IntKind.i16.wrap n | 4 => IntKind.i32.wrap n | 11 => IntKind.i32.wrap n
  | 5 => IntKind.u8.wrap n | 6 => IntKind.u16.wrap n | 7 => IntKind.u32.wrap n
  | 8 => IntKind.u8.wrap n | 9 => IntKind.u16.wrap n | 10 => IntKind.u32.wrap n
  | _ => 0

set_option maxHeartbeats 400000 in
theorem truth_any (b : Bool) (w : World) :
    Calls Tryz.prog 131 #[.bool b] w fun e w' => e = .returned (.int .i64 (if b then 1 else 0)) ∧ w = w' := by
  cases b
  all_goals
    go_enter Tryz.func131, Tryz.ntmps131
    go_wp2
    go_ret; exact ⟨rfl, rfl⟩

theorem lwrap_i8 (n : Int) : IntKind.i8.wrap n = (n + 128) % 256 - 128 := by
  simp only [IntKind.wrap, IntKind.bits, IntKind.signed]; simp; omega
theorem lwrap_i16 (n : Int) : IntKind.i16.wrap n = (n + 32768) % 65536 - 32768 := by
  simp only [IntKind.wrap, IntKind.bits, IntKind.signed]; simp; omega
set_option maxHeartbeats 2000000 in
theorem wrap_k1 (n : Int) (w : World) :
    Calls Tryz.prog 116 #[.int .i64 1, .int .i64 n] w fun e w' => e = .returned (.int .i64 (kWrap 1 n)) ∧ Below w.heap.size w w' := by
  by_cases h : n = 0
  · subst h
    go_enter Tryz.func116, Tryz.ntmps116
    go_wp2_with (first
      | (go_at_call 92; refine (of_k1 _).mono ?_; rintro e w1 ⟨rfl, hb1⟩; simp only [kName, kWidth, kSigned, kBits])
      | (go_at_call 131; refine (truth_any _ _).mono ?_; rintro e w2 ⟨rfl, rfl⟩))
    go_ret
    exact ⟨rfl, hb1.alloc hb1.size _⟩
  · have hn : ¬ n = 0 := h
    go_enter Tryz.func116, Tryz.ntmps116
    go_wp2_with (first
      | (go_at_call 92; refine (of_k1 _).mono ?_; rintro e w1 ⟨rfl, hb1⟩; simp only [kName, kWidth, kSigned, kBits])
      | (go_at_call 131; refine (truth_any _ _).mono ?_; rintro e w2 ⟨rfl, rfl⟩))
    go_ret
    exact ⟨ret_i64 (by simp [kWrap, hn]), hb1.alloc hb1.size _⟩
set_option maxHeartbeats 2000000 in
theorem wrap_k2 (n : Int) (h : Is64 n) (w : World) :
    Calls Tryz.prog 116 #[.int .i64 2, .int .i64 n] w fun e w' => e = .returned (.int .i64 (kWrap 2 n)) ∧ Below w.heap.size w w' := by
  obtain ⟨h1, h2⟩ := h
  go_enter Tryz.func116, Tryz.ntmps116
  go_wp2_with (go_at_call 92; refine (of_k2 _).mono ?_; rintro e w1 ⟨rfl, hb1⟩; simp only [kName, kWidth, kSigned, kBits])
  go_ret
  exact ⟨ret_i64 (by simp only [kWrap, lwrap_i8, wrap64]; omega), hb1.alloc hb1.size _⟩
set_option maxHeartbeats 2000000 in
theorem wrap_k3 (n : Int) (h : Is64 n) (w : World) :
    Calls Tryz.prog 116 #[.int .i64 3, .int .i64 n] w fun e w' => e = .returned (.int .i64 (kWrap 3 n)) ∧ Below w.heap.size w w' := by
  obtain ⟨h1, h2⟩ := h
  go_enter Tryz.func116, Tryz.ntmps116
  go_wp2_with (go_at_call 92; refine (of_k3 _).mono ?_; rintro e w1 ⟨rfl, hb1⟩; simp only [kName, kWidth, kSigned, kBits])
  go_ret
  exact ⟨ret_i64 (by simp only [kWrap, lwrap_i16, wrap64]; omega), hb1.alloc hb1.size _⟩
set_option maxHeartbeats 2000000 in
theorem wrap_k4 (n : Int) (h : Is64 n) (w : World) :
    Calls Tryz.prog 116 #[.int .i64 4, .int .i64 n] w fun e w' => e = .returned (.int .i64 (kWrap 4 n)) ∧ Below w.heap.size w w' := by
  obtain ⟨h1, h2⟩ := h
  go_enter Tryz.func116, Tryz.ntmps116
  go_wp2_with (go_at_call 92; refine (of_k4 _).mono ?_; rintro e w1 ⟨rfl, hb1⟩; simp only [kName, kWidth, kSigned, kBits])
  go_ret
  exact ⟨ret_i64 (by simp only [kWrap, IntKind.wrap_i32, wrap64]; omega), hb1.alloc hb1.size _⟩
set_option maxHeartbeats 2000000 in
theorem wrap_k5 (n : Int) (h : Is64 n) (w : World) :
    Calls Tryz.prog 116 #[.int .i64 5, .int .i64 n] w fun e w' => e = .returned (.int .i64 (kWrap 5 n)) ∧ Below w.heap.size w w' := by
  obtain ⟨h1, h2⟩ := h
  go_enter Tryz.func116, Tryz.ntmps116
  go_wp2_with (go_at_call 92; refine (of_k5 _).mono ?_; rintro e w1 ⟨rfl, hb1⟩; simp only [kName, kWidth, kSigned, kBits])
  go_ret
  exact ⟨ret_i64 (by simp only [kWrap, IntKind.wrap_u8, IntKind.wrap_u64, wrap64]; omega), hb1.alloc hb1.size _⟩
set_option maxHeartbeats 2000000 in
theorem wrap_k6 (n : Int) (h : Is64 n) (w : World) :
    Calls Tryz.prog 116 #[.int .i64 6, .int .i64 n] w fun e w' => e = .returned (.int .i64 (kWrap 6 n)) ∧ Below w.heap.size w w' := by
  obtain ⟨h1, h2⟩ := h
  go_enter Tryz.func116, Tryz.ntmps116
  go_wp2_with (go_at_call 92; refine (of_k6 _).mono ?_; rintro e w1 ⟨rfl, hb1⟩; simp only [kName, kWidth, kSigned, kBits])
  go_ret
  exact ⟨ret_i64 (by simp only [kWrap, IntKind.wrap_u16, IntKind.wrap_u64, wrap64]; omega), hb1.alloc hb1.size _⟩
set_option maxHeartbeats 2000000 in
theorem wrap_k7 (n : Int) (h : Is64 n) (w : World) :
    Calls Tryz.prog 116 #[.int .i64 7, .int .i64 n] w fun e w' => e = .returned (.int .i64 (kWrap 7 n)) ∧ Below w.heap.size w w' := by
  obtain ⟨h1, h2⟩ := h
  go_enter Tryz.func116, Tryz.ntmps116
  go_wp2_with (go_at_call 92; refine (of_k7 _).mono ?_; rintro e w1 ⟨rfl, hb1⟩; simp only [kName, kWidth, kSigned, kBits])
  go_ret
  exact ⟨ret_i64 (by simp only [kWrap, IntKind.wrap_u32, IntKind.wrap_u64, wrap64]; omega), hb1.alloc hb1.size _⟩
set_option maxHeartbeats 2000000 in
theorem wrap_k8 (n : Int) (h : Is64 n) (w : World) :
    Calls Tryz.prog 116 #[.int .i64 8, .int .i64 n] w fun e w' => e = .returned (.int .i64 (kWrap 8 n)) ∧ Below w.heap.size w w' := by
  obtain ⟨h1, h2⟩ := h
  go_enter Tryz.func116, Tryz.ntmps116
  go_wp2_with (go_at_call 92; refine (of_k8 _).mono ?_; rintro e w1 ⟨rfl, hb1⟩; simp only [kName, kWidth, kSigned, kBits])
  go_ret
  exact ⟨ret_i64 (by simp only [kWrap, IntKind.wrap_u8, IntKind.wrap_u64, wrap64]; omega), hb1.alloc hb1.size _⟩
set_option maxHeartbeats 2000000 in
theorem wrap_k9 (n : Int) (h : Is64 n) (w : World) :
    Calls Tryz.prog 116 #[.int .i64 9, .int .i64 n] w fun e w' => e = .returned (.int .i64 (kWrap 9 n)) ∧ Below w.heap.size w w' := by
  obtain ⟨h1, h2⟩ := h
  go_enter Tryz.func116, Tryz.ntmps116
  go_wp2_with (go_at_call 92; refine (of_k9 _).mono ?_; rintro e w1 ⟨rfl, hb1⟩; simp only [kName, kWidth, kSigned, kBits])
  go_ret
  exact ⟨ret_i64 (by simp only [kWrap, IntKind.wrap_u16, IntKind.wrap_u64, wrap64]; omega), hb1.alloc hb1.size _⟩
set_option maxHeartbeats 2000000 in
theorem wrap_k10 (n : Int) (h : Is64 n) (w : World) :
    Calls Tryz.prog 116 #[.int .i64 10, .int .i64 n] w fun e w' => e = .returned (.int .i64 (kWrap 10 n)) ∧ Below w.heap.size w w' := by
  obtain ⟨h1, h2⟩ := h
  go_enter Tryz.func116, Tryz.ntmps116
  go_wp2_with (go_at_call 92; refine (of_k10 _).mono ?_; rintro e w1 ⟨rfl, hb1⟩; simp only [kName, kWidth, kSigned, kBits])
  go_ret
  exact ⟨ret_i64 (by simp only [kWrap, IntKind.wrap_u32, IntKind.wrap_u64, wrap64]; omega), hb1.alloc hb1.size _⟩
set_option maxHeartbeats 2000000 in
theorem wrap_k11 (n : Int) (h : Is64 n) (w : World) :
    Calls Tryz.prog 116 #[.int .i64 11, .int .i64 n] w fun e w' => e = .returned (.int .i64 (kWrap 11 n)) ∧ Below w.heap.size w w' := by
  obtain ⟨h1, h2⟩ := h
  go_enter Tryz.func116, Tryz.ntmps116
  go_wp2_with (go_at_call 92; refine (of_k11 _).mono ?_; rintro e w1 ⟨rfl, hb1⟩; simp only [kName, kWidth, kSigned, kBits])
  go_ret
  exact ⟨ret_i64 (by simp only [kWrap, IntKind.wrap_i32, wrap64]; omega), hb1.alloc hb1.size _⟩

theorem kwrap_at (k : Nat) (hk1 : 1 ≤ k) (hk2 : k ≤ 11) (n : Int) (h : Is64 n) (w : World) :
    Calls Tryz.prog 116 #[.int .i64 k, .int .i64 n] w fun e w' => e = .returned (.int .i64 (kWrap k n)) ∧ Below w.heap.size w w' := by
  have h' : k = 1 ∨ k = 2 ∨ k = 3 ∨ k = 4 ∨ k = 5 ∨ k = 6 ∨ k = 7 ∨ k = 8 ∨ k = 9 ∨ k = 10 ∨ k = 11 := by omega
  rcases h' with rfl | rfl | rfl | rfl | rfl | rfl | rfl | rfl | rfl | rfl | rfl
  · exact wrap_k1 n w
  · exact wrap_k2 n h w
  · exact wrap_k3 n h w
  · exact wrap_k4 n h w
  · exact wrap_k5 n h w
  · exact wrap_k6 n h w
  · exact wrap_k7 n h w
  · exact wrap_k8 n h w
  · exact wrap_k9 n h w
  · exact wrap_k10 n h w
  · exact wrap_k11 n h w
end Go.Proofs.YtdpkjpjkdmkkpaaGreatDoor

/- Package lex in plain words, second part: typed numbers, times, words, tokens. -/
namespace Go.Proofs.YtdpkjpjkdmkkpaaGreatDoor
open Go.RowKit Lx

def strTrue : List UInt8 := [84, 82, 85, 69]
def strFalse : List UInt8 := [70, 65, 76, 83, 69]

/-- A number behind its kind. -/
def lTyped (l : List UInt8) (at_ k : Nat) : Tok × Nat × Int :=
  let rest := l.drop at_
  let w := rest.take (span wordB rest)
  if k = 1 ∧ (w = strTrue ∨ w = strFalse) then (⟨3, k, if w = strTrue then 1 else 0, [], 0⟩, at_ + w.length, 0)
  else if kSigned k = true ∧ Lib.hasPrefix rest [45] = true then
    let d := digits (rest.drop 1) 10
    if d.2 = 0 then (tok0, 0, 120)
    else if -d.1 = kWrap k (-d.1) then (⟨3, k, -d.1, [], 0⟩, at_ + 1 + d.2, 0) else (tok0, 0, 163)
  else
    let m := Lx.number rest
    if m.2.2 ≠ 0 then (tok0, 0, m.2.2)
    else if m.1 = kWrap k m.1 then (⟨3, k, m.1, [], 0⟩, at_ + m.2.1, 0) else (tok0, 0, 163)

def tokV (t : Tok) : Value := .agg #[.int .i64 t.tok, .int .i64 t.kind, .int .i64 t.n, .string ⟨t.text.toArray⟩, .int .i64 t.at_]
def tokR (r : Tok × Nat × Int) : Ending := .returned (.tuple #[tokV r.1, .int .i64 r.2.1, .int .i64 r.2.2])
end Go.Proofs.YtdpkjpjkdmkkpaaGreatDoor

/- The walks through package addr: each function returns what the plain words say, and leaves all that was there as it was. -/
namespace Go.Proofs.YtdpkjpjkdmkkpaaGreatDoor
open Go.RowKit Ad

set_option maxHeartbeats 400000 in
theorem size_any (a : Int) (w : World) :
    Calls Tryz.prog 98 #[.int .i64 a] w fun e w' => e = .returned (.int .i64 (aSize a)) ∧ w = w' := by
  go_enter Tryz.func98, Tryz.ntmps98
  go_wp2
  all_goals (go_ret; exact ⟨ret_i64 (by simp_all [aSize]), rfl⟩)

set_option maxHeartbeats 400000 in
theorem bit_any (a : Int) (w : World) :
    Calls Tryz.prog 69 #[.int .i64 a] w fun e w' => e = .returned (.bool (aBit a)) ∧ w = w' := by
  go_enter Tryz.func69, Tryz.ntmps69
  go_wp2
  all_goals (go_ret; exact ⟨ret_bool (by simp_all [aBit]), rfl⟩)

set_option maxHeartbeats 400000 in
theorem sign_any (a : Int) (w : World) :
    Calls Tryz.prog 95 #[.int .i64 a] w fun e w' => e = .returned (.string ⟨(aSign a).toArray⟩) ∧ w = w' := by
  go_enter Tryz.func95, Tryz.ntmps95
  go_wp2
  all_goals (go_ret; exact ⟨ret_str (by simp_all [aSign]), rfl⟩)

/-- What 'number' returns: a number beside the word whether it is one. -/
def NumberPost (l : List UInt8) (w : World) (e : Ending) (w' : World) : Prop :=
  ∃ (n : Int) (b : Bool), e = .returned (.tuple #[.int .i64 n, .bool b]) ∧ Num l n b ∧ Below w.heap.size w w'

theorem number_end {l : List UInt8} {n : Int} {b : Bool} {w w' : World} (hb : Below w.heap.size w w') (h1 : Is64 n)
    (h3 : b = numOk l) (h4 : ∀ m, numOf l = some m → n = m) : NumberPost l w (.returned (.tuple #[.int .i64 n, .bool b])) w' := ⟨n, b, rfl, ⟨h3, h1, h4⟩, hb⟩

set_option maxHeartbeats 400000 in
theorem number_any (s : ByteArray) (hs : s.size ≤ 281474976710656) (w : World) (he : Env w) :
    Calls Tryz.prog 97 #[.string s] w (NumberPost s.data.toList w) := by
  by_cases hok : ∃ v, Lib.atoiAll s.data.toList = .ok v
  · obtain ⟨v, h⟩ := hok
    have HV : Hid (Is64 v) := Lib.hid (Lib.atoiAll_bounds h)
    go_enter Tryz.func97, Tryz.ntmps97
    go_wp2_with (go_at_call 119; refine (Tryz.strconv_Atoi_ok s (by omega) v h _).mono ?_; rintro e w1 ⟨rfl, hw⟩)
    · go_wp2_with (go_at_call 120; refine (Tryz.strconv_Itoa v HV.out.1 HV.out.2 _ (he.below (bbytes hw)).pow).mono ?_; rintro e w2 ⟨rfl, hw2⟩)
      · have hlen : (s.size : Int) ≤ 3 := by assumption
        have hit : Lib.itoa v = s.toList := by assumption
        rw [ByteArray.toList_eq] at hit
        go_ret2
        have hl : s.data.toList.length = s.size := rfl
        refine number_end (btr (bbytes hw) (bgrow hw2)) HV.out ?_ ?_
        · unfold numOk; rw [num_ok h]
          by_cases h0 : 0 ≤ v
          · rw [if_pos ⟨by omega, hit, h0⟩]; simp [h0]
          · rw [if_neg (fun h => h0 h.2.2)]; simp; omega
        · intro m hm
          rw [num_ok h] at hm
          split at hm
          · rename_i hc; injection hm with hm; omega
          · cases hm
      · have hit : ¬ Lib.itoa v = s.toList := by assumption
        rw [ByteArray.toList_eq] at hit
        go_ret2
        refine number_end (btr (bbytes hw) (bgrow hw2)) HV.out ?_ ?_
        · unfold numOk; rw [num_ok h, if_neg (fun h => hit h.2.1)]; rfl
        · intro m hm; rw [num_ok h, if_neg (fun h => hit h.2.1)] at hm; cases hm
    · have hlen : (3 : Int) < s.size := by assumption
      have hl : s.data.toList.length = s.size := rfl
      go_ret2
      refine number_end (bbytes hw) HV.out ?_ ?_
      · unfold numOk; rw [num_ok h, if_neg (fun h => by omega)]; rfl
      · intro m hm; rw [num_ok h, if_neg (fun h => by omega)] at hm; cases hm
  have hbad := fun v hv => hok ⟨v, hv⟩
  have hn := num_bad (l := s.data.toList) hbad
  by_cases h : Lib.atoiAll s.data.toList = .range
  · obtain ⟨tp, p, hv⟩ := he.rng
    have HN := Lib.hid hn
    clear hn hbad hok
    go_enter Tryz.func97, Tryz.ntmps97
    go_wp2_with (go_at_call 119; refine (Tryz.strconv_Atoi_range s hs h _ _ hv (.inr ⟨_, _, rfl⟩)).mono ?_; rintro e w1 ⟨N, rfl, -, -, hb⟩)
    go_ret2
    exact number_end hb (is64_sat _) (by simp [numOk, HN.out]) (fun m hm => by rw [HN.out] at hm; cases hm)
  · obtain ⟨tp, p, hv⟩ := he.syn
    have HN := Lib.hid hn
    have HB := Lib.hid hbad
    have H := Lib.hid h
    clear hn hbad hok h
    go_enter Tryz.func97, Tryz.ntmps97
    go_wp2_with (go_at_call 119; refine (atoi_bad s hs HB.out H.out _ _ hv (.inr ⟨_, _, rfl⟩)).mono ?_; rintro e w1 ⟨x, rfl, hb⟩)
    go_ret2
    exact number_end hb ⟨by omega, by omega⟩ (by simp [numOk, HN.out]) (fun m hm => by rw [HN.out] at hm; cases hm)

theorem cutPrefix_any (s p : ByteArray) (w : World) :
    Calls Tryz.prog 94 #[.string s, .string p] w fun e w' => e = .returned (.tuple #[.string ⟨(Lib.trimPrefix s.data.toList p.data.toList).toArray⟩, .bool (Lib.hasPrefix s.data.toList p.data.toList)]) ∧ w = w' :=
  (Tryz.strings_CutPrefix s p w).mono fun _ _ ⟨h, k⟩ => ⟨h, k.symm⟩

theorem cut_any (s p : ByteArray) (hs : s.size < 4294967281) (w : World) (he : Env w) :
    Calls Tryz.prog 96 #[.string s, .string p] w fun e w' =>
      ∃ c1 c2 pt, e = .returned (.tuple #[.string ⟨c1.toArray⟩, .string ⟨c2.toArray⟩, .bool pt]) ∧ Cut s.data.toList p.data.toList c1 c2 pt ∧ ∃ n, w' = w.drewN n := by
  obtain ⟨m, hm⟩ := he.maxLen
  exact (Tryz.strings_Cut s p m w hs hm).mono fun e w' ⟨h1, h2⟩ => ⟨_, _, _, h1, rfl, h2⟩

def ParsePost (l : List UInt8) (w : World) (e : Ending) (w' : World) : Prop :=
  e = .returned (.tuple #[.int .i64 (aParse l).1, .int .i64 (aParse l).2.1, .int .i64 (aParse l).2.2]) ∧ Below w.heap.size w w'

theorem _root_.Go.RowKit.Below.drewN {B : Nat} {a w : World} (h : Below B a w) (n : Nat) : Below B a (w.drewN n) := h.trans (Joins.below_draws _ _ _)

theorem parse_end {l : List UInt8} {a n z : Int} {w w' : World} (h : aParse l = (a, n, z)) (hb : Below w.heap.size w w') :
    ParsePost l w (.returned (.tuple #[.int .i64 a, .int .i64 n, .int .i64 z])) w' := ⟨by rw [h], hb⟩

set_option maxHeartbeats 1000000 in
theorem aparse_any (s : ByteArray) (hs : s.size < 4294967281) (w : World) (he : Env w) :
    Calls Tryz.prog 68 #[.string s] w (ParsePost s.data.toList w) := by
  go_enter Tryz.func68, Tryz.ntmps68
  go_wp2
  go_loopw [17] (fun i wr => ∃ k : Nat, k ≤ 6 ∧ i = .int .i64 k ∧ aFrom s.data.toList (6 - k) k = aParse s.data.toList ∧ Below w.heap.size w wr) (fun i _ => 6 - (intOf i).toNat)
  case atStart => exact ⟨0, by omega, rfl, rfl, Below.refl _ _⟩
  case round =>
    obtain ⟨k, hk, rfl, hf, hb⟩ := hrel
    obtain ⟨WR, rfl⟩ : ∃ WR, WR = wr := ⟨_, rfl⟩
    by_cases hlt : k < 6
    · cases hp : Lib.hasPrefix s.data.toList (aSign (1 + (k : Int))) with
      | false =>
        go_wp2_with (first
          | (go_at_call 95; refine (sign_any _ _).mono ?_; rintro e w1 ⟨rfl, rfl⟩)
          | (go_at_call 94; refine (cutPrefix_any _ _ _).mono ?_; rintro e w1 ⟨rfl, rfl⟩))
        go_roundw
        case rel => exact ⟨k + 1, by omega, by go_num, (aFrom_miss hlt hp).trans hf, hb⟩
        case measure => simp [intOf]; omega
      | true =>
        cases hbit : aBit (1 + (k : Int)) with
        | false =>
          go_wp2_with (first
            | (go_at_call 95; refine (sign_any _ _).mono ?_; rintro e w1 ⟨rfl, rfl⟩)
            | (go_at_call 69; refine (bit_any _ _).mono ?_; rintro e w1 ⟨rfl, rfl⟩)
            | (go_at_call 98; refine (size_any _ _).mono ?_; rintro e w1 ⟨rfl, rfl⟩)
            | (go_at_call 94; refine (cutPrefix_any _ _ _).mono ?_; rintro e w1 ⟨rfl, rfl⟩))
          refine (number_any _ (short_trim hs) _ (he.below hb)).mono ?_
          rintro e w1 ⟨n, ok, rfl, hn, hb1⟩
          obtain ⟨sz, hsz⟩ : ∃ sz, aSize (1 + (k : Int)) = sz := ⟨_, rfl⟩
          have HZ := Lib.hid hsz
          clear hsz
          cases ok
          all_goals
            go_wp2_with (first
              | (go_at_call 95; refine (sign_any _ _).mono ?_; rintro e w1 ⟨rfl, rfl⟩)
              | (go_at_call 69; refine (bit_any _ _).mono ?_; rintro e w1 ⟨rfl, rfl⟩)
              | (go_at_call 98; refine (size_any _ _).mono ?_; rintro e w1 ⟨rfl, rfl⟩; rw [HZ.out])
              | (go_at_call 94; refine (cutPrefix_any _ _ _).mono ?_; rintro e w1 ⟨rfl, rfl⟩))
          all_goals go_ret3
          · exact parse_end (parse_none hlt hp hf (by rw [aAt_word hbit, hn.word HZ.out, if_neg (by simp)])) (btr hb hb1)
          · exact parse_end (parse_some hlt hp hf (by rw [aAt_word hbit, hn.word HZ.out, if_pos ⟨rfl, by assumption⟩])) (btr hb hb1)
          · have hge : sz ≤ n := by assumption
            exact parse_end (parse_none hlt hp hf (by rw [aAt_word hbit, hn.word HZ.out, if_neg (by omega)])) (btr hb hb1)
        | true =>
          go_wp2_with (first
            | (go_at_call 95; refine (sign_any _ _).mono ?_; rintro e w1 ⟨rfl, rfl⟩)
            | (go_at_call 69; refine (bit_any _ _).mono ?_; rintro e w1 ⟨rfl, rfl⟩)
            | (go_at_call 94; refine (cutPrefix_any _ _ _).mono ?_; rintro e w1 ⟨rfl, rfl⟩))
          refine (cut_any _ _ (short_trim' hs) _ (he.below hb)).mono ?_
          rintro e w1 ⟨c1, c2, pt, rfl, hc, nd, rfl⟩
          have HC := Lib.hid hc
          clear hc
          have hc0 := fun (h : (Lib.trimPrefix s.data.toList (aSign (1 + (k : Int)))).length ≤ 4294967281) => HC.out.short h
          have hcs := hc0 (by have := trim_le s.data.toList (aSign (1 + (k : Int))); have h : s.data.toList.length = s.size := rfl; omega)
          have HS := Lib.hid hcs
          clear hc0 hcs
          have hb' : Below w.heap.size w (WR.drewN nd) := hb.drewN nd
          go_wp2_with fail
          refine (number_any _ (Nat.le_trans HS.out.2 (by decide)) _ (he.below hb')).mono ?_
          rintro e w1 ⟨n2, ok2, rfl, hn2, hb2⟩
          have hb2' := btr hb' hb2
          clear hb2 hb'
          have ht : (pt = false ∨ ok2 = false ∨ 7 < n2) ∨ (pt = true ∧ ok2 = true ∧ n2 ≤ 7) := by
            cases pt <;> cases ok2 <;> simp <;> omega
          rcases ht with ht | ⟨rfl, rfl, hn7⟩
          · have HN := Lib.hid (parse_none hlt hp hf (by rw [HC.out.at hbit, hn2.bit_no ht]))
            clear hp hf
            cases pt
            · go_wp2_with fail
              go_ret3
              exact parse_end HN.out hb2'
            · cases ok2
              · go_wp2_with fail
                go_ret3
                exact parse_end HN.out hb2'
              · have h7 : 7 < n2 := by simpa using ht
                go_wp2_with fail
                go_ret3
                exact parse_end HN.out hb2'
          · go_wp2_with fail
            refine (number_any _ (Nat.le_trans HS.out.1 (by decide)) _ (he.below hb2')).mono ?_
            rintro e w1 ⟨n1, ok1, rfl, hn1, hb3⟩
            have hb3' := btr hb2' hb3
            clear hb3 hb2'
            obtain ⟨sz, hsz⟩ : ∃ sz, aSize (1 + (k : Int)) = sz := ⟨_, rfl⟩
            have HZ := Lib.hid hsz
            have H1 := Lib.hid hn1
            have H2 := Lib.hid hn2
            clear hsz hn1 hn2
            have hn20 : 0 ≤ n2 := by obtain ⟨m, _, hm⟩ := H2.out.yes; omega
            cases ok1
            · go_wp2_with (first
                | (go_at_call 69; refine (bit_any _ _).mono ?_; rintro e w1 ⟨rfl, rfl⟩)
                | (go_at_call 98; refine (size_any _ _).mono ?_; rintro e w1 ⟨rfl, rfl⟩; rw [HZ.out]))
              go_ret3
              exact parse_end (parse_none hlt hp hf (by rw [HC.out.at hbit, H1.out.bit H2.out HZ.out, if_neg (by simp)])) hb3'
            · have hn1b : 0 ≤ n1 ∧ n1 < 1000 := by
                obtain ⟨m, hm, hm'⟩ := H1.out.yes
                have := (numOf_some hm).1
                omega
              obtain ⟨hn10, hn11⟩ := hn1b
              go_wp2_with (first
                | (go_at_call 69; refine (bit_any _ _).mono ?_; rintro e w1 ⟨rfl, rfl⟩)
                | (go_at_call 98; refine (size_any _ _).mono ?_; rintro e w1 ⟨rfl, rfl⟩; rw [HZ.out]))
              all_goals go_ret3
              · exact parse_end (parse_some hlt hp hf (by rw [HC.out.at hbit, H1.out.bit H2.out HZ.out, if_pos ⟨rfl, rfl, hn7, rfl, by assumption⟩])) hb3'
              · have hge : sz ≤ 8 * n1 + n2 := by assumption
                exact parse_end (parse_none hlt hp hf (by rw [HC.out.at hbit, H1.out.bit H2.out HZ.out, if_neg (by omega)])) hb3'
    · go_wp2
      have hk6 : k = 6 := by omega
      go_ret3
      subst hk6
      exact parse_end hf.symm hb
end Go.Proofs.YtdpkjpjkdmkkpaaGreatDoor

/- The walks through package lex: typed. -/
namespace Go.Proofs.YtdpkjpjkdmkkpaaGreatDoor
open Go.RowKit Lx Ad

theorem two_blocks {w w2 : World} {A B : Array Value} {t : TypeId} (hb : Below ((w.alloc (.cells A t)).alloc (.cells B t)).heap.size ((w.alloc (.cells A t)).alloc (.cells B t)) w2) :
    w2.heap[w.heap.size]? = some (.cells A t) ∧ w2.heap[w.heap.size + 1]? = some (.cells B t) ∧ Below w.heap.size w w2 := by
  refine ⟨?_, ?_, ?_⟩
  · rw [hb.block _ (by simp; omega)]; show ((w.heap.push _).push _)[_]? = _; simp [Array.getElem?_push]
  · rw [hb.block _ (by simp)]
    have h : (w.heap.push (.cells A t)).size = w.heap.size + 1 := by simp
    show ((w.heap.push _).push _)[_]? = _
    rw [← h, Array.getElem?_push_size]
  · exact btr (((Below.refl _ _).alloc (Nat.le_refl _) _).alloc (by simp) _) hb
theorem blk_stays {w w' : World} {b : Nat} {o : Obj} (h : w.heap[b]? = some o) (hb : Below w.heap.size w w') : w'.heap[b]? = some o := by
  rw [hb.block b (by
    rcases Nat.lt_or_ge b w.heap.size with h1 | h1
    · exact h1
    · rw [Array.getElem?_eq_none h1] at h; cases h)]
  exact h
theorem blk5 {w : World} {b : Nat} {v0 v1 v2 v3 v4 : Value} {t : TypeId} (h : w.heap[b]? = some (.cells #[v0, v1, v2, v3, v4] t)) :
    w.cell? ⟨b, 0, none⟩ = some v0 ∧ w.cell? ⟨b, 1, none⟩ = some v1 ∧ w.cell? ⟨b, 2, none⟩ = some v2 ∧ w.cell? ⟨b, 3, none⟩ = some v3 ∧ w.cell? ⟨b, 4, none⟩ = some v4 ∧
    w.frozen? ⟨b, 0, none⟩ = false ∧ w.frozen? ⟨b, 1, none⟩ = false ∧ w.frozen? ⟨b, 2, none⟩ = false ∧ w.frozen? ⟨b, 3, none⟩ = false ∧ w.frozen? ⟨b, 4, none⟩ = false := by
  simp [World.cell?, World.frozen?, h]

/-- The two blocks of 'typed': the result's, and t's with its number. -/
def TokS (w0 : World) (k n : Int) (w' : World) : Prop :=
  w'.heap[w0.heap.size]? = some (.cells #[.int .i64 0, .int .i64 0, .int .i64 0, .string ⟨#[]⟩, .int .i64 0] 107) ∧
  w'.heap[w0.heap.size + 1]? = some (.cells #[.int .i64 3, .int .i64 k, .int .i64 n, .string ⟨#[]⟩, .int .i64 0] 107) ∧ Below w0.heap.size w0 w'
theorem TokS.below {w0 w1 w2 : World} {k n : Int} (h : TokS w0 k n w1) (hb : Below w1.heap.size w1 w2) : TokS w0 k n w2 :=
  ⟨blk_stays h.1 hb, blk_stays h.2.1 hb, btr h.2.2 hb⟩
theorem TokS.drew {w0 w1 : World} {k n : Int} (h : TokS w0 k n w1) : TokS w0 k n w1.drew := ⟨h.1, h.2.1, h.2.2.drew⟩
theorem TokS.c2 {w0 w1 : World} {k n : Int} (h : TokS w0 k n w1) : w1.cell? ⟨w0.heap.size + 1, 2, none⟩ = some (.int .i64 n) := (blk5 h.2.1).2.2.1
theorem TokS.set {w0 w1 : World} {k n : Int} (m : Int) (h : TokS w0 k n w1) : TokS w0 k m (w1.setCell ⟨w0.heap.size + 1, 2, none⟩ (.int .i64 m)) := by
  refine ⟨?_, ?_, h.2.2.setCell (by simp) _⟩
  · rw [Below.heap_setCell _ _ _ _ (by simp)]; exact h.1
  · simp [World.setCell, Array.getElem?_modify, h.2.1]

theorem tok_fin {r : Tok × Nat × Int} {t : Tok} {n : Nat} {e x : Int} (h : r = (t, n, e)) (hx : x = n) :
    Ending.returned (.tuple #[tokV t, .int .i64 x, .int .i64 e]) = tokR r := by subst h; subst hx; rfl

theorem number_bounds (l : List UInt8) : 0 ≤ (Lx.number l).1 ∧ (Lx.number l).1 ≤ 1099511627776 ∧ (Lx.number l).2.1 ≤ l.length := by
  have h1 := digits_size l 10
  have h2 := digits_range l 10 (by omega)
  have h3 := digits_size (l.drop ((digits l 10).2 + 1)) (digits l 10).1
  have h4 := digits_range (l.drop ((digits l 10).2 + 1)) (digits l 10).1 h2.1
  simp only [Lx.number]
  split
  · exact ⟨by simp, by simp, by simp⟩
  · split
    · rename_i hc
      have hlt : (digits l 10).2 < l.length := by
        rcases Nat.lt_or_ge (digits l 10).2 l.length with h | h
        · exact h
        · rw [List.getElem?_eq_none h] at hc; cases hc.1
      rw [List.length_drop] at h3
      split
      · exact ⟨by simp, by simp, by simp⟩
      · exact ⟨h4.1, h4.2, by dsimp only; omega⟩
    · exact ⟨h2.1, h2.2, h1⟩

end Go.Proofs.YtdpkjpjkdmkkpaaGreatDoor

/- The walks through package lex: typed, the rest of it. -/
namespace Go.Proofs.YtdpkjpjkdmkkpaaGreatDoor
open Go.RowKit Lx Ad

end Go.Proofs.YtdpkjpjkdmkkpaaGreatDoor

/- Package lex in plain words, third part: times. -/
namespace Go.Proofs.YtdpkjpjkdmkkpaaGreatDoor
open Go.RowKit Lx

def unitS : Nat → List UInt8
  | 0 => [100] | 1 => [104] | 2 => [109] | 3 => [115] | 4 => [109, 115] | _ => []
def unitMs : Nat → Int
  | 0 => 86400000 | 1 => 3600000 | 2 => 60000 | 3 => 1000 | 4 => 1 | _ => 1

/-- The last unit from 'i' on that stands here; 'k' if there is none. -/
def unitFrom (rest : List UInt8) : Nat → Nat → Int → Int
  | 0, _, k => k
  | f + 1, i, k => unitFrom rest f (i + 1) (if Lib.hasPrefix rest (unitS i) = true then (i : Int) else k)
def unitOf (rest : List UInt8) (next size : Nat) : Int := if size = 0 then -1 else unitFrom rest (5 - next) next (-1)

def timeStep (n m : Int) (k : Nat) : Int := min (n + min m (1099511627776 / unitMs k + 1) * unitMs k) 1099511627776

/-- The parts of a time: where it ends, how long it is, which part may come next. -/
def times (l : List UInt8) : Nat → Nat → Int → Nat → Nat × Int × Nat
  | 0, at_, n, next => (at_, n, next)
  | f + 1, at_, n, next =>
    let d := digits (l.drop at_) 10
    let k := unitOf (l.drop (at_ + d.2)) next d.2
    if k < 0 then (at_, n, next)
    else times l f (at_ + d.2 + (unitS k.toNat).length) (timeStep n d.1 k.toNat) (k.toNat + 1)

/-- What stands behind the sign of a time. -/
def lTime (sign : Int) (t : Nat × Int × Nat) : Tok × Nat × Int :=
  if t.2.2 = 0 then (tok0, 0, 120)
  else if t.2.1 * sign = kWrap 11 (t.2.1 * sign) then (⟨4, 11, t.2.1 * sign, [], 0⟩, t.1, 0) else (tok0, 0, 163)
def lSpan2 (l : List UInt8) (at_ : Nat) : Tok × Nat × Int :=
  if Lib.hasPrefix (l.drop at_) [45] = true then lTime (-1) (times l 5 (at_ + 1) 0 0) else lTime 1 (times l 5 at_ 0 0)

theorem unitFrom_prefix (rest : List UInt8) (f i : Nat) (k : Int) (hk : k = -1 ∨ ∃ j : Nat, k = j ∧ j < i ∧ j < 5 ∧ Lib.hasPrefix rest (unitS j) = true) (hf : i + f = 5) :
    unitFrom rest f i k = -1 ∨ ∃ j : Nat, unitFrom rest f i k = j ∧ j < 5 ∧ Lib.hasPrefix rest (unitS j) = true := by
  induction f generalizing i k with
  | zero =>
    rcases hk with h | ⟨j, h, _, h2, h3⟩
    · exact .inl h
    · exact .inr ⟨j, h, h2, h3⟩
  | succ f ih =>
    simp only [unitFrom]
    refine ih _ _ ?_ (by omega)
    split
    · rename_i hp
      exact .inr ⟨i, rfl, by omega, by omega, hp⟩
    · rcases hk with h | ⟨j, h, h1, h2, h3⟩
      · exact .inl h
      · exact .inr ⟨j, h, by omega, h2, h3⟩
theorem unitFrom_ge (rest : List UInt8) (f i : Nat) (k : Int) (next : Nat) (hk : k = -1 ∨ (next : Int) ≤ k) (hi : next ≤ i) :
    unitFrom rest f i k = -1 ∨ (next : Int) ≤ unitFrom rest f i k := by
  induction f generalizing i k with
  | zero => exact hk
  | succ f ih =>
    simp only [unitFrom]
    refine ih _ _ ?_ (by omega)
    split
    · right; omega
    · exact hk
theorem prefix_len {l p : List UInt8} (h : Lib.hasPrefix l p = true) : p.length ≤ l.length := by
  unfold Lib.hasPrefix at h
  have := List.IsPrefix.length_le (List.isPrefixOf_iff_prefix.1 h)
  exact this
/-- What a unit that was found is. -/
theorem unitOf_is {rest : List UInt8} {next size : Nat} {k : Int} (h : unitOf rest next size = k) (hn : next ≤ 5) (hk : ¬ k < 0) :
    ∃ j : Nat, k = j ∧ next ≤ j ∧ j < 5 ∧ (unitS j).length ≤ rest.length := by
  unfold unitOf at h
  split at h
  · omega
  · have h1 := unitFrom_prefix rest (5 - next) next (-1) (.inl rfl) (by omega)
    have h2 := unitFrom_ge rest (5 - next) next (-1) next (.inl rfl) (by omega)
    rw [h] at h1 h2
    rcases h1 with h1 | ⟨j, hj, h5, hp⟩
    · omega
    · exact ⟨j, hj, by omega, h5, prefix_len hp⟩
theorem unitOf_ge {rest : List UInt8} {next size : Nat} {k : Int} (h : unitOf rest next size = k) (hn : next ≤ 5) : -1 ≤ k ∧ k < 5 := by
  by_cases hk : k < 0
  · unfold unitOf at h
    split at h
    · omega
    · have h2 := unitFrom_ge rest (5 - next) next (-1) next (.inl rfl) (by omega)
      rw [h] at h2; omega
  · obtain ⟨j, h1, h2, h3, h4⟩ := unitOf_is h hn hk
    omega
end Go.Proofs.YtdpkjpjkdmkkpaaGreatDoor

/- The walk through package lex's span2: times. -/
namespace Go.Proofs.YtdpkjpjkdmkkpaaGreatDoor
open Go.RowKit Lx Ad

def W3 (w : World) : World := ((w.alloc (.cells #[.int .i64 0, .int .i64 0, .int .i64 0, .string ⟨#[]⟩, .int .i64 0] 107)).alloc (.cells #[.string ⟨#[100]⟩, .string ⟨#[104]⟩, .string ⟨#[109]⟩, .string ⟨#[115]⟩, .string ⟨#[109, 115]⟩] 9)).alloc (.cells #[.int .i64 86400000, .int .i64 3600000, .int .i64 60000, .int .i64 1000, .int .i64 1] 2)
theorem W3_size (w : World) : (W3 w).heap.size = w.heap.size + 3 := by simp [W3]
theorem W3_below (w : World) : Below w.heap.size w (W3 w) :=
  (((Below.refl _ _).alloc (Nat.le_refl _) _).alloc (by simp) _).alloc (by simp; omega) _
theorem W3_units (w : World) (j : Nat) (hj : j < 5) : (W3 w).cell? ⟨w.heap.size + 1, j, none⟩ = some (.string ⟨(unitS j).toArray⟩) := by
  have h : j = 0 ∨ j = 1 ∨ j = 2 ∨ j = 3 ∨ j = 4 := by omega
  unfold W3
  rw [World.cell?_alloc_past _ _ _ (by simp), World.cell?_alloc_at _ _ _ _ (by simp)]
  rcases h with rfl | rfl | rfl | rfl | rfl <;> rfl
theorem W3_ms (w : World) (j : Nat) (hj : j < 5) : (W3 w).cell? ⟨w.heap.size + 2, j, none⟩ = some (.int .i64 (unitMs j)) := by
  have h : j = 0 ∨ j = 1 ∨ j = 2 ∨ j = 3 ∨ j = 4 := by omega
  unfold W3
  rw [World.cell?_alloc_at _ _ _ _ (by simp)]
  rcases h with rfl | rfl | rfl | rfl | rfl <;> rfl
theorem W3_tok (w : World) : (W3 w).heap[w.heap.size]? = some (.cells #[.int .i64 0, .int .i64 0, .int .i64 0, .string ⟨#[]⟩, .int .i64 0] 107) := by
  unfold W3
  show (((w.heap.push _).push _).push _)[w.heap.size]? = _
  rw [Array.getElem?_push, if_neg (by simp; omega), Array.getElem?_push, if_neg (by simp), Array.getElem?_push_size]

/-- The inner loop's state. -/
def UnitAt (rest : List UInt8) (z : Nat) (K : Int) (i : Nat) (k : Int) : Prop := (if z = 0 then k else unitFrom rest (5 - i) i k) = K
theorem UnitAt.step {rest : List UInt8} {z : Nat} {K : Int} {i : Nat} {k : Int} (h : UnitAt rest z K i k) (hz : 0 < z) (hi : i < 5) :
    UnitAt rest z K (i + 1) (if Lib.hasPrefix rest (unitS i) = true then (i : Int) else k) := by
  unfold UnitAt at h ⊢
  rw [if_neg (by omega)] at h ⊢
  rw [show 5 - i = (5 - (i + 1)) + 1 by omega, unitFrom] at h
  exact h
theorem UnitAt.over {rest : List UInt8} {z : Nat} {K : Int} {i : Nat} {k : Int} (h : UnitAt rest z K i k) (hi : z = 0 ∨ 5 ≤ i) : K = k := by
  unfold UnitAt at h
  split at h
  · exact h.symm
  · rw [show 5 - i = 0 by omega, unitFrom] at h; exact h.symm

def TimesAt (l : List UInt8) (t : Nat × Int × Nat) (f a : Nat) (n : Int) (nx : Nat) : Prop := times l f a n nx = t
theorem TimesAt.stop {l : List UInt8} {t : Nat × Int × Nat} {f a nx z : Nat} {n m : Int} (h : TimesAt l t (f + 1) a n nx) (hd : digits (l.drop a) 10 = (m, z)) (hk : unitOf (l.drop (a + z)) nx z < 0) :
    t = (a, n, nx) := by
  unfold TimesAt at h; simp only [times, hd] at h; rw [if_pos hk] at h; exact h.symm
theorem TimesAt.step {l : List UInt8} {t : Nat × Int × Nat} {f a nx z : Nat} {n m : Int} (h : TimesAt l t (f + 1) a n nx) (hd : digits (l.drop a) 10 = (m, z)) {j : Nat} (hk : unitOf (l.drop (a + z)) nx z = j) :
    TimesAt l t f (a + z + (unitS j).length) (timeStep n m j) (j + 1) := by
  unfold TimesAt at h ⊢; simp only [times, hd] at h; rw [if_neg (by rw [hk]; omega), hk] at h; exact h
theorem TimesAt.end5 {l : List UInt8} {t : Nat × Int × Nat} {f a : Nat} {n : Int} (h : TimesAt l t f a n 5) : t = (a, n, 5) := by
  unfold TimesAt at h
  cases f with
  | zero => exact h.symm
  | succ f =>
    simp only [times] at h
    rw [if_pos (by unfold unitOf; split <;> simp [unitFrom])] at h
    exact h.symm

theorem tokS0 {w w1 w2 : World} (h : w1.heap[w.heap.size]? = some (.cells #[.int .i64 0, .int .i64 0, .int .i64 0, .string ⟨#[]⟩, .int .i64 0] 107)) (hb : Below w.heap.size w w1) (hb2 : Below w1.heap.size w1 w2) :
    w2.heap[w.heap.size]? = some (.cells #[.int .i64 0, .int .i64 0, .int .i64 0, .string ⟨#[]⟩, .int .i64 0] 107) ∧ Below w.heap.size w w2 := ⟨blk_stays h hb2, btr hb hb2⟩

end Go.Proofs.YtdpkjpjkdmkkpaaGreatDoor

/- The walk through package lex's Word. -/
namespace Go.Proofs.YtdpkjpjkdmkkpaaGreatDoor
open Go.RowKit Lx Ad

/-- The keywords that are no kinds. -/
def KW : List (List UInt8) := [[80, 82, 79, 71, 82, 65, 77], [69, 78, 68, 95, 80, 82, 79, 71, 82, 65, 77], [86, 65, 82], [82, 69, 84, 65, 73, 78], [69, 78, 68, 95, 86, 65, 82], [84, 89, 80, 69], [69, 78, 68, 95, 84, 89, 80, 69], [83, 84, 82, 85, 67, 84], [69, 78, 68, 95, 83, 84, 82, 85, 67, 84], [65, 82, 82, 65, 89], [79, 70], [65, 84], [73, 70], [84, 72, 69, 78], [69, 76, 83, 73, 70], [69, 76, 83, 69], [69, 78, 68, 95, 73, 70], [67, 65, 83, 69], [69, 78, 68, 95, 67, 65, 83, 69], [70, 79, 82], [84, 79], [66, 89], [68, 79], [69, 78, 68, 95, 70, 79, 82], [87, 72, 73, 76, 69], [69, 78, 68, 95, 87, 72, 73, 76, 69], [82, 69, 80, 69, 65, 84], [85, 78, 84, 73, 76], [69, 78, 68, 95, 82, 69, 80, 69, 65, 84], [69, 88, 73, 84], [82, 69, 84, 85, 82, 78], [65, 78, 68], [79, 82], [88, 79, 82], [78, 79, 84], [77, 79, 68]]
def mkS (l : List UInt8) : ByteArray := ⟨l.toArray⟩
def lWord (x : ByteArray) : Bool := kindOf x != 0 || Lib.containsS (KW.map mkS) x

/-- What lex asks of the library's variables besides Env. -/
structure LEnv (w : World) : Prop where
  env : Env w
  space : Lib.TabIs Tryz.prog w "strings.asciiSpace" .u8 Lib.asciiSpaceTab

theorem spaceAt : Tryz.prog.globalNamed "strings.asciiSpace" = some 1 := by kernel_rfl
theorem Env.lt {w : World} (h : Env w) : 3 < w.heap.size := by
  obtain ⟨m, hm⟩ := h.maxLen
  exact lt_of_cell hm
theorem LEnv.below {w w' : World} (h : LEnv w) (hb : Below w.heap.size w w') : LEnv w' where
  env := h.env.below hb
  space := Joins.tab_stays spaceAt h.space hb (Nat.le_refl _)

theorem fields_cells (L : List (List UInt8)) (w : World) (t : TypeId) (j : Nat) (hj : j < (L.map mkS).length) :
    (w.alloc (.cells (L.map fun l => Value.string ⟨l.toArray⟩).toArray t)).cell? ⟨w.heap.size, 0 + j, none⟩ = some (.string ((L.map mkS).getD j ByteArray.empty)) := by
  rw [Nat.zero_add, World.cell?_alloc_at _ _ _ _ rfl]
  rw [List.length_map] at hj
  rw [List.getElem?_toArray, List.getElem?_map, List.getElem?_eq_getElem hj, List.getD_eq_getElem?_getD, List.getElem?_map, List.getElem?_eq_getElem hj]
  rfl

theorem ascii_of_all {l : List UInt8} (h : l.all (fun b => decide (b.toNat < 128)) = true) : ∀ (j : Nat) b, l[j]? = some b → b.toNat < 128 := by
  intro j b hj
  have := List.all_eq_true.1 h b (List.mem_of_getElem? hj)
  simpa using this
theorem fields_L (s : ByteArray) (L : List (List UInt8)) (hs : s.size < 4294967281) (ha : s.data.toList.all (fun b => decide (b.toNat < 128)) = true) (hL : Lib.fields s.data.toList = L) (w : World)
    (htab : Lib.TabIs Tryz.prog w "strings.asciiSpace" .u8 Lib.asciiSpaceTab) :
    Calls Tryz.prog 43 #[.string s] w fun e w' => e = .returned (.slice (some ⟨w.heap.size, 0, none⟩) L.length L.length) ∧ w' = w.alloc (.cells (L.map fun l => Value.string ⟨l.toArray⟩).toArray 9) := by
  subst hL
  exact Tryz.strings_Fields s w hs (ascii_of_all ha) htab

end Go.Proofs.YtdpkjpjkdmkkpaaGreatDoor

/- The walk through package lex's word. -/
namespace Go.Proofs.YtdpkjpjkdmkkpaaGreatDoor
open Go.RowKit Lx Ad

/-- A word that no '#' with a kind follows. -/
def wordRest (x : ByteArray) (z : Nat) : Tok × Nat × Int :=
  if (x.toList == strTrue) = true then (⟨3, 1, 1, [], 0⟩, z, 0)
  else if (x.toList == strFalse) = true then (⟨3, 1, 0, [], 0⟩, z, 0)
  else if lWord x = true then (⟨1, 0, 0, x.data.toList, 0⟩, z, 0)
  else if 32 < z then (tok0, 0, 121)
  else (⟨2, 0, 0, x.data.toList, 0⟩, z, 0)
/-- A word's token. -/
def lWordTok (l : List UInt8) : Tok × Nat × Int :=
  let z := span wordB l
  let x := mkS (l.take z)
  let k := kindOf x
  if l[z]? = some 35 ∧ (k ≠ 0 ∨ (x.toList == [84]) = true) then
    if k = 11 ∨ k = 0 then lSpan2 l (z + 1) else lTyped l (z + 1) k
  else wordRest x z

theorem ext0_eq (s : ByteArray) (z : Nat) : s.extract 0 z = ⟨(s.data.toList.take z).toArray⟩ := by
  apply ByteArray.ext
  rw [ByteArray.data_extract]
  apply Array.toList_inj.1
  simp
theorem one_block {w w2 : World} {A : Array Value} {t : TypeId} (hb : Below (w.alloc (.cells A t)).heap.size (w.alloc (.cells A t)) w2) :
    w2.heap[w.heap.size]? = some (.cells A t) ∧ Below w.heap.size w w2 := by
  refine ⟨?_, ?_⟩
  · rw [hb.block _ (by simp)]
    show (w.heap.push _)[_]? = _
    rw [Array.getElem?_push_size]
  · exact btr ((Below.refl _ _).alloc (Nat.le_refl _) _) hb

end Go.Proofs.YtdpkjpjkdmkkpaaGreatDoor

/- The walk through package lex's token. -/
namespace Go.Proofs.YtdpkjpjkdmkkpaaGreatDoor
open Go.RowKit Lx Ad

/-- The signs, the longer ones first. -/
def SG : List (List UInt8) := [[58, 61], [46, 46], [60, 61], [62, 61], [60, 62], [61, 62], [58], [59], [44], [46], [40], [41], [91], [93], [61], [60], [62], [43], [45], [42], [47]]
def signF (l : List UInt8) : List (List UInt8) → Tok × Nat × Int
  | [] => (tok0, 0, 120)
  | g :: gs => if Lib.hasPrefix l g = true then (⟨6, 0, 0, g, 0⟩, g.length, 0) else signF l gs
def lNumTok (q : Int × Nat × Int) : Tok × Nat × Int := (⟨3, 0, q.1, [], 0⟩, q.2.1, if q.2.2 = 0 ∧ 4294967295 < q.1 then 121 else q.2.2)
def lAddrTok (l : List UInt8) (z : Nat) (e : Int) : Tok × Nat × Int := if e ≠ 0 then (tok0, 0, e) else (⟨5, 0, 0, l.take z, 0⟩, z, 0)
/-- The token that stands at the head. -/
def lToken (l : List UInt8) : Tok × Nat × Int := match l with
  | [] => (tok0, 0, 0)
  | c :: t =>
    if c.toNat = 10 then (⟨7, 0, 0, [10], 0⟩, 1, 0)
    else if lett c = true then lWordTok (c :: t)
    else if dig c = true then lNumTok (Lx.number (c :: t))
    else if c.toNat = 37 then lAddrTok (c :: t) (1 + span addrB t) (aParse ((c :: t).take (1 + span addrB t))).2.2
    else signF (c :: t) SG

theorem sg_cell (j : Nat) (hj : j < 21) : (SG.map fun l => Value.string ⟨l.toArray⟩).toArray[j]? = some (.string ⟨(SG.getD j []).toArray⟩) := by
  have h : j < SG.length := hj
  rw [List.getElem?_toArray, List.getElem?_map, List.getElem?_eq_getElem h, List.getD_eq_getElem?_getD, List.getElem?_eq_getElem h]
  rfl
theorem sg_step (l : List UInt8) (k : Nat) (hk : k < 21) : signF l (SG.drop k) = if Lib.hasPrefix l (SG.getD k []) = true then (⟨6, 0, 0, SG.getD k [], 0⟩, (SG.getD k []).length, 0) else signF l (SG.drop (k + 1)) := by
  have h : k < SG.length := hk
  rw [List.drop_eq_getElem_cons h, signF, List.getD_eq_getElem?_getD, List.getElem?_eq_getElem h]
  rfl

theorem blk_drew {w w2 : World} {A : Array Value} {t : TypeId} {n : Nat} (hb : Below ((w.alloc (.cells A t)).drewN n).heap.size ((w.alloc (.cells A t)).drewN n) w2) :
    w2.heap[w.heap.size]? = some (.cells A t) ∧ Below w.heap.size w w2 := by
  have h : Below (w.alloc (.cells A t)).heap.size (w.alloc (.cells A t)) w2 := by
    refine (Below.drewN (Below.refl _ _) n).trans ?_
    simpa using hb
  exact one_block h

end Go.Proofs.YtdpkjpjkdmkkpaaGreatDoor

/- Package lex in plain words, fourth part: blanks and comments, all tokens. -/
namespace Go.Proofs.YtdpkjpjkdmkkpaaGreatDoor
open Go.RowKit Lx

def blankB (il : Bool) (c : UInt8) : Bool := c.toNat == 32 || c.toNat == 9 || c.toNat == 13 || (c.toNat == 10 && !il)
/-- Where the blanks and comments that begin at 'a' end; or where a comment begins that has no end. (The first number: as many bytes as may still come.) -/
def blanks (il : Bool) (l : List UInt8) : Nat → Nat → Except Nat Nat
  | 0, a => .ok a
  | f + 1, a => match l.drop a with
    | [] => .ok a
    | c :: t =>
      if blankB il c = true then blanks il l f (a + 1)
      else if Lib.hasPrefix (c :: t) [40, 42] = true then
        if Lib.index ((c :: t).drop 2) [42, 41] < 0 then .error a
        else blanks il l f (a + ((Lib.index ((c :: t).drop 2) [42, 41]).toNat + 4))
      else .ok a

/-- All tokens from 'a' on; or an error's place and number. -/
def tokens (il : Bool) (l : List UInt8) : Nat → Nat → List Tok → Except (Nat × Int) (List Tok)
  | 0, a, _ => .error (a, 0)
  | f + 1, a, out => match blanks il l (l.length + 1) a with
    | .error a' => .error (a', 120)
    | .ok a' =>
      if a' = l.length then .ok (out ++ [⟨0, 0, 0, [], a'⟩])
      else
        let r := lToken (l.drop a')
        if r.2.2 ≠ 0 then .error (a', r.2.2)
        else tokens il l f (a' + r.2.1) (out ++ [{ r.1 with at_ := a' }])

def lTokens (l : List UInt8) (il : Bool) : Except (Nat × Int) (List Tok) :=
  if 65536 < l.length then .error (65536, 121) else tokens il l (l.length + 1) 0 []
end Go.Proofs.YtdpkjpjkdmkkpaaGreatDoor

/- The chapter's examples, by the plain words; and what it means that only one old block changed. -/
namespace Go.Proofs.YtdpkjpjkdmkkpaaGreatDoor
open Go.RowKit Lx

instance : DecidableEq (Except (Nat × Int) (List Tok)) := fun a b => match a, b with
  | .ok x, .ok y => if h : x = y then isTrue (by rw [h]) else isFalse (fun k => h (by injection k))
  | .error x, .error y => if h : x = y then isTrue (by rw [h]) else isFalse (fun k => h (by injection k))
  | .ok _, .error _ => isFalse (fun k => nomatch k)
  | .error _, .ok _ => isFalse (fun k => nomatch k)
theorem known1 : lTokens "x := INT#-5 + 16#FF (* c *);".toUTF8.data.toList false = .ok [⟨2, 0, 0, [120], 0⟩, ⟨6, 0, 0, [58, 61], 2⟩, ⟨3, 3, -5, [], 5⟩, ⟨6, 0, 0, [43], 12⟩, ⟨3, 0, 255, [], 14⟩, ⟨6, 0, 0, [59], 27⟩, ⟨0, 0, 0, [], 28⟩] := by
  decide +kernel
theorem known2 : (lTokens "T#1h30m %QX1.3 TRUE".toUTF8.data.toList true).toOption.map (fun l => l.map fun t => (t.n, t.text)) = some [(5400000, []), (0, "%QX1.3".toUTF8.data.toList), (1, []), (0, [])] := by
  decide +kernel
theorem known3 : lTokens "a ? b".toUTF8.data.toList false = .error (2, 120) := by
  decide +kernel

/-- Of the old blocks only block 'b' may have changed. -/
structure Only (b : Nat) (w w' : World) : Prop where
  os : w'.os = w.os
  tape : w'.tape = w.tape
  output : w'.output = w.output
  size : w.heap.size ≤ w'.heap.size
  block : ∀ k, k < w.heap.size → k ≠ b → w'.heap[k]? = w.heap[k]?
theorem Only.refl (b : Nat) (w : World) : Only b w w := ⟨rfl, rfl, rfl, Nat.le_refl _, fun _ _ _ => rfl⟩
theorem Only.trans {b : Nat} {w w1 w2 : World} (h : Only b w w1) (k : Only b w1 w2) : Only b w w2 :=
  ⟨k.os.trans h.os, k.tape.trans h.tape, k.output.trans h.output, Nat.le_trans h.size k.size, fun i hi hb => (k.block i (Nat.lt_of_lt_of_le hi h.size) hb).trans (h.block i hi hb)⟩
theorem Only.ofBelow {b : Nat} {w w' : World} (h : Below w.heap.size w w') : Only b w w' := ⟨h.os, h.tape, h.output, h.size, fun k hk _ => h.block k hk⟩
theorem Only.below {b B : Nat} {w w' : World} (h : Only b w w') (hb : B ≤ b) (hB : B ≤ w.heap.size) : Below B w w' :=
  ⟨h.os, h.tape, h.output, h.size, fun k hk => h.block k (by omega) (by omega)⟩
theorem Only.drewN {b : Nat} {w w' : World} (h : Only b w w') (n : Nat) : Only b w (w'.drewN n) := h.trans (Only.ofBelow ((Below.refl _ _).drewN n))
theorem Only.setCell {b : Nat} {w w' : World} (h : Only b w w') (o : Nat) (v : Value) : Only b w (w'.setCell ⟨b, o, none⟩ v) :=
  h.trans ⟨rfl, rfl, rfl, by simp [World.setCell], fun k _ hk => Below.heap_setCell _ _ _ _ (by simpa using hk)⟩
end Go.Proofs.YtdpkjpjkdmkkpaaGreatDoor

/- The walk through package lex's blanks. -/
namespace Go.Proofs.YtdpkjpjkdmkkpaaGreatDoor
open Go.RowKit Lx Ad

end Go.Proofs.YtdpkjpjkdmkkpaaGreatDoor

/- The walk through package lex's blanks: the loop. -/
namespace Go.Proofs.YtdpkjpjkdmkkpaaGreatDoor
open Go.RowKit Lx Ad

theorem blanks_yes {il : Bool} {s : ByteArray} {f a : Nat} {r : Except Nat Nat} (h : blanks il s.data.toList (f + 1) a = r) (ha : a < s.size) (hb : blankB il s[a] = true) : blanks il s.data.toList f (a + 1) = r := by
  rw [blanks, drop_at ha] at h
  simpa [hb] using h
theorem blanks_over {il : Bool} {s : ByteArray} {f a : Nat} {r : Except Nat Nat} (h : blanks il s.data.toList (f + 1) a = r) (ha : s.size ≤ a) : r = .ok a := by
  rw [blanks, List.drop_of_length_le (by simpa using ha)] at h
  exact h.symm
theorem blanks_none {il : Bool} {s : ByteArray} {f a : Nat} {r : Except Nat Nat} (h : blanks il s.data.toList (f + 1) a = r) (ha : a < s.size) (hb : blankB il s[a] = false)
    (hp : Lib.hasPrefix (s.data.toList.drop a) [40, 42] = false) : r = .ok a := by
  rw [drop_at ha] at hp
  rw [blanks, drop_at ha] at h
  simp only [hb, hp] at h
  simpa using h.symm

theorem blanks_open {il : Bool} {s : ByteArray} {f a : Nat} {r : Except Nat Nat} (h : blanks il s.data.toList (f + 1) a = r) (ha : a < s.size) (hb : blankB il s[a] = false)
    (hp : Lib.hasPrefix (s.data.toList.drop a) [40, 42] = true) (hi : Lib.index (s.data.toList.drop (a + 2)) [42, 41] < 0) : r = .error a := by
  rw [← List.drop_drop, drop_at ha] at hi
  rw [drop_at ha] at hp
  rw [blanks, drop_at ha] at h
  simp only [hb, hp] at h
  rw [if_neg (by simp), if_pos trivial, if_pos hi] at h
  exact h.symm
theorem blanks_shut {il : Bool} {s : ByteArray} {f a : Nat} {r : Except Nat Nat} (h : blanks il s.data.toList (f + 1) a = r) (ha : a < s.size) (hb : blankB il s[a] = false)
    (hp : Lib.hasPrefix (s.data.toList.drop a) [40, 42] = true) (hi : ¬ Lib.index (s.data.toList.drop (a + 2)) [42, 41] < 0) :
    blanks il s.data.toList f (a + ((Lib.index (s.data.toList.drop (a + 2)) [42, 41]).toNat + 4)) = r := by
  rw [← List.drop_drop, drop_at ha] at hi ⊢
  rw [drop_at ha] at hp
  rw [blanks, drop_at ha] at h
  simp only [hb, hp] at h
  rw [if_neg (by simp), if_pos trivial, if_neg hi] at h
  exact h

theorem Only.alloc {b : Nat} {w w' : World} (h : Only b w w') (o : Obj) : Only b w (w'.alloc o) := h.trans (Only.ofBelow ((Below.refl _ _).alloc (Nat.le_refl _) _))
end Go.Proofs.YtdpkjpjkdmkkpaaGreatDoor
