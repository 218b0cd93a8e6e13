/- The walks through package num: kinds. -/
import Derived.Test.YtdpkjpjkdmkkpaaGreatDoorMA
import Derived.Deep.RegionHeld3
import Derived.Handy
set_option maxRecDepth 100000
set_option maxHeartbeats 16000000
namespace Go.Proofs.YtdpkjpjkdmkkpaaGreatDoor
open Ad Go.RowKit Lx
def zaw:Nat→ByteArray
 | 1=>⟨#[66,79,79,76]⟩
 | 2=>⟨#[83,73,78,84]⟩
 | 3=>⟨#[73,78,84]⟩
 | 4=>⟨#[68,73,78,84]⟩
 | 5=>⟨#[85,83,73,78,84]⟩
 | 6=>⟨#[85,73,78,84]⟩
 | 7=>⟨#[85,68,73,78,84]⟩
 | 8=>⟨#[66,89,84,69]⟩
 | 9=>⟨#[87,79,82,68]⟩
 | 10=>⟨#[68,87,79,82,68]⟩
 | 11=>⟨#[84,73,77,69]⟩
 | _=>⟨#[]⟩
def zaq:Nat→Int
 | 1=>1 | 2=>8 | 3=>16 | 4=>32 | 5=>8 | 6=>16 | 7=>32 | 8=>8 | 9=>16 | 10=>32 | 11=>32 | _=>0
def zag:Nat→Bool
 | 2=>true | 3=>true | 4=>true | 11=>true | _=>false
def zaG:Nat→Bool
 | 1=>true | 8=>true | 9=>true | 10=>true | _=>false
theorem zmg (w:World) :
  Calls Tryz.prog 92 #[.int .i64 1] w fun e w'=>e=.returned (.tuple #[.agg #[.string (zaw 1),.int .i64 (zaq 1),.bool (zag 1),.bool (zaG 1)],.bool true])∧Below w.heap.size w w':=by
 go_enter Tryz.func92,Tryz.ntmps92
 go_wp2
 exact bodyPost_ret (v:=(.tuple #[.agg #[.string (zaw 1),.int .i64 (zaq 1),.bool (zag 1),.bool (zaG 1)],.bool true])) (by simp [results,Tryz.results92,go_sem,zaw,zaq,zag,zaG]) rfl ⟨rfl,br_.alloc nl_ _⟩
theorem znk (w:World) :
  Calls Tryz.prog 92 #[.int .i64 2] w fun e w'=>e=.returned (.tuple #[.agg #[.string (zaw 2),.int .i64 (zaq 2),.bool (zag 2),.bool (zaG 2)],.bool true])∧Below w.heap.size w w':=by
 go_enter Tryz.func92,Tryz.ntmps92
 go_wp2
 exact bodyPost_ret (v:=(.tuple #[.agg #[.string (zaw 2),.int .i64 (zaq 2),.bool (zag 2),.bool (zaG 2)],.bool true])) (by simp [results,Tryz.results92,go_sem,zaw,zaq,zag,zaG]) rfl ⟨rfl,br_.alloc nl_ _⟩
theorem znl (w:World) :
  Calls Tryz.prog 92 #[.int .i64 3] w fun e w'=>e=.returned (.tuple #[.agg #[.string (zaw 3),.int .i64 (zaq 3),.bool (zag 3),.bool (zaG 3)],.bool true])∧Below w.heap.size w w':=by
 go_enter Tryz.func92,Tryz.ntmps92
 go_wp2
 exact bodyPost_ret (v:=(.tuple #[.agg #[.string (zaw 3),.int .i64 (zaq 3),.bool (zag 3),.bool (zaG 3)],.bool true])) (by simp [results,Tryz.results92,go_sem,zaw,zaq,zag,zaG]) rfl ⟨rfl,br_.alloc nl_ _⟩
theorem znm (w:World) :
  Calls Tryz.prog 92 #[.int .i64 4] w fun e w'=>e=.returned (.tuple #[.agg #[.string (zaw 4),.int .i64 (zaq 4),.bool (zag 4),.bool (zaG 4)],.bool true])∧Below w.heap.size w w':=by
 go_enter Tryz.func92,Tryz.ntmps92
 go_wp2
 exact bodyPost_ret (v:=(.tuple #[.agg #[.string (zaw 4),.int .i64 (zaq 4),.bool (zag 4),.bool (zaG 4)],.bool true])) (by simp [results,Tryz.results92,go_sem,zaw,zaq,zag,zaG]) rfl ⟨rfl,br_.alloc nl_ _⟩
theorem znn (w:World) :
  Calls Tryz.prog 92 #[.int .i64 5] w fun e w'=>e=.returned (.tuple #[.agg #[.string (zaw 5),.int .i64 (zaq 5),.bool (zag 5),.bool (zaG 5)],.bool true])∧Below w.heap.size w w':=by
 go_enter Tryz.func92,Tryz.ntmps92
 go_wp2
 exact bodyPost_ret (v:=(.tuple #[.agg #[.string (zaw 5),.int .i64 (zaq 5),.bool (zag 5),.bool (zaG 5)],.bool true])) (by simp [results,Tryz.results92,go_sem,zaw,zaq,zag,zaG]) rfl ⟨rfl,br_.alloc nl_ _⟩
theorem zno (w:World) :
  Calls Tryz.prog 92 #[.int .i64 6] w fun e w'=>e=.returned (.tuple #[.agg #[.string (zaw 6),.int .i64 (zaq 6),.bool (zag 6),.bool (zaG 6)],.bool true])∧Below w.heap.size w w':=by
 go_enter Tryz.func92,Tryz.ntmps92
 go_wp2
 exact bodyPost_ret (v:=(.tuple #[.agg #[.string (zaw 6),.int .i64 (zaq 6),.bool (zag 6),.bool (zaG 6)],.bool true])) (by simp [results,Tryz.results92,go_sem,zaw,zaq,zag,zaG]) rfl ⟨rfl,br_.alloc nl_ _⟩
theorem znp (w:World) :
  Calls Tryz.prog 92 #[.int .i64 7] w fun e w'=>e=.returned (.tuple #[.agg #[.string (zaw 7),.int .i64 (zaq 7),.bool (zag 7),.bool (zaG 7)],.bool true])∧Below w.heap.size w w':=by
 go_enter Tryz.func92,Tryz.ntmps92
 go_wp2
 exact bodyPost_ret (v:=(.tuple #[.agg #[.string (zaw 7),.int .i64 (zaq 7),.bool (zag 7),.bool (zaG 7)],.bool true])) (by simp [results,Tryz.results92,go_sem,zaw,zaq,zag,zaG]) rfl ⟨rfl,br_.alloc nl_ _⟩
theorem znq (w:World) :
  Calls Tryz.prog 92 #[.int .i64 8] w fun e w'=>e=.returned (.tuple #[.agg #[.string (zaw 8),.int .i64 (zaq 8),.bool (zag 8),.bool (zaG 8)],.bool true])∧Below w.heap.size w w':=by
 go_enter Tryz.func92,Tryz.ntmps92
 go_wp2
 exact bodyPost_ret (v:=(.tuple #[.agg #[.string (zaw 8),.int .i64 (zaq 8),.bool (zag 8),.bool (zaG 8)],.bool true])) (by simp [results,Tryz.results92,go_sem,zaw,zaq,zag,zaG]) rfl ⟨rfl,br_.alloc nl_ _⟩
theorem znr (w:World) :
  Calls Tryz.prog 92 #[.int .i64 9] w fun e w'=>e=.returned (.tuple #[.agg #[.string (zaw 9),.int .i64 (zaq 9),.bool (zag 9),.bool (zaG 9)],.bool true])∧Below w.heap.size w w':=by
 go_enter Tryz.func92,Tryz.ntmps92
 go_wp2
 exact bodyPost_ret (v:=(.tuple #[.agg #[.string (zaw 9),.int .i64 (zaq 9),.bool (zag 9),.bool (zaG 9)],.bool true])) (by simp [results,Tryz.results92,go_sem,zaw,zaq,zag,zaG]) rfl ⟨rfl,br_.alloc nl_ _⟩
theorem zlD (w:World) :
  Calls Tryz.prog 92 #[.int .i64 10] w fun e w'=>e=.returned (.tuple #[.agg #[.string (zaw 10),.int .i64 (zaq 10),.bool (zag 10),.bool (zaG 10)],.bool true])∧Below w.heap.size w w':=by
 go_enter Tryz.func92,Tryz.ntmps92
 go_wp2
 exact bodyPost_ret (v:=(.tuple #[.agg #[.string (zaw 10),.int .i64 (zaq 10),.bool (zag 10),.bool (zaG 10)],.bool true])) (by simp [results,Tryz.results92,go_sem,zaw,zaq,zag,zaG]) rfl ⟨rfl,br_.alloc nl_ _⟩
theorem zlE (w:World) :
  Calls Tryz.prog 92 #[.int .i64 11] w fun e w'=>e=.returned (.tuple #[.agg #[.string (zaw 11),.int .i64 (zaq 11),.bool (zag 11),.bool (zaG 11)],.bool true])∧Below w.heap.size w w':=by
 go_enter Tryz.func92,Tryz.ntmps92
 go_wp2
 exact bodyPost_ret (v:=(.tuple #[.agg #[.string (zaw 11),.int .i64 (zaq 11),.bool (zag 11),.bool (zaG 11)],.bool true])) (by simp [results,Tryz.results92,go_sem,zaw,zaq,zag,zaG]) rfl ⟨rfl,br_.alloc nl_ _⟩
theorem znj (k:Nat) (h1:1≤k) (h2:k≤11) (w:World) :
  Calls Tryz.prog 92 #[.int .i64 k] w fun e w'=>e=.returned (.tuple #[.agg #[.string (zaw k),.int .i64 (zaq k),.bool (zag k),.bool (zaG k)],.bool true])∧Below w.heap.size w w':=by
 have h:k=1∨k=2∨k=3∨k=4∨k=5∨k=6∨k=7∨k=8∨k=9∨k=10∨k=11:=by omega
 rcases h with rfl | rfl | rfl | rfl | rfl | rfl | rfl | rfl | rfl | rfl | rfl
 ·exact zmg w
 ·exact znk w
 ·exact znl w
 ·exact znm w
 ·exact znn w
 ·exact zno w
 ·exact znp w
 ·exact znq w
 ·exact znr w
 ·exact zlD w
 ·exact zlE w
theorem zkQ (k:Nat) (h1:1≤k) (h2:k≤11) (w:World) :
  Calls Tryz.prog 78 #[.int .i64 k] w fun e w'=>e=.returned (.string (zaw k))∧Below w.heap.size w w':=by
 have hc:=znj k h1 h2 w
 obtain ⟨a,ha⟩:∃ a,zaw k=a:=⟨_,rfl⟩
 obtain ⟨b,hb⟩:∃ a,zaq k=a:=⟨_,rfl⟩
 obtain ⟨c,hc'⟩:∃ a,zag k=a:=⟨_,rfl⟩
 obtain ⟨d,hd⟩:∃ a,zaG k=a:=⟨_,rfl⟩
 rw [ha,hb,hc',hd] at hc
 rw [ha]
 clear ha hb hc' hd
 have HC:=hd_ hc
 clear hc
 go_enter Tryz.func78,Tryz.ntmps78
 go_wp2_with (go_at_call 92;refine HC.out.mono ?_;rintro e w1 ⟨rfl,hb1⟩)
 go_ret
 exact ⟨rfl,hb1.alloc hb1.size _⟩
def zeF (x:ByteArray):Nat→Nat→Nat
 | 0,_=>0
 | n+1,k=>if zaw k=x then k else zeF x n (k+1)
def kindOf (x:ByteArray):Nat:=zeF x 11 1
def zbS (x:ByteArray) (r k:Nat):Prop:=zeF x (12 - k) k=r
theorem zbS.hit {x:ByteArray} {r k:Nat} (h:zbS x r k) (hk:k≤11) (he:zaw k=x):k=r:=by
 unfold zbS at h;rw [show 12 - k=(11 - k)+1 by omega,zeF,if_pos he] at h;exact h
theorem zbS.miss {x:ByteArray} {r k:Nat} (h:zbS x r k) (hk:k≤11) (he:¬ zaw k=x):zbS x r (k+1):=by
 unfold zbS at h ⊢;rw [show 12 - k=(11 - k)+1 by omega,zeF,if_neg he] at h;rw [show 12 - (k+1)=11 - k by omega];exact h
theorem zkO (x:ByteArray) (n k:Nat):zeF x n k=0∨(k≤zeF x n k∧zeF x n k < k+n):=by
 induction n generalizing k with
 | zero=>exact .inl rfl
 | succ n ih=>
  simp only [zeF]
  split
  ·right;omega
  ·rcases ih (k+1) with h | h
   ·exact .inl h
   ·right;omega
theorem zgf (x:ByteArray):kindOf x≤11:=by have:=zkO x 11 1;unfold kindOf;omega
theorem zge:kindOf ⟨#[]⟩=0:=by decide +kernel
theorem zmn {a b:Nat} (h:a=b):Ending.returned (.int .i64 (a:Int))=.returned (.int .i64 (b:Int)):=by rw [h]
theorem zav (a x:ByteArray):(a.toList==x.toList)=true↔a=x:=by
 rw [ByteArray.toList_eq,ByteArray.toList_eq,beq_iff_eq]
 constructor
 ·intro h;exact ByteArray.ext (Array.toList_inj.1 h)
 ·rintro rfl;rfl
theorem ziI {x:ByteArray} (h:x.toList.isEmpty=true):kindOf x=0:=by
 have h2:x=⟨#[]⟩:=by
  rw [ByteArray.toList_eq] at h
  exact ByteArray.ext (Array.toList_inj.1 (by simpa using h))
 rw [h2,zge]
theorem zl7 {x:ByteArray} {r:Nat} (hr:kindOf x=r) (w:World) :
  Calls Tryz.prog 44 #[.string x] w fun e w'=>e=.returned (.int .i64 r)∧Below w.heap.size w w':=by
 obtain ⟨b,hb0⟩:∃ b,x.toList.isEmpty=b:=⟨_,rfl⟩
 have HR:Hid (zbS x r 1):=hd_ hr
 have H0:Hid (b=true→r=0):=hd_ (fun h=>by rw [← hr];exact ziI (hb0.trans h))
 clear hr
 go_enter Tryz.func44,Tryz.ntmps44
 go_wp2
 go_loopw [3] (fun i wr=>∃ k:Nat,1≤k∧k≤12∧i=.int .i64 k∧Hid (zbS x r k)∧Below w.heap.size w wr) (fun i _=>12 - (intOf i).toNat)
 case atStart=>exact ⟨1,by omega,by omega,rfl,HR,Below.refl _ _⟩
 case round=>
  obtain ⟨k,hk1,hk2,rfl,HD,hb⟩:=hrel
  obtain ⟨WR,rfl⟩:∃ WR,WR=wr:=⟨_,rfl⟩
  by_cases hlt:k≤11
  ·have hcall:=zkQ k hk1 hlt
   have hhit:=HD.out.hit hlt
   have hmiss:=HD.out.miss hlt
   obtain ⟨a,ha⟩:∃ a,zaw k=a:=⟨_,rfl⟩
   have HC:Hid (∀ w,Calls Tryz.prog 78 #[.int .i64 k] w fun e w'=>e=.returned (.string a)∧Below w.heap.size w w'):=hd_ (by intro w;have:=hcall w;rw [ha] at this;exact this)
   rw [ha] at hhit hmiss
   have HH:=hd_ hhit
   have HM:=hd_ hmiss
   clear hhit hmiss hcall ha HD
   cases b with
   | true=>
    have HZ:=hd_ (H0.out rfl)
    clear H0
    go_wp2
    go_ret
    exact ⟨zaf (by rw [HZ.out];rfl),hb⟩
   | false=>
    obtain ⟨d,hd⟩:∃ d,(a.toList==x.toList)=d:=⟨_,rfl⟩
    cases d with
    | true=>
     have HE:=hd_ ((zav a x).1 hd)
     go_wp2_with (go_at_call 78;refine (HC.out _).mono ?_;rintro e w1 ⟨rfl,hb1⟩)
     go_ret
     exact ⟨zmn (HH.out HE.out),btr hb hb1⟩
    | false=>
     have HE:Hid (¬ a=x):=hd_ (fun h=>by rw [(zav a x).2 h] at hd;cases hd)
     go_wp2_with (go_at_call 78;refine (HC.out _).mono ?_;rintro e w1 ⟨rfl,hb1⟩)
     go_roundw
     case rel=>exact ⟨k+1,by omega,by omega,by go_num,hd_ (HM.out HE.out),btr hb hb1⟩
     case measure=>simp [intOf];omega
  ·have HE:Hid (r=0):=hd_ (by have:=HD.out;unfold zbS at this;rw [show 12 - k=0 by omega] at this;exact this.symm)
   clear HD
   go_wp2
   go_ret
   exact ⟨zaf (by rw [HE.out];rfl),hb⟩
def zaW (k:Nat) (n:Int):Int:=match k with
 | 1=>if n=0 then 0 else 1
 | 2=>IntKind.i8.wrap n | 3=>IntKind.i16.wrap n | 4=>IntKind.i32.wrap n | 11=>IntKind.i32.wrap n
 | 5=>IntKind.u8.wrap n | 6=>IntKind.u16.wrap n | 7=>IntKind.u32.wrap n
 | 8=>IntKind.u8.wrap n | 9=>IntKind.u16.wrap n | 10=>IntKind.u32.wrap n
 | _=>0
theorem zgY (b:Bool) (w:World) :
  Calls Tryz.prog 131 #[.bool b] w fun e w'=>e=.returned (.int .i64 (if b then 1 else 0))∧w=w':=by
 cases b
 all_goals
  go_enter Tryz.func131,Tryz.ntmps131
  go_wp2
  go_ret;exact ⟨rfl,rfl⟩
theorem zk4 (n:Int):IntKind.i8.wrap n=(n+128) % 256 - 128:=by
 simp only [IntKind.wrap,IntKind.bits,IntKind.signed];simp;omega
theorem zjK (n:Int):IntKind.i16.wrap n=(n+32768) % 65536 - 32768:=by
 simp only [IntKind.wrap,IntKind.bits,IntKind.signed];simp;omega
theorem zmK (n:Int) (w:World) :
  Calls Tryz.prog 116 #[.int .i64 1,.int .i64 n] w fun e w'=>e=.returned (.int .i64 (zaW 1 n))∧Below w.heap.size w w':=by
 by_cases h:n=0
 ·subst h
  go_enter Tryz.func116,Tryz.ntmps116
  go_wp2_with (first
   | (go_at_call 92;refine (zmg _).mono ?_;rintro e w1 ⟨rfl,hb1⟩;simp only [zaw,zaq,zag,zaG])
   | (go_at_call 131;refine (zgY _ _).mono ?_;rintro e w2 ⟨rfl,rfl⟩))
  go_ret
  exact ⟨rfl,hb1.alloc hb1.size _⟩
 ·have hn:¬ n=0:=h
  go_enter Tryz.func116,Tryz.ntmps116
  go_wp2_with (first
   | (go_at_call 92;refine (zmg _).mono ?_;rintro e w1 ⟨rfl,hb1⟩;simp only [zaw,zaq,zag,zaG])
   | (go_at_call 131;refine (zgY _ _).mono ?_;rintro e w2 ⟨rfl,rfl⟩))
  go_ret
  exact ⟨zaf (by simp [zaW,hn]),hb1.alloc hb1.size _⟩
theorem zmL (n:Int) (h:Is64 n) (w:World) :
  Calls Tryz.prog 116 #[.int .i64 2,.int .i64 n] w fun e w'=>e=.returned (.int .i64 (zaW 2 n))∧Below w.heap.size w w':=by
 obtain ⟨h1,h2⟩:=h
 go_enter Tryz.func116,Tryz.ntmps116
 go_wp2_with (go_at_call 92;refine (znk _).mono ?_;rintro e w1 ⟨rfl,hb1⟩;simp only [zaw,zaq,zag,zaG])
 go_ret
 exact ⟨zaf (by simp only [zaW,zk4,wrap64];omega),hb1.alloc hb1.size _⟩
theorem zmM (n:Int) (h:Is64 n) (w:World) :
  Calls Tryz.prog 116 #[.int .i64 3,.int .i64 n] w fun e w'=>e=.returned (.int .i64 (zaW 3 n))∧Below w.heap.size w w':=by
 obtain ⟨h1,h2⟩:=h
 go_enter Tryz.func116,Tryz.ntmps116
 go_wp2_with (go_at_call 92;refine (znl _).mono ?_;rintro e w1 ⟨rfl,hb1⟩;simp only [zaw,zaq,zag,zaG])
 go_ret
 exact ⟨zaf (by simp only [zaW,zjK,wrap64];omega),hb1.alloc hb1.size _⟩
theorem zmN (n:Int) (h:Is64 n) (w:World) :
  Calls Tryz.prog 116 #[.int .i64 4,.int .i64 n] w fun e w'=>e=.returned (.int .i64 (zaW 4 n))∧Below w.heap.size w w':=by
 obtain ⟨h1,h2⟩:=h
 go_enter Tryz.func116,Tryz.ntmps116
 go_wp2_with (go_at_call 92;refine (znm _).mono ?_;rintro e w1 ⟨rfl,hb1⟩;simp only [zaw,zaq,zag,zaG])
 go_ret
 exact ⟨zaf (by simp only [zaW,IntKind.wrap_i32,wrap64];omega),hb1.alloc hb1.size _⟩
theorem zmO (n:Int) (h:Is64 n) (w:World) :
  Calls Tryz.prog 116 #[.int .i64 5,.int .i64 n] w fun e w'=>e=.returned (.int .i64 (zaW 5 n))∧Below w.heap.size w w':=by
 obtain ⟨h1,h2⟩:=h
 go_enter Tryz.func116,Tryz.ntmps116
 go_wp2_with (go_at_call 92;refine (znn _).mono ?_;rintro e w1 ⟨rfl,hb1⟩;simp only [zaw,zaq,zag,zaG])
 go_ret
 exact ⟨zaf (by simp only [zaW,IntKind.wrap_u8,IntKind.wrap_u64,wrap64];omega),hb1.alloc hb1.size _⟩
theorem zmP (n:Int) (h:Is64 n) (w:World) :
  Calls Tryz.prog 116 #[.int .i64 6,.int .i64 n] w fun e w'=>e=.returned (.int .i64 (zaW 6 n))∧Below w.heap.size w w':=by
 obtain ⟨h1,h2⟩:=h
 go_enter Tryz.func116,Tryz.ntmps116
 go_wp2_with (go_at_call 92;refine (zno _).mono ?_;rintro e w1 ⟨rfl,hb1⟩;simp only [zaw,zaq,zag,zaG])
 go_ret
 exact ⟨zaf (by simp only [zaW,IntKind.wrap_u16,IntKind.wrap_u64,wrap64];omega),hb1.alloc hb1.size _⟩
theorem zmQ (n:Int) (h:Is64 n) (w:World) :
  Calls Tryz.prog 116 #[.int .i64 7,.int .i64 n] w fun e w'=>e=.returned (.int .i64 (zaW 7 n))∧Below w.heap.size w w':=by
 obtain ⟨h1,h2⟩:=h
 go_enter Tryz.func116,Tryz.ntmps116
 go_wp2_with (go_at_call 92;refine (znp _).mono ?_;rintro e w1 ⟨rfl,hb1⟩;simp only [zaw,zaq,zag,zaG])
 go_ret
 exact ⟨zaf (by simp only [zaW,IntKind.wrap_u32,IntKind.wrap_u64,wrap64];omega),hb1.alloc hb1.size _⟩
theorem zmR (n:Int) (h:Is64 n) (w:World) :
  Calls Tryz.prog 116 #[.int .i64 8,.int .i64 n] w fun e w'=>e=.returned (.int .i64 (zaW 8 n))∧Below w.heap.size w w':=by
 obtain ⟨h1,h2⟩:=h
 go_enter Tryz.func116,Tryz.ntmps116
 go_wp2_with (go_at_call 92;refine (znq _).mono ?_;rintro e w1 ⟨rfl,hb1⟩;simp only [zaw,zaq,zag,zaG])
 go_ret
 exact ⟨zaf (by simp only [zaW,IntKind.wrap_u8,IntKind.wrap_u64,wrap64];omega),hb1.alloc hb1.size _⟩
theorem zmS (n:Int) (h:Is64 n) (w:World) :
  Calls Tryz.prog 116 #[.int .i64 9,.int .i64 n] w fun e w'=>e=.returned (.int .i64 (zaW 9 n))∧Below w.heap.size w w':=by
 obtain ⟨h1,h2⟩:=h
 go_enter Tryz.func116,Tryz.ntmps116
 go_wp2_with (go_at_call 92;refine (znr _).mono ?_;rintro e w1 ⟨rfl,hb1⟩;simp only [zaw,zaq,zag,zaG])
 go_ret
 exact ⟨zaf (by simp only [zaW,IntKind.wrap_u16,IntKind.wrap_u64,wrap64];omega),hb1.alloc hb1.size _⟩
theorem zlt (n:Int) (h:Is64 n) (w:World) :
  Calls Tryz.prog 116 #[.int .i64 10,.int .i64 n] w fun e w'=>e=.returned (.int .i64 (zaW 10 n))∧Below w.heap.size w w':=by
 obtain ⟨h1,h2⟩:=h
 go_enter Tryz.func116,Tryz.ntmps116
 go_wp2_with (go_at_call 92;refine (zlD _).mono ?_;rintro e w1 ⟨rfl,hb1⟩;simp only [zaw,zaq,zag,zaG])
 go_ret
 exact ⟨zaf (by simp only [zaW,IntKind.wrap_u32,IntKind.wrap_u64,wrap64];omega),hb1.alloc hb1.size _⟩
theorem zlu (n:Int) (h:Is64 n) (w:World) :
  Calls Tryz.prog 116 #[.int .i64 11,.int .i64 n] w fun e w'=>e=.returned (.int .i64 (zaW 11 n))∧Below w.heap.size w w':=by
 obtain ⟨h1,h2⟩:=h
 go_enter Tryz.func116,Tryz.ntmps116
 go_wp2_with (go_at_call 92;refine (zlE _).mono ?_;rintro e w1 ⟨rfl,hb1⟩;simp only [zaw,zaq,zag,zaG])
 go_ret
 exact ⟨zaf (by simp only [zaW,IntKind.wrap_i32,wrap64];omega),hb1.alloc hb1.size _⟩
theorem zh7 (k:Nat) (hk1:1≤k) (hk2:k≤11) (n:Int) (h:Is64 n) (w:World) :
  Calls Tryz.prog 116 #[.int .i64 k,.int .i64 n] w fun e w'=>e=.returned (.int .i64 (zaW k n))∧Below w.heap.size w w':=by
 have h':k=1∨k=2∨k=3∨k=4∨k=5∨k=6∨k=7∨k=8∨k=9∨k=10∨k=11:=by omega
 rcases h' with rfl | rfl | rfl | rfl | rfl | rfl | rfl | rfl | rfl | rfl | rfl
 ·exact zmK n w
 ·exact zmL n h w
 ·exact zmM n h w
 ·exact zmN n h w
 ·exact zmO n h w
 ·exact zmP n h w
 ·exact zmQ n h w
 ·exact zmR n h w
 ·exact zmS n h w
 ·exact zlt n h w
 ·exact zlu n h w
end Go.Proofs.YtdpkjpjkdmkkpaaGreatDoor
namespace Go.Proofs.YtdpkjpjkdmkkpaaGreatDoor
open Go.RowKit Lx
def zbs:List UInt8:=[84,82,85,69]
def zbw:List UInt8:=[70,65,76,83,69]
def zaL (l:List UInt8) (at_ k:Nat):Tok × Nat × Int:=
 let rest:=l.drop at_
 let w:=rest.take (span zbi rest)
 if k=1∧(w=zbs∨w=zbw) then (⟨3,k,if w=zbs then 1 else 0,[],0⟩,at_+w.length,0)
 else if zag k=true∧Lib.hasPrefix rest [45]=true then
  let d:=zak (rest.drop 1) 10
  if d.2=0 then (tok0,0,120)
  else if -d.1=zaW k (-d.1) then (⟨3,k,-d.1,[],0⟩,at_+1+d.2,0) else (tok0,0,163)
 else
  let m:=Lx.number rest
  if m.2.2≠0 then (tok0,0,m.2.2)
  else if m.1=zaW k m.1 then (⟨3,k,m.1,[],0⟩,at_+m.2.1,0) else (tok0,0,163)
def tokV (t:Tok):Value:=.agg #[.int .i64 t.tok,.int .i64 t.kind,.int .i64 t.n,.string ⟨t.text.toArray⟩,.int .i64 t.at_]
end Go.Proofs.YtdpkjpjkdmkkpaaGreatDoor
namespace Go.Proofs.YtdpkjpjkdmkkpaaGreatDoor
open Ad Go.RowKit
theorem zdP (a:Int) (w:World) :
  Calls Tryz.prog 98 #[.int .i64 a] w fun e w'=>e=.returned (.int .i64 (zbG a))∧w=w':=by
 go_enter Tryz.func98,Tryz.ntmps98
 go_wp2
 all_goals (go_ret;exact ⟨zaf (by simp_all [zbG]),rfl⟩)
theorem zc0 (a:Int) (w:World) :
  Calls Tryz.prog 69 #[.int .i64 a] w fun e w'=>e=.returned (.bool (aBit a))∧w=w':=by
 go_enter Tryz.func69,Tryz.ntmps69
 go_wp2
 all_goals (go_ret;exact ⟨zct (by simp_all [aBit]),rfl⟩)
theorem zdO (a:Int) (w:World) :
  Calls Tryz.prog 95 #[.int .i64 a] w fun e w'=>e=.returned (.string ⟨(zaR a).toArray⟩)∧w=w':=by
 go_enter Tryz.func95,Tryz.ntmps95
 go_wp2
 all_goals (go_ret;exact ⟨zmo (by simp_all [zaR]),rfl⟩)
def zeM (l:List UInt8) (w:World) (e:Ending) (w':World):Prop:=
 ∃ (n:Int) (b:Bool),e=.returned (.tuple #[.int .i64 n,.bool b])∧Num l n b∧Below w.heap.size w w'
theorem zbV {l:List UInt8} {n:Int} {b:Bool} {w w':World} (hb:Below w.heap.size w w') (h1:Is64 n)
  (h3:b=zeG l) (h4:∀ m,zaH l=some m→n=m):zeM l w (.returned (.tuple #[.int .i64 n,.bool b])) w':=⟨n,b,rfl,⟨h3,h1,h4⟩,hb⟩
theorem zc8 (s:ByteArray) (hs:s.size≤281474976710656) (w:World) (he:Env w) :
  Calls Tryz.prog 97 #[.string s] w (zeM s.data.toList w):=by
 by_cases hok:∃ v,Lib.atoiAll s.data.toList=.ok v
 ·obtain ⟨v,h⟩:=hok
  have HV:Hid (Is64 v):=hd_ (Lib.atoiAll_bounds h)
  go_enter Tryz.func97,Tryz.ntmps97
  go_wp2_with (go_at_call 119;refine (Tryz.strconv_Atoi_ok s (by omega) v h _).mono ?_;rintro e w1 ⟨rfl,hw⟩)
  ·go_wp2_with (go_at_call 120;refine (Tryz.strconv_Itoa v HV.out.1 HV.out.2 _ (he.below (zh2 hw)).pow).mono ?_;rintro e w2 ⟨rfl,hw2⟩)
   ·have hlen:(s.size:Int)≤3:=by assumption
    have hit:Lib.itoa v=s.toList:=by assumption
    rw [ByteArray.toList_eq] at hit
    go_ret2
    have hl:s.data.toList.length=s.size:=rfl
    refine zbV (btr (zh2 hw) (zm4 hw2)) HV.out ?_ ?_
    ·unfold zeG;rw [zeV h]
     by_cases h0:0≤v
     ·rw [if_pos ⟨by omega,hit,h0⟩];simp [h0]
     ·rw [if_neg (fun h=>h0 h.2.2)];simp;omega
    ·intro m hm
     rw [zeV h] at hm
     split at hm
     ·rename_i hc;injection hm with hm;omega
     ·cases hm
   ·have hit:¬ Lib.itoa v=s.toList:=by assumption
    rw [ByteArray.toList_eq] at hit
    go_ret2
    refine zbV (btr (zh2 hw) (zm4 hw2)) HV.out ?_ ?_
    ·unfold zeG;rw [zeV h,if_neg (fun h=>hit h.2.1)];rfl
    ·intro m hm;rw [zeV h,if_neg (fun h=>hit h.2.1)] at hm;cases hm
  ·have hlen:(3:Int) < s.size:=by assumption
   have hl:s.data.toList.length=s.size:=rfl
   go_ret2
   refine zbV (zh2 hw) HV.out ?_ ?_
   ·unfold zeG;rw [zeV h,if_neg (fun h=>by omega)];rfl
   ·intro m hm;rw [zeV h,if_neg (fun h=>by omega)] at hm;cases hm
 have hbad:=fun v hv=>hok ⟨v,hv⟩
 have hn:=zmf (l:=s.data.toList) hbad
 by_cases h:Lib.atoiAll s.data.toList=.range
 ·obtain ⟨tp,p,hv⟩:=he.rng
  have HN:=hd_ hn
  clear hn hbad hok
  go_enter Tryz.func97,Tryz.ntmps97
  go_wp2_with (go_at_call 119;refine (Tryz.strconv_Atoi_range s hs h _ _ hv (.inr ⟨_,_,rfl⟩)).mono ?_;rintro e w1 ⟨N,rfl,-,-,hb⟩)
  go_ret2
  exact zbV hb (zkM _) (by simp [zeG,HN.out]) (fun m hm=>by rw [HN.out] at hm;cases hm)
 ·obtain ⟨tp,p,hv⟩:=he.syn
  have HN:=hd_ hn
  have HB:=hd_ hbad
  have H:=hd_ h
  clear hn hbad hok h
  go_enter Tryz.func97,Tryz.ntmps97
  go_wp2_with (go_at_call 119;refine (zkB s hs HB.out H.out _ _ hv (.inr ⟨_,_,rfl⟩)).mono ?_;rintro e w1 ⟨x,rfl,hb⟩)
  go_ret2
  exact zbV hb ⟨by omega,by omega⟩ (by simp [zeG,HN.out]) (fun m hm=>by rw [HN.out] at hm;cases hm)
theorem zbv (s p:ByteArray) (w:World) :
  Calls Tryz.prog 94 #[.string s,.string p] w fun e w'=>e=.returned (.tuple #[.string ⟨(Lib.trimPrefix s.data.toList p.data.toList).toArray⟩,.bool (Lib.hasPrefix s.data.toList p.data.toList)])∧w=w':=
 (Tryz.strings_CutPrefix s p w).mono fun _ _ ⟨h,k⟩=>⟨h,k.symm⟩
theorem zl0 (s p:ByteArray) (hs:s.size < 4294967281) (w:World) (he:Env w) :
  Calls Tryz.prog 96 #[.string s,.string p] w fun e w'=>
   ∃ c1 c2 pt,e=.returned (.tuple #[.string ⟨c1.toArray⟩,.string ⟨c2.toArray⟩,.bool pt])∧Cut s.data.toList p.data.toList c1 c2 pt∧∃ n,w'=w.drewN n:=by
 obtain ⟨m,hm⟩:=he.maxLen
 exact (Tryz.strings_Cut s p m w hs hm).mono fun e w' ⟨h1,h2⟩=>⟨_,_,_,h1,rfl,h2⟩
def zdR (l:List UInt8) (w:World) (e:Ending) (w':World):Prop:=
 e=.returned (.tuple #[.int .i64 (aParse l).1,.int .i64 (aParse l).2.1,.int .i64 (aParse l).2.2])∧Below w.heap.size w w'
theorem _root_.Go.RowKit.Below.drewN {B:Nat} {a w:World} (h:Below B a w) (n:Nat):Below B a (w.drewN n):=h.trans (Joins.below_draws _ _ _)
theorem za4 {l:List UInt8} {a n z:Int} {w w':World} (h:aParse l=(a,n,z)) (hb:Below w.heap.size w w') :
  zdR l w (.returned (.tuple #[.int .i64 a,.int .i64 n,.int .i64 z])) w':=⟨by rw [h],hb⟩
theorem ziu (s:ByteArray) (hs:s.size < 4294967281) (w:World) (he:Env w) :
  Calls Tryz.prog 68 #[.string s] w (zdR s.data.toList w):=by
 go_enter Tryz.func68,Tryz.ntmps68
 go_wp2
 go_loopw [17] (fun i wr=>∃ k:Nat,k≤6∧i=.int .i64 k∧aFrom s.data.toList (6 - k) k=aParse s.data.toList∧Below w.heap.size w wr) (fun i _=>6 - (intOf i).toNat)
 case atStart=>exact ⟨0,by omega,rfl,rfl,Below.refl _ _⟩
 case round=>
  obtain ⟨k,hk,rfl,hf,hb⟩:=hrel
  obtain ⟨WR,rfl⟩:∃ WR,WR=wr:=⟨_,rfl⟩
  by_cases hlt:k < 6
  ·cases hp:Lib.hasPrefix s.data.toList (zaR (1+(k:Int))) with
   | false=>
    go_wp2_with (first
     | (go_at_call 95;refine (zdO _ _).mono ?_;rintro e w1 ⟨rfl,rfl⟩)
     | (go_at_call 94;refine (zbv _ _ _).mono ?_;rintro e w1 ⟨rfl,rfl⟩))
    go_roundw
    case rel=>exact ⟨k+1,by omega,by go_num,(zit hlt hp).trans hf,hb⟩
    case measure=>simp [intOf];omega
   | true=>
    cases hbit:aBit (1+(k:Int)) with
    | false=>
     go_wp2_with (first
      | (go_at_call 95;refine (zdO _ _).mono ?_;rintro e w1 ⟨rfl,rfl⟩)
      | (go_at_call 69;refine (zc0 _ _).mono ?_;rintro e w1 ⟨rfl,rfl⟩)
      | (go_at_call 98;refine (zdP _ _).mono ?_;rintro e w1 ⟨rfl,rfl⟩)
      | (go_at_call 94;refine (zbv _ _ _).mono ?_;rintro e w1 ⟨rfl,rfl⟩))
     refine (zc8 _ (zi2 hs) _ (he.below hb)).mono ?_
     rintro e w1 ⟨n,ok,rfl,hn,hb1⟩
     obtain ⟨sz,hsz⟩:∃ sz,zbG (1+(k:Int))=sz:=⟨_,rfl⟩
     have HZ:=hd_ hsz
     clear hsz
     cases ok
     all_goals
      go_wp2_with (first
       | (go_at_call 95;refine (zdO _ _).mono ?_;rintro e w1 ⟨rfl,rfl⟩)
       | (go_at_call 69;refine (zc0 _ _).mono ?_;rintro e w1 ⟨rfl,rfl⟩)
       | (go_at_call 98;refine (zdP _ _).mono ?_;rintro e w1 ⟨rfl,rfl⟩;rw [HZ.out])
       | (go_at_call 94;refine (zbv _ _ _).mono ?_;rintro e w1 ⟨rfl,rfl⟩))
     all_goals go_ret3
     ·exact za4 (zbX hlt hp hf (by rw [zfg hbit,hn.word HZ.out,if_neg (by simp)])) (btr hb hb1)
     ·exact za4 (zeX hlt hp hf (by rw [zfg hbit,hn.word HZ.out,if_pos ⟨rfl,by assumption⟩])) (btr hb hb1)
     ·have hge:sz≤n:=by assumption
      exact za4 (zbX hlt hp hf (by rw [zfg hbit,hn.word HZ.out,if_neg (by omega)])) (btr hb hb1)
    | true=>
     go_wp2_with (first
      | (go_at_call 95;refine (zdO _ _).mono ?_;rintro e w1 ⟨rfl,rfl⟩)
      | (go_at_call 69;refine (zc0 _ _).mono ?_;rintro e w1 ⟨rfl,rfl⟩)
      | (go_at_call 94;refine (zbv _ _ _).mono ?_;rintro e w1 ⟨rfl,rfl⟩))
     refine (zl0 _ _ (zhI hs) _ (he.below hb)).mono ?_
     rintro e w1 ⟨c1,c2,pt,rfl,hc,nd,rfl⟩
     have HC:=hd_ hc
     clear hc
     have hc0:=fun (h:(Lib.trimPrefix s.data.toList (zaR (1+(k:Int)))).length≤4294967281)=>HC.out.short h
     have hcs:=hc0 (by have:=zhR s.data.toList (zaR (1+(k:Int)));have h:s.data.toList.length=s.size:=rfl;omega)
     have HS:=hd_ hcs
     clear hc0 hcs
     have hb':Below w.heap.size w (WR.drewN nd):=hb.drewN nd
     go_wp2_with fail
     refine (zc8 _ (lt_ HS.out.2 (by decide)) _ (he.below hb')).mono ?_
     rintro e w1 ⟨n2,ok2,rfl,hn2,hb2⟩
     have hb2':=btr hb' hb2
     clear hb2 hb'
     have ht:(pt=false∨ok2=false∨7 < n2)∨(pt=true∧ok2=true∧n2≤7):=by
      cases pt <;> cases ok2 <;> simp <;> omega
     rcases ht with ht | ⟨rfl,rfl,hn7⟩
     ·have HN:=hd_ (zbX hlt hp hf (by rw [HC.out.at hbit,hn2.bit_no ht]))
      clear hp hf
      cases pt
      ·go_wp2_with fail
       go_ret3
       exact za4 HN.out hb2'
      ·cases ok2
       ·go_wp2_with fail
        go_ret3
        exact za4 HN.out hb2'
       ·have h7:7 < n2:=by simpa using ht
        go_wp2_with fail
        go_ret3
        exact za4 HN.out hb2'
     ·go_wp2_with fail
      refine (zc8 _ (lt_ HS.out.1 (by decide)) _ (he.below hb2')).mono ?_
      rintro e w1 ⟨n1,ok1,rfl,hn1,hb3⟩
      have hb3':=btr hb2' hb3
      clear hb3 hb2'
      obtain ⟨sz,hsz⟩:∃ sz,zbG (1+(k:Int))=sz:=⟨_,rfl⟩
      have HZ:=hd_ hsz
      have H1:=hd_ hn1
      have H2:=hd_ hn2
      clear hsz hn1 hn2
      have hn20:0≤n2:=by obtain ⟨m,_,hm⟩:=H2.out.yes;omega
      cases ok1
      ·go_wp2_with (first
        | (go_at_call 69;refine (zc0 _ _).mono ?_;rintro e w1 ⟨rfl,rfl⟩)
        | (go_at_call 98;refine (zdP _ _).mono ?_;rintro e w1 ⟨rfl,rfl⟩;rw [HZ.out]))
       go_ret3
       exact za4 (zbX hlt hp hf (by rw [HC.out.at hbit,H1.out.bit H2.out HZ.out,if_neg (by simp)])) hb3'
      ·have hn1b:0≤n1∧n1 < 1000:=by
        obtain ⟨m,hm,hm'⟩:=H1.out.yes
        have:=(zaJ hm).1
        omega
       obtain ⟨hn10,hn11⟩:=hn1b
       go_wp2_with (first
        | (go_at_call 69;refine (zc0 _ _).mono ?_;rintro e w1 ⟨rfl,rfl⟩)
        | (go_at_call 98;refine (zdP _ _).mono ?_;rintro e w1 ⟨rfl,rfl⟩;rw [HZ.out]))
       all_goals go_ret3
       ·exact za4 (zeX hlt hp hf (by rw [HC.out.at hbit,H1.out.bit H2.out HZ.out,if_pos ⟨rfl,rfl,hn7,rfl,by assumption⟩])) hb3'
       ·have hge:sz≤8*n1+n2:=by assumption
        exact za4 (zbX hlt hp hf (by rw [HC.out.at hbit,H1.out.bit H2.out HZ.out,if_neg (by omega)])) hb3'
  ·go_wp2
   have hk6:k=6:=by omega
   go_ret3
   subst hk6
   exact za4 hf.symm hb
open Lx
theorem ze7 {w w2:World} {A B:Array Value} {t:TypeId} (hb:Below ((w.alloc (.cells A t)).alloc (.cells B t)).heap.size ((w.alloc (.cells A t)).alloc (.cells B t)) w2) :
  w2.heap[w.heap.size]? = some (.cells A t)∧w2.heap[w.heap.size+1]? = some (.cells B t)∧Below w.heap.size w w2:=by
 refine ⟨?_,?_,?_⟩
 ·rw [hb.block _ (by simp;omega)];show ((w.heap.push _).push _)[_]? = _;simp [Array.getElem?_push]
 ·rw [hb.block _ (by simp)]
  have h:(w.heap.push (.cells A t)).size=w.heap.size+1:=by simp
  show ((w.heap.push _).push _)[_]? = _
  rw [← h,Array.getElem?_push_size]
 ·exact btr ((br_.alloc nl_ _).alloc (by simp) _) hb
theorem zf8 {w w':World} {b:Nat} {o:Obj} (h:w.heap[b]? = some o) (hb:Below w.heap.size w w'):w'.heap[b]? = some o:=by
 rw [hb.block b (by
  rcases Nat.lt_or_ge b w.heap.size with h1 | h1
  ·exact h1
  ·rw [Array.getElem?_eq_none h1] at h;cases h)]
 exact h
theorem blk5 {w:World} {b:Nat} {v0 v1 v2 v3 v4:Value} {t:TypeId} (h:w.heap[b]? = some (.cells #[v0,v1,v2,v3,v4] t)) :
  w.cell? ⟨b,0,none⟩=some v0∧w.cell? ⟨b,1,none⟩=some v1∧w.cell? ⟨b,2,none⟩=some v2∧w.cell? ⟨b,3,none⟩=some v3∧w.cell? ⟨b,4,none⟩=some v4 ∧
  w.frozen? ⟨b,0,none⟩=false∧w.frozen? ⟨b,1,none⟩=false∧w.frozen? ⟨b,2,none⟩=false∧w.frozen? ⟨b,3,none⟩=false∧w.frozen? ⟨b,4,none⟩=false:=by
 simp [World.cell?,World.frozen?,h]
def TokS (w0:World) (k n:Int) (w':World):Prop:=
 w'.heap[w0.heap.size]? = some (.cells #[.int .i64 0,.int .i64 0,.int .i64 0,.string ⟨#[]⟩,.int .i64 0] 107) ∧
 w'.heap[w0.heap.size+1]? = some (.cells #[.int .i64 3,.int .i64 k,.int .i64 n,.string ⟨#[]⟩,.int .i64 0] 107)∧Below w0.heap.size w0 w'
theorem TokS.below {w0 w1 w2:World} {k n:Int} (h:TokS w0 k n w1) (hb:Below w1.heap.size w1 w2):TokS w0 k n w2:=
 ⟨zf8 h.1 hb,zf8 h.2.1 hb,btr h.2.2 hb⟩
theorem TokS.drew {w0 w1:World} {k n:Int} (h:TokS w0 k n w1):TokS w0 k n w1.drew:=⟨h.1,h.2.1,h.2.2.drew⟩
theorem TokS.c2 {w0 w1:World} {k n:Int} (h:TokS w0 k n w1):w1.cell? ⟨w0.heap.size+1,2,none⟩=some (.int .i64 n):=(blk5 h.2.1).2.2.1
theorem TokS.set {w0 w1:World} {k n:Int} (m:Int) (h:TokS w0 k n w1):TokS w0 k m (w1.setCell ⟨w0.heap.size+1,2,none⟩ (.int .i64 m)):=by
 refine ⟨?_,?_,h.2.2.setCell (by simp) _⟩
 ·rw [Below.heap_setCell _ _ _ _ (by simp)];exact h.1
 ·simp [World.setCell,Array.getElem?_modify,h.2.1]
theorem zcL (l:List UInt8):0≤(Lx.number l).1∧(Lx.number l).1≤1099511627776∧(Lx.number l).2.1≤l.length:=by
 have h1:=zaI l 10
 have h2:=za9 l 10 (by omega)
 have h3:=zaI (l.drop ((zak l 10).2+1)) (zak l 10).1
 have h4:=za9 (l.drop ((zak l 10).2+1)) (zak l 10).1 h2.1
 simp only [Lx.number]
 split
 ·exact ⟨by simp,by simp,by simp⟩
 ·split
  ·rename_i hc
   have hlt:(zak l 10).2 < l.length:=by
    rcases Nat.lt_or_ge (zak l 10).2 l.length with h | h
    ·exact h
    ·rw [List.getElem?_eq_none h] at hc;cases hc.1
   rw [List.length_drop] at h3
   split
   ·exact ⟨by simp,by simp,by simp⟩
   ·exact ⟨h4.1,h4.2,by dsimp only;omega⟩
  ·exact ⟨h2.1,h2.2,h1⟩
end Go.Proofs.YtdpkjpjkdmkkpaaGreatDoor
namespace Go.Proofs.YtdpkjpjkdmkkpaaGreatDoor
open Go.RowKit Lx
def zg2:Nat→List UInt8
 | 0=>[100] | 1=>[104] | 2=>[109] | 3=>[115] | 4=>[109,115] | _=>[]
def ze9:Nat→Int
 | 0=>86400000 | 1=>3600000 | 2=>60000 | 3=>1000 | 4=>1 | _=>1
def zbh (rest:List UInt8):Nat→Nat→Int→Int
 | 0,_,k=>k
 | f+1,i,k=>zbh rest f (i+1) (if Lib.hasPrefix rest (zg2 i)=true then (i:Int) else k)
def zg1 (rest:List UInt8) (next size:Nat):Int:=if size=0 then -1 else zbh rest (5 - next) next (-1)
def zfX (n m:Int) (k:Nat):Int:=min (n+min m (1099511627776 / ze9 k+1)*ze9 k) 1099511627776
def zfY (l:List UInt8):Nat→Nat→Int→Nat→Nat × Int × Nat
 | 0,at_,n,next=>(at_,n,next)
 | f+1,at_,n,next=>
  let d:=zak (l.drop at_) 10
  let k:=zg1 (l.drop (at_+d.2)) next d.2
  if k < 0 then (at_,n,next)
  else zfY l f (at_+d.2+(zg2 k.toNat).length) (zfX n d.1 k.toNat) (k.toNat+1)
def zkX (sign:Int) (t:Nat × Int × Nat):Tok × Nat × Int:=
 if t.2.2=0 then (tok0,0,120)
 else if t.2.1*sign=zaW 11 (t.2.1*sign) then (⟨4,11,t.2.1*sign,[],0⟩,t.1,0) else (tok0,0,163)
def zjE (l:List UInt8) (at_:Nat):Tok × Nat × Int:=
 if Lib.hasPrefix (l.drop at_) [45]=true then zkX (-1) (zfY l 5 (at_+1) 0 0) else zkX 1 (zfY l 5 at_ 0 0)
theorem zev (rest:List UInt8) (f i:Nat) (k:Int) (hk:k=-1∨∃ j:Nat,k=j∧j < i∧j < 5∧Lib.hasPrefix rest (zg2 j)=true) (hf:i+f=5) :
  zbh rest f i k=-1∨∃ j:Nat,zbh rest f i k=j∧j < 5∧Lib.hasPrefix rest (zg2 j)=true:=by
 induction f generalizing i k with
 | zero=>
  rcases hk with h | ⟨j,h,_,h2,h3⟩
  ·exact .inl h
  ·exact .inr ⟨j,h,h2,h3⟩
 | succ f ih=>
  simp only [zbh]
  refine ih _ _ ?_ (by omega)
  split
  ·rename_i hp
   exact .inr ⟨i,rfl,by omega,by omega,hp⟩
  ·rcases hk with h | ⟨j,h,h1,h2,h3⟩
   ·exact .inl h
   ·exact .inr ⟨j,h,by omega,h2,h3⟩
theorem zhV (rest:List UInt8) (f i:Nat) (k:Int) (next:Nat) (hk:k=-1∨(next:Int)≤k) (hi:next≤i) :
  zbh rest f i k=-1∨(next:Int)≤zbh rest f i k:=by
 induction f generalizing i k with
 | zero=>exact hk
 | succ f ih=>
  simp only [zbh]
  refine ih _ _ ?_ (by omega)
  split
  ·right;omega
  ·exact hk
theorem zbY {l p:List UInt8} (h:Lib.hasPrefix l p=true):p.length≤l.length:=by
 unfold Lib.hasPrefix at h
 have:=List.IsPrefix.length_le (List.isPrefixOf_iff_prefix.1 h)
 exact this
theorem zkq {rest:List UInt8} {next size:Nat} {k:Int} (h:zg1 rest next size=k) (hn:next≤5) (hk:¬ k < 0) :
  ∃ j:Nat,k=j∧next≤j∧j < 5∧(zg2 j).length≤rest.length:=by
 unfold zg1 at h
 split at h
 ·omega
 ·have h1:=zev rest (5 - next) next (-1) (.inl rfl) (by omega)
  have h2:=zhV rest (5 - next) next (-1) next (.inl rfl) (by omega)
  rw [h] at h1 h2
  rcases h1 with h1 | ⟨j,hj,h5,hp⟩
  ·omega
  ·exact ⟨j,hj,by omega,h5,zbY hp⟩
open Ad
def W3 (w:World):World:=((w.alloc (.cells #[.int .i64 0,.int .i64 0,.int .i64 0,.string ⟨#[]⟩,.int .i64 0] 107)).alloc (.cells #[.string ⟨#[100]⟩,.string ⟨#[104]⟩,.string ⟨#[109]⟩,.string ⟨#[115]⟩,.string ⟨#[109,115]⟩] 9)).alloc (.cells #[.int .i64 86400000,.int .i64 3600000,.int .i64 60000,.int .i64 1000,.int .i64 1] 2)
def zdS (rest:List UInt8) (z:Nat) (K:Int) (i:Nat) (k:Int):Prop:=(if z=0 then k else zbh rest (5 - i) i k)=K
theorem zdS.step {rest:List UInt8} {z:Nat} {K:Int} {i:Nat} {k:Int} (h:zdS rest z K i k) (hz:0 < z) (hi:i < 5) :
  zdS rest z K (i+1) (if Lib.hasPrefix rest (zg2 i)=true then (i:Int) else k):=by
 unfold zdS at h ⊢
 rw [if_neg (by omega)] at h ⊢
 rw [show 5 - i=(5 - (i+1))+1 by omega,zbh] at h
 exact h
theorem zdS.over {rest:List UInt8} {z:Nat} {K:Int} {i:Nat} {k:Int} (h:zdS rest z K i k) (hi:z=0∨5≤i):K=k:=by
 unfold zdS at h
 split at h
 ·exact h.symm
 ·rw [show 5 - i=0 by omega,zbh] at h;exact h.symm
def zcC (l:List UInt8) (t:Nat × Int × Nat) (f a:Nat) (n:Int) (nx:Nat):Prop:=zfY l f a n nx=t
theorem zcC.stop {l:List UInt8} {t:Nat × Int × Nat} {f a nx z:Nat} {n m:Int} (h:zcC l t (f+1) a n nx) (hd:zak (l.drop a) 10=(m,z)) (hk:zg1 (l.drop (a+z)) nx z < 0) :
  t=(a,n,nx):=by
 unfold zcC at h;simp only [zfY,hd] at h;rw [if_pos hk] at h;exact h.symm
theorem zcC.step {l:List UInt8} {t:Nat × Int × Nat} {f a nx z:Nat} {n m:Int} (h:zcC l t (f+1) a n nx) (hd:zak (l.drop a) 10=(m,z)) {j:Nat} (hk:zg1 (l.drop (a+z)) nx z=j) :
  zcC l t f (a+z+(zg2 j).length) (zfX n m j) (j+1):=by
 unfold zcC at h ⊢;simp only [zfY,hd] at h;rw [if_neg (by rw [hk];omega),hk] at h;exact h
def KW:List (List UInt8):=[[80,82,79,71,82,65,77],[69,78,68,95,80,82,79,71,82,65,77],[86,65,82],[82,69,84,65,73,78],[69,78,68,95,86,65,82],[84,89,80,69],[69,78,68,95,84,89,80,69],[83,84,82,85,67,84],[69,78,68,95,83,84,82,85,67,84],[65,82,82,65,89],[79,70],[65,84],[73,70],[84,72,69,78],[69,76,83,73,70],[69,76,83,69],[69,78,68,95,73,70],[67,65,83,69],[69,78,68,95,67,65,83,69],[70,79,82],[84,79],[66,89],[68,79],[69,78,68,95,70,79,82],[87,72,73,76,69],[69,78,68,95,87,72,73,76,69],[82,69,80,69,65,84],[85,78,84,73,76],[69,78,68,95,82,69,80,69,65,84],[69,88,73,84],[82,69,84,85,82,78],[65,78,68],[79,82],[88,79,82],[78,79,84],[77,79,68]]
def mkS (l:List UInt8):ByteArray:=⟨l.toArray⟩
def zhm (x:ByteArray):Bool:=kindOf x != 0 || Lib.containsS (KW.map mkS) x
structure LEnv (w:World):Prop where
 env:Env w
 space : Lib.TabIs Tryz.prog w "strings.asciiSpace" .u8 Lib.asciiSpaceTab
theorem zkj : Tryz.prog.globalNamed "strings.asciiSpace" = some 1 := by kernel_rfl
theorem Env.lt {w:World} (h:Env w):3 < w.heap.size:=by
 obtain ⟨m,hm⟩:=h.maxLen
 exact zac hm
theorem LEnv.below {w w':World} (h:LEnv w) (hb:Below w.heap.size w w'):LEnv w' where
 env:=h.env.below hb
 space:=Joins.tab_stays zkj h.space hb nl_
theorem zf7 {l:List UInt8} (h:l.all (fun b=>decide (b.toNat < 128))=true):∀ (j:Nat) b,l[j]? = some b→b.toNat < 128:=by
 intro j b hj
 have:=List.all_eq_true.1 h b (List.mem_of_getElem? hj)
 simpa using this
theorem zh5 (s:ByteArray) (L:List (List UInt8)) (hs:s.size < 4294967281) (ha:s.data.toList.all (fun b=>decide (b.toNat < 128))=true) (hL:Lib.fields s.data.toList=L) (w:World)
  (htab : Lib.TabIs Tryz.prog w "strings.asciiSpace" .u8 Lib.asciiSpaceTab) :
  Calls Tryz.prog 43 #[.string s] w fun e w'=>e=.returned (.slice (some ⟨w.heap.size,0,none⟩) L.length L.length)∧w'=w.alloc (.cells (L.map fun l=>Value.string ⟨l.toArray⟩).toArray 9):=by
 subst hL
 exact Tryz.strings_Fields s w hs (zf7 ha) htab
def za7 (x:ByteArray) (z:Nat):Tok × Nat × Int:=
 if (x.toList==zbs)=true then (⟨3,1,1,[],0⟩,z,0)
 else if (x.toList==zbw)=true then (⟨3,1,0,[],0⟩,z,0)
 else if zhm x=true then (⟨1,0,0,x.data.toList,0⟩,z,0)
 else if 32 < z then (tok0,0,121)
 else (⟨2,0,0,x.data.toList,0⟩,z,0)
def zcq (l:List UInt8):Tok × Nat × Int:=
 let z:=span zbi l
 let x:=mkS (l.take z)
 let k:=kindOf x
 if l[z]? = some 35∧(k≠0∨(x.toList==[84])=true) then
  if k=11∨k=0 then zjE l (z+1) else zaL l (z+1) k
 else za7 x z
def SG:List (List UInt8):=[[58,61],[46,46],[60,61],[62,61],[60,62],[61,62],[58],[59],[44],[46],[40],[41],[91],[93],[61],[60],[62],[43],[45],[42],[47]]
def zcT (l:List UInt8):List (List UInt8)→Tok × Nat × Int
 | []=>(tok0,0,120)
 | g::gs=>if Lib.hasPrefix l g=true then (⟨6,0,0,g,0⟩,g.length,0) else zcT l gs
def zbQ (q:Int × Nat × Int):Tok × Nat × Int:=(⟨3,0,q.1,[],0⟩,q.2.1,if q.2.2=0∧4294967295 < q.1 then 121 else q.2.2)
def zb3 (l:List UInt8) (z:Nat) (e:Int):Tok × Nat × Int:=if e≠0 then (tok0,0,e) else (⟨5,0,0,l.take z,0⟩,z,0)
def zdk (l:List UInt8):Tok × Nat × Int:=match l with
 | []=>(tok0,0,0)
 | c::t=>
  if c.toNat=10 then (⟨7,0,0,[10],0⟩,1,0)
  else if lett c=true then zcq (c::t)
  else if dig c=true then zbQ (Lx.number (c::t))
  else if c.toNat=37 then zb3 (c::t) (1+span zdU t) (aParse ((c::t).take (1+span zdU t))).2.2
  else zcT (c::t) SG
theorem zmy (j:Nat) (hj:j < 21):(SG.map fun l=>Value.string ⟨l.toArray⟩).toArray[j]? = some (.string ⟨(SG.getD j []).toArray⟩):=by
 have h:j < SG.length:=hj
 rw [List.getElem?_toArray,List.getElem?_map,List.getElem?_eq_getElem h,List.getD_eq_getElem?_getD,List.getElem?_eq_getElem h]
 rfl
theorem zmz (l:List UInt8) (k:Nat) (hk:k < 21):zcT l (SG.drop k)=if Lib.hasPrefix l (SG.getD k [])=true then (⟨6,0,0,SG.getD k [],0⟩,(SG.getD k []).length,0) else zcT l (SG.drop (k+1)):=by
 have h:k < SG.length:=hk
 rw [List.drop_eq_getElem_cons h,zcT,List.getD_eq_getElem?_getD,List.getElem?_eq_getElem h]
 rfl
end Go.Proofs.YtdpkjpjkdmkkpaaGreatDoor
namespace Go.Proofs.YtdpkjpjkdmkkpaaGreatDoor
open Go.RowKit Lx
def zbk (il:Bool) (c:UInt8):Bool:=c.toNat==32 || c.toNat==9 || c.toNat==13 || (c.toNat==10&&!il)
def zjg (il:Bool) (l:List UInt8):Nat→Nat→Except Nat Nat
 | 0,a=>.ok a
 | f+1,a=>match l.drop a with
  | []=>.ok a
  | c::t=>
   if zbk il c=true then zjg il l f (a+1)
   else if Lib.hasPrefix (c::t) [40,42]=true then
    if Lib.index ((c::t).drop 2) [42,41] < 0 then .error a
    else zjg il l f (a+((Lib.index ((c::t).drop 2) [42,41]).toNat+4))
   else .ok a
def znD (il:Bool) (l:List UInt8):Nat→Nat→List Tok→Except (Nat × Int) (List Tok)
 | 0,a,_=>.error (a,0)
 | f+1,a,out=>match zjg il l (l.length+1) a with
  | .error a'=>.error (a',120)
  | .ok a'=>
   if a'=l.length then .ok (out++[⟨0,0,0,[],a'⟩])
   else
    let r:=zdk (l.drop a')
    if r.2.2≠0 then .error (a',r.2.2)
    else znD il l f (a'+r.2.1) (out++[{ r.1 with at_:=a' }])
instance:DecidableEq (Except (Nat × Int) (List Tok)):=fun a b=>match a,b with
 | .ok x,.ok y=>if h:x=y then isTrue (by rw [h]) else isFalse (fun k=>h (by injection k))
 | .error x,.error y=>if h:x=y then isTrue (by rw [h]) else isFalse (fun k=>h (by injection k))
 | .ok _,.error _=>isFalse (fun k=>nomatch k)
 | .error _,.ok _=>isFalse (fun k=>nomatch k)
structure Only (b:Nat) (w w':World):Prop where
 os:w'.os=w.os
 tape:w'.tape=w.tape
 output:w'.output=w.output
 size:w.heap.size≤w'.heap.size
 block:∀ k,k < w.heap.size→k≠b→w'.heap[k]? = w.heap[k]?
theorem Only.refl (b:Nat) (w:World):Only b w w:=⟨rfl,rfl,rfl,Nat.le_refl _,fun _ _ _=>rfl⟩
theorem Only.trans {b:Nat} {w w1 w2:World} (h:Only b w w1) (k:Only b w1 w2):Only b w w2:=
 ⟨k.os.trans h.os,k.tape.trans h.tape,k.output.trans h.output,lt_ h.size k.size,fun i hi hb=>(k.block i (ll_ hi h.size) hb).trans (h.block i hi hb)⟩
theorem Only.ofBelow {b:Nat} {w w':World} (h:Below w.heap.size w w'):Only b w w':=⟨h.os,h.tape,h.output,h.size,fun k hk _=>h.block k hk⟩
theorem Only.below {b B:Nat} {w w':World} (h:Only b w w') (hb:B≤b) (hB:B≤w.heap.size):Below B w w':=
 ⟨h.os,h.tape,h.output,h.size,fun k hk=>h.block k (by omega) (by omega)⟩
theorem Only.drewN {b:Nat} {w w':World} (h:Only b w w') (n:Nat):Only b w (w'.drewN n):=h.trans (Only.ofBelow (br_.drewN n))
theorem Only.setCell {b:Nat} {w w':World} (h:Only b w w') (o:Nat) (v:Value):Only b w (w'.setCell ⟨b,o,none⟩ v):=
 h.trans ⟨rfl,rfl,rfl,by simp [World.setCell],fun k _ hk=>Below.heap_setCell _ _ _ _ (by simpa using hk)⟩
open Ad
theorem Only.alloc {b:Nat} {w w':World} (h:Only b w w') (o:Obj):Only b w (w'.alloc o):=h.trans (Only.ofBelow (br_.alloc nl_ _))
end Go.Proofs.YtdpkjpjkdmkkpaaGreatDoor
