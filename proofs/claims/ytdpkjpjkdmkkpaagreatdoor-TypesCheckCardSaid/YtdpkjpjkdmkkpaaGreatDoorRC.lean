/- The walk through the reference's Plain (package rungref15). -/
import Derived.Test.YtdpkjpjkdmkkpaaGreatDoorRB
import Derived.Test.YtdpkjpjkdmkkpaaGreatDoorTQ
set_option maxRecDepth 100000
set_option maxHeartbeats 16000000
namespace Go.Proofs.YtdpkjpjkdmkkpaaGreatDoor
open Ad Go.RowKit Lx Pa
theorem zfG (l:Pa.Lit) (a:Option Addr) (c:Nat) (ho:l.op≠3) (w:World) :
  Calls Tryz.prog 56 #[.agg #[.int .i64 l.op,.int .i64 l.kind,.int .i64 l.n,.string ⟨#[]⟩,.string ⟨#[]⟩,.slice a 0 c,.int .i64 l.at_]] w fun e w'=>e=.returned (.tuple #[.int .i64 (Rf.plain (.plain l)).1,.bool (Rf.plain (.plain l)).2])∧Below w.heap.size w w':=by
 obtain ⟨op,kind,n,at9⟩:=l
 obtain ⟨r2,hr2⟩:∃ x,(Rf.plain (.plain ⟨op,kind,n,at9⟩)).2=x:=⟨_,rfl⟩
 have HR2:Hid ((decide (op=1)&&decide (kind=0))=r2):=hd_ hr2
 rw [hr2]
 clear hr2
 simp only at ho ⊢
 have e3:(op==3)=false:=by simpa using ho
 show Calls _ _ _ _ fun e w'=>e=.returned (.tuple #[.int .i64 n,.bool r2])∧Below w.heap.size w w'
 by_cases h1:op=1
 ·by_cases h2:kind=0
  ·have hr:r2=true:=by rw [← HR2.out,h1,h2];rfl
   subst h1 h2 hr
   go_enter Tryz.func56,Tryz.ntmps56
   go_upto_region 3 with fail
   go_quiet (fail)
   go_wp2
   go_returns
   exact ⟨rfl,by first | exact (br_.alloc nl_ _).drewN _ | exact br_.alloc nl_ _⟩
  ·have hr:r2=false:=by rw [← HR2.out];simp [h2]
   have e4:(kind==0)=false:=by simpa using h2
   subst h1 hr
   go_enter Tryz.func56,Tryz.ntmps56
   go_upto_region 3 with fail
   go_quiet (fail)
   go_wp2
   go_returns
   exact ⟨rfl,by first | exact (br_.alloc nl_ _).drewN _ | exact br_.alloc nl_ _⟩
 ·have hr:r2=false:=by rw [← HR2.out];simp [h1]
  have e5:(op==1)=false:=by simpa using h1
  subst hr
  go_enter Tryz.func56,Tryz.ntmps56
  go_upto_region 3 with fail
  go_quiet (fail)
  go_wp2
  go_returns
  exact ⟨rfl,by first | exact (br_.alloc nl_ _).drewN _ | exact br_.alloc nl_ _⟩
theorem zfH (l:Pa.Lit) (ta:Int) (g c:Nat) (w:World) (h0:w.cell? ⟨g,0,none⟩=some (.int .i64 l.op)) (h1:w.cell? ⟨g,1,none⟩=some (.int .i64 l.kind)) (h2:w.cell? ⟨g,2,none⟩=some (.int .i64 l.n)) :
  Calls Tryz.prog 56 #[.agg #[.int .i64 3,.int .i64 0,.int .i64 0,.string ⟨#[]⟩,.string ⟨#[]⟩,.slice (some ⟨g,0,none⟩) 1 c,.int .i64 ta]] w fun e w'=>e=.returned (.tuple #[.int .i64 (Rf.plain (.neg l ta)).1,.bool (Rf.plain (.neg l ta)).2])∧Below w.heap.size w w':=by
 obtain ⟨op,kind,n,at9⟩:=l
 simp only at h0 h1 h2
 have kg:=zac h0
 obtain ⟨r,hr⟩:∃ x,Rf.plain (.neg ⟨op,kind,n,at9⟩ ta)=x:=⟨_,rfl⟩
 have HR:Hid ((if op=1∧kind=0 then (neg64 n,true) else (0,false))=r):=hd_ hr
 rw [hr]
 clear hr
 by_cases hp:op=1∧kind=0
 ·obtain ⟨rfl,rfl⟩:=hp
  have e:r=(neg64 n,true):=by rw [← HR.out];rfl
  subst e
  obtain ⟨m,hm⟩:∃ m,IntKind.i64.wrap (-n)=m:=⟨_,rfl⟩
  have HM:Hid (neg64 n=m):=hd_ hm
  rw [HM.out]
  go_enter Tryz.func56,Tryz.ntmps56
  go_wp2
  go_returns
  exact ⟨rfl,br_.alloc nl_ _⟩
 ·have e:r=(0,false):=by rw [← HR.out,if_neg hp]
  subst e
  by_cases h3:op=1
  ·subst h3
   have e4:(kind==0)=false:=by simpa using hp
   go_enter Tryz.func56,Tryz.ntmps56
   go_upto_region 3 with fail
   go_quiet (fail)
   go_wp2
   go_returns
   exact ⟨rfl,by first | exact (br_.alloc nl_ _).drewN _ | exact br_.alloc nl_ _⟩
  ·have e5:(op==1)=false:=by simpa using h3
   go_enter Tryz.func56,Tryz.ntmps56
   go_upto_region 3 with fail
   go_quiet (fail)
   go_wp2
   go_returns
   exact ⟨rfl,by first | exact (br_.alloc nl_ _).drewN _ | exact br_.alloc nl_ _⟩
theorem zbp (n:Int) (i:Nat) (hi:i≤32):bits .and .i64 n (2 ^ i - 1)=n % 2 ^ i:=by
 have hpos:0 < 2 ^ i:=Nat.two_pow_pos i
 have hle:2 ^ i≤2 ^ 32:=Nat.pow_le_pow_right (by decide) hi
 have hc:((2:Int) ^ i - 1)=((2 ^ i - 1:Nat):Int):=by
  rw [Int.natCast_sub hpos];simp
 obtain ⟨m,hm⟩:∃ m:Nat,(n % 18446744073709551616)=m:=⟨(n % 18446744073709551616).toNat,by omega⟩
 have h1:(BitVec.ofInt 64 n).toNat=m:=by
  rw [BitVec.toNat_ofInt]
  have:(n % ((2 ^ 64:Nat):Int))=m:=by rw [← hm];rfl
  rw [this];simp
 have h2:(BitVec.ofInt 64 ((2 ^ i - 1:Nat):Int)).toNat=2 ^ i - 1:=by
  rw [BitVec.ofInt_natCast,BitVec.toNat_ofNat]
  exact Nat.mod_eq_of_lt (by omega)
 rw [hc]
 show IntKind.i64.wrap (((BitVec.ofInt 64 n &&& BitVec.ofInt 64 ((2 ^ i - 1:Nat):Int)).toNat:Nat):Int)=_
 rw [BitVec.toNat_and,h1,h2,Nat.and_two_pow_sub_one_eq_mod]
 have h3:m % 2 ^ i < 2 ^ i:=Nat.mod_lt _ hpos
 rw [IntKind.wrap_i64]
 have h4:((m % 2 ^ i:Nat):Int)=n % 2 ^ i:=by
  have h5:((m % 2 ^ i:Nat):Int)=(m:Int) % 2 ^ i:=by simp
  rw [h5,← hm]
  have h6:((2:Int) ^ i) ∣ 18446744073709551616:=by
   refine ⟨2 ^ (64 - i),?_⟩
   rw [← Int.pow_add]
   rw [show i+(64 - i)=64 by omega];rfl
  exact Int.emod_emod_of_dvd _ h6
 rw [h4]
 have h7:(n % 2 ^ i)=((m % 2 ^ i:Nat):Int):=h4.symm
 omega
def za6 (k:Nat) (n:Int) (w:World) (e:Ending) (w':World):Prop:=∃ r,e=.returned (.int .i64 r)∧(Ty.inKind k n=true→r=n)∧Below w.heap.size w w'
theorem zmp (n:Int) (w:World):Calls Tryz.prog 59 #[.int .i64 1,.int .i64 n] w (za6 1 n w):=by
 have HK:Hid (Ty.inKind (1:Nat) n=true→0≤n∧n≤1):=hd_ (by
  intro h
  simp [Ty.inKind,Ty.low,Ty.high] at h
  omega)
 by_cases h0:n=0
 ·subst h0
  go_enter Tryz.func59,Tryz.ntmps59
  go_wp2_with (first | (go_at_call 60;refine (zdF _).mono ?_;rintro e w1 ⟨rfl,hb1⟩) | (go_at_call 57;refine (zdE _).mono ?_;rintro e w2 ⟨he9,hb2⟩;have he8:e=.returned (.tuple #[.int .i64 (0),.int .i64 (1)]):=he9;subst he8;clear he9))
  go_ret
  exact ⟨_,rfl,fun _=>rfl,hb1⟩
 ·have h1:(n != 0)=true:=by simpa using h0
  have H0:=hd_ h0
  clear h0
  go_enter Tryz.func59,Tryz.ntmps59
  go_wp2_with (first | (go_at_call 60;refine (zdF _).mono ?_;rintro e w1 ⟨rfl,hb1⟩) | (go_at_call 57;refine (zdE _).mono ?_;rintro e w2 ⟨he9,hb2⟩;have he8:e=.returned (.tuple #[.int .i64 (0),.int .i64 (1)]):=he9;subst he8;clear he9))
  go_ret
  exact ⟨_,rfl,fun h=>by have:=HK.out h;have:=H0.out;omega,hb1⟩
theorem zmq (n:Int) (w:World):Calls Tryz.prog 59 #[.int .i64 2,.int .i64 n] w (za6 2 n w):=by
 have HK:Hid (Ty.inKind (2:Nat) n=true→-128≤n∧n≤127):=hd_ (by
  intro h
  simp [Ty.inKind,Ty.low,Ty.high] at h
  omega)
 obtain ⟨u,hu⟩:∃ u,bits .and .i64 n 255=u:=⟨_,rfl⟩
 have H1:Hid (u=n % 256):=hd_ (by rw [← hu];simpa using zbp n 8 (by decide))
 have hu0:0≤u:=by have:=H1.out;omega
 have hu1:u < 256:=by have:=H1.out;omega
 have hw:IntKind.i64.wrap (u - 256)=u - 256:=IntWalk.i64_in _ (by omega)
 by_cases ht:127 < u
 ·go_enter Tryz.func59,Tryz.ntmps59
  go_wp2_with (first | (go_at_call 60;refine (zdG _).mono ?_;rintro e w1 ⟨rfl,hb1⟩) | (go_at_call 57;refine (zfI _).mono ?_;rintro e w2 ⟨he9,hb2⟩;have he8:e=.returned (.tuple #[.int .i64 (-128),.int .i64 (127)]):=he9;subst he8;clear he9))
  go_ret
  exact ⟨_,rfl,fun h=>by have:=HK.out h;have:=H1.out;omega,hb1.trans (hb2.mono hb1.size)⟩
 ·go_enter Tryz.func59,Tryz.ntmps59
  go_wp2_with (first | (go_at_call 60;refine (zdG _).mono ?_;rintro e w1 ⟨rfl,hb1⟩) | (go_at_call 57;refine (zfI _).mono ?_;rintro e w2 ⟨he9,hb2⟩;have he8:e=.returned (.tuple #[.int .i64 (-128),.int .i64 (127)]):=he9;subst he8;clear he9))
  go_ret
  exact ⟨_,rfl,fun h=>by have:=HK.out h;have:=H1.out;omega,hb1.trans (hb2.mono hb1.size)⟩
theorem zmr (n:Int) (w:World):Calls Tryz.prog 59 #[.int .i64 3,.int .i64 n] w (za6 3 n w):=by
 have HK:Hid (Ty.inKind (3:Nat) n=true→-32768≤n∧n≤32767):=hd_ (by
  intro h
  simp [Ty.inKind,Ty.low,Ty.high] at h
  omega)
 obtain ⟨u,hu⟩:∃ u,bits .and .i64 n 65535=u:=⟨_,rfl⟩
 have H1:Hid (u=n % 65536):=hd_ (by rw [← hu];simpa using zbp n 16 (by decide))
 have hu0:0≤u:=by have:=H1.out;omega
 have hu1:u < 65536:=by have:=H1.out;omega
 have hw:IntKind.i64.wrap (u - 65536)=u - 65536:=IntWalk.i64_in _ (by omega)
 by_cases ht:32767 < u
 ·go_enter Tryz.func59,Tryz.ntmps59
  go_wp2_with (first | (go_at_call 60;refine (zdH _).mono ?_;rintro e w1 ⟨rfl,hb1⟩) | (go_at_call 57;refine (zfJ _).mono ?_;rintro e w2 ⟨he9,hb2⟩;have he8:e=.returned (.tuple #[.int .i64 (-32768),.int .i64 (32767)]):=he9;subst he8;clear he9))
  go_ret
  exact ⟨_,rfl,fun h=>by have:=HK.out h;have:=H1.out;omega,hb1.trans (hb2.mono hb1.size)⟩
 ·go_enter Tryz.func59,Tryz.ntmps59
  go_wp2_with (first | (go_at_call 60;refine (zdH _).mono ?_;rintro e w1 ⟨rfl,hb1⟩) | (go_at_call 57;refine (zfJ _).mono ?_;rintro e w2 ⟨he9,hb2⟩;have he8:e=.returned (.tuple #[.int .i64 (-32768),.int .i64 (32767)]):=he9;subst he8;clear he9))
  go_ret
  exact ⟨_,rfl,fun h=>by have:=HK.out h;have:=H1.out;omega,hb1.trans (hb2.mono hb1.size)⟩
theorem zms (n:Int) (w:World):Calls Tryz.prog 59 #[.int .i64 4,.int .i64 n] w (za6 4 n w):=by
 have HK:Hid (Ty.inKind (4:Nat) n=true→-2147483648≤n∧n≤2147483647):=hd_ (by
  intro h
  simp [Ty.inKind,Ty.low,Ty.high] at h
  omega)
 obtain ⟨u,hu⟩:∃ u,bits .and .i64 n 4294967295=u:=⟨_,rfl⟩
 have H1:Hid (u=n % 4294967296):=hd_ (by rw [← hu];simpa using zbp n 32 (by decide))
 have hu0:0≤u:=by have:=H1.out;omega
 have hu1:u < 4294967296:=by have:=H1.out;omega
 have hw:IntKind.i64.wrap (u - 4294967296)=u - 4294967296:=IntWalk.i64_in _ (by omega)
 by_cases ht:2147483647 < u
 ·go_enter Tryz.func59,Tryz.ntmps59
  go_wp2_with (first | (go_at_call 60;refine (zdI _).mono ?_;rintro e w1 ⟨rfl,hb1⟩) | (go_at_call 57;refine (zfK _).mono ?_;rintro e w2 ⟨he9,hb2⟩;have he8:e=.returned (.tuple #[.int .i64 (-2147483648),.int .i64 (2147483647)]):=he9;subst he8;clear he9))
  go_ret
  exact ⟨_,rfl,fun h=>by have:=HK.out h;have:=H1.out;omega,hb1.trans (hb2.mono hb1.size)⟩
 ·go_enter Tryz.func59,Tryz.ntmps59
  go_wp2_with (first | (go_at_call 60;refine (zdI _).mono ?_;rintro e w1 ⟨rfl,hb1⟩) | (go_at_call 57;refine (zfK _).mono ?_;rintro e w2 ⟨he9,hb2⟩;have he8:e=.returned (.tuple #[.int .i64 (-2147483648),.int .i64 (2147483647)]):=he9;subst he8;clear he9))
  go_ret
  exact ⟨_,rfl,fun h=>by have:=HK.out h;have:=H1.out;omega,hb1.trans (hb2.mono hb1.size)⟩
theorem zmt (n:Int) (w:World):Calls Tryz.prog 59 #[.int .i64 5,.int .i64 n] w (za6 5 n w):=by
 have HK:Hid (Ty.inKind (5:Nat) n=true→0≤n∧n≤255):=hd_ (by
  intro h
  simp [Ty.inKind,Ty.low,Ty.high] at h
  omega)
 obtain ⟨u,hu⟩:∃ u,bits .and .i64 n 255=u:=⟨_,rfl⟩
 have H1:Hid (u=n % 256):=hd_ (by rw [← hu];simpa using zbp n 8 (by decide))
 have hu0:0≤u:=by have:=H1.out;omega
 have hu1:u < 256:=by have:=H1.out;omega
 have hw:IntKind.i64.wrap (u - 256)=u - 256:=IntWalk.i64_in _ (by omega)
 by_cases ht:255 < u
 ·go_enter Tryz.func59,Tryz.ntmps59
  go_wp2_with (first | (go_at_call 60;refine (zdJ _).mono ?_;rintro e w1 ⟨rfl,hb1⟩) | (go_at_call 57;refine (zfL _).mono ?_;rintro e w2 ⟨he9,hb2⟩;have he8:e=.returned (.tuple #[.int .i64 (0),.int .i64 (255)]):=he9;subst he8;clear he9))
  go_ret
  exact ⟨_,rfl,fun h=>by have:=HK.out h;have:=H1.out;omega,hb1.trans (hb2.mono hb1.size)⟩
 ·go_enter Tryz.func59,Tryz.ntmps59
  go_wp2_with (first | (go_at_call 60;refine (zdJ _).mono ?_;rintro e w1 ⟨rfl,hb1⟩) | (go_at_call 57;refine (zfL _).mono ?_;rintro e w2 ⟨he9,hb2⟩;have he8:e=.returned (.tuple #[.int .i64 (0),.int .i64 (255)]):=he9;subst he8;clear he9))
  go_ret
  exact ⟨_,rfl,fun h=>by have:=HK.out h;have:=H1.out;omega,hb1.trans (hb2.mono hb1.size)⟩
theorem zmu (n:Int) (w:World):Calls Tryz.prog 59 #[.int .i64 6,.int .i64 n] w (za6 6 n w):=by
 have HK:Hid (Ty.inKind (6:Nat) n=true→0≤n∧n≤65535):=hd_ (by
  intro h
  simp [Ty.inKind,Ty.low,Ty.high] at h
  omega)
 obtain ⟨u,hu⟩:∃ u,bits .and .i64 n 65535=u:=⟨_,rfl⟩
 have H1:Hid (u=n % 65536):=hd_ (by rw [← hu];simpa using zbp n 16 (by decide))
 have hu0:0≤u:=by have:=H1.out;omega
 have hu1:u < 65536:=by have:=H1.out;omega
 have hw:IntKind.i64.wrap (u - 65536)=u - 65536:=IntWalk.i64_in _ (by omega)
 by_cases ht:65535 < u
 ·go_enter Tryz.func59,Tryz.ntmps59
  go_wp2_with (first | (go_at_call 60;refine (zdK _).mono ?_;rintro e w1 ⟨rfl,hb1⟩) | (go_at_call 57;refine (zfM _).mono ?_;rintro e w2 ⟨he9,hb2⟩;have he8:e=.returned (.tuple #[.int .i64 (0),.int .i64 (65535)]):=he9;subst he8;clear he9))
  go_ret
  exact ⟨_,rfl,fun h=>by have:=HK.out h;have:=H1.out;omega,hb1.trans (hb2.mono hb1.size)⟩
 ·go_enter Tryz.func59,Tryz.ntmps59
  go_wp2_with (first | (go_at_call 60;refine (zdK _).mono ?_;rintro e w1 ⟨rfl,hb1⟩) | (go_at_call 57;refine (zfM _).mono ?_;rintro e w2 ⟨he9,hb2⟩;have he8:e=.returned (.tuple #[.int .i64 (0),.int .i64 (65535)]):=he9;subst he8;clear he9))
  go_ret
  exact ⟨_,rfl,fun h=>by have:=HK.out h;have:=H1.out;omega,hb1.trans (hb2.mono hb1.size)⟩
theorem zmv (n:Int) (w:World):Calls Tryz.prog 59 #[.int .i64 7,.int .i64 n] w (za6 7 n w):=by
 have HK:Hid (Ty.inKind (7:Nat) n=true→0≤n∧n≤4294967295):=hd_ (by
  intro h
  simp [Ty.inKind,Ty.low,Ty.high] at h
  omega)
 obtain ⟨u,hu⟩:∃ u,bits .and .i64 n 4294967295=u:=⟨_,rfl⟩
 have H1:Hid (u=n % 4294967296):=hd_ (by rw [← hu];simpa using zbp n 32 (by decide))
 have hu0:0≤u:=by have:=H1.out;omega
 have hu1:u < 4294967296:=by have:=H1.out;omega
 have hw:IntKind.i64.wrap (u - 4294967296)=u - 4294967296:=IntWalk.i64_in _ (by omega)
 by_cases ht:4294967295 < u
 ·go_enter Tryz.func59,Tryz.ntmps59
  go_wp2_with (first | (go_at_call 60;refine (zdL _).mono ?_;rintro e w1 ⟨rfl,hb1⟩) | (go_at_call 57;refine (zfN _).mono ?_;rintro e w2 ⟨he9,hb2⟩;have he8:e=.returned (.tuple #[.int .i64 (0),.int .i64 (4294967295)]):=he9;subst he8;clear he9))
  go_ret
  exact ⟨_,rfl,fun h=>by have:=HK.out h;have:=H1.out;omega,hb1.trans (hb2.mono hb1.size)⟩
 ·go_enter Tryz.func59,Tryz.ntmps59
  go_wp2_with (first | (go_at_call 60;refine (zdL _).mono ?_;rintro e w1 ⟨rfl,hb1⟩) | (go_at_call 57;refine (zfN _).mono ?_;rintro e w2 ⟨he9,hb2⟩;have he8:e=.returned (.tuple #[.int .i64 (0),.int .i64 (4294967295)]):=he9;subst he8;clear he9))
  go_ret
  exact ⟨_,rfl,fun h=>by have:=HK.out h;have:=H1.out;omega,hb1.trans (hb2.mono hb1.size)⟩
theorem zmw (n:Int) (w:World):Calls Tryz.prog 59 #[.int .i64 8,.int .i64 n] w (za6 8 n w):=by
 have HK:Hid (Ty.inKind (8:Nat) n=true→0≤n∧n≤255):=hd_ (by
  intro h
  simp [Ty.inKind,Ty.low,Ty.high] at h
  omega)
 obtain ⟨u,hu⟩:∃ u,bits .and .i64 n 255=u:=⟨_,rfl⟩
 have H1:Hid (u=n % 256):=hd_ (by rw [← hu];simpa using zbp n 8 (by decide))
 have hu0:0≤u:=by have:=H1.out;omega
 have hu1:u < 256:=by have:=H1.out;omega
 have hw:IntKind.i64.wrap (u - 256)=u - 256:=IntWalk.i64_in _ (by omega)
 by_cases ht:255 < u
 ·go_enter Tryz.func59,Tryz.ntmps59
  go_wp2_with (first | (go_at_call 60;refine (zdM _).mono ?_;rintro e w1 ⟨rfl,hb1⟩) | (go_at_call 57;refine (zfO _).mono ?_;rintro e w2 ⟨he9,hb2⟩;have he8:e=.returned (.tuple #[.int .i64 (0),.int .i64 (255)]):=he9;subst he8;clear he9))
  go_ret
  exact ⟨_,rfl,fun h=>by have:=HK.out h;have:=H1.out;omega,hb1.trans (hb2.mono hb1.size)⟩
 ·go_enter Tryz.func59,Tryz.ntmps59
  go_wp2_with (first | (go_at_call 60;refine (zdM _).mono ?_;rintro e w1 ⟨rfl,hb1⟩) | (go_at_call 57;refine (zfO _).mono ?_;rintro e w2 ⟨he9,hb2⟩;have he8:e=.returned (.tuple #[.int .i64 (0),.int .i64 (255)]):=he9;subst he8;clear he9))
  go_ret
  exact ⟨_,rfl,fun h=>by have:=HK.out h;have:=H1.out;omega,hb1.trans (hb2.mono hb1.size)⟩
theorem zmx (n:Int) (w:World):Calls Tryz.prog 59 #[.int .i64 9,.int .i64 n] w (za6 9 n w):=by
 have HK:Hid (Ty.inKind (9:Nat) n=true→0≤n∧n≤65535):=hd_ (by
  intro h
  simp [Ty.inKind,Ty.low,Ty.high] at h
  omega)
 obtain ⟨u,hu⟩:∃ u,bits .and .i64 n 65535=u:=⟨_,rfl⟩
 have H1:Hid (u=n % 65536):=hd_ (by rw [← hu];simpa using zbp n 16 (by decide))
 have hu0:0≤u:=by have:=H1.out;omega
 have hu1:u < 65536:=by have:=H1.out;omega
 have hw:IntKind.i64.wrap (u - 65536)=u - 65536:=IntWalk.i64_in _ (by omega)
 by_cases ht:65535 < u
 ·go_enter Tryz.func59,Tryz.ntmps59
  go_wp2_with (first | (go_at_call 60;refine (zdN _).mono ?_;rintro e w1 ⟨rfl,hb1⟩) | (go_at_call 57;refine (zfP _).mono ?_;rintro e w2 ⟨he9,hb2⟩;have he8:e=.returned (.tuple #[.int .i64 (0),.int .i64 (65535)]):=he9;subst he8;clear he9))
  go_ret
  exact ⟨_,rfl,fun h=>by have:=HK.out h;have:=H1.out;omega,hb1.trans (hb2.mono hb1.size)⟩
 ·go_enter Tryz.func59,Tryz.ntmps59
  go_wp2_with (first | (go_at_call 60;refine (zdN _).mono ?_;rintro e w1 ⟨rfl,hb1⟩) | (go_at_call 57;refine (zfP _).mono ?_;rintro e w2 ⟨he9,hb2⟩;have he8:e=.returned (.tuple #[.int .i64 (0),.int .i64 (65535)]):=he9;subst he8;clear he9))
  go_ret
  exact ⟨_,rfl,fun h=>by have:=HK.out h;have:=H1.out;omega,hb1.trans (hb2.mono hb1.size)⟩
theorem zlb (n:Int) (w:World):Calls Tryz.prog 59 #[.int .i64 10,.int .i64 n] w (za6 10 n w):=by
 have HK:Hid (Ty.inKind (10:Nat) n=true→0≤n∧n≤4294967295):=hd_ (by
  intro h
  simp [Ty.inKind,Ty.low,Ty.high] at h
  omega)
 obtain ⟨u,hu⟩:∃ u,bits .and .i64 n 4294967295=u:=⟨_,rfl⟩
 have H1:Hid (u=n % 4294967296):=hd_ (by rw [← hu];simpa using zbp n 32 (by decide))
 have hu0:0≤u:=by have:=H1.out;omega
 have hu1:u < 4294967296:=by have:=H1.out;omega
 have hw:IntKind.i64.wrap (u - 4294967296)=u - 4294967296:=IntWalk.i64_in _ (by omega)
 by_cases ht:4294967295 < u
 ·go_enter Tryz.func59,Tryz.ntmps59
  go_wp2_with (first | (go_at_call 60;refine (zcQ _).mono ?_;rintro e w1 ⟨rfl,hb1⟩) | (go_at_call 57;refine (zej _).mono ?_;rintro e w2 ⟨he9,hb2⟩;have he8:e=.returned (.tuple #[.int .i64 (0),.int .i64 (4294967295)]):=he9;subst he8;clear he9))
  go_ret
  exact ⟨_,rfl,fun h=>by have:=HK.out h;have:=H1.out;omega,hb1.trans (hb2.mono hb1.size)⟩
 ·go_enter Tryz.func59,Tryz.ntmps59
  go_wp2_with (first | (go_at_call 60;refine (zcQ _).mono ?_;rintro e w1 ⟨rfl,hb1⟩) | (go_at_call 57;refine (zej _).mono ?_;rintro e w2 ⟨he9,hb2⟩;have he8:e=.returned (.tuple #[.int .i64 (0),.int .i64 (4294967295)]):=he9;subst he8;clear he9))
  go_ret
  exact ⟨_,rfl,fun h=>by have:=HK.out h;have:=H1.out;omega,hb1.trans (hb2.mono hb1.size)⟩
theorem zlc (n:Int) (w:World):Calls Tryz.prog 59 #[.int .i64 11,.int .i64 n] w (za6 11 n w):=by
 have HK:Hid (Ty.inKind (11:Nat) n=true→-2147483648≤n∧n≤2147483647):=hd_ (by
  intro h
  simp [Ty.inKind,Ty.low,Ty.high] at h
  omega)
 obtain ⟨u,hu⟩:∃ u,bits .and .i64 n 4294967295=u:=⟨_,rfl⟩
 have H1:Hid (u=n % 4294967296):=hd_ (by rw [← hu];simpa using zbp n 32 (by decide))
 have hu0:0≤u:=by have:=H1.out;omega
 have hu1:u < 4294967296:=by have:=H1.out;omega
 have hw:IntKind.i64.wrap (u - 4294967296)=u - 4294967296:=IntWalk.i64_in _ (by omega)
 by_cases ht:2147483647 < u
 ·go_enter Tryz.func59,Tryz.ntmps59
  go_wp2_with (first | (go_at_call 60;refine (zcR _).mono ?_;rintro e w1 ⟨rfl,hb1⟩) | (go_at_call 57;refine (zek _).mono ?_;rintro e w2 ⟨he9,hb2⟩;have he8:e=.returned (.tuple #[.int .i64 (-2147483648),.int .i64 (2147483647)]):=he9;subst he8;clear he9))
  go_ret
  exact ⟨_,rfl,fun h=>by have:=HK.out h;have:=H1.out;omega,hb1.trans (hb2.mono hb1.size)⟩
 ·go_enter Tryz.func59,Tryz.ntmps59
  go_wp2_with (first | (go_at_call 60;refine (zcR _).mono ?_;rintro e w1 ⟨rfl,hb1⟩) | (go_at_call 57;refine (zek _).mono ?_;rintro e w2 ⟨he9,hb2⟩;have he8:e=.returned (.tuple #[.int .i64 (-2147483648),.int .i64 (2147483647)]):=he9;subst he8;clear he9))
  go_ret
  exact ⟨_,rfl,fun h=>by have:=HK.out h;have:=H1.out;omega,hb1.trans (hb2.mono hb1.size)⟩
theorem zld (k:Nat) (h1:1≤k) (h2:k≤11) (n:Int) (w:World):Calls Tryz.prog 59 #[.int .i64 k,.int .i64 n] w (za6 k n w):=by
 have h:k=1∨k=2∨k=3∨k=4∨k=5∨k=6∨k=7∨k=8∨k=9∨k=10∨k=11:=by omega
 rcases h with rfl | rfl | rfl | rfl | rfl | rfl | rfl | rfl | rfl | rfl | rfl
 ·exact zmp n w
 ·exact zmq n w
 ·exact zmr n w
 ·exact zms n w
 ·exact zmt n w
 ·exact zmu n w
 ·exact zmv n w
 ·exact zmw n w
 ·exact zmx n w
 ·exact zlb n w
 ·exact zlc n w
theorem zgC (k:Nat) (h1:1≤k) (h2:k≤11):rLo k=Ty.low k∧rHi k=Ty.high k:=by
 have h:k=1∨k=2∨k=3∨k=4∨k=5∨k=6∨k=7∨k=8∨k=9∨k=10∨k=11:=by omega
 rcases h with rfl | rfl | rfl | rfl | rfl | rfl | rfl | rfl | rfl | rfl | rfl <;> exact ⟨rfl,rfl⟩
theorem zbo (k:Int) (w:World):Calls Tryz.prog 58 #[.int .i64 k] w fun e w'=>e=.returned (.bool (Ty.scalar k))∧Below w.heap.size w w':=by
 by_cases h1:1≤k
 ·by_cases h2:k≤11
  ·have hs:Ty.scalar k=true:=by unfold Ty.scalar;simp;omega
   rw [hs]
   clear hs
   go_enter Tryz.func58,Tryz.ntmps58
   go_wp2
   go_ret
   exact ⟨rfl,Below.refl _ _⟩
  ·have hs:Ty.scalar k=false:=by unfold Ty.scalar;simp;omega
   rw [hs]
   clear hs
   go_enter Tryz.func58,Tryz.ntmps58
   go_wp2
   go_ret
   exact ⟨rfl,Below.refl _ _⟩
 ·have hs:Ty.scalar k=false:=by unfold Ty.scalar;simp;omega
  rw [hs]
  clear hs
  go_enter Tryz.func58,Tryz.ntmps58
  go_wp2
  go_ret
  exact ⟨rfl,Below.refl _ _⟩
def zbd (r:Int × Bool) (w:World) (e:Ending) (w':World):Prop:=
 ∃ n,e=.returned (.tuple #[.int .i64 n,.bool r.2])∧(r.2=true→n=r.1)∧Below w.heap.size w w'
def FS (w:World) (op kd n:Int) (W:World):Prop:=W.cell? ⟨w.heap.size,0,none⟩=some (.int .i64 op)∧W.cell? ⟨w.heap.size,1,none⟩=some (.int .i64 kd)∧W.cell? ⟨w.heap.size,2,none⟩=some (.int .i64 n)∧Below w.heap.size w W
section
variable {w W W2:World} {op kd n:Int}
theorem FS.c0 (h:FS w op kd n W):W.cell? ⟨w.heap.size,0,none⟩=some (.int .i64 op):=h.1
theorem FS.c1 (h:FS w op kd n W):W.cell? ⟨w.heap.size,1,none⟩=some (.int .i64 kd):=h.2.1
theorem FS.c2 (h:FS w op kd n W):W.cell? ⟨w.heap.size,2,none⟩=some (.int .i64 n):=h.2.2.1
theorem FS.drew (h:FS w op kd n W):FS w op kd n W.drew:=⟨h.1,h.2.1,h.2.2.1,h.2.2.2.drew⟩
theorem FS.below (h:FS w op kd n W) (hb:Below W.heap.size W W2):FS w op kd n W2:=⟨zab hb h.1,zab hb h.2.1,zab hb h.2.2.1,zah h.2.2.2 hb⟩
end
theorem ze1 {op kd n:Int} {nm fl:ByteArray} {a:Option Addr} {ln c g cp:Nat} {ta:Int} {k:Nat} {pn:Int} {pb:Bool} {r:Int × Bool} (h1:1≤k) (h2:k≤11) (w:World)
  (hc:zaC w g [.int .i64 op,.int .i64 kd,.int .i64 n,.string nm,.string fl,.slice a ln c,.int .i64 ta])
  (hp:∀ W,Below w.heap.size w W→Calls Tryz.prog 56 #[.agg #[.int .i64 op,.int .i64 kd,.int .i64 n,.string nm,.string fl,.slice a ln c,.int .i64 ta]] W fun e w'=>e=.returned (.tuple #[.int .i64 pn,.bool pb])∧Below W.heap.size W w')
  (hT:pb=true→r=(pn,!decide (k=11)&&decide (Ty.low k≤pn)&&decide (pn≤Ty.high k)))
  (hF:pb=false→r.2=(decide (op=1)&&decide (kd=k))∧(r.2=true→r.1=n∧Ty.inKind k n=true)) :
  Calls Tryz.prog 30 #[.int .i64 k,.slice (some ⟨g,0,none⟩) 1 cp] w (zbd r w):=by
 have HPL:=hd_ hp
 have d0:=hc 0 _ rfl
 have d1:=hc 1 _ rfl
 have d2:=hc 2 _ rfl
 have d3:=hc 3 _ rfl
 have d4:=hc 4 _ rfl
 have d5:=hc 5 _ rfl
 have d6:=hc 6 _ rfl
 have kg:=zac d0
 clear hp hc
 cases pb with
 | true=>
  have HRG:=hd_ (fun W=>zel k h1 h2 W)
  obtain ⟨lo,hlo⟩:∃ x,rLo k=x:=⟨_,rfl⟩
  obtain ⟨hi,hhi⟩:∃ x,rHi k=x:=⟨_,rfl⟩
  have hr:=hT rfl
  rw [← (zgC k h1 h2).1,← (zgC k h1 h2).2,hlo,hhi] at hr
  rw [hlo,hhi] at HRG
  have hs:Ty.scalar (k:Int)=true:=by unfold Ty.scalar;simp;omega
  have HSC:Hid (∀ W,Calls Tryz.prog 58 #[.int .i64 k] W fun e w'=>e=.returned (.bool true)∧Below W.heap.size W w'):=hd_ (fun W=>hs▸zbo (k:Int) W)
  clear hT hF hlo hhi hs
  by_cases h11:k=11
  ·have HRR:Hid (r=(pn,false)):=hd_ (by rw [hr];simp [h11])
   have e1:((k:Int) != 11)=false:=by simp;omega
   clear hr h11 h1 h2
   go_enter Tryz.func30,Tryz.ntmps30
   go_wp2_with (first | (go_at_call 56;refine (HPL.out _ (br_.alloc nl_ _)).mono ?_;rintro e w1 ⟨rfl,hb1⟩;have c1:=(Bl.below (Bl.new _ _ _) hb1).cells7;have k1:=zac c1.1;obtain ⟨c10,c11,c12,-,-,-,-⟩:=c1;have B1:=hd_ (zal (br_.alloc nl_ _) hb1 (by simp));clear hb1) | (go_at_call 57;refine (HRG.out _).mono ?_;rintro e w2 ⟨rfl,hb2⟩;have B2:=hd_ (zah B1.out hb2);clear hb2) | (go_at_call 58;refine (HSC.out _).mono ?_;rintro e w3 ⟨rfl,hb3⟩;have B3:=hd_ (zah B2.out hb3);clear hb3))
   go_returns
   exact ⟨_,by rw [HRR.out];rfl,by rw [HRR.out];simp,B2.out⟩
  ·have e1:((k:Int) != 11)=true:=by simp;omega
   by_cases hl:lo≤pn
   ·have HRR:Hid (r=(pn,decide (pn≤hi))):=hd_ (by rw [hr];simp [h11,hl])
    clear hr h11 h1 h2
    go_enter Tryz.func30,Tryz.ntmps30
    go_wp2_with (first | (go_at_call 56;refine (HPL.out _ (br_.alloc nl_ _)).mono ?_;rintro e w1 ⟨rfl,hb1⟩;have c1:=(Bl.below (Bl.new _ _ _) hb1).cells7;have k1:=zac c1.1;obtain ⟨c10,c11,c12,-,-,-,-⟩:=c1;have B1:=hd_ (zal (br_.alloc nl_ _) hb1 (by simp));clear hb1) | (go_at_call 57;refine (HRG.out _).mono ?_;rintro e w2 ⟨rfl,hb2⟩;have B2:=hd_ (zah B1.out hb2);clear hb2) | (go_at_call 58;refine (HSC.out _).mono ?_;rintro e w3 ⟨rfl,hb3⟩;have B3:=hd_ (zah B2.out hb3);clear hb3))
    go_returns
    exact ⟨_,by rw [HRR.out];rfl,by rw [HRR.out];simp,B3.out⟩
   ·have HRR:Hid (r=(pn,false)):=hd_ (by rw [hr];simp [hl])
    clear hr h11 h1 h2
    go_enter Tryz.func30,Tryz.ntmps30
    go_wp2_with (first | (go_at_call 56;refine (HPL.out _ (br_.alloc nl_ _)).mono ?_;rintro e w1 ⟨rfl,hb1⟩;have c1:=(Bl.below (Bl.new _ _ _) hb1).cells7;have k1:=zac c1.1;obtain ⟨c10,c11,c12,-,-,-,-⟩:=c1;have B1:=hd_ (zal (br_.alloc nl_ _) hb1 (by simp));clear hb1) | (go_at_call 57;refine (HRG.out _).mono ?_;rintro e w2 ⟨rfl,hb2⟩;have B2:=hd_ (zah B1.out hb2);clear hb2) | (go_at_call 58;refine (HSC.out _).mono ?_;rintro e w3 ⟨rfl,hb3⟩;have B3:=hd_ (zah B2.out hb3);clear hb3))
    go_returns
    exact ⟨_,by rw [HRR.out];rfl,by rw [HRR.out];simp,B3.out⟩
 | false=>
  have HWR:=hd_ (fun W=>zld k h1 h2 n W)
  obtain ⟨hF1,hF2⟩:=hF rfl
  have HF2:=hd_ hF2
  clear hT hF hF2
  by_cases ho:op=1
  ·by_cases hk:kd=k
   ·have HRR:Hid (r.2=true):=hd_ (by rw [hF1];simp [ho,hk])
    have e1:(op==1)=true:=by simpa using ho
    have e2:(kd==(k:Int))=true:=by simpa using hk
    clear ho hk hF1 h1 h2
    go_enter Tryz.func30,Tryz.ntmps30
    go_upto_region 8 with (first | (go_at_call 56;refine (HPL.out _ (br_.alloc nl_ _)).mono ?_;rintro e w1 ⟨rfl,hb1⟩;have c1:=(Bl.below (Bl.new _ _ _) hb1).cells7;have k1:=zac c1.1;obtain ⟨c10,c11,c12,-,-,-,-⟩:=c1;have B1:=hd_ (zal (br_.alloc nl_ _) hb1 (by simp));clear hb1) | (go_at_call 57;refine (HRG.out _).mono ?_;rintro e w2 ⟨rfl,hb2⟩;have B2:=hd_ (zah B1.out hb2);clear hb2) | (go_at_call 58;refine (HSC.out _).mono ?_;rintro e w3 ⟨rfl,hb3⟩;have B3:=hd_ (zah B2.out hb3);clear hb3))
    have hF1:FS w op kd n w1:=⟨c10,c11,c12,B1.out⟩
    clear d0 d1 d2 d3 d4 d5 d6 kg B1 HPL
    first
     | (go_region_held3 (fun W=>W.cell? ⟨w.heap.size,0,none⟩=some (.int .i64 op)∧W.cell? ⟨w.heap.size,1,none⟩=some (.int .i64 kd)∧W.cell? ⟨w.heap.size,2,none⟩=some (.int .i64 n)∧FS w op kd n W) (first | exact ⟨FS.c0 (by assumption),FS.c1 (by assumption),FS.c2 (by assumption),by assumption⟩ | exact ⟨FS.c0 (FS.drew (by assumption)),FS.c1 (FS.drew (by assumption)),FS.c2 (FS.drew (by assumption)),FS.drew (by assumption)⟩) (first | (go_at_call 59;refine (HWR.out _).mono ?_;rintro e w2 ⟨q,rfl,hq,hb2⟩;have hs2:FS w op kd n w2:=FS.below (by first | assumption | exact (by assumption:_∧_∧_∧FS w op kd n _).2.2.2 | exact hF1.drew) hb2;have HQ:=hd_ hq;clear hq)))
     | fail
    all_goals
     have B2:=hd_ hs2.2.2.2
     clear hs2 hF1 hb2
     try go_wp2
     go_returns
     exact ⟨_,by rw [HRR.out];rfl,fun h=>by first | exact HQ.out (HF2.out h).2▸(HF2.out h).1.symm | (rw [HRR.out] at h;cases h),by first | exact B2.out | exact B2.out.drewN _⟩
   ·have HRR:Hid (r.2=false):=hd_ (by rw [hF1];simp [hk])
    have e1:(op==1)=true:=by simpa using ho
    have e2:(kd==(k:Int))=false:=by simpa using hk
    clear ho hk hF1 h1 h2
    go_enter Tryz.func30,Tryz.ntmps30
    go_upto_region 8 with (first | (go_at_call 56;refine (HPL.out _ (br_.alloc nl_ _)).mono ?_;rintro e w1 ⟨rfl,hb1⟩;have c1:=(Bl.below (Bl.new _ _ _) hb1).cells7;have k1:=zac c1.1;obtain ⟨c10,c11,c12,-,-,-,-⟩:=c1;have B1:=hd_ (zal (br_.alloc nl_ _) hb1 (by simp));clear hb1) | (go_at_call 57;refine (HRG.out _).mono ?_;rintro e w2 ⟨rfl,hb2⟩;have B2:=hd_ (zah B1.out hb2);clear hb2) | (go_at_call 58;refine (HSC.out _).mono ?_;rintro e w3 ⟨rfl,hb3⟩;have B3:=hd_ (zah B2.out hb3);clear hb3))
    have hF1:FS w op kd n w1:=⟨c10,c11,c12,B1.out⟩
    clear d0 d1 d2 d3 d4 d5 d6 kg B1 HPL
    first
     | (go_region_held3 (fun W=>W.cell? ⟨w.heap.size,0,none⟩=some (.int .i64 op)∧W.cell? ⟨w.heap.size,1,none⟩=some (.int .i64 kd)∧W.cell? ⟨w.heap.size,2,none⟩=some (.int .i64 n)∧FS w op kd n W) (first | exact ⟨FS.c0 (by assumption),FS.c1 (by assumption),FS.c2 (by assumption),by assumption⟩ | exact ⟨FS.c0 (FS.drew (by assumption)),FS.c1 (FS.drew (by assumption)),FS.c2 (FS.drew (by assumption)),FS.drew (by assumption)⟩) (first | (go_at_call 59;refine (HWR.out _).mono ?_;rintro e w2 ⟨q,rfl,hq,hb2⟩;have hs2:FS w op kd n w2:=FS.below (by first | assumption | exact (by assumption:_∧_∧_∧FS w op kd n _).2.2.2 | exact hF1.drew) hb2;have HQ:=hd_ hq;clear hq)))
     | fail
    all_goals
     have B2:=hd_ hs2.2.2.2
     clear hs2 hF1 hb2
     try go_wp2
     go_returns
     exact ⟨_,by rw [HRR.out];rfl,fun h=>by first | exact HQ.out (HF2.out h).2▸(HF2.out h).1.symm | (rw [HRR.out] at h;cases h),by first | exact B2.out | exact B2.out.drewN _⟩
  ·have HRR:Hid (r.2=false):=hd_ (by rw [hF1];simp [ho])
   have e1:(op==1)=false:=by simpa using ho
   clear ho hF1 h1 h2
   go_enter Tryz.func30,Tryz.ntmps30
   go_upto_region 8 with (first | (go_at_call 56;refine (HPL.out _ (br_.alloc nl_ _)).mono ?_;rintro e w1 ⟨rfl,hb1⟩;have c1:=(Bl.below (Bl.new _ _ _) hb1).cells7;have k1:=zac c1.1;obtain ⟨c10,c11,c12,-,-,-,-⟩:=c1;have B1:=hd_ (zal (br_.alloc nl_ _) hb1 (by simp));clear hb1) | (go_at_call 57;refine (HRG.out _).mono ?_;rintro e w2 ⟨rfl,hb2⟩;have B2:=hd_ (zah B1.out hb2);clear hb2) | (go_at_call 58;refine (HSC.out _).mono ?_;rintro e w3 ⟨rfl,hb3⟩;have B3:=hd_ (zah B2.out hb3);clear hb3))
   have hF1:FS w op kd n w1:=⟨c10,c11,c12,B1.out⟩
   clear d0 d1 d2 d3 d4 d5 d6 kg B1 HPL
   first
    | (go_region_law (first | (go_simp;go_at_call 59;refine (HWR.out _).mono ?_;rintro e w2 ⟨q,rfl,hq,hb2⟩;have hs2:FS w op kd n w2:=FS.below (FS.drew hF1) hb2;obtain ⟨c20,c21,c22,-⟩:=id hs2;have k2:=zac c20;have HQ:=hd_ hq;clear hq)))
    | fail
   all_goals
    have B2:=hd_ hs2.2.2.2
    clear hs2 hF1 hb2
    try go_wp2
    go_returns
    exact ⟨_,by rw [HRR.out];rfl,fun h=>by (rw [HRR.out] at h;cases h),by first | exact B2.out | exact B2.out.drewN _⟩
theorem zhD (k:Int) (a:Option Addr) (c:Nat) (w:World):Calls Tryz.prog 30 #[.int .i64 k,.slice a 0 c] w (zbd (Rf.first k none) w):=by
 go_enter Tryz.func30,Tryz.ntmps30
 go_wp2
 go_returns
 exact ⟨_,rfl,fun _=>rfl,Below.refl _ _⟩
theorem zeg {o:Option Ini} {v:Value} {P:Nat→Prop} {k:Nat} (h1:1≤k) (h2:k≤11) (ht:Rf.IniT o) (hi:∀ i,o=some i→zdt i) (w:World) (hv:IniV w P o v) :
  Calls Tryz.prog 30 #[.int .i64 k,v] w (zbd (Rf.first k o) w):=by
 have hs:Ty.scalar (k:Int)=true:=by unfold Ty.scalar;simp;omega
 rcases zdx hv with ⟨rfl,a,c,rfl⟩ | ⟨i,g,c,row,rfl,rfl,he,hc⟩
 ·exact zhD k a c w
 ·cases i with
  | plain l=>
   obtain ⟨a,c2,rfl⟩:=he.plainRow
   have ho:=(hi _ rfl).2
   refine ze1 h1 h2 w hc (fun W _=>zfG l a c2 (by omega) W) (fun hp=>?_) (fun hp=>?_)
   ·simp only [Rf.first,hp,if_true,hs,Bool.and_true]
    by_cases h11:k=11
    ·subst h11;simp
    ·have h12:¬ (k:Int)=11:=by omega
     simp [h11,h12]
   ·have e:Rf.first k (some (.plain l))=(Rf.wrap k l.n,decide (l.op=1)&&decide (l.kind=k)):=by
     simp [Rf.first,hp]
    rw [e]
    refine ⟨rfl,fun h=>?_⟩
    simp only [Bool.and_eq_true,decide_eq_true_eq] at h
    have h3:=ht h.1 (by omega)
    rw [h.2] at h3
    exact ⟨Rf.wrap_in h3.2 hs,h3.2⟩
  | neg l ta=>
   obtain ⟨g2,c2,rfl,n0,n1,n2⟩:=he.negRow
   refine ze1 h1 h2 w hc (fun W hW=>zfH l ta g2 c2 W (zab hW n0) (zab hW n1) (zab hW n2)) (fun hp=>?_) (fun hp=>?_)
   ·simp only [Rf.first,hp,if_true,hs,Bool.and_true]
    by_cases h11:k=11
    ·subst h11;simp
    ·have h12:¬ (k:Int)=11:=by omega
     simp [h11,h12]
   ·have e:Rf.first k (some (.neg l ta))=(Rf.wrap k 0,false):=by
     simp [Rf.first,hp]
    rw [e]
    exact ⟨by simp,fun h=>by cases h⟩
end Go.Proofs.YtdpkjpjkdmkkpaaGreatDoor
