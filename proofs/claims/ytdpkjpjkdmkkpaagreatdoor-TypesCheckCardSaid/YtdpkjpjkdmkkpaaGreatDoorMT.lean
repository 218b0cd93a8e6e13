/- The walks through package types: first values; the kinds' help. -/
import Derived.Test.YtdpkjpjkdmkkpaaGreatDoorMS
set_option maxRecDepth 100000
set_option maxHeartbeats 16000000
namespace Go.Proofs.YtdpkjpjkdmkkpaaGreatDoor
open Ad Go.RowKit Lx Pa
theorem zmh (k:Int) (hk:Ty.scalar k=false) (w:World) :
  Calls Tryz.prog 92 #[.int .i64 k] w fun e w'=>e=.returned (.tuple #[.agg #[.string ⟨#[]⟩,.int .i64 0,.bool false,.bool false],.bool false])∧Below w.heap.size w w':=by
 unfold Ty.scalar at hk
 simp only [Bool.and_eq_false_iff,decide_eq_false_iff_not] at hk
 have e1:(k==1)=false:=by simp;omega
 have e2:(k==2)=false:=by simp;omega
 have e3:(k==3)=false:=by simp;omega
 have e4:(k==4)=false:=by simp;omega
 have e5:(k==5)=false:=by simp;omega
 have e6:(k==6)=false:=by simp;omega
 have e7:(k==7)=false:=by simp;omega
 have e8:(k==8)=false:=by simp;omega
 have e9:(k==9)=false:=by simp;omega
 have e10:(k==10)=false:=by simp;omega
 have e11:(k==11)=false:=by simp;omega
 clear hk
 go_enter Tryz.func92,Tryz.ntmps92
 go_wp2
 exact bodyPost_ret (v:=(.tuple #[.agg #[.string ⟨#[]⟩,.int .i64 0,.bool false,.bool false],.bool false])) (by simp [results,Tryz.results92,go_sem]) rfl ⟨rfl,br_.alloc nl_ _⟩
theorem zlC (k:Int) (_w:World):∃ a b c d,(b=if Ty.scalar k=true then zaq k.toNat else 0)∧∀ w,Calls Tryz.prog 92 #[.int .i64 k] w fun e w'=>e=.returned (.tuple #[.agg #[.string a,.int .i64 b,.bool c,.bool d],.bool (Ty.scalar k)])∧Below w.heap.size w w':=by
 cases hs:Ty.scalar k with
 | false=>
  refine ⟨⟨#[]⟩,0,false,false,by simp,fun w=>?_⟩
  exact zmh k hs w
 | true=>
  have h2:=hs
  unfold Ty.scalar at h2
  simp only [Bool.and_eq_true,decide_eq_true_eq] at h2
  have hk:((k.toNat:Nat):Int)=k:=by omega
  refine ⟨zaw k.toNat,zaq k.toNat,zag k.toNat,zaG k.toNat,by simp,fun w=>?_⟩
  have h3:=znj k.toNat (by omega) (by omega) w
  rw [hk] at h3
  exact h3
theorem zeo (k:Int) (w:World):Calls Tryz.prog 66 #[.int .i64 k] w fun e w'=>e=.returned (.bool (Ty.scalar k))∧Below w.heap.size w w':=by
 obtain ⟨a,b,c,d,-,hc⟩:=zlC k w
 obtain ⟨sc,hsc⟩:∃ sc,Ty.scalar k=sc:=⟨_,rfl⟩
 rw [hsc] at hc ⊢
 have HC:=hd_ hc
 clear hc hsc
 go_enter Tryz.func66,Tryz.ntmps66
 go_wp2_with (go_at_call 92;refine (HC.out _).mono ?_;rintro e w1 ⟨rfl,hb1⟩;have B1:=hd_ hb1;clear hb1)
 go_ret
 exact ⟨rfl,B1.out.alloc B1.out.size _⟩
theorem zlr (k:Int) (w:World):Calls Tryz.prog 70 #[.int .i64 k] w fun e w'=>e=.returned (.int .i64 (if Ty.scalar k=true then zaq k.toNat else 0))∧Below w.heap.size w w':=by
 obtain ⟨a,b,c,d,hb,hc⟩:=zlC k w
 rw [← hb]
 obtain ⟨sc,hsc⟩:∃ sc,Ty.scalar k=sc:=⟨_,rfl⟩
 rw [hsc] at hc
 have HC:=hd_ hc
 clear hc hsc hb
 go_enter Tryz.func70,Tryz.ntmps70
 go_wp2_with (go_at_call 92;refine (HC.out _).mono ?_;rintro e w1 ⟨rfl,hb1⟩;have B1:=hd_ hb1;clear hb1)
 go_ret
 exact ⟨rfl,B1.out.alloc B1.out.size _⟩
theorem zfr (k:Nat) (h1:1≤k) (h2:k≤11) (n:Int):(n==zaW k n)=Ty.inKind k n:=by
 have h:k=1∨k=2∨k=3∨k=4∨k=5∨k=6∨k=7∨k=8∨k=9∨k=10∨k=11:=by omega
 rw [Bool.eq_iff_iff]
 unfold Ty.inKind Ty.low Ty.high
 rcases h with rfl | rfl | rfl | rfl | rfl | rfl | rfl | rfl | rfl | rfl | rfl
 ·simp only [zaW]
  by_cases h0:n=0
  ·subst h0;simp
  ·simp [h0];omega
 all_goals
  simp only [zaW,IntKind.wrap,IntKind.bits,IntKind.signed]
  simp
  omega
def zdt:Ini→Prop
 | .plain l=>Is64 l.n∧(l.op=0∨l.op=1)
 | .neg l _=>Is64 l.n
def zlM (r:Option Int) (w:World) (e:Ending) (w':World):Prop:=
 ∃ n,e=.returned (.tuple #[.int .i64 n,.bool r.isSome])∧(∀ m,r=some m→n=m)∧Below w.heap.size w w'
theorem zaX.plainRow {w:World} {P:Nat→Prop} {l:Pa.Lit} {row:List Value} (h:zaX w P (zcI (.plain l)) row) :
  ∃ a c,row=[.int .i64 l.op,.int .i64 l.kind,.int .i64 l.n,.string ⟨#[]⟩,.string ⟨#[]⟩,.slice a 0 c,.int .i64 l.at_]:=by
 rw [zcI,zjo,zaX] at h
 obtain ⟨v,cs,h1,h2,_⟩:=h
 obtain ⟨a,c,h3,_⟩:=h2.form
 exact ⟨a,c,by rw [h1,h3];rfl⟩
theorem zaX.negRow {w:World} {P:Nat→Prop} {l:Pa.Lit} {ta:Int} {row:List Value} (h:zaX w P (zcI (.neg l ta)) row) :
  ∃ g c,row=[.int .i64 3,.int .i64 0,.int .i64 0,.string ⟨#[]⟩,.string ⟨#[]⟩,.slice (some ⟨g,0,none⟩) 1 c,.int .i64 ta] ∧
   w.cell? ⟨g,0,none⟩=some (.int .i64 l.op)∧w.cell? ⟨g,1,none⟩=some (.int .i64 l.kind)∧w.cell? ⟨g,2,none⟩=some (.int .i64 l.n):=by
 rw [zcI,zaX] at h
 obtain ⟨v,cs,h1,h2,h3⟩:=h
 obtain ⟨a,c,h4,h5⟩:=h2.form
 obtain ⟨g,h6,_,h7⟩:=h5 (by simp)
 rw [zbB] at h3
 obtain ⟨row2,cr,h8,h9,h10⟩:=h3
 obtain ⟨a2,c2,h11⟩:=zaX.plainRow (l:=l) h9
 refine ⟨g,c,by rw [h1,h4,h6];rfl,?_,?_,?_⟩
 ·exact h7 0 _ (by rw [h8,h11];rfl)
 ·exact h7 1 _ (by rw [h8,h11];rfl)
 ·exact h7 2 _ (by rw [h8,h11];rfl)
theorem zig (n:Int):Is64 (neg64 n):=by
 unfold neg64 Is64
 simp only [IntKind.wrap,IntKind.bits,IntKind.signed]
 simp
 omega
theorem zbm {w:World} {p:Addr} {v:Value} (o:Obj) (h:w.cell? p=some v):(w.alloc o).cell? p=some v:=zab (br_.alloc nl_ o) h
theorem zet {i:Ini} {row:List Value} {P:Nat→Prop} {k:Nat} {r:Option Int} (hr:Ty.literal i k=r) (h1:1≤k) (h2:k≤11) (hi:zdt i) (w:World) (hv:zaX w P (zcI i) row) :
  Calls Tryz.prog 93 #[.agg row.toArray,.int .i64 k] w (zlM r w):=by
 cases i with
 | plain l=>
  obtain ⟨a,c,rfl⟩:=hv.plainRow
  obtain ⟨h64,hop⟩:=hi
  have HW:=hd_ (fun W=>zh7 k h1 h2 l.n h64 W)
  have HI:=hd_ (zfr k h1 h2 l.n)
  obtain ⟨op,kd,n,ta⟩:=l
  simp only at HW HI hop h64
  simp only [Ty.literal] at hr
  obtain ⟨kw,hkw⟩:∃ kw,zaW k n=kw:=⟨_,rfl⟩
  rw [hkw] at HW HI
  clear hkw h64
  have hways:(op=0∧r=none)∨(op=1∧kd≠0∧kd≠k∧r=none)∨(op=1∧kd=0∧k=11∧r=none) ∨
    (op=1∧kd=0∧k≠11∧r=if Ty.inKind k n=true then some n else none)∨(op=1∧kd≠0∧(kd=k∧k=11)∧r=if Ty.inKind k n=true then some n else none)∨(op=1∧kd≠0∧(kd=k∧k≠11)∧r=if Ty.inKind k n=true then some n else none):=by
   rcases hop with h0 | h0
   ·exact .inl ⟨h0,by rw [← hr,if_pos (.inl (by omega))]⟩
   ·by_cases d0:kd=0
    ·by_cases d1:k=11
     ·exact .inr (.inr (.inl ⟨h0,d0,d1,by rw [← hr,if_pos (.inr (.inr ⟨by omega,by omega⟩))]⟩))
     ·exact .inr (.inr (.inr (.inl ⟨h0,d0,d1,by rw [← hr,if_neg (by omega)]⟩)))
    ·by_cases d1:kd=k
     ·by_cases d2:k=11
      ·exact .inr (.inr (.inr (.inr (.inl ⟨h0,d0,⟨d1,d2⟩,by rw [← hr,if_neg (by omega)]⟩))))
      ·exact .inr (.inr (.inr (.inr (.inr ⟨h0,d0,⟨d1,d2⟩,by rw [← hr,if_neg (by omega)]⟩))))
     ·exact .inr (.inl ⟨h0,d0,d1,by rw [← hr,if_pos (.inr (.inl ⟨d0,d1⟩))]⟩)
  clear hr hop hv
  rcases hways with ⟨q1,q2⟩ | ⟨q1,q2,q3,q4⟩ | ⟨q1,q2,q3,q4⟩ | ⟨q1,q2,q3,q4⟩ | ⟨q1,q2,q3,q4⟩ | ⟨q1,q2,q3,q4⟩
  ·have e1:(op==3)=false:=by simp <;> omega
   have e2:(op != 1)=true:=by simp <;> omega
   have HRN:=hd_ q2
   clear q1 q2 HI HW
   go_enter Tryz.func93,Tryz.ntmps93
   go_wp2
   go_returns
   rw [HRN.out]
   exact ⟨_,rfl,by simp,br_.alloc nl_ _⟩
  ·have e1:(op==3)=false:=by simp <;> omega
   have e2:(op != 1)=false:=by simp <;> omega
   have e3:(kd != 0)=true:=by simp <;> omega
   have e4:(kd != (k:Int))=true:=by simp <;> omega
   have HRN:=hd_ q4
   clear q1 q2 q3 q4 HI HW
   go_enter Tryz.func93,Tryz.ntmps93
   go_wp2
   go_returns
   rw [HRN.out]
   exact ⟨_,rfl,by simp,br_.alloc nl_ _⟩
  ·have e1:(op==3)=false:=by simp <;> omega
   have e2:(op != 1)=false:=by simp <;> omega
   have e3:(kd != 0)=false:=by simp <;> omega
   have e5:((k:Int)==11)=true:=by simp <;> omega
   have e4:(kd != (k:Int))=true:=by simp <;> omega
   have HRN:=hd_ q4
   clear q1 q2 q3 q4 HI HW
   go_enter Tryz.func93,Tryz.ntmps93
   go_wp2
   go_returns
   rw [HRN.out]
   exact ⟨_,rfl,by simp,br_.alloc nl_ _⟩
  ·have e1:(op==3)=false:=by simp <;> omega
   have e2:(op != 1)=false:=by simp <;> omega
   have e3:(kd != 0)=false:=by simp <;> omega
   have e5:((k:Int)==11)=false:=by simp <;> omega
   have HRR:Hid (r.isSome=Ty.inKind k n):=hd_ (by rw [q4];cases Ty.inKind k n <;> rfl)
   have HRM:Hid (∀ z,r=some z→n=z):=hd_ (by
    intro z hm
    rw [q4] at hm
    cases h:Ty.inKind k n with
    | true=>rw [h,if_pos rfl] at hm;exact Option.some.inj hm
    | false=>rw [h,if_neg (by simp)] at hm;cases hm)
   have HIN:=hd_ HI.out
   clear q1 q2 q3 q4
   go_enter Tryz.func93,Tryz.ntmps93
   go_wp2_with (go_at_call 116;refine (HW.out _).mono ?_;rintro e w1 ⟨rfl,hb1⟩;have B1:=hd_ hb1;clear hb1)
   go_returns
   rw [HIN.out]
   exact ⟨_,by rw [HRR.out];rfl,HRM.out,zal (br_.alloc nl_ _) B1.out (by simp)⟩
  ·have e1:(op==3)=false:=by simp <;> omega
   have e2:(op != 1)=false:=by simp <;> omega
   have e3:(kd != 0)=true:=by simp <;> omega
   have e4:(kd != (k:Int))=false:=by simp <;> omega
   have e5:((k:Int)==11)=true:=by simp <;> omega
   have HRR:Hid (r.isSome=Ty.inKind k n):=hd_ (by rw [q4];cases Ty.inKind k n <;> rfl)
   have HRM:Hid (∀ z,r=some z→n=z):=hd_ (by
    intro z hm
    rw [q4] at hm
    cases h:Ty.inKind k n with
    | true=>rw [h,if_pos rfl] at hm;exact Option.some.inj hm
    | false=>rw [h,if_neg (by simp)] at hm;cases hm)
   have HIN:=hd_ HI.out
   clear q1 q2 q3 q4
   go_enter Tryz.func93,Tryz.ntmps93
   go_wp2_with (go_at_call 116;refine (HW.out _).mono ?_;rintro e w1 ⟨rfl,hb1⟩;have B1:=hd_ hb1;clear hb1)
   go_returns
   rw [HIN.out]
   exact ⟨_,by rw [HRR.out];rfl,HRM.out,zal (br_.alloc nl_ _) B1.out (by simp)⟩
  ·have e1:(op==3)=false:=by simp <;> omega
   have e2:(op != 1)=false:=by simp <;> omega
   have e3:(kd != 0)=true:=by simp <;> omega
   have e4:(kd != (k:Int))=false:=by simp <;> omega
   have e5:((k:Int)==11)=false:=by simp <;> omega
   have HRR:Hid (r.isSome=Ty.inKind k n):=hd_ (by rw [q4];cases Ty.inKind k n <;> rfl)
   have HRM:Hid (∀ z,r=some z→n=z):=hd_ (by
    intro z hm
    rw [q4] at hm
    cases h:Ty.inKind k n with
    | true=>rw [h,if_pos rfl] at hm;exact Option.some.inj hm
    | false=>rw [h,if_neg (by simp)] at hm;cases hm)
   have HIN:=hd_ HI.out
   clear q1 q2 q3 q4
   go_enter Tryz.func93,Tryz.ntmps93
   go_wp2_with (go_at_call 116;refine (HW.out _).mono ?_;rintro e w1 ⟨rfl,hb1⟩;have B1:=hd_ hb1;clear hb1)
   go_returns
   rw [HIN.out]
   exact ⟨_,by rw [HRR.out];rfl,HRM.out,zal (br_.alloc nl_ _) B1.out (by simp)⟩
 | neg l ta=>
  obtain ⟨g,c,rfl,c0,c1,c2⟩:=hv.negRow
  have kg0:=zac c0
  replace c0:=zbm (.cells #[.int .i64 3,.int .i64 0,.int .i64 0,.string ⟨#[]⟩,.string ⟨#[]⟩,.slice (some ⟨g,0,none⟩) 1 c,.int .i64 ta] 112) c0
  replace c1:=zbm (.cells #[.int .i64 3,.int .i64 0,.int .i64 0,.string ⟨#[]⟩,.string ⟨#[]⟩,.slice (some ⟨g,0,none⟩) 1 c,.int .i64 ta] 112) c1
  replace c2:=zbm (.cells #[.int .i64 3,.int .i64 0,.int .i64 0,.string ⟨#[]⟩,.string ⟨#[]⟩,.slice (some ⟨g,0,none⟩) 1 c,.int .i64 ta] 112) c2
  obtain ⟨op,kd,n,at9⟩:=l
  simp only at c0 c1 c2
  have h64:Is64 (neg64 n):=zig n
  have HW:=hd_ (fun W=>zh7 k h1 h2 (neg64 n) h64 W)
  have HI:=hd_ (zfr k h1 h2 (neg64 n))
  simp only [Ty.literal] at hr
  obtain ⟨kw,hkw⟩:∃ kw,zaW k (neg64 n)=kw:=⟨_,rfl⟩
  obtain ⟨m,hm⟩:∃ m,neg64 n=m:=⟨_,rfl⟩
  rw [hkw] at HW HI
  rw [hm] at HW HI hr
  have hneg:wrap64 (-n)=m:=by rw [zez];exact hm
  have hways:((op≠1∨(op=1∧kd≠0))∧r=none)∨(op=1∧kd=0∧k=11∧r=none)∨(op=1∧kd=0∧k≠11∧r=if Ty.inKind k m=true then some m else none):=by
   by_cases d0:op=1
   ·by_cases d1:kd=0
    ·by_cases d2:k=11
     ·exact .inr (.inl ⟨d0,d1,d2,by rw [← hr,if_neg (by omega)]⟩)
     ·refine .inr (.inr ⟨d0,d1,d2,?_⟩)
      rw [← hr]
      have d3:(k:Int)≠11:=by omega
      cases h:Ty.inKind k m with
      | true=>rw [if_pos ⟨d0,d1,d3,rfl⟩,if_pos rfl]
      | false=>rw [if_neg (by simp),if_neg (by simp)]
    ·exact .inl ⟨.inr ⟨d0,d1⟩,by rw [← hr,if_neg (by omega)]⟩
   ·exact .inl ⟨.inl d0,by rw [← hr,if_neg (by omega)]⟩
  clear hkw h64 hm hr hv
  rcases hways with ⟨q1 | ⟨q1,q2⟩,q4⟩ | ⟨q1,q2,q3,q4⟩ | ⟨q1,q2,q3,q4⟩
  ·have e0:((3:Int) != 1)=true:=rfl
   have e1:(op==1)=false:=by simp <;> omega
   have HRN:=hd_ q4
   clear q1 q4 HI HW hneg
   go_enter Tryz.func93,Tryz.ntmps93
   go_wp2
   go_returns
   rw [HRN.out]
   exact ⟨_,rfl,by simp,br_.alloc nl_ _⟩
  ·have e0:((3:Int) != 1)=true:=rfl
   have e1:(op==1)=true:=by simp <;> omega
   have e2:(kd==0)=false:=by simp <;> omega
   have HRN:=hd_ q4
   clear q1 q2 q4 HI HW hneg
   go_enter Tryz.func93,Tryz.ntmps93
   go_wp2
   go_returns
   rw [HRN.out]
   exact ⟨_,rfl,by simp,br_.alloc nl_ _⟩
  ·have e1:(op==1)=true:=by simp <;> omega
   have e2:(kd==0)=true:=by simp <;> omega
   have e6:((0:Int) != (k:Int))=true:=by simp <;> omega
   have e5:((k:Int)==11)=true:=by simp <;> omega
   have HRN:=hd_ q4
   clear q1 q2 q3 q4 HI HW
   go_enter Tryz.func93,Tryz.ntmps93
   go_wp2
   go_returns
   rw [HRN.out]
   exact ⟨_,rfl,by simp,br_.alloc nl_ _⟩
  ·have e1:(op==1)=true:=by simp <;> omega
   have e2:(kd==0)=true:=by simp <;> omega
   have e6:((0:Int) != (k:Int))=true:=by simp <;> omega
   have e5:((k:Int)==11)=false:=by simp <;> omega
   have HRR:Hid (r.isSome=Ty.inKind k m):=hd_ (by rw [q4];cases Ty.inKind k m <;> rfl)
   have HRM:Hid (∀ z,r=some z→m=z):=hd_ (by
    intro z hm
    rw [q4] at hm
    cases h:Ty.inKind k m with
    | true=>rw [h,if_pos rfl] at hm;exact Option.some.inj hm
    | false=>rw [h,if_neg (by simp)] at hm;cases hm)
   have HIN:=hd_ HI.out
   clear q1 q2 q3 q4
   go_enter Tryz.func93,Tryz.ntmps93
   go_wp2_with (go_at_call 116;refine (HW.out _).mono ?_;rintro e w1 ⟨rfl,hb1⟩;have B1:=hd_ hb1;clear hb1)
   go_returns
   rw [HIN.out]
   exact ⟨_,by rw [HRR.out];rfl,HRM.out,zal (br_.alloc nl_ _) B1.out (by simp)⟩
theorem zdx {w:World} {P:Nat→Prop} {o:Option Ini} {v:Value} (h:IniV w P o v) :
  (o=none∧∃ a c,v=.slice a 0 c)∨(∃ i g c row,o=some i∧v=.slice (some ⟨g,0,none⟩) 1 c∧zaX w P (zcI i) row∧zaC w g row):=by
 obtain ⟨cs,h1,h2⟩:=h
 obtain ⟨a,c,h3,h4⟩:=h1.form
 cases o with
 | none=>exact .inl ⟨rfl,a,c,h3⟩
 | some i=>
  obtain ⟨g,h5,_,h6⟩:=h4 (by simp)
  have h2':zbB w P [zcI i] cs:=h2
  rw [zbB] at h2'
  obtain ⟨row,cr,h7,h8,h9⟩:=h2'
  rw [zbB] at h9
  subst h9
  rw [List.append_nil] at h7
  subst h7
  exact .inr ⟨i,g,c,cs,rfl,by rw [h3,h5];rfl,h8,h6⟩
theorem zcn {o:Option Ini} {v:Value} {P:Nat→Prop} {k:Nat} {b:Bool} (hb:Ty.first o k=b) (h1:1≤k) (h2:k≤11) (hi:∀ i,o=some i→zdt i) (w:World) (hv:IniV w P o v) :
  Calls Tryz.prog 67 #[v,.int .i64 k] w fun e w'=>e=.returned (.bool b)∧Below w.heap.size w w':=by
 rcases zdx hv with ⟨rfl,a,c,rfl⟩ | ⟨i,g,c,row,rfl,rfl,he,hc⟩
 ·have HB:=hd_ hb
  clear hb  hv
  go_enter Tryz.func67,Tryz.ntmps67
  go_wp2
  go_ret
  exact ⟨by rw [← HB.out];rfl,Below.refl _ _⟩
 ·obtain ⟨r,hr⟩:∃ r,Ty.literal i k=r:=⟨_,rfl⟩
  have HL:=hd_ (zet hr h1 h2 (hi i rfl) w he)
  have HB:=hd_ hb
  obtain ⟨op,kd,n,nm,fl,a,ln,c2,ta,rfl⟩:=he.shape
  have d0:=hc 0 _ rfl
  have d1:=hc 1 _ rfl
  have d2:=hc 2 _ rfl
  have d3:=hc 3 _ rfl
  have d4:=hc 4 _ rfl
  have d5:=hc 5 _ rfl
  have d6:=hc 6 _ rfl
  have kg:=zac d0
  have HR:=hd_ hr
  clear hb  hv he hc hr hi
  go_enter Tryz.func67,Tryz.ntmps67
  go_wp2_with (go_at_call 93;refine HL.out.mono ?_;rintro e w1 ⟨n,rfl,hn,hb1⟩;have B1:=hd_ hb1;have HN:=hd_ hn;clear hb1 hn)
  all_goals
   go_ret
   refine ⟨?_,B1.out⟩
   rw [← HB.out]
   simp only [Ty.first,HR.out]
   first | rfl | simp [*]
theorem zkm {o:Option Ini} {v:Value} {P:Nat→Prop} {k:Nat} {b:Int} (hf:Ty.first o k=true) (hb:Ty.start o k=b) (h1:1≤k) (h2:k≤11) (hi:∀ i,o=some i→zdt i) (w:World) (hv:IniV w P o v) :
  Calls Tryz.prog 72 #[v,.int .i64 k] w fun e w'=>e=.returned (.int .i64 b)∧Below w.heap.size w w':=by
 rcases zdx hv with ⟨rfl,a,c,rfl⟩ | ⟨i,g,c,row,rfl,rfl,he,hc⟩
 ·have HB:=hd_ hb
  clear hb hf hv
  go_enter Tryz.func72,Tryz.ntmps72
  go_wp2
  go_ret
  exact ⟨by rw [← HB.out];rfl,Below.refl _ _⟩
 ·obtain ⟨r,hr⟩:∃ r,Ty.literal i k=r:=⟨_,rfl⟩
  have HL:=hd_ (zet hr h1 h2 (hi i rfl) w he)
  have HB:=hd_ hb
  have HF:=hd_ hf
  obtain ⟨op,kd,n,nm,fl,a,ln,c2,ta,rfl⟩:=he.shape
  have d0:=hc 0 _ rfl
  have d1:=hc 1 _ rfl
  have d2:=hc 2 _ rfl
  have d3:=hc 3 _ rfl
  have d4:=hc 4 _ rfl
  have d5:=hc 5 _ rfl
  have d6:=hc 6 _ rfl
  have kg:=zac d0
  have HR:=hd_ hr
  clear hb hf hv he hc hr hi
  go_enter Tryz.func72,Tryz.ntmps72
  go_wp2_with (go_at_call 93;refine HL.out.mono ?_;rintro e w1 ⟨n,rfl,hn,hb1⟩;have B1:=hd_ hb1;have HN:=hd_ hn;clear hb1 hn)
  go_ret
  refine ⟨?_,B1.out⟩
  have h3:=HF.out
  have h4:=HB.out
  simp only [Ty.first,HR.out] at h3
  simp only [Ty.start,HR.out] at h4
  obtain ⟨m,hm⟩:=Option.isSome_iff_exists.1 h3
  rw [hm] at h4
  exact zaf (by rw [HN.out m hm,← h4];rfl)
def ErrV (w:World) (r:Option (Int × Int)) (v:Value):Prop:=match r with
 | none=>v=.nilIface
 | some q=>∃ p,v=.iface 70 (.pointer (some ⟨p,0,none⟩))∧w.heap[p]? = some (.cells #[.int .i64 q.1,.int .i64 q.2] 75)
theorem za5 (a n:Int) (w:World):Calls Tryz.prog 35 #[.int .i64 a,.int .i64 n] w fun e w'=>∃ v,e=.returned v∧ErrV w' (some (a,n)) v∧Below w.heap.size w w':=by
 go_enter Tryz.func35,Tryz.ntmps35
 go_wp2
 go_ret
 exact ⟨_,rfl,⟨_,rfl,Bl.new _ _ _⟩,br_.alloc nl_ _⟩
theorem zlq (k:Int):((if Ty.scalar k=true then zaq k.toNat else 0)==16)=decide (k=3∨k=6∨k=9):=by
 cases hs:Ty.scalar k with
 | false=>
  unfold Ty.scalar at hs
  simp only [Bool.and_eq_false_iff,decide_eq_false_iff_not] at hs
  have h:¬ (k=3∨k=6∨k=9):=by omega
  simp [h]
 | true=>
  unfold Ty.scalar at hs
  simp only [Bool.and_eq_true,decide_eq_true_eq] at hs
  have h:k=1∨k=2∨k=3∨k=4∨k=5∨k=6∨k=7∨k=8∨k=9∨k=10∨k=11:=by omega
  rcases h with rfl | rfl | rfl | rfl | rfl | rfl | rfl | rfl | rfl | rfl | rfl <;> decide
def zlN (r:Option (Int × Int)) (w:World) (e:Ending) (w':World):Prop:=
 ∃ a n,e=.returned (.tuple #[.int .i64 a,.int .i64 n,.bool r.isSome])∧(∀ q,r=some q→(a,n)=q)∧Below w.heap.size w w'
theorem zgX {p:PVar} {row:List Value} {P:Nat→Prop} {r:Option (Int × Int)} (hr:Ty.place p=r) (hs:p.addr.length≤100000) (w:World) (he:Env w) (hv:za0 w P p row) :
  Calls Tryz.prog 38 #[.agg row.toArray] w (zlN r w):=by
 obtain ⟨v,rfl,hi⟩:=hv
 obtain ⟨ia,il,ic,rfl⟩:=hi.slice
 obtain ⟨nm,kind,lo,hi9,el,tn,re,ad,ini,at9⟩:=p
 simp only at hs hi
 obtain ⟨A,hA⟩:∃ A:ByteArray,(⟨ad.toArray⟩:ByteArray)=A:=⟨_,rfl⟩
 obtain ⟨NM,hNM⟩:∃ A:ByteArray,(⟨nm.toArray⟩:ByteArray)=A:=⟨_,rfl⟩
 obtain ⟨TN,hTN⟩:∃ A:ByteArray,(⟨tn.toArray⟩:ByteArray)=A:=⟨_,rfl⟩
 have hAl:A.data.toList=ad:=by rw [← hA]
 have hsz:A.size≤100000:=by rw [← hA];exact hs
 have HE:=hd_ he
 obtain ⟨q,hq⟩:∃ q,aParse ad=q:=⟨_,rfl⟩
 obtain ⟨q1,q2,q3⟩:=q
 have HPA:Hid (∀ W,Env W→Calls Tryz.prog 68 #[.string A] W fun e w'=>e=.returned (.tuple #[.int .i64 q1,.int .i64 q2,.int .i64 q3])∧Below W.heap.size W w'):=hd_ (fun W hW=>(ziu A (by omega) W hW).mono fun e w' h=>by unfold zdR at h;rw [hAl,hq] at h;exact h)
 have HBT:=hd_ (fun W=>zc0 q1 W)
 have HWD:=hd_ (fun W=>zlr kind W)
 have HW6:=zlq kind
 obtain ⟨wd,hwd⟩:∃ wd,(if Ty.scalar kind=true then zaq kind.toNat else 0)=wd:=⟨_,rfl⟩
 rw [hwd] at HWD HW6
 obtain ⟨bt,hbt⟩:∃ bt,aBit q1=bt:=⟨_,rfl⟩
 rw [hbt] at HBT
 simp only [Ty.place,hq,hbt] at hr
 simp only [hA,hNM,hTN]
 have hways:(q3≠0∧r=none)∨(q3=0∧bt=true∧kind=1∧r=some (q1,q2))∨(q3=0∧bt=true∧kind≠1∧r=none) ∨
   (q3=0∧bt=false∧(kind=3∨kind=6∨kind=9)∧r=some (q1,q2))∨(q3=0∧bt=false∧¬ (kind=3∨kind=6∨kind=9)∧r=none):=by
  by_cases h0:q3=0
  ·rw [if_neg (by simpa using h0)] at hr
   cases bt with
   | true=>
    by_cases h1:kind=1
    ·exact .inr (.inl ⟨h0,rfl,h1,by rw [← hr,if_pos (.inl ⟨rfl,h1⟩)]⟩)
    ·exact .inr (.inr (.inl ⟨h0,rfl,h1,by rw [← hr,if_neg (by simp [h1])]⟩))
   | false=>
    by_cases h1:kind=3∨kind=6∨kind=9
    ·exact .inr (.inr (.inr (.inl ⟨h0,rfl,h1,by rw [← hr,if_pos (.inr ⟨rfl,h1⟩)]⟩)))
    ·exact .inr (.inr (.inr (.inr ⟨h0,rfl,h1,by rw [← hr,if_neg (by simp only [Bool.false_eq_true,false_and,true_and,false_or];exact h1)]⟩)))
  ·exact .inl ⟨h0,by rw [← hr,if_pos (by simpa using h0)]⟩
 clear hr hq hwd hbt hA hNM hTN hAl hsz hs hi he
 rcases hways with ⟨h0,h9⟩ | ⟨h0,rfl,h1,h9⟩ | ⟨h0,rfl,h1,h9⟩ | ⟨h0,rfl,h1,h9⟩ | ⟨h0,rfl,h1,h9⟩
 ·have e0:(q3 != 0)=true:=by simp [h0]
  have H9:=hd_ h9
  clear h0 h9 HBT HWD HW6
  go_enter Tryz.func38,Tryz.ntmps38
  go_wp2_with (first | (go_at_call 68;refine (HPA.out _ (HE.out.below (br_.alloc nl_ _))).mono ?_;rintro e w1 ⟨rfl,hb1⟩;have B1:=hd_ (zal (br_.alloc nl_ _) hb1 (by simp));have c1:=(Bl.below (Bl.new _ _ _) hb1).cells10.2.1;have k1:=zac c1;clear hb1) | (go_at_call 69;refine (HBT.out _).mono ?_;rintro e w2 ⟨rfl,rfl⟩) | (go_at_call 70;refine (HWD.out _).mono ?_;rintro e w3 ⟨rfl,hb3⟩;have B3:=hd_ (zah B1.out hb3);clear hb3))
  go_returns
  rw [H9.out]
  exact ⟨_,_,rfl,by simp,B1.out⟩
 ·have e0:(q3 != 0)=false:=by simp [h0]
  have e1:(kind==1)=true:=by simp [h1]
  have H9:=hd_ h9
  clear h0 h1 h9 HWD HW6
  go_enter Tryz.func38,Tryz.ntmps38
  go_wp2_with (first | (go_at_call 68;refine (HPA.out _ (HE.out.below (br_.alloc nl_ _))).mono ?_;rintro e w1 ⟨rfl,hb1⟩;have B1:=hd_ (zal (br_.alloc nl_ _) hb1 (by simp));have c1:=(Bl.below (Bl.new _ _ _) hb1).cells10.2.1;have k1:=zac c1;clear hb1) | (go_at_call 69;refine (HBT.out _).mono ?_;rintro e w2 ⟨rfl,rfl⟩) | (go_at_call 70;refine (HWD.out _).mono ?_;rintro e w3 ⟨rfl,hb3⟩;have B3:=hd_ (zah B1.out hb3);clear hb3))
  go_returns
  rw [H9.out]
  exact ⟨_,_,rfl,by simp,B1.out⟩
 ·have e0:(q3 != 0)=false:=by simp [h0]
  have e1:(kind==1)=false:=by simp [h1]
  have H9:=hd_ h9
  clear h0 h1 h9 HWD HW6
  go_enter Tryz.func38,Tryz.ntmps38
  go_wp2_with (first | (go_at_call 68;refine (HPA.out _ (HE.out.below (br_.alloc nl_ _))).mono ?_;rintro e w1 ⟨rfl,hb1⟩;have B1:=hd_ (zal (br_.alloc nl_ _) hb1 (by simp));have c1:=(Bl.below (Bl.new _ _ _) hb1).cells10.2.1;have k1:=zac c1;clear hb1) | (go_at_call 69;refine (HBT.out _).mono ?_;rintro e w2 ⟨rfl,rfl⟩) | (go_at_call 70;refine (HWD.out _).mono ?_;rintro e w3 ⟨rfl,hb3⟩;have B3:=hd_ (zah B1.out hb3);clear hb3))
  go_returns
  rw [H9.out]
  exact ⟨_,_,rfl,by simp,B1.out⟩
 ·have e0:(q3 != 0)=false:=by simp [h0]
  have e1:(wd==16)=true:=by rw [HW6];simp [h1]
  have H9:=hd_ h9
  clear h0 h1 h9 HW6
  go_enter Tryz.func38,Tryz.ntmps38
  go_wp2_with (first | (go_at_call 68;refine (HPA.out _ (HE.out.below (br_.alloc nl_ _))).mono ?_;rintro e w1 ⟨rfl,hb1⟩;have B1:=hd_ (zal (br_.alloc nl_ _) hb1 (by simp));have c1:=(Bl.below (Bl.new _ _ _) hb1).cells10.2.1;have k1:=zac c1;clear hb1) | (go_at_call 69;refine (HBT.out _).mono ?_;rintro e w2 ⟨rfl,rfl⟩) | (go_at_call 70;refine (HWD.out _).mono ?_;rintro e w3 ⟨rfl,hb3⟩;have B3:=hd_ (zah B1.out hb3);clear hb3))
  go_returns
  rw [H9.out]
  exact ⟨_,_,rfl,by simp,B3.out⟩
 ·have e0:(q3 != 0)=false:=by simp [h0]
  have e1:(wd==16)=false:=by rw [HW6];simp only [decide_eq_false_iff_not];exact h1
  have H9:=hd_ h9
  clear h0 h1 h9 HW6
  go_enter Tryz.func38,Tryz.ntmps38
  go_wp2_with (first | (go_at_call 68;refine (HPA.out _ (HE.out.below (br_.alloc nl_ _))).mono ?_;rintro e w1 ⟨rfl,hb1⟩;have B1:=hd_ (zal (br_.alloc nl_ _) hb1 (by simp));have c1:=(Bl.below (Bl.new _ _ _) hb1).cells10.2.1;have k1:=zac c1;clear hb1) | (go_at_call 69;refine (HBT.out _).mono ?_;rintro e w2 ⟨rfl,rfl⟩) | (go_at_call 70;refine (HWD.out _).mono ?_;rintro e w3 ⟨rfl,hb3⟩;have B3:=hd_ (zah B1.out hb3);clear hb3))
  go_returns
  rw [H9.out]
  exact ⟨_,_,rfl,by simp,B3.out⟩
end Go.Proofs.YtdpkjpjkdmkkpaaGreatDoor
