/- The walks through the reference's lexer (rungref12): its bytes. -/
import Derived.Test.YtdpkjpjkdmkkpaaGreatDoorMD
set_option maxRecDepth 100000
set_option maxHeartbeats 16000000
namespace Go.Proofs.YtdpkjpjkdmkkpaaGreatDoor
open Ad Go.RowKit Lx
theorem zar (c:UInt8) (w:World) :
  Calls Tryz.prog 102 #[.int .u8 c.toNat] w fun e w'=>e=.returned (.bool (dig c))∧w=w':=by
 go_enter Tryz.func102,Tryz.ntmps102
 go_wp2
 all_goals (go_ret;exact ⟨zct (Bool.eq_iff_iff.2 (by simp only [dig,Bool.and_eq_true,decide_eq_true_eq,Bool.false_eq_true,false_iff];omega)),rfl⟩)
theorem zap (c:UInt8) (w:World) :
  Calls Tryz.prog 101 #[.int .u8 c.toNat] w fun e w'=>e=.returned (.bool (lett c))∧w=w':=by
 go_enter Tryz.func101,Tryz.ntmps101
 go_wp2
 all_goals (go_ret;exact ⟨zct (Bool.eq_iff_iff.2 (by simp only [lett,Bool.or_eq_true,Bool.and_eq_true,decide_eq_true_eq,beq_iff_eq,true_iff];omega)),rfl⟩)
def rVal (c:UInt8) (base:Int):Int:=if base≤valD c then -1 else valD c
theorem zdc (c:UInt8) (base:Int):(0≤rVal c base)↔zbx c base=true:=by
 unfold rVal zbx
 simp only [Bool.and_eq_true,decide_eq_true_eq]
 split <;> omega
theorem zml {c:UInt8} {base:Int} (h:zbx c base=true):rVal c base=valD c:=by
 unfold zbx at h
 simp only [Bool.and_eq_true,decide_eq_true_eq] at h
 rw [rVal,if_neg (by omega)]
theorem zbb (c:UInt8) (base:Int) (w:World) :
  Calls Tryz.prog 137 #[.int .u8 c.toNat,.int .i64 base] w fun e w'=>e=.returned (.int .i64 (rVal c base))∧w=w':=by
 obtain ⟨a,ha⟩:∃ a,dig c=a:=⟨_,rfl⟩
 have HA:=hd_ ha
 have hc:=c.toNat_lt
 cases a with
 | true=>
  have h1:48≤c.toNat:=by simp [dig] at ha;omega
  have h2:c.toNat≤57:=by simp [dig] at ha;omega
  clear ha
  have hv:valD c=c.toNat - 48:=by simp [valD,HA.out]
  have HV:=hd_ hv
  clear hv
  have hw:IntKind.u8.wrap ((c.toNat:Int) - 48)=(c.toNat:Int) - 48:=IntWalk.u8_in _ (by omega)
  by_cases hb:base≤(c.toNat:Int) - 48
  all_goals
   have HB:=hd_ hb
   go_enter Tryz.func137,Tryz.ntmps137
   go_wp2_with (go_at_call 102;refine (zar _ _).mono ?_;rintro e w1 ⟨rfl,rfl⟩;rw [HA.out])
   go_ret
   exact ⟨zaf (by simp [rVal,HV.out,HB.out];try omega),rfl⟩
 | false=>
  clear ha
  by_cases h:65≤c.toNat∧c.toNat≤70
  ·have hv:valD c=(c.toNat:Int) - 65+10:=by simp [valD,HA.out,h]
   have HV:=hd_ hv
   clear hv
   obtain ⟨h1,h2⟩:=h
   have hw:IntKind.u8.wrap ((c.toNat:Int) - 65)=(c.toNat:Int) - 65:=IntWalk.u8_in _ (by omega)
   by_cases hb:base≤(c.toNat:Int) - 65+10
   all_goals
    have HB:=hd_ hb
    go_enter Tryz.func137,Tryz.ntmps137
    go_wp2_with (go_at_call 102;refine (zar _ _).mono ?_;rintro e w1 ⟨rfl,rfl⟩;rw [HA.out])
    go_ret
    exact ⟨zaf (by simp [rVal,HV.out,HB.out];try omega),rfl⟩
  ·have hv:valD c=-1:=by simp only [valD,HA.out];rw [if_neg (by simp),if_neg h]
   have HV:=hd_ hv
   clear hv
   have h':c.toNat < 65∨(65≤c.toNat∧70 < c.toNat):=by omega
   clear h
   by_cases hb:base≤-1
   all_goals
    have HB:=hd_ hb
    rcases h' with h' | ⟨h1,h2⟩
    all_goals
     go_enter Tryz.func137,Tryz.ntmps137
     go_wp2_with (go_at_call 102;refine (zar _ _).mono ?_;rintro e w1 ⟨rfl,rfl⟩;rw [HA.out])
     go_ret
     exact ⟨zaf (by simp [rVal,HV.out,HB.out];try omega),rfl⟩
def ScB (w:World) (b:Nat) (s:ByteArray) (a:Int):Prop:=w.heap[b]? = some (.cells #[.string s,.int .i64 a] 143)
theorem ScB.cells {w:World} {b:Nat} {s:ByteArray} {a:Int} (h:ScB w b s a) :
  w.cell? ⟨b,0,none⟩=some (.string s)∧w.cell? ⟨b,1,none⟩=some (.int .i64 a)∧w.frozen? ⟨b,0,none⟩=false∧w.frozen? ⟨b,1,none⟩=false:=by
 unfold ScB at h
 simp [World.cell?,World.frozen?,h]
theorem ScB.lt {w:World} {b:Nat} {s:ByteArray} {a:Int} (h:ScB w b s a):b < w.heap.size:=by
 rcases Nat.lt_or_ge b w.heap.size with h1 | h1
 ·exact h1
 ·unfold ScB at h;rw [Array.getElem?_eq_none h1] at h;cases h
theorem ScB.drewN {w:World} {b:Nat} {s:ByteArray} {a:Int} (h:ScB w b s a) (n:Nat):ScB (w.drewN n) b s a:=h
theorem ScB.set {w:World} {b:Nat} {s:ByteArray} {a:Int} (h:ScB w b s a) (a':Int):ScB (w.setCell ⟨b,1,none⟩ (.int .i64 a')) b s a':=by
 unfold ScB at h ⊢
 simp [World.setCell,h,Array.getElem?_modify]
theorem znH {w:World} (a b:Nat):∃ n,(w.drewN a).drewN b=w.drewN n:=⟨a+b,by simp⟩
theorem zeO {s:ByteArray} {i:Nat} (h:i < s.size):cAt s.data.toList i=s[i]:=by
 unfold cAt
 rw [List.getD_eq_getElem?_getD,List.getElem?_eq_getElem (by exact h)]
 rfl
theorem zcD {s:ByteArray} {i:Nat} (h:s.size≤i):cAt s.data.toList i=0:=by
 unfold cAt
 rw [List.getD_eq_getElem?_getD,List.getElem?_eq_none (by exact h)]
 rfl
theorem zb0 {s:ByteArray} {a i b:Nat} (hs:s.size≤4294967000) (ha:a≤s.size) (hi:i≤1) (w:World) (hx:ScB w b s a) :
  Calls Tryz.prog 79 #[.pointer (some ⟨b,0,none⟩),.int .i64 i] w fun e w'=>e=.returned (.int .u8 (cAt s.data.toList (a+i)).toNat)∧∃ n,w'=w.drewN n:=by
 obtain ⟨c0,c1,f0,f1⟩:=hx.cells
 have e2:IntKind.i64.wrap ((a:Int)+i)=(a:Int)+i:=by simp [IntKind.wrap,IntKind.bits,IntKind.signed];omega
 have b0:0≤(a:Int)+i:=by omega
 have b2:((a:Int)+i).toNat=a+i:=by omega
 have HX:=hd_ hx
 clear hx
 by_cases h:a+i < s.size
 ·have h1:(a:Int)+i < s.size:=by omega
  have HC:=hd_ (zeO h)
  go_enter Tryz.func79,Tryz.ntmps79
  go_wp2
  go_quiet (fail)
  go_wp2
  go_quiet (fail)
  go_wp2
  go_ret
  rw [HC.out]
  exact ⟨rfl,znH _ _⟩
 ·have h1:¬ (a:Int)+i < s.size:=by omega
  have HC:=hd_ (zcD (s:=s) (i:=a+i) (by omega))
  go_enter Tryz.func79,Tryz.ntmps79
  go_wp2
  go_quiet (fail)
  go_wp2
  go_ret
  rw [HC.out]
  exact ⟨rfl,_,rfl⟩
theorem zkD {s:ByteArray} {base:Int} {p k sz:Nat} {n:Int} {ok:Bool} (h:zbx (cAt s.data.toList p) base=true) :
  p < s.size∧digF base (s.data.toList.drop p) ok k n sz=digF base (s.data.toList.drop (p+1)) true (k+1) (min (n*base+valD (cAt s.data.toList p)) 1099511627776) (k+1):=by
 have hp:p < s.size:=by
  rcases Nat.lt_or_ge p s.size with h1 | h1
  ·exact h1
  ·rw [zcD h1] at h
   simp [zbx,show valD 0=-1 by decide] at h
 refine ⟨hp,?_⟩
 rw [zc2 hp,digF,zeO hp]
 rw [zeO hp] at h
 have h95:¬ (s[p].toNat=95∧ok=true):=by
  intro h1
  have h2:s[p]=95:=UInt8.toNat_inj.1 (by rw [h1.1];rfl)
  rw [h2] at h
  simp [zbx,show valD 95=-1 by decide] at h
 rw [if_neg h95,if_pos h]
theorem zfl {s:ByteArray} {base:Int} {p k sz:Nat} {n:Int} {ok:Bool} (h:zbx (cAt s.data.toList p) base=false) (h2:¬ ((cAt s.data.toList p).toNat=95∧ok=true)) :
  digF base (s.data.toList.drop p) ok k n sz=(n,sz):=by
 rcases Nat.lt_or_ge p s.size with h1 | h1
 ·rw [zc2 h1,digF]
  rw [zeO h1] at h h2
  rw [if_neg h2,if_neg (by rw [h];simp)]
 ·rw [List.drop_of_length_le (by simpa using h1)];rfl
theorem ziC {s:ByteArray} {base:Int} {p k sz:Nat} {n:Int} (h:(cAt s.data.toList p).toNat=95) :
  p < s.size∧digF base (s.data.toList.drop p) true k n sz=digF base (s.data.toList.drop (p+1)) false (k+1) n sz:=by
 have hp:p < s.size:=by
  rcases Nat.lt_or_ge p s.size with h1 | h1
  ·exact h1
  ·rw [zcD h1] at h;exact absurd h (by decide)
 refine ⟨hp,?_⟩
 rw [zeO hp] at h
 rw [zc2 hp,digF,if_pos ⟨h,rfl⟩]
theorem zdD {s:ByteArray} {a b Z:Nat} {base N:Int} (hr:zak (s.data.toList.drop a) base=(N,Z)) (hs:s.size≤4294967000) (ha:a≤s.size) (hb0:2≤base) (hb1:base≤16) (w:World) (hx:ScB w b s a) :
  Calls Tryz.prog 125 #[.pointer (some ⟨b,0,none⟩),.int .i64 base] w fun e w'=>e=.returned (.tuple #[.int .i64 N,.bool (Z != 0)])∧ScB w' b s ((a+Z:Nat):Int)∧Only b w w':=by
 have hl0:s.data.toList.length=s.size:=rfl
 by_cases h0:zbx (cAt s.data.toList a) base=true
 ·have HR:Hid (digF base (s.data.toList.drop (a+0)) false 0 0 0=(N,Z)):=hd_ hr
  have HX:=hd_ hx
  have HC0:=hd_ (zb0 hs ha (Nat.zero_le 1) w hx)
  obtain ⟨c,hc⟩:∃ c,cAt s.data.toList a=c:=⟨_,rfl⟩
  have HH:=hd_ h0
  rw [Nat.add_zero,hc] at HC0
  have hv0:0≤rVal c base:=(zdc c base).2 (by rw [← hc];exact h0)
  obtain ⟨v,hv⟩:∃ v,rVal c base=v:=⟨_,rfl⟩
  rw [hv] at hv0
  have HV:=hd_ hv
  clear hr hx h0 hc hv hl0
  go_enter Tryz.func125,Tryz.ntmps125
  go_wp2_with (first | (go_at_call 79;refine HC0.out.mono ?_;rintro e w1 ⟨rfl,nn,rfl⟩) | (go_at_call 137;refine (zbb _ _ _).mono ?_;rintro e w2 ⟨rfl,rfl⟩;rw [HV.out]))
  go_loopw [6] (fun n wr=>∃ (k sz:Nat) (m:Int) (ok:Bool),a+k≤s.size∧0≤m∧m≤1099511627776∧n=.int .i64 m∧Hid (digF base (s.data.toList.drop (a+k)) ok k m sz=(N,Z))∧Hid ((ok=true∧sz=k∧1≤k)∨(ok=false∧zbx (cAt s.data.toList (a+k)) base=true))∧Hid (ScB wr b s ((a+k:Nat):Int))∧Hid (Only b w wr)) (fun _ wr=>s.size - (intOf ((wr.cell? ⟨b,1,none⟩).getD undef)).toNat)
  case atStart=>exact ⟨0,0,0,false,by omega,by omega,by omega,rfl,HR,hd_ (.inr ⟨rfl,HH.out⟩),hd_ (HX.out.drewN _),hd_ ((Only.refl _ _).drewN _)⟩
  case round=>
   clear HR HH HX HC0 HV hv0
   obtain ⟨k,sz,m,ok,hka,m0,m1,rfl,HD,HOK,HX,HO⟩:=hrel
   obtain ⟨WR,rfl⟩:∃ WR,WR=wr:=⟨_,rfl⟩
   obtain ⟨p,hp⟩:∃ p,a+k=p:=⟨_,rfl⟩
   rw [hp] at HD HOK HX hka
   have HP:=hd_ hp
   have hc0:=fun W (hW:ScB W b s (p:Int))=>zb0 (i:=0) hs hka (by omega) W hW
   have hc1:=fun W (hW:ScB W b s (p:Int))=>zb0 (i:=1) hs hka (by omega) W hW
   obtain ⟨c,hc⟩:∃ c,cAt s.data.toList p=c:=⟨_,rfl⟩
   obtain ⟨c',hc'⟩:∃ c,cAt s.data.toList (p+1)=c:=⟨_,rfl⟩
   rw [Nat.add_zero,hc] at hc0
   rw [hc'] at hc1
   have HC0:=hd_ hc0
   have HC1:=hd_ hc1
   obtain ⟨v,hv⟩:∃ v,rVal c base=v:=⟨_,rfl⟩
   obtain ⟨v',hv'⟩:∃ v,rVal c' base=v:=⟨_,rfl⟩
   have HV:=hd_ hv
   have HV1:=hd_ hv'
   obtain ⟨x0,x1,g0,g1⟩:=HX.out.cells
   have hbl:=HX.out.lt
   clear hc0 hc1 hp
   by_cases hok:zbx c base=true
   ·obtain ⟨hlt,hstep⟩:=zkD (s:=s) (p:=p) (k:=k) (sz:=sz) (n:=m) (ok:=ok) (by rw [hc];exact hok)
    rw [HD.out,hc] at hstep
    have hvv:v=valD c:=by rw [← hv];exact zml hok
    have hv0:0≤v:=by rw [← hv];exact (zdc c base).2 hok
    have hv1:v≤15:=by rw [hvv];exact zmI c
    have HS:=hd_ hstep
    have HVV:=hd_ hvv
    have hm0:0≤base*m:=Int.mul_nonneg (by omega) m0
    have hm1:base*m≤16*1099511627776:=Int.mul_le_mul hb1 m1 m0 (by omega)
    obtain ⟨bm,hbm⟩:∃ bm,base*m=bm:=⟨_,rfl⟩
    rw [hbm] at hm0 hm1
    have HM:=hd_ ((Int.mul_comm m base).trans hbm)
    have q1:IntKind.i64.wrap bm=bm:=IntWalk.i64_in _ (by omega)
    have q2:IntKind.i64.wrap (bm+v)=bm+v:=IntWalk.i64_in _ (by omega)
    have q3:IntKind.i64.wrap ((p:Int)+1)=(p:Int)+1:=IntWalk.i64_in _ (by omega)
    clear hstep hvv hok hc hc' hv hv'
    go_wp2_with (first | (go_at_call 79;first | (refine (HC0.out _ (by first | exact HX.out | exact HX.out.drewN _ | exact (HX.out.drewN _).drewN _ | exact ((HX.out.drewN _).drewN _).drewN _)).mono ?_;rintro e w1 ⟨rfl,nn,rfl⟩) | (refine (HC1.out _ (by first | exact HX.out | exact HX.out.drewN _ | exact (HX.out.drewN _).drewN _ | exact ((HX.out.drewN _).drewN _).drewN _)).mono ?_;rintro e w1 ⟨rfl,nn,rfl⟩)) | (go_at_call 137;refine (zbb _ _ _).mono ?_;rintro e w2 ⟨rfl,rfl⟩;first | rw [HV.out] | rw [HV1.out]))
    go_roundw
    case rel=>
     refine ⟨k+1,k+1,min (bm+v) 1099511627776,true,by have:=HP.out;omega,by omega,by omega,by first | rfl | go_num,hd_ ?_,hd_ (.inl ⟨rfl,rfl,by omega⟩),hd_ ?_,hd_ ((HO.out.drewN _).setCell 1 _)⟩
     ·rw [show a+(k+1)=p+1 by have:=HP.out;omega,← HM.out,HVV.out];exact HS.out.symm
     ·rw [show ((a+(k+1):Nat):Int)=(p:Int)+1 by have:=HP.out;omega];exact (HX.out.drewN _).set _
    case measure=>
     have h5:=fun nd=>((HX.out.drewN nd).set ((p:Int)+1)).cells.2.1
     simp [h5,x1,intOf];omega
   ·have hok':zbx c base=false:=by simpa using hok
    have hvn:v < 0:=by
     rw [← hv]
     rcases Int.lt_or_le (rVal c base) 0 with h | h
     ·exact h
     ·exact absurd ((zdc c base).1 h) hok
    obtain ⟨rfl,rfl,hk1⟩:ok=true∧sz=k∧1≤k:=by
     rcases HOK.out with h | ⟨_,h⟩
     ·exact h
     ·rw [hc] at h;exact absurd h hok
    by_cases h95:c.toNat=95
    ·have e95:((c.toNat:Int)==95)=true:=by simp [h95]
     obtain ⟨hlt,hstep⟩:=ziC (s:=s) (base:=base) (p:=p) (k:=sz) (sz:=sz) (n:=m) (by rw [hc];exact h95)
     rw [HD.out] at hstep
     by_cases hn:zbx c' base=true
     ·have hv1:0≤v':=by rw [← hv'];exact (zdc c' base).2 hn
      have HS:=hd_ hstep
      have HN:=hd_ hn
      have HC':=hd_ hc'
      have q3:IntKind.i64.wrap ((p:Int)+1)=(p:Int)+1:=IntWalk.i64_in _ (by omega)
      clear hstep hok hok' hc hc' hv hv' hn h95
      go_wp2_with (fail)
      refine (HC0.out _ (by first | exact HX.out | exact HX.out.drewN _ | exact (HX.out.drewN _).drewN _ | exact ((HX.out.drewN _).drewN _).drewN _)).mono ?_;rintro e w1 ⟨rfl,n1,rfl⟩
      go_wp2_with (go_at_call 137;refine (zbb _ _ _).mono ?_;rintro e w2 ⟨rfl,rfl⟩;rw [HV.out])
      refine (HC0.out _ (by first | exact HX.out | exact HX.out.drewN _ | exact (HX.out.drewN _).drewN _ | exact ((HX.out.drewN _).drewN _).drewN _)).mono ?_;rintro e w1 ⟨rfl,n2,rfl⟩
      go_wp2_with (fail)
      refine (HC1.out _ (by first | exact HX.out | exact HX.out.drewN _ | exact (HX.out.drewN _).drewN _ | exact ((HX.out.drewN _).drewN _).drewN _)).mono ?_;rintro e w1 ⟨rfl,n3,rfl⟩
      go_wp2_with (go_at_call 137;refine (zbb _ _ _).mono ?_;rintro e w2 ⟨rfl,rfl⟩;rw [HV1.out])
      go_roundw
      case rel=>
       refine ⟨sz+1,sz,m,false,by have:=HP.out;omega,m0,m1,rfl,hd_ ?_,hd_ (.inr ⟨rfl,?_⟩),hd_ ?_,hd_ ((HO.out.drewN _).setCell 1 _)⟩
       ·rw [show a+(sz+1)=p+1 by have:=HP.out;omega];exact HS.out.symm
       ·rw [show a+(sz+1)=p+1 by have:=HP.out;omega,HC'.out];exact HN.out
       ·rw [show ((a+(sz+1):Nat):Int)=(p:Int)+1 by have:=HP.out;omega];exact (HX.out.drewN _).set _
      case measure=>
       have h5:=fun nd=>((HX.out.drewN nd).set ((p:Int)+1)).cells.2.1
       simp [h5,x1,intOf];omega
     ·have hv1:v' < 0:=by
       rw [← hv']
       rcases Int.lt_or_le (rVal c' base) 0 with h | h
       ·exact h
       ·exact absurd ((zdc c' base).1 h) hn
      rw [zfl (by rw [hc'];simpa using hn) (by simp)] at hstep
      obtain ⟨rfl,rfl⟩:N=m∧Z=sz:=by injection hstep with h1 h2;exact ⟨h1,h2⟩
      have hz:(Z != 0)=true:=by simp;omega
      clear hstep hok hok' hc hc' hv hv' hn h95
      go_wp2_with (fail)
      refine (HC0.out _ (by first | exact HX.out | exact HX.out.drewN _ | exact (HX.out.drewN _).drewN _ | exact ((HX.out.drewN _).drewN _).drewN _)).mono ?_;rintro e w1 ⟨rfl,n1,rfl⟩
      go_wp2_with (go_at_call 137;refine (zbb _ _ _).mono ?_;rintro e w2 ⟨rfl,rfl⟩;rw [HV.out])
      refine (HC0.out _ (by first | exact HX.out | exact HX.out.drewN _ | exact (HX.out.drewN _).drewN _ | exact ((HX.out.drewN _).drewN _).drewN _)).mono ?_;rintro e w1 ⟨rfl,n2,rfl⟩
      go_wp2_with (fail)
      refine (HC1.out _ (by first | exact HX.out | exact HX.out.drewN _ | exact (HX.out.drewN _).drewN _ | exact ((HX.out.drewN _).drewN _).drewN _)).mono ?_;rintro e w1 ⟨rfl,n3,rfl⟩
      go_wp2_with (go_at_call 137;refine (zbb _ _ _).mono ?_;rintro e w2 ⟨rfl,rfl⟩;rw [HV1.out])
      refine bodyPost_ret (v:=.tuple #[.int .i64 N,.bool true]) (by simp [results,Tryz.results125,go_sem]) rfl ?_
      exact ⟨by rw [hz],by rw [HP.out];exact HX.out.drewN _,HO.out.drewN _⟩
    ·have e95:((c.toNat:Int)==95)=false:=by simp;omega
     have hend:=zfl (s:=s) (base:=base) (p:=p) (k:=sz) (sz:=sz) (n:=m) (ok:=true) (by rw [hc];exact hok') (by rw [hc];exact fun h=>h95 h.1)
     rw [HD.out] at hend
     obtain ⟨rfl,rfl⟩:N=m∧Z=sz:=by injection hend with h1 h2;exact ⟨h1,h2⟩
     have hz:(Z != 0)=true:=by simp;omega
     clear hend hok hok' hc hc' hv hv' h95
     go_wp2_with (first | (go_at_call 79;first | (refine (HC0.out _ (by first | exact HX.out | exact HX.out.drewN _ | exact (HX.out.drewN _).drewN _ | exact ((HX.out.drewN _).drewN _).drewN _)).mono ?_;rintro e w1 ⟨rfl,nn,rfl⟩) | (refine (HC1.out _ (by first | exact HX.out | exact HX.out.drewN _ | exact (HX.out.drewN _).drewN _ | exact ((HX.out.drewN _).drewN _).drewN _)).mono ?_;rintro e w1 ⟨rfl,nn,rfl⟩)) | (go_at_call 137;refine (zbb _ _ _).mono ?_;rintro e w2 ⟨rfl,rfl⟩;first | rw [HV.out] | rw [HV1.out]))
     refine bodyPost_ret (v:=.tuple #[.int .i64 N,.bool true]) (by simp [results,Tryz.results125,go_sem]) rfl ?_
     exact ⟨by rw [hz],by rw [HP.out];exact HX.out.drewN _,HO.out.drewN _⟩
 ·have h0':zbx (cAt s.data.toList a) base=false:=by simpa using h0
  have hend:=zfl (s:=s) (base:=base) (p:=a) (k:=0) (sz:=0) (n:=0) (ok:=false) h0' (by simp)
  rw [show digF base (List.drop a s.data.toList) false 0 0 0=(N,Z) from hr] at hend
  obtain ⟨rfl,rfl⟩:N=0∧Z=0:=by injection hend with h1 h2;exact ⟨h1,h2⟩
  have HX:=hd_ hx
  have HC0:=hd_ (zb0 hs ha (Nat.zero_le 1) w hx)
  obtain ⟨c,hc⟩:∃ c,cAt s.data.toList a=c:=⟨_,rfl⟩
  rw [Nat.add_zero,hc] at HC0
  have hv0:rVal c base < 0:=by
   rcases Int.lt_or_le (rVal c base) 0 with h | h
   ·exact h
   ·rw [← hc] at h;exact absurd ((zdc _ base).1 h) h0
  obtain ⟨v,hv⟩:∃ v,rVal c base=v:=⟨_,rfl⟩
  rw [hv] at hv0
  have HV:=hd_ hv
  clear hr hx h0 h0' hc hv hl0 hend
  go_enter Tryz.func125,Tryz.ntmps125
  go_wp2_with (first | (go_at_call 79;refine HC0.out.mono ?_;rintro e w1 ⟨rfl,nn,rfl⟩) | (go_at_call 137;refine (zbb _ _ _).mono ?_;rintro e w2 ⟨rfl,rfl⟩;rw [HV.out]))
  refine bodyPost_ret (v:=.tuple #[.int .i64 0,.bool false]) (by simp [results,Tryz.results125,go_sem]) rfl ?_
  exact ⟨rfl,HX.out.drewN _,(Only.refl _ _).drewN _⟩
theorem zlF {s:ByteArray} {a:Nat} {h:List UInt8} (_ha:a+h.length≤s.size):((s.extract a (a+h.length)).toList==h)=Lib.hasPrefix (s.data.toList.drop a) h:=by
 rw [Bool.eq_iff_iff,beq_iff_eq]
 unfold Lib.hasPrefix
 rw [List.isPrefixOf_iff_prefix,List.prefix_iff_eq_take,ByteArray.toList_eq,ByteArray.data_extract]
 simp only [Array.toList_extract,List.extract_eq_take_drop]
 rw [show a+h.length - a=h.length by omega]
 exact eq_comm
theorem zgu {s:ByteArray} {a:Nat} {h:List UInt8} (ha:¬ a+h.length≤s.size) (ha2:a≤s.size):Lib.hasPrefix (s.data.toList.drop a) h=false:=by
 cases hp:Lib.hasPrefix (s.data.toList.drop a) h with
 | false=>rfl
 | true=>
  have h1:=zbY hp
  rw [List.length_drop,show s.data.toList.length=s.size from rfl] at h1
  omega
def HB:Nat→List UInt8
 | 0=>[50,35] | 1=>[56,35] | 2=>[49,54,35] | _=>[]
def zg8:Nat→Int
 | 0=>2 | 1=>8 | 2=>16 | _=>0
theorem zjO {l:List UInt8} {i:Nat} (hi:i < 3) (h:Lib.hasPrefix l (HB i)=true) :
  Lx.number l=if (zak (l.drop (HB i).length) (zg8 i)).2=0 then (0,0,120) else ((zak (l.drop (HB i).length) (zg8 i)).1,(HB i).length+(zak (l.drop (HB i).length) (zg8 i)).2,0):=by
 unfold Lib.hasPrefix at h
 rw [List.isPrefixOf_iff_prefix] at h
 obtain ⟨t,rfl⟩:=h
 rw [List.drop_left]
 match i,hi with
 | 0,_=>exact zgl
 | 1,_=>exact zgm
 | 2,_=>exact zfw
theorem zl3 (j:Nat) (hj:j < 3) (W:World):(W.alloc (.cells #[.string ⟨#[50,35]⟩,.string ⟨#[56,35]⟩,.string ⟨#[49,54,35]⟩] 9)).cell? ⟨W.heap.size,j,none⟩=some (.string (mkS (HB j))):=by
 have h:j=0∨j=1∨j=2:=by omega
 rcases h with rfl | rfl | rfl <;> exact (World.cell?_alloc_at _ _ _ _ rfl)
theorem zkv (j:Nat) (hj:j < 3):2≤zg8 j∧zg8 j≤16:=by
 have h:j=0∨j=1∨j=2:=by omega
 rcases h with rfl | rfl | rfl <;> decide
theorem ScB.alloc {w:World} {b:Nat} {s:ByteArray} {a:Int} (h:ScB w b s a) (o:Obj):ScB (w.alloc o) b s a:=
 (((Below.refl w.heap.size w).alloc nl_ o).block b h.lt).trans h
theorem zne (j:Nat) (hj:j < 3):∀ h:j < ([Value.int .i64 2,Value.int .i64 8,Value.int .i64 16]:List Value).length,([Value.int .i64 2,Value.int .i64 8,Value.int .i64 16]:List Value)[j]'h=.int .i64 (zg8 j):=by
 have h:j=0∨j=1∨j=2:=by omega
 rcases h with rfl | rfl | rfl <;> exact fun _=>rfl
def zkw (s:ByteArray) (a b:Nat) (r:Int × Nat × Int) (w:World) (ev:Ending) (w':World):Prop:=
 (r.2.2=0→∃ how:Int,(how=1∨how=2)∧ev=.returned (.tuple #[.int .i64 r.1,.int .i64 how])∧ScB w' b s ((a+r.2.1:Nat):Int)) ∧
 (r.2.2≠0→ev=.returned (.tuple #[.int .i64 0,.int .i64 0]))∧Only b w w'∧∃ a':Nat,a'≤s.size∧ScB w' b s (a':Int)
theorem zdd {s:ByteArray} {a b:Nat} {r:Int × Nat × Int} (hr:Lx.number (s.data.toList.drop a)=r) (hs:s.size≤4294967000) (ha:a≤s.size) (w:World) (hx:ScB w b s a) :
  Calls Tryz.prog 106 #[.pointer (some ⟨b,0,none⟩)] w (zkw s a b r w):=by
 have HR:=hd_ hr
 have HX:=hd_ hx
 have hbl:=hx.lt
 clear hr hx
 go_enter Tryz.func106,Tryz.ntmps106
 go_wp2
 have hcell:=fun j hj=>zl3 j hj w
 have HC:=hd_ hcell
 clear hcell
 obtain ⟨W0,hW0⟩:∃ W0,W0=w.alloc (.cells #[.string ⟨#[50,35]⟩,.string ⟨#[56,35]⟩,.string ⟨#[49,54,35]⟩] 9):=⟨_,rfl⟩
 have hb0:Below w.heap.size w W0:=by rw [hW0];exact br_.alloc nl_ _
 have hx0:ScB W0 b s a:=(hb0.block b hbl).trans HX.out
 rw [← hW0] at HC ⊢
 have HX0:=hd_ hx0
 have HB0:=hd_ hb0
 clear hW0 HX hb0 hx0
 obtain ⟨g,hg⟩:∃ g,w.heap.size=g:=⟨_,rfl⟩
 rw [hg] at HC ⊢
 have HG:=hd_ hg
 clear hg hbl
 go_loopw [5] (fun ii wr=>∃ i:Nat,i≤3∧ii=.int .i64 i∧Hid (∀ j,j < i→Lib.hasPrefix (s.data.toList.drop a) (HB j)=false)∧∃ nd,wr=W0.drewN nd) (fun ii _=>3 - (intOf ii).toNat)
 case atStart=>exact ⟨0,by omega,rfl,hd_ (fun j hj=>absurd hj (Nat.not_lt_zero _)),0,rfl⟩
 case round=>
  obtain ⟨i,hi,rfl,HN,nd,rfl⟩:=hrel
  obtain ⟨x0,x1,g0,g1⟩:=HX0.out.cells
  by_cases hlt:i < 3
  ·have hc:=HC.out i hlt
   obtain ⟨h,hh⟩:∃ h,mkS (HB i)=h:=⟨_,rfl⟩
   have hsz:h.size=(HB i).length:=by rw [← hh];simp [mkS,ByteArray.size]
   rw [hh] at hc
   have i0:0≤(i:Int):=by omega
   have i1:(i:Int) < 3:=by omega
   have hm3:2≤h.size∧h.size≤3:=by
    rw [hsz]
    match i,hlt with
    | 0,_=>decide
    | 1,_=>decide
    | 2,_=>decide
   have HM:=hd_ hsz
   obtain ⟨m0,m1⟩:=hm3
   have w1:IntKind.i64.wrap ((a:Int)+h.size)=(a:Int)+h.size:=IntWalk.i64_in _ (by omega)
   have b0:0≤(a:Int):=by omega
   have b1:0≤(a:Int)+h.size:=by omega
   have b2:((a:Int)+h.size).toNat=a+h.size:=by omega
   have b3:(a:Int)≤(a:Int)+h.size:=by omega
   clear hsz
   by_cases hfit:a+h.size≤s.size
   ·have f1:(a:Int)+h.size≤s.size:=by omega
    have hpe:=zlF (s:=s) (a:=a) (h:=HB i) (by rw [← HM.out];exact hfit)
    rw [← HM.out] at hpe
    have hbt:h.toList=HB i:=by rw [← hh,ByteArray.toList_eq];simp [mkS]
    obtain ⟨d,hd⟩:∃ d,((s.extract a (a+h.size)).toList==h.toList)=d:=⟨_,rfl⟩
    rw [← hbt,hd] at hpe
    have HPE:=hd_ hpe
    have HBT:=hd_ hbt
    clear hpe hbt hh
    cases d with
    | false=>
     go_wp2
     go_quiet (fail)
     go_wp2
     go_roundw
     case rel=>
      refine ⟨i+1,by omega,by go_num,hd_ (fun j hj=>?_),_,rfl⟩
      rcases Nat.lt_or_ge j i with h1 | h1
      ·exact HN.out j h1
      ·rw [show j=i by omega,← HBT.out];exact HPE.out.symm
     case measure=>simp [intOf];omega
    | true=>
     have hnum:=zjO hlt (by rw [← HBT.out];exact HPE.out.symm)
     rw [List.drop_drop,← HM.out,HR.out] at hnum
     have hbi:=zkv i hlt
     have hig:=zne i hlt
     obtain ⟨B,hB⟩:∃ B,zg8 i=B:=⟨_,rfl⟩
     rw [hB] at hnum hbi hig
     have HIG:=hd_ hig
     clear hig
     obtain ⟨⟨N,Z⟩,hq⟩:∃ q,zak (s.data.toList.drop (a+h.size)) B=q:=⟨_,rfl⟩
     rw [hq] at hnum
     obtain ⟨hb2,hb16⟩:=hbi
     have HD:=hd_ (fun W (hW:ScB W b s ((a+h.size:Nat):Int))=>zdD hq hs hfit hb2 hb16 W hW)
     have HNUM:=hd_ hnum
     have hle:=zaI (s.data.toList.drop (a+h.size)) B
     rw [hq,List.length_drop,show s.data.toList.length=s.size from rfl] at hle
     have HLE:Hid (Z≤s.size - (a+h.size)):=hd_ hle
     have HS:=fun nd=>hd_ ((HX0.out.drewN nd).set ((a:Int)+h.size))
     have HO:=fun nd=>hd_ (((Only.ofBelow HB0.out).drewN nd:Only b w (W0.drewN nd)).setCell 1 (.int .i64 ((a:Int)+h.size)))
     have HSS:=hd_ HS
     have HOO:=hd_ HO
     clear hnum hB hq HS HO hle
     go_wp2
     go_quiet (fail)
     go_wp2_with (fail)
     rw [HIG.out]
     refine (HD.out _ (ScB.alloc (by rw [show ((a+h.size:Nat):Int)=(a:Int)+h.size by omega];exact (HSS.out _).out) _)).mono ?_
     rintro e w5 ⟨rfl,hx5,ho5⟩
     have H5:=hd_ (And.intro hx5 (((HOO.out _).out.alloc _).trans ho5))
     clear hx5 ho5
     by_cases hZ:Z=0
     ·have z1:(Z != 0)=false:=by simp [hZ]
      have HZ:=hd_ hZ
      clear hZ
      go_wp2
      refine bodyPost_ret (v:=.tuple #[.int .i64 0,.int .i64 0]) (by simp [results,Tryz.results106,go_sem]) rfl ?_
      have hr2:r=(0,0,120):=by rw [HNUM.out,if_pos HZ.out]
      subst hr2
      exact ⟨fun k=>absurd k (by decide),fun _=>rfl,H5.out.2,a+h.size+Z,by rw [HZ.out];exact hfit,H5.out.1⟩
     ·have z1:(Z != 0)=true:=by simp [hZ]
      have HZ:=hd_ hZ
      clear hZ
      go_wp2
      refine bodyPost_ret (v:=.tuple #[.int .i64 N,.int .i64 2]) (by simp [results,Tryz.results106,go_sem]) rfl ?_
      have hr2:r=(N,h.size+Z,0):=by rw [HNUM.out,if_neg HZ.out]
      subst hr2
      refine ⟨fun _=>⟨2,.inr rfl,rfl,?_⟩,fun k=>absurd rfl k,H5.out.2,a+h.size+Z,?_,H5.out.1⟩
      ·have h1:=H5.out.1
       rw [Nat.add_assoc] at h1
       exact h1
      ·have h2:=HLE.out
       omega
   ·have f1:¬ (a:Int)+h.size≤s.size:=by omega
    have f2:decide ((a:Int)+h.size≤s.size)=false:=by simp;omega
    have hno:Lib.hasPrefix (s.data.toList.drop a) (HB i)=false:=zgu (by rw [← HM.out];exact hfit) ha
    have HNO:=hd_ hno
    clear hno hh
    go_wp2
    go_quiet (fail)
    go_wp2
    go_roundw
    case rel=>
     refine ⟨i+1,by omega,by go_num,hd_ (fun j hj=>?_),_,rfl⟩
     rcases Nat.lt_or_ge j i with h1 | h1
     ·exact HN.out j h1
     ·rw [show j=i by omega];exact HNO.out
    case measure=>simp [intOf];omega
  ·have h3:i=3:=by omega
   have hnum:=zgn (HN.out 0 (by omega)) (HN.out 1 (by omega)) (HN.out 2 (by omega))
   rw [HR.out] at hnum
   obtain ⟨⟨N,Z⟩,hq⟩:∃ q,zak (s.data.toList.drop a) 10=q:=⟨_,rfl⟩
   rw [hq] at hnum
   have hle:=zaI (s.data.toList.drop a) 10
   rw [hq,List.length_drop,show s.data.toList.length=s.size from rfl] at hle
   have HLE:Hid (Z≤s.size - a):=hd_ hle
   have HD:=hd_ (fun W (hW:ScB W b s (a:Int))=>zdD hq hs ha (by omega) (by omega) W hW)
   have HNUM:=hd_ hnum
   have i1:¬ (i:Int) < 3:=by omega
   clear hnum hq hle h3 HN
   by_cases hZ:Z=0
   ·have z1:(Z != 0)=false:=by simp [hZ]
    have HZ:=hd_ hZ
    clear hZ
    go_wp2_with (go_at_call 125;refine (HD.out _ (HX0.out.drewN _)).mono ?_;rintro e w5 ⟨rfl,hx5,ho5⟩;have H5:=hd_ (And.intro hx5 (((Only.ofBelow HB0.out).drewN _).trans ho5));clear hx5 ho5)
    refine bodyPost_ret (v:=.tuple #[.int .i64 0,.int .i64 0]) (by simp [results,Tryz.results106,go_sem]) rfl ?_
    have hr2:r=(0,0,120):=by rw [HNUM.out,if_pos HZ.out]
    subst hr2
    exact ⟨fun k=>absurd k (by decide),fun _=>rfl,H5.out.2,a+Z,by rw [HZ.out];exact ha,H5.out.1⟩
   ·have z1:(Z != 0)=true:=by simp [hZ]
    have HZ:=hd_ hZ
    clear hZ
    go_wp2_with (go_at_call 125;refine (HD.out _ (HX0.out.drewN _)).mono ?_;rintro e w5 ⟨rfl,hx5,ho5⟩;have H5:=hd_ (And.intro hx5 (((Only.ofBelow HB0.out).drewN _).trans ho5));clear hx5 ho5)
    refine bodyPost_ret (v:=.tuple #[.int .i64 N,.int .i64 1]) (by simp [results,Tryz.results106,go_sem]) rfl ?_
    have hr2:r=(N,Z,0):=by rw [HNUM.out,if_neg HZ.out]
    subst hr2
    refine ⟨fun _=>⟨1,.inl rfl,rfl,H5.out.1⟩,fun k=>absurd rfl k,H5.out.2,a+Z,?_,H5.out.1⟩
    have h2:=HLE.out
    omega
def rLo:Nat→Int
 | 1=>0
 | 2=>-128
 | 3=>-32768
 | 4=>-2147483648
 | 5=>0
 | 6=>0
 | 7=>0
 | 8=>0
 | 9=>0
 | 10=>0
 | 11=>-2147483648
 | _=>0
def rHi:Nat→Int
 | 1=>1
 | 2=>127
 | 3=>32767
 | 4=>2147483647
 | 5=>255
 | 6=>65535
 | 7=>4294967295
 | 8=>255
 | 9=>65535
 | 10=>4294967295
 | 11=>2147483647
 | _=>0
theorem zfE (k:Nat) (h1:1≤k) (h2:k≤11) (n:Int):(n=zaW k n)↔¬ (n < rLo k∨rHi k < n):=by
 have h:k=1∨k=2∨k=3∨k=4∨k=5∨k=6∨k=7∨k=8∨k=9∨k=10∨k=11:=by omega
 rcases h with rfl | rfl | rfl | rfl | rfl | rfl | rfl | rfl | rfl | rfl | rfl
 all_goals
  simp [zaW,rLo,rHi,IntKind.wrap,IntKind.bits,IntKind.signed]
  omega
theorem zem (w:World):Calls Tryz.prog 88 #[.int .i64 1] w fun e w'=>e=.returned (.bool (zag 1))∧w=w':=by
 go_enter Tryz.func88,Tryz.ntmps88
 go_wp2
 go_ret
 exact ⟨rfl,rfl⟩
theorem zj5 (w:World):Calls Tryz.prog 58 #[.int .i64 1] w fun e w'=>e=.returned (.bool true)∧w=w':=by
 go_enter Tryz.func58,Tryz.ntmps58
 go_wp2
 go_ret
 exact ⟨rfl,rfl⟩
theorem zdF (w:World):Calls Tryz.prog 60 #[.int .i64 1] w fun e w'=>e=.returned (.int .i64 1)∧Below w.heap.size w w':=by
 go_enter Tryz.func60,Tryz.ntmps60
 go_wp2_with (go_at_call 58;refine (zj5 _).mono ?_;rintro e w1 ⟨rfl,rfl⟩)
 go_ret
 exact ⟨rfl,br_.alloc nl_ _⟩
theorem zdE (w:World):Calls Tryz.prog 57 #[.int .i64 1] w fun e w'=>e=.returned (.tuple #[.int .i64 (rLo 1),.int .i64 (rHi 1)])∧Below w.heap.size w w':=by
 go_enter Tryz.func57,Tryz.ntmps57
 go_wp2_with (first | (go_at_call 60;refine (zdF _).mono ?_;rintro e w1 ⟨rfl,hb1⟩) | (go_at_call 88;refine (zem _).mono ?_;rintro e w2 ⟨rfl,rfl⟩;simp only [zag]))
 go_quiet (fail)
 go_wp2
 refine bodyPost_ret (v:=.tuple #[.int .i64 (0),.int .i64 1]) (by simp [results,Tryz.results57,go_sem]) rfl ⟨rfl,hb1.drewN _⟩
theorem zgD (w:World):Calls Tryz.prog 88 #[.int .i64 2] w fun e w'=>e=.returned (.bool (zag 2))∧w=w':=by
 go_enter Tryz.func88,Tryz.ntmps88
 go_wp2
 go_ret
 exact ⟨rfl,rfl⟩
theorem zj6 (w:World):Calls Tryz.prog 58 #[.int .i64 2] w fun e w'=>e=.returned (.bool true)∧w=w':=by
 go_enter Tryz.func58,Tryz.ntmps58
 go_wp2
 go_ret
 exact ⟨rfl,rfl⟩
theorem zdG (w:World):Calls Tryz.prog 60 #[.int .i64 2] w fun e w'=>e=.returned (.int .i64 8)∧Below w.heap.size w w':=by
 go_enter Tryz.func60,Tryz.ntmps60
 go_wp2_with (go_at_call 58;refine (zj6 _).mono ?_;rintro e w1 ⟨rfl,rfl⟩)
 go_ret
 exact ⟨rfl,br_.alloc nl_ _⟩
theorem zfI (w:World):Calls Tryz.prog 57 #[.int .i64 2] w fun e w'=>e=.returned (.tuple #[.int .i64 (rLo 2),.int .i64 (rHi 2)])∧Below w.heap.size w w':=by
 go_enter Tryz.func57,Tryz.ntmps57
 go_wp2_with (first | (go_at_call 60;refine (zdG _).mono ?_;rintro e w1 ⟨rfl,hb1⟩) | (go_at_call 88;refine (zgD _).mono ?_;rintro e w2 ⟨rfl,rfl⟩;simp only [zag]))
 go_quiet (fail)
 go_wp2
 refine bodyPost_ret (v:=.tuple #[.int .i64 (-128),.int .i64 127]) (by simp [results,Tryz.results57,go_sem]) rfl ⟨rfl,hb1.drewN _⟩
theorem zgE (w:World):Calls Tryz.prog 88 #[.int .i64 3] w fun e w'=>e=.returned (.bool (zag 3))∧w=w':=by
 go_enter Tryz.func88,Tryz.ntmps88
 go_wp2
 go_ret
 exact ⟨rfl,rfl⟩
theorem zj7 (w:World):Calls Tryz.prog 58 #[.int .i64 3] w fun e w'=>e=.returned (.bool true)∧w=w':=by
 go_enter Tryz.func58,Tryz.ntmps58
 go_wp2
 go_ret
 exact ⟨rfl,rfl⟩
theorem zdH (w:World):Calls Tryz.prog 60 #[.int .i64 3] w fun e w'=>e=.returned (.int .i64 16)∧Below w.heap.size w w':=by
 go_enter Tryz.func60,Tryz.ntmps60
 go_wp2_with (go_at_call 58;refine (zj7 _).mono ?_;rintro e w1 ⟨rfl,rfl⟩)
 go_ret
 exact ⟨rfl,br_.alloc nl_ _⟩
theorem zfJ (w:World):Calls Tryz.prog 57 #[.int .i64 3] w fun e w'=>e=.returned (.tuple #[.int .i64 (rLo 3),.int .i64 (rHi 3)])∧Below w.heap.size w w':=by
 go_enter Tryz.func57,Tryz.ntmps57
 go_wp2_with (first | (go_at_call 60;refine (zdH _).mono ?_;rintro e w1 ⟨rfl,hb1⟩) | (go_at_call 88;refine (zgE _).mono ?_;rintro e w2 ⟨rfl,rfl⟩;simp only [zag]))
 go_quiet (fail)
 go_wp2
 refine bodyPost_ret (v:=.tuple #[.int .i64 (-32768),.int .i64 32767]) (by simp [results,Tryz.results57,go_sem]) rfl ⟨rfl,hb1.drewN _⟩
theorem zgF (w:World):Calls Tryz.prog 88 #[.int .i64 4] w fun e w'=>e=.returned (.bool (zag 4))∧w=w':=by
 go_enter Tryz.func88,Tryz.ntmps88
 go_wp2
 go_ret
 exact ⟨rfl,rfl⟩
theorem zj8 (w:World):Calls Tryz.prog 58 #[.int .i64 4] w fun e w'=>e=.returned (.bool true)∧w=w':=by
 go_enter Tryz.func58,Tryz.ntmps58
 go_wp2
 go_ret
 exact ⟨rfl,rfl⟩
theorem zdI (w:World):Calls Tryz.prog 60 #[.int .i64 4] w fun e w'=>e=.returned (.int .i64 32)∧Below w.heap.size w w':=by
 go_enter Tryz.func60,Tryz.ntmps60
 go_wp2_with (go_at_call 58;refine (zj8 _).mono ?_;rintro e w1 ⟨rfl,rfl⟩)
 go_ret
 exact ⟨rfl,br_.alloc nl_ _⟩
theorem zfK (w:World):Calls Tryz.prog 57 #[.int .i64 4] w fun e w'=>e=.returned (.tuple #[.int .i64 (rLo 4),.int .i64 (rHi 4)])∧Below w.heap.size w w':=by
 go_enter Tryz.func57,Tryz.ntmps57
 go_wp2_with (first | (go_at_call 60;refine (zdI _).mono ?_;rintro e w1 ⟨rfl,hb1⟩) | (go_at_call 88;refine (zgF _).mono ?_;rintro e w2 ⟨rfl,rfl⟩;simp only [zag]))
 go_quiet (fail)
 go_wp2
 refine bodyPost_ret (v:=.tuple #[.int .i64 (-2147483648),.int .i64 2147483647]) (by simp [results,Tryz.results57,go_sem]) rfl ⟨rfl,hb1.drewN _⟩
theorem zgG (w:World):Calls Tryz.prog 88 #[.int .i64 5] w fun e w'=>e=.returned (.bool (zag 5))∧w=w':=by
 go_enter Tryz.func88,Tryz.ntmps88
 go_wp2
 go_ret
 exact ⟨rfl,rfl⟩
theorem zj9 (w:World):Calls Tryz.prog 58 #[.int .i64 5] w fun e w'=>e=.returned (.bool true)∧w=w':=by
 go_enter Tryz.func58,Tryz.ntmps58
 go_wp2
 go_ret
 exact ⟨rfl,rfl⟩
theorem zdJ (w:World):Calls Tryz.prog 60 #[.int .i64 5] w fun e w'=>e=.returned (.int .i64 8)∧Below w.heap.size w w':=by
 go_enter Tryz.func60,Tryz.ntmps60
 go_wp2_with (go_at_call 58;refine (zj9 _).mono ?_;rintro e w1 ⟨rfl,rfl⟩)
 go_ret
 exact ⟨rfl,br_.alloc nl_ _⟩
theorem zfL (w:World):Calls Tryz.prog 57 #[.int .i64 5] w fun e w'=>e=.returned (.tuple #[.int .i64 (rLo 5),.int .i64 (rHi 5)])∧Below w.heap.size w w':=by
 go_enter Tryz.func57,Tryz.ntmps57
 go_wp2_with (first | (go_at_call 60;refine (zdJ _).mono ?_;rintro e w1 ⟨rfl,hb1⟩) | (go_at_call 88;refine (zgG _).mono ?_;rintro e w2 ⟨rfl,rfl⟩;simp only [zag]))
 go_quiet (fail)
 go_wp2
 refine bodyPost_ret (v:=.tuple #[.int .i64 (0),.int .i64 255]) (by simp [results,Tryz.results57,go_sem]) rfl ⟨rfl,hb1.drewN _⟩
theorem zgH (w:World):Calls Tryz.prog 88 #[.int .i64 6] w fun e w'=>e=.returned (.bool (zag 6))∧w=w':=by
 go_enter Tryz.func88,Tryz.ntmps88
 go_wp2
 go_ret
 exact ⟨rfl,rfl⟩
theorem zka (w:World):Calls Tryz.prog 58 #[.int .i64 6] w fun e w'=>e=.returned (.bool true)∧w=w':=by
 go_enter Tryz.func58,Tryz.ntmps58
 go_wp2
 go_ret
 exact ⟨rfl,rfl⟩
theorem zdK (w:World):Calls Tryz.prog 60 #[.int .i64 6] w fun e w'=>e=.returned (.int .i64 16)∧Below w.heap.size w w':=by
 go_enter Tryz.func60,Tryz.ntmps60
 go_wp2_with (go_at_call 58;refine (zka _).mono ?_;rintro e w1 ⟨rfl,rfl⟩)
 go_ret
 exact ⟨rfl,br_.alloc nl_ _⟩
theorem zfM (w:World):Calls Tryz.prog 57 #[.int .i64 6] w fun e w'=>e=.returned (.tuple #[.int .i64 (rLo 6),.int .i64 (rHi 6)])∧Below w.heap.size w w':=by
 go_enter Tryz.func57,Tryz.ntmps57
 go_wp2_with (first | (go_at_call 60;refine (zdK _).mono ?_;rintro e w1 ⟨rfl,hb1⟩) | (go_at_call 88;refine (zgH _).mono ?_;rintro e w2 ⟨rfl,rfl⟩;simp only [zag]))
 go_quiet (fail)
 go_wp2
 refine bodyPost_ret (v:=.tuple #[.int .i64 (0),.int .i64 65535]) (by simp [results,Tryz.results57,go_sem]) rfl ⟨rfl,hb1.drewN _⟩
theorem zgI (w:World):Calls Tryz.prog 88 #[.int .i64 7] w fun e w'=>e=.returned (.bool (zag 7))∧w=w':=by
 go_enter Tryz.func88,Tryz.ntmps88
 go_wp2
 go_ret
 exact ⟨rfl,rfl⟩
theorem zkb (w:World):Calls Tryz.prog 58 #[.int .i64 7] w fun e w'=>e=.returned (.bool true)∧w=w':=by
 go_enter Tryz.func58,Tryz.ntmps58
 go_wp2
 go_ret
 exact ⟨rfl,rfl⟩
theorem zdL (w:World):Calls Tryz.prog 60 #[.int .i64 7] w fun e w'=>e=.returned (.int .i64 32)∧Below w.heap.size w w':=by
 go_enter Tryz.func60,Tryz.ntmps60
 go_wp2_with (go_at_call 58;refine (zkb _).mono ?_;rintro e w1 ⟨rfl,rfl⟩)
 go_ret
 exact ⟨rfl,br_.alloc nl_ _⟩
theorem zfN (w:World):Calls Tryz.prog 57 #[.int .i64 7] w fun e w'=>e=.returned (.tuple #[.int .i64 (rLo 7),.int .i64 (rHi 7)])∧Below w.heap.size w w':=by
 go_enter Tryz.func57,Tryz.ntmps57
 go_wp2_with (first | (go_at_call 60;refine (zdL _).mono ?_;rintro e w1 ⟨rfl,hb1⟩) | (go_at_call 88;refine (zgI _).mono ?_;rintro e w2 ⟨rfl,rfl⟩;simp only [zag]))
 go_quiet (fail)
 go_wp2
 refine bodyPost_ret (v:=.tuple #[.int .i64 (0),.int .i64 4294967295]) (by simp [results,Tryz.results57,go_sem]) rfl ⟨rfl,hb1.drewN _⟩
theorem zgJ (w:World):Calls Tryz.prog 88 #[.int .i64 8] w fun e w'=>e=.returned (.bool (zag 8))∧w=w':=by
 go_enter Tryz.func88,Tryz.ntmps88
 go_wp2
 go_ret
 exact ⟨rfl,rfl⟩
theorem zkc (w:World):Calls Tryz.prog 58 #[.int .i64 8] w fun e w'=>e=.returned (.bool true)∧w=w':=by
 go_enter Tryz.func58,Tryz.ntmps58
 go_wp2
 go_ret
 exact ⟨rfl,rfl⟩
theorem zdM (w:World):Calls Tryz.prog 60 #[.int .i64 8] w fun e w'=>e=.returned (.int .i64 8)∧Below w.heap.size w w':=by
 go_enter Tryz.func60,Tryz.ntmps60
 go_wp2_with (go_at_call 58;refine (zkc _).mono ?_;rintro e w1 ⟨rfl,rfl⟩)
 go_ret
 exact ⟨rfl,br_.alloc nl_ _⟩
theorem zfO (w:World):Calls Tryz.prog 57 #[.int .i64 8] w fun e w'=>e=.returned (.tuple #[.int .i64 (rLo 8),.int .i64 (rHi 8)])∧Below w.heap.size w w':=by
 go_enter Tryz.func57,Tryz.ntmps57
 go_wp2_with (first | (go_at_call 60;refine (zdM _).mono ?_;rintro e w1 ⟨rfl,hb1⟩) | (go_at_call 88;refine (zgJ _).mono ?_;rintro e w2 ⟨rfl,rfl⟩;simp only [zag]))
 go_quiet (fail)
 go_wp2
 refine bodyPost_ret (v:=.tuple #[.int .i64 (0),.int .i64 255]) (by simp [results,Tryz.results57,go_sem]) rfl ⟨rfl,hb1.drewN _⟩
theorem zgK (w:World):Calls Tryz.prog 88 #[.int .i64 9] w fun e w'=>e=.returned (.bool (zag 9))∧w=w':=by
 go_enter Tryz.func88,Tryz.ntmps88
 go_wp2
 go_ret
 exact ⟨rfl,rfl⟩
theorem zkd (w:World):Calls Tryz.prog 58 #[.int .i64 9] w fun e w'=>e=.returned (.bool true)∧w=w':=by
 go_enter Tryz.func58,Tryz.ntmps58
 go_wp2
 go_ret
 exact ⟨rfl,rfl⟩
theorem zdN (w:World):Calls Tryz.prog 60 #[.int .i64 9] w fun e w'=>e=.returned (.int .i64 16)∧Below w.heap.size w w':=by
 go_enter Tryz.func60,Tryz.ntmps60
 go_wp2_with (go_at_call 58;refine (zkd _).mono ?_;rintro e w1 ⟨rfl,rfl⟩)
 go_ret
 exact ⟨rfl,br_.alloc nl_ _⟩
theorem zfP (w:World):Calls Tryz.prog 57 #[.int .i64 9] w fun e w'=>e=.returned (.tuple #[.int .i64 (rLo 9),.int .i64 (rHi 9)])∧Below w.heap.size w w':=by
 go_enter Tryz.func57,Tryz.ntmps57
 go_wp2_with (first | (go_at_call 60;refine (zdN _).mono ?_;rintro e w1 ⟨rfl,hb1⟩) | (go_at_call 88;refine (zgK _).mono ?_;rintro e w2 ⟨rfl,rfl⟩;simp only [zag]))
 go_quiet (fail)
 go_wp2
 refine bodyPost_ret (v:=.tuple #[.int .i64 (0),.int .i64 65535]) (by simp [results,Tryz.results57,go_sem]) rfl ⟨rfl,hb1.drewN _⟩
theorem ze2 (w:World):Calls Tryz.prog 88 #[.int .i64 10] w fun e w'=>e=.returned (.bool (zag 10))∧w=w':=by
 go_enter Tryz.func88,Tryz.ntmps88
 go_wp2
 go_ret
 exact ⟨rfl,rfl⟩
theorem ziZ (w:World):Calls Tryz.prog 58 #[.int .i64 10] w fun e w'=>e=.returned (.bool true)∧w=w':=by
 go_enter Tryz.func58,Tryz.ntmps58
 go_wp2
 go_ret
 exact ⟨rfl,rfl⟩
theorem zcQ (w:World):Calls Tryz.prog 60 #[.int .i64 10] w fun e w'=>e=.returned (.int .i64 32)∧Below w.heap.size w w':=by
 go_enter Tryz.func60,Tryz.ntmps60
 go_wp2_with (go_at_call 58;refine (ziZ _).mono ?_;rintro e w1 ⟨rfl,rfl⟩)
 go_ret
 exact ⟨rfl,br_.alloc nl_ _⟩
theorem zej (w:World):Calls Tryz.prog 57 #[.int .i64 10] w fun e w'=>e=.returned (.tuple #[.int .i64 (rLo 10),.int .i64 (rHi 10)])∧Below w.heap.size w w':=by
 go_enter Tryz.func57,Tryz.ntmps57
 go_wp2_with (first | (go_at_call 60;refine (zcQ _).mono ?_;rintro e w1 ⟨rfl,hb1⟩) | (go_at_call 88;refine (ze2 _).mono ?_;rintro e w2 ⟨rfl,rfl⟩;simp only [zag]))
 go_quiet (fail)
 go_wp2
 refine bodyPost_ret (v:=.tuple #[.int .i64 (0),.int .i64 4294967295]) (by simp [results,Tryz.results57,go_sem]) rfl ⟨rfl,hb1.drewN _⟩
theorem ze3 (w:World):Calls Tryz.prog 88 #[.int .i64 11] w fun e w'=>e=.returned (.bool (zag 11))∧w=w':=by
 go_enter Tryz.func88,Tryz.ntmps88
 go_wp2
 go_ret
 exact ⟨rfl,rfl⟩
theorem zi0 (w:World):Calls Tryz.prog 58 #[.int .i64 11] w fun e w'=>e=.returned (.bool true)∧w=w':=by
 go_enter Tryz.func58,Tryz.ntmps58
 go_wp2
 go_ret
 exact ⟨rfl,rfl⟩
theorem zcR (w:World):Calls Tryz.prog 60 #[.int .i64 11] w fun e w'=>e=.returned (.int .i64 32)∧Below w.heap.size w w':=by
 go_enter Tryz.func60,Tryz.ntmps60
 go_wp2_with (go_at_call 58;refine (zi0 _).mono ?_;rintro e w1 ⟨rfl,rfl⟩)
 go_ret
 exact ⟨rfl,br_.alloc nl_ _⟩
theorem zek (w:World):Calls Tryz.prog 57 #[.int .i64 11] w fun e w'=>e=.returned (.tuple #[.int .i64 (rLo 11),.int .i64 (rHi 11)])∧Below w.heap.size w w':=by
 go_enter Tryz.func57,Tryz.ntmps57
 go_wp2_with (first | (go_at_call 60;refine (zcR _).mono ?_;rintro e w1 ⟨rfl,hb1⟩) | (go_at_call 88;refine (ze3 _).mono ?_;rintro e w2 ⟨rfl,rfl⟩;simp only [zag]))
 go_quiet (fail)
 go_wp2
 refine bodyPost_ret (v:=.tuple #[.int .i64 (-2147483648),.int .i64 2147483647]) (by simp [results,Tryz.results57,go_sem]) rfl ⟨rfl,hb1.drewN _⟩
theorem ze4 (k:Nat) (h1:1≤k) (h2:k≤11) (w:World):Calls Tryz.prog 88 #[.int .i64 k] w fun e w'=>e=.returned (.bool (zag k))∧w=w':=by
 have h:k=1∨k=2∨k=3∨k=4∨k=5∨k=6∨k=7∨k=8∨k=9∨k=10∨k=11:=by omega
 rcases h with rfl | rfl | rfl | rfl | rfl | rfl | rfl | rfl | rfl | rfl | rfl
 ·exact zem w
 ·exact zgD w
 ·exact zgE w
 ·exact zgF w
 ·exact zgG w
 ·exact zgH w
 ·exact zgI w
 ·exact zgJ w
 ·exact zgK w
 ·exact ze2 w
 ·exact ze3 w
theorem zke (k:Nat) (h1:1≤k) (h2:k≤11) (w:World):Calls Tryz.prog 60 #[.int .i64 k] w fun e w'=>e=.returned (.int .i64 (zaq k))∧Below w.heap.size w w':=by
 have h:k=1∨k=2∨k=3∨k=4∨k=5∨k=6∨k=7∨k=8∨k=9∨k=10∨k=11:=by omega
 rcases h with rfl | rfl | rfl | rfl | rfl | rfl | rfl | rfl | rfl | rfl | rfl
 ·exact zdF w
 ·exact zdG w
 ·exact zdH w
 ·exact zdI w
 ·exact zdJ w
 ·exact zdK w
 ·exact zdL w
 ·exact zdM w
 ·exact zdN w
 ·exact zcQ w
 ·exact zcR w
theorem zel (k:Nat) (h1:1≤k) (h2:k≤11) (w:World):Calls Tryz.prog 57 #[.int .i64 k] w fun e w'=>e=.returned (.tuple #[.int .i64 (rLo k),.int .i64 (rHi k)])∧Below w.heap.size w w':=by
 have h:k=1∨k=2∨k=3∨k=4∨k=5∨k=6∨k=7∨k=8∨k=9∨k=10∨k=11:=by omega
 rcases h with rfl | rfl | rfl | rfl | rfl | rfl | rfl | rfl | rfl | rfl | rfl
 ·exact zdE w
 ·exact zfI w
 ·exact zfJ w
 ·exact zfK w
 ·exact zfL w
 ·exact zfM w
 ·exact zfN w
 ·exact zfO w
 ·exact zfP w
 ·exact zej w
 ·exact zek w
end Go.Proofs.YtdpkjpjkdmkkpaaGreatDoor
