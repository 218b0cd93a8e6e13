/- The walk through the reference lexer's time. -/
import Derived.Test.YtdpkjpjkdmkkpaaGreatDoorMF
set_option maxRecDepth 100000
set_option maxHeartbeats 16000000
namespace Go.Proofs.YtdpkjpjkdmkkpaaGreatDoor
open Ad Go.RowKit Lx
def zeZ (l:List UInt8) (a:Nat):Nat × Int × Bool:=
 if (cAt l a).toNat=45 then ((zaM l 6 (a+1) 0 (-1) false).1,IntKind.i64.wrap (-(zaM l 6 (a+1) 0 (-1) false).2.1),(zaM l 6 (a+1) 0 (-1) false).2.2)
 else zaM l 6 a 0 (-1) false
theorem zj2 (l:List UInt8) (a:Nat):zbt l a=zcc (zeZ l a) (zeZ l a).2.1:=by
 unfold zbt zeZ
 split <;> rfl
theorem zmd (j:Nat) (hj:j < 5) (W:World):(W.alloc (.cells #[.int .i64 86400000,.int .i64 3600000,.int .i64 60000,.int .i64 1000,.int .i64 1] 2)).cell? ⟨W.heap.size,j,none⟩=some (.int .i64 (ze9 j)):=by
 have h:j=0∨j=1∨j=2∨j=3∨j=4:=by omega
 rcases h with rfl | rfl | rfl | rfl | rfl <;> exact (World.cell?_alloc_at _ _ _ _ rfl)
theorem zik {s:ByteArray} {q b:Nat} {u u':UInt8} (hu:cAt s.data.toList q=u) (hu':cAt s.data.toList (q+1)=u') (hs:s.size≤4294967000) (hq:q≤s.size) (k:Int) (hk:k=0∨k=1) (w:World) (hx:ScB w b s (q:Int)) :
  Calls Tryz.prog 79 #[.pointer (some ⟨b,0,none⟩),.int .i64 k] w fun e w'=>e=.returned (.int .u8 (if k=0 then u else u').toNat)∧∃ n,w'=w.drewN n:=by
 rcases hk with rfl | rfl
 ·have h:=zb0 (i:=0) hs hq (by omega) w hx
  rw [Nat.add_zero,hu] at h
  rw [if_pos rfl]
  exact h
 ·have h:=zb0 (i:=1) hs hq (by omega) w hx
  rw [hu'] at h
  rw [if_neg (by decide)]
  exact h
structure RRel (p:Prop):Prop where
 it:p
theorem zew {c c':Nat} {U:Int} (h:U=(if c=100 then 0 else if c=104 then 1 else if c=109∧c'=115 then 4 else if c=109 then 2 else if c=115 then 3 else -1)) :
  (c=100∧U=0)∨(c=104∧U=1)∨(c=109∧c'=115∧U=4)∨(c=109∧c'≠115∧U=2)∨(c=115∧U=3)∨(c≠100∧c≠104∧c≠109∧c≠115∧U=-1):=by
 by_cases h1:c=100
 ·rw [if_pos h1] at h;omega
 ·rw [if_neg h1] at h
  by_cases h2:c=104
  ·rw [if_pos h2] at h;omega
  ·rw [if_neg h2] at h
   by_cases h3:c=109∧c'=115
   ·rw [if_pos h3] at h;omega
   ·rw [if_neg h3] at h
    by_cases h4:c=109
    ·rw [if_pos h4] at h;omega
    ·rw [if_neg h4] at h
     by_cases h5:c=115
     ·rw [if_pos h5] at h;omega
     ·rw [if_neg h5] at h;omega
theorem zni (j:Nat) (hj:j < 5):∀ h:j < ([Value.int .i64 86400000,Value.int .i64 3600000,Value.int .i64 60000,Value.int .i64 1000,Value.int .i64 1]:List Value).length,([Value.int .i64 86400000,Value.int .i64 3600000,Value.int .i64 60000,Value.int .i64 1000,Value.int .i64 1]:List Value)[j]'h=.int .i64 (ze9 j):=by
 have h:j=0∨j=1∨j=2∨j=3∨j=4:=by omega
 rcases h with rfl | rfl | rfl | rfl | rfl <;> exact fun _=>rfl
theorem ziX {l:List UInt8} {f p:Nat} {n last:Int} {sm:Bool} (hd:dig (cAt l p)=false):zaM l f p n last sm=(p,n,sm):=by
 cases f with
 | zero=>rfl
 | succ f=>rw [zaM,if_neg (by rw [hd];simp)]
theorem zhA {l:List UInt8} {f p Zd:Nat} {n last D U:Int} {sm:Bool} (hd:dig (cAt l p)=true) (hg:zak (l.drop p) 10=(D,Zd)) (hu:zcj l (p+Zd)=U) (hl:U≤last):zaM l (f+1) p n last sm=(p,n,sm):=by
 rw [zaM,if_pos hd,hg]
 dsimp only
 rw [hu,if_pos hl]
theorem zj3 {l:List UInt8} {f p Zd:Nat} {n last D U:Int} {sm:Bool} (hd:dig (cAt l p)=true) (hg:zak (l.drop p) 10=(D,Zd)) (hu:zcj l (p+Zd)=U) (hl:¬ U≤last):zaM l (f+1) p n last sm=zaM l f (p+Zd+(if U=4 then 2 else 1)) (zgz n D U) U true:=by
 rw [zaM,if_pos hd,hg]
 dsimp only
 rw [hu,if_neg hl]
theorem zji {s:ByteArray} {p:Nat} (h:(cAt s.data.toList p).toNat≠0):p < s.size:=by
 rcases Nat.lt_or_ge p s.size with h1 | h1
 ·exact h1
 ·rw [zcD h1] at h;exact absurd rfl h
theorem zla {s:ByteArray} {a b Z:Nat} {N:Int} {B:Bool} (hr:zeZ s.data.toList a=(Z,N,B)) (hs:s.size≤4294967000) (ha:a≤s.size) (w:World) (hx:ScB w b s a) :
  Calls Tryz.prog 124 #[.pointer (some ⟨b,0,none⟩)] w fun e w'=>e=.returned (.tuple #[.int .i64 N,.bool B])∧ScB w' b s (Z:Int)∧Only b w w'∧Z≤s.size:=by
 obtain ⟨c00,hc00⟩:∃ c,cAt s.data.toList a=c:=⟨_,rfl⟩
 obtain ⟨mi,hmi⟩:∃ mi,decide (c00.toNat=45)=mi:=⟨_,rfl⟩
 obtain ⟨a0,ha0⟩:∃ a0,(if mi=true then a+1 else a)=a0:=⟨_,rfl⟩
 obtain ⟨⟨Z0,N0,B0⟩,ht⟩:∃ t,zaM s.data.toList 6 a0 0 (-1) false=t:=⟨_,rfl⟩
 have hr2:(Z0,(if mi=true then IntKind.i64.wrap (-N0) else N0),B0)=(Z,N,B):=by
  rw [← hr]
  unfold zeZ
  rw [hc00]
  cases mi with
  | true=>
   rw [if_pos rfl] at ha0 ⊢
   rw [if_pos (of_decide_eq_true hmi),ha0,ht]
  | false=>
   rw [if_neg (by simp)] at ha0 ⊢
   rw [if_neg (of_decide_eq_false hmi),ha0,ht]
 injection hr2 with e1 e2
 injection e2 with e2 e3
 subst e1
 subst e3
 have HN:=hd_ e2
 have HR:=hd_ ht
 have HCA:=hd_ (zb0 hs ha (Nat.zero_le 1) w hx)
 rw [Nat.add_zero,hc00] at HCA
 obtain ⟨x00,x01,g00,g01⟩:=hx.cells
 have HX:=hd_ hx
 have hbl0:=hx.lt
 have HS:=hd_ hs
 have em:((c00.toNat:Int)==45)=mi:=by rw [← hmi,Bool.eq_iff_iff];simp;omega
 have HA1:Hid (a0≤s.size):=hd_ (by
  rw [← ha0]
  cases mi with
  | true=>
   have h0:=of_decide_eq_true hmi
   have:=zji (s:=s) (p:=a) (by rw [hc00,h0];decide)
   rw [if_pos rfl];omega
  | false=>rw [if_neg (by simp)];exact ha)
 have HA0:=hd_ ha0
 have q0:IntKind.i64.wrap ((a:Int)+1)=(a:Int)+1:=IntWalk.i64_in _ (by omega)
 clear hx hr e2 ht hmi ha0 hc00 ha
 go_enter Tryz.func124,Tryz.ntmps124
 go_upto_if 15 with (go_at_call 79;refine HCA.out.mono ?_;rintro e w1 ⟨rfl,nn,rfl⟩;try rw [em])
 go_cut [] from 16 (fun wx=>ScB wx b s (a0:Int)∧Only b w wx)
 case first=>
  cases mi
  ·go_wp2_with fail
   go_meet
   case rel=>exact ⟨by rw [← HA0.out];exact HX.out.drewN nn,(Only.refl _ _).drewN _⟩
  ·go_wp2_with fail
   go_meet
   case rel=>exact ⟨by rw [← HA0.out,show (((if True then a+1 else a:Nat)):Int)=(a:Int)+1 by simp];exact (HX.out.drewN nn).set _,((Only.refl _ _).drewN _).setCell 1 _⟩
 case rest=>
 clear HX HCA x00 x01 g00 g01 q0 em HA0
 obtain ⟨hx0,ho0⟩:=hcut
 have HX0:=hd_ hx0
 have HO0:=hd_ ho0
 clear hx0 ho0
 go_wp2
 go_loopw [5,6,7] (fun v5 v6 v7 wr=>RRel (∃ (f p:Nat) (n last:Int) (sm:Bool),v5=.int .i64 n∧v6=.int .i64 last∧v7=.bool sm∧-1≤last∧last≤4∧5 - last≤(f:Int)∧Hid (p≤s.size)∧Hid (zaM s.data.toList f p n last sm=(Z0,N0,B0))∧Hid (ScB wr b s (p:Int))∧Hid (Only b w wr))) (fun _ v6 _ _=>(5 - intOf v6).toNat)
 case atStart=>exact RRel.mk ⟨6,a0,0,-1,false,rfl,rfl,rfl,by omega,by omega,by omega,HA1,HR,HX0,HO0⟩
 case round=>
  clear HR HX0 HO0 HA1
  obtain ⟨f,p,n,last,sm,rfl,rfl,rfl,l0,l1,lf,HPS,HD,HX,HO⟩:=hrel.it
  clear hrel
  obtain ⟨WR,rfl⟩:∃ WR,WR=wr:=⟨_,rfl⟩
  have hc0:=fun W (hW:ScB W b s (p:Int))=>zb0 (i:=0) HS.out HPS.out (by omega) W hW
  obtain ⟨c,hc⟩:∃ c,cAt s.data.toList p=c:=⟨_,rfl⟩
  rw [Nat.add_zero,hc] at hc0
  have HCP:=hd_ hc0
  have HCC:=hd_ hc
  obtain ⟨x0,x1,g0,g1⟩:=HX.out.cells
  have hbl:=HX.out.lt
  clear hc0 hc
  by_cases hdg:dig c=true
  ·obtain ⟨f,rfl⟩:∃ g,f=g+1:=⟨f - 1,by omega⟩
   have HDG:=hd_ hdg
   clear hdg
   obtain ⟨⟨D,Zd⟩,hdd⟩:∃ q,zak (s.data.toList.drop p) 10=q:=⟨_,rfl⟩
   have hle:=zaI (s.data.toList.drop p) 10
   rw [hdd,List.length_drop,show s.data.toList.length=s.size from rfl] at hle
   have HDD:=hd_ hdd
   have HPQ:Hid (p+Zd≤s.size):=hd_ (by have:=HPS.out;simp only at hle;omega)
   have HDC:=hd_ (fun W (hW:ScB W b s (p:Int))=>zdD hdd HS.out HPS.out (by omega) (by omega) W hW)
   clear hdd hle
   obtain ⟨q,hq⟩:∃ q,p+Zd=q:=⟨_,rfl⟩
   rw [hq] at HPQ HDC
   have HQ:=hd_ hq
   clear hq
   obtain ⟨u,hu⟩:∃ c,cAt s.data.toList q=c:=⟨_,rfl⟩
   obtain ⟨u',hu'⟩:∃ c,cAt s.data.toList (q+1)=c:=⟨_,rfl⟩
   have HC2:=hd_ (fun k hk W (hW:ScB W b s (q:Int))=>zik hu hu' HS.out HPQ.out k hk W hW)
   have HU0:=hd_ hu
   have HU1:=hd_ hu'
   have hSZ:s.size≤4294967000:=HS.out
   have hqs:q≤s.size:=HPQ.out
   clear hu hu'
   obtain ⟨U,hU⟩:∃ U,zcj s.data.toList q=U:=⟨_,rfl⟩
   have HU:=hd_ hU
   have hUis:U=(if u.toNat=100 then 0 else if u.toNat=104 then 1 else if u.toNat=109∧u'.toNat=115 then 4 else if u.toNat=109 then 2 else if u.toNat=115 then 3 else -1):=by rw [← hU];unfold zcj;rw [HU0.out,HU1.out]
   have HUIS:=hd_ hUis
   clear hU hUis
   go_upto_region 8 with (first | (go_at_call 125;refine (HDC.out _ (by exact HX.out)).mono ?_;rintro e w5 ⟨rfl,hx5,ho5⟩;obtain ⟨y0,y1,k0,k1⟩:=hx5.cells;have hbl5:=hx5.lt;have H5:=hd_ (And.intro hx5 ((HO.out.drewN _).trans ho5));clear hx5 ho5) | (go_at_call 102;refine (zar _ _).mono ?_;rintro e w4 ⟨rfl,rfl⟩;rw [HDG.out]) | (go_at_call 79;refine (HCP.out _ (by exact HX.out)).mono ?_;rintro e w3 ⟨rfl,nn3,rfl⟩))
   iterate 8 go_step
   go_cut [11] from 23 to 93 (fun vu wx=>vu=.int .i64 U∧∃ nd,wx=w5.drewN nd)
   case first=>
    rcases zew HUIS.out with ⟨hu,hU2⟩ | ⟨hu,hU2⟩ | ⟨hu,hu2,hU2⟩ | ⟨hu,hu2,hU2⟩ | ⟨hu,hU2⟩ | ⟨hu,hu2,hu3,hu4,hU2⟩
    ·have HU2:=hd_ hU2
     clear hU2
     have e100:((u.toNat:Int)==100)=true:=by simp;omega
     clear hu
     go_wp2_with (go_at_call 79;refine (HC2.out _ (by decide) _ (by exact H5.out.1)).mono ?_;rintro e w6 ⟨rfl,nn6,rfl⟩;first | rw [if_pos rfl] | rw [if_neg (by decide)])
     go_meet
     exact ⟨by rw [HU2.out],by first | exact ⟨_,rfl⟩ | (rw [World.drewN_drewN];exact ⟨_,rfl⟩) | exact ⟨0,rfl⟩⟩
    ·have HU2:=hd_ hU2
     clear hU2
     have e100:((u.toNat:Int)==100)=false:=by simp;omega
     have e104:((u.toNat:Int)==104)=true:=by simp;omega
     clear hu
     go_wp2_with (go_at_call 79;refine (HC2.out _ (by decide) _ (by exact H5.out.1)).mono ?_;rintro e w6 ⟨rfl,nn6,rfl⟩;first | rw [if_pos rfl] | rw [if_neg (by decide)])
     go_meet
     exact ⟨by rw [HU2.out],by first | exact ⟨_,rfl⟩ | (rw [World.drewN_drewN];exact ⟨_,rfl⟩) | exact ⟨0,rfl⟩⟩
    ·have HU2:=hd_ hU2
     clear hU2
     have e100:((u.toNat:Int)==100)=false:=by simp;omega
     have e104:((u.toNat:Int)==104)=false:=by simp;omega
     have e109:((u.toNat:Int)==109)=true:=by simp;omega
     have e115':((u'.toNat:Int)==115)=true:=by simp;omega
     clear hu hu2
     go_wp2_with (go_at_call 79;refine (HC2.out _ (by decide) _ (by exact H5.out.1)).mono ?_;rintro e w6 ⟨rfl,nn6,rfl⟩;first | rw [if_pos rfl] | rw [if_neg (by decide)])
     go_meet
     exact ⟨by rw [HU2.out],by first | exact ⟨_,rfl⟩ | (rw [World.drewN_drewN];exact ⟨_,rfl⟩) | exact ⟨0,rfl⟩⟩
    ·have HU2:=hd_ hU2
     clear hU2
     have e100:((u.toNat:Int)==100)=false:=by simp;omega
     have e104:((u.toNat:Int)==104)=false:=by simp;omega
     have e109:((u.toNat:Int)==109)=true:=by simp;omega
     have e115':((u'.toNat:Int)==115)=false:=by simp;omega
     clear hu hu2
     go_wp2_with (go_at_call 79;refine (HC2.out _ (by decide) _ (by exact H5.out.1)).mono ?_;rintro e w6 ⟨rfl,nn6,rfl⟩;first | rw [if_pos rfl] | rw [if_neg (by decide)])
     go_meet
     exact ⟨by rw [HU2.out],by first | exact ⟨_,rfl⟩ | (rw [World.drewN_drewN];exact ⟨_,rfl⟩) | exact ⟨0,rfl⟩⟩
    ·have HU2:=hd_ hU2
     clear hU2
     have e100:((u.toNat:Int)==100)=false:=by simp;omega
     have e104:((u.toNat:Int)==104)=false:=by simp;omega
     have e109:((u.toNat:Int)==109)=false:=by simp;omega
     have e115:((u.toNat:Int)==115)=true:=by simp;omega
     clear hu
     go_wp2_with (go_at_call 79;refine (HC2.out _ (by decide) _ (by exact H5.out.1)).mono ?_;rintro e w6 ⟨rfl,nn6,rfl⟩;first | rw [if_pos rfl] | rw [if_neg (by decide)])
     go_meet
     exact ⟨by rw [HU2.out],by first | exact ⟨_,rfl⟩ | (rw [World.drewN_drewN];exact ⟨_,rfl⟩) | exact ⟨0,rfl⟩⟩
    ·have HU2:=hd_ hU2
     clear hU2
     have e100:((u.toNat:Int)==100)=false:=by simp;omega
     have e104:((u.toNat:Int)==104)=false:=by simp;omega
     have e109:((u.toNat:Int)==109)=false:=by simp;omega
     have e115:((u.toNat:Int)==115)=false:=by simp;omega
     clear hu hu2 hu3 hu4
     go_wp2_with (go_at_call 79;refine (HC2.out _ (by decide) _ (by exact H5.out.1)).mono ?_;rintro e w6 ⟨rfl,nn6,rfl⟩;first | rw [if_pos rfl] | rw [if_neg (by decide)])
     go_meet
     exact ⟨by rw [HU2.out],by first | exact ⟨_,rfl⟩ | (rw [World.drewN_drewN];exact ⟨_,rfl⟩) | exact ⟨0,rfl⟩⟩
   case rest=>
   obtain ⟨rfl,nd,rfl⟩:=hcut
   have hUr:-1≤U∧U≤4:=by have:=zew HUIS.out;omega
   obtain ⟨u0,u1⟩:=hUr
   by_cases hle:U≤last
   ·have hst:=zhA (n:=n) (sm:=sm) (f:=f) (by rw [HCC.out];exact HDG.out) HDD.out (by rw [HQ.out];exact HU.out) hle
    rw [HD.out] at hst
    have HE:=hd_ hst.symm
    clear hst
    go_wp2
    ·have hmi:mi=true:=by assumption
     obtain ⟨r1,r2,r3⟩:p=Z0∧n=N0∧sm=B0:=by have h:=HE.out;injection h with h1 h2;injection h2 with h2 h3;exact ⟨h1,h2,h3⟩
     subst r1 r3
     refine bodyPost_ret (v:=.tuple #[.int .i64 (IntKind.i64.wrap (-n)),.bool sm]) (by simp [results,Tryz.results124,go_sem] <;> exact (IntWalk.i64_left _).symm) rfl ?_
     exact ⟨by rw [← HN.out,if_pos hmi,← r2],((H5.out.1.drewN _).set _),((H5.out.2.drewN _).setCell 1 _),HPS.out⟩
    ·have hmi:mi=false:=by assumption
     obtain ⟨r1,r2,r3⟩:p=Z0∧n=N0∧sm=B0:=by have h:=HE.out;injection h with h1 h2;injection h2 with h2 h3;exact ⟨h1,h2,h3⟩
     subst r1 r3
     refine bodyPost_ret (v:=.tuple #[.int .i64 n,.bool sm]) (by simp [results,Tryz.results124,go_sem]) rfl ?_
     exact ⟨by rw [← HN.out,hmi,if_neg (by simp),← r2],((H5.out.1.drewN _).set _),((H5.out.2.drewN _).setCell 1 _),HPS.out⟩
   ·have hst:=zj3 (n:=n) (sm:=sm) (f:=f) (by rw [HCC.out];exact HDG.out) HDD.out (by rw [HQ.out];exact HU.out) hle
    rw [HD.out] at hst
    have HE:=hd_ hst.symm
    have q1:IntKind.i64.wrap ((q:Int)+1)=(q:Int)+1:=IntWalk.i64_in _ (by omega)
    have q2:IntKind.i64.wrap ((q:Int)+1+1)=(q:Int)+1+1:=IntWalk.i64_in _ (by omega)
    obtain ⟨j,rfl⟩:∃ j:Nat,U=j:=⟨U.toNat,by omega⟩
    have hj5:j < 5:=by omega
    have i0:0≤(j:Int):=by omega
    have i1:(j:Int) < 5:=by omega
    have hms:=fun W=>zmd j hj5 W
    have hmg:=zni j hj5
    obtain ⟨ms,hmsv⟩:∃ ms,ze9 j=ms:=⟨_,rfl⟩
    rw [hmsv] at hms hmg
    have HMS:=hd_ hmsv
    have HLT:Hid (q+1≤s.size∧(j=4→q+2≤s.size)):=hd_ (by
     have hI:=zew HUIS.out
     refine ⟨?_,fun h4=>?_⟩
     ·have h1:=zji (s:=s) (p:=q) (by rw [HU0.out];omega)
      omega
     ·have h1:=zji (s:=s) (p:=q+1) (by rw [HU1.out];omega)
      omega)
    clear hst hmsv
    by_cases h4:j=4
    ·subst h4
     go_wp2
     go_roundw
     case rel=>
      refine RRel.mk ⟨f,q+2,zgz n D (4:Nat),(4:Nat),true,?_,rfl,rfl,by omega,by omega,by omega,?_,?_,hd_ ?_,hd_ ?_⟩
      ·have hm:=HMS.out;unfold zgz;rw [Int.toNat_natCast,IntWalk.i64_left,IntWalk.i64_left,hm];try rw [show ms=1 from hm.symm,Int.mul_one]
      ·exact hd_ (by have:=HLT.out;omega)
      ·have h:=HE.out;rw [HQ.out] at h;exact hd_ (by first | exact h | simpa using h | (rw [if_neg (by omega)] at h;exact h))
      ·rw [show ((q+2:Nat):Int)=(q:Int)+1+1 by omega];exact (((((H5.out.1.drewN _).set _).set _):ScB _ b s _)).alloc _
      ·exact (((H5.out.2.drewN _).setCell 1 _).setCell 1 _).alloc _
     case measure=>simp [intOf];omega
    ·have e4:((j:Int)==4)=false:=by simp;omega
     go_wp2
     go_roundw
     case rel=>
      refine RRel.mk ⟨f,q+1,zgz n D j,j,true,?_,rfl,rfl,by omega,by omega,by omega,?_,?_,hd_ ?_,hd_ ?_⟩
      ·have hm:=HMS.out;unfold zgz;rw [Int.toNat_natCast,IntWalk.i64_left,IntWalk.i64_left,hm];try rw [show ms=1 from hm.symm,Int.mul_one]
      ·exact hd_ (by have:=HLT.out;omega)
      ·have h:=HE.out;rw [HQ.out] at h;exact hd_ (by first | exact h | simpa using h | (rw [if_neg (by omega)] at h;exact h))
      ·rw [show ((q+1:Nat):Int)=(q:Int)+1 by omega];exact ((((H5.out.1.drewN _).set _):ScB _ b s _)).alloc _
      ·exact ((H5.out.2.drewN _).setCell 1 _).alloc _
     case measure=>simp [intOf];omega
  ·have hdg':dig c=false:=by simpa using hdg
   have HDG:=hd_ hdg'
   have HE:Hid ((p,n,sm)=(Z0,N0,B0)):=hd_ ((ziX (by rw [HCC.out];exact HDG.out)).symm.trans HD.out)
   clear hdg hdg' 
   go_wp2_with (first | (go_at_call 102;refine (zar _ _).mono ?_;rintro e w4 ⟨rfl,rfl⟩;rw [HDG.out]) | (go_at_call 79;refine (HCP.out _ (by exact HX.out)).mono ?_;rintro e w3 ⟨rfl,nn3,rfl⟩))
   ·have hmi:mi=true:=by assumption
    obtain ⟨r1,r2,r3⟩:p=Z0∧n=N0∧sm=B0:=by have h:=HE.out;injection h with h1 h2;injection h2 with h2 h3;exact ⟨h1,h2,h3⟩
    subst r1 r3
    refine bodyPost_ret (v:=.tuple #[.int .i64 (IntKind.i64.wrap (-n)),.bool sm]) (by simp [results,Tryz.results124,go_sem] <;> exact (IntWalk.i64_left _).symm) rfl ?_
    exact ⟨by rw [← HN.out,if_pos hmi,← r2],(HX.out.drewN _),(HO.out.drewN _),HPS.out⟩
   ·have hmi:mi=false:=by assumption
    obtain ⟨r1,r2,r3⟩:p=Z0∧n=N0∧sm=B0:=by have h:=HE.out;injection h with h1 h2;injection h2 with h2 h3;exact ⟨h1,h2,h3⟩
    subst r1 r3
    refine bodyPost_ret (v:=.tuple #[.int .i64 n,.bool sm]) (by simp [results,Tryz.results124,go_sem]) rfl ?_
    exact ⟨by rw [← HN.out,hmi,if_neg (by simp),← r2],(HX.out.drewN _),(HO.out.drewN _),HPS.out⟩
theorem zen {s x:ByteArray} {p b kd:Nat} {A:Int} {r:Tok × Nat × Int} (hr:zbt s.data.toList p=r) (hk:kindOf x=kd) (hx11:(x.toList==[84])=true∨(x.toList==[84])=false∧kd=11) (hs:s.size≤4294967000) (hp:p≤s.size) (w:World) (hx:ScB w b s p) :
  Calls Tryz.prog 104 #[.pointer (some ⟨b,0,none⟩),.agg #[.int .i64 0,.int .i64 0,.int .i64 0,.string ⟨#[]⟩,.int .i64 A],.string x] w (za3 s A b r w):=by
 obtain ⟨⟨Z,N,B⟩,hq⟩:∃ q,zeZ s.data.toList p=q:=⟨_,rfl⟩
 rw [zj2,hq] at hr
 have HR:=hd_ hr
 have HD:=hd_ (fun W (hW:ScB W b s (p:Int))=>zla hq hs hp W hW)
 have HK:=hd_ hk
 have HX:=hd_ hx
 have hlt:=hx.lt
 obtain ⟨bT,hbT⟩:∃ bT,(x.toList==[84])=bT:=⟨_,rfl⟩
 rw [hbT] at hx11
 clear hr hq hk hx hs hp
 have hway:(B=false)∨(B=true∧N < -2147483648)∨(B=true∧-2147483648≤N∧2147483647 < N)∨(B=true∧-2147483648≤N∧N≤2147483647):=by cases B <;> simp;omega
 rcases hx11 with rfl | ⟨rfl,rfl⟩
 all_goals
  rcases hway with rfl | ⟨rfl,n1⟩ | ⟨rfl,n1,n2⟩ | ⟨rfl,n1,n2⟩
  all_goals
   go_enter Tryz.func104,Tryz.ntmps104
   go_wp2_with (first
    | (go_at_call 103;refine (zbg HK.out _).mono ?_;rintro e w1 ⟨rfl,hb1⟩;have HT:=hd_ (TyS.start HX.out hb1);clear hb1;obtain ⟨c40,c41,c42,c43,c44,f40,f41,f42,f43,f44⟩:=blk5 HT.out.tk;obtain ⟨c60,c61,c62,c63,c64,f60,f61,f62,f63,f64⟩:=blk5 HT.out.an)
    | (go_at_call 124;refine (HD.out _ HT.out.sc).mono ?_;rintro e w2 ⟨rfl,hx2,ho2,hz2⟩;have HT2:=hd_ (HT.out.call hx2 ho2);clear hx2 ho2 c40 c41 c42 c43 c44 f40 f41 f42 f43 f44 c60 c61 c62 c63 c64 f60 f61 f62 f63 f64;obtain ⟨c40,c41,c42,c43,c44,f40,f41,f42,f43,f44⟩:=blk5 HT2.out.tk;obtain ⟨c60,c61,c62,c63,c64,f60,f61,f62,f63,f64⟩:=blk5 HT2.out.an))
  ·refine bodyPost_ret (v:=.tuple #[.agg #[.int .i64 0,.int .i64 0,.int .i64 0,.string ⟨#[]⟩,.int .i64 A],.int .i64 120]) (by simp [results,Tryz.results104,go_sem, *]) rfl ?_
   exact zbl (by rw [← HR.out];rfl) (by decide) (by (repeat (refine Only.setFar ?_ (by omega) _ _));exact HT2.out.on)
  ·refine bodyPost_ret (v:=.tuple #[.agg #[.int .i64 0,.int .i64 0,.int .i64 0,.string ⟨#[]⟩,.int .i64 A],.int .i64 163]) (by simp [results,Tryz.results104,go_sem, *]) rfl ?_
   exact zbl (by rw [← HR.out];simp only [zcc];rw [if_neg (by simp),if_pos (by omega)]) (by decide) (by (repeat (refine Only.setFar ?_ (by omega) _ _));exact HT2.out.on)
  ·refine bodyPost_ret (v:=.tuple #[.agg #[.int .i64 0,.int .i64 0,.int .i64 0,.string ⟨#[]⟩,.int .i64 A],.int .i64 163]) (by simp [results,Tryz.results104,go_sem, *]) rfl ?_
   exact zbl (by rw [← HR.out];simp only [zcc];rw [if_neg (by simp),if_pos (by omega)]) (by decide) (by (repeat (refine Only.setFar ?_ (by omega) _ _));exact HT2.out.on)
  ·refine bodyPost_ret (v:=.tuple #[.agg #[.int .i64 4,.int .i64 11,.int .i64 N,.string ⟨#[]⟩,.int .i64 A],.int .i64 0]) (by simp [results,Tryz.results104,go_sem, *]) rfl ?_
   exact zhT (by rw [← HR.out];simp only [zcc];rw [if_neg (by simp),if_neg (by omega)]) (by (repeat (refine Only.setFar ?_ (by omega) _ _));exact HT2.out.on) (by (repeat (refine ScB.setFar ?_ (by omega) _ _));exact HT2.out.sc)
theorem zgN {s x:ByteArray} {p b k:Nat} {A:Int} {r:Tok × Nat × Int} (hk:kindOf x=k) (h0:(x.toList==[84])=true∨(x.toList==[84])=false∧k≠0) (hr:(if (x.toList==[84])=true∨k=11 then zbt s.data.toList p else zaL s.data.toList p k)=r) (hs:s.size≤4294967000) (hp:p≤s.size) (w:World) (hx:ScB w b s p) :
  Calls Tryz.prog 104 #[.pointer (some ⟨b,0,none⟩),.agg #[.int .i64 0,.int .i64 0,.int .i64 0,.string ⟨#[]⟩,.int .i64 A],.string x] w (za3 s A b r w):=by
 have hk11:k≤11:=by rw [← hk];exact zgf _
 rcases h0 with h0 | ⟨h0,hk0⟩
 ·rw [if_pos (.inl h0)] at hr
  exact zen hr hk (.inl h0) hs hp w hx
 ·by_cases h11:k=11
  ·rw [if_pos (.inr h11)] at hr
   exact zen hr hk (.inr ⟨h0,h11⟩) hs hp w hx
  ·rw [if_neg (by rw [h0];simp [h11])] at hr
   by_cases hm:zag k=true∧(cAt s.data.toList p).toNat=45
   ·refine zgO hr hk h0 ?_ (by omega) hm.1 hm.2 hs hp w hx
    rcases Nat.lt_or_ge k 2 with h | h
    ·have:k=1:=by omega
     rw [this] at hm;simp [zag] at hm
    ·exact h
   ·by_cases h1:k=1∧lett (cAt s.data.toList p)=true
    ·obtain ⟨rfl,h1⟩:=h1
     exact zhH hr hk h0 h1 hs hp w hx
    ·by_cases hk1:k=1
     ·subst hk1
      refine zeJ hr hk h0 ?_ hs hp w hx
      cases hl:lett (cAt s.data.toList p) with
      | false=>rfl
      | true=>exact absurd ⟨rfl,hl⟩ h1
     ·exact zfR hr hk h0 (by omega) (by omega) hm hs hp w hx
end Go.Proofs.YtdpkjpjkdmkkpaaGreatDoor
