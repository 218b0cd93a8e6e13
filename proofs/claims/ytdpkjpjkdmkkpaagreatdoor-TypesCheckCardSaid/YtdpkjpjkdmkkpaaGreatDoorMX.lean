/- The walks through package types: Check. -/
import Derived.Test.YtdpkjpjkdmkkpaaGreatDoorMW
set_option maxRecDepth 100000
set_option maxHeartbeats 16000000
namespace Go.Proofs.YtdpkjpjkdmkkpaaGreatDoor
open Ad Go.RowKit Lx Pa
structure zbj (d:zaQ):Prop where
 few:d.structs.length≤100000
 strs:∀ s ∈ d.structs,zlP s
 many:d.vars.length≤100000
 vars:∀ v ∈ d.vars,zdT v
theorem zg5 {ss:List zad} {l:List PVar} {k:Nat} {v:PVar} {names addrs:List (List UInt8)} {c:Int} (h:l[k]? = some v) :
  Ty.varsErr ss (l.drop k) names addrs c=if Ty.varErr ss names addrs v≠0 then some (v.at_,Ty.varErr ss names addrs v) else if 4096 < c+Ty.size ss v then some (v.at_,155) else Ty.varsErr ss (l.drop (k+1)) (v.name::names) (v.addr::addrs) (c+Ty.size ss v):=by
 obtain ⟨hi,ha⟩:=List.getElem?_eq_some_iff.1 h
 rw [List.drop_eq_getElem_cons hi,ha,Ty.varsErr]
theorem zhY {ss:List zad} {l:List PVar} {k:Nat} {names addrs:List (List UInt8)} {c:Int} (h:l.length≤k):Ty.varsErr ss (l.drop k) names addrs c=none:=by
 rw [List.drop_of_length_le h];rfl
theorem zaZ {ss:List zad} {n:List UInt8} {s:zad} (h:Ty.structOf ss n=some s):s ∈ ss:=List.mem_of_find?_eq_some h
theorem zi4 {ss:List zad} {v:PVar} (hf:∀ s ∈ ss,s.fields.length≤100000):0≤Ty.size ss v∧Ty.size ss v≤100000:=by
 obtain ⟨p1,p2⟩:=zb5 v.tname
 rcases zcm (ss:=ss) (v:=v) rfl with ⟨_,h⟩ | ⟨_,_,_,h⟩ | ⟨_,_,_,_,h⟩ | ⟨_,_,_,_,_,h⟩ | ⟨_,_,_,_,_,_,h⟩ | ⟨_,_,_,_,_,_,_,h⟩ | ⟨_,_,_,h1,_,_,h2,h⟩ | ⟨_,_,_,h⟩ | ⟨_,s,h1,h⟩ | ⟨_,_,_,h⟩ | ⟨_,_,_,h⟩
 all_goals rw [h]
 all_goals first
  | omega
  | (have:=hf s (zaZ h1);omega)
def zlK (r:Option (Int × Int)) (w:World) (e:Ending) (w':World):Prop:=∃ v,e=.returned v∧ErrV w' r v∧Below w.heap.size w w'
theorem ErrV.form {w:World} {q:Int × Int} {v:Value} (h:ErrV w (some q) v):∃ p,v=.iface 70 (.pointer (some ⟨p,0,none⟩)):=by
 obtain ⟨p,h1,_⟩:=h
 exact ⟨p,h1⟩
theorem zcX {d:zaQ} {il:Bool} {row:List Value} {P:Nat→Prop} {r:Option (Int × Int)} (hr:Ty.check d.structs d.vars=r) (hok:zbj d) (w:World) (he:LEnv w) (hd:zaF w P il d row) :
  Calls Tryz.prog 12 #[.agg row.toArray] w (zlK r w):=by
 obtain ⟨sr,hsr⟩:∃ sr,Ty.structsErr [] d.structs=sr:=⟨_,rfl⟩
 have HST:=hd_ (fun W (hW:zaF W P il d row)=>zhS hsr W hW hok.few hok.strs)
 have HE:=hd_ he
 have HD:=hd_ hd
 have HOK:=hd_ hok
 have HR:=hd_ hr
 have HSR:=hd_ hsr
 have hsf:∀ s ∈ d.structs,s.fields.length≤100000:=fun s hs=>(hok.strs s hs).few
 have HSF:=hd_ hsf
 obtain ⟨vs,vv,bda,bdn,bdc,lna,lnn,lnc,rfl,hss,⟨cs,hsl,hrows⟩⟩:=hd
 obtain ⟨va,vn,vc,rfl⟩:=hss.shape
 obtain ⟨ua,uc,rfl,hblk⟩:=hsl.form
 obtain ⟨N,hN⟩:∃ N,d.vars.length=N:=⟨_,rfl⟩
 have HN:=hd_ hN
 have hNl:N≤100000:=by rw [← hN];exact hok.many
 rw [hN] at hblk hsl HST HD ⊢
 obtain ⟨nb,hnb⟩:∃ nb:ByteArray,(⟨d.name.toArray⟩:ByteArray)=nb:=⟨_,rfl⟩
 rw [hnb] at HST HD ⊢
 have HROWS:=hd_ hrows
 have HBLK:=hd_ hblk
 have hmm:=@run_makeMap Tryz.prog
 clear hss hsl hrows hblk hN hnb hok hr hsr hsf he
 go_enter Tryz.func12,Tryz.ntmps12
 have HB0:Hid (Below w.heap.size w (w.alloc (.cells #[.string nb,.slice va vn vc,.slice ua N uc,.bool il,.slice bda bdn bdc,.slice lna lnn lnc] 28))):=hd_ (br_.alloc nl_ _)
 go_wp2_with fail
 refine (HST.out _ (HD.out.keeps (zai HB0.out))).mono ?_
 rintro e w1 ⟨ev,rfl,hev,hb1⟩
 have B1:Hid (Below w.heap.size w w1):=hd_ (zal HB0.out hb1 (by simp))
 have P1:=hd_ ((Bl.new w #[.string nb,.slice va vn vc,.slice ua N uc,.bool il,.slice bda bdn bdc,.slice lna lnn lnc] 28).below hb1)
 clear hb1 HB0
 obtain ⟨-,-,p2,-,-,-⟩:=P1.out.cells6
 have kp:=P1.out.lt
 cases sr with
 | some q=>
  have HRS:Hid (r=some q):=hd_ (by rw [← HR.out];unfold Ty.check;rw [HSR.out])
  have HEV:=hd_ hev
  obtain ⟨pp,rfl⟩:=hev.form
  clear hev
  go_wp2_with fail
  go_ret
  exact ⟨_,rfl,by rw [HRS.out];exact HEV.out,B1.out⟩
 | none=>
  have hev2:ev=.nilIface:=hev
  subst hev2
  clear hev
  by_cases hbig:256 < N
  ·have e1:(256:Int) < N:=by omega
   obtain ⟨v,hv⟩:∃ v,d.vars[256]? = some v:=⟨d.vars[256]'(by have:=HN.out;omega),by rw [List.getElem?_eq_getElem]⟩
   have HRS:Hid (r=some (v.at_,155)):=hd_ (by rw [← HR.out];unfold Ty.check;rw [HSR.out];simp only [hv])
   obtain ⟨rw',hvv,hcells⟩:=HROWS.out.get hv
   obtain ⟨vi,hrw,_⟩:=hvv
   subst hrw
   obtain ⟨g,rfl,_,hca⟩:=HBLK.out (by omega)
   have d9:=hca (256*10+9) _ ((hcells 9 (by omega)).trans rfl)
   have kg:=zac d9
   replace d9:=zab B1.out d9
   have kg2:g < w1.heap.size:=by have:=B1.out.size;omega
   clear hcells hca hv hbig
   obtain ⟨at9,hat9⟩:∃ n,v.at_=n:=⟨_,rfl⟩
   rw [hat9] at d9
   have HAT:=hd_ hat9
   clear hat9
   have e2:(256:Int).toNat=256:=rfl
   go_wp2_with (go_at_call 35;refine (za5 at9 155 _).mono ?_;rintro e w6 ⟨v6,rfl,hv6,hb6⟩;have V6:=hd_ hv6;have B6:=hd_ (zah B1.out hb6);clear hv6 hb6)
   go_ret
   exact ⟨_,rfl,by rw [HRS.out,HAT.out];exact V6.out,B6.out⟩
  ·have e1:¬ (256:Int) < N:=by omega
   have HRV:Hid (Ty.varsErr d.structs d.vars [] [] 0=r):=hd_ (by
    rw [← HR.out]
    unfold Ty.check
    rw [HSR.out,List.getElem?_eq_none (by have:=HN.out;omega)])
   go_upto_region 8 with fail
   refine zaa (P:=Code.wp _ _ _ _) (F:=fun W=>Bl W w.heap.size #[.string nb,.slice va vn vc,.slice ua N uc,.bool il,.slice bda bdn bdc,.slice lna lnn lnc] 28∧zbN W w1.heap.size (w1.heap.size+1) [] []∧Below w.heap.size w W)
    ⟨(P1.out.alloc _).alloc _,⟨(MapS.start _).alloc _,by simpa using MapS.start (w1.alloc (.map #[] 0))⟩,(B1.out.alloc B1.out.size _).alloc (by have:=B1.out.size;simp;omega) _⟩ ?_
   have kw1:w.heap.size < w1.heap.size:=P1.out.lt
   clear p2 kp P1 B1
   intro w2 ⟨P2,M2,B2⟩
   obtain ⟨-,-,p2,-,-,-⟩:=P2.cells6
   have kp:=P2.lt
   have P2:=hd_ P2
   have M2:=hd_ M2
   have B2:=hd_ B2
   go_wp2_with fail
   go_loopw [6,30] (fun v6 v30 wr=>RRel (∃ (i:Nat) (names addrs:List (List UInt8)) (cl:Int),i≤N∧names.length=i∧addrs.length=i∧0≤cl∧cl≤4096∧v6=.int .i64 cl∧v30=.int .i64 i∧Hid (Ty.varsErr d.structs (d.vars.drop i) names addrs cl=r) ∧
    Hid (Bl wr w.heap.size #[.string nb,.slice va vn vc,.slice ua N uc,.bool il,.slice bda bdn bdc,.slice lna lnn lnc] 28)∧Hid (zbN wr w1.heap.size (w1.heap.size+1) names addrs)∧Hid (Below w.heap.size w wr))) (fun _ v30 _=>N - (intOf v30).toNat)
   case atStart=>exact RRel.mk ⟨0,[],[],0,by omega,rfl,rfl,by omega,by omega,rfl,rfl,HRV,P2,M2,B2⟩
   case round=>
    obtain ⟨i,names,addrs,cl,hi,hnn,haa,hc0,hc9,rfl,rfl,HR2,P3,M3,B3⟩:=hrel.it
    clear hrel P2 M2 B2 HRV p2 kp HR
    obtain ⟨w3,rfl⟩:∃ w3,w3=wr:=⟨_,rfl⟩
    by_cases hlt:i < N
    ·obtain ⟨v,hv⟩:∃ v,d.vars[i]? = some v:=⟨d.vars[i]'(by have:=HN.out;omega),by rw [List.getElem?_eq_getElem]⟩
     have HNX:=hd_ (zg5 (ss:=d.structs) (names:=names) (addrs:=addrs) (c:=cl) hv)
     have HVO:=hd_ (HOK.out.vars v (List.mem_of_getElem? hv))
     obtain ⟨hz0,hz9⟩:=zi4 (v:=v) HSF.out
     obtain ⟨rw',hvv,hcells⟩:=HROWS.out.get hv
     have HVV:=hd_ hvv
     obtain ⟨vi,hrw,hini⟩:=hvv
     obtain ⟨ia,iln,ic,rfl⟩:=hini.slice
     subst hrw
     obtain ⟨g,rfl,_,hca⟩:=HBLK.out (by omega)
     obtain ⟨er,her⟩:∃ n,Ty.varErr d.structs names addrs v=n:=⟨_,rfl⟩
     obtain ⟨sz,hsz⟩:∃ n,Ty.size d.structs v=n:=⟨_,rfl⟩
     rw [hsz] at hz0 hz9
     have HER:=hd_ her
     have HSZ:=hd_ hsz
     have HVA:=hd_ (fun W (hE:LEnv W) (hp:zaF W P il d [.string nb,.slice va vn vc,.slice (some ⟨g,0,none⟩) N uc,.bool il,.slice bda bdn bdc,.slice lna lnn lnc]) (hv2:za0 W P v [.string ⟨v.name.toArray⟩,.int .i64 v.kind,.int .i64 v.lo,.int .i64 v.hi,.int .i64 v.elem,.string ⟨v.tname.toArray⟩,.bool v.retain,.string ⟨v.addr.toArray⟩,.slice ia iln ic,.int .i64 v.at_]) (hm:zbN W w1.heap.size (w1.heap.size+1) names addrs)=>zgZ (v:=v) her W hE hp hv2 HOK.out.few HSF.out HVO.out hm (by omega) (by omega))
     have HSI:=hd_ (fun W (hE:LEnv W) (hp:zaF W P il d [.string nb,.slice va vn vc,.slice (some ⟨g,0,none⟩) N uc,.bool il,.slice bda bdn bdc,.slice lna lnn lnc])=>ziq (v:=v) hsz W hE hp HOK.out.few HSF.out HVO.out.lo HVO.out.hi)
     simp only [typC] at HSI
     obtain ⟨VN,hVN⟩:∃ b:ByteArray,(⟨v.name.toArray⟩:ByteArray)=b:=⟨_,rfl⟩
     obtain ⟨TN,hTN⟩:∃ b:ByteArray,(⟨v.tname.toArray⟩:ByteArray)=b:=⟨_,rfl⟩
     obtain ⟨AD,hAD⟩:∃ b:ByteArray,(⟨v.addr.toArray⟩:ByteArray)=b:=⟨_,rfl⟩
     have HVN:Hid (VN.data.toList=v.name):=hd_ (by rw [← hVN])
     have HAD:Hid (AD.data.toList=v.addr):=hd_ (by rw [← hAD])
     simp only [hVN,hTN,hAD] at HVV HVA HSI hcells
     have d0:=hca (i*10+0) _ ((hcells 0 (by omega)).trans rfl)
     have d1:=hca (i*10+1) _ ((hcells 1 (by omega)).trans rfl)
     have d2:=hca (i*10+2) _ ((hcells 2 (by omega)).trans rfl)
     have d3:=hca (i*10+3) _ ((hcells 3 (by omega)).trans rfl)
     have d4:=hca (i*10+4) _ ((hcells 4 (by omega)).trans rfl)
     have d5:=hca (i*10+5) _ ((hcells 5 (by omega)).trans rfl)
     have d6:=hca (i*10+6) _ ((hcells 6 (by omega)).trans rfl)
     have d7:=hca (i*10+7) _ ((hcells 7 (by omega)).trans rfl)
     have d8:=hca (i*10+8) _ ((hcells 8 (by omega)).trans rfl)
     have d9:=hca (i*10+9) _ ((hcells 9 (by omega)).trans rfl)
     have kg:=zac d0
     simp only [Nat.add_zero] at d0
     replace d0:=zab B3.out d0
     replace d1:=zab B3.out d1
     replace d2:=zab B3.out d2
     replace d3:=zab B3.out d3
     replace d4:=zab B3.out d4
     replace d5:=zab B3.out d5
     replace d6:=zab B3.out d6
     replace d7:=zab B3.out d7
     replace d8:=zab B3.out d8
     replace d9:=zab B3.out d9
     have z0:0≤(i:Int):=by omega
     have z1:(i:Int) < N:=by omega
     have z2:(i:Int).toNat=i:=by omega
     have z3:IntKind.i64.wrap ((i:Int)+1)=(i:Int)+1:=IntWalk.i64_in _ (by omega)
     have kg2:g < w3.heap.size:=by have:=B3.out.size;omega
     have hVs:VN.size≤100000:=by have h1:=HVO.out.name;rw [← HVN.out] at h1;exact h1
     have hAs:AD.size≤100000:=by have h1:=HVO.out.addr;rw [← HAD.out] at h1;exact h1
     obtain ⟨kind,hk⟩:∃ x,v.kind=x:=⟨_,rfl⟩
     obtain ⟨lo,hlo⟩:∃ x,v.lo=x:=⟨_,rfl⟩
     obtain ⟨hi9,hhi⟩:∃ x,v.hi=x:=⟨_,rfl⟩
     obtain ⟨el,hel⟩:∃ x,v.elem=x:=⟨_,rfl⟩
     obtain ⟨re,hre⟩:∃ x,v.retain=x:=⟨_,rfl⟩
     obtain ⟨at9,hat⟩:∃ x,v.at_=x:=⟨_,rfl⟩
     have HAT:=hd_ hat
     simp only [hk,hlo,hhi,hel,hre,hat] at d1 d2 d3 d4 d6 d9 HVV HVA HSI
     clear hcells hca hv her hsz hVN hTN hAD hini hk hlo hhi hel hre hat HVO HROWS
     have kP:=P3.out.lt
     go_upto_region 11 with fail
     refine zaa (P:=Code.wp _ _ _ _) (F:=fun W=>Bl W w.heap.size #[.string nb,.slice va vn vc,.slice (some ⟨g,0,none⟩) N uc,.bool il,.slice bda bdn bdc,.slice lna lnn lnc] 28∧Bl W w3.heap.size #[.string VN,.int .i64 kind,.int .i64 lo,.int .i64 hi9,.int .i64 el,.string TN,.bool re,.string AD,.slice ia iln ic,.int .i64 at9] 54∧zbN W w1.heap.size (w1.heap.size+1) names addrs∧Below w.heap.size w W)
      ⟨P3.out.alloc _,Bl.new _ _ _,M3.out.below (br_.alloc nl_ _),B3.out.alloc B3.out.size _⟩ ?_
     clear d0 d1 d2 d3 d4 d5 d6 d7 d8 d9 kg2
     intro w4 ⟨P4,V4,M4,B4⟩
     obtain ⟨q0,q1,q2,q3,q4,q5⟩:=P4.cells6
     obtain ⟨x0,x1,x2,x3,x4,x5,x6,x7,x8,x9⟩:=V4.cells10
     have kp:=P4.lt
     have kx:=V4.lt
     have P4:=hd_ P4
     have V4:=hd_ V4
     have M4:=hd_ M4
     have B4:=hd_ B4
     by_cases h0:er=0
     ·subst h0
      have f0:((0:Int) != 0)=false:=rfl
      by_cases h4:4096 < cl+sz
      ·have HRS:Hid (r=some (at9,155)):=hd_ (by rw [← HR2.out,HNX.out,if_neg (by rw [HER.out];simp),if_pos (by rw [HSZ.out];exact h4),HAT.out])
       have m1:IntKind.i64.wrap (cl+sz)=cl+sz:=IntWalk.i64_in _ (by omega)
       go_wp2_with (first | (go_at_call 36;refine (HVA.out w4 (HE.out.below B4.out) (HD.out.keeps (zai B4.out)) (HVV.out.keeps (zai B4.out)) M4.out).mono ?_;rintro e w5 ⟨rfl,hb⟩;have B5:=hd_ (zah B4.out hb);have P5:=hd_ (P4.out.below hb);have V5:=hd_ (V4.out.below hb);have M5:=hd_ (M4.out.below hb);obtain ⟨s0,s1,s2,s3,s4,s5⟩:=P5.out.cells6;obtain ⟨y0,y1,y2,y3,y4,y5,y6,y7,y8,y9⟩:=V5.out.cells10;have ky:=V5.out.lt;have ks:=P5.out.lt;clear hb) | (go_at_call 37;refine (HSI.out w5 (HE.out.below B5.out) (HD.out.keeps (zai B5.out))).mono ?_;rintro e w6 ⟨rfl,hb⟩;have B6:=hd_ (zah B5.out hb);have P6:=hd_ (P5.out.below hb);have V6:=hd_ (V5.out.below hb);have M6:=hd_ (M5.out.below hb);obtain ⟨u0,u1,u2,u3,u4,u5,u6,u7,u8,u9⟩:=V6.out.cells10;have ku:=V6.out.lt;clear hb) | (go_at_call 35;refine (za5 at9 155 _).mono ?_;rintro e w7 ⟨v7,rfl,hv7,hb7⟩;have V7:=hd_ hv7;have B7:=hd_ (zah B6.out hb7);clear hv7 hb7))
       go_ret
       exact ⟨_,rfl,by rw [HRS.out];exact V7.out,B7.out⟩
      ·have HNX2:Hid (Ty.varsErr d.structs (d.vars.drop (i+1)) (v.name::names) (v.addr::addrs) (cl+sz)=r):=hd_ (by
        rw [← HR2.out,HNX.out,if_neg (by rw [HER.out];simp),if_neg (by rw [HSZ.out];exact h4),HSZ.out])
       have m1:IntKind.i64.wrap (cl+sz)=cl+sz:=IntWalk.i64_in _ (by omega)
       go_upto_region 17 with (first | (go_at_call 36;refine (HVA.out w4 (HE.out.below B4.out) (HD.out.keeps (zai B4.out)) (HVV.out.keeps (zai B4.out)) M4.out).mono ?_;rintro e w5 ⟨rfl,hb⟩;have B5:=hd_ (zah B4.out hb);have P5:=hd_ (P4.out.below hb);have V5:=hd_ (V4.out.below hb);have M5:=hd_ (M4.out.below hb);obtain ⟨s0,s1,s2,s3,s4,s5⟩:=P5.out.cells6;obtain ⟨y0,y1,y2,y3,y4,y5,y6,y7,y8,y9⟩:=V5.out.cells10;have ky:=V5.out.lt;have ks:=P5.out.lt;clear hb) | (go_at_call 37;refine (HSI.out w5 (HE.out.below B5.out) (HD.out.keeps (zai B5.out))).mono ?_;rintro e w6 ⟨rfl,hb⟩;have B6:=hd_ (zah B5.out hb);have P6:=hd_ (P5.out.below hb);have V6:=hd_ (V5.out.below hb);have M6:=hd_ (M5.out.below hb);obtain ⟨u0,u1,u2,u3,u4,u5,u6,u7,u8,u9⟩:=V6.out.cells10;have ku:=V6.out.lt;clear hb))
       obtain ⟨c5,hrun5,c50,c5l,-⟩:=M6.out.nm.look VN (by unfold maxLen;omega)
       obtain ⟨w8,hupd5,n8,hg8⟩:=M6.out.nm.upd (by omega) VN (by unfold maxLen;omega) c50 c5l
       have a8:=M6.out.ad.kept hg8 (by intro h;injection h with h;omega)
       obtain ⟨c6,hrun6,c60,c6l,-⟩:=a8.look AD (by unfold maxLen;omega)
       obtain ⟨w9,hupd6,a9,hg9⟩:=a8.upd (by omega) AD (by unfold maxLen;omega) c60 c6l
       have n9:=n8.kept hg9 (by intro h;injection h with h;omega)
       have M9:Hid (zbN w9 w1.heap.size (w1.heap.size+1) (v.name::names) (v.addr::addrs)):=hd_ ⟨by rw [← HVN.out];exact n9,by rw [← HAD.out];exact a9⟩
       have kw6:w1.heap.size+1 < w6.heap.size:=M6.out.ad.lt
       have kv3:w1.heap.size+1 < w3.heap.size:=M3.out.ad.lt
       have V8:=hd_ (V6.out.grown hg8 (by intro h;injection h with h;omega))
       have P8:=hd_ (P6.out.grown hg8 (by intro h;injection h with h;omega))
       have P9:=hd_ (P8.out.grown hg9 (by intro h;injection h with h;omega))
       have B8:=hd_ (B6.out.grown hg8 B6.out.size (fun k hk=>by injection hk with hk;omega))
       have B9:=hd_ (B8.out.grown hg9 B8.out.size (fun k hk=>by injection hk with hk;omega))
       have t7:=V8.out.cells10.2.2.2.2.2.2.2.1
       have kt8:=V8.out.lt
       have m2:IntKind.i64.wrap (c5+1)=c5+1:=IntWalk.i64_in _ (by omega)
       have m3:IntKind.i64.wrap (c6+1)=c6+1:=IntWalk.i64_in _ (by omega)
       clear n8 a8 n9 a9 hg8 hg9
       go_wp2_with fail
       go_roundw
       case rel=>exact RRel.mk ⟨i+1,v.name::names,v.addr::addrs,cl+sz,by omega,by simp;omega,by simp;omega,by omega,by omega,rfl,by simp,HNX2,P9,M9,B9⟩
       case measure=>simp [intOf];omega
     ·have HRS:Hid (r=some (at9,er)):=hd_ (by rw [← HR2.out,HNX.out,if_pos (by rw [HER.out];exact h0),HER.out,HAT.out])
      have f0:(er != 0)=true:=by simpa using h0
      go_wp2_with (first | (go_at_call 36;refine (HVA.out w4 (HE.out.below B4.out) (HD.out.keeps (zai B4.out)) (HVV.out.keeps (zai B4.out)) M4.out).mono ?_;rintro e w5 ⟨rfl,hb⟩;have B5:=hd_ (zah B4.out hb);have P5:=hd_ (P4.out.below hb);have V5:=hd_ (V4.out.below hb);have M5:=hd_ (M4.out.below hb);obtain ⟨s0,s1,s2,s3,s4,s5⟩:=P5.out.cells6;obtain ⟨y0,y1,y2,y3,y4,y5,y6,y7,y8,y9⟩:=V5.out.cells10;have ky:=V5.out.lt;have ks:=P5.out.lt;clear hb) | (go_at_call 35;refine (za5 at9 er _).mono ?_;rintro e w7 ⟨v7,rfl,hv7,hb7⟩;have V7:=hd_ hv7;have B7:=hd_ (zah B5.out hb7);clear hv7 hb7))
      go_ret
      exact ⟨_,rfl,by rw [HRS.out];exact V7.out,B7.out⟩
    ·have HRS:Hid (r=none):=hd_ (by rw [← HR2.out];exact zhY (by have:=HN.out;omega))
     have z1:¬ (i:Int) < N:=by omega
     go_wp2_with fail
     go_ret
     exact ⟨_,rfl,by rw [HRS.out];rfl,B3.out⟩
section
variable {W:World} {X:Nat} {T:TypeId} {v0 v1 v2 v3 v4 v5 v6 v7:Value}
theorem Bl.cells8 (h:Bl W X #[v0,v1,v2,v3,v4,v5,v6,v7] T):W.cell? ⟨X,0,none⟩=some v0∧W.cell? ⟨X,1,none⟩=some v1∧W.cell? ⟨X,2,none⟩=some v2∧W.cell? ⟨X,3,none⟩=some v3∧W.cell? ⟨X,4,none⟩=some v4∧W.cell? ⟨X,5,none⟩=some v5∧W.cell? ⟨X,6,none⟩=some v6∧W.cell? ⟨X,7,none⟩=some v7:=
 ⟨(h.cell rfl).1,(h.cell rfl).1,(h.cell rfl).1,(h.cell rfl).1,(h.cell rfl).1,(h.cell rfl).1,(h.cell rfl).1,(h.cell rfl).1⟩
theorem Bl.free8 (h:Bl W X #[v0,v1,v2,v3,v4,v5,v6,v7] T):W.frozen? ⟨X,0,none⟩=false∧W.frozen? ⟨X,1,none⟩=false∧W.frozen? ⟨X,2,none⟩=false∧W.frozen? ⟨X,3,none⟩=false∧W.frozen? ⟨X,4,none⟩=false∧W.frozen? ⟨X,5,none⟩=false∧W.frozen? ⟨X,6,none⟩=false∧W.frozen? ⟨X,7,none⟩=false:=
 ⟨(h.cell rfl).2,(h.cell rfl).2,(h.cell rfl).2,(h.cell rfl).2,(h.cell rfl).2,(h.cell rfl).2,(h.cell rfl).2,(h.cell rfl).2⟩
end
def zcv (c:Ty.Cell):List Value:=[.int .i64 c.var,.string ⟨c.field.toArray⟩,.int .i64 c.index,.int .i64 c.kind,.bool c.retain,.int .i64 c.area,.int .i64 c.offset,.int .i64 c.init]
def zas (l:List Ty.Cell):List Value:=l.flatMap zcv
theorem zdW (l:List Ty.Cell) (c:Ty.Cell):zas (l++[c])=zas l++zcv c:=by simp [zas]
theorem zeQ (l:List Ty.Cell):(zas l).length=l.length*8:=by
 induction l with
 | nil=>rfl
 | cons c l ih=>simp only [zas,List.flatMap_cons,List.length_append] at ih ⊢;rw [ih];simp [zcv];omega
theorem zfj:(Tryz.prog.info? 56).map (fun i=>(i.zero,i.size,i.bytes))=some (some (.agg #[.int .i64 0,.string ⟨#[]⟩,.int .i64 0,.int .i64 0,.bool false,.int .i64 0,.int .i64 0,.int .i64 0]),8,72):=by kernel_rfl
structure zis (C O:Nat) (row:Option Nat) (w w':World):Prop where
 os:w'.os=w.os
 tape:w'.tape=w.tape
 output:w'.output=w.output
 size:w.heap.size≤w'.heap.size
 blk:∀ a,a < w.heap.size→a≠C→a≠O→some a≠row→w'.heap[a]? = w.heap[a]?
theorem Bl.addCh {C O X:Nat} {row:Option Nat} {w w':World} {vs:Array Value} {T:TypeId} (h:Bl w X vs T) (hc:zis C O row w w') (h1:X≠C) (h2:X≠O) (h3:some X≠row):Bl w' X vs T:=(hc.blk X h.lt h1 h2 h3).trans h
structure zf3 (lo C O:Nat) (w:World) (c:Ty.Cell) (fv:Value) (l:List Ty.Cell):Prop where
 cell:Bl w C (zcv c).toArray 56
 out:Bl w O #[fv] 39
 own:w.ownsRow lo 56 8 fv l.length (zas l)
 lt:C < lo∧O < lo
 ne:C≠O
 le:lo≤w.heap.size
theorem zmC {o:Option Ini} {v fv:Value} {P:Nat→Prop} {kn lo C O:Nat} {f:List UInt8} {ix:Int} {c:Ty.Cell} {l:List Ty.Cell} (h1:1≤kn) (h2:kn≤11) (hf:Ty.first o kn=true) (hi:∀ i,o=some i→zdt i) (w:World) (hv:IniV w P o v) (hS:zf3 lo C O w c fv l) (hl:l.length≤1000000) :
  Calls Tryz.prog 71 #[.string ⟨f.toArray⟩,.int .i64 ix,.int .i64 kn,v,.pointer (some ⟨C,0,none⟩),.pointer (some ⟨O,0,none⟩)] w fun e w'=>
   e=.returned (.tuple #[])∧∃ fv',zf3 lo C O w' { c with field:=f,index:=ix,kind:=kn,init:=Ty.start o kn } fv' (l++[{ c with field:=f,index:=ix,kind:=kn,init:=Ty.start o kn }])∧zis C O fv.ownBlock w w'∧∀ k,fv'.ownBlock=some k→fv.ownBlock=some k∨w.heap.size≤k:=by
 obtain ⟨st,hst⟩:∃ n,Ty.start o kn=n:=⟨_,rfl⟩
 have HST:=hd_ (zkm hf hst h1 h2 hi w hv)
 rw [hst]
 have HS:=hd_ hS
 obtain ⟨FB,hFB⟩:∃ b:ByteArray,(⟨f.toArray⟩:ByteArray)=b:=⟨_,rfl⟩
 obtain ⟨cvar,cfield,cix,ckind,cret,carea,coff,cinit⟩:=c
 obtain ⟨CF,hCF⟩:∃ b:ByteArray,(⟨cfield.toArray⟩:ByteArray)=b:=⟨_,rfl⟩
 have HFB:=hd_ hFB
 have C0:=hd_ hS.cell
 simp only [zcv,hCF] at C0
 have O0:=hd_ hS.out
 have W0:=hd_ hS.own
 have hne:=hS.ne
 have hlt1:=hS.lt.1
 have hlt2:=hS.lt.2
 have hle:=hS.le
 rw [hFB]
 obtain ⟨i0,hi0,hz0,hz1,hz2⟩:=info_parts zfj
 have HI:=hd_ (And.intro hi0 (And.intro hz0 (And.intro hz1 hz2)))
 have KFL:Hid (∀ k,fv.ownBlock=some k→lo≤k∧k < w.heap.size):=hd_ hS.own.lt
 obtain ⟨fa,fn,fc,hfv,hfn⟩:∃ a n cc,fv=.slice a n cc∧n=l.length:=by
  obtain ⟨a,cc,h⟩:=zb4 hS.own
  exact ⟨a,_,cc,h,rfl⟩
 clear hi0 hz0 hz1 hz2 hst hFB hCF hS hv hf hi h1 h2
 go_enter Tryz.func71,Tryz.ntmps71
 go_wp2_with fail
 refine HST.out.mono ?_
 rintro e w1 ⟨rfl,hb1⟩
 have C1:=hd_ (C0.out.below hb1)
 have O1:=hd_ (O0.out.below hb1)
 have W1:=hd_ (zae W0.out hb1 nl_)
 have B1:=hd_ hb1
 clear hb1 C0 O0 W0
 obtain ⟨-,-,-,-,-,-,-,-⟩:=C1.out.cells8
 obtain ⟨x0,x1,x2,x3,x4,x5,x6,x7⟩:=C1.out.cells8
 obtain ⟨g0,g1,g2,g3,g4,g5,g6,g7⟩:=C1.out.free8
 have kc:=C1.out.lt
 go_upto_region 1 with fail
 refine zaa (P:=Code.wp _ _ _ _) (F:=fun W=>Bl W C #[.int .i64 cvar,.string FB,.int .i64 ix,.int .i64 kn,.bool cret,.int .i64 carea,.int .i64 coff,.int .i64 st] 56∧Bl W O #[fv] 39∧W.ownsRow lo 56 8 fv l.length (zas l)∧Only C w W)
  ⟨by simpa using (((C1.out.set 1 _).set 2 _).set 3 _).set 7 _,(((O1.out.other (Ne.symm hne) _ _).other (Ne.symm hne) _ _).other (Ne.symm hne) _ _).other (Ne.symm hne) _ _,?_,(((((Only.ofBelow B1.out).setCell 1 _).setCell 2 _).setCell 3 _).setCell 7 _)⟩ ?_
 ·exact W1.out.kept (((((Only.refl C w1).setCell 1 _).setCell 2 _).setCell 3 _).setCell 7 _).grown (by
   cases hv:fv.ownBlock with
   | none=>exact .inl rfl
   | some k=>have:=(KFL.out k hv).1;exact .inr (by simp;omega))
 clear x0 x1 x2 x3 x4 x5 x6 x7 g0 g1 g2 g3 g4 g5 g6 g7 kc C1 O1 W1
 intro w2 ⟨C2,O2,W2,ch2⟩
 subst hfv
 obtain ⟨x0,x1,x2,x3,x4,x5,x6,x7⟩:=C2.cells8
 have y0:=(O2.cell (o:=0) rfl).1
 have kc:=C2.lt
 have ko:=O2.lt
 have hsz:=ch2.size
 have C2:=hd_ C2
 have O2:=hd_ O2
 have W2:=hd_ W2
 have CH:=hd_ ch2
 have KFS:Hid (∀ k,(Value.slice fa fn fc).ownBlock=some k→k < w.heap.size):=hd_ (fun k hk=>(KFL.out k hk).2)
 have KNO:Hid (some O≠(Value.slice fa fn fc).ownBlock):=hd_ (fun h=>by have:=(KFL.out O h.symm).1;omega)
 have KNC:Hid (some C≠(Value.slice fa fn fc).ownBlock):=hd_ (fun h=>by have:=(KFL.out C h.symm).1;omega)
 clear ch2
 subst hfn
 go_wp2_with (at_builtin;refine wpList_append_lies _ (by rfl) _ _ _ (by rfl) lo 56 i0 _ 8 72 Tryz.underlying39 HI.out.1 HI.out.2.1 HI.out.2.2.1 HI.out.2.2.2 rfl (by omega) (.slice fa l.length fc) l.length (zas l) (by rfl) (zbW W2.out _) ⟨w2.heap.size,0,none⟩ 1 1 [.int .i64 cvar,.string FB,.int .i64 ix,.int .i64 kn,.bool cret,.int .i64 carea,.int .i64 coff,.int .i64 st] (by rfl) (by rfl) (World.news_of_block (cs:=#[.int .i64 cvar,.string FB,.int .i64 ix,.int .i64 kn,.bool cret,.int .i64 carea,.int .i64 coff,.int .i64 st]) (t:=56) (fr:=(0,0)) (heap_alloc_new _ _)) (by simp [Value.oneCell']) (by omega) (by simp only [maxLen];omega) (by omega) (by simp;omega) (w2.heap.size+1) (by simp) ?_;intro g9 cp w3 hown hgrow hat hlt9;have O3:=hd_ ((O2.out.alloc _).grown hgrow KNO.out);have C3:=hd_ ((C2.out.alloc _).grown hgrow KNC.out);have W3:=hd_ hown;have G3:=hd_ hgrow;have o3:=(O3.out.cell (o:=0) rfl).1;have f3:=(O3.out.cell (o:=0) rfl).2;have ko3:=O3.out.lt;have HAT:=hd_ hat;have hs3:=hgrow.size;clear hown hgrow hat hlt9)
 go_end0
 refine ⟨rfl,.slice (some ⟨g9,0,none⟩) (l.length+1) cp,⟨?_,?_,?_,⟨hlt1,hlt2⟩,hne,?_⟩,?_,?_⟩
 ·simp only [zcv,HFB.out]
  exact C3.out.other hne _ _
 ·simpa using O3.out.set 0 (.slice (some ⟨g9,0,none⟩) (l.length+1) cp)
 ·rw [zdW]
  simp only [zcv,HFB.out,List.length_append,List.length_cons,List.length_nil]
  exact W3.out.kept ((Only.refl O w3).setCell 0 _).grown (.inr (by
   have:=(W3.out.lt g9 rfl).1
   simp [Value.ownBlock];omega))
 ·simp at hs3 ⊢;omega
 ·have ho:=CH.out
  have hg:=G3.out
  refine ⟨?_,?_,?_,?_,?_⟩
  ·exact hg.os.trans ho.os
  ·exact hg.tape.trans ho.tape
  ·exact hg.output.trans ho.output
  ·simp at hs3 ⊢;omega
  ·intro a ha n1 n2 n3
   refine (Below.heap_setCell _ _ _ _ (by simpa using n2)).trans ?_
   refine (hg.block a (by simp;omega) n3).trans ?_
   refine (Below.heap_alloc _ _ _ (by omega)).trans ?_
   exact ho.block a ha n1
 ·intro k hk
  have hk2:g9=k:=by simpa [Value.ownBlock] using hk
  rcases HAT.out with h | h
  ·exact .inl (hk2▸h)
  ·exact .inr (by omega)
end Go.Proofs.YtdpkjpjkdmkkpaaGreatDoor
namespace Go.Proofs.YtdpkjpjkdmkkpaaGreatDoor
open Ad Go.RowKit Lx Pa
def zeS (q:List UInt8) (l:List PVar):Int × Bool:=match l.find? fun f=>decide (f.name=q) with
 | some f=>(f.kind,true)
 | none=>(0,false)
theorem zhg {l:List PVar} {k:Nat} {f:PVar} {q:List UInt8} (h:l[k]? = some f):zeS q (l.drop k)=if f.name=q then (f.kind,true) else zeS q (l.drop (k+1)):=by
 obtain ⟨hi,ha⟩:=List.getElem?_eq_some_iff.1 h
 unfold zeS
 rw [List.drop_eq_getElem_cons hi,ha,List.find?_cons]
 by_cases hq:f.name=q <;> simp [hq]
theorem ziE {l:List PVar} {k:Nat} {q:List UInt8} (h:l.length≤k):zeS q (l.drop k)=(0,false):=by
 rw [List.drop_of_length_le h];rfl
theorem zhO {d:zaQ} {il:Bool} {row:List Value} {P:Nat→Prop} {kind lo hi el:Int} {TN Q:ByteArray} {r:Int × Bool} (hr:Ty.fieldOf d.structs kind TN.data.toList Q.data.toList=r) (w:World) (he:LEnv w) (hd:zaF w P il d row) (hn:d.structs.length≤100000) (hf:∀ s ∈ d.structs,s.fields.length≤100000) :
  Calls Tryz.prog 26 #[.agg row.toArray,.agg #[.int .i64 kind,.int .i64 lo,.int .i64 hi,.int .i64 el,.string TN],.string Q] w fun e w'=>e=.returned (.tuple #[.int .i64 r.1,.bool r.2])∧Below w.heap.size w w':=by
 obtain ⟨so,hso⟩:∃ so,Ty.structOf d.structs TN.data.toList=so:=⟨_,rfl⟩
 have HSO:=hd_ (fun W (hW:zaF W P il d row)=>zbM hso W hW hn)
 have HPN:=hd_ (fun W (hW:LEnv W)=>zhQ (x:=TN) (q:=Q) rfl W hW)
 have HE:=hd_ he
 have HD:=hd_ hd
 have HF:=hd_ hf
 have hmem:∀ s,so=some s→s ∈ d.structs:=fun s h=>zaZ (by rw [hso,h])
 have HMEM:=hd_ hmem
 have hways:(kind≠0∧r=(0,false))∨(kind=0∧∃ s,so=some s∧r=zeS Q.data.toList s.fields)∨(kind=0∧so=none∧r=(Ty.pin TN.data.toList Q.data.toList,decide (Ty.pin TN.data.toList Q.data.toList≠0))):=by
  unfold Ty.fieldOf at hr
  rw [hso] at hr
  by_cases h0:kind=0
  ·rw [if_neg (by simpa using h0)] at hr
   cases so with
   | some s=>exact .inr (.inl ⟨h0,s,rfl,hr.symm⟩)
   | none=>exact .inr (.inr ⟨h0,rfl,hr.symm⟩)
  ·rw [if_pos h0] at hr
   exact .inl ⟨h0,hr.symm⟩
 obtain ⟨vs,vv,bda,bdn,bdc,lna,lnn,lnc,rfl,hss,hvv⟩:=hd
 obtain ⟨va,vn,vc,rfl⟩:=hss.shape
 obtain ⟨ua,un,uc,rfl⟩:=hvv.shape
 obtain ⟨nb,hnb⟩:∃ nb:ByteArray,(⟨d.name.toArray⟩:ByteArray)=nb:=⟨_,rfl⟩
 rw [hnb] at HSO HD ⊢
 obtain ⟨pk,hpk⟩:∃ n,Ty.pin TN.data.toList Q.data.toList=n:=⟨_,rfl⟩
 rw [hpk] at HPN hways
 have HB0:Hid (Below w.heap.size w ((w.alloc (.cells #[.string nb,.slice va vn vc,.slice ua un uc,.bool il,.slice bda bdn bdc,.slice lna lnn lnc] 28)).alloc (.cells #[.int .i64 kind,.int .i64 lo,.int .i64 hi,.int .i64 el,.string TN] 51))):=hd_ ((br_.alloc nl_ _).alloc (by simp) _)
 clear hr hso hss hvv hnb hpk he hn hf hmem
 rcases hways with ⟨h0,h9⟩ | ⟨h0,s,h1,h9⟩ | ⟨h0,h1,h9⟩
 ·have e0:(kind != 0)=true:=by simpa using h0
  have H9:=hd_ h9
  clear h9 h0
  go_enter Tryz.func26,Tryz.ntmps26
  go_wp2
  go_returns
  exact ⟨by rw [H9.out];rfl,HB0.out⟩
 ·subst h0 h1
  have H9:=hd_ h9
  clear h9
  go_enter Tryz.func26,Tryz.ntmps26
  go_wp2_with fail
  refine (HSO.out _ (HD.out.keeps (zai HB0.out))).mono ?_
  rintro e w1 ⟨sv,rfl,⟨rw',rfl,hsv⟩,hb1⟩
  obtain ⟨sa,sc,fcs,hrw,hfr,hfc⟩:=hsv.split
  subst hrw
  have B1:Hid (Below w.heap.size w w1):=hd_ (zal HB0.out hb1 (by simp;omega))
  have HFR:=hd_ hfr
  have HFC:=hd_ hfc
  obtain ⟨NF,hNF⟩:∃ n,s.fields.length=n:=⟨_,rfl⟩
  have HNF:=hd_ hNF
  have hNl:NF≤100000:=by rw [← hNF];exact HF.out s (HMEM.out s rfl)
  obtain ⟨SN,hSN⟩:∃ b:ByteArray,(⟨s.name.toArray⟩:ByteArray)=b:=⟨_,rfl⟩
  rw [hNF,hSN]
  rw [hNF] at HFC
  have hb1':=hb1.size
  have HB1:=hd_ hb1
  clear hsv hfr hfc hNF hSN hb1 HSO
  go_wp2_with fail
  go_loopw [27] (fun v27 wr=>RRel (∃ k:Nat,k≤NF∧v27=.int .i64 k∧Hid (zeS Q.data.toList (s.fields.drop k)=r)∧Hid (Below w.heap.size w wr)∧Hid (Below w1.heap.size w1 wr))) (fun v27 _=>NF - (intOf v27).toNat)
  case atStart=>exact RRel.mk ⟨0,by omega,rfl,hd_ H9.out.symm,hd_ (B1.out.alloc B1.out.size _),hd_ (br_.alloc nl_ _)⟩
  case round=>
   obtain ⟨k,hk,rfl,HR2,B2,D2⟩:=hrel.it
   clear hrel
   obtain ⟨w2,rfl⟩:∃ w2,w2=wr:=⟨_,rfl⟩
   by_cases hkt:k < NF
   ·obtain ⟨f,hf⟩:∃ f,s.fields[k]? = some f:=⟨s.fields[k]'(by have:=HNF.out;omega),by rw [List.getElem?_eq_getElem]⟩
    have HFX:=hd_ (zhg (q:=Q.data.toList) hf)
    obtain ⟨frw,hfv,hfcells⟩:=HFR.out.get hf
    obtain ⟨fi,hfrw,hini⟩:=hfv
    obtain ⟨ia,il9,ic,rfl⟩:=hini.slice
    subst hfrw
    obtain ⟨FN,hFN⟩:∃ b:ByteArray,(⟨f.name.toArray⟩:ByteArray)=b:=⟨_,rfl⟩
    have HFN:Hid (f.name=FN.data.toList):=hd_ (by rw [← hFN])
    rw [hFN] at hfcells
    obtain ⟨fg,rfl,hfca⟩:=HFC.out (by omega)
    have b0:=zab D2.out (zab HB1.out (hfca (k*10+0) _ ((hfcells 0 (by omega)).trans rfl)))
    have b1:=zab D2.out (zab HB1.out (hfca (k*10+1) _ ((hfcells 1 (by omega)).trans rfl)))
    have b2:=zab D2.out (zab HB1.out (hfca (k*10+2) _ ((hfcells 2 (by omega)).trans rfl)))
    have b3:=zab D2.out (zab HB1.out (hfca (k*10+3) _ ((hfcells 3 (by omega)).trans rfl)))
    have b4:=zab D2.out (zab HB1.out (hfca (k*10+4) _ ((hfcells 4 (by omega)).trans rfl)))
    have b5:=zab D2.out (zab HB1.out (hfca (k*10+5) _ ((hfcells 5 (by omega)).trans rfl)))
    have b6:=zab D2.out (zab HB1.out (hfca (k*10+6) _ ((hfcells 6 (by omega)).trans rfl)))
    have b7:=zab D2.out (zab HB1.out (hfca (k*10+7) _ ((hfcells 7 (by omega)).trans rfl)))
    have b8:=zab D2.out (zab HB1.out (hfca (k*10+8) _ ((hfcells 8 (by omega)).trans rfl)))
    have b9:=zab D2.out (zab HB1.out (hfca (k*10+9) _ ((hfcells 9 (by omega)).trans rfl)))
    simp only [Nat.add_zero] at b0
    have kfg:=zac b0
    have x0:0≤(k:Int):=by omega
    have x1:(k:Int) < NF:=by omega
    have x2:(k:Int).toNat=k:=by omega
    have x3:IntKind.i64.wrap ((k:Int)+1)=(k:Int)+1:=IntWalk.i64_in _ (by omega)
    clear hfcells hfca hf hFN hini
    obtain ⟨dd,hdd⟩:∃ dd,(FN.toList==Q.toList)=dd:=⟨_,rfl⟩
    cases dd with
    | true=>
     have HRS:Hid (r=(f.kind,true)):=hd_ (by rw [← HR2.out,HFX.out,if_pos (by rw [HFN.out,(zav FN Q).1 hdd])])
     go_wp2_with fail
     go_returns
     exact ⟨by rw [HRS.out];rfl,B2.out.alloc B2.out.size _⟩
    | false=>
     have HNE:Hid (¬ f.name=Q.data.toList):=hd_ (fun h=>by
      have h2:FN=Q:=ByteArray.ext (Array.toList_inj.1 (by rw [← HFN.out,h]))
      rw [(zav FN Q).2 h2] at hdd
      cases hdd)
     go_wp2_with fail
     go_roundw
     case rel=>exact RRel.mk ⟨k+1,by omega,by simp,hd_ (by rw [← HR2.out,HFX.out,if_neg HNE.out]),hd_ (B2.out.alloc B2.out.size _),hd_ (D2.out.alloc D2.out.size _)⟩
     case measure=>simp [intOf];omega
   ·have HRS:Hid (r=(0,false)):=hd_ (by rw [← HR2.out];exact ziE (by have:=HNF.out;omega))
    have x1:¬ (k:Int) < NF:=by omega
    go_wp2_with fail
    go_returns
    exact ⟨by rw [HRS.out];rfl,B2.out⟩
 ·subst h0 h1
  have H9:=hd_ h9
  clear h9
  go_enter Tryz.func26,Tryz.ntmps26
  go_wp2_with fail
  refine (HSO.out _ (HD.out.keeps (zai HB0.out))).mono ?_
  rintro e w1 ⟨sv,rfl,hsv,hb1⟩
  have hsv2:sv=.agg #[.string ⟨#[]⟩,.slice none 0 0,.int .i64 0]:=hsv
  subst hsv2
  have B1:Hid (Below w.heap.size w w1):=hd_ (zal HB0.out hb1 (by simp;omega))
  have T1:=hd_ ((Bl.newAt (X:=w.heap.size+1) (w.alloc (.cells #[.string nb,.slice va vn vc,.slice ua un uc,.bool il,.slice bda bdn bdc,.slice lna lnn lnc] 28)) (vs:=#[.int .i64 0,.int .i64 lo,.int .i64 hi,.int .i64 el,.string TN]) (T:=51) (by simp)).below hb1)
  clear hsv hb1 HSO
  obtain ⟨-,-,-,-,x4⟩:=T1.out.cells5
  have kt:=T1.out.lt
  go_wp2_with (go_at_call 21;refine (HPN.out _ (HE.out.below (B1.out.alloc B1.out.size _))).mono ?_;rintro e w2 ⟨rfl,hb2⟩;have B2:=hd_ (zal (B1.out.alloc B1.out.size (.cells #[.string ⟨#[]⟩,.slice none 0 0,.int .i64 0] 64)) hb2 (by have:=B1.out.size;simp;omega));clear hb2)
  go_returns
  exact ⟨by rw [H9.out];simp [bne,BEq.beq],B2.out⟩
end Go.Proofs.YtdpkjpjkdmkkpaaGreatDoor
