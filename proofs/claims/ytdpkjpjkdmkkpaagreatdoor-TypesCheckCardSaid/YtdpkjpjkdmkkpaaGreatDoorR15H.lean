/- The walk through the reference's cellsOf (package rungref15). -/
import Derived.Test.YtdpkjpjkdmkkpaaGreatDoorRC
set_option maxRecDepth 100000
set_option maxHeartbeats 16000000
namespace Go.Proofs.YtdpkjpjkdmkkpaaGreatDoor
open Ad Go.RowKit Lx Pa
theorem zfq (n:List UInt8):∀ (l:List zad) (k:Int),(Ty.structOf l n=none∧ixF n l k=-1)∨∃ (i:Nat) (s:zad),Ty.structOf l n=some s∧l[i]? = some s∧ixF n l k=k+i
 | [],_=>.inl ⟨rfl,rfl⟩
 | s::r,k=>by
  by_cases h:s.name=n
  ·exact .inr ⟨0,s,by simp [Ty.structOf,h],rfl,by simp [ixF,h]⟩
  ·rcases zfq n r (k+1) with ⟨h1,h2⟩ | ⟨i,t,h1,h2,h3⟩
   ·exact .inl ⟨by simp only [Ty.structOf] at h1 ⊢;rw [List.find?_cons_of_neg (by simpa using h)];exact h1,by rw [ixF,if_neg h];exact h2⟩
   ·exact .inr ⟨i+1,t,by simp only [Ty.structOf] at h1 ⊢;rw [List.find?_cons_of_neg (by simpa using h)];exact h1,by simpa using h2,by rw [ixF,if_neg h,h3];push_cast;omega⟩
theorem zcu {A:ByteArray} {l:List UInt8} (h:A.data.toList=l):A.toList.isEmpty=decide (l=[]):=by
 rw [ByteArray.toList_eq,h]
 cases l <;> simp
theorem zhC {d:zaQ} {il:Bool} {row vrow:List Value} {P:Nat→Prop} {v:PVar} {r:Int} (hr:Rf.cellsOf d.structs v=r) (h12:v.kind=12→0≤v.hi - v.lo∧v.hi - v.lo < 256) (w:World) (hd:zaF w P il d row) (hv:za0 w P v vrow) (hn:d.structs.length≤100000) :
  Calls Tryz.prog 32 #[.agg row.toArray,.agg vrow.toArray] w fun e w'=>e=.returned (.int .i64 r)∧Below w.heap.size w w':=by
 have HD:=hd_ hd
 obtain ⟨vs,vv,bda,bdn,bdc,lna,lnn,lnc,rfl,⟨cs,hsl,hrows⟩,hvv⟩:=hd
 obtain ⟨va,vc,rfl,hblk⟩:=hsl.form
 obtain ⟨ua,un,uc,rfl⟩:=hvv.shape
 obtain ⟨nb,hnb⟩:∃ nb:ByteArray,(⟨d.name.toArray⟩:ByteArray)=nb:=⟨_,rfl⟩
 obtain ⟨NS,hNS⟩:∃ x,d.structs.length=x:=⟨_,rfl⟩
 obtain ⟨iv,rfl,hini⟩:=hv
 obtain ⟨ia,iln,ic,rfl⟩:=hini.slice
 obtain ⟨vnm,kind,lo,hi,el,tn,re,ad,ini,at9⟩:=v
 obtain ⟨VN,hVN⟩:∃ b:ByteArray,(⟨vnm.toArray⟩:ByteArray)=b:=⟨_,rfl⟩
 obtain ⟨TN,hTN⟩:∃ b:ByteArray,(⟨tn.toArray⟩:ByteArray)=b:=⟨_,rfl⟩
 obtain ⟨AD,hAD⟩:∃ b:ByteArray,(⟨ad.toArray⟩:ByteArray)=b:=⟨_,rfl⟩
 have hTl:TN.data.toList=tn:=by rw [← hTN]
 rw [hnb,hNS] at HD
 rw [hNS] at hblk hn
 rw [hnb,hNS]
 have HSO0:=hd_ (fun (x:ByteArray) W (hW:zaF W P il d [.string nb,.slice va NS vc,.slice ua un uc,.bool il,.slice bda bdn bdc,.slice lna lnn lnc])=>zbL (nm:=x) (r:=ixF x.data.toList d.structs 0) rfl W hW (by omega:d.structs.length≤100000))
 have HRB:=hd_ hblk
 have HRW:=hd_ hrows
 simp only [hVN,hTN,hAD]
 have HR:Hid ((if kind=12 then hi - lo+1 else if Ty.block tn=true then ((Ty.insOf tn).length:Int)+(Ty.outsOf tn).length+3 else if tn≠[] then (match Ty.structOf d.structs tn with | some s=>(s.fields.length:Int) | none=>0) else 1)=r):=hd_ hr
 have hte:=zcu hTl
 obtain ⟨te,hteq⟩:∃ b,decide (tn=[])=b:=⟨_,rfl⟩
 rw [hteq] at hte
 obtain ⟨so,hso⟩:∃ x,ixF TN.data.toList d.structs 0=x:=⟨_,rfl⟩
 have hsoC:Hid ((Ty.structOf d.structs tn=none∧so=-1)∨∃ (i:Nat) (s:zad),Ty.structOf d.structs tn=some s∧d.structs[i]? = some s∧so=i):=hd_ (by
  rw [← hso,hTl]
  rcases zfq tn d.structs 0 with h | ⟨i,s,h1,h2,h3⟩
  ·exact .inl h
  ·exact .inr ⟨i,s,h1,h2,by rw [h3];omega⟩)
 obtain ⟨bl,hbl⟩:∃ b,Ty.block tn=b:=⟨_,rfl⟩
 have HBL:Hid (∀ W,Calls Tryz.prog 20 #[.string TN] W fun e w'=>e=.returned (.bool bl)∧Below W.heap.size W w'):=hd_ (fun W=>by have h:=zck TN W;rw [hTl,hbl] at h;exact h)
 have HPN:=hd_ (fun W=>zim TN W)
 have hfew:=zb5 tn
 obtain ⟨ni,hni⟩:∃ x,(Ty.insOf tn).length=x:=⟨_,rfl⟩
 obtain ⟨no,hno⟩:∃ x,(Ty.outsOf tn).length=x:=⟨_,rfl⟩
 have HNI:Hid ((Ty.insOf TN.data.toList).length=ni):=hd_ (by rw [hTl,hni])
 have HNO:Hid ((Ty.outsOf TN.data.toList).length=no):=hd_ (by rw [hTl,hno])
 rw [hbl,hni,hno] at HR
 rw [hni,hno] at hfew
 have HTE:=hd_ hteq
 have HSO:Hid (∀ W,zaF W P il d [.string nb,.slice va NS vc,.slice ua un uc,.bool il,.slice bda bdn bdc,.slice lna lnn lnc]→Calls Tryz.prog 29 #[.agg #[.string nb,.slice va NS vc,.slice ua un uc,.bool il,.slice bda bdn bdc,.slice lna lnn lnc],.string TN] W fun e w'=>e=.returned (.int .i64 so)∧Below W.heap.size W w'):=hd_ (fun W hW=>by have h:=HSO0.out TN W hW;rw [hso] at h;exact h)
 simp only at h12
 have HKI:Hid (hi - lo=hi - lo):=hd_ rfl
 have HH12:=hd_ h12
 clear HSO0 hr hini hrows hblk hsl hvv hnb hVN hTN hAD hTl hso hbl hni hno hteq HKI h12
 go_enter Tryz.func32,Tryz.ntmps32
 go_upto_region 1 with fail
 refine zaa (P:=Code.wp _ _ _ _) (F:=fun W=>Bl W w.heap.size #[.string nb,.slice va NS vc,.slice ua un uc,.bool il,.slice bda bdn bdc,.slice lna lnn lnc] 28∧Bl W (w.heap.size+1) #[.string VN,.int .i64 kind,.int .i64 lo,.int .i64 hi,.int .i64 el,.string TN,.bool re,.string AD,.slice ia iln ic,.int .i64 at9] 54∧Below w.heap.size w W)
  ⟨(Bl.new _ _ _).alloc _,Bl.newAt _ (by simp),(br_.alloc nl_ _).alloc (by simp) _⟩ ?_
 intro w1 ⟨P1,V1,B1⟩
 have P1:=hd_ P1
 have V1:=hd_ V1
 have B1:=hd_ B1
 obtain ⟨-,v1,v2,v3,v4,v5,-,-,-,-⟩:=V1.out.cells10
 have k1:=V1.out.lt
 by_cases h12:kind=12
 ·have e1:(kind==12)=true:=by simp [h12]
  have hb:=HH12.out h12
  have hr2:r=hi - lo+1:=by rw [← HR.out,if_pos h12]
  have iw1:IntKind.i64.wrap (hi - lo)=hi - lo:=IntWalk.i64_in _ (by omega)
  have iw2:IntKind.i64.wrap (hi - lo+1)=hi - lo+1:=IntWalk.i64_in _ (by omega)
  have HR2:=hd_ hr2
  clear h12 hb hr2
  go_wp2_with fail
  go_ret
  exact ⟨zaf (HR2.out.symm),B1.out⟩
 ·have e1:(kind==12)=false:=by simpa using h12
  have HR2:=HR.out
  rw [if_neg h12] at HR2
  have HR2:=hd_ HR2
  clear HR h12
  go_wp2_with fail
  refine (HBL.out w1).mono ?_
  rintro e w2 ⟨rfl,hb⟩
  have B2:=hd_ (zah B1.out hb)
  have V2:=hd_ (V1.out.below hb)
  have P2:=hd_ (P1.out.below hb)
  clear hb v1 v2 v3 v4 v5 k1 P1 V1 B1
  obtain ⟨-,v1,v2,v3,v4,v5,-,-,-,-⟩:=V2.out.cells10
  have k1:=V2.out.lt
  cases bl with
  | true=>
   go_wp2_with fail
   refine (HPN.out w2).mono ?_
   rintro e w3 ⟨a1,a2,rfl,hi1,ho1,hb⟩
   obtain ⟨ia1,ic1,rfl⟩:=zd8 hi1
   obtain ⟨oa1,oc1,rfl⟩:=zd8 ho1
   rw [HNI.out,HNO.out]
   have B3:=hd_ (zah B2.out hb)
   have iw1:IntKind.i64.wrap ((ni:Int)+(no:Int))=(ni:Int)+(no:Int):=IntWalk.i64_in _ (by omega)
   have iw2:IntKind.i64.wrap ((ni:Int)+(no:Int)+3)=(ni:Int)+(no:Int)+3:=IntWalk.i64_in _ (by omega)
   clear hi1 ho1 hb
   go_wp2_with fail
   go_ret
   exact ⟨zaf (HR2.out),B3.out⟩
  | false=>
   cases te with
   | true=>
    have HR3:Hid (1=r):=hd_ (by have h:=HR2.out;rw [if_neg (by simp),if_neg (by simpa using of_decide_eq_true HTE.out)] at h;exact h)
    go_wp2_with fail
    go_ret
    exact ⟨zaf (HR3.out),B2.out⟩
   | false=>
    have HR3:Hid ((match Ty.structOf d.structs tn with | some s=>(s.fields.length:Int) | none=>0)=r):=hd_ (by have h:=HR2.out;rw [if_neg (by simp),if_pos (of_decide_eq_false HTE.out)] at h;exact h)
    obtain ⟨-,p1,-,-,-,-⟩:=P2.out.cells6
    obtain ⟨p0,-,p2,p3,p4,p5⟩:=P2.out.cells6
    have k2:=P2.out.lt
    go_wp2_with fail
    refine (HSO.out w2 (HD.out.keeps (zai B2.out))).mono ?_
    rintro e w3 ⟨rfl,hb⟩
    have B3:=hd_ (zah B2.out hb)
    have P3:=hd_ (P2.out.below hb)
    clear hb p0 p1 p2 p3 p4 p5 k2 v1 v2 v3 v4 v5 k1 P2 V2
    rcases hsoC.out with ⟨h1,h2⟩ | ⟨i,s,h1,h2,h3⟩
    ·have hs0:¬ 0≤so:=by omega
     have HR4:Hid (0=r):=hd_ (by have h:=HR3.out;rw [h1] at h;exact h)
     clear h1 h2
     go_wp2_with fail
     go_ret
     exact ⟨zaf (HR4.out),B3.out⟩
    ·have HR4:Hid ((s.fields.length:Int)=r):=hd_ (by have h:=HR3.out;rw [h1] at h;exact h)
     have hiN:i < NS:=by rw [← hNS];exact (List.getElem?_eq_some_iff.1 h2).1
     obtain ⟨rw',hsv,hcells⟩:=HRW.out.get h2
     obtain ⟨sa,sc,scs,rfl,-,-⟩:=hsv.split
     obtain ⟨g,rfl,hPg,hca⟩:=HRB.out (by omega)
     have d1:=hca (i*3+1) _ ((hcells 1 (by omega)).trans rfl)
     have kg0:=zac d1
     replace d1:=zab B3.out d1
     have kg:=zac d1
     have z0:0≤(i:Int):=by omega
     have z1:(i:Int) < NS:=by omega
     have z2:(i:Int).toNat=i:=by omega
     subst h3
     obtain ⟨fl,hfl⟩:∃ x,s.fields.length=x:=⟨_,rfl⟩
     rw [hfl] at d1 HR4
     obtain ⟨-,p1,-,-,-,-⟩:=P3.out.cells6
     have k2:=P3.out.lt
     clear h1 h2 hsv hcells hPg hca hfl kg0
     go_wp2_with fail
     go_ret
     exact ⟨zaf (HR4.out),B3.out⟩
end Go.Proofs.YtdpkjpjkdmkkpaaGreatDoor
