/- The walks through package types: size. -/
import Derived.Test.YtdpkjpjkdmkkpaaGreatDoorMT
import Derived.Maps.Own
import Derived.Maps.OwnOps
import Derived.Maps.OwnSet
import Derived.Maps.Views
set_option maxRecDepth 100000
set_option maxHeartbeats 16000000
namespace Go.Proofs.YtdpkjpjkdmkkpaaGreatDoor
open Ad Go.RowKit Lx Pa
def typC (v:PVar):Array Value:=#[.int .i64 v.kind,.int .i64 v.lo,.int .i64 v.hi,.int .i64 v.elem,.string ⟨v.tname.toArray⟩]
theorem StrV.len {w:World} {P:Nat→Prop} {s:zad} {v:Value} (h:StrV w P (some s) v):∃ nm a c ta,v=.agg #[.string nm,.slice a s.fields.length c,.int .i64 ta]:=by
 obtain ⟨rw',h1,v2,h2,cs,h3,_⟩:=h
 obtain ⟨a,c,h4,_⟩:=h3.form
 exact ⟨_,a,c,_,by rw [h1,h2,h4]⟩
theorem zb4 {w:World} {B sz n:Nat} {T:TypeId} {v:Value} {xs:List Value} (h:w.ownsRow B T sz v n xs):∃ a c,v=.slice a n c:=by
 rcases h.2 with ⟨h1,h2⟩ | ⟨g,cap,cur,h1,_⟩
 ·exact ⟨_,_,by rw [h1,h2]⟩
 ·exact ⟨_,_,h1⟩
theorem zb5 (x:List UInt8):(Ty.insOf x).length≤100∧(Ty.outsOf x).length≤100:=by
 have h1:=zcs ⟨x.toArray⟩
 have h2:=zea ⟨x.toArray⟩
 have hev:∀ (b:Bool) (l:List (List UInt8)),(Ty.evensF b l).length≤l.length:=by
  intro b l
  induction l generalizing b with
  | nil=>cases b <;> simp [Ty.evensF]
  | cons a r ih=>cases b <;> simp [Ty.evensF] <;> have:=ih false <;> have:=ih true <;> omega
 have h3:=hev true (Ty.words (zbe ⟨x.toArray⟩).1.data.toList)
 have h4:=hev true (Ty.words (zbe ⟨x.toArray⟩).2.1.data.toList)
 obtain ⟨_,_,_,_,h5,h6,_⟩:=h2
 have e1:Ty.insOf x=Ty.evens (Ty.words (zbe ⟨x.toArray⟩).1.data.toList):=h1.1
 have e2:Ty.outsOf x=Ty.evens (Ty.words (zbe ⟨x.toArray⟩).2.1.data.toList):=h1.2.1
 rw [e1,e2]
 unfold Ty.evens
 omega
theorem zai {w w':World} {P:Nat→Prop} (h:Below w.heap.size w w'):zbR P P w w':=⟨fun a _ hlt=>h.block a hlt,fun _ h=>h⟩
theorem ziv {B:Nat} {w w':World} (h:Below B w w') (hB:w.heap.size≤B):Below w.heap.size w w':=h.mono hB
def zfe (ss:List zad) (v:PVar) (r:Int):Prop:=
 (Ty.scalar v.kind=true∧r=1) ∨
 (Ty.scalar v.kind=false∧v.kind=12∧Ty.scalar v.elem=false∧r=0) ∨
 (Ty.scalar v.kind=false∧v.kind=12∧Ty.scalar v.elem=true∧v.hi < v.lo∧r=0) ∨
 (Ty.scalar v.kind=false∧v.kind=12∧Ty.scalar v.elem=true∧v.lo≤v.hi∧v.lo < -2147483648∧r=0) ∨
 (Ty.scalar v.kind=false∧v.kind=12∧Ty.scalar v.elem=true∧v.lo≤v.hi∧-2147483648≤v.lo∧2147483647 < v.hi∧r=0) ∨
 (Ty.scalar v.kind=false∧v.kind=12∧Ty.scalar v.elem=true∧v.lo≤v.hi∧-2147483648≤v.lo∧v.hi≤2147483647∧256≤v.hi - v.lo∧r=0) ∨
 (Ty.scalar v.kind=false∧v.kind=12∧Ty.scalar v.elem=true∧v.lo≤v.hi∧-2147483648≤v.lo∧v.hi≤2147483647∧v.hi - v.lo < 256∧r=v.hi - v.lo+1) ∨
 (Ty.scalar v.kind=false∧v.kind≠12∧v.kind≠0∧r=0) ∨
 (v.kind=0∧∃ s,Ty.structOf ss v.tname=some s∧r=s.fields.length) ∨
 (v.kind=0∧Ty.structOf ss v.tname=none∧Ty.block v.tname=true∧r=(Ty.insOf v.tname).length+(Ty.outsOf v.tname).length+3) ∨
 (v.kind=0∧Ty.structOf ss v.tname=none∧Ty.block v.tname=false∧r=0)
theorem zcm {ss:List zad} {v:PVar} {r:Int} (h:Ty.size ss v=r):zfe ss v r:=by
 unfold Ty.size at h
 unfold zfe
 cases hs:Ty.scalar v.kind with
 | true=>rw [hs,if_pos rfl] at h;exact .inl ⟨rfl,h.symm⟩
 | false=>
  rw [hs,if_neg (by simp)] at h
  refine .inr ?_
  by_cases h12:v.kind=12
  ·rw [if_pos h12] at h
   cases he:Ty.scalar v.elem with
   | false=>rw [if_pos (.inl he)] at h;exact .inl ⟨rfl,h12,rfl,h.symm⟩
   | true=>
    refine .inr ?_
    by_cases a1:v.hi < v.lo
    ·rw [if_pos (.inr (.inl a1))] at h;exact .inl ⟨rfl,h12,rfl,a1,h.symm⟩
    refine .inr ?_
    by_cases a2:v.lo < -2147483648
    ·rw [if_pos (.inr (.inr (.inl a2)))] at h;exact .inl ⟨rfl,h12,rfl,by omega,a2,h.symm⟩
    refine .inr ?_
    by_cases a3:2147483647 < v.hi
    ·rw [if_pos (.inr (.inr (.inr (.inl a3))))] at h;exact .inl ⟨rfl,h12,rfl,by omega,by omega,a3,h.symm⟩
    refine .inr ?_
    by_cases a4:256≤v.hi - v.lo
    ·rw [if_pos (.inr (.inr (.inr (.inr a4))))] at h;exact .inl ⟨rfl,h12,rfl,by omega,by omega,by omega,a4,h.symm⟩
    refine .inr (.inl ?_)
    rw [if_neg (by rw [he];simp;omega)] at h
    exact ⟨rfl,h12,rfl,by omega,by omega,by omega,by omega,h.symm⟩
  ·rw [if_neg h12] at h
   refine .inr (.inr (.inr (.inr (.inr (.inr ?_)))))
   by_cases h0:v.kind=0
   ·refine .inr ?_
    rw [if_neg (by simpa using h0)] at h
    cases hst:Ty.structOf ss v.tname with
    | some s=>rw [hst] at h;exact .inl ⟨h0,s,rfl,h.symm⟩
    | none=>
     rw [hst] at h
     refine .inr ?_
     cases hb:Ty.block v.tname with
     | true=>simp only [hb,if_true] at h;exact .inl ⟨h0,rfl,rfl,h.symm⟩
     | false=>simp only [hb,Bool.false_eq_true,if_false] at h;exact .inr ⟨h0,rfl,rfl,h.symm⟩
   ·rw [if_pos h0] at h;exact .inl ⟨rfl,h12,h0,h.symm⟩
theorem ziq {d:zaQ} {il:Bool} {row:List Value} {P:Nat→Prop} {v:PVar} {r:Int} (hr:Ty.size d.structs v=r) (w:World) (he:LEnv w) (hd:zaF w P il d row) (hn:d.structs.length≤100000) (hf:∀ s ∈ d.structs,s.fields.length≤100000) (hl:Is64 v.lo) (hh:Is64 v.hi) :
  Calls Tryz.prog 37 #[.agg row.toArray,.agg (typC v)] w fun e w'=>e=.returned (.int .i64 r)∧Below w.heap.size w w':=by
 have hways:=zcm hr
 obtain ⟨so,hso⟩:∃ so,Ty.structOf d.structs v.tname=so:=⟨_,rfl⟩
 obtain ⟨tb,htb⟩:∃ tb:ByteArray,(⟨v.tname.toArray⟩:ByteArray)=tb:=⟨_,rfl⟩
 have htl:tb.data.toList=v.tname:=by rw [← htb]
 have HSO:=hd_ (fun W (hW:zaF W P il d row)=>zbM (nm:=tb) (r:=so) (by rw [htl];exact hso) W hW hn)
 have HPI:=hd_ (fun W (hW:LEnv W)=>zeu tb W hW)
 obtain ⟨bl,hbl⟩:∃ bl,Ty.block v.tname=bl:=⟨_,rfl⟩
 have HBL:=hd_ (fun W=>zcW (x:=tb) (r:=bl) (by rw [htl];exact hbl) W)
 have HSC:=hd_ (fun k W=>zeo k W)
 have HE:=hd_ he
 have HD:=hd_ hd
 obtain ⟨p1,p2⟩:=zb5 v.tname
 have HW:=hd_ hways
 have HTL:=hd_ htl
 have HSV:=hd_ hso
 have HBV:=hd_ hbl
 have HFL:=hd_ hf
 obtain ⟨vs,vv,bda,bdn,bdc,lna,lnn,lnc,rfl,hss,hvv⟩:=hd
 obtain ⟨va,vn,vc,rfl⟩:=hss.shape
 obtain ⟨ua,un,uc,rfl⟩:=hvv.shape
 obtain ⟨nb,hnb⟩:∃ nb:ByteArray,(⟨d.name.toArray⟩:ByteArray)=nb:=⟨_,rfl⟩
 obtain ⟨vnm,kind,lo,hi,el,tn,re,ad,ini,at9⟩:=v
 simp only [typC]
 simp only at hl hh htb htl p1 p2
 rw [htb]
 rw [hnb] at HSO HD ⊢
 have HD1:=hd_ (HD.out.keeps (zai (((Below.refl _ w).alloc nl_ (.cells #[.string nb,.slice va vn vc,.slice ua un uc,.bool il,.slice bda bdn bdc,.slice lna lnn lnc] 28)).alloc (by simp) (.cells #[.int .i64 kind,.int .i64 lo,.int .i64 hi,.int .i64 el,.string tb] 51))))
 clear hr hways hso hbl he hss hvv hnb htb htl HD hf
 go_enter Tryz.func37,Tryz.ntmps37
 go_wp2_with fail
 refine (HSO.out _ HD1.out).mono ?_
 rintro e w1 ⟨sv,rfl,hsv,hb1⟩
 obtain ⟨snm,sa,sn,sc,sta,hsve,hsn⟩:∃ snm sa sn sc sta,sv=.agg #[.string snm,.slice sa sn sc,.int .i64 sta]∧∀ s,so=some s→sn=s.fields.length:=by
  cases so with
  | none=>exact ⟨_,_,_,_,_,hsv,fun s h=>by cases h⟩
  | some s=>
   obtain ⟨a1,a2,a3,a4,a5⟩:=hsv.len
   exact ⟨a1,a2,_,a3,a4,a5,fun s' h=>by injection h with h;rw [h]⟩
 subst hsve
 have HSN:=hd_ hsn
 have T1:=hd_ ((Bl.newAt (X:=w.heap.size+1) (w.alloc (.cells #[.string nb,.slice va vn vc,.slice ua un uc,.bool il,.slice bda bdn bdc,.slice lna lnn lnc] 28)) (vs:=#[.int .i64 kind,.int .i64 lo,.int .i64 hi,.int .i64 el,.string tb]) (T:=51) (by simp)).below hb1)
 have B1:Hid (Below w.heap.size w w1):=hd_ (zal ((br_.alloc nl_ _).alloc (by simp) _) hb1 (by simp;omega))
 clear hsv hb1 hsn HSO HD1
 obtain ⟨x0,x1,x2,x3,x4⟩:=T1.out.cells5
 have kt:=T1.out.lt
 go_wp2_with fail
 refine (HPI.out _ (HE.out.below (B1.out.alloc B1.out.size _))).mono ?_
 rintro e w2 ⟨v1,v2,rfl,ho1,ho2,hb2⟩
 obtain ⟨a1,c1,rfl⟩:=zb4 ho1
 obtain ⟨a2,c2,rfl⟩:=zb4 ho2
 have hil:(Ty.insOf tb.data.toList).length=(Ty.insOf tn).length:=by rw [HTL.out]
 have hol:(Ty.outsOf tb.data.toList).length=(Ty.outsOf tn).length:=by rw [HTL.out]
 rw [hil,hol]
 have T2:=hd_ ((T1.out.alloc _).below hb2)
 have S2:=hd_ ((Bl.new _ _ _).below hb2)
 have B2:=hd_ (zah (B1.out.alloc B1.out.size _) (by exact ziv hb2 nl_))
 clear ho1 ho2 hb2 x0 x1 x2 x3 x4 kt T1 B1 hil hol HPI HE
 obtain ⟨li,hli⟩:∃ n,(Ty.insOf tn).length=n:=⟨_,rfl⟩
 obtain ⟨lx,hlx⟩:∃ n,(Ty.outsOf tn).length=n:=⟨_,rfl⟩
 have HLI:=hd_ hli
 have HLX:=hd_ hlx
 rw [hli] at p1 ⊢
 rw [hlx] at p2 ⊢
 clear hli hlx
 obtain ⟨x0,x1,x2,x3,x4⟩:=T2.out.cells5
 obtain ⟨-,y1,-⟩:=S2.out.cells3
 have kt:=T2.out.lt
 have ks:=S2.out.lt
 have m1:IntKind.i64.wrap ((li:Int)+lx)=(li:Int)+lx:=IntWalk.i64_in _ (by omega)
 have m2:IntKind.i64.wrap ((li:Int)+lx+3)=(li:Int)+lx+3:=IntWalk.i64_in _ (by omega)
 obtain ⟨hl1,hl2⟩:=hl
 obtain ⟨hh1,hh2⟩:=hh
 have HWW:=HW.out
 unfold zfe at HWW
 simp only at HWW
 clear HW
 rcases HWW with ⟨f1,f9⟩ | ⟨f1,f2,f3,f9⟩ | ⟨f1,f2,f3,f4,f9⟩ | ⟨f1,f2,f3,f4,f5,f9⟩ | ⟨f1,f2,f3,f4,f5,f6,f9⟩ | ⟨f1,f2,f3,f4,f5,f6,f7,f9⟩ | ⟨f1,f2,f3,f4,f5,f6,f7,f9⟩ | ⟨f1,f2,f3,f9⟩ | ⟨f1,s,f2,f9⟩ | ⟨f1,f2,f3,f9⟩ | ⟨f1,f2,f3,f9⟩
 ·have e0:=f1
  have H9:=hd_ f9
  clear f9
  go_wp2_with (first | (go_at_call 66;refine (HSC.out _ w2).mono ?_;rintro e w3 ⟨rfl,hb3⟩;have T3:=hd_ (T2.out.below hb3);have S3:=hd_ (S2.out.below hb3);have B3:=hd_ (zah B2.out hb3);obtain ⟨u0,u1,u2,u3,u4⟩:=T3.out.cells5;obtain ⟨-,z1,-⟩:=S3.out.cells3;have kt3:=T3.out.lt;have ks3:=S3.out.lt;clear hb3) | (go_at_call 66;refine (HSC.out _ w3).mono ?_;rintro e w4 ⟨rfl,hb3⟩;have T4:=hd_ (T3.out.below hb3);have B4:=hd_ (zah B3.out hb3);obtain ⟨q0,q1,q2,q3,q4⟩:=T4.out.cells5;have kt4:=T4.out.lt;clear hb3) | (go_at_call 19;refine (HBL.out w3).mono ?_;rintro e w4 ⟨rfl,rfl⟩))
  go_ret
  exact ⟨zaf (H9.out.symm),B3.out⟩
 ·subst f2
  have H9:=hd_ f9
  clear f9
  go_wp2_with (first | (go_at_call 66;refine (HSC.out _ w2).mono ?_;rintro e w3 ⟨rfl,hb3⟩;have T3:=hd_ (T2.out.below hb3);have S3:=hd_ (S2.out.below hb3);have B3:=hd_ (zah B2.out hb3);obtain ⟨u0,u1,u2,u3,u4⟩:=T3.out.cells5;obtain ⟨-,z1,-⟩:=S3.out.cells3;have kt3:=T3.out.lt;have ks3:=S3.out.lt;clear hb3) | (go_at_call 66;refine (HSC.out _ w3).mono ?_;rintro e w4 ⟨rfl,hb3⟩;have T4:=hd_ (T3.out.below hb3);have B4:=hd_ (zah B3.out hb3);obtain ⟨q0,q1,q2,q3,q4⟩:=T4.out.cells5;have kt4:=T4.out.lt;clear hb3) | (go_at_call 19;refine (HBL.out w3).mono ?_;rintro e w4 ⟨rfl,rfl⟩))
  go_ret
  exact ⟨zaf (H9.out.symm),B4.out⟩
 ·subst f2
  have H9:=hd_ f9
  clear f9
  go_wp2_with (first | (go_at_call 66;refine (HSC.out _ w2).mono ?_;rintro e w3 ⟨rfl,hb3⟩;have T3:=hd_ (T2.out.below hb3);have S3:=hd_ (S2.out.below hb3);have B3:=hd_ (zah B2.out hb3);obtain ⟨u0,u1,u2,u3,u4⟩:=T3.out.cells5;obtain ⟨-,z1,-⟩:=S3.out.cells3;have kt3:=T3.out.lt;have ks3:=S3.out.lt;clear hb3) | (go_at_call 66;refine (HSC.out _ w3).mono ?_;rintro e w4 ⟨rfl,hb3⟩;have T4:=hd_ (T3.out.below hb3);have B4:=hd_ (zah B3.out hb3);obtain ⟨q0,q1,q2,q3,q4⟩:=T4.out.cells5;have kt4:=T4.out.lt;clear hb3) | (go_at_call 19;refine (HBL.out w3).mono ?_;rintro e w4 ⟨rfl,rfl⟩))
  go_ret
  exact ⟨zaf (H9.out.symm),B4.out⟩
 ·subst f2
  have g4:¬ hi < lo:=by omega
  have H9:=hd_ f9
  clear f9
  go_wp2_with (first | (go_at_call 66;refine (HSC.out _ w2).mono ?_;rintro e w3 ⟨rfl,hb3⟩;have T3:=hd_ (T2.out.below hb3);have S3:=hd_ (S2.out.below hb3);have B3:=hd_ (zah B2.out hb3);obtain ⟨u0,u1,u2,u3,u4⟩:=T3.out.cells5;obtain ⟨-,z1,-⟩:=S3.out.cells3;have kt3:=T3.out.lt;have ks3:=S3.out.lt;clear hb3) | (go_at_call 66;refine (HSC.out _ w3).mono ?_;rintro e w4 ⟨rfl,hb3⟩;have T4:=hd_ (T3.out.below hb3);have B4:=hd_ (zah B3.out hb3);obtain ⟨q0,q1,q2,q3,q4⟩:=T4.out.cells5;have kt4:=T4.out.lt;clear hb3) | (go_at_call 19;refine (HBL.out w3).mono ?_;rintro e w4 ⟨rfl,rfl⟩))
  go_ret
  exact ⟨zaf (H9.out.symm),B4.out⟩
 ·subst f2
  have g4:¬ hi < lo:=by omega
  have g5:¬ lo < -2147483648:=by omega
  have H9:=hd_ f9
  clear f9
  go_wp2_with (first | (go_at_call 66;refine (HSC.out _ w2).mono ?_;rintro e w3 ⟨rfl,hb3⟩;have T3:=hd_ (T2.out.below hb3);have S3:=hd_ (S2.out.below hb3);have B3:=hd_ (zah B2.out hb3);obtain ⟨u0,u1,u2,u3,u4⟩:=T3.out.cells5;obtain ⟨-,z1,-⟩:=S3.out.cells3;have kt3:=T3.out.lt;have ks3:=S3.out.lt;clear hb3) | (go_at_call 66;refine (HSC.out _ w3).mono ?_;rintro e w4 ⟨rfl,hb3⟩;have T4:=hd_ (T3.out.below hb3);have B4:=hd_ (zah B3.out hb3);obtain ⟨q0,q1,q2,q3,q4⟩:=T4.out.cells5;have kt4:=T4.out.lt;clear hb3) | (go_at_call 19;refine (HBL.out w3).mono ?_;rintro e w4 ⟨rfl,rfl⟩))
  go_ret
  exact ⟨zaf (H9.out.symm),B4.out⟩
 ·subst f2
  have g4:¬ hi < lo:=by omega
  have g5:¬ lo < -2147483648:=by omega
  have g6:¬ 2147483647 < hi:=by omega
  have m3:IntKind.i64.wrap (hi - lo)=hi - lo:=IntWalk.i64_in _ (by omega)
  have H9:=hd_ f9
  clear f9
  go_wp2_with (first | (go_at_call 66;refine (HSC.out _ w2).mono ?_;rintro e w3 ⟨rfl,hb3⟩;have T3:=hd_ (T2.out.below hb3);have S3:=hd_ (S2.out.below hb3);have B3:=hd_ (zah B2.out hb3);obtain ⟨u0,u1,u2,u3,u4⟩:=T3.out.cells5;obtain ⟨-,z1,-⟩:=S3.out.cells3;have kt3:=T3.out.lt;have ks3:=S3.out.lt;clear hb3) | (go_at_call 66;refine (HSC.out _ w3).mono ?_;rintro e w4 ⟨rfl,hb3⟩;have T4:=hd_ (T3.out.below hb3);have B4:=hd_ (zah B3.out hb3);obtain ⟨q0,q1,q2,q3,q4⟩:=T4.out.cells5;have kt4:=T4.out.lt;clear hb3) | (go_at_call 19;refine (HBL.out w3).mono ?_;rintro e w4 ⟨rfl,rfl⟩))
  go_ret
  exact ⟨zaf (H9.out.symm),B4.out⟩
 ·subst f2
  have g4:¬ hi < lo:=by omega
  have g5:¬ lo < -2147483648:=by omega
  have g6:¬ 2147483647 < hi:=by omega
  have m3:IntKind.i64.wrap (hi - lo)=hi - lo:=IntWalk.i64_in _ (by omega)
  have m4:IntKind.i64.wrap (hi - lo+1)=hi - lo+1:=IntWalk.i64_in _ (by omega)
  have H9:=hd_ f9
  clear f9
  go_wp2_with (first | (go_at_call 66;refine (HSC.out _ w2).mono ?_;rintro e w3 ⟨rfl,hb3⟩;have T3:=hd_ (T2.out.below hb3);have S3:=hd_ (S2.out.below hb3);have B3:=hd_ (zah B2.out hb3);obtain ⟨u0,u1,u2,u3,u4⟩:=T3.out.cells5;obtain ⟨-,z1,-⟩:=S3.out.cells3;have kt3:=T3.out.lt;have ks3:=S3.out.lt;clear hb3) | (go_at_call 66;refine (HSC.out _ w3).mono ?_;rintro e w4 ⟨rfl,hb3⟩;have T4:=hd_ (T3.out.below hb3);have B4:=hd_ (zah B3.out hb3);obtain ⟨q0,q1,q2,q3,q4⟩:=T4.out.cells5;have kt4:=T4.out.lt;clear hb3) | (go_at_call 19;refine (HBL.out w3).mono ?_;rintro e w4 ⟨rfl,rfl⟩))
  go_ret
  exact ⟨zaf (H9.out.symm),B4.out⟩
 ·have g2:(kind==12)=false:=by simpa using f2
  have g3:(kind==0)=false:=by simpa using f3
  have H9:=hd_ f9
  clear f2 f3 f9
  go_wp2_with (first | (go_at_call 66;refine (HSC.out _ w2).mono ?_;rintro e w3 ⟨rfl,hb3⟩;have T3:=hd_ (T2.out.below hb3);have S3:=hd_ (S2.out.below hb3);have B3:=hd_ (zah B2.out hb3);obtain ⟨u0,u1,u2,u3,u4⟩:=T3.out.cells5;obtain ⟨-,z1,-⟩:=S3.out.cells3;have kt3:=T3.out.lt;have ks3:=S3.out.lt;clear hb3) | (go_at_call 66;refine (HSC.out _ w3).mono ?_;rintro e w4 ⟨rfl,hb3⟩;have T4:=hd_ (T3.out.below hb3);have B4:=hd_ (zah B3.out hb3);obtain ⟨q0,q1,q2,q3,q4⟩:=T4.out.cells5;have kt4:=T4.out.lt;clear hb3) | (go_at_call 19;refine (HBL.out w3).mono ?_;rintro e w4 ⟨rfl,rfl⟩))
  go_ret
  exact ⟨zaf (H9.out.symm),B3.out⟩
 ·subst f1
  have fs:Ty.scalar 0=false:=rfl
  have hso:so=some s:=by rw [← HSV.out];exact f2
  subst hso
  have HSS:=hd_ (HSN.out s rfl)
  have H9:=hd_ f9
  clear f2 f9
  go_wp2_with (first | (go_at_call 66;refine (HSC.out _ w2).mono ?_;rintro e w3 ⟨rfl,hb3⟩;have T3:=hd_ (T2.out.below hb3);have S3:=hd_ (S2.out.below hb3);have B3:=hd_ (zah B2.out hb3);obtain ⟨u0,u1,u2,u3,u4⟩:=T3.out.cells5;obtain ⟨-,z1,-⟩:=S3.out.cells3;have kt3:=T3.out.lt;have ks3:=S3.out.lt;clear hb3) | (go_at_call 66;refine (HSC.out _ w3).mono ?_;rintro e w4 ⟨rfl,hb3⟩;have T4:=hd_ (T3.out.below hb3);have B4:=hd_ (zah B3.out hb3);obtain ⟨q0,q1,q2,q3,q4⟩:=T4.out.cells5;have kt4:=T4.out.lt;clear hb3) | (go_at_call 19;refine (HBL.out w3).mono ?_;rintro e w4 ⟨rfl,rfl⟩))
  go_ret
  exact ⟨zaf (by rw [H9.out,HSS.out]),B3.out⟩
 ·subst f1
  have fs:Ty.scalar 0=false:=rfl
  have hso:so=none:=by rw [← HSV.out];exact f2
  subst hso
  have hbl:bl=true:=by rw [← HBV.out];exact f3
  subst hbl
  have H9:=hd_ f9
  clear f2 f3 f9
  go_wp2_with (first | (go_at_call 66;refine (HSC.out _ w2).mono ?_;rintro e w3 ⟨rfl,hb3⟩;have T3:=hd_ (T2.out.below hb3);have S3:=hd_ (S2.out.below hb3);have B3:=hd_ (zah B2.out hb3);obtain ⟨u0,u1,u2,u3,u4⟩:=T3.out.cells5;obtain ⟨-,z1,-⟩:=S3.out.cells3;have kt3:=T3.out.lt;have ks3:=S3.out.lt;clear hb3) | (go_at_call 66;refine (HSC.out _ w3).mono ?_;rintro e w4 ⟨rfl,hb3⟩;have T4:=hd_ (T3.out.below hb3);have B4:=hd_ (zah B3.out hb3);obtain ⟨q0,q1,q2,q3,q4⟩:=T4.out.cells5;have kt4:=T4.out.lt;clear hb3) | (go_at_call 19;refine (HBL.out w3).mono ?_;rintro e w4 ⟨rfl,rfl⟩))
  go_ret
  exact ⟨zaf (by rw [H9.out,HLI.out,HLX.out]),B3.out⟩
 ·subst f1
  have fs:Ty.scalar 0=false:=rfl
  have hso:so=none:=by rw [← HSV.out];exact f2
  subst hso
  have hbl:bl=false:=by rw [← HBV.out];exact f3
  subst hbl
  have H9:=hd_ f9
  clear f2 f3 f9
  go_wp2_with (first | (go_at_call 66;refine (HSC.out _ w2).mono ?_;rintro e w3 ⟨rfl,hb3⟩;have T3:=hd_ (T2.out.below hb3);have S3:=hd_ (S2.out.below hb3);have B3:=hd_ (zah B2.out hb3);obtain ⟨u0,u1,u2,u3,u4⟩:=T3.out.cells5;obtain ⟨-,z1,-⟩:=S3.out.cells3;have kt3:=T3.out.lt;have ks3:=S3.out.lt;clear hb3) | (go_at_call 66;refine (HSC.out _ w3).mono ?_;rintro e w4 ⟨rfl,hb3⟩;have T4:=hd_ (T3.out.below hb3);have B4:=hd_ (zah B3.out hb3);obtain ⟨q0,q1,q2,q3,q4⟩:=T4.out.cells5;have kt4:=T4.out.lt;clear hb3) | (go_at_call 19;refine (HBL.out w3).mono ?_;rintro e w4 ⟨rfl,rfl⟩))
  go_ret
  exact ⟨zaf (H9.out.symm),B3.out⟩
open Go.Maps Go.WideMaps
theorem zlA:Keyed Tryz.prog 9:=string_keyed Tryz.underlying9
theorem zmc (w:World):(zeroValue 3).run Tryz.prog w=.ok (.int .i64 0) w:=by kernel_rfl
def Cnt (D:DataW Unit) (seen:List (List UInt8)):Prop:=
 IsMap D∧∀ n:List UInt8,∃ c:Int,D.atKey (.string n) (.lit (.int .i64 0))=.lit (.int .i64 c)∧0≤c∧c≤seen.length∧(0 < c↔n ∈ seen)
theorem Cnt.start:Cnt (.map []) []:=by
 refine ⟨isMap_empty,fun n=>⟨0,rfl,Int.le_refl _,by simp,by simp⟩⟩
theorem Cnt.put {D:DataW Unit} {seen:List (List UInt8)} (h:Cnt D seen) {n:List UInt8} {c:Int} (hc:0≤c) (hl:c≤seen.length):Cnt (D.put (.string n) (.lit (.int .i64 (c+1)))) (n::seen):=by
 obtain ⟨h1,h2⟩:=h
 refine ⟨h1.put _ _,fun m=>?_⟩
 by_cases he:m=n
 ·subst he
  refine ⟨c+1,?_,by omega,by simp;omega,by simp;omega⟩
  exact atKey_put_same (k:=.string m) h1 (by trivial) _ _
 ·obtain ⟨c2,h3,h4,h5,h6⟩:=h2 m
  refine ⟨c2,?_,h4,by simp;omega,by rw [h6];simp [he]⟩
  rw [← h3]
  exact atKey_put_other (by simpa using he) _ _
def MapS (w:World) (b:Nat) (seen:List (List UInt8)):Prop:=
 ∃ D:DataW Unit,w.ownsMap Tryz.prog 9 (plainElem Tryz.prog 3) b seen.length D∧Cnt D seen
theorem MapS.start (w:World):MapS (w.alloc (.map #[] 0)) w.heap.size []:=⟨_,World.ownsMap_made _ _ _ _,Cnt.start⟩
section
variable {w w':World} {b:Nat} {seen:List (List UInt8)}
theorem MapS.lt (h:MapS w b seen):b < w.heap.size:=by
 obtain ⟨D,h1,_⟩:=h
 exact h1.lt
theorem MapS.kept {row:Option Nat} (h:MapS w b seen) (hg:w.grownBy w' row) (hne:some b≠row):MapS w' b seen:=by
 obtain ⟨D,h1,h2⟩:=h
 exact ⟨D,h1.kept hg hne,h2⟩
theorem MapS.below (h:MapS w b seen) (hb:Below w.heap.size w w'):MapS w' b seen:=
 h.kept (row:=none) ⟨hb.os,hb.tape,hb.output,hb.size,fun k hk _=>hb.block k hk⟩ (by simp)
theorem MapS.alloc (h:MapS w b seen) (o:Obj):MapS (w.alloc o) b seen:=h.below (br_.alloc nl_ o)
theorem MapS.look (h:MapS w b seen) (nm:ByteArray) (hs:nm.size≤maxLen) :
  ∃ c:Int,(Instr.lookup 77 (.map (some b)) (.string nm) false).run Tryz.prog w=.ok (.int .i64 c) w∧0≤c∧c≤seen.length∧(0 < c↔nm.data.toList ∈ seen):=by
 obtain ⟨D,h1,h2,h3⟩:=h
 obtain ⟨c,hrun,hat,_⟩:=h1.lookup_int zlA Tryz.underlying77 Tryz.underlying3 (zmc _) (key:=.string nm) (keyOf_string_mk Tryz.underlying9 hs)
 obtain ⟨c2,h4,h5,h6,h7⟩:=h3 nm.data.toList
 rw [hat] at h4
 injection h4 with h4
 injection h4 with _ h4
 subst h4
 exact ⟨c,hrun,h5,h6,h7⟩
theorem MapS.upd (h:MapS w b seen) (hn:seen.length < 1000000) (nm:ByteArray) (hs:nm.size≤maxLen) {c:Int} (h0:0≤c) (hl:c≤seen.length) :
  ∃ w',(Instr.mapUpdate 77 (.map (some b)) (.string nm) (.int .i64 (c+1))).run Tryz.prog w=.ok () w'∧MapS w' b (nm.data.toList::seen)∧w.grownBy w' (some b):=by
 obtain ⟨D,h1,h2⟩:=h
 obtain ⟨w',hrun,h3,h4⟩:=h1.update zlA Tryz.underlying77 (by unfold maxLen;omega) (key:=.string nm) (keyOf_string_mk Tryz.underlying9 hs) (plainElem_int (a:=c+1) Tryz.underlying3 (WalkArith.wf_i64 (by omega)))
 exact ⟨w',hrun,⟨_,h3,h2.put h0 hl⟩,h4⟩
end
end Go.Proofs.YtdpkjpjkdmkkpaaGreatDoor
