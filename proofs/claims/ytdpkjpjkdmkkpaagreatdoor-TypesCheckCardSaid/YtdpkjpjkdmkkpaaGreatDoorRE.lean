/- The reference's Check, told by numbers: what stands ahead of a struct, a field, a variable. -/
import Derived.Test.YtdpkjpjkdmkkpaaGreatDoorR15I
set_option maxRecDepth 100000
set_option maxHeartbeats 16000000
namespace Go.Proofs.YtdpkjpjkdmkkpaaGreatDoor
open Lx Pa
theorem zdY {l:List PVar}:∀ {a b:List (List UInt8)},(∀ x,x ∈ a↔x ∈ b)→Rf.fieldsErr a l=Rf.fieldsErr b l:=by
 induction l with
 | nil=>intro a b _;rfl
 | cons f r ih=>
  intro a b h
  rw [Rf.fieldsErr,Rf.fieldsErr,ih (a:=f.name::a) (b:=f.name::b) (fun x=>by simp [h x])]
  by_cases h1:f.name ∈ a
  ·rw [if_pos h1,if_pos ((h _).1 h1)]
  ·rw [if_neg h1,if_neg (fun h2=>h1 ((h _).2 h2))]
theorem zdv {l:List zad}:∀ {a b:List (List UInt8)},(∀ x,x ∈ a↔x ∈ b)→Rf.structsErr a l=Rf.structsErr b l:=by
 induction l with
 | nil=>intro a b _;rfl
 | cons f r ih=>
  intro a b h
  rw [Rf.structsErr,Rf.structsErr,ih (a:=f.name::a) (b:=f.name::b) (fun x=>by simp [h x])]
  have h2:(Ty.block f.name=true∨f.name ∈ a)↔(Ty.block f.name=true∨f.name ∈ b):=by rw [h]
  simp only [h2]
theorem zg3 {ss:List zad} {v:PVar} {a b c e:List (List UInt8)} (h:∀ x,x ∈ a↔x ∈ b) (h2:∀ x,x ∈ c↔x ∈ e):Rf.varErr ss a c v=Rf.varErr ss b e v:=by
 unfold Rf.varErr
 simp only [h,h2]
theorem zf2 {ss:List zad} {l:List PVar}:∀ {a b c e:List (List UInt8)} {n:Int},(∀ x,x ∈ a↔x ∈ b)→(∀ x,x ∈ c↔x ∈ e)→Rf.varsErr ss l a c n=Rf.varsErr ss l b e n:=by
 induction l with
 | nil=>intros;rfl
 | cons v r ih=>
  intro a b c e n h h2
  rw [Rf.varsErr,Rf.varsErr,zg3 h h2,ih (a:=v.name::a) (b:=v.name::b) (c:=v.addr::c) (e:=v.addr::e) (fun x=>by simp [h x]) (fun x=>by simp [h2 x])]
theorem zdz {α β:Type} {f:α→β} {l:List α} {i:Nat} {s:α} (h:l[i]? = some s) (x:β):x ∈ f s::(l.take i).map f↔x ∈ (l.take (i+1)).map f:=by
 rw [List.take_add_one,h]
 simp [or_comm]
theorem zdw {α:Type} {l:List α} {i:Nat} {s:α} (h:l[i]? = some s):l.drop i=s::l.drop (i+1):=by
 obtain ⟨hi,ha⟩:=List.getElem?_eq_some_iff.1 h
 rw [List.drop_eq_getElem_cons hi,ha]
theorem zdZ {l:List PVar} {i:Nat} {f:PVar} (h:l[i]? = some f):Rf.fieldsErr ((l.take i).map PVar.name) (l.drop i) =
  if f.name ∈ (l.take i).map PVar.name then some (f.at_,151) else if (Rf.first f.kind f.init).2=false then some (f.at_,154) else Rf.fieldsErr ((l.take (i+1)).map PVar.name) (l.drop (i+1)):=by
 rw [zdw h,Rf.fieldsErr,zdY (zdz h)]
theorem zgS {l:List zad} {i:Nat} {s:zad} (h:l[i]? = some s):Rf.structsErr ((l.take i).map zad.name) (l.drop i) =
  if Ty.block s.name=true∨s.name ∈ (l.take i).map zad.name then some (s.at_,151) else if s.fields.length=0∨256 < s.fields.length then some (s.at_,155)
  else match Rf.fieldsErr [] s.fields with | some e=>some e | none=>Rf.structsErr ((l.take (i+1)).map zad.name) (l.drop (i+1)):=by
 rw [zdw h,Rf.structsErr,zdv (zdz h)]
 rfl
theorem zcp {ss:List zad} {l:List PVar} {i:Nat} {v:PVar} {n:Int} (h:l[i]? = some v):Rf.varsErr ss (l.drop i) ((l.take i).map PVar.name) ((l.take i).map PVar.addr) n =
  if Rf.varErr ss ((l.take i).map PVar.name) ((l.take i).map PVar.addr) v≠0 then some (v.at_,Rf.varErr ss ((l.take i).map PVar.name) ((l.take i).map PVar.addr) v)
  else if 4096 < n+Rf.cellsOf ss v then some (v.at_,155) else Rf.varsErr ss (l.drop (i+1)) ((l.take (i+1)).map PVar.name) ((l.take (i+1)).map PVar.addr) (n+Rf.cellsOf ss v):=by
 rw [zdw h,Rf.varsErr,zf2 (zdz h) (zdz h)]
theorem ziD {l:List PVar} {i:Nat} (h:l.length≤i) (a:List (List UInt8)):Rf.fieldsErr a (l.drop i)=none:=by rw [List.drop_of_length_le h];rfl
theorem zhe {l:List zad} {i:Nat} (h:l.length≤i) (a:List (List UInt8)):Rf.structsErr a (l.drop i)=none:=by rw [List.drop_of_length_le h];rfl
theorem zkG {ss:List zad} {l:List PVar} {i:Nat} (h:l.length≤i) (a b:List (List UInt8)) (n:Int):Rf.varsErr ss (l.drop i) a b n=none:=by rw [List.drop_of_length_le h];rfl
theorem znJ {l:List zad} {i:Nat} {s:zad} (h:l[i]? = some s):ixF s.name l 0 < i↔s.name ∈ (l.take i).map zad.name:=by
 have key:∀ (l:List zad) (i:Nat) (k:Int) (n:List UInt8),l[i]? = some s→s.name=n→(ixF n l k < k+i↔n ∈ (l.take i).map zad.name):=by
  intro l
  induction l with
  | nil=>intro i k n h _;simp at h
  | cons a r ih=>
   intro i k n h hn
   cases i with
   | zero=>
    simp at h
    subst h
    simp [ixF,hn]
   | succ i=>
    by_cases ha:a.name=n
    ·simp [ixF,ha];omega
    ·have h2:=ih i (k+1) n (by simpa using h) hn
     rw [ixF,if_neg ha]
     have h3:k+((i+1:Nat):Int)=k+1+(i:Int):=by push_cast;omega
     rw [h3,h2]
     simp [Ne.symm ha,ha]
 have h2:=key l i 0 s.name h rfl
 simpa using h2
theorem zg4 {ss:List zad} {v:PVar} {a b:List (List UInt8)} (h:Rf.varErr ss a b v=0):v.kind=12→0≤v.hi - v.lo∧v.hi - v.lo < 256:=by
 intro h12
 unfold Rf.varErr at h
 split at h
 ·cases h
 ·split at h
  ·cases h
  ·split at h
   ·cases h
   ·split at h
    ·cases h
    ·rename_i h4
     have h5:¬ (v.hi < v.lo∨v.lo < -2147483648∨2147483647 < v.hi∨256≤v.hi - v.lo):=fun h6=>h4 ⟨h12,h6⟩
     omega
theorem zhb {ss:List zad} {v:PVar} (hs:∀ s ∈ ss,s.fields.length≤100000) (h:v.kind=12→0≤v.hi - v.lo∧v.hi - v.lo < 256):0≤Rf.cellsOf ss v∧Rf.cellsOf ss v≤100000:=by
 unfold Rf.cellsOf
 have hp:=zb5 v.tname
 split
 ·rename_i h1;have:=h h1;omega
 ·split
  ·omega
  ·split
   ·cases h2:Ty.structOf ss v.tname with
    | none=>simp
    | some s=>have:=hs s (zaZ h2);simp only;omega
   ·omega
open Ad Go.RowKit
theorem zgB {d:zaQ} {il:Bool} {row:List Value} {P:Nat→Prop} {r:Option (Int × Int)} (hr:Rf.check d.structs d.vars=r) (hok:zbj d) (ht:Rf.DeclT d) (w:World) (hd:zaF w P il d row) :
  Calls Tryz.prog 10 #[.agg row.toArray] w fun e w'=>e=.returned (.tuple #[.int .i64 (r.getD (0,0)).1,.int .i64 (r.getD (0,0)).2])∧Below w.heap.size w w':=by
 have HD:=hd_ hd
 have HOK:=hd_ hok
 have HT:=hd_ ht
 have hns:=hok.few
 have hnv:=hok.many
 have HR:=hd_ hr
 obtain ⟨vs,vv,bda,bdn,bdc,lna,lnn,lnc,rfl,⟨cs,hsl,hrows⟩,⟨cv,hvl,hvrows⟩⟩:=hd
 obtain ⟨va,vc,rfl,hblk⟩:=hsl.form
 obtain ⟨ua,uc,rfl,hvblk⟩:=hvl.form
 obtain ⟨nb,hnb⟩:∃ nb:ByteArray,(⟨d.name.toArray⟩:ByteArray)=nb:=⟨_,rfl⟩
 obtain ⟨NS,hNS⟩:∃ x,d.structs.length=x:=⟨_,rfl⟩
 obtain ⟨N,hN⟩:∃ x,d.vars.length=x:=⟨_,rfl⟩
 have HNS:=hd_ hNS
 have HN:=hd_ hN
 rw [hnb,hNS,hN] at HD
 rw [hNS] at hblk hns
 rw [hN] at hvblk hnv
 rw [hnb,hNS,hN]
 have HSW:=hd_ hrows
 have HVW:=hd_ hvrows
 have HSB:=hd_ hblk
 have HVB:=hd_ hvblk
 obtain ⟨sr,hsr⟩:∃ x,Rf.structsErr [] d.structs=x:=⟨_,rfl⟩
 have HSR0:=hd_ hsr
 have HSR:Hid (∀ q,sr=some q→r=some q):=hd_ (fun q hq=>by rw [← hr];unfold Rf.check;rw [hsr,hq])
 have HSE0:Hid (Rf.structsErr ((d.structs.take 0).map zad.name) (d.structs.drop 0)=sr):=hd_ hsr
 clear hr hok ht hsl hrows hvl hvrows hblk hvblk hnb hNS hN hsr
 go_enter Tryz.func10,Tryz.ntmps10
 go_upto_region 1 with fail
 refine zaa (P:=Code.wp _ _ _ _) (F:=fun W=>Bl W w.heap.size #[.string nb,.slice va NS vc,.slice ua N uc,.bool il,.slice bda bdn bdc,.slice lna lnn lnc] 28∧Below w.heap.size w W)
  ⟨Bl.new _ _ _,br_.alloc nl_ _⟩ ?_
 intro w1 ⟨P1,B1⟩
 have P1:=hd_ P1
 have B1:=hd_ B1
 go_wp2_with fail
 go_loopw [4] (fun v4 wr=>RRel (∃ i:Nat,i≤NS∧v4=.int .i64 i∧Hid (Rf.structsErr ((d.structs.take i).map zad.name) (d.structs.drop i)=sr)∧Hid (Bl wr w.heap.size #[.string nb,.slice va NS vc,.slice ua N uc,.bool il,.slice bda bdn bdc,.slice lna lnn lnc] 28)∧Hid (Below w.heap.size w wr))) (fun v4 _=>NS - (intOf v4).toNat)
 case atStart=>exact RRel.mk ⟨0,Nat.zero_le _,rfl,HSE0,P1,B1⟩
 case round=>
  obtain ⟨i,hi,rfl,HSE,P2,B2⟩:=hrel.it
  clear hrel P1 B1 HSE0
  obtain ⟨w2,rfl⟩:∃ w9,w9=wr:=⟨_,rfl⟩
  obtain ⟨p0,p1,p2,p3,p4,p5⟩:=P2.out.cells6
  have kp:=P2.out.lt
  by_cases hin:i < NS
  ·obtain ⟨s,hs⟩:∃ s,d.structs[i]? = some s:=⟨d.structs[i]'(by have:=HNS.out;omega),by rw [List.getElem?_eq_getElem]⟩
   obtain ⟨rws,hsv,hscells⟩:=HSW.out.get hs
   obtain ⟨sa,sc,fcs,rfl,hfw,hfb⟩:=hsv.split
   obtain ⟨g,hg,hPg,hca⟩:=HSB.out (by omega)
   have HFW:=hd_ hfw
   have HSS:=hd_ hs
   have hsm:=List.mem_of_getElem? hs
   have HST:=hd_ (HT.out.fields s hsm)
   have HSO:=hd_ (HOK.out.strs s hsm).fields
   have hnf:=(HOK.out.strs s hsm).few
   obtain ⟨NF,hNF⟩:∃ x,s.fields.length=x:=⟨_,rfl⟩
   have HNF:=hd_ hNF
   have HFB:Hid (0 < NF→∃ g,sa=some ⟨g,0,none⟩∧zaC w g fcs):=hd_ (hNF▸hfb)
   obtain ⟨SN,hSN⟩:∃ b:ByteArray,(⟨s.name.toArray⟩:ByteArray)=b:=⟨_,rfl⟩
   have HSN:Hid (SN.data.toList=s.name):=hd_ (by rw [← hSN])
   obtain ⟨sat,hsat⟩:∃ x,s.at_=x:=⟨_,rfl⟩
   have HSA:=hd_ hsat
   have d0:=hca (i*3+0) _ ((hscells 0 (by omega)).trans rfl)
   have d1:=hca (i*3+1) _ ((hscells 1 (by omega)).trans rfl)
   have d2:=hca (i*3+2) _ ((hscells 2 (by omega)).trans rfl)
   simp only [Nat.add_zero,hSN,hNF,hsat] at d0 d1 d2
   have kg0:=zac d0
   replace d0:=zab B2.out d0
   replace d1:=zab B2.out d1
   replace d2:=zab B2.out d2
   have kg:=zac d0
   have z0:0≤(i:Int):=by omega
   have z1:(i:Int) < NS:=by omega
   have z2:(i:Int).toNat=i:=by omega
   rw [hNF] at hnf
   obtain ⟨so,hso⟩:∃ x,ixF SN.data.toList d.structs 0=x:=⟨_,rfl⟩
   have HSOF:Hid (∀ W,zaF W P il d [.string nb,.slice va NS vc,.slice ua N uc,.bool il,.slice bda bdn bdc,.slice lna lnn lnc]→Calls Tryz.prog 29 #[.agg #[.string nb,.slice va NS vc,.slice ua N uc,.bool il,.slice bda bdn bdc,.slice lna lnn lnc],.string SN] W fun e w'=>e=.returned (.int .i64 so)∧Below W.heap.size W w'):=hd_ (fun W hW=>zbL hso W hW HOK.out.few)
   have HMB:Hid (so < i↔s.name ∈ (d.structs.take i).map zad.name):=hd_ (by rw [← hso,HSN.out];exact znJ hs)
   obtain ⟨bl,hbl⟩:∃ b,Ty.block s.name=b:=⟨_,rfl⟩
   have HBL:Hid (∀ W,Calls Tryz.prog 20 #[.string SN] W fun e w'=>e=.returned (.bool bl)∧Below W.heap.size W w'):=hd_ (fun W=>by have h:=zck SN W;rw [HSN.out,hbl] at h;exact h)
   have HBB:=hd_ hbl
   rw [hg] at p1
   clear hg hsv hscells hfw hfb hPg hca hs hsm hNF hSN hsat kg0 hso hbl
   go_upto_region 5 with fail
   refine zaa (P:=Code.wp _ _ _ _) (F:=fun W=>Bl W w.heap.size #[.string nb,.slice va NS vc,.slice ua N uc,.bool il,.slice bda bdn bdc,.slice lna lnn lnc] 28∧Below w.heap.size w W∧Bl W w2.heap.size #[.string SN,.slice sa NF sc,.int .i64 sat] 64)
    ⟨P2.out.alloc _,B2.out.alloc B2.out.size _,Bl.new _ _ _⟩ ?_
   clear d0 d1 d2 kg z0 z1 z2 p0 p1 p2 p3 p4 p5 kp P2 B2
   intro w3 ⟨P3,B3,S3⟩
   obtain ⟨S,hS⟩:∃ x,w2.heap.size=x:=⟨_,rfl⟩
   rw [hS] at S3 ⊢
   clear hS
   have P3:=hd_ P3
   have B3:=hd_ B3
   have S3:=hd_ S3
   obtain ⟨p0,p1,p2,p3,p4,p5⟩:=P3.out.cells6
   obtain ⟨s0,s1,s2⟩:=S3.out.cells3
   have kp:=P3.out.lt
   have ks:=S3.out.lt
   go_cut [37] from 27 to 37 (fun v wx=>∃ r9:Bool,v=.bool r9∧Hid (r9=true↔(Ty.block s.name=true∨s.name ∈ (d.structs.take i).map zad.name))∧Bl wx w.heap.size #[.string nb,.slice va NS vc,.slice ua N uc,.bool il,.slice bda bdn bdc,.slice lna lnn lnc] 28∧Below w.heap.size w wx∧Bl wx S #[.string SN,.slice sa NF sc,.int .i64 sat] 64)
   case first=>
    go_wp2_with fail
    refine (HBL.out w3).mono ?_
    rintro e w4 ⟨rfl,hb⟩
    have P4:=hd_ (P3.out.below hb)
    have B4:=hd_ (zah B3.out hb)
    have S4:=hd_ (S3.out.below hb)
    clear hb
    cases bl with
    | true=>
     go_wp2_with fail
     go_meet
     exact ⟨true,rfl,hd_ (by rw [HBB.out];simp),P4.out,B4.out,S4.out⟩
    | false=>
     clear p0 p1 p2 p3 p4 p5 s0 s1 s2 kp ks
     obtain ⟨p0,p1,p2,p3,p4,p5⟩:=P4.out.cells6
     obtain ⟨s0,s1,s2⟩:=S4.out.cells3
     have kp:=P4.out.lt
     have ks:=S4.out.lt
     go_wp2_with fail
     refine (HSOF.out w4 (HD.out.keeps (zai B4.out))).mono ?_
     rintro e w5 ⟨rfl,hb⟩
     have P5:=hd_ (P4.out.below hb)
     have B5:=hd_ (zah B4.out hb)
     have S5:=hd_ (S4.out.below hb)
     clear hb
     obtain ⟨lt,hlt⟩:∃ x,decide (so < (i:Int))=x:=⟨_,rfl⟩
     go_wp2_with fail
     go_meet
     exact ⟨lt,by first | rfl | rw [← hlt],hd_ (by rw [HBB.out,← HMB.out,← hlt];simp),P5.out,B5.out,S5.out⟩
   case rest=>
    obtain ⟨r9,rfl,HC,hP,hB,hS⟩:=hcut
    obtain ⟨w4,hwc⟩:∃ x,wc=x:=⟨_,rfl⟩
    rw [hwc] at hP hB hS ⊢
    clear hwc p0 p1 p2 p3 p4 p5 s0 s1 s2 kp ks P3 B3 S3
    have P5:=hd_ hP
    have B5:=hd_ hB
    have S5:=hd_ hS
    clear hP hB hS
    have s1:=S5.out.cells3.2.1
    have s2:=S5.out.cells3.2.2
    have ks:=S5.out.lt
    have HSX:=HSE.out
    rw [zgS HSS.out] at HSX
    cases r9 with
    | true=>
     have HRR:Hid (r=some (s.at_,151)):=hd_ (HSR.out _ (by rw [if_pos (HC.out.1 rfl)] at HSX;exact HSX.symm))
     rw [← HSA.out] at s2
     clear HSX HC
     go_wp2_with fail
     go_returns
     exact ⟨by rw [HRR.out];rfl,B5.out⟩
    | false=>
     rw [if_neg (fun h=>by have:=HC.out.2 h;cases this)] at HSX
     rw [HNF.out] at HSX
     by_cases hf0:NF=0
     ·have HRR:Hid (r=some (s.at_,155)):=hd_ (HSR.out _ (by rw [if_pos (.inl hf0)] at HSX;exact HSX.symm))
      rw [← HSA.out] at s2
      clear HSX HC
      subst hf0
      go_wp2_with fail
      go_returns
      exact ⟨by rw [HRR.out];rfl,B5.out⟩
     ·have e0:((NF:Int)==0)=false:=by simp;omega
      by_cases hf1:256 < NF
      ·have HRR:Hid (r=some (s.at_,155)):=hd_ (HSR.out _ (by rw [if_pos (.inr hf1)] at HSX;exact HSX.symm))
       have e1:(256:Int) < NF:=by omega
       rw [← HSA.out] at s2
       clear HSX HC
       go_wp2_with fail
       go_returns
       exact ⟨by rw [HRR.out];rfl,B5.out⟩
      ·have e1:¬ (256:Int) < NF:=by omega
       rw [if_neg (by omega)] at HSX
       obtain ⟨fr,hfr⟩:∃ x,Rf.fieldsErr [] s.fields=x:=⟨_,rfl⟩
       rw [hfr] at HSX
       have HSE1:=hd_ HSX
       have HFE:Hid (∀ q,fr=some q→r=some q):=hd_ (fun q hq=>HSR.out q (by rw [hq] at HSX;exact HSX.symm))
       have HFR0:Hid (Rf.fieldsErr ((s.fields.take 0).map PVar.name) (s.fields.drop 0)=fr):=hd_ hfr
       clear HSX HC hfr HSE
       go_wp2_with fail
       go_loopw [6] (fun v6 wr=>RRel (∃ k:Nat,k≤NF∧v6=.int .i64 k∧Hid (Rf.fieldsErr ((s.fields.take k).map PVar.name) (s.fields.drop k)=fr)∧Hid (Bl wr w.heap.size #[.string nb,.slice va NS vc,.slice ua N uc,.bool il,.slice bda bdn bdc,.slice lna lnn lnc] 28)∧Hid (Below w.heap.size w wr)∧Hid (Bl wr S #[.string SN,.slice sa NF sc,.int .i64 sat] 64))) (fun v6 _=>NF - (intOf v6).toNat)
       case atStart=>exact RRel.mk ⟨0,Nat.zero_le _,rfl,HFR0,P5,B5,S5⟩
       case round=>
        obtain ⟨k,hk,rfl,HFR,P6,B6,S6⟩:=hrel.it
        clear hrel P5 B5 S5 HFR0
        obtain ⟨w6,rfl⟩:∃ w9,w9=wr:=⟨_,rfl⟩
        obtain ⟨s0,s1,s2⟩:=S6.out.cells3
        have ks:=S6.out.lt
        by_cases hkl:k < NF
        ·obtain ⟨f,hf⟩:∃ f,s.fields[k]? = some f:=⟨s.fields[k]'(by have:=HNF.out;omega),by rw [List.getElem?_eq_getElem]⟩
         obtain ⟨rwf,hfv,hfcells⟩:=HFW.out.get hf
         obtain ⟨iv,rfl,hini⟩:=hfv
         obtain ⟨fa,fl,fq,rfl⟩:=hini.slice
         obtain ⟨⟨g2,hg2,hfc⟩⟩:Nonempty (∃ g,sa=some ⟨g,0,none⟩∧zaC w g fcs):=⟨HFB.out (by omega)⟩
         have HFC:=hd_ hfc
         have HG2:=hd_ hg2
         rw [hg2] at s1
         clear hg2
         obtain ⟨u0,hu0⟩:∃ b:ByteArray,(⟨f.name.toArray⟩:ByteArray)=b:=⟨_,rfl⟩
         obtain ⟨u5,hu5⟩:∃ b:ByteArray,(⟨f.tname.toArray⟩:ByteArray)=b:=⟨_,rfl⟩
         obtain ⟨u7,hu7⟩:∃ b:ByteArray,(⟨f.addr.toArray⟩:ByteArray)=b:=⟨_,rfl⟩
         have HFN:Hid (u0.data.toList=f.name):=hd_ (by rw [← hu0])
         have HFK:=hd_ hf
         have HFI:Hid (∀ W,Below w.heap.size w W→Calls Tryz.prog 30 #[.int .i64 f.kind,.slice fa fl fq] W (zbd (Rf.first f.kind f.init) W)):=hd_ (fun W hW=>by
          have hm:=List.mem_of_getElem? hf
          obtain ⟨h1,h2⟩:=HST.out f hm
          have h3:=HSO.out f hm
          unfold Ty.scalar at h1
          simp only [Bool.and_eq_true,decide_eq_true_eq] at h1
          have hk:((f.kind.toNat:Nat):Int)=f.kind:=by omega
          have h:=zeg (k:=f.kind.toNat) (by omega) (by omega) h2 h3.ini W (hini.keeps (zai hW))
          rw [hk] at h
          exact h)
         have d0:=hfc (k*10+0) _ ((hfcells 0 (by omega)).trans rfl)
         have d1:=hfc (k*10+1) _ ((hfcells 1 (by omega)).trans rfl)
         have d2:=hfc (k*10+2) _ ((hfcells 2 (by omega)).trans rfl)
         have d3:=hfc (k*10+3) _ ((hfcells 3 (by omega)).trans rfl)
         have d4:=hfc (k*10+4) _ ((hfcells 4 (by omega)).trans rfl)
         have d5:=hfc (k*10+5) _ ((hfcells 5 (by omega)).trans rfl)
         have d6:=hfc (k*10+6) _ ((hfcells 6 (by omega)).trans rfl)
         have d7:=hfc (k*10+7) _ ((hfcells 7 (by omega)).trans rfl)
         have d8:=hfc (k*10+8) _ ((hfcells 8 (by omega)).trans rfl)
         have d9:=hfc (k*10+9) _ ((hfcells 9 (by omega)).trans rfl)
         simp only [Nat.add_zero,hu0,hu5,hu7] at d0 d5 d7
         have kg0:=zac d0
         replace d0:=zab B6.out d0
         replace d1:=zab B6.out d1
         replace d2:=zab B6.out d2
         replace d3:=zab B6.out d3
         replace d4:=zab B6.out d4
         replace d5:=zab B6.out d5
         replace d6:=zab B6.out d6
         replace d7:=zab B6.out d7
         replace d8:=zab B6.out d8
         replace d9:=zab B6.out d9
         have kg:=zac d0
         have z0:0≤(k:Int):=by omega
         have z1:(k:Int) < NF:=by omega
         have z2:(k:Int).toNat=k:=by omega
         obtain ⟨u1,hu1⟩:∃ x,f.kind=x:=⟨_,rfl⟩
         obtain ⟨u9,hu9⟩:∃ x,f.at_=x:=⟨_,rfl⟩
         obtain ⟨u2,hu2⟩:∃ x,f.lo=x:=⟨_,rfl⟩
         obtain ⟨u3,hu3⟩:∃ x,f.hi=x:=⟨_,rfl⟩
         obtain ⟨u4,hu4⟩:∃ x,f.elem=x:=⟨_,rfl⟩
         obtain ⟨u6,hu6⟩:∃ x,f.retain=x:=⟨_,rfl⟩
         have HFA:Hid (u9=f.at_):=hd_ hu9.symm
         have HFI:Hid (∀ W,Below w.heap.size w W→Calls Tryz.prog 30 #[.int .i64 u1,.slice fa fl fq] W (zbd (Rf.first f.kind f.init) W)):=hd_ (hu1▸HFI.out)
         simp only [hu1,hu2,hu3,hu4,hu6,hu9] at d1 d2 d3 d4 d6 d9
         clear hini hfcells hf hfc hu0 hu5 hu7 kg0 hu1 hu2 hu3 hu4 hu6 hu9
         go_upto_region 13 with fail
         refine zaa (P:=Code.wp _ _ _ _) (F:=fun W=>Bl W w.heap.size #[.string nb,.slice va NS vc,.slice ua N uc,.bool il,.slice bda bdn bdc,.slice lna lnn lnc] 28∧Below w.heap.size w W∧Bl W S #[.string SN,.slice sa NF sc,.int .i64 sat] 64∧Bl W w6.heap.size #[.string u0,.int .i64 u1,.int .i64 u2,.int .i64 u3,.int .i64 u4,.string u5,.bool u6,.string u7,.slice fa fl fq,.int .i64 u9] 54)
          ⟨P6.out.alloc _,B6.out.alloc B6.out.size _,S6.out.alloc _,Bl.new _ _ _⟩ ?_
         clear d0 d1 d2 d3 d4 d5 d6 d7 d8 d9 kg z0 z1 z2 s0 s1 s2 ks P6 B6 S6
         intro w7 ⟨P7,B7,S7,V7⟩
         obtain ⟨V,hV⟩:∃ x,w6.heap.size=x:=⟨_,rfl⟩
         rw [hV] at V7 ⊢
         clear hV
         have P7:=hd_ P7
         have B7:=hd_ B7
         have S7:=hd_ S7
         have V7:=hd_ V7
         go_wp2_with fail
         go_loopw [8] (fun v8 wr=>RRel (∃ q:Nat,q≤k∧v8=.int .i64 q∧Hid (∀ m,m < q→∀ u,s.fields[m]? = some u→u.name≠f.name)∧Hid (Bl wr w.heap.size #[.string nb,.slice va NS vc,.slice ua N uc,.bool il,.slice bda bdn bdc,.slice lna lnn lnc] 28)∧Hid (Below w.heap.size w wr)∧Hid (Bl wr S #[.string SN,.slice sa NF sc,.int .i64 sat] 64)∧Hid (Bl wr V #[.string u0,.int .i64 u1,.int .i64 u2,.int .i64 u3,.int .i64 u4,.string u5,.bool u6,.string u7,.slice fa fl fq,.int .i64 u9] 54))) (fun v8 _=>k - (intOf v8).toNat)
         case atStart=>exact RRel.mk ⟨0,Nat.zero_le _,rfl,hd_ (fun m hm=>absurd hm (Nat.not_lt_zero _)),P7,B7,S7,V7⟩
         case round=>
          obtain ⟨q,hq,rfl,HQ,P8,B8,S8,V8⟩:=hrel.it
          clear hrel P7 B7 S7 V7
          obtain ⟨w8,rfl⟩:∃ w9,w9=wr:=⟨_,rfl⟩
          obtain ⟨s0,s1,s2⟩:=S8.out.cells3
          rw [HG2.out] at s1
          obtain ⟨v0,v1,v2,v3,v4,v5,v6,v7,v8,v9⟩:=V8.out.cells10
          have ks:=S8.out.lt
          have kv:=V8.out.lt
          by_cases hlt:q < k
          ·obtain ⟨u,hu⟩:∃ u,s.fields[q]? = some u:=⟨s.fields[q]'(by have:=HNF.out;omega),by rw [List.getElem?_eq_getElem]⟩
           obtain ⟨rwu,huv,hucells⟩:=HFW.out.get hu
           obtain ⟨y0,y1,y2,y3,y4,y5,y6,y7,ya,yl,yq,y9,rfl⟩:=huv.shape
           have HUN:Hid (u.name=y0.data.toList):=hd_ (by
            obtain ⟨v,h1,_⟩:=huv
            simp only [List.cons.injEq,Value.string.injEq] at h1
            rw [h1.1])
           have dq:=HFC.out (q*10+0) _ ((hucells 0 (by omega)).trans rfl)
           simp only [Nat.add_zero] at dq
           replace dq:=zab B8.out dq
           have kg:=zac dq
           have z0:0≤(q:Int):=by omega
           have z1:(q:Int) < k:=by omega
           have z1':(q:Int) < NF:=by omega
           have z2:(q:Int).toNat=q:=by omega
           have z3:IntKind.i64.wrap ((q:Int)+1)=(q:Int)+1:=IntWalk.i64_in _ (by omega)
           have HUQ:=hd_ hu
           obtain ⟨dd,hdd⟩:∃ dd,(y0.toList==u0.toList)=dd:=⟨_,rfl⟩
           clear huv hucells hu
           cases dd with
           | true=>
            have HEQ:Hid (u.name=f.name):=hd_ (by rw [HUN.out,(zav y0 u0).1 hdd];exact HFN.out)
            have HMEM:Hid (f.name ∈ (s.fields.take k).map PVar.name):=hd_ (List.mem_map.2 ⟨u,List.mem_of_getElem? (by rw [List.getElem?_take,if_pos hlt];exact HUQ.out),HEQ.out⟩)
            have HRR:Hid (r=some (f.at_,151)):=hd_ (HFE.out _ (by have h:=HFR.out;rw [zdZ HFK.out,if_pos HMEM.out] at h;exact h.symm))
            rw [HFA.out] at v9
            clear hlt
            go_upto_region 16 with fail
            go_quiet (fail)
            go_wp2_with fail
            go_returns
            exact ⟨by rw [HRR.out];rfl,B8.out.drewN _⟩
           | false=>
            have HNE:Hid (∀ m,m < q+1→∀ u,s.fields[m]? = some u→u.name≠f.name):=hd_ (fun m hm u' hu'=>by
             rcases Nat.lt_succ_iff_lt_or_eq.1 hm with h | h
             ·exact HQ.out m h u' hu'
             ·subst h
              have:=hu'.symm.trans HUQ.out
              injection this with this
              subst this
              intro h2
              have h3:(y0.toList==u0.toList)=true:=(zav y0 u0).2 (ByteArray.ext (Array.toList_inj.1 (by rw [← HUN.out,h2];exact HFN.out.symm)))
              rw [hdd] at h3;cases h3)
            clear hlt
            go_upto_region 16 with fail
            go_quiet (fail)
            go_wp2_with fail
            go_roundw
            case rel=>exact RRel.mk ⟨q+1,by omega,by simp,HNE,hd_ (P8.out.below (br_.drewN _)),hd_ (B8.out.drewN _),hd_ (S8.out.below (br_.drewN _)),hd_ (V8.out.below (br_.drewN _))⟩
            case measure=>simp [intOf];omega
          ·have z1:¬ (q:Int) < k:=by omega
           have HNM:Hid (¬ f.name ∈ (s.fields.take k).map PVar.name):=hd_ (fun h=>by
            obtain ⟨u,hu,hn⟩:=List.mem_map.1 h
            obtain ⟨m,hm⟩:=List.getElem?_of_mem hu
            rw [List.getElem?_take] at hm
            split at hm
            ·exact HQ.out m (by omega) u hm hn
            ·cases hm)
           clear hlt HQ
           have HFR2:Hid ((if (Rf.first f.kind f.init).2=false then some (f.at_,(154:Int)) else Rf.fieldsErr ((s.fields.take (k+1)).map PVar.name) (s.fields.drop (k+1)))=fr):=hd_ (by have h:=HFR.out;rw [zdZ HFK.out,if_neg HNM.out] at h;exact h)
           clear HNM
           go_wp2_with fail
           refine (HFI.out w8 B8.out).mono ?_
           rintro e w9 ⟨nf,rfl,_,hb⟩
           have P9:=hd_ (P8.out.below hb)
           have B9:=hd_ (zah B8.out hb)
           have S9:=hd_ (S8.out.below hb)
           have V9:=hd_ (V8.out.below hb)
           clear hb P8 B8 S8 V8 s0 s1 s2 v0 v1 v2 v3 v4 v5 v6 v7 v8 v9 ks kv
           obtain ⟨fb,hfb⟩:∃ x,(Rf.first f.kind f.init).2=x:=⟨_,rfl⟩
           rw [hfb]
           cases fb with
           | false=>
            have HRR:Hid (r=some (f.at_,154)):=hd_ (HFE.out _ (by have h:=HFR2.out;rw [if_pos hfb] at h;exact h.symm))
            have v9:=V9.out.cells10.2.2.2.2.2.2.2.2.2
            have kv:=V9.out.lt
            rw [HFA.out] at v9
            go_wp2_with fail
            go_returns
            exact ⟨by rw [HRR.out];rfl,B9.out⟩
           | true=>
            have HFR3:Hid (Rf.fieldsErr ((s.fields.take (k+1)).map PVar.name) (s.fields.drop (k+1))=fr):=hd_ (by have h:=HFR2.out;rw [if_neg (by rw [hfb];simp)] at h;exact h)
            clear HFR2 HFR
            have z3:IntKind.i64.wrap ((k:Int)+1)=(k:Int)+1:=IntWalk.i64_in _ (by omega)
            have HKN:=hd_ hkl
            go_wp2_with fail
            go_roundw
            case rel=>exact RRel.mk ⟨k+1,by have:=HKN.out;omega,by simp,HFR3,P9,B9,S9⟩
            case measure=>simp [intOf];have:=HKN.out;omega
        ·have z1:¬ (k:Int) < NF:=by omega
         have hkk:k=NF:=by omega
         have HFN2:Hid (fr=none):=hd_ (by rw [← HFR.out];exact ziD (by have:=HNF.out;omega) _)
         have HSE2:Hid (Rf.structsErr ((d.structs.take (i+1)).map zad.name) (d.structs.drop (i+1))=sr):=hd_ (by have h:=HSE1.out;rw [HFN2.out] at h;exact h)
         clear hkk hkl
         have z3:IntKind.i64.wrap ((i:Int)+1)=(i:Int)+1:=IntWalk.i64_in _ (by omega)
         have HIN:=hd_ hin
         go_wp2_with fail
         go_roundw
         case rel=>exact RRel.mk ⟨i+1,by have:=HIN.out;omega,by simp,HSE2,P6,B6⟩
         case measure=>simp [intOf];have:=HIN.out;omega
  ·have z1:¬ (i:Int) < NS:=by omega
   have HSRN:Hid (sr=none):=hd_ (by rw [← HSE.out];exact zhe (by have:=HNS.out;omega) _)
   have HVE0:Hid ((match d.vars[256]? with | some v=>some (v.at_,(155:Int)) | none=>Rf.varsErr d.structs d.vars [] [] 0)=r):=hd_ (by have h:=HR.out;unfold Rf.check at h;rw [HSR0.out,HSRN.out] at h;exact h)
   clear HSE hin hi
   by_cases h256:256 < N
   ·have e1:(256:Int) < N:=by omega
    obtain ⟨v,hv⟩:∃ v,d.vars[256]? = some v:=⟨d.vars[256]'(by have:=HN.out;omega),by rw [List.getElem?_eq_getElem]⟩
    have HRR:Hid (r=some (v.at_,155)):=hd_ (by rw [← HVE0.out,hv])
    obtain ⟨rwv,hvv,hvcells⟩:=HVW.out.get hv
    obtain ⟨iv,rfl,hini⟩:=hvv
    obtain ⟨g,hg,hPg,hca⟩:=HVB.out (by omega)
    have d9:=hca (256*10+9) _ ((hvcells 9 (by omega)).trans rfl)
    simp only [Nat.reduceMul,Nat.reduceAdd] at d9
    have kg0:=zac d9
    replace d9:=zab B2.out d9
    have kg:=zac d9
    rw [hg] at p2
    clear hg hv hini hvcells hPg hca h256 kg0 HVE0
    go_wp2_with fail
    go_returns
    exact ⟨by rw [HRR.out];rfl,B2.out⟩
   ·have e1:¬ (256:Int) < N:=by omega
    have HV0:Hid (Rf.varsErr d.structs (d.vars.drop 0) ((d.vars.take 0).map PVar.name) ((d.vars.take 0).map PVar.addr) 0=r):=hd_ (by
     have h:=HVE0.out
     rw [List.getElem?_eq_none (by have:=HN.out;omega)] at h
     exact h)
    clear h256 HVE0
    go_wp2_with fail
    go_loopw [11,12] (fun v11 v12 wr=>RRel (∃ (i:Nat) (c:Int),i≤N∧v12=.int .i64 i∧v11=.int .i64 c∧0≤c∧c≤4096∧Hid (Rf.varsErr d.structs (d.vars.drop i) ((d.vars.take i).map PVar.name) ((d.vars.take i).map PVar.addr) c=r)∧Hid (Bl wr w.heap.size #[.string nb,.slice va NS vc,.slice ua N uc,.bool il,.slice bda bdn bdc,.slice lna lnn lnc] 28)∧Hid (Below w.heap.size w wr))) (fun _ v12 _=>N - (intOf v12).toNat)
    case atStart=>exact RRel.mk ⟨0,0,Nat.zero_le _,rfl,rfl,by omega,by omega,HV0,P2,B2⟩
    case round=>
     obtain ⟨i,c,hi,rfl,rfl,hc0,hc1,HVE,P3,B3⟩:=hrel.it
     clear hrel p0 p1 p2 p3 p4 p5 kp P2 B2 HV0
     obtain ⟨w3,rfl⟩:∃ w9,w9=wr:=⟨_,rfl⟩
     obtain ⟨p0,p1,p2,p3,p4,p5⟩:=P3.out.cells6
     have kp:=P3.out.lt
     by_cases hin:i < N
     ·obtain ⟨v,hv⟩:∃ v,d.vars[i]? = some v:=⟨d.vars[i]'(by have:=HN.out;omega),by rw [List.getElem?_eq_getElem]⟩
      obtain ⟨rwv,hvv,hvcells⟩:=HVW.out.get hv
      have HVV:=hd_ hvv
      obtain ⟨n0,n1,n2,n3,n4,n5,n6,n7,na,nl,nq,n9,rfl⟩:=hvv.shape
      have HNA:Hid (n9=v.at_):=hd_ (by
       obtain ⟨iv,h1,_⟩:=hvv
       simp only [List.cons.injEq,Value.int.injEq,true_and] at h1
       exact h1.2.2.2.2.2.2.2.2.2.1)
      obtain ⟨g,hg,hPg,hca⟩:=HVB.out (by omega)
      have d0:=hca (i*10+0) _ ((hvcells 0 (by omega)).trans rfl)
      have d1:=hca (i*10+1) _ ((hvcells 1 (by omega)).trans rfl)
      have d2:=hca (i*10+2) _ ((hvcells 2 (by omega)).trans rfl)
      have d3:=hca (i*10+3) _ ((hvcells 3 (by omega)).trans rfl)
      have d4:=hca (i*10+4) _ ((hvcells 4 (by omega)).trans rfl)
      have d5:=hca (i*10+5) _ ((hvcells 5 (by omega)).trans rfl)
      have d6:=hca (i*10+6) _ ((hvcells 6 (by omega)).trans rfl)
      have d7:=hca (i*10+7) _ ((hvcells 7 (by omega)).trans rfl)
      have d8:=hca (i*10+8) _ ((hvcells 8 (by omega)).trans rfl)
      have d9:=hca (i*10+9) _ ((hvcells 9 (by omega)).trans rfl)
      simp only [Nat.add_zero] at d0
      have kg0:=zac d0
      replace d0:=zab B3.out d0
      replace d1:=zab B3.out d1
      replace d2:=zab B3.out d2
      replace d3:=zab B3.out d3
      replace d4:=zab B3.out d4
      replace d5:=zab B3.out d5
      replace d6:=zab B3.out d6
      replace d7:=zab B3.out d7
      replace d8:=zab B3.out d8
      replace d9:=zab B3.out d9
      have kg:=zac d0
      have z0:0≤(i:Int):=by omega
      have z1:(i:Int) < N:=by omega
      have z2:(i:Int).toNat=i:=by omega
      obtain ⟨er,her⟩:∃ x,Rf.varErr d.structs ((d.vars.take i).map PVar.name) ((d.vars.take i).map PVar.addr) v=x:=⟨_,rfl⟩
      have HVA:Hid (∀ W,zaF W P il d [.string nb,.slice va NS vc,.slice ua N uc,.bool il,.slice bda bdn bdc,.slice lna lnn lnc]→Calls Tryz.prog 31 #[.agg #[.string nb,.slice va NS vc,.slice ua N uc,.bool il,.slice bda bdn bdc,.slice lna lnn lnc],.int .i64 i] W fun e w'=>e=.returned (.int .i64 er)∧Below W.heap.size W w'):=hd_ (fun W hW=>zgP her hv W hW HOK.out (HT.out.vars v (List.mem_of_getElem? hv)))
      have HVS:=hd_ hv
      have HER:=hd_ her
      have HVX:Hid ((if er≠0 then some (v.at_,er) else if 4096 < c+Rf.cellsOf d.structs v then some (v.at_,155) else Rf.varsErr d.structs (d.vars.drop (i+1)) ((d.vars.take (i+1)).map PVar.name) ((d.vars.take (i+1)).map PVar.addr) (c+Rf.cellsOf d.structs v))=r):=hd_ (by have h:=HVE.out;rw [zcp hv,her] at h;exact h)
      rw [hg] at p2
      clear hg hvv hvcells hPg hca hv kg0 her HVE
      go_upto_region 28 with fail
      refine zaa (P:=Code.wp _ _ _ _) (F:=fun W=>Bl W w.heap.size #[.string nb,.slice va NS vc,.slice ua N uc,.bool il,.slice bda bdn bdc,.slice lna lnn lnc] 28∧Below w.heap.size w W∧Bl W w3.heap.size #[.string n0,.int .i64 n1,.int .i64 n2,.int .i64 n3,.int .i64 n4,.string n5,.bool n6,.string n7,.slice na nl nq,.int .i64 n9] 54)
       ⟨P3.out.alloc _,B3.out.alloc B3.out.size _,Bl.new _ _ _⟩ ?_
      clear d0 d1 d2 d3 d4 d5 d6 d7 d8 d9 kg z0 z1 z2 p0 p1 p2 p3 p4 p5 kp P3 B3
      intro w4 ⟨P4,B4,V4⟩
      obtain ⟨V,hV⟩:∃ x,w3.heap.size=x:=⟨_,rfl⟩
      rw [hV] at V4 ⊢
      clear hV
      have P4:=hd_ P4
      have B4:=hd_ B4
      have V4:=hd_ V4
      obtain ⟨p0,p1,p2,p3,p4,p5⟩:=P4.out.cells6
      have kp:=P4.out.lt
      go_wp2_with fail
      refine (HVA.out w4 (HD.out.keeps (zai B4.out))).mono ?_
      rintro e w5 ⟨rfl,hb⟩
      have P5:=hd_ (P4.out.below hb)
      have B5:=hd_ (zah B4.out hb)
      have V5:=hd_ (V4.out.below hb)
      clear hb p0 p1 p2 p3 p4 p5 kp P4 B4 V4
      obtain ⟨p0,p1,p2,p3,p4,p5⟩:=P5.out.cells6
      have kp:=P5.out.lt
      obtain ⟨x0,x1,x2,x3,x4,x5,x6,x7,x8,x9⟩:=V5.out.cells10
      have kv:=V5.out.lt
      by_cases he0:er=0
      ·have e0:(er != 0)=false:=by simp [he0]
       have h12:=zg4 (HER.out.trans he0)
       have hcf:=zhb (ss:=d.structs) (v:=v) (fun s hs=>(HOK.out.strs s hs).few) h12
       obtain ⟨cn,hcn⟩:∃ x,Rf.cellsOf d.structs v=x:=⟨_,rfl⟩
       have HCO:=hd_ (fun W (hW:zaF W P il d [.string nb,.slice va NS vc,.slice ua N uc,.bool il,.slice bda bdn bdc,.slice lna lnn lnc]) (hv:za0 W P v [.string n0,.int .i64 n1,.int .i64 n2,.int .i64 n3,.int .i64 n4,.string n5,.bool n6,.string n7,.slice na nl nq,.int .i64 n9])=>zhC (il:=il) hcn h12 W hW hv HOK.out.few)
       rw [hcn] at hcf
       have HVY:Hid ((if 4096 < c+cn then some (v.at_,(155:Int)) else Rf.varsErr d.structs (d.vars.drop (i+1)) ((d.vars.take (i+1)).map PVar.name) ((d.vars.take (i+1)).map PVar.addr) (c+cn))=r):=hd_ (by have h:=HVX.out;rw [if_neg (by simpa using he0),hcn] at h;exact h)
       have iw:IntKind.i64.wrap (c+cn)=c+cn:=IntWalk.i64_in _ (by omega)
       clear he0 h12 hcn HVX
       go_wp2_with fail
       refine (HCO.out w5 (HD.out.keeps (zai B5.out)) (HVV.out.keeps (zai B5.out))).mono ?_
       rintro e w6 ⟨rfl,hb⟩
       have P6:=hd_ (P5.out.below hb)
       have B6:=hd_ (zah B5.out hb)
       have V6:=hd_ (V5.out.below hb)
       clear hb p0 p1 p2 p3 p4 p5 kp x0 x1 x2 x3 x4 x5 x6 x7 x8 x9 kv P5 B5 V5
       by_cases h40:4096 < c+cn
       ·have HRR:Hid (r=some (v.at_,155)):=hd_ (by rw [← HVY.out,if_pos h40])
        have x9:=V6.out.cells10.2.2.2.2.2.2.2.2.2
        have kv:=V6.out.lt
        rw [HNA.out] at x9
        go_wp2_with fail
        go_returns
        exact ⟨by rw [HRR.out];rfl,B6.out⟩
       ·have HVZ:Hid (Rf.varsErr d.structs (d.vars.drop (i+1)) ((d.vars.take (i+1)).map PVar.name) ((d.vars.take (i+1)).map PVar.addr) (c+cn)=r):=hd_ (by rw [← HVY.out,if_neg h40])
        have z3:IntKind.i64.wrap ((i:Int)+1)=(i:Int)+1:=IntWalk.i64_in _ (by omega)
        go_wp2_with fail
        go_roundw
        case rel=>exact RRel.mk ⟨i+1,c+cn,by omega,by simp,rfl,by omega,by omega,HVZ,P6,B6⟩
        case measure=>simp [intOf];omega
      ·have e0:(er != 0)=true:=by simpa using he0
       have HRR:Hid (r=some (v.at_,er)):=hd_ (by rw [← HVX.out,if_pos he0])
       rw [HNA.out] at x9
       clear he0
       go_wp2_with fail
       go_returns
       exact ⟨by rw [HRR.out];rfl,B5.out⟩
     ·have z1:¬ (i:Int) < N:=by omega
      have HRR:Hid (r=none):=hd_ (by rw [← HVE.out];exact zkG (by have:=HN.out;omega) _ _ _)
      clear hin
      go_wp2_with fail
      go_returns
      exact ⟨by rw [HRR.out];rfl,B3.out⟩
end Go.Proofs.YtdpkjpjkdmkkpaaGreatDoor
