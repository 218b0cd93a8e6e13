/- What declarations that are taken are like: plain words. -/
import Derived.Test.YtdpkjpjkdmkkpaaGreatDoorMZ
set_option maxRecDepth 100000
set_option maxHeartbeats 16000000
namespace Go.Proofs.YtdpkjpjkdmkkpaaGreatDoor
open Ad Go.RowKit Lx Pa
theorem zcy {seen:List (List UInt8)} {fs:List PVar} (h:Ty.fieldsErr seen fs=none):∀ f ∈ fs,Ty.scalar f.kind=true∧Ty.first f.init f.kind=true:=by
 induction fs generalizing seen with
 | nil=>intro f hf;cases hf
 | cons a r ih=>
  unfold Ty.fieldsErr at h
  split at h
  ·cases h
  split at h
  ·cases h
  split at h
  ·cases h
  rename_i h1 h2 h3
  intro f hf
  rcases List.mem_cons.1 hf with rfl | hf
  ·exact ⟨by simpa using h2,by simpa using h3⟩
  ·exact ih h f hf
theorem zer {seen:List (List UInt8)} {ss:List zad} (h:Ty.structsErr seen ss=none):∀ s ∈ ss,0 < s.fields.length∧s.fields.length≤256∧Ty.fieldsErr [] s.fields=none:=by
 induction ss generalizing seen with
 | nil=>intro f hf;cases hf
 | cons a r ih=>
  unfold Ty.structsErr at h
  split at h
  ·cases h
  split at h
  ·cases h
  rename_i h1 h2
  cases h3:Ty.fieldsErr [] a.fields with
  | some e=>rw [h3] at h;cases h
  | none=>
   rw [h3] at h
   intro f hf
   rcases List.mem_cons.1 hf with rfl | hf
   ·exact ⟨by omega,by omega,h3⟩
   ·exact ih h f hf
structure zff (ss:List zad) (v:PVar):Prop where
 size:Ty.size ss v≠0
 place:v.addr≠[]→∃ q,Ty.place v=some q
 init:Ty.scalar v.kind=true→Ty.first v.init v.kind=true
theorem zd0 {v:PVar} {a:Int} (h:zcf v a=0) (_hs:Ty.scalar v.kind=true):Ty.first v.init v.kind=true:=by
 rcases zcE v a with ⟨h1,h2⟩ | ⟨h1,h2,h3⟩ | ⟨h1,h2,h3,h4⟩ | ⟨h1,h2,h3,h4⟩ | ⟨h1,h2,h3,h4,h5,h6⟩ | ⟨h1,h2,h3,h4,h5,h6⟩
 ·rw [h1];rfl
 ·omega
 ·omega
 ·omega
 ·omega
 ·exact h5
theorem zex {ss:List zad} {names addrs:List (List UInt8)} {v:PVar} (h:Ty.varErr ss names addrs v=0):zff ss v:=by
 rcases zey ss names addrs v with ⟨_,f⟩ | ⟨_,_,f⟩ | ⟨_,_,_,f⟩ | ⟨_,_,_,_,f⟩ | ⟨_,_,_,_,_,_,f⟩ | ⟨_,_,_,_,_,_,_,f⟩ | ⟨_,_,_,_,_,_,_,_,f⟩ | ⟨_,_,_,f4,_,_,_,qq,f6,f⟩ | ⟨_,_,_,f4,f5,f⟩
 all_goals rw [h] at f
 ·omega
 ·omega
 ·omega
 ·omega
 ·omega
 ·omega
 ·omega
 ·exact ⟨f4,fun _=>⟨_,f6⟩,zd0 f.symm⟩
 ·exact ⟨f4,fun h=>absurd f5 h,zd0 f.symm⟩
theorem zds {ss:List zad} {l:List PVar} {names addrs:List (List UInt8)} {c:Int} (h:Ty.varsErr ss l names addrs c=none):∀ v ∈ l,zff ss v:=by
 induction l generalizing names addrs c with
 | nil=>intro v hv;cases hv
 | cons a r ih=>
  unfold Ty.varsErr at h
  split at h
  ·cases h
  split at h
  ·cases h
  rename_i h1 h2
  intro v hv
  rcases List.mem_cons.1 hv with rfl | hv
  ·exact zex (by simpa using h1)
  ·exact ih h v hv
theorem ziA {ss:List zad} {vs:List PVar} (h:Ty.check ss vs=none):Ty.structsErr [] ss=none∧vs.length≤256∧Ty.varsErr ss vs [] [] 0=none:=by
 unfold Ty.check at h
 cases h1:Ty.structsErr [] ss with
 | some e=>rw [h1] at h;cases h
 | none=>
  rw [h1] at h
  cases h2:vs[256]? with
  | some v=>rw [h2] at h;cases h
  | none=>rw [h2] at h;exact ⟨rfl,by have:=List.getElem?_eq_none_iff.1 h2;omega,h⟩
structure znG (d:zaQ):Prop where
 few:d.vars.length≤256
 laid:∀ v ∈ d.vars,zlv d.structs v
 var:∀ v ∈ d.vars,zff d.structs v
theorem zfW {d:zaQ} (hok:zbj d) (h:Ty.check d.structs d.vars=none):znG d:=by
 obtain ⟨h1,h2,h3⟩:=ziA h
 refine ⟨h2,fun v hv=>?_,zds h3⟩
 have ht:=zds h3 v hv
 have hvo:=hok.vars v hv
 have hz:=ht.size
 have hw:=zcm (ss:=d.structs) (v:=v) rfl
 refine ⟨fun h12=>?_,fun h0 h12=>?_,fun h0 s hs=>?_,fun h0 hs=>?_,hvo.ini⟩
 ·rcases hw with ⟨f1,_⟩ | ⟨_,_,_,f⟩ | ⟨_,_,_,_,f⟩ | ⟨_,_,_,_,_,f⟩ | ⟨_,_,_,_,_,_,f⟩ | ⟨_,_,_,_,_,_,_,f⟩ | ⟨_,_,f1,f2,f3,f4,f5,_⟩ | ⟨_,f,_⟩ | ⟨f,_⟩ | ⟨f,_⟩ | ⟨f,_⟩
  ·unfold Ty.scalar at f1;simp at f1;omega
  ·omega
  ·omega
  ·omega
  ·omega
  ·omega
  ·exact ⟨f1,f2,f3,f4,f5⟩
  ·omega
  ·omega
  ·omega
  ·omega
 ·have hsc:Ty.scalar v.kind=true:=by
   rcases hw with ⟨f1,_⟩ | ⟨_,f,_⟩ | ⟨_,f,_⟩ | ⟨_,f,_⟩ | ⟨_,f,_⟩ | ⟨_,f,_⟩ | ⟨_,f,_⟩ | ⟨_,_,_,f⟩ | ⟨f,_⟩ | ⟨f,_⟩ | ⟨f,_⟩
   ·exact f1
   all_goals omega
  exact ⟨hsc,ht.init hsc⟩
 ·have hm:=zaZ hs
  obtain ⟨_,a2,a3⟩:=zer h1 s hm
  exact ⟨a2,fun f hf=>⟨(zcy a3 f hf).1,(zcy a3 f hf).2,((hok.strs s hm).fields f hf).ini⟩⟩
 ·rcases hw with ⟨f1,_⟩ | ⟨_,f,_⟩ | ⟨_,f,_⟩ | ⟨_,f,_⟩ | ⟨_,f,_⟩ | ⟨_,f,_⟩ | ⟨_,f,_⟩ | ⟨_,_,f,_⟩ | ⟨_,s,f,_⟩ | ⟨_,_,f,_⟩ | ⟨_,_,_,f⟩
  ·unfold Ty.scalar at f1;simp at f1;omega
  ·omega
  ·omega
  ·omega
  ·omega
  ·omega
  ·omega
  ·omega
  ·rw [hs] at f;cases f
  ·exact f
  ·omega
theorem zkZ {ss:List zad} {v:PVar} {c:Ty.Cell} (hz:Ty.size ss v≠0):((Ty.laid ss v c).length:Int)=Ty.size ss v:=by
 rcases zcm (ss:=ss) (v:=v) rfl with ⟨f1,f⟩ | ⟨_,_,_,f⟩ | ⟨_,_,_,_,f⟩ | ⟨_,_,_,_,_,f⟩ | ⟨_,_,_,_,_,_,f⟩ | ⟨_,_,_,_,_,_,_,f⟩ | ⟨_,f1,_,f2,_,_,_,f⟩ | ⟨_,_,_,f⟩ | ⟨f0,s,f1,f⟩ | ⟨f0,f1,_,f⟩ | ⟨_,_,_,f⟩
 ·have:v.kind≠12∧v.kind≠0:=by unfold Ty.scalar at f1;simp at f1;omega
  rw [zib rfl this.1 this.2,f];rfl
 ·exact absurd f hz
 ·exact absurd f hz
 ·exact absurd f hz
 ·exact absurd f hz
 ·exact absurd f hz
 ·rw [f];exact (zh9 rfl f1 f2).1
 ·exact absurd f hz
 ·rw [f,(zic rfl f0 f1).1]
 ·rw [f,(zia rfl f0 f1 rfl).1,List.length_append];omega
 ·exact absurd f hz
theorem zgU {d:zaQ} (hok:zbj d) (h:Ty.check d.structs d.vars=none) {v:PVar} (hv:v ∈ d.vars) (c:Ty.Cell):0 < (Ty.laid d.structs v c).length∧(Ty.laid d.structs v c).length≤300:=by
 have ht:=zfW hok h
 have h1:=zkZ (c:=c) (ht.var v hv).size
 have h2:=(ht.var v hv).size
 obtain ⟨p1,p2⟩:=zb5 v.tname
 have h3:0≤Ty.size d.structs v∧Ty.size d.structs v≤300:=by
  rcases zcm (ss:=d.structs) (v:=v) rfl with ⟨_,h⟩ | ⟨_,_,_,h⟩ | ⟨_,_,_,_,h⟩ | ⟨_,_,_,_,_,h⟩ | ⟨_,_,_,_,_,_,h⟩ | ⟨_,_,_,_,_,_,_,h⟩ | ⟨_,_,_,h1,_,_,h2,h⟩ | ⟨_,_,_,h⟩ | ⟨h0,s,h1,h⟩ | ⟨_,_,_,h⟩ | ⟨_,_,_,h⟩
  all_goals rw [h]
  all_goals first
   | omega
   | (have:=((ht.laid v hv).str h0 s h1).1;omega)
 omega
theorem zha {ss:List zad} {l:List PVar} {k:Nat} {v:PVar} {i:Int} (h:l[k]? = some v) :
  Ty.cellsF ss (l.drop k) i=Ty.laid ss v ⟨i,[],-1,0,v.retain,(if v.addr=[] then (0,0) else (Ty.place v).getD (0,0)).1,(if v.addr=[] then (0,0) else (Ty.place v).getD (0,0)).2,0⟩++Ty.cellsF ss (l.drop (k+1)) (i+1):=by
 obtain ⟨hi,ha⟩:=List.getElem?_eq_some_iff.1 h
 rw [List.drop_eq_getElem_cons hi,ha,Ty.cellsF]
theorem zix {ss:List zad} {l:List PVar} {k:Nat} {i:Int} (h:l.length≤k):Ty.cellsF ss (l.drop k) i=[]:=by
 rw [List.drop_of_length_le h];rfl
theorem zeP (a b:List Ty.Cell):zas (a++b)=zas a++zas b:=by simp [zas]
theorem zeR (l:List Ty.Cell):∀ u ∈ zas l,u.oneCell'=true:=by
 intro u hu
 simp only [zas,List.mem_flatMap] at hu
 obtain ⟨c,_,hc⟩:=hu
 simp only [zcv,List.mem_cons,List.not_mem_nil,or_false] at hc
 rcases hc with rfl | rfl | rfl | rfl | rfl | rfl | rfl | rfl <;> rfl
theorem zgV {d:zaQ} {il:Bool} {row:List Value} {P:Nat→Prop} {r:List Ty.Cell} (hr:Ty.cells d.structs d.vars=r) (hok:zbj d) (w:World) (hP:∀ a,P a→a < w.heap.size) (he:LEnv w) (hd:zaF w P il d row) :
  Calls Tryz.prog 14 #[.agg row.toArray] w (zfb r w):=by
 obtain ⟨ck,hck⟩:∃ ck,Ty.check d.structs d.vars=ck:=⟨_,rfl⟩
 have HCH:=hd_ (fun W (hE:LEnv W) (hW:zaF W P il d row)=>zcX hck hok W hE hW)
 have HE:=hd_ he
 have HD:=hd_ hd
 have HOK:=hd_ hok
 have HP:=hd_ hP
 have HCK:=hd_ hck
 have HFEW:=hd_ hok.few
 have hr2:(ck≠none∧r=[])∨(ck=none∧Ty.cellsF d.structs d.vars 0=r):=by
  unfold Ty.cells at hr
  rw [hck] at hr
  cases ck with
  | some q=>rw [if_neg (by simp)] at hr;exact .inl ⟨by simp,hr.symm⟩
  | none=>rw [if_pos rfl] at hr;exact .inr ⟨rfl,hr⟩
 obtain ⟨vs,vv,bda,bdn,bdc,lna,lnn,lnc,rfl,hss,⟨cs,hsl,hrows⟩⟩:=hd
 obtain ⟨va,vn,vc,rfl⟩:=hss.shape
 obtain ⟨ua,uc,rfl,hblk⟩:=hsl.form
 obtain ⟨N,hN⟩:∃ N,d.vars.length=N:=⟨_,rfl⟩
 have HN:=hd_ hN
 rw [hN] at hblk hsl HD HCH ⊢
 obtain ⟨nb,hnb⟩:∃ nb:ByteArray,(⟨d.name.toArray⟩:ByteArray)=nb:=⟨_,rfl⟩
 rw [hnb] at HD HCH ⊢
 have HROWS:=hd_ hrows
 have HBLK:=hd_ hblk
 obtain ⟨i0,hi0,hz0,hz1,hz2⟩:=info_parts zfj
 have HI:=hd_ (And.intro hi0 (And.intro hz0 (And.intro hz1 hz2)))
 clear hss hsl hrows hblk hN hnb hok hr he hP hck hi0 hz0 hz1 hz2
 go_enter Tryz.func14,Tryz.ntmps14
 have HB0:Hid (Below w.heap.size w (w.alloc (.cells #[.string nb,.slice va vn vc,.slice ua N uc,.bool il,.slice bda bdn bdc,.slice lna lnn lnc] 28))):=hd_ (br_.alloc nl_ _)
 go_wp2_with fail
 refine (HCH.out _ (HE.out.below HB0.out) (HD.out.keeps (zai HB0.out))).mono ?_
 rintro e w1 ⟨ev,rfl,hev,hb1⟩
 have B1:Hid (Below w.heap.size w w1):=hd_ (zal HB0.out hb1 (by simp))
 have P1:=hd_ ((Bl.new w #[.string nb,.slice va vn vc,.slice ua N uc,.bool il,.slice bda bdn bdc,.slice lna lnn lnc] 28).below hb1)
 clear hb1 HB0 HCH
 obtain ⟨-,-,p2,-,-,-⟩:=P1.out.cells6
 have kp:=P1.out.lt
 cases ck with
 | some q=>
  have hr3:r=[]:=by rcases hr2 with ⟨_,h⟩ | ⟨h,_⟩;exact h;cases h
  subst hr3
  obtain ⟨pp,rfl⟩:=hev.form
  clear hev hr2
  go_wp2_with fail
  go_ret
  exact ⟨_,rfl,⟨by simp [zas],.inl ⟨rfl,rfl⟩⟩,B1.out⟩
 | none=>
  have hev2:ev=.nilIface:=hev
  subst hev2
  have kw1:w.heap.size≤w1.heap.size:=B1.out.size
  have hr3:Ty.cellsF d.structs (d.vars.drop 0) ((0:Nat):Int)=r:=by rcases hr2 with ⟨h,_⟩ | ⟨_,h⟩;exact absurd rfl h;exact h
  have HR3:=hd_ hr3
  have HTK:=hd_ (zfW HOK.out HCK.out)
  have hNl:N≤256:=by rw [← HN.out];exact HTK.out.few
  have A1:Hid (w1.ownsRow w1.heap.size 56 8 (.slice none 0 0) ([]:List Ty.Cell).length (zas [])):=hd_ ⟨by simp [zas],.inl ⟨rfl,rfl⟩⟩
  have HCK2:=hd_ HCK.out
  clear hev hr2 hr3
  go_wp2_with fail
  go_loopw [3,13] (fun v3 v13 wr=>RRel (∃ (i:Nat) (acc:List Ty.Cell) (fv:Value),i≤N∧acc.length≤i*300∧v13=.int .i64 i∧fv=v3∧Hid (acc++Ty.cellsF d.structs (d.vars.drop i) (i:Int)=r)∧Hid (Bl wr w.heap.size #[.string nb,.slice va vn vc,.slice ua N uc,.bool il,.slice bda bdn bdc,.slice lna lnn lnc] 28)∧Hid (wr.ownsRow w1.heap.size 56 8 fv acc.length (zas acc))∧Hid (Below w.heap.size w wr)∧w1.heap.size≤wr.heap.size)) (fun _ v13 _=>N - (intOf v13).toNat)
  case atStart=>exact RRel.mk ⟨0,[],_,by omega,by simp,rfl,rfl,hd_ (by simpa using HR3.out),P1,A1,B1,Nat.le_refl _⟩
  case round=>
   obtain ⟨i,acc,fv,hi,hac,rfl,hfv,HACC,P3,A3,B3,kw3⟩:=hrel.it
   subst hfv
   clear hrel P1 A1 B1 HR3 p2 HCK
   obtain ⟨w3,rfl⟩:∃ w3,w3=wr:=⟨_,rfl⟩
   by_cases hlt:i < N
   ·obtain ⟨v,hv⟩:∃ v,d.vars[i]? = some v:=⟨d.vars[i]'(by have:=HN.out;omega),by rw [List.getElem?_eq_getElem]⟩
    have hmem:=List.mem_of_getElem? hv
    have HNX:=hd_ (zha (ss:=d.structs) (i:=(i:Int)) hv)
    have HLO:=hd_ (HTK.out.laid v hmem)
    have HVT:=hd_ (HTK.out.var v hmem)
    have HVO:=hd_ (HOK.out.vars v hmem)
    have HFW:=hd_ (fun c=>zgU HOK.out HCK2.out hmem c)
    obtain ⟨rw',hvv,hcells⟩:=HROWS.out.get hv
    have HVV:=hd_ hvv
    obtain ⟨vi,hrw,hini⟩:=hvv
    obtain ⟨ia,iln,ic,rfl⟩:=hini.slice
    subst hrw
    obtain ⟨g,rfl,_,hca⟩:=HBLK.out (by omega)
    obtain ⟨VN,hVN⟩:∃ b:ByteArray,(⟨v.name.toArray⟩:ByteArray)=b:=⟨_,rfl⟩
    obtain ⟨TN,hTN⟩:∃ b:ByteArray,(⟨v.tname.toArray⟩:ByteArray)=b:=⟨_,rfl⟩
    obtain ⟨AD,hAD⟩:∃ b:ByteArray,(⟨v.addr.toArray⟩:ByteArray)=b:=⟨_,rfl⟩
    have HAD:Hid (AD.data.toList=v.addr):=hd_ (by rw [← hAD])
    simp only [hVN,hTN,hAD] at HVV hcells
    have d0:=hca (i*10+0) _ ((hcells 0 (by omega)).trans rfl)
    have d1:=hca (i*10+1) _ ((hcells 1 (by omega)).trans rfl)
    have d2:=hca (i*10+2) _ ((hcells 2 (by omega)).trans rfl)
    have d3:=hca (i*10+3) _ ((hcells 3 (by omega)).trans rfl)
    have d4:=hca (i*10+4) _ ((hcells 4 (by omega)).trans rfl)
    have d5:=hca (i*10+5) _ ((hcells 5 (by omega)).trans rfl)
    have d6:=hca (i*10+6) _ ((hcells 6 (by omega)).trans rfl)
    have d7:=hca (i*10+7) _ ((hcells 7 (by omega)).trans rfl)
    have d8:=hca (i*10+8) _ ((hcells 8 (by omega)).trans rfl)
    have d9:=hca (i*10+9) _ ((hcells 9 (by omega)).trans rfl)
    have kg:=zac d0
    simp only [Nat.add_zero] at d0
    replace d0:=zab B3.out d0
    replace d1:=zab B3.out d1
    replace d2:=zab B3.out d2
    replace d3:=zab B3.out d3
    replace d4:=zab B3.out d4
    replace d5:=zab B3.out d5
    replace d6:=zab B3.out d6
    replace d7:=zab B3.out d7
    replace d8:=zab B3.out d8
    replace d9:=zab B3.out d9
    have z0:0≤(i:Int):=by omega
    have z1:(i:Int) < N:=by omega
    have z2:(i:Int).toNat=i:=by omega
    have z3:IntKind.i64.wrap ((i:Int)+1)=(i:Int)+1:=IntWalk.i64_in _ (by omega)
    have kg2:g < w3.heap.size:=by have:=B3.out.size;omega
    obtain ⟨kind,hk⟩:∃ x,v.kind=x:=⟨_,rfl⟩
    obtain ⟨lo,hlo⟩:∃ x,v.lo=x:=⟨_,rfl⟩
    obtain ⟨hi9,hhi⟩:∃ x,v.hi=x:=⟨_,rfl⟩
    obtain ⟨el,hel⟩:∃ x,v.elem=x:=⟨_,rfl⟩
    obtain ⟨re,hre⟩:∃ x,v.retain=x:=⟨_,rfl⟩
    obtain ⟨at9,hat⟩:∃ x,v.at_=x:=⟨_,rfl⟩
    have HRE:=hd_ hre
    simp only [hk,hlo,hhi,hel,hre,hat] at d1 d2 d3 d4 d6 d9 HVV
    have hadn:(v.addr=[]∧AD.toList.isEmpty=true)∨(v.addr≠[]∧AD.toList.isEmpty=false):=by
     have hl:AD.toList=AD.data.toList:=ByteArray.toList_eq _
     rw [hl,HAD.out]
     cases v.addr with
     | nil=>exact .inl ⟨rfl,rfl⟩
     | cons a b=>exact .inr ⟨by simp,rfl⟩
    clear hcells hca hv hVN hTN hAD hini hk hlo hhi hel hre hat HROWS hmem
    have kP:=P3.out.lt
    have KF:Hid (∀ k,fv.ownBlock=some k→k < w3.heap.size):=hd_ (fun k hk=>(A3.out.lt k hk).2)
    go_upto_region 8 with fail
    refine zaa (P:=Code.wp _ _ _ _) (F:=fun W=>Bl W w.heap.size #[.string nb,.slice va vn vc,.slice (some ⟨g,0,none⟩) N uc,.bool il,.slice bda bdn bdc,.slice lna lnn lnc] 28∧Bl W w3.heap.size #[.string VN,.int .i64 kind,.int .i64 lo,.int .i64 hi9,.int .i64 el,.string TN,.bool re,.string AD,.slice ia iln ic,.int .i64 at9] 54∧Bl W (w3.heap.size+1) #[.int .i64 i,.string ⟨#[]⟩,.int .i64 (-1),.int .i64 0,.bool re,.int .i64 0,.int .i64 0,.int .i64 0] 56∧W.ownsRow w1.heap.size 56 8 fv acc.length (zas acc)∧Below w.heap.size w W∧w1.heap.size≤W.heap.size)
     ⟨(P3.out.alloc _).alloc _,(Bl.new _ _ _).alloc _,Bl.newAt _ (by simp),zbW (zbW A3.out _) _,(B3.out.alloc B3.out.size _).alloc (by have:=B3.out.size;simp;omega) _,by simp;omega⟩ ?_
    clear d0 d1 d2 d3 d4 d5 d6 d7 d8 d9 kg2 P3 A3
    intro w5 ⟨P5,V5,C5,A5,B5,kw5⟩
    have P5:=hd_ P5
    have V5:=hd_ V5
    have C5:=hd_ C5
    have A5:=hd_ A5
    have B5:=hd_ B5
    obtain ⟨-,-,-,-,-,-,-,x7,-,-⟩:=V5.out.cells10
    have kx:=V5.out.lt
    rcases hadn with ⟨ha1,e5⟩ | ⟨ha1,e5⟩
    ·have HA1:=hd_ ha1
     clear ha1
     go_upto_region 10 with fail
     have HLA:=hd_ (fun W (hE:LEnv W) (hW:Below w.heap.size w W) (hp:zaF W P il d [.string nb,.slice va vn vc,.slice (some ⟨g,0,none⟩) N uc,.bool il,.slice bda bdn bdc,.slice lna lnn lnc]) (hv2:za0 W P v [.string VN,.int .i64 kind,.int .i64 lo,.int .i64 hi9,.int .i64 el,.string TN,.bool re,.string AD,.slice ia iln ic,.int .i64 at9])=>zip (v:=v) (c:=⟨i,[],-1,0,re,0,0,0⟩) rfl HLO.out W (fun a ha=>ll_ (HP.out a ha) hW.size) hE hp hv2 HFEW.out)
     obtain ⟨lc,hlc⟩:∃ lc,Ty.laid d.structs v ⟨i,[],-1,0,re,0,0,0⟩=lc:=⟨_,rfl⟩
     rw [hlc] at HLA
     have HNX2:Hid (acc++lc++Ty.cellsF d.structs (d.vars.drop (i+1)) ((i:Int)+1)=r):=hd_ (by
      rw [← HACC.out,HNX.out,List.append_assoc,← hlc,HRE.out]
      rw [if_pos HA1.out])
     have hlf:=HFW.out ⟨i,[],-1,0,re,0,0,0⟩
     rw [hlc] at hlf
     obtain ⟨hl0,hl9⟩:=hlf
     obtain ⟨NL,hNL⟩:∃ n,lc.length=n:=⟨_,rfl⟩
     obtain ⟨NA,hNA⟩:∃ n,acc.length=n:=⟨_,rfl⟩
     have HNL:=hd_ hNL
     have HNA:=hd_ hNA
     rw [hNL] at hl0 hl9
     rw [hNA] at hac A5
     clear hlc hNL hNA HLO HFW
     obtain ⟨q0,q1,q2,q3,q4,q5⟩:=P5.out.cells6
     obtain ⟨x0,x1,x2,x3,x4,x5,x6,x7,x8,x9⟩:=V5.out.cells10
     obtain ⟨u0,u1,u2,u3,u4,u5,u6,u7⟩:=C5.out.cells8
     have kp:=P5.out.lt
     have kx:=V5.out.lt
     have kc:=C5.out.lt
     go_wp2_with fail
     refine (HLA.out w5 (HE.out.below B5.out) B5.out (HD.out.keeps (zai B5.out)) (HVV.out.keeps (zai B5.out))).mono ?_
     rintro e w6 ⟨v6,rfl,ho6,hb6⟩
     have hfo:=ho6.form (by rw [HNL.out];exact hl0)
     obtain ⟨g6,cp6,rfl,_,_⟩:=hfo
     rw [HNL.out] at ho6 ⊢
     have B6:=hd_ (zah B5.out hb6)
     have P6:=hd_ (P5.out.below hb6)
     have A6:=hd_ (zae A5.out hb6 nl_)
     have L6:=hd_ ho6
     have kb6:w1.heap.size≤w6.heap.size:=lt_ kw5 hb6.size
     have HNO:Hid (some w.heap.size≠fv.ownBlock):=hd_ (zaB A6.out (by omega))
     clear ho6 hb6 q0 q1 q2 q3 q4 q5 x0 x1 x2 x3 x4 x5 x6 x7 x8 x9 u0 u1 u2 u3 u4 u5 u6 u7
     go_wp2_with (at_builtin;refine wpList_append_lies _ (by rfl) _ _ _ (by rfl) w1.heap.size 56 i0 _ 8 72 Tryz.underlying39 HI.out.1 HI.out.2.1 HI.out.2.2.1 HI.out.2.2.2 rfl (by omega) fv NA (zas acc) (by rfl) A6.out ⟨g6,0,none⟩ NL cp6 (zas lc) (by rfl) (by rw [zeQ,HNL.out]) (L6.out.cells (g:=g6) rfl) (zeR lc) hl0 (by simp only [maxLen];omega) (by omega) kb6 w6.heap.size rfl ?_;intro g9 cp9 w7 hown hgrow hat hlt9;have A7:=hd_ hown;have P7:=hd_ (P6.out.grown hgrow HNO.out);have B7:=hd_ (B6.out.grown hgrow B6.out.size (fun k hk=>by have:=(A6.out.lt k hk).1;omega));have K7:=hgrow.size;clear hown hgrow hat hlt9)
     go_roundw
     case rel=>exact RRel.mk ⟨i+1,acc++lc,_,by omega,by rw [List.length_append,HNA.out,HNL.out];omega,by simp,rfl,HNX2,P7,hd_ (by have:=A7.out;rw [List.length_append,HNA.out,HNL.out,zeP];exact this),B7,by omega⟩
     case measure=>simp [intOf];omega
    ·obtain ⟨⟨pa,pn⟩,hq⟩:=HVT.out.place ha1
     have HQ:=hd_ hq
     have HA1:=hd_ ha1
     have HPL:=hd_ (fun W (hE:Env W) (hv2:za0 W P v [.string VN,.int .i64 kind,.int .i64 lo,.int .i64 hi9,.int .i64 el,.string TN,.bool re,.string AD,.slice ia iln ic,.int .i64 at9])=>zgX hq HVO.out.addr W hE hv2)
     obtain ⟨x0,x1,x2,x3,x4,x5,x6,-,x8,x9⟩:=V5.out.cells10
     clear ha1 hq
     go_wp2_with fail
     refine (HPL.out w5 (HE.out.below B5.out).env (HVV.out.keeps (zai B5.out))).mono ?_
     rintro e w4 ⟨pa2,pn2,rfl,hpv,hb⟩
     have hpq:=hpv _ rfl
     injection hpq with h5 h6
     subst h5 h6
     have B4:=hd_ (zah B5.out hb)
     have V4:=hd_ (V5.out.below hb)
     have P4:=hd_ (P5.out.below hb)
     have C4:=hd_ (C5.out.below hb)
     have A4:=hd_ (zae A5.out hb nl_)
     have kw4:w1.heap.size≤w4.heap.size:=lt_ kw5 hb.size
     obtain ⟨-,-,-,-,-,c5,c6,-⟩:=C4.out.free8
     obtain ⟨-,-,-,-,-,y5,y6,-⟩:=C4.out.cells8
     have kc4:=C4.out.lt
     clear hpv hb x0 x1 x2 x3 x4 x5 x6 x7 x8 x9 V5 P5 C5 A5 HPL
     go_upto_region 10 with fail
     refine zaa (P:=Code.wp _ _ _ _) (F:=fun W=>Bl W w.heap.size #[.string nb,.slice va vn vc,.slice (some ⟨g,0,none⟩) N uc,.bool il,.slice bda bdn bdc,.slice lna lnn lnc] 28∧Bl W w3.heap.size #[.string VN,.int .i64 kind,.int .i64 lo,.int .i64 hi9,.int .i64 el,.string TN,.bool re,.string AD,.slice ia iln ic,.int .i64 at9] 54∧Bl W (w3.heap.size+1) #[.int .i64 i,.string ⟨#[]⟩,.int .i64 (-1),.int .i64 0,.bool re,.int .i64 pa2,.int .i64 pn2,.int .i64 0] 56∧W.ownsRow w1.heap.size 56 8 fv acc.length (zas acc)∧Below w.heap.size w W∧w1.heap.size≤W.heap.size)
      ⟨(P4.out.other (by omega) _ _).other (by omega) _ _,(V4.out.other (by omega) _ _).other (by omega) _ _,by simpa using (C4.out.set 5 _).set 6 _,A4.out.kept (((Only.refl (w3.heap.size+1) w4).setCell 5 _).setCell 6 _).grown (by cases hv:fv.ownBlock with | none=>exact .inl rfl | some k=>have:=KF.out k hv;exact .inr (by simp;omega)),(B4.out.setCell (by simp only;omega) _).setCell (by simp only;omega) _,by simpa using kw4⟩ ?_
     clear V4 P4 C4 A4 B4 B5 c5 c6 y5 y6 kc4 kw5
     intro w5 ⟨P5,V5,C5,A5,B5,kw5⟩
     have P5:=hd_ P5
     have V5:=hd_ V5
     have C5:=hd_ C5
     have A5:=hd_ A5
     have B5:=hd_ B5
     have HLA:=hd_ (fun W (hE:LEnv W) (hW:Below w.heap.size w W) (hp:zaF W P il d [.string nb,.slice va vn vc,.slice (some ⟨g,0,none⟩) N uc,.bool il,.slice bda bdn bdc,.slice lna lnn lnc]) (hv2:za0 W P v [.string VN,.int .i64 kind,.int .i64 lo,.int .i64 hi9,.int .i64 el,.string TN,.bool re,.string AD,.slice ia iln ic,.int .i64 at9])=>zip (v:=v) (c:=⟨i,[],-1,0,re,pa2,pn2,0⟩) rfl HLO.out W (fun a ha=>ll_ (HP.out a ha) hW.size) hE hp hv2 HFEW.out)
     obtain ⟨lc,hlc⟩:∃ lc,Ty.laid d.structs v ⟨i,[],-1,0,re,pa2,pn2,0⟩=lc:=⟨_,rfl⟩
     rw [hlc] at HLA
     have HNX2:Hid (acc++lc++Ty.cellsF d.structs (d.vars.drop (i+1)) ((i:Int)+1)=r):=hd_ (by
      rw [← HACC.out,HNX.out,List.append_assoc,← hlc,HRE.out]
      rw [if_neg HA1.out,HQ.out];rfl)
     have hlf:=HFW.out ⟨i,[],-1,0,re,pa2,pn2,0⟩
     rw [hlc] at hlf
     obtain ⟨hl0,hl9⟩:=hlf
     obtain ⟨NL,hNL⟩:∃ n,lc.length=n:=⟨_,rfl⟩
     obtain ⟨NA,hNA⟩:∃ n,acc.length=n:=⟨_,rfl⟩
     have HNL:=hd_ hNL
     have HNA:=hd_ hNA
     rw [hNL] at hl0 hl9
     rw [hNA] at hac A5
     clear hlc hNL hNA HLO HFW
     obtain ⟨q0,q1,q2,q3,q4,q5⟩:=P5.out.cells6
     obtain ⟨x0,x1,x2,x3,x4,x5,x6,x7,x8,x9⟩:=V5.out.cells10
     obtain ⟨u0,u1,u2,u3,u4,u5,u6,u7⟩:=C5.out.cells8
     have kp:=P5.out.lt
     have kx:=V5.out.lt
     have kc:=C5.out.lt
     go_wp2_with fail
     refine (HLA.out w5 (HE.out.below B5.out) B5.out (HD.out.keeps (zai B5.out)) (HVV.out.keeps (zai B5.out))).mono ?_
     rintro e w6 ⟨v6,rfl,ho6,hb6⟩
     have hfo:=ho6.form (by rw [HNL.out];exact hl0)
     obtain ⟨g6,cp6,rfl,_,_⟩:=hfo
     rw [HNL.out] at ho6 ⊢
     have B6:=hd_ (zah B5.out hb6)
     have P6:=hd_ (P5.out.below hb6)
     have A6:=hd_ (zae A5.out hb6 nl_)
     have L6:=hd_ ho6
     have kb6:w1.heap.size≤w6.heap.size:=lt_ kw5 hb6.size
     have HNO:Hid (some w.heap.size≠fv.ownBlock):=hd_ (zaB A6.out (by omega))
     clear ho6 hb6 q0 q1 q2 q3 q4 q5 x0 x1 x2 x3 x4 x5 x6 x7 x8 x9 u0 u1 u2 u3 u4 u5 u6 u7
     go_wp2_with (at_builtin;refine wpList_append_lies _ (by rfl) _ _ _ (by rfl) w1.heap.size 56 i0 _ 8 72 Tryz.underlying39 HI.out.1 HI.out.2.1 HI.out.2.2.1 HI.out.2.2.2 rfl (by omega) fv NA (zas acc) (by rfl) A6.out ⟨g6,0,none⟩ NL cp6 (zas lc) (by rfl) (by rw [zeQ,HNL.out]) (L6.out.cells (g:=g6) rfl) (zeR lc) hl0 (by simp only [maxLen];omega) (by omega) kb6 w6.heap.size rfl ?_;intro g9 cp9 w7 hown hgrow hat hlt9;have A7:=hd_ hown;have P7:=hd_ (P6.out.grown hgrow HNO.out);have B7:=hd_ (B6.out.grown hgrow B6.out.size (fun k hk=>by have:=(A6.out.lt k hk).1;omega));have K7:=hgrow.size;clear hown hgrow hat hlt9)
     go_roundw
     case rel=>exact RRel.mk ⟨i+1,acc++lc,_,by omega,by rw [List.length_append,HNA.out,HNL.out];omega,by simp,rfl,HNX2,P7,hd_ (by have:=A7.out;rw [List.length_append,HNA.out,HNL.out,zeP];exact this),B7,by omega⟩
     case measure=>simp [intOf];omega
   ·have HRS:Hid (acc=r):=hd_ (by have h:=HACC.out;rw [zix (by have:=HN.out;omega),List.append_nil] at h;exact h)
    have z1:¬ (i:Int) < N:=by omega
    go_wp2_with fail
    go_ret
    exact ⟨fv,rfl,by rw [← HRS.out];exact zcN A3.out kw1,B3.out⟩
end Go.Proofs.YtdpkjpjkdmkkpaaGreatDoor
