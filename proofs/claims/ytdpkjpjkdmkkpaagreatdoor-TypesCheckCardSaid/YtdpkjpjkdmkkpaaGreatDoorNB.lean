/- The walks through package types: Find. -/
import Derived.Test.YtdpkjpjkdmkkpaaGreatDoorNA
set_option maxRecDepth 100000
set_option maxHeartbeats 16000000
namespace Go.Proofs.YtdpkjpjkdmkkpaaGreatDoor
open Ad Go.RowKit Lx Pa
theorem ziF {vs:List PVar} {nm fd:List UInt8} {ix:Int} {cs:List Ty.Cell} {k:Nat} {c:Ty.Cell} {v:PVar} {i:Int} (h:cs[k]? = some c) (hv:vs[c.var.toNat]? = some v) :
  Ty.findF vs nm fd ix (cs.drop k) i=if v.name=nm∧c.field=fd∧(c.index=ix∨v.kind≠12) then i else Ty.findF vs nm fd ix (cs.drop (k+1)) (i+1):=by
 obtain ⟨hi,ha⟩:=List.getElem?_eq_some_iff.1 h
 rw [List.drop_eq_getElem_cons hi,ha,Ty.findF,hv]
theorem zjq {vs:List PVar} {nm fd:List UInt8} {ix:Int} {cs:List Ty.Cell} {k:Nat} {i:Int} (h:cs.length≤k):Ty.findF vs nm fd ix (cs.drop k) i=-1:=by
 rw [List.drop_of_length_le h];rfl
theorem zk0 {ss:List zad} {v:PVar} {c:Ty.Cell}:∀ x ∈ Ty.laid ss v c,x.var=c.var:=by
 intro x hx
 unfold Ty.laid at hx
 split at hx
 ·simp only [List.mem_map] at hx;obtain ⟨_,_,rfl⟩:=hx;rfl
 split at hx
 ·simp only [List.mem_singleton] at hx;subst hx;rfl
 split at hx
 ·simp only [List.mem_map] at hx;obtain ⟨_,_,rfl⟩:=hx;rfl
 ·simp only [List.mem_append,List.mem_map] at hx
  rcases hx with ⟨_,_,rfl⟩ | ⟨_,_,rfl⟩ <;> rfl
theorem ziz {ss:List zad} {l:List PVar} {i:Nat}:∀ x ∈ Ty.cellsF ss l (i:Int),∃ k:Nat,x.var=(k:Int)∧i≤k∧k < i+l.length:=by
 induction l generalizing i with
 | nil=>intro x hx;cases hx
 | cons v r ih=>
  intro x hx
  rw [Ty.cellsF] at hx
  rcases List.mem_append.1 hx with hx | hx
  ·exact ⟨i,zk0 x hx,Nat.le_refl _,by simp⟩
  ·obtain ⟨k,h1,h2,h3⟩:=ih (i:=i+1) x (by simpa using hx)
   exact ⟨k,h1,by omega,by simp;omega⟩
theorem zjl {ss:List zad} {vs:List PVar}:∀ x ∈ Ty.cells ss vs,∃ k:Nat,x.var=(k:Int)∧k < vs.length:=by
 intro x hx
 unfold Ty.cells at hx
 split at hx
 ·obtain ⟨k,h1,_,h3⟩:=ziz (i:=0) x hx
  exact ⟨k,h1,by omega⟩
 ·cases hx
theorem ziy {ss:List zad} {l:List PVar} {i:Int} (h:∀ v ∈ l,∀ c,(Ty.laid ss v c).length≤300):(Ty.cellsF ss l i).length≤l.length*300:=by
 induction l generalizing i with
 | nil=>simp [Ty.cellsF]
 | cons v r ih=>
  rw [Ty.cellsF,List.length_append]
  have h1:=h v (by simp) ⟨i,[],-1,0,v.retain,(if v.addr=[] then (0,0) else (Ty.place v).getD (0,0)).1,(if v.addr=[] then (0,0) else (Ty.place v).getD (0,0)).2,0⟩
  have h2:=ih (i:=i+1) (fun v hv=>h v (List.mem_cons_of_mem _ hv))
  simp only [List.length_cons]
  omega
theorem zjk {d:zaQ} (hok:zbj d):(Ty.cells d.structs d.vars).length≤100000:=by
 unfold Ty.cells
 split
 ·rename_i h
  have h1:=ziy (ss:=d.structs) (l:=d.vars) (i:=0) (fun v hv c=>(zgU hok h hv c).2)
  have:=(zfW hok h).few
  omega
 ·simp
theorem zao {l:List Ty.Cell} {k:Nat} {c:Ty.Cell} (h:l[k]? = some c) {j:Nat} {u:Value} (hj:(zcv c)[j]? = some u):(zas l)[k*8+j]? = some u:=by
 induction l generalizing k with
 | nil=>simp at h
 | cons a r ih=>
  have hl:(zcv a).length=8:=rfl
  show (zcv a++zas r)[k*8+j]? = some u
  cases k with
  | zero=>
   have h2:a=c:=by simpa using h
   subst h2
   obtain ⟨hlt,_⟩:=List.getElem?_eq_some_iff.1 hj
   rw [List.getElem?_append_left (by omega)]
   simpa using hj
  | succ n=>
   rw [List.getElem?_append_right (by omega),hl,show (n+1)*8+j - 8=n*8+j by omega]
   exact ih (by simpa using h)
theorem zll {d:zaQ} {il:Bool} {row:List Value} {P:Nat→Prop} {NM FD:ByteArray} {ix r:Int} (hr:Ty.find d.structs d.vars NM.data.toList FD.data.toList ix=r) (hok:zbj d) (w:World) (hP:∀ a,P a→a < w.heap.size) (he:LEnv w) (hd:zaF w P il d row) :
  Calls Tryz.prog 25 #[.agg row.toArray,.string NM,.string FD,.int .i64 ix] w fun e w'=>e=.returned (.int .i64 r)∧Below w.heap.size w w':=by
 obtain ⟨cl,hcl⟩:∃ cl,Ty.cells d.structs d.vars=cl:=⟨_,rfl⟩
 have HCE:=hd_ (fun W (hW:Below w.heap.size w W) (hE:LEnv W) (hp:zaF W P il d row)=>zgV hcl hok W (fun a ha=>ll_ (hP a ha) hW.size) hE hp)
 have HVR:Hid (∀ x ∈ cl,∃ k:Nat,x.var=(k:Int)∧k < d.vars.length):=hd_ (by rw [← hcl];exact zjl)
 have hfew:cl.length≤100000:=by rw [← hcl];exact zjk hok
 have HR:Hid (Ty.findF d.vars NM.data.toList FD.data.toList ix (cl.drop 0) ((0:Nat):Int)=r):=hd_ (by rw [← hr,← hcl];rfl)
 have HE:=hd_ he
 have HD:=hd_ hd
 obtain ⟨vs,vv,bda,bdn,bdc,lna,lnn,lnc,rfl,hss,⟨cs,hsl,hrows⟩⟩:=hd
 obtain ⟨va,vn,vc,rfl⟩:=hss.shape
 obtain ⟨ua,uc,rfl,hblk⟩:=hsl.form
 obtain ⟨N,hN⟩:∃ N,d.vars.length=N:=⟨_,rfl⟩
 obtain ⟨M,hM⟩:∃ M,cl.length=M:=⟨_,rfl⟩
 have hNl:N≤100000:=by rw [← hN];exact hok.many
 have HN:=hd_ hN
 have HM:=hd_ hM
 rw [hM] at hfew
 rw [hN] at hblk hsl HD HCE HVR ⊢
 obtain ⟨nb,hnb⟩:∃ nb:ByteArray,(⟨d.name.toArray⟩:ByteArray)=nb:=⟨_,rfl⟩
 rw [hnb] at HD HCE ⊢
 have HROWS:=hd_ hrows
 have HBLK:=hd_ hblk
 have HB0:Hid (Below w.heap.size w (w.alloc (.cells #[.string nb,.slice va vn vc,.slice ua N uc,.bool il,.slice bda bdn bdc,.slice lna lnn lnc] 28))):=hd_ (br_.alloc nl_ _)
 clear hss hsl hrows hblk hN hnb hok hr he hP hcl hM
 go_enter Tryz.func25,Tryz.ntmps25
 go_wp2_with fail
 refine (HCE.out _ HB0.out (HE.out.below HB0.out) (HD.out.keeps (zai HB0.out))).mono ?_
 rintro e w1 ⟨rv,rfl,ho,hb1⟩
 obtain ⟨ra,rc,rfl⟩:=zb4 ho
 have B1:Hid (Below w.heap.size w w1):=hd_ (zal HB0.out hb1 (by simp))
 have P1:=hd_ ((Bl.new w #[.string nb,.slice va vn vc,.slice ua N uc,.bool il,.slice bda bdn bdc,.slice lna lnn lnc] 28).below hb1)
 rw [HM.out] at ho ⊢
 have OW:=hd_ ho
 clear hb1 HB0 HCE ho
 go_wp2_with fail
 go_loopw [14] (fun v14 wr=>RRel (∃ k:Nat,k≤M∧v14=.int .i64 k∧Hid (Ty.findF d.vars NM.data.toList FD.data.toList ix (cl.drop k) (k:Int)=r)∧Hid (Below w.heap.size w wr)∧Hid (Below w1.heap.size w1 wr))) (fun v14 _=>M - (intOf v14).toNat)
 case atStart=>exact RRel.mk ⟨0,by omega,rfl,HR,B1,hd_ br_⟩
 case round=>
  obtain ⟨k,hk,rfl,HR2,B2,D2⟩:=hrel.it
  clear hrel HR
  obtain ⟨w2,rfl⟩:∃ w2,w2=wr:=⟨_,rfl⟩
  by_cases hlt:k < M
  ·obtain ⟨c,hc⟩:∃ c,cl[k]? = some c:=⟨cl[k]'(by have:=HM.out;omega),by rw [List.getElem?_eq_getElem]⟩
   obtain ⟨q,hq,hqN⟩:=HVR.out c (List.mem_of_getElem? hc)
   obtain ⟨v,hv⟩:∃ v,d.vars[q]? = some v:=⟨d.vars[q]'(by have:=HN.out;omega),by rw [List.getElem?_eq_getElem]⟩
   have HNX:=hd_ (ziF (nm:=NM.data.toList) (fd:=FD.data.toList) (ix:=ix) (i:=(k:Int)) hc (by rw [hq];exact hv))
   obtain ⟨rw',hvv,hcells⟩:=HROWS.out.get hv
   obtain ⟨vi,hrw,hini⟩:=hvv
   subst hrw
   obtain ⟨g,rfl,_,hca⟩:=HBLK.out (by omega)
   have hra0:∀ j u,(zas cl)[j]? = some u→∃ rg,ra=some ⟨rg,0,none⟩∧w1.cell? ⟨rg,j,none⟩=some u:=by
    intro j u hj
    obtain ⟨rg,rcp,hfo,_,_⟩:=OW.out.form (by omega)
    injection hfo with h1 h2 h3
    refine ⟨rg,h1,?_⟩
    have h4:=OW.out.cells (g:=rg) (by rw [h1];rfl) j u hj
    have hadd:(⟨rg,0,none⟩:Addr).add j=⟨rg,j,none⟩:=by unfold Addr.add;split <;> simp_all
    rw [hadd] at h4
    exact h4
   obtain ⟨rg,hrg,_⟩:=hra0 (k*8+0) _ (zao hc (j:=0) rfl)
   have hra:∀ j u,(zas cl)[j]? = some u→w1.cell? ⟨rg,j,none⟩=some u:=by
    intro j u hj
    obtain ⟨rg2,h1,h2⟩:=hra0 j u hj
    rw [hrg] at h1
    injection h1 with h1
    injection h1 with h1
    rw [h1];exact h2
   obtain ⟨cq,cf,c2,c3,c4,c5,c6,c7⟩:=c
   simp only at hq
   subst hq hrg
   have e0:=hra (k*8+0) _ (zao hc (j:=0) rfl)
   have e1:=hra (k*8+1) _ (zao hc (j:=1) rfl)
   have e2:=hra (k*8+2) _ (zao hc (j:=2) rfl)
   have e3:=hra (k*8+3) _ (zao hc (j:=3) rfl)
   have e4:=hra (k*8+4) _ (zao hc (j:=4) rfl)
   have e5:=hra (k*8+5) _ (zao hc (j:=5) rfl)
   have e6:=hra (k*8+6) _ (zao hc (j:=6) rfl)
   have e7:=hra (k*8+7) _ (zao hc (j:=7) rfl)
   replace e0:=zab D2.out e0
   replace e1:=zab D2.out e1
   replace e2:=zab D2.out e2
   replace e3:=zab D2.out e3
   replace e4:=zab D2.out e4
   replace e5:=zab D2.out e5
   replace e6:=zab D2.out e6
   replace e7:=zab D2.out e7
   have d0:=hca (q*10+0) _ ((hcells 0 (by omega)).trans rfl)
   have d1:=hca (q*10+1) _ ((hcells 1 (by omega)).trans rfl)
   simp only [Nat.add_zero] at d0 e0
   replace d0:=zab B2.out d0
   replace d1:=zab B2.out d1
   have kg:=zac d0
   have kr:=zac e0
   obtain ⟨VN,hVN⟩:∃ b:ByteArray,(⟨v.name.toArray⟩:ByteArray)=b:=⟨_,rfl⟩
   have HVN:Hid (v.name=VN.data.toList):=hd_ (by rw [← hVN])
   obtain ⟨CF,hCF⟩:∃ b:ByteArray,(⟨cf.toArray⟩:ByteArray)=b:=⟨_,rfl⟩
   have HCF:Hid (cf=CF.data.toList):=hd_ (by rw [← hCF])
   obtain ⟨kind,hkd⟩:∃ x,v.kind=x:=⟨_,rfl⟩
   have HKD:=hd_ hkd
   rw [hVN] at d0
   rw [hkd] at d1
   rw [hCF] at e1
   obtain ⟨p0,p1,p2,p3,p4,p5⟩:=(P1.out.below D2.out).cells6
   have kp:=(P1.out.below D2.out).lt
   have z0:0≤(k:Int):=by omega
   have z1:(k:Int) < M:=by omega
   have z2:(k:Int).toNat=k:=by omega
   have z3:IntKind.i64.wrap ((k:Int)+1)=(k:Int)+1:=IntWalk.i64_in _ (by omega)
   have z4:0≤(q:Int):=by omega
   have z5:(q:Int) < N:=by omega
   have z6:(q:Int).toNat=q:=by omega
   clear hra hra0 hca hcells hc hv hini hVN hCF hkd
   simp only [HVN.out,HCF.out,HKD.out] at HNX
   obtain ⟨b1,hb1⟩:∃ b,(VN.toList==NM.toList)=b:=⟨_,rfl⟩
   obtain ⟨b2,hb2⟩:∃ b,(CF.toList==FD.toList)=b:=⟨_,rfl⟩
   obtain ⟨b3,hb3⟩:∃ b,(c2==ix)=b:=⟨_,rfl⟩
   obtain ⟨b4,hb4⟩:∃ b,(kind != 12)=b:=⟨_,rfl⟩
   have f1:Hid (b1=true↔VN.data.toList=NM.data.toList):=hd_ (by rw [← hb1,zav];exact ⟨fun h=>by rw [h],fun h=>ByteArray.ext (Array.toList_inj.1 h)⟩)
   have f2:Hid (b2=true↔CF.data.toList=FD.data.toList):=hd_ (by rw [← hb2,zav];exact ⟨fun h=>by rw [h],fun h=>ByteArray.ext (Array.toList_inj.1 h)⟩)
   have f3:Hid (b3=true↔c2=ix):=hd_ (by rw [← hb3,beq_iff_eq])
   have f4:Hid (b4=true↔kind≠12):=hd_ (by rw [← hb4];simp)
   have HTEST:Hid ((VN.data.toList=NM.data.toList∧CF.data.toList=FD.data.toList∧(c2=ix∨kind≠12))↔(b1&&(b2&&(b3 || b4)))=true):=hd_ (by
    rw [← f1.out,← f2.out,← f3.out,← f4.out];simp)
   clear f1 f2 f3 f4
   cases b1 with
   | false=>
    have HNX2:Hid (Ty.findF d.vars NM.data.toList FD.data.toList ix (cl.drop (k+1)) ((k:Int)+1)=r):=hd_ (by rw [← HR2.out,HNX.out,if_neg (fun h=>by have:=HTEST.out.1 h;simp at this)])
    go_wp2_with fail
    go_roundw
    case rel=>exact RRel.mk ⟨k+1,by omega,by simp,hd_ (by simpa using HNX2.out),hd_ (B2.out.alloc B2.out.size _),hd_ (D2.out.alloc D2.out.size _)⟩
    case measure=>simp [intOf];omega
   | true=>
    cases b2 with
    | false=>
     have HNX2:Hid (Ty.findF d.vars NM.data.toList FD.data.toList ix (cl.drop (k+1)) ((k:Int)+1)=r):=hd_ (by rw [← HR2.out,HNX.out,if_neg (fun h=>by have:=HTEST.out.1 h;simp at this)])
     go_wp2_with fail
     go_roundw
     case rel=>exact RRel.mk ⟨k+1,by omega,by simp,hd_ (by simpa using HNX2.out),hd_ (B2.out.alloc B2.out.size _),hd_ (D2.out.alloc D2.out.size _)⟩
     case measure=>simp [intOf];omega
    | true=>
     cases b3 with
     | true=>
      have HRS:Hid ((k:Int)=r):=hd_ (by rw [← HR2.out,HNX.out,if_pos (HTEST.out.2 (by simp))])
      go_wp2_with fail
      go_ret
      exact ⟨zaf HRS.out,B2.out.alloc B2.out.size _⟩
     | false=>
      cases b4 with
      | true=>
       have HRS:Hid ((k:Int)=r):=hd_ (by rw [← HR2.out,HNX.out,if_pos (HTEST.out.2 (by simp))])
       go_wp2_with fail
       go_ret
       exact ⟨zaf HRS.out,B2.out.alloc B2.out.size _⟩
      | false=>
       have HNX2:Hid (Ty.findF d.vars NM.data.toList FD.data.toList ix (cl.drop (k+1)) ((k:Int)+1)=r):=hd_ (by rw [← HR2.out,HNX.out,if_neg (fun h=>by have:=HTEST.out.1 h;simp at this)])
       go_wp2_with fail
       go_roundw
       case rel=>exact RRel.mk ⟨k+1,by omega,by simp,hd_ (by simpa using HNX2.out),hd_ (B2.out.alloc B2.out.size _),hd_ (D2.out.alloc D2.out.size _)⟩
       case measure=>simp [intOf];omega
  ·have HRS:Hid ((-1:Int)=r):=hd_ (by rw [← HR2.out];exact (zjq (by have:=HM.out;omega)).symm)
   have z1:¬ (k:Int) < M:=by omega
   go_wp2_with fail
   go_ret
   exact ⟨zaf HRS.out,B2.out⟩
def ziH (n:Int):Bool:=decide (-9223372036854775808≤n)&&decide (n≤9223372036854775807)
def iniB:Ini→Bool
 | .plain l=>ziH l.n&&(decide (l.op=0) || decide (l.op=1))
 | .neg l _=>ziH l.n
def varB (f:PVar):Bool:=decide (f.name.length≤100000)&&(match f.init with | some i=>iniB i | none=>true)&&decide (f.addr.length≤100000)&&ziH f.lo&&ziH f.hi
def strB (s:zad):Bool:=decide (s.name.length≤100000)&&decide (s.fields.length≤100000)&&s.fields.all varB
def zna (d:zaQ):Bool:=decide (d.structs.length≤100000)&&d.structs.all strB&&decide (d.vars.length≤100000)&&d.vars.all varB
theorem zdy {n:Int} (h:ziH n=true):Is64 n:=by
 unfold ziH at h
 simp only [Bool.and_eq_true,decide_eq_true_eq] at h
 exact h
theorem zl5 {i:Ini} (h:iniB i=true):zdt i:=by
 cases i with
 | plain l=>
  unfold iniB at h
  simp only [Bool.and_eq_true,Bool.or_eq_true,decide_eq_true_eq] at h
  exact ⟨zdy h.1,h.2⟩
 | neg l a=>
  exact zdy h
theorem zkr {f:PVar} (h:varB f=true):zdT f:=by
 unfold varB at h
 simp only [Bool.and_eq_true,decide_eq_true_eq] at h
 obtain ⟨⟨⟨⟨h1,h2⟩,h3⟩,h4⟩,h5⟩:=h
 refine ⟨h1,fun i hi=>?_,h3,zdy h4,zdy h5⟩
 rw [hi] at h2
 exact zl5 h2
theorem zmB {s:zad} (h:strB s=true):zlP s:=by
 unfold strB at h
 simp only [Bool.and_eq_true,decide_eq_true_eq,List.all_eq_true] at h
 exact ⟨h.1.1,h.1.2,fun f hf=>zkr (h.2 f hf)⟩
theorem zh3 {d:zaQ} (h:zna d=true):zbj d:=by
 unfold zna at h
 simp only [Bool.and_eq_true,decide_eq_true_eq,List.all_eq_true] at h
 exact ⟨h.1.1.1,fun s hs=>zmB (h.1.1.2 s hs),h.1.2,fun v hv=>zkr (h.2 v hv)⟩
theorem zi7:zbj (zbI zes):=zh3 (by kernel_rfl)
theorem zi9:zbj (zbI zi8):=zh3 (by kernel_rfl)
theorem getD_some {α:Type} {l:List α} {k:Nat} {d:α} {P:α→Prop} (hk:k < l.length) (h:P (l.getD k d)):∃ c,l[k]? = some c∧P c:=by
 refine ⟨l[k],List.getElem?_eq_getElem hk,?_⟩
 rw [List.getD_eq_getElem?_getD,List.getElem?_eq_getElem hk] at h
 exact h
theorem zm6 {l:List Ty.Cell} (hl:l.length=12) (h:(l.getD 0 ⟨0,[],0,0,false,0,0,0⟩).index=2):∃ c,l[0]? = some c∧c.index=2:=getD_some (P:=fun (c:Ty.Cell)=>c.index=2) (by omega) h
theorem zlY {l:List Ty.Cell} (hl:l.length=12) (h:(l.getD 10 ⟨0,[],0,0,false,0,0,0⟩).init=3):∃ c,l[10]? = some c∧c.init=3:=getD_some (P:=fun (c:Ty.Cell)=>c.init=3) (by omega) h
theorem zlZ {l:List Ty.Cell} (hl:l.length=12) (h:(l.getD 11 ⟨0,[],0,0,false,0,0,0⟩).retain=true):∃ c,l[11]? = some c∧c.retain=true:=getD_some (P:=fun (c:Ty.Cell)=>c.retain=true) (by omega) h
theorem zkU:∃ c,zba[0]? = some c∧c.index=2:=zm6 zcJ zl9
theorem zjA:∃ c,zba[10]? = some c∧c.init=3:=zlY zcJ zkR
theorem zjB:∃ c,zba[11]? = some c∧c.retain=true:=zlZ zcJ zkS
theorem zjC:(Ty.insOf [67,84,85]).length=3:=by kernel_rfl
theorem ziK:(Ty.outsOf [67,84,85]).length=2:=by kernel_rfl
theorem zkW:Ty.block [83,82]=true:=by kernel_rfl
theorem zkV:Ty.pin [67,84,68] [76,68]=1:=by kernel_rfl
end Go.Proofs.YtdpkjpjkdmkkpaaGreatDoor
