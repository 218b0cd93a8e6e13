/- The walks through package types: laid. -/
import Derived.Test.YtdpkjpjkdmkkpaaGreatDoorMX
import Derived.Test.YtdpkjpjkdmkkpaaGreatDoorMY
set_option maxRecDepth 100000
set_option maxHeartbeats 16000000
namespace Go.Proofs.YtdpkjpjkdmkkpaaGreatDoor
open Ad Go.RowKit Lx Pa
theorem zis.below {B C O:Nat} {row:Option Nat} {w w':World} (h:zis C O row w w') (hB:B≤w.heap.size) (h1:B≤C) (h2:B≤O) (h3:∀ k,row=some k→B≤k):Below B w w':=
 ⟨h.os,h.tape,h.output,h.size,fun k hk=>h.blk k (by omega) (by omega) (by omega) (fun e=>by have:=h3 k e.symm;omega)⟩
theorem zf3.row_lt {lo C O:Nat} {w:World} {c:Ty.Cell} {fv:Value} {l:List Ty.Cell} (h:zf3 lo C O w c fv l):∀ k,fv.ownBlock=some k→lo≤k∧k < w.heap.size:=h.own.lt
theorem zf3.below {lo C O:Nat} {w w':World} {c:Ty.Cell} {fv:Value} {l:List Ty.Cell} (h:zf3 lo C O w c fv l) (hb:Below w.heap.size w w'):zf3 lo C O w' c fv l:=
 ⟨h.cell.below hb,h.out.below hb,zae h.own hb nl_,h.lt,h.ne,lt_ h.le hb.size⟩
structure zlv (ss:List zad) (v:PVar):Prop where
 arr:v.kind=12→Ty.scalar v.elem=true∧v.lo≤v.hi∧-2147483648≤v.lo∧v.hi≤2147483647∧v.hi - v.lo < 256
 one:v.kind≠0→v.kind≠12→Ty.scalar v.kind=true∧Ty.first v.init v.kind=true
 str:v.kind=0→∀ s,Ty.structOf ss v.tname=some s→s.fields.length≤256∧∀ f ∈ s.fields,Ty.scalar f.kind=true∧Ty.first f.init f.kind=true∧∀ i,f.init=some i→zdt i
 blk:v.kind=0→Ty.structOf ss v.tname=none→Ty.block v.tname=true
 ini:∀ i,v.init=some i→zdt i
def zfb (l:List Ty.Cell) (w:World) (e:Ending) (w':World):Prop:=∃ v,e=.returned v∧w'.ownsRow w.heap.size 56 8 v l.length (zas l)∧Below w.heap.size w w'
def Ty.Cell.put (c:Ty.Cell) (f:List UInt8) (ix k st:Int):Ty.Cell:={ c with field:=f,index:=ix,kind:=k,init:=st }
theorem zh9 {ss:List zad} {v:PVar} {c:Ty.Cell} {r:List Ty.Cell} (hr:Ty.laid ss v c=r) (h:v.kind=12) (hb:v.lo≤v.hi) :
  (r.length:Int)=v.hi - v.lo+1∧∀ k:Nat,(k:Int)≤v.hi - v.lo→r[k]? = some (c.put [] (v.lo+k) v.elem 0):=by
 subst hr
 unfold Ty.laid
 rw [if_pos h]
 refine ⟨by simp;omega,fun k hk=>?_⟩
 rw [List.getElem?_map,List.getElem?_range (by omega)]
 rfl
theorem zib {ss:List zad} {v:PVar} {c:Ty.Cell} {r:List Ty.Cell} (hr:Ty.laid ss v c=r) (h:v.kind≠12) (h0:v.kind≠0) :
  r=[c.put [] (-1) v.kind (Ty.start v.init v.kind)]:=by
 subst hr
 unfold Ty.laid
 rw [if_neg h,if_pos h0]
 rfl
theorem zic {ss:List zad} {v:PVar} {c:Ty.Cell} {r:List Ty.Cell} {s:zad} (hr:Ty.laid ss v c=r) (h0:v.kind=0) (hs:Ty.structOf ss v.tname=some s) :
  r.length=s.fields.length∧∀ (k:Nat) (f:PVar),s.fields[k]? = some f→r[k]? = some (c.put f.name (-1) f.kind (Ty.start f.init f.kind)):=by
 subst hr
 unfold Ty.laid
 rw [if_neg (by omega),if_neg (by simpa using h0),hs]
 refine ⟨by simp,fun k f hk=>?_⟩
 rw [List.getElem?_map,hk]
 rfl
theorem zia {ss:List zad} {v:PVar} {c:Ty.Cell} {r:List Ty.Cell} {ps:List (List UInt8)} (hr:Ty.laid ss v c=r) (h0:v.kind=0) (hs:Ty.structOf ss v.tname=none) (hp:Ty.insOf v.tname++Ty.outsOf v.tname=ps) :
  r.length=ps.length+3∧(∀ (k:Nat) (p:List UInt8),ps[k]? = some p→r[k]? = some (c.put p (-1) (Ty.pin v.tname p) 0)) ∧
  r[ps.length]? = some (c.put [49] (-1) 4 0)∧r[ps.length+1]? = some (c.put [50] (-1) 4 0)∧r[ps.length+2]? = some (c.put [51] (-1) 4 0):=by
 subst hr hp
 unfold Ty.laid
 rw [if_neg (by omega),if_neg (by simpa using h0),hs]
 refine ⟨by simp;omega,fun k p hk=>?_,?_,?_,?_⟩
 ·obtain ⟨hl,_⟩:=List.getElem?_eq_some_iff.1 hk
  rw [List.getElem?_append_left (by simpa using hl),List.getElem?_map,hk]
  rfl
 ·rw [List.getElem?_append_right (by simp)]
  simp [Ty.Cell.put]
 ·rw [List.getElem?_append_right (by simp)]
  simp [Ty.Cell.put]
 ·rw [List.getElem?_append_right (by simp)]
  simp [Ty.Cell.put]
theorem zhr {x:List UInt8} (h:Ty.block x=true):(∀ p ∈ Ty.insOf x++Ty.outsOf x,Ty.scalar (Ty.pin x p)=true)∧0 < (Ty.insOf x).length∧0 < (Ty.outsOf x).length:=by
 have key:∀ y:List UInt8,y ∈ ([[84,79,78],[84,79,70],[84,80],[67,84,85],[67,84,68],[67,84,85,68],[82,95,84,82,73,71],[70,95,84,82,73,71],[83,82],[82,83]]:List (List UInt8))→((Ty.insOf y++Ty.outsOf y).all (fun p=>Ty.scalar (Ty.pin y p))&&decide (0 < (Ty.insOf y).length)&&decide (0 < (Ty.outsOf y).length))=true:=by
  have hall:(([[84,79,78],[84,79,70],[84,80],[67,84,85],[67,84,68],[67,84,85,68],[82,95,84,82,73,71],[70,95,84,82,73,71],[83,82],[82,83]]:List (List UInt8)).all fun y=>((Ty.insOf y++Ty.outsOf y).all (fun p=>Ty.scalar (Ty.pin y p))&&decide (0 < (Ty.insOf y).length)&&decide (0 < (Ty.outsOf y).length)))=true:=by kernel_rfl
  intro y hy
  exact List.all_eq_true.1 hall y hy
 have hx:x ∈ ([[84,79,78],[84,79,70],[84,80],[67,84,85],[67,84,68],[67,84,85,68],[82,95,84,82,73,71],[70,95,84,82,73,71],[83,82],[82,83]]:List (List UInt8)):=by
  unfold Ty.block Ty.pins at h
  simp only [List.mem_cons,List.not_mem_nil,or_false]
  split at h
  ·rename_i h1;rcases h1 with h1 | h1 | h1 <;> simp [h1]
  split at h
  ·rename_i h1;simp [h1]
  split at h
  ·rename_i h1;simp [h1]
  split at h
  ·rename_i h1;simp [h1]
  split at h
  ·rename_i h1;rcases h1 with h1 | h1 <;> simp [h1]
  split at h
  ·rename_i h1;simp [h1]
  split at h
  ·rename_i h1;simp [h1]
  ·cases h
 have h1:=key x hx
 simp only [Bool.and_eq_true,List.all_eq_true,decide_eq_true_eq] at h1
 exact ⟨h1.1.1,h1.1.2,h1.2⟩
theorem zbT.splitP {w:World} {P:Nat→Prop} {s:zad} {row:List Value} (h:zbT w P s row) :
  ∃ a c cs,row=[.string ⟨s.name.toArray⟩,.slice a s.fields.length c,.int .i64 s.at_]∧zce w P s.fields cs∧(0 < s.fields.length→∃ g,a=some ⟨g,0,Option.none⟩∧P g∧zaC w g cs):=by
 obtain ⟨v,h1,cs,h2,h3⟩:=h
 obtain ⟨a,c,h4,h5⟩:=h2.form
 exact ⟨a,c,cs,by rw [h1,h4],h3,h5⟩
theorem znf {w w1 w2:World} {P:Nat→Prop} {B:Nat} (hP:∀ a,P a→a < B) (h1:Below B w w1) (h2:Below B w w2):zbR P P w1 w2:=
 ⟨fun a ha _=>(h2.block a (hP a ha)).trans (h1.block a (hP a ha)).symm,fun _ h=>h⟩
theorem zhc {w w':World} {C O g:Nat} {row:Option Nat} {cs:List Value} (h:zaC w g cs) (hc:zis C O row w w') (h1:g≠C) (h2:g≠O) (h3:some g≠row):zaC w' g cs:=by
 intro j u hj
 have h4:=h j u hj
 have h5:=hc.blk g (zac h4) h1 h2 h3
 simp only [World.cell?] at h4 ⊢
 rw [h5];exact h4
theorem zhd {w w':World} {g:Nat} {cs:List Value} (h:zaC w g cs) (hb:Below w.heap.size w w'):zaC w' g cs:=h.same (P:=fun _=>True) (fun a _ hlt=>hb.block a hlt) trivial
structure LdS (w:World) (B C O V:Nat) (vc:Array Value) (c:Ty.Cell) (l:List Ty.Cell) (wr:World) (fv:Value) (cc:Ty.Cell):Prop where
 ls:zf3 B C O wr cc fv l
 like:∃ f ix k st,cc=c.put f ix k st
 vb:Bl wr V vc 54
 bel:Below w.heap.size w wr
 ne:V≠C∧V≠O
 le:w.heap.size≤V∧w.heap.size≤C∧w.heap.size≤O
 lt:V < B
theorem LdS.below {w wr w':World} {B C O V:Nat} {vc:Array Value} {c cc:Ty.Cell} {l:List Ty.Cell} {fv:Value} (h:LdS w B C O V vc c l wr fv cc) (hb:Below wr.heap.size wr w'):LdS w B C O V vc c l w' fv cc:=
 ⟨h.ls.below hb,h.like,h.vb.below hb,zah h.bel hb,h.ne,h.le,h.lt⟩
theorem LdS.cell {w wr:World} {B C O V:Nat} {vc:Array Value} {c cc:Ty.Cell} {l:List Ty.Cell} {fv:Value} (h:LdS w B C O V vc c l wr fv cc):wr.cell? ⟨O,0,none⟩=some fv∧O < wr.heap.size:=⟨(h.ls.out.cell rfl).1,h.ls.out.lt⟩
theorem LdS.post {w wr:World} {B C O V:Nat} {vc:Array Value} {c cc:Ty.Cell} {l r:List Ty.Cell} {fv:Value} (h:LdS w B C O V vc c l wr fv cc) (hl:l=r):zfb r w (.returned fv) wr:=by
 subst hl
 exact ⟨fv,rfl,zcN h.ls.own (by have:=h.le.1;have:=h.lt;omega),h.bel⟩
theorem zcV {w wr:World} {B C O V:Nat} {vc:Array Value} {c cc:Ty.Cell} {r:List Ty.Cell} {fv v:Value} {P:Nat→Prop} {o:Option Ini} {FB:ByteArray} {ix kd st:Int} {k:Nat} (h:LdS w B C O V vc c (r.take k) wr fv cc)
  (hk:Ty.scalar kd=true) (hf:Ty.first o kd=true) (hi:∀ i,o=some i→zdt i) (hv:IniV wr P o v) (hst:Ty.start o kd=st) (hx:r[k]? = some (c.put FB.data.toList ix kd st)) (hr:r.length≤1000000) :
  Calls Tryz.prog 71 #[.string FB,.int .i64 ix,.int .i64 kd,v,.pointer (some ⟨C,0,none⟩),.pointer (some ⟨O,0,none⟩)] wr fun e w'=>
   e=.returned (.tuple #[])∧∃ fv' cc',LdS w B C O V vc c (r.take (k+1)) w' fv' cc'∧zis C O fv.ownBlock wr w'∧∀ k,fv'.ownBlock=some k→fv.ownBlock=some k∨wr.heap.size≤k:=by
 subst hst
 have hkk:1≤kd∧kd≤11:=by have h1:=hk;unfold Ty.scalar at h1;simpa using h1
 obtain ⟨kn,rfl⟩:∃ kn:Nat,kd=kn:=⟨kd.toNat,by omega⟩
 have h1:=zmC (f:=FB.data.toList) (ix:=ix) (c:=cc) (l:=r.take k) (by omega) (by omega) hf hi wr hv h.ls (by rw [List.length_take];omega)
 refine h1.mono ?_
 rintro e w' ⟨rfl,fv',hs,hc,hn⟩
 obtain ⟨f1,i1,k1,s1,hcc⟩:=h.like
 have htk:r.take (k+1)=r.take k++[c.put FB.data.toList ix kn (Ty.start o kn)]:=by rw [List.take_add_one,hx];rfl
 have hput:({ cc with field:=FB.data.toList,index:=ix,kind:=(kn:Int),init:=Ty.start o kn }:Ty.Cell)=c.put FB.data.toList ix kn (Ty.start o kn):=by rw [hcc];rfl
 rw [hput] at hs
 refine ⟨rfl,fv',_,⟨by rw [htk];exact hs,⟨_,_,_,_,rfl⟩,h.vb.addCh hc h.ne.1 h.ne.2 ?_,?_,h.ne,h.le,h.lt⟩,hc,hn⟩
 ·intro e1
  have:=(h.ls.row_lt V e1.symm).1
  have:=h.lt
  omega
 ·refine h.bel.trans (hc.below h.bel.size h.le.2.1 h.le.2.2 ?_)
  intro q hq
  have:=(h.ls.row_lt q hq).1
  have:=h.le.1
  have:=h.lt
  omega
theorem zip {d:zaQ} {il:Bool} {row vrow:List Value} {P:Nat→Prop} {v:PVar} {c:Ty.Cell} {r:List Ty.Cell} (hr:Ty.laid d.structs v c=r) (hok:zlv d.structs v) (w:World) (hP:∀ a,P a→a < w.heap.size) (he:LEnv w) (hd:zaF w P il d row) (hv:za0 w P v vrow) (hn:d.structs.length≤100000) :
  Calls Tryz.prog 39 #[.agg row.toArray,.agg vrow.toArray,.agg (zcv c).toArray] w (zfb r w):=by
 have HOK:=hd_ hok
 have HP:=hd_ hP
 have HE:=hd_ he
 have HD:=hd_ hd
 have HR:=hd_ hr
 obtain ⟨vs,vv,bda,bdn,bdc,lna,lnn,lnc,rfl,hss,hvv⟩:=hd
 obtain ⟨va,vn,vc,rfl⟩:=hss.shape
 obtain ⟨ua,un,uc,rfl⟩:=hvv.shape
 obtain ⟨nb,hnb⟩:∃ nb:ByteArray,(⟨d.name.toArray⟩:ByteArray)=nb:=⟨_,rfl⟩
 obtain ⟨iv,rfl,hini⟩:=hv
 obtain ⟨ia,iln,ic,rfl⟩:=hini.slice
 have HINI:=hd_ hini
 obtain ⟨vnm,kind,lo,hi,el,tn,re,ad,ini,at9⟩:=v
 obtain ⟨VN,hVN⟩:∃ b:ByteArray,(⟨vnm.toArray⟩:ByteArray)=b:=⟨_,rfl⟩
 obtain ⟨TN,hTN⟩:∃ b:ByteArray,(⟨tn.toArray⟩:ByteArray)=b:=⟨_,rfl⟩
 obtain ⟨AD,hAD⟩:∃ b:ByteArray,(⟨ad.toArray⟩:ByteArray)=b:=⟨_,rfl⟩
 have hTl:TN.data.toList=tn:=by rw [← hTN]
 have HTL:=hd_ hTl
 simp only [hnb,hVN,hTN,hAD] at HD ⊢
 simp only at HINI
 obtain ⟨so,hso⟩:∃ so,Ty.structOf d.structs tn=so:=⟨_,rfl⟩
 have HSO:=hd_ (fun W (hW:zaF W P il d [.string nb,.slice va vn vc,.slice ua un uc,.bool il,.slice bda bdn bdc,.slice lna lnn lnc])=>zbM (nm:=TN) (r:=so) (by rw [hTl];exact hso) W hW hn)
 have HSV:=hd_ hso
 obtain ⟨c0,cf,c2,c3,c4,c5,c6,c7⟩:=c
 obtain ⟨CF,hCF⟩:∃ b:ByteArray,(⟨cf.toArray⟩:ByteArray)=b:=⟨_,rfl⟩
 have HCF:=hd_ hCF
 simp only [zcv,hCF]
 have hmf:∀ (fn:Fn) (first cap:Array Value) (w:World),(Instr.makeFunc fn first cap).run Tryz.prog w=.ok (.func fn first cap) w:=fun _ _ _ _=>rfl
 have HB0:Hid (Below w.heap.size w ((((w.alloc (.cells #[.string nb,.slice va vn vc,.slice ua un uc,.bool il,.slice bda bdn bdc,.slice lna lnn lnc] 28)).alloc (.cells #[.string VN,.int .i64 kind,.int .i64 lo,.int .i64 hi,.int .i64 el,.string TN,.bool re,.string AD,.slice ia iln ic,.int .i64 at9] 54)).alloc (.cells #[.int .i64 c0,.string CF,.int .i64 c2,.int .i64 c3,.bool c4,.int .i64 c5,.int .i64 c6,.int .i64 c7] 56)).alloc (.cells #[.slice none 0 0] 39))):=hd_ ((((br_.alloc nl_ _).alloc (by simp) _).alloc (by simp;omega) _).alloc (by simp;omega) _)
 clear hr hok hP he hss hvv hnb hini hVN hTN hAD hTl hso hCF
 go_enter Tryz.func39,Tryz.ntmps39
 go_wp2_with fail
 refine (HSO.out _ (HD.out.keeps (zai HB0.out))).mono ?_
 rintro e w1 ⟨sv,rfl,hsv,hb1⟩
 have B1:Hid (Below w.heap.size w w1):=hd_ (zal HB0.out hb1 (by simp;omega))
 have V1:=hd_ ((Bl.newAt (X:=w.heap.size+1) (w.alloc (.cells #[.string nb,.slice va vn vc,.slice ua un uc,.bool il,.slice bda bdn bdc,.slice lna lnn lnc] 28)) (vs:=#[.string VN,.int .i64 kind,.int .i64 lo,.int .i64 hi,.int .i64 el,.string TN,.bool re,.string AD,.slice ia iln ic,.int .i64 at9]) (T:=54) (by simp)).alloc (.cells #[.int .i64 c0,.string CF,.int .i64 c2,.int .i64 c3,.bool c4,.int .i64 c5,.int .i64 c6,.int .i64 c7] 56))
 have V1:=hd_ ((V1.out.alloc (.cells #[.slice none 0 0] 39)).below hb1)
 have C1:=hd_ ((Bl.newAt (X:=w.heap.size+1+1) ((w.alloc (.cells #[.string nb,.slice va vn vc,.slice ua un uc,.bool il,.slice bda bdn bdc,.slice lna lnn lnc] 28)).alloc (.cells #[.string VN,.int .i64 kind,.int .i64 lo,.int .i64 hi,.int .i64 el,.string TN,.bool re,.string AD,.slice ia iln ic,.int .i64 at9] 54)) (vs:=#[.int .i64 c0,.string CF,.int .i64 c2,.int .i64 c3,.bool c4,.int .i64 c5,.int .i64 c6,.int .i64 c7]) (T:=56) (by simp)).alloc (.cells #[.slice none 0 0] 39))
 have C1:=hd_ (C1.out.below hb1)
 have O1:=hd_ ((Bl.newAt (X:=w.heap.size+1+1+1) (((w.alloc (.cells #[.string nb,.slice va vn vc,.slice ua un uc,.bool il,.slice bda bdn bdc,.slice lna lnn lnc] 28)).alloc (.cells #[.string VN,.int .i64 kind,.int .i64 lo,.int .i64 hi,.int .i64 el,.string TN,.bool re,.string AD,.slice ia iln ic,.int .i64 at9] 54)).alloc (.cells #[.int .i64 c0,.string CF,.int .i64 c2,.int .i64 c3,.bool c4,.int .i64 c5,.int .i64 c6,.int .i64 c7] 56)) (vs:=#[.slice none 0 0]) (T:=39) (by simp)).below hb1)
 have hle1:w.heap.size+1+1+1 < w1.heap.size:=O1.out.lt
 have HSV2:Hid (StrV w1 P so sv):=hd_ (by
  cases so with
  | none=>exact hsv
  | some s=>
   obtain ⟨row,h1,h2⟩:=hsv
   exact ⟨row,h1,h2.keeps (zai hb1)⟩)
 clear hsv hb1 HB0 HSO
 obtain ⟨snm,sa,sn,sc,sta,rfl⟩:∃ snm sa sn sc sta,sv=.agg #[.string snm,.slice sa sn sc,.int .i64 sta]:=by
  cases so with
  | none=>exact ⟨_,_,_,_,_,HSV2.out⟩
  | some s=>
   obtain ⟨a1,a2,a3,a4,a5⟩:=HSV2.out.len
   exact ⟨a1,a2,_,a3,a4,a5⟩
 go_upto_region 15 with fail
 refine zaa (P:=Code.wp _ _ _ _) (F:=fun W=>Bl W (w.heap.size+1) #[.string VN,.int .i64 kind,.int .i64 lo,.int .i64 hi,.int .i64 el,.string TN,.bool re,.string AD,.slice ia iln ic,.int .i64 at9] 54∧Bl W (w.heap.size+1+1) #[.int .i64 c0,.string CF,.int .i64 c2,.int .i64 c3,.bool c4,.int .i64 c5,.int .i64 c6,.int .i64 c7] 56∧Bl W (w.heap.size+1+1+1) #[.slice none 0 0] 39∧Bl W w1.heap.size #[.string snm,.slice sa sn sc,.int .i64 sta] 64∧Below w1.heap.size w1 W)
  ⟨V1.out.alloc _,C1.out.alloc _,O1.out.alloc _,Bl.new _ _ _,br_.alloc nl_ _⟩ ?_
 clear V1 C1 O1
 intro w2 ⟨V2,C2,O2,S2,D2⟩
 have BW2:=hd_ (zah B1.out D2)
 obtain ⟨x0,x1,x2,x3,x4,x5,x6,x7,x8,x9⟩:=V2.cells10
 have kx:=V2.lt
 have kc:=C2.lt
 have ko:=O2.lt
 have V2:=hd_ V2
 have C2:=hd_ C2
 have O2:=hd_ O2
 have S2:=hd_ S2
 have D2:=hd_ D2
 obtain ⟨c,hc⟩:∃ c:Ty.Cell,(⟨c0,cf,c2,c3,c4,c5,c6,c7⟩:Ty.Cell)=c:=⟨_,rfl⟩
 have HCC:Hid (zcv c=[.int .i64 c0,.string CF,.int .i64 c2,.int .i64 c3,.bool c4,.int .i64 c5,.int .i64 c6,.int .i64 c7]):=hd_ (by rw [← hc];simp only [zcv,HCF.out])
 rw [hc] at HR
 clear hc HCF
 have ST:Hid (∀ W,Below w.heap.size w W→Bl W (w.heap.size+1) #[.string VN,.int .i64 kind,.int .i64 lo,.int .i64 hi,.int .i64 el,.string TN,.bool re,.string AD,.slice ia iln ic,.int .i64 at9] 54→Bl W (w.heap.size+1+1) #[.int .i64 c0,.string CF,.int .i64 c2,.int .i64 c3,.bool c4,.int .i64 c5,.int .i64 c6,.int .i64 c7] 56→Bl W (w.heap.size+1+1+1) #[.slice none 0 0] 39 →
   LdS w W.heap.size (w.heap.size+1+1) (w.heap.size+1+1+1) (w.heap.size+1) #[.string VN,.int .i64 kind,.int .i64 lo,.int .i64 hi,.int .i64 el,.string TN,.bool re,.string AD,.slice ia iln ic,.int .i64 at9] c (r.take 0) W (.slice none 0 0) c):=hd_ (fun W h1 h2 h3 h4=>
  ⟨⟨by rw [HCC.out];exact h3,h4,⟨by simp [zas],.inl ⟨rfl,rfl⟩⟩,⟨h3.lt,h4.lt⟩,by omega,Nat.le_refl _⟩,⟨c.field,c.index,c.kind,c.init,rfl⟩,h2,h1,⟨by omega,by omega⟩,⟨by omega,by omega,by omega⟩,h2.lt⟩)
 by_cases h12:kind=12
 ·have e1:(kind==12)=true:=by simpa using h12
  obtain ⟨a1,a2,a3,a4,a5⟩:=HOK.out.arr h12
  simp only at a1 a2 a3 a4 a5
  obtain ⟨r1,r2⟩:=zh9 HR.out h12 a2
  simp only at r1 r2
  have HAD:=hd_ (fun W fv cc (k:Nat) (h:LdS w w2.heap.size (w.heap.size+1+1) (w.heap.size+1+1+1) (w.heap.size+1) #[.string VN,.int .i64 kind,.int .i64 lo,.int .i64 hi,.int .i64 el,.string TN,.bool re,.string AD,.slice ia iln ic,.int .i64 at9] c (r.take k) W fv cc) (hk:(k:Int)≤hi - lo)=>
   zcV (FB:=⟨#[]⟩) (o:=none) (v:=.slice none 0 0) (P:=P) (kd:=el) h a1 rfl (by intro i h;cases h) (IniV.none W P) rfl (r2 k hk) (by omega))
  have HR1:=hd_ r1
  have ST:=hd_ (ST.out w2 BW2.out V2.out C2.out O2.out)
  clear r1 r2 h12 a1
  go_wp2_with fail
  go_loopw [11] (fun v11 wr=>RRel (∃ (k:Nat) (fv:Value) (cc:Ty.Cell),(k:Int)≤hi - lo+1∧v11=.int .i64 (lo+k)∧Hid (LdS w w2.heap.size (w.heap.size+1+1) (w.heap.size+1+1+1) (w.heap.size+1) #[.string VN,.int .i64 kind,.int .i64 lo,.int .i64 hi,.int .i64 el,.string TN,.bool re,.string AD,.slice ia iln ic,.int .i64 at9] c (r.take k) wr fv cc))) (fun v11 _=>(hi+1 - intOf v11).toNat)
  case atStart=>exact RRel.mk ⟨0,_,_,by omega,by simp,ST⟩
  case round=>
   obtain ⟨k,fv,cc,hk,rfl,L⟩:=hrel.it
   clear hrel
   obtain ⟨w3,rfl⟩:∃ w3,w3=wr:=⟨_,rfl⟩
   obtain ⟨y0,y1,y2,y3,y4,y5,y6,y7,y8,y9⟩:=L.out.vb.cells10
   have ky:=L.out.vb.lt
   by_cases hlt:(k:Int)≤hi - lo
   ·have z1:lo+(k:Int)≤hi:=by omega
    have z2:IntKind.i64.wrap (lo+(k:Int)+1)=lo+(k:Int)+1:=IntWalk.i64_in _ (by omega)
    go_wp2_with (go_at_call 71;refine (HAD.out w3 fv cc k L.out hlt).mono ?_;rintro e w4 ⟨rfl,fv',cc',hl,-,-⟩;have L4:=hd_ hl;clear hl)
    go_roundw
    case rel=>exact RRel.mk ⟨k+1,fv',cc',by omega,by simp;omega,L4⟩
    case measure=>simp [intOf];omega
   ·have z1:¬ (lo+(k:Int)≤hi):=by omega
    obtain ⟨o1,ko1⟩:=L.out.cell
    go_wp2_with fail
    go_returns
    exact L.out.post (List.take_of_length_le (by have:=HR1.out;omega))
 have e1:(kind==12)=false:=by simpa using h12
 by_cases h0:kind=0
 ·have e2:(kind != 0)=false:=by simpa using h0
  cases so with
  | some s=>
   obtain ⟨s1,s2⟩:=zic HR.out h0 HSV.out
   obtain ⟨t1,t2⟩:=HOK.out.str h0 s HSV.out
   obtain ⟨row,hrow,hsv⟩:=HSV2.out
   obtain ⟨sa2,sc2,fcs,hrw,hfr,hfc⟩:=hsv.splitP
   subst hrw
   have hrow2:snm=⟨s.name.toArray⟩∧sa=sa2∧sn=s.fields.length∧sc=sc2∧sta=s.at_:=by
    injection hrow with h1
    injection h1 with h1
    simp only [List.cons.injEq,Value.string.injEq,Value.slice.injEq,Value.int.injEq] at h1
    exact ⟨h1.1,h1.2.1.1,h1.2.1.2.1,h1.2.1.2.2,h1.2.2.1.2⟩
   obtain ⟨hx1,rfl,hx2,rfl,hx3⟩:=hrow2
   obtain ⟨NF,hNF⟩:∃ n,s.fields.length=n:=⟨_,rfl⟩
   rw [hNF] at s1 t1 hfc hx2
   have HNF:=hd_ hNF
   have hx2:=hx2.symm
   subst hx2
   have KP:=hd_ (fun W (hW:Below w.heap.size w W)=>znf HP.out B1.out hW)
   have HFR:=hd_ hfr
   have HFC:=hd_ hfc
   have HS2:=hd_ s2
   have HT2:=hd_ t2
   have HR1:=hd_ s1
   have HAD:=hd_ (fun W fv cc (k:Nat) (f:PVar) (FB:ByteArray) (v:Value) (h:LdS w w2.heap.size (w.heap.size+1+1) (w.heap.size+1+1+1) (w.heap.size+1) #[.string VN,.int .i64 kind,.int .i64 lo,.int .i64 hi,.int .i64 el,.string TN,.bool re,.string AD,.slice ia iln ic,.int .i64 at9] c (r.take k) W fv cc) (hfk:s.fields[k]? = some f) (hn:f.name=FB.data.toList) (hv:IniV W P f.init v)=>
    zcV (FB:=FB) (ix:=-1) (kd:=f.kind) h (t2 f (List.mem_of_getElem? hfk)).1 (t2 f (List.mem_of_getElem? hfk)).2.1 (t2 f (List.mem_of_getElem? hfk)).2.2 hv rfl (by rw [← hn];exact s2 k f hfk) (by omega))
   have ST:=hd_ (ST.out w2 BW2.out V2.out C2.out O2.out)
   obtain ⟨q0,q1,q2⟩:=S2.out.cells3
   have ks:=S2.out.lt
   clear hrow hsv hx1 hx3 hfr hfc s1 s2 t2 hNF h0 h12 HSV2
   go_wp2_with fail
   go_loopw [102] (fun v102 wr=>RRel (∃ (k:Nat) (fv:Value) (cc:Ty.Cell),k≤NF∧v102=.int .i64 k∧Hid (LdS w w2.heap.size (w.heap.size+1+1) (w.heap.size+1+1+1) (w.heap.size+1) #[.string VN,.int .i64 kind,.int .i64 lo,.int .i64 hi,.int .i64 el,.string TN,.bool re,.string AD,.slice ia iln ic,.int .i64 at9] c (r.take k) wr fv cc))) (fun v102 _=>NF - (intOf v102).toNat)
   case atStart=>exact RRel.mk ⟨0,_,_,by omega,rfl,ST⟩
   case round=>
    obtain ⟨k,fv,cc,hk,rfl,L⟩:=hrel.it
    clear hrel
    obtain ⟨w3,rfl⟩:∃ w3,w3=wr:=⟨_,rfl⟩
    by_cases hlt:k < NF
    ·obtain ⟨f,hf⟩:∃ f,s.fields[k]? = some f:=⟨s.fields[k]'(by have:=HNF.out;omega),by rw [List.getElem?_eq_getElem]⟩
     obtain ⟨frw,hfv,hfcells⟩:=HFR.out.get hf
     obtain ⟨fi,hfrw,hini⟩:=hfv
     have HFI:=hd_ (hini.keeps (KP.out w3 L.out.bel))
     obtain ⟨ja,jl,jc,rfl⟩:=hini.slice
     subst hfrw
     obtain ⟨FN,hFN⟩:∃ b:ByteArray,(⟨f.name.toArray⟩:ByteArray)=b:=⟨_,rfl⟩
     have HFN:Hid (f.name=FN.data.toList):=hd_ (by rw [← hFN])
     rw [hFN] at hfcells
     obtain ⟨fg,rfl,hfp,hfca⟩:=HFC.out (by omega)
     have hfca:=hfca.same (KP.out w3 L.out.bel).same hfp
     have b0:=hfca (k*10+0) _ ((hfcells 0 (by omega)).trans rfl)
     have b1:=hfca (k*10+1) _ ((hfcells 1 (by omega)).trans rfl)
     have b2:=hfca (k*10+2) _ ((hfcells 2 (by omega)).trans rfl)
     have b3:=hfca (k*10+3) _ ((hfcells 3 (by omega)).trans rfl)
     have b4:=hfca (k*10+4) _ ((hfcells 4 (by omega)).trans rfl)
     have b5:=hfca (k*10+5) _ ((hfcells 5 (by omega)).trans rfl)
     have b6:=hfca (k*10+6) _ ((hfcells 6 (by omega)).trans rfl)
     have b7:=hfca (k*10+7) _ ((hfcells 7 (by omega)).trans rfl)
     have b8:=hfca (k*10+8) _ ((hfcells 8 (by omega)).trans rfl)
     have b9:=hfca (k*10+9) _ ((hfcells 9 (by omega)).trans rfl)
     simp only [Nat.add_zero] at b0
     have kfg:=zac b0
     have z0:0≤(k:Int):=by omega
     have z1:(k:Int) < NF:=by omega
     have z2:(k:Int).toNat=k:=by omega
     have z3:IntKind.i64.wrap ((k:Int)+1)=(k:Int)+1:=IntWalk.i64_in _ (by omega)
     have HF:=hd_ hf
     clear hfcells hfca hf hFN hini hfp
     go_wp2_with (go_at_call 71;refine (HAD.out _ fv cc k f FN _ (L.out.below (br_.alloc nl_ _)) HF.out HFN.out (HFI.out.keeps (zai (br_.alloc nl_ _)))).mono ?_;rintro e w4 ⟨rfl,fv',cc',hl,-,-⟩;have L4:=hd_ hl;clear hl)
     go_roundw
     case rel=>exact RRel.mk ⟨k+1,fv',cc',by omega,by simp,L4⟩
     case measure=>simp [intOf];omega
    ·have z1:¬ (k:Int) < NF:=by omega
     obtain ⟨o1,ko1⟩:=L.out.cell
     go_wp2_with fail
     go_returns
     exact L.out.post (List.take_of_length_le (by have:=HR1.out;omega))
  | none=>
   obtain ⟨pl,hpl⟩:∃ pl,Ty.insOf tn++Ty.outsOf tn=pl:=⟨_,rfl⟩
   obtain ⟨il9,hil9⟩:∃ l,Ty.insOf tn=l:=⟨_,rfl⟩
   obtain ⟨ol9,hol9⟩:∃ l,Ty.outsOf tn=l:=⟨_,rfl⟩
   obtain ⟨s1,s2,s3,s4,s5⟩:=zia HR.out h0 HSV.out hpl
   obtain ⟨t1,t2,t3⟩:=zhr (HOK.out.blk h0 HSV.out)
   obtain ⟨u1,u2⟩:=zb5 tn
   simp only at t1 t2 t3 s2
   rw [hpl] at t1
   rw [hil9] at u1 t2
   rw [hol9] at u2 t3
   rw [hil9,hol9] at hpl
   obtain ⟨NP,hNP⟩:∃ n,pl.length=n:=⟨_,rfl⟩
   have hNl:NP≤200:=by rw [← hNP,← hpl,List.length_append];omega
   have hN0:0 < (il9++ol9).length:=by rw [List.length_append];omega
   rw [hNP] at s1 s3 s4 s5
   have HNP:=hd_ hNP
   have HPI:Hid (∀ W,LEnv W→Calls Tryz.prog 16 #[.string TN] W fun e w'=>∃ v1 v2,e=.returned (.tuple #[v1,v2])∧w'.ownsRow W.heap.size 9 1 v1 il9.length (strC il9)∧w'.ownsRow W.heap.size 9 1 v2 ol9.length (strC ol9)∧Below W.heap.size W w'):=hd_ (fun W hW=>by
    refine (zeu TN W hW).mono ?_
    rintro e w' ⟨v1,v2,h1,h2,h3,h4⟩
    rw [HTL.out,hil9] at h2
    rw [HTL.out,hol9] at h3
    exact ⟨v1,v2,h1,h2,h3,h4⟩)
   have HPN:Hid (∀ W (q:ByteArray),LEnv W→Calls Tryz.prog 21 #[.string TN,.string q] W fun e w'=>e=.returned (.int .i64 (Ty.pin tn q.data.toList))∧Below W.heap.size W w'):=hd_ (fun W q hW=>zhQ (by rw [HTL.out]) W hW)
   have HPL:=hd_ hpl
   have HR1:=hd_ s1
   have HAD:=hd_ (fun W fv cc (B k:Nat) (p:List UInt8) (FB:ByteArray) (h:LdS w B (w.heap.size+1+1) (w.heap.size+1+1+1) (w.heap.size+1) #[.string VN,.int .i64 kind,.int .i64 lo,.int .i64 hi,.int .i64 el,.string TN,.bool re,.string AD,.slice ia iln ic,.int .i64 at9] c (r.take k) W fv cc) (hfk:pl[k]? = some p) (hn:p=FB.data.toList)=>
    zcV (FB:=FB) (ix:=-1) (o:=none) (v:=.slice none 0 0) (P:=P) (kd:=Ty.pin tn FB.data.toList) h (hn▸t1 p (List.mem_of_getElem? hfk)) rfl (by intro i h;cases h) (IniV.none W P) rfl (by rw [← hn];exact s2 k p hfk) (by omega))
   have HA3:=hd_ (fun W fv cc (B k:Nat) (FB:ByteArray) (h:LdS w B (w.heap.size+1+1) (w.heap.size+1+1+1) (w.heap.size+1) #[.string VN,.int .i64 kind,.int .i64 lo,.int .i64 hi,.int .i64 el,.string TN,.bool re,.string AD,.slice ia iln ic,.int .i64 at9] c (r.take k) W fv cc) (hx:r[k]? = some (c.put FB.data.toList (-1) 4 0))=>
    zcV (FB:=FB) (ix:=-1) (o:=none) (v:=.slice none 0 0) (P:=P) (kd:=4) h rfl rfl (by intro i h;cases h) (IniV.none W P) rfl hx (by omega))
   have H345:=hd_ (And.intro s3 (And.intro s4 s5))
   clear s1 s2 s3 s4 s5 t1 hpl hil9 hol9 hNP h0 h12 HSV2
   go_wp2_with fail
   refine (HPI.out w2 (HE.out.below BW2.out)).mono ?_
   rintro e w3 ⟨v1,v2,rfl,ho1,ho2,hb3⟩
   obtain ⟨g1,c1,rfl,_,_⟩:=ho1.form t2
   obtain ⟨g2,c2',rfl,_,_⟩:=ho2.form t3
   have P1:=hd_ ho1
   have P2:=hd_ ho2
   have B3:=hd_ hb3
   have hb3s:=hb3.size
   clear ho1 ho2 hb3
   go_wp2_with fail
   refine (zi6 (l:=il9) (m:=ol9) (B1:=w2.heap.size) (B2:=w2.heap.size) _ ((Bl.new w3 _ _).cell (o:=0) rfl).1 ((Bl.new w3 _ _).cell (o:=1) rfl).1 (zbW P1.out _) (zbW P2.out _) t2 t3 (by omega) (by omega)).mono ?_
   rintro e w5 ⟨v,rfl,ho,hb5⟩
   obtain ⟨g,cp,rfl,_,_⟩:=ho.form hN0
   have hg:=ho.lt g rfl
   have hg1:w3.heap.size+1≤g:=by have:=hg.1;simpa using this
   have hg2:g < w5.heap.size:=hg.2
   have G5:Hid (zaC w5 g (strC pl)):=hd_ (by
    rw [← HPL.out]
    intro j u hj
    have h4:=ho.cells (g:=g) rfl j u hj
    have hadd:(⟨g,0,none⟩:Addr).add j=⟨g,j,none⟩:=by unfold Addr.add;split <;> simp_all
    rw [hadd] at h4
    exact h4)
   have hlen:(il9++ol9).length=NP:=by rw [HPL.out,HNP.out]
   rw [hlen]
   have B5:Hid (Below w3.heap.size w3 w5):=hd_ (zal (br_.alloc nl_ _) hb5 (by simp))
   have BW5:Hid (Below w.heap.size w w5):=hd_ (zah (zah BW2.out B3.out) B5.out)
   have ST:=hd_ (ST.out w5 BW5.out ((V2.out.below B3.out).below B5.out) ((C2.out.below B3.out).below B5.out) ((O2.out.below B3.out).below B5.out))
   clear ho hb5 hg hlen t2 t3 P1 P2
   go_wp2_with fail
   go_loopw [41] (fun v41 wr=>RRel (∃ (k:Nat) (fv:Value) (cc:Ty.Cell),k≤NP∧v41=.int .i64 k∧Hid (LdS w w5.heap.size (w.heap.size+1+1) (w.heap.size+1+1+1) (w.heap.size+1) #[.string VN,.int .i64 kind,.int .i64 lo,.int .i64 hi,.int .i64 el,.string TN,.bool re,.string AD,.slice ia iln ic,.int .i64 at9] c (r.take k) wr fv cc)∧Hid (zaC wr g (strC pl)))) (fun v41 _=>NP - (intOf v41).toNat)
   case atStart=>exact RRel.mk ⟨0,_,_,by omega,rfl,ST,G5⟩
   case round=>
    obtain ⟨k,fv,cc,hk,rfl,L,G⟩:=hrel.it
    clear hrel ST G5
    obtain ⟨w6,rfl⟩:∃ w6,w6=wr:=⟨_,rfl⟩
    by_cases hlt:k < NP
    ·obtain ⟨p,hp⟩:∃ p,pl[k]? = some p:=⟨pl[k]'(by have:=HNP.out;omega),by rw [List.getElem?_eq_getElem]⟩
     obtain ⟨PB,hPB⟩:∃ b:ByteArray,(⟨p.toArray⟩:ByteArray)=b:=⟨_,rfl⟩
     have HPB:Hid (p=PB.data.toList):=hd_ (by rw [← hPB])
     have b0:=G.out k (.string PB) (by simp [strC,hp,hPB])
     have kg:=zac b0
     obtain ⟨y0,y1,y2,y3,y4,y5,y6,y7,y8,y9⟩:=L.out.vb.cells10
     have ky:=L.out.vb.lt
     have z0:0≤(k:Int):=by omega
     have z1:(k:Int) < NP:=by omega
     have z2:(k:Int).toNat=k:=by omega
     have z3:IntKind.i64.wrap ((k:Int)+1)=(k:Int)+1:=IntWalk.i64_in _ (by omega)
     have HPP:=hd_ hp
     clear hp hPB
     go_wp2_with (first | (go_at_call 21;refine (HPN.out w6 PB (HE.out.below L.out.bel)).mono ?_;rintro e w7 ⟨rfl,hb7⟩;have L7:=hd_ (L.out.below hb7);have G7:=hd_ (zhd G.out hb7);clear hb7) | (go_at_call 71;refine (HAD.out w7 fv cc _ k p PB L7.out HPP.out HPB.out).mono ?_;rintro e w8 ⟨rfl,fv',cc',hl,hch,-⟩;have L8:=hd_ hl;have G8:=hd_ (zhc G7.out hch (by omega) (by omega) (fun h=>by have:=(L7.out.ls.row_lt g h.symm).1;omega));clear hl hch))
     go_roundw
     case rel=>exact RRel.mk ⟨k+1,fv',cc',by omega,by simp,L8,G8⟩
     case measure=>simp [intOf];omega
    ·obtain rfl:k=NP:=by omega
     have z1:¬ (k:Int) < k:=by omega
     clear G HAD HPN
     have kO6:=L.out.cell.2
     have N6:Hid (some w6.heap.size≠fv.ownBlock):=hd_ (fun h=>by have:=(L.out.ls.row_lt _ h.symm).2;omega)
     have L:=hd_ (L.out.below (br_.alloc nl_ (.cells #[.string ⟨#[49]⟩,.string ⟨#[50]⟩,.string ⟨#[51]⟩] 9)))
     have X6:=hd_ (Bl.new w6 #[.string ⟨#[49]⟩,.string ⟨#[50]⟩,.string ⟨#[51]⟩] 9)
     go_wp2_with fail
     go_loopw [56] (fun v56 wr=>RRel (∃ (j:Nat) (fv:Value) (cc:Ty.Cell),j≤3∧v56=.int .i64 j∧Hid (LdS w w5.heap.size (w.heap.size+1+1) (w.heap.size+1+1+1) (w.heap.size+1) #[.string VN,.int .i64 kind,.int .i64 lo,.int .i64 hi,.int .i64 el,.string TN,.bool re,.string AD,.slice ia iln ic,.int .i64 at9] c (r.take (k+j)) wr fv cc)∧Hid (Bl wr w6.heap.size #[.string ⟨#[49]⟩,.string ⟨#[50]⟩,.string ⟨#[51]⟩] 9)∧Hid (some w6.heap.size≠fv.ownBlock))) (fun v56 _=>3 - (intOf v56).toNat)
     case atStart=>exact RRel.mk ⟨0,_,_,by omega,rfl,L,X6,N6⟩
     case round=>
      obtain ⟨j,fv,cc,hj,rfl,L,X,N⟩:=hrel.it
      clear hrel
      obtain ⟨w7,rfl⟩:∃ w7,w7=wr:=⟨_,rfl⟩
      by_cases hlt3:j < 3
      ·obtain ⟨DB,hd1,hd2⟩:∃ DB:ByteArray,w7.cell? ⟨w6.heap.size,j,none⟩=some (.string DB)∧r[k+j]? = some (c.put DB.data.toList (-1) 4 0):=by
        obtain ⟨d0,d1,d2⟩:=X.out.cells3
        obtain rfl | rfl | rfl:j=0∨j=1∨j=2:=by omega
        ·exact ⟨_,d0,H345.out.1⟩
        ·exact ⟨_,d1,H345.out.2.1⟩
        ·exact ⟨_,d2,H345.out.2.2⟩
       have HD2:=hd_ hd2
       have kg:=zac hd1
       have y0:0≤(j:Int):=by omega
       have y1:(j:Int) < 3:=by omega
       have y2:(j:Int).toNat=j:=by omega
       have y3:IntKind.i64.wrap ((j:Int)+1)=(j:Int)+1:=IntWalk.i64_in _ (by omega)
       clear hd2
       go_wp2_with (go_at_call 71;refine (HA3.out w7 fv cc _ (k+j) DB L.out HD2.out).mono ?_;rintro e w8 ⟨rfl,fv',cc',hl,hch,hnn⟩;have L8:=hd_ hl;have X8:=hd_ (X.out.addCh hch (by omega) (by omega) N.out);have N8:Hid (some w6.heap.size≠fv'.ownBlock):=hd_ (fun h=>by rcases hnn _ h.symm with h2 | h2;exact N.out h2.symm;omega);clear hl hch hnn)
       go_roundw
       case rel=>exact RRel.mk ⟨j+1,fv',cc',by omega,by simp,L8,X8,N8⟩
       case measure=>simp [intOf];omega
      ·have y1:¬ (j:Int) < 3:=by omega
       obtain ⟨o1,ko1⟩:=L.out.cell
       go_wp2_with fail
       go_returns
       exact L.out.post (List.take_of_length_le (by have:=HR1.out;omega))
 ·have e2:(kind != 0)=true:=by simpa using h0
  obtain ⟨a1,a2⟩:=HOK.out.one h0 h12
  simp only at a1 a2
  have r1:=zib HR.out h12 h0
  simp only at r1
  have HAD:=hd_ (fun W fv cc (h:LdS w w2.heap.size (w.heap.size+1+1) (w.heap.size+1+1+1) (w.heap.size+1) #[.string VN,.int .i64 kind,.int .i64 lo,.int .i64 hi,.int .i64 el,.string TN,.bool re,.string AD,.slice ia iln ic,.int .i64 at9] c (r.take 0) W fv cc) (hv:IniV W P ini (.slice ia iln ic))=>
   zcV (FB:=⟨#[]⟩) (ix:=-1) (k:=0) h a1 a2 HOK.out.ini hv rfl (by rw [r1];rfl) (by rw [r1];simp))
  have HR1:=hd_ r1
  have ST:=hd_ (ST.out w2 BW2.out V2.out C2.out O2.out)
  have HIN:=hd_ (HINI.out.keeps (zai BW2.out))
  clear r1 h12 h0 a1 a2
  go_upto_region 28 with (go_at_call 71;refine (HAD.out w2 _ _ ST.out HIN.out).mono ?_;rintro e w4 ⟨rfl,fv',cc',hl,-,-⟩;have L4:=hd_ hl;clear hl)
  obtain ⟨o1,ko1⟩:=L4.out.cell
  go_wp2_with fail
  go_returns
  exact L4.out.post (by rw [HR1.out];rfl)
end Go.Proofs.YtdpkjpjkdmkkpaaGreatDoor
