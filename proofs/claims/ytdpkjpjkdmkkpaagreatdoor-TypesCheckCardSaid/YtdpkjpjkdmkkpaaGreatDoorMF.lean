/- The walk through the reference lexer's typed. -/
import Derived.Test.YtdpkjpjkdmkkpaaGreatDoorME
import Derived.Deep.CutRange
set_option maxRecDepth 100000
set_option maxHeartbeats 16000000
namespace Go.Proofs.YtdpkjpjkdmkkpaaGreatDoor
open Ad Go.RowKit Lx
theorem Only.setFar {b g:Nat} {w w':World} (h:Only b w w') (hg:w.heap.size≤g) (o:Nat) (v:Value):Only b w (w'.setCell ⟨g,o,none⟩ v):=
 ⟨h.os,h.tape,h.output,by simpa [World.setCell] using h.size,fun k hk hkb=>(Below.heap_setCell _ _ _ _ (by simp only;omega)).trans (h.block k hk hkb)⟩
theorem ScB.setFar {w:World} {b g:Nat} {s:ByteArray} {a:Int} (h:ScB w b s a) (hg:b≠g) (o:Nat) (v:Value):ScB (w.setCell ⟨g,o,none⟩ v) b s a:=
 (Below.heap_setCell _ _ _ _ (by simpa using hg)).trans h
theorem Only.at {b k:Nat} {w w':World} {o:Obj} (h:Only b w w') (hk:w.heap[k]? = some o) (hb:k≠b):w'.heap[k]? = some o:=by
 have hl:k < w.heap.size:=by
  rcases Nat.lt_or_ge k w.heap.size with h1 | h1
  ·exact h1
  ·rw [Array.getElem?_eq_none h1] at hk;cases hk
 exact (h.block k hl hb).trans hk
structure TyS (w0:World) (b:Nat) (s:ByteArray) (p:Int) (t0 t1 t2 A:Int) (w:World):Prop where
 tk:w.heap[w0.heap.size]? = some (.cells #[.int .i64 t0,.int .i64 t1,.int .i64 t2,.string ⟨#[]⟩,.int .i64 A] 107)
 an:w.heap[w0.heap.size+1]? = some (.cells #[.int .i64 0,.int .i64 0,.int .i64 0,.string ⟨#[]⟩,.int .i64 0] 107)
 sc:ScB w b s p
 on:Only b w0 w
 lt:b < w0.heap.size
theorem TyS.call {w0 w w':World} {b:Nat} {s:ByteArray} {p p' t0 t1 t2 A:Int} (h:TyS w0 b s p t0 t1 t2 A w) (hs:ScB w' b s p') (ho:Only b w w'):TyS w0 b s p' t0 t1 t2 A w':=by
 have hlt:=h.lt
 exact ⟨ho.at h.tk (by omega),ho.at h.an (by omega),hs,h.on.trans ho,h.lt⟩
theorem TyS.below {w0 w w':World} {b:Nat} {s:ByteArray} {p t0 t1 t2 A:Int} (h:TyS w0 b s p t0 t1 t2 A w) (hb:Below w.heap.size w w'):TyS w0 b s p t0 t1 t2 A w':=
 h.call ((hb.block b h.sc.lt).trans h.sc) (Only.ofBelow hb)
theorem TyS.drewN {w0 w:World} {b:Nat} {s:ByteArray} {p t0 t1 t2 A:Int} (h:TyS w0 b s p t0 t1 t2 A w) (n:Nat):TyS w0 b s p t0 t1 t2 A (w.drewN n):=h.below (Below.drewN br_ n)
theorem TyS.move {w0 w:World} {b:Nat} {s:ByteArray} {p t0 t1 t2 A:Int} (h:TyS w0 b s p t0 t1 t2 A w) (p':Int):TyS w0 b s p' t0 t1 t2 A (w.setCell ⟨b,1,none⟩ (.int .i64 p')):=
 h.call (h.sc.set p') ((Only.refl b w).setCell 1 _)
theorem set5 {w:World} {g:Nat} {v0 v1 v2 v3 v4:Value} {t:TypeId} (h:w.heap[g]? = some (.cells #[v0,v1,v2,v3,v4] t)) (v:Value) :
  (w.setCell ⟨g,0,none⟩ v).heap[g]? = some (.cells #[v,v1,v2,v3,v4] t)∧(w.setCell ⟨g,1,none⟩ v).heap[g]? = some (.cells #[v0,v,v2,v3,v4] t)∧(w.setCell ⟨g,2,none⟩ v).heap[g]? = some (.cells #[v0,v1,v,v3,v4] t):=by
 simp [World.setCell,h,Array.getElem?_modify]
theorem TyS.far {w0 w:World} {b:Nat} {s:ByteArray} {p t0 t1 t2 A:Int} (h:TyS w0 b s p t0 t1 t2 A w) (o:Nat) (v:Value) (r0 r1 r2:Int) (hk:(w.setCell ⟨w0.heap.size,o,none⟩ v).heap[w0.heap.size]? = some (.cells #[.int .i64 r0,.int .i64 r1,.int .i64 r2,.string ⟨#[]⟩,.int .i64 A] 107)):TyS w0 b s p r0 r1 r2 A (w.setCell ⟨w0.heap.size,o,none⟩ v):=by
 have hlt:=h.lt
 exact ⟨hk,(Below.heap_setCell _ _ _ _ (by simp)).trans h.an,h.sc.setFar (by omega) _ _,h.on.setFar nl_ _ _,h.lt⟩
theorem TyS.set0 {w0 w:World} {b:Nat} {s:ByteArray} {p t0 t1 t2 A:Int} (h:TyS w0 b s p t0 t1 t2 A w) (v:Int):TyS w0 b s p v t1 t2 A (w.setCell ⟨w0.heap.size,0,none⟩ (.int .i64 v)):=h.far _ _ _ _ _ (set5 h.tk _).1
theorem TyS.set1 {w0 w:World} {b:Nat} {s:ByteArray} {p t0 t1 t2 A:Int} (h:TyS w0 b s p t0 t1 t2 A w) (v:Int):TyS w0 b s p t0 v t2 A (w.setCell ⟨w0.heap.size,1,none⟩ (.int .i64 v)):=h.far _ _ _ _ _ (set5 h.tk _).2.1
theorem TyS.start {w w1:World} {b:Nat} {s:ByteArray} {p t0 t1 t2 A:Int} (h:ScB w b s p)
  (hb:Below ((w.alloc (.cells #[.int .i64 t0,.int .i64 t1,.int .i64 t2,.string ⟨#[]⟩,.int .i64 A] 107)).alloc (.cells #[.int .i64 0,.int .i64 0,.int .i64 0,.string ⟨#[]⟩,.int .i64 0] 107)).heap.size ((w.alloc (.cells #[.int .i64 t0,.int .i64 t1,.int .i64 t2,.string ⟨#[]⟩,.int .i64 A] 107)).alloc (.cells #[.int .i64 0,.int .i64 0,.int .i64 0,.string ⟨#[]⟩,.int .i64 0] 107)) w1):TyS w b s p t0 t1 t2 A w1:=by
 obtain ⟨h1,h2,h3⟩:=ze7 hb
 exact ⟨h1,h2,(h3.block b h.lt).trans h,Only.ofBelow h3,h.lt⟩
def za3 (s:ByteArray) (A:Int) (b:Nat) (r:Tok × Nat × Int) (w:World) (ev:Ending) (w':World):Prop:=
 (r.2.2=0→ev=.returned (.tuple #[tokV { r.1 with at_:=A },.int .i64 0])∧ScB w' b s (r.2.1:Nat)) ∧
 (r.2.2≠0→∃ (x1 x2 x3:Int) (x4:ByteArray),ev=.returned (.tuple #[.agg #[.int .i64 x1,.int .i64 x2,.int .i64 x3,.string x4,.int .i64 A],.int .i64 r.2.2]))∧Only b w w'
theorem zhT {s:ByteArray} {A tk kd nn:Int} {b q:Nat} {r:Tok × Nat × Int} {w w':World} (h:r=(⟨tk,kd,nn,[],0⟩,q,0)) (on:Only b w w') (sc:ScB w' b s (q:Int)) :
  za3 s A b r w (.returned (.tuple #[.agg #[.int .i64 tk,.int .i64 kd,.int .i64 nn,.string ⟨#[]⟩,.int .i64 A],.int .i64 0])) w':=by
 subst h
 exact ⟨fun _=>⟨rfl,sc⟩,fun k=>absurd rfl k,on⟩
theorem zbl {s:ByteArray} {A x1 x2 x3 e:Int} {x4:ByteArray} {b:Nat} {r:Tok × Nat × Int} {w w':World} (h:r.2.2=e) (he:e≠0) (on:Only b w w') :
  za3 s A b r w (.returned (.tuple #[.agg #[.int .i64 x1,.int .i64 x2,.int .i64 x3,.string x4,.int .i64 A],.int .i64 e])) w':=by
 subst h
 exact ⟨fun k=>absurd k he,fun _=>⟨_,_,_,_,rfl⟩,on⟩
theorem zfi {s:ByteArray} {p:Nat} (h:(cAt s.data.toList p).toNat≠0):p < s.size:=by
 rcases Nat.lt_or_ge p s.size with h1 | h1
 ·exact h1
 ·rw [zcD h1] at h;exact absurd rfl h
theorem zku {s:ByteArray} {p i z:Nat} (hz:span zbi (s.data.toList.drop p)=z) (hi:i≤z):zbi (cAt s.data.toList (p+i))=decide (i < z):=by
 rw [← zbu]
 obtain ⟨l,hl⟩:∃ l,s.data.toList.drop p=l:=⟨_,rfl⟩
 rw [hl] at hz ⊢
 clear hl
 induction l generalizing i z with
 | nil=>
  simp [span] at hz
  subst hz
  have:i=0:=by omega
  subst this
  decide
 | cons c l ih=>
  simp only [span] at hz
  cases i with
  | zero=>
   show zbi c=_
   cases hc:zbi c with
   | true=>rw [hc,if_pos rfl] at hz;simp;omega
   | false=>rw [hc] at hz;simp at hz;simp;omega
  | succ i=>
   cases hc:zbi c with
   | true=>
    rw [hc,if_pos rfl] at hz
    have:=ih (i:=i) (z:=z - 1) (by omega) (by omega)
    show zbi (cAt l i)=_
    rw [this]
    simp only [decide_eq_decide]
    omega
   | false=>rw [hc] at hz;simp at hz;omega
theorem zdo {l:List UInt8} {p:Nat} {w:List UInt8} (hw:(l.drop p).take (span zbi (l.drop p))=w) (h:w=zbs∨w=zbw):zaL l p 1=(⟨3,1,if w=zbs then 1 else 0,[],0⟩,p+w.length,0):=by
 unfold zaL
 dsimp only
 rw [hw,if_pos ⟨rfl,h⟩]
 rfl
theorem zfx {l:List UInt8} (h:lett (cAt l 0)=true):Lx.number l=(0,0,120):=by
 have hd:zak l 10=(0,0):=by
  cases l with
  | nil=>rfl
  | cons c t=>
   have hc:lett c=true:=h
   rw [zak,digF,if_neg (by simp),if_neg]
   intro hv
   have:=zhW hv
   simp [lett,dig] at hc this
   omega
 simp [Lx.number,hd]
theorem zeI {l:List UInt8} {p:Nat} {w:List UInt8} (hw:(l.drop p).take (span zbi (l.drop p))=w) (h:¬ (w=zbs∨w=zbw)) (hl:lett (cAt l p)=true):zaL l p 1=(tok0,0,120):=by
 unfold zaL
 dsimp only
 rw [hw,if_neg (fun k=>h k.2),if_neg (by simp [zag]),zfx (by rw [zbu];exact hl)]
 rfl
theorem zfF {l:List UInt8} {p k:Nat} {D:Int} {Z:Nat} (hk:k≠1) (hs:zag k=true) (hm:(cAt l p).toNat=45) (hd:zak (l.drop (p+1)) 10=(D,Z)) :
  zaL l p k=if Z=0 then (tok0,0,120) else if -D=zaW k (-D) then (⟨3,k,-D,[],0⟩,p+1+Z,0) else (tok0,0,163):=by
 unfold zaL
 dsimp only
 rw [if_neg (fun h=>hk h.1),if_pos ⟨hs,(zeU l p).1 hm⟩,List.drop_drop,hd]
theorem zcz {l:List UInt8} {p k:Nat} {q:Int × Nat × Int} (hk:k=1→lett (cAt l p)=false) (hs:¬ (zag k=true∧(cAt l p).toNat=45)) (hd:Lx.number (l.drop p)=q) :
  zaL l p k=if q.2.2≠0 then (tok0,0,q.2.2) else if q.1=zaW k q.1 then (⟨3,k,q.1,[],0⟩,p+q.2.1,0) else (tok0,0,163):=by
 unfold zaL
 dsimp only
 rw [if_neg,if_neg (fun h=>hs ⟨h.1,(zeU l p).2 h.2⟩),hd]
 rintro ⟨h1,h2⟩
 have h3:=hk h1
 have key:∀ w:List UInt8,(w=zbs∨w=zbw)→∃ c t,w=c::t∧lett c=true:=by
  rintro w (rfl | rfl)
  ·exact ⟨_,_,rfl,by decide⟩
  ·exact ⟨_,_,rfl,by decide⟩
 obtain ⟨c,t,h4,h5⟩:=key _ h2
 rw [← Nat.add_zero p,← zbu] at h3
 cases hl:l.drop p with
 | nil=>rw [hl] at h4;simp at h4
 | cons c' t'=>
  rw [hl] at h3 h4
  have h6:lett c'=false:=h3
  cases hz:span zbi (c'::t') with
  | zero=>rw [hz] at h4;simp at h4
  | succ z=>
   rw [hz] at h4
   simp at h4
   rw [h4.1,h5] at h6
   cases h6
theorem zc9 {l:List UInt8}:(Lx.number l).2.2≠0→(Lx.number l).2.2=120:=by
 unfold Lx.number
 dsimp only
 split
 ·simp
 ·split
  ·split <;> simp
  ·simp
theorem zfR {s x:ByteArray} {p b k:Nat} {A:Int} {r:Tok × Nat × Int} (hr:zaL s.data.toList p k=r) (hk:kindOf x=k) (hxT:(x.toList==[84])=false) (h1:2≤k) (h2:k≤10) (hM:¬ (zag k=true∧(cAt s.data.toList p).toNat=45)) (hs:s.size≤4294967000) (hp:p≤s.size) (w:World) (hx:ScB w b s p) :
  Calls Tryz.prog 104 #[.pointer (some ⟨b,0,none⟩),.agg #[.int .i64 0,.int .i64 0,.int .i64 0,.string ⟨#[]⟩,.int .i64 A],.string x] w (za3 s A b r w):=by
 obtain ⟨⟨N,Z,E⟩,hq⟩:∃ q,Lx.number (s.data.toList.drop p)=q:=⟨_,rfl⟩
 have hq2:=zcz (fun h=>absurd h (by omega)) hM hq
 rw [hr] at hq2
 have HR:=hd_ hq2
 have hE:=zc9 (l:=s.data.toList.drop p)
 rw [hq] at hE
 have HE:=hd_ hE
 have HN:=hd_ (fun W (hW:ScB W b s (p:Int))=>zdd hq hs hp W hW)
 have HC:=hd_ (fun W (hW:ScB W b s (p:Int))=>zb0 (i:=0) hs hp (by omega) W hW)
 have HK:=hd_ hk
 have HX:=hd_ hx
 have hlt:=hx.lt
 have HRG:=hd_ (fun W=>zel k (by omega) (by omega) W)
 have HSG:=hd_ (fun W=>ze4 k (by omega) (by omega) W)
 have hrg:=zfE k (by omega) (by omega)
 obtain ⟨c,hc⟩:∃ c,cAt s.data.toList p=c:=⟨_,rfl⟩
 rw [Nat.add_zero,hc] at HC
 rw [hc] at hM
 obtain ⟨lo,hlo⟩:∃ v,rLo k=v:=⟨_,rfl⟩
 obtain ⟨hi,hhi⟩:∃ v,rHi k=v:=⟨_,rfl⟩
 rw [hlo,hhi] at HRG hrg
 obtain ⟨sg,hsg⟩:∃ v,zag k=v:=⟨_,rfl⟩
 rw [hsg] at HSG hM
 have HG:=hd_ hrg
 have hnb:=zcL (s.data.toList.drop p)
 rw [hq] at hnb
 obtain ⟨n0,n1,-⟩:=hnb
 replace n0:0≤N:=n0
 replace n1:N≤1099511627776:=n1
 have hmin:(c.toNat≠45)∨(c.toNat=45∧sg=false):=by
  by_cases h:c.toNat=45
  ·right;refine ⟨h,?_⟩;cases sg with
   | false=>rfl
   | true=>exact absurd ⟨rfl,h⟩ hM
  ·exact .inl h
 have hres:(E≠0)∨(E=0∧N < lo)∨(E=0∧lo≤N∧hi < N)∨(E=0∧lo≤N∧N≤hi):=by omega
 clear hr hq hk hx hs hp hq2 hE hrg hc hlo hhi hsg hM
 have ek1:((k:Int)==1)=false:=by simp;omega
 have ek11:((k:Int)==11)=false:=by simp;omega
 go_enter Tryz.func104,Tryz.ntmps104
 go_upto_region 13 with (first | (go_at_call 103;refine (zbg HK.out _).mono ?_;rintro e w1 ⟨rfl,hb1⟩;have HT:=hd_ (TyS.start HX.out hb1);clear hb1;obtain ⟨c40,c41,c42,c43,c44,f40,f41,f42,f43,f44⟩:=blk5 HT.out.tk;obtain ⟨c60,c61,c62,c63,c64,f60,f61,f62,f63,f64⟩:=blk5 HT.out.an))
 have hT1:=(HT.out.set0 3).set1 k
 obtain ⟨W1,hW1⟩:∃ W1,W1=(w1.setCell ⟨w.heap.size,0,none⟩ (.int .i64 3)).setCell ⟨w.heap.size,1,none⟩ (.int .i64 k):=⟨_,rfl⟩
 rw [← hW1] at hT1 ⊢
 have HT1:=hd_ hT1
 clear hT1 hW1 HT c40 c41 c42 c43 c44 f40 f41 f42 f43 f44 c60 c61 c62 c63 c64 f60 f61 f62 f63 f64
 obtain ⟨c40,c41,c42,c43,c44,f40,f41,f42,f43,f44⟩:=blk5 HT1.out.tk;obtain ⟨c60,c61,c62,c63,c64,f60,f61,f62,f63,f64⟩:=blk5 HT1.out.an
 obtain ⟨x0,x1,g0,g1⟩:=HT1.out.sc.cells
 have hbl1:=HT1.out.sc.lt
 go_upto_region 23 with (first | (go_at_call 79;refine (HC.out _ (by exact HT1.out.sc)).mono ?_;rintro e w3 ⟨rfl,nn3,rfl⟩))
 go_cut [12] from 48 to 97 (fun v12 wx=>v12=.bool false∧TyS w b s p 3 k 0 A wx)
 case first=>
  rcases hmin with hm | ⟨hm,rfl⟩
  all_goals
   first
    | have em:((c.toNat:Int)==45)=false:=by simp;omega
    | have em:((c.toNat:Int)==45)=true:=by simp [hm]
   go_wp2_with (first | (go_at_call 79;refine (HC.out _ (by exact HT1.out.sc)).mono ?_;rintro e w3 ⟨rfl,nn3,rfl⟩) | (go_at_call 88;refine (HSG.out _).mono ?_;rintro e w5 ⟨rfl,rfl⟩))
   go_meet
   exact ⟨rfl,by first | exact HT1.out.drewN _ | exact (HT1.out.drewN _).drewN _ | exact ((HT1.out.drewN _).drewN _).drewN _⟩
 case rest=>
 clear c40 c41 c42 c43 c44 f40 f41 f42 f43 f44 c60 c61 c62 c63 c64 f60 f61 f62 f63 f64 x0 x1 g0 g1 hbl1 HC HSG hmin
 obtain ⟨rfl,hT5⟩:=hcut
 have HT5:=hd_ hT5
 clear hT5 HT1
 obtain ⟨c40,c41,c42,c43,c44,f40,f41,f42,f43,f44⟩:=blk5 HT5.out.tk;obtain ⟨c60,c61,c62,c63,c64,f60,f61,f62,f63,f64⟩:=blk5 HT5.out.an
 obtain ⟨x0,x1,g0,g1⟩:=HT5.out.sc.cells
 have hbl1:=HT5.out.sc.lt
 go_wp2_with fail
 refine (HN.out _ (by exact HT5.out.sc)).mono ?_
 rintro e w6 ⟨hok,herr,ho6,a6,ha6,hs6⟩
 clear c40 c41 c42 c43 c44 f40 f41 f42 f43 f44 c60 c61 c62 c63 c64 f60 f61 f62 f63 f64 x0 x1 g0 g1 hbl1
 rcases hres with hE | ⟨rfl,hv⟩ | ⟨rfl,hv,hv2⟩ | ⟨rfl,hv,hv2⟩
 ·obtain rfl:=herr hE
  have HT6:=hd_ (HT5.out.call hs6 ho6)
  clear hok herr ho6 hs6
  obtain ⟨c40,c41,c42,c43,c44,f40,f41,f42,f43,f44⟩:=blk5 HT6.out.tk;obtain ⟨c60,c61,c62,c63,c64,f60,f61,f62,f63,f64⟩:=blk5 HT6.out.an
  go_wp2
  refine bodyPost_ret (v:=.tuple #[.agg #[.int .i64 3,.int .i64 k,.int .i64 0,.string ⟨#[]⟩,.int .i64 A],.int .i64 120]) (by simp [results,Tryz.results104,go_sem, *]) rfl ?_
  exact zbl (by rw [HR.out,if_pos (by exact hE)];exact HE.out hE) (by decide) (by (repeat (refine Only.setFar ?_ (by omega) _ _));exact HT6.out.on)
 ·obtain ⟨how,hhow,rfl,hs7⟩:=hok rfl
  have HT6:=hd_ (HT5.out.call hs7 ho6)
  clear hok herr ho6 hs6 hs7
  obtain ⟨c40,c41,c42,c43,c44,f40,f41,f42,f43,f44⟩:=blk5 HT6.out.tk;obtain ⟨c60,c61,c62,c63,c64,f60,f61,f62,f63,f64⟩:=blk5 HT6.out.an
  have eh:(how==0)=false:=by rcases hhow with rfl | rfl <;> decide
  go_wp2_with (go_at_call 57;refine (HRG.out _).mono ?_;rintro e w7 ⟨rfl,hb7⟩;have HT7:=hd_ (HT6.out.below hb7);clear hb7 c40 c41 c42 c43 c44 f40 f41 f42 f43 f44 c60 c61 c62 c63 c64 f60 f61 f62 f63 f64;obtain ⟨c40,c41,c42,c43,c44,f40,f41,f42,f43,f44⟩:=blk5 HT7.out.tk;obtain ⟨c60,c61,c62,c63,c64,f60,f61,f62,f63,f64⟩:=blk5 HT7.out.an)
  refine bodyPost_ret (v:=.tuple #[.agg #[.int .i64 3,.int .i64 k,.int .i64 0,.string ⟨#[]⟩,.int .i64 A],.int .i64 163]) (by simp [results,Tryz.results104,go_sem, *]) rfl ?_
  exact zbl (by rw [HR.out,if_neg (by simp),if_neg (fun h=>(HG.out N).1 h (by omega))]) (by decide) (by (repeat (refine Only.setFar ?_ (by omega) _ _));exact HT7.out.on)
 ·obtain ⟨how,hhow,rfl,hs7⟩:=hok rfl
  have HT6:=hd_ (HT5.out.call hs7 ho6)
  clear hok herr ho6 hs6 hs7
  obtain ⟨c40,c41,c42,c43,c44,f40,f41,f42,f43,f44⟩:=blk5 HT6.out.tk;obtain ⟨c60,c61,c62,c63,c64,f60,f61,f62,f63,f64⟩:=blk5 HT6.out.an
  have eh:(how==0)=false:=by rcases hhow with rfl | rfl <;> decide
  go_wp2_with (go_at_call 57;refine (HRG.out _).mono ?_;rintro e w7 ⟨rfl,hb7⟩;have HT7:=hd_ (HT6.out.below hb7);clear hb7 c40 c41 c42 c43 c44 f40 f41 f42 f43 f44 c60 c61 c62 c63 c64 f60 f61 f62 f63 f64;obtain ⟨c40,c41,c42,c43,c44,f40,f41,f42,f43,f44⟩:=blk5 HT7.out.tk;obtain ⟨c60,c61,c62,c63,c64,f60,f61,f62,f63,f64⟩:=blk5 HT7.out.an)
  refine bodyPost_ret (v:=.tuple #[.agg #[.int .i64 3,.int .i64 k,.int .i64 0,.string ⟨#[]⟩,.int .i64 A],.int .i64 163]) (by simp [results,Tryz.results104,go_sem, *]) rfl ?_
  exact zbl (by rw [HR.out,if_neg (by simp),if_neg (fun h=>(HG.out N).1 h (by omega))]) (by decide) (by (repeat (refine Only.setFar ?_ (by omega) _ _));exact HT7.out.on)
 ·obtain ⟨how,hhow,rfl,hs7⟩:=hok rfl
  have HT6:=hd_ (HT5.out.call hs7 ho6)
  clear hok herr ho6 hs6 hs7
  obtain ⟨c40,c41,c42,c43,c44,f40,f41,f42,f43,f44⟩:=blk5 HT6.out.tk;obtain ⟨c60,c61,c62,c63,c64,f60,f61,f62,f63,f64⟩:=blk5 HT6.out.an
  have eh:(how==0)=false:=by rcases hhow with rfl | rfl <;> decide
  go_wp2_with (go_at_call 57;refine (HRG.out _).mono ?_;rintro e w7 ⟨rfl,hb7⟩;have HT7:=hd_ (HT6.out.below hb7);clear hb7 c40 c41 c42 c43 c44 f40 f41 f42 f43 f44 c60 c61 c62 c63 c64 f60 f61 f62 f63 f64;obtain ⟨c40,c41,c42,c43,c44,f40,f41,f42,f43,f44⟩:=blk5 HT7.out.tk;obtain ⟨c60,c61,c62,c63,c64,f60,f61,f62,f63,f64⟩:=blk5 HT7.out.an)
  refine bodyPost_ret (v:=.tuple #[.agg #[.int .i64 3,.int .i64 k,.int .i64 N,.string ⟨#[]⟩,.int .i64 A],.int .i64 0]) (by simp [results,Tryz.results104,go_sem, *]) rfl ?_
  exact zhT (by rw [HR.out,if_neg (by simp),if_pos ((HG.out N).2 (by omega))] <;> rfl) (by (repeat (refine Only.setFar ?_ (by omega) _ _));exact HT7.out.on) (by (repeat (refine ScB.setFar ?_ (by omega) _ _));exact HT7.out.sc)
theorem zeJ {s x:ByteArray} {p b:Nat} {A:Int} {r:Tok × Nat × Int} (hr:zaL s.data.toList p 1=r) (hk:kindOf x=1) (hxT:(x.toList==[84])=false) (hL:lett (cAt s.data.toList p)=false) (hs:s.size≤4294967000) (hp:p≤s.size) (w:World) (hx:ScB w b s p) :
  Calls Tryz.prog 104 #[.pointer (some ⟨b,0,none⟩),.agg #[.int .i64 0,.int .i64 0,.int .i64 0,.string ⟨#[]⟩,.int .i64 A],.string x] w (za3 s A b r w):=by
 obtain ⟨⟨N,Z,E⟩,hq⟩:∃ q,Lx.number (s.data.toList.drop p)=q:=⟨_,rfl⟩
 have hq2:=zcz (k:=1) (fun _=>hL) (by simp [zag]) hq
 rw [hr] at hq2
 have HR:=hd_ hq2
 have hE:=zc9 (l:=s.data.toList.drop p)
 rw [hq] at hE
 have HE:=hd_ hE
 have HN:=hd_ (fun W (hW:ScB W b s (p:Int))=>zdd hq hs hp W hW)
 have HC:=hd_ (fun W (hW:ScB W b s (p:Int))=>zb0 (i:=0) hs hp (by omega) W hW)
 have HK:=hd_ hk
 have HX:=hd_ hx
 have hlt:=hx.lt
 have HRG:=hd_ (fun W=>zdE W)
 have HSG:=hd_ (fun W=>zem W)
 have hrg:=zfE 1 (by omega) (by omega)
 obtain ⟨c,hc⟩:∃ c,cAt s.data.toList p=c:=⟨_,rfl⟩
 rw [Nat.add_zero,hc] at HC
 rw [hc] at hL
 obtain ⟨lo,hlo⟩:∃ v,rLo 1=v:=⟨_,rfl⟩
 obtain ⟨hi,hhi⟩:∃ v,rHi 1=v:=⟨_,rfl⟩
 rw [hlo,hhi] at HRG hrg
 rw [show zag 1=false from rfl] at HSG
 have HG:=hd_ hrg
 have HL:=hd_ hL
 have hnb:=zcL (s.data.toList.drop p)
 rw [hq] at hnb
 obtain ⟨n0,n1,-⟩:=hnb
 replace n0:0≤N:=n0
 replace n1:N≤1099511627776:=n1
 have hmin:(c.toNat≠45)∨(c.toNat=45):=by omega
 have hres:(E≠0)∨(E=0∧N < lo)∨(E=0∧lo≤N∧hi < N)∨(E=0∧lo≤N∧N≤hi):=by omega
 clear hr hq hk hx hs hp hq2 hE hrg hc hlo hhi hL
 have ek1:(((1:Nat):Int)==1)=true:=by simp
 have ek11:(((1:Nat):Int)==11)=false:=by simp
 go_enter Tryz.func104,Tryz.ntmps104
 go_upto_region 13 with (first | (go_at_call 103;refine (zbg HK.out _).mono ?_;rintro e w1 ⟨rfl,hb1⟩;have HT:=hd_ (TyS.start HX.out hb1);clear hb1;obtain ⟨c40,c41,c42,c43,c44,f40,f41,f42,f43,f44⟩:=blk5 HT.out.tk;obtain ⟨c60,c61,c62,c63,c64,f60,f61,f62,f63,f64⟩:=blk5 HT.out.an))
 have hT1:=(HT.out.set0 3).set1 1
 obtain ⟨W1,hW1⟩:∃ W1,W1=(w1.setCell ⟨w.heap.size,0,none⟩ (.int .i64 3)).setCell ⟨w.heap.size,1,none⟩ (.int .i64 1):=⟨_,rfl⟩
 rw [← hW1] at hT1 ⊢
 have HT1:=hd_ hT1
 clear hT1 hW1 HT c40 c41 c42 c43 c44 f40 f41 f42 f43 f44 c60 c61 c62 c63 c64 f60 f61 f62 f63 f64
 obtain ⟨c40,c41,c42,c43,c44,f40,f41,f42,f43,f44⟩:=blk5 HT1.out.tk;obtain ⟨c60,c61,c62,c63,c64,f60,f61,f62,f63,f64⟩:=blk5 HT1.out.an
 obtain ⟨x0,x1,g0,g1⟩:=HT1.out.sc.cells
 have hbl1:=HT1.out.sc.lt
 go_upto_region 23 with (first | (go_at_call 79;refine (HC.out _ (by exact HT1.out.sc)).mono ?_;rintro e w3 ⟨rfl,nn3,rfl⟩) | (go_at_call 101;refine (zap _ _).mono ?_;rintro e w4 ⟨rfl,rfl⟩;rw [HL.out]))
 go_cut [12] from 48 to 97 (fun v12 wx=>v12=.bool false∧TyS w b s p 3 1 0 A wx)
 case first=>
  rcases hmin with hm | hm
  all_goals
   first
    | have em:((c.toNat:Int)==45)=false:=by simp;omega
    | have em:((c.toNat:Int)==45)=true:=by simp [hm]
   go_wp2_with (first | (go_at_call 79;refine (HC.out _ (by exact HT1.out.sc)).mono ?_;rintro e w3 ⟨rfl,nn3,rfl⟩) | (go_at_call 88;refine (HSG.out _).mono ?_;rintro e w5 ⟨rfl,rfl⟩))
   go_meet
   exact ⟨rfl,by first | exact HT1.out.drewN _ | exact (HT1.out.drewN _).drewN _ | exact ((HT1.out.drewN _).drewN _).drewN _⟩
 case rest=>
 clear c40 c41 c42 c43 c44 f40 f41 f42 f43 f44 c60 c61 c62 c63 c64 f60 f61 f62 f63 f64 x0 x1 g0 g1 hbl1 HC HSG hmin
 obtain ⟨rfl,hT5⟩:=hcut
 have HT5:=hd_ hT5
 clear hT5 HT1
 obtain ⟨c40,c41,c42,c43,c44,f40,f41,f42,f43,f44⟩:=blk5 HT5.out.tk;obtain ⟨c60,c61,c62,c63,c64,f60,f61,f62,f63,f64⟩:=blk5 HT5.out.an
 obtain ⟨x0,x1,g0,g1⟩:=HT5.out.sc.cells
 have hbl1:=HT5.out.sc.lt
 go_wp2_with fail
 refine (HN.out _ (by exact HT5.out.sc)).mono ?_
 rintro e w6 ⟨hok,herr,ho6,a6,ha6,hs6⟩
 clear c40 c41 c42 c43 c44 f40 f41 f42 f43 f44 c60 c61 c62 c63 c64 f60 f61 f62 f63 f64 x0 x1 g0 g1 hbl1
 rcases hres with hE | ⟨rfl,hv⟩ | ⟨rfl,hv,hv2⟩ | ⟨rfl,hv,hv2⟩
 ·obtain rfl:=herr hE
  have HT6:=hd_ (HT5.out.call hs6 ho6)
  clear hok herr ho6 hs6
  obtain ⟨c40,c41,c42,c43,c44,f40,f41,f42,f43,f44⟩:=blk5 HT6.out.tk;obtain ⟨c60,c61,c62,c63,c64,f60,f61,f62,f63,f64⟩:=blk5 HT6.out.an
  go_wp2
  refine bodyPost_ret (v:=.tuple #[.agg #[.int .i64 3,.int .i64 1,.int .i64 0,.string ⟨#[]⟩,.int .i64 A],.int .i64 120]) (by simp [results,Tryz.results104,go_sem, *]) rfl ?_
  exact zbl (by rw [HR.out,if_pos (by exact hE)];exact HE.out hE) (by decide) (by (repeat (refine Only.setFar ?_ (by omega) _ _));exact HT6.out.on)
 ·obtain ⟨how,hhow,rfl,hs7⟩:=hok rfl
  have HT6:=hd_ (HT5.out.call hs7 ho6)
  clear hok herr ho6 hs6 hs7
  obtain ⟨c40,c41,c42,c43,c44,f40,f41,f42,f43,f44⟩:=blk5 HT6.out.tk;obtain ⟨c60,c61,c62,c63,c64,f60,f61,f62,f63,f64⟩:=blk5 HT6.out.an
  have eh:(how==0)=false:=by rcases hhow with rfl | rfl <;> decide
  go_wp2_with (go_at_call 57;refine (HRG.out _).mono ?_;rintro e w7 ⟨rfl,hb7⟩;have HT7:=hd_ (HT6.out.below hb7);clear hb7 c40 c41 c42 c43 c44 f40 f41 f42 f43 f44 c60 c61 c62 c63 c64 f60 f61 f62 f63 f64;obtain ⟨c40,c41,c42,c43,c44,f40,f41,f42,f43,f44⟩:=blk5 HT7.out.tk;obtain ⟨c60,c61,c62,c63,c64,f60,f61,f62,f63,f64⟩:=blk5 HT7.out.an)
  refine bodyPost_ret (v:=.tuple #[.agg #[.int .i64 3,.int .i64 1,.int .i64 0,.string ⟨#[]⟩,.int .i64 A],.int .i64 163]) (by simp [results,Tryz.results104,go_sem, *]) rfl ?_
  exact zbl (by rw [HR.out,if_neg (by simp),if_neg (fun h=>(HG.out N).1 h (by omega))]) (by decide) (by (repeat (refine Only.setFar ?_ (by omega) _ _));exact HT7.out.on)
 ·obtain ⟨how,hhow,rfl,hs7⟩:=hok rfl
  have HT6:=hd_ (HT5.out.call hs7 ho6)
  clear hok herr ho6 hs6 hs7
  obtain ⟨c40,c41,c42,c43,c44,f40,f41,f42,f43,f44⟩:=blk5 HT6.out.tk;obtain ⟨c60,c61,c62,c63,c64,f60,f61,f62,f63,f64⟩:=blk5 HT6.out.an
  have eh:(how==0)=false:=by rcases hhow with rfl | rfl <;> decide
  go_wp2_with (go_at_call 57;refine (HRG.out _).mono ?_;rintro e w7 ⟨rfl,hb7⟩;have HT7:=hd_ (HT6.out.below hb7);clear hb7 c40 c41 c42 c43 c44 f40 f41 f42 f43 f44 c60 c61 c62 c63 c64 f60 f61 f62 f63 f64;obtain ⟨c40,c41,c42,c43,c44,f40,f41,f42,f43,f44⟩:=blk5 HT7.out.tk;obtain ⟨c60,c61,c62,c63,c64,f60,f61,f62,f63,f64⟩:=blk5 HT7.out.an)
  refine bodyPost_ret (v:=.tuple #[.agg #[.int .i64 3,.int .i64 1,.int .i64 0,.string ⟨#[]⟩,.int .i64 A],.int .i64 163]) (by simp [results,Tryz.results104,go_sem, *]) rfl ?_
  exact zbl (by rw [HR.out,if_neg (by simp),if_neg (fun h=>(HG.out N).1 h (by omega))]) (by decide) (by (repeat (refine Only.setFar ?_ (by omega) _ _));exact HT7.out.on)
 ·obtain ⟨how,hhow,rfl,hs7⟩:=hok rfl
  have HT6:=hd_ (HT5.out.call hs7 ho6)
  clear hok herr ho6 hs6 hs7
  obtain ⟨c40,c41,c42,c43,c44,f40,f41,f42,f43,f44⟩:=blk5 HT6.out.tk;obtain ⟨c60,c61,c62,c63,c64,f60,f61,f62,f63,f64⟩:=blk5 HT6.out.an
  have eh:(how==0)=false:=by rcases hhow with rfl | rfl <;> decide
  go_wp2_with (go_at_call 57;refine (HRG.out _).mono ?_;rintro e w7 ⟨rfl,hb7⟩;have HT7:=hd_ (HT6.out.below hb7);clear hb7 c40 c41 c42 c43 c44 f40 f41 f42 f43 f44 c60 c61 c62 c63 c64 f60 f61 f62 f63 f64;obtain ⟨c40,c41,c42,c43,c44,f40,f41,f42,f43,f44⟩:=blk5 HT7.out.tk;obtain ⟨c60,c61,c62,c63,c64,f60,f61,f62,f63,f64⟩:=blk5 HT7.out.an)
  refine bodyPost_ret (v:=.tuple #[.agg #[.int .i64 3,.int .i64 1,.int .i64 N,.string ⟨#[]⟩,.int .i64 A],.int .i64 0]) (by simp [results,Tryz.results104,go_sem, *]) rfl ?_
  exact zhT (by rw [HR.out,if_neg (by simp),if_pos ((HG.out N).2 (by omega))] <;> rfl) (by (repeat (refine Only.setFar ?_ (by omega) _ _));exact HT7.out.on) (by (repeat (refine ScB.setFar ?_ (by omega) _ _));exact HT7.out.sc)
theorem zgO {s x:ByteArray} {p b k:Nat} {A:Int} {r:Tok × Nat × Int} (hr:zaL s.data.toList p k=r) (hk:kindOf x=k) (hxT:(x.toList==[84])=false) (h1:2≤k) (h2:k≤10) (hsg:zag k=true) (hm:(cAt s.data.toList p).toNat=45) (hs:s.size≤4294967000) (hp:p≤s.size) (w:World) (hx:ScB w b s p) :
  Calls Tryz.prog 104 #[.pointer (some ⟨b,0,none⟩),.agg #[.int .i64 0,.int .i64 0,.int .i64 0,.string ⟨#[]⟩,.int .i64 A],.string x] w (za3 s A b r w):=by
 obtain ⟨⟨D,Z⟩,hq⟩:∃ q,zak (s.data.toList.drop (p+1)) 10=q:=⟨_,rfl⟩
 have hq2:=zfF (by omega) hsg hm hq
 rw [hr] at hq2
 have HR:=hd_ hq2
 have hp1:p+1≤s.size:=by have:=zfi (s:=s) (p:=p) (by rw [hm];decide);omega
 have HN:=hd_ (fun W (hW:ScB W b s ((p+1:Nat):Int))=>zdD hq hs hp1 (by omega) (by omega) W hW)
 have HC:=hd_ (fun W (hW:ScB W b s (p:Int))=>zb0 (i:=0) hs hp (by omega) W hW)
 have HK:=hd_ hk
 have HX:=hd_ hx
 have hlt:=hx.lt
 have HRG:=hd_ (fun W=>zel k (by omega) (by omega) W)
 have HSG:=hd_ (fun W=>ze4 k (by omega) (by omega) W)
 rw [hsg] at HSG
 have hrg:=zfE k (by omega) (by omega)
 obtain ⟨c,hc⟩:∃ c,cAt s.data.toList p=c:=⟨_,rfl⟩
 rw [Nat.add_zero,hc] at HC
 rw [hc] at hm
 have em:((c.toNat:Int)==45)=true:=by simp [hm]
 obtain ⟨lo,hlo⟩:∃ v,rLo k=v:=⟨_,rfl⟩
 obtain ⟨hi,hhi⟩:∃ v,rHi k=v:=⟨_,rfl⟩
 rw [hlo,hhi] at HRG hrg
 have HG:=hd_ hrg
 have hdr:=za9 (s.data.toList.drop (p+1)) 10 (by omega)
 rw [hq] at hdr
 obtain ⟨n0,n1⟩:=hdr
 replace n0:0≤D:=n0
 replace n1:D≤1099511627776:=n1
 have q1:IntKind.i64.wrap ((p:Int)+1)=(p:Int)+1:=IntWalk.i64_in _ (by omega)
 have q2:IntKind.i64.wrap (-D)=-D:=IntWalk.i64_in _ (by omega)
 have ek1:((k:Int)==1)=false:=by simp;omega
 have ek11:((k:Int)==11)=false:=by simp;omega
 have hres:(Z=0)∨(Z≠0∧-D < lo)∨(Z≠0∧lo≤-D∧hi < -D)∨(Z≠0∧lo≤-D∧-D≤hi):=by omega
 clear hr hq hk hx hs hp hq2 hrg hc hlo hhi hsg hp1
 go_enter Tryz.func104,Tryz.ntmps104
 go_upto_region 13 with (first | (go_at_call 103;refine (zbg HK.out _).mono ?_;rintro e w1 ⟨rfl,hb1⟩;have HT:=hd_ (TyS.start HX.out hb1);clear hb1;obtain ⟨c40,c41,c42,c43,c44,f40,f41,f42,f43,f44⟩:=blk5 HT.out.tk;obtain ⟨c60,c61,c62,c63,c64,f60,f61,f62,f63,f64⟩:=blk5 HT.out.an))
 have hT1:=(HT.out.set0 3).set1 k
 obtain ⟨W1,hW1⟩:∃ W1,W1=(w1.setCell ⟨w.heap.size,0,none⟩ (.int .i64 3)).setCell ⟨w.heap.size,1,none⟩ (.int .i64 k):=⟨_,rfl⟩
 rw [← hW1] at hT1 ⊢
 have HT1:=hd_ hT1
 clear hT1 hW1 HT c40 c41 c42 c43 c44 f40 f41 f42 f43 f44 c60 c61 c62 c63 c64 f60 f61 f62 f63 f64
 obtain ⟨c40,c41,c42,c43,c44,f40,f41,f42,f43,f44⟩:=blk5 HT1.out.tk;obtain ⟨c60,c61,c62,c63,c64,f60,f61,f62,f63,f64⟩:=blk5 HT1.out.an
 obtain ⟨x0,x1,g0,g1⟩:=HT1.out.sc.cells
 have hbl1:=HT1.out.sc.lt
 go_wp2_with (first | (go_at_call 79;refine (HC.out _ (by exact HT1.out.sc)).mono ?_;rintro e w3 ⟨rfl,nn3,rfl⟩) | (go_at_call 88;refine (HSG.out _).mono ?_;rintro e w5 ⟨rfl,rfl⟩))
 refine (HN.out _ (by have h:=((HT1.out.drewN nn3).move ((p:Int)+1)).sc;rw [show ((p+1:Nat):Int)=(p:Int)+1 by omega];exact h)).mono ?_
 rintro e w6 ⟨rfl,hs6,ho6⟩
 have HT6:=hd_ (((HT1.out.drewN nn3).move ((p:Int)+1)).call hs6 ho6)
 clear hs6 ho6 c40 c41 c42 c43 c44 f40 f41 f42 f43 f44 c60 c61 c62 c63 c64 f60 f61 f62 f63 f64 x0 x1 g0 g1 hbl1
 obtain ⟨c40,c41,c42,c43,c44,f40,f41,f42,f43,f44⟩:=blk5 HT6.out.tk;obtain ⟨c60,c61,c62,c63,c64,f60,f61,f62,f63,f64⟩:=blk5 HT6.out.an
 rcases hres with hZ | ⟨hZ,hv⟩ | ⟨hZ,hv,hv2⟩ | ⟨hZ,hv,hv2⟩
 ·have HZ:=hd_ hZ
  have z1:(Z != 0)=false:=by simp [hZ]
  clear hZ
  go_wp2
  refine bodyPost_ret (v:=.tuple #[.agg #[.int .i64 3,.int .i64 k,.int .i64 0,.string ⟨#[]⟩,.int .i64 A],.int .i64 120]) (by simp [results,Tryz.results104,go_sem, *]) rfl ?_
  exact zbl (by rw [HR.out,if_pos HZ.out]) (by decide) (by (repeat (refine Only.setFar ?_ (by omega) _ _));exact HT6.out.on)
 ·have HZ:=hd_ hZ
  have z1:(Z != 0)=true:=by simp [hZ]
  clear hZ
  go_wp2_with (go_at_call 57;refine (HRG.out _).mono ?_;rintro e w7 ⟨rfl,hb7⟩;have HT7:=hd_ (HT6.out.below hb7);clear hb7 c40 c41 c42 c43 c44 f40 f41 f42 f43 f44 c60 c61 c62 c63 c64 f60 f61 f62 f63 f64;obtain ⟨c40,c41,c42,c43,c44,f40,f41,f42,f43,f44⟩:=blk5 HT7.out.tk;obtain ⟨c60,c61,c62,c63,c64,f60,f61,f62,f63,f64⟩:=blk5 HT7.out.an)
  refine bodyPost_ret (v:=.tuple #[.agg #[.int .i64 3,.int .i64 k,.int .i64 0,.string ⟨#[]⟩,.int .i64 A],.int .i64 163]) (by simp [results,Tryz.results104,go_sem, *]) rfl ?_
  exact zbl (by rw [HR.out,if_neg HZ.out,if_neg (fun h=>(HG.out (-D)).1 h (by omega))]) (by decide) (by (repeat (refine Only.setFar ?_ (by omega) _ _));exact HT7.out.on)
 ·have HZ:=hd_ hZ
  have z1:(Z != 0)=true:=by simp [hZ]
  clear hZ
  go_wp2_with (go_at_call 57;refine (HRG.out _).mono ?_;rintro e w7 ⟨rfl,hb7⟩;have HT7:=hd_ (HT6.out.below hb7);clear hb7 c40 c41 c42 c43 c44 f40 f41 f42 f43 f44 c60 c61 c62 c63 c64 f60 f61 f62 f63 f64;obtain ⟨c40,c41,c42,c43,c44,f40,f41,f42,f43,f44⟩:=blk5 HT7.out.tk;obtain ⟨c60,c61,c62,c63,c64,f60,f61,f62,f63,f64⟩:=blk5 HT7.out.an)
  refine bodyPost_ret (v:=.tuple #[.agg #[.int .i64 3,.int .i64 k,.int .i64 0,.string ⟨#[]⟩,.int .i64 A],.int .i64 163]) (by simp [results,Tryz.results104,go_sem, *]) rfl ?_
  exact zbl (by rw [HR.out,if_neg HZ.out,if_neg (fun h=>(HG.out (-D)).1 h (by omega))]) (by decide) (by (repeat (refine Only.setFar ?_ (by omega) _ _));exact HT7.out.on)
 ·have HZ:=hd_ hZ
  have z1:(Z != 0)=true:=by simp [hZ]
  clear hZ
  go_wp2_with (go_at_call 57;refine (HRG.out _).mono ?_;rintro e w7 ⟨rfl,hb7⟩;have HT7:=hd_ (HT6.out.below hb7);clear hb7 c40 c41 c42 c43 c44 f40 f41 f42 f43 f44 c60 c61 c62 c63 c64 f60 f61 f62 f63 f64;obtain ⟨c40,c41,c42,c43,c44,f40,f41,f42,f43,f44⟩:=blk5 HT7.out.tk;obtain ⟨c60,c61,c62,c63,c64,f60,f61,f62,f63,f64⟩:=blk5 HT7.out.an)
  refine bodyPost_ret (v:=.tuple #[.agg #[.int .i64 3,.int .i64 k,.int .i64 (-D),.string ⟨#[]⟩,.int .i64 A],.int .i64 0]) (by simp [results,Tryz.results104,go_sem, *]) rfl ?_
  exact zhT (by rw [HR.out,if_neg HZ.out,if_pos ((HG.out (-D)).2 (by omega))]) (by (repeat (refine Only.setFar ?_ (by omega) _ _));exact HT7.out.on) (by (repeat (refine ScB.setFar ?_ (by omega) _ _));exact HT7.out.sc)
theorem zhH {s x:ByteArray} {p b:Nat} {A:Int} {r:Tok × Nat × Int} (hr:zaL s.data.toList p 1=r) (hk:kindOf x=1) (hxT:(x.toList==[84])=false) (hL:lett (cAt s.data.toList p)=true) (hs:s.size≤4294967000) (hp:p≤s.size) (w:World) (hx:ScB w b s p) :
  Calls Tryz.prog 104 #[.pointer (some ⟨b,0,none⟩),.agg #[.int .i64 0,.int .i64 0,.int .i64 0,.string ⟨#[]⟩,.int .i64 A],.string x] w (za3 s A b r w):=by
 obtain ⟨z,hz⟩:∃ z,span zbi (s.data.toList.drop p)=z:=⟨_,rfl⟩
 have hzs:=zdf zbi (s.data.toList.drop p)
 rw [hz,List.length_drop,show s.data.toList.length=s.size from rfl] at hzs
 have hW:=fun i (hi:i≤z)=>zku (s:=s) (p:=p) hz hi
 have HW:=hd_ hW
 have hx1:(s.extract p (p+z)).toList=(s.data.toList.drop p).take (span zbi (s.data.toList.drop p)):=by
  rw [hz,ByteArray.toList_eq,ByteArray.data_extract]
  simp only [Array.toList_extract,List.extract_eq_take_drop]
  rw [show p+z - p=z by omega]
 obtain ⟨X,hX⟩:∃ X,s.extract p (p+z)=X:=⟨_,rfl⟩
 have hXl:X.toList.length=z:=by rw [← hX,hx1,hz,List.length_take,List.length_drop,show s.data.toList.length=s.size from rfl];omega
 rw [hX] at hx1
 have HX1:=hd_ hX
 have htrue:X.toList=zbs→r=(⟨3,1,1,[],0⟩,p+z,0):=fun h=>by
  rw [← hr,zdo hx1.symm (.inl h),if_pos h,hXl]
 have hfalse:X.toList≠zbs→X.toList=zbw→r=(⟨3,1,0,[],0⟩,p+z,0):=fun h0 h=>by
  rw [← hr,zdo hx1.symm (.inr h),if_neg h0,hXl]
 have hnone:X.toList≠zbs→X.toList≠zbw→r=(tok0,0,120):=fun h0 h=>by
  rw [← hr,zeI hx1.symm (by rintro (k | k) <;> contradiction) hL]
 have HTR:=hd_ htrue
 have HFA:=hd_ hfalse
 have HNO:=hd_ hnone
 have HS:=hd_ hs
 have HP:Hid (p+z≤s.size):=hd_ (by omega)
 have HC:=hd_ (fun W (hW:ScB W b s (p:Int))=>zb0 (i:=0) hs hp (by omega) W hW)
 have HK:=hd_ hk
 have HX:=hd_ hx
 have hlt:=hx.lt
 obtain ⟨c,hc⟩:∃ c,cAt s.data.toList p=c:=⟨_,rfl⟩
 rw [Nat.add_zero,hc] at HC
 rw [hc] at hL
 have HL:=hd_ hL
 have ek1:(((1:Nat):Int)==1)=true:=by simp
 have ek11:(((1:Nat):Int)==11)=false:=by simp
 obtain ⟨d1,hd1⟩:∃ d,(X.toList==zbs)=d:=⟨_,rfl⟩
 obtain ⟨d2,hd2⟩:∃ d,(X.toList==zbw)=d:=⟨_,rfl⟩
 have HD1:=hd_ hd1
 have HD2:=hd_ hd2
 have hps:(p:Int)+z≤s.size:=by omega
 have hss:s.size≤4294967000:=hs
 clear hr hz hzs hW hx1 hX hXl htrue hfalse hnone hk hx hs hp hc hL hd1 hd2
 go_enter Tryz.func104,Tryz.ntmps104
 go_upto_region 13 with (first | (go_at_call 103;refine (zbg HK.out _).mono ?_;rintro e w1 ⟨rfl,hb1⟩;have HT:=hd_ (TyS.start HX.out hb1);clear hb1;obtain ⟨c40,c41,c42,c43,c44,f40,f41,f42,f43,f44⟩:=blk5 HT.out.tk;obtain ⟨c60,c61,c62,c63,c64,f60,f61,f62,f63,f64⟩:=blk5 HT.out.an))
 have hT1:=(HT.out.set0 3).set1 1
 obtain ⟨W1,hW1⟩:∃ W1,W1=(w1.setCell ⟨w.heap.size,0,none⟩ (.int .i64 3)).setCell ⟨w.heap.size,1,none⟩ (.int .i64 1):=⟨_,rfl⟩
 rw [← hW1] at hT1 ⊢
 have HT1:=hd_ hT1
 clear hT1 hW1 HT c40 c41 c42 c43 c44 f40 f41 f42 f43 f44 c60 c61 c62 c63 c64 f60 f61 f62 f63 f64
 obtain ⟨c40,c41,c42,c43,c44,f40,f41,f42,f43,f44⟩:=blk5 HT1.out.tk;obtain ⟨c60,c61,c62,c63,c64,f60,f61,f62,f63,f64⟩:=blk5 HT1.out.an
 obtain ⟨x0,x1,g0,g1⟩:=HT1.out.sc.cells
 have hbl1:=HT1.out.sc.lt
 go_wp2_with (first | (go_at_call 79;refine (HC.out _ (by exact HT1.out.sc)).mono ?_;rintro e w3 ⟨rfl,nn3,rfl⟩) | (go_at_call 101;refine (zap _ _).mono ?_;rintro e w4 ⟨rfl,rfl⟩;rw [HL.out]))
 go_loopw [] (fun wr=>∃ i:Nat,i≤z∧Hid (TyS w b s ((p+i:Nat):Int) 3 1 0 A wr)) (fun wr=>s.size - (intOf ((wr.cell? ⟨b,1,none⟩).getD undef)).toNat)
 case atStart=>exact ⟨0,by omega,hd_ (HT1.out.drewN _)⟩
 case round=>
  clear HT1 c40 c41 c42 c43 c44 f40 f41 f42 f43 f44 c60 c61 c62 c63 c64 f60 f61 f62 f63 f64 x0 x1 g0 g1 hbl1 HC HL
  obtain ⟨i,hi,HT⟩:=hrel
  obtain ⟨WR,rfl⟩:∃ WR,WR=wr:=⟨_,rfl⟩
  obtain ⟨q,hq⟩:∃ q,p+i=q:=⟨_,rfl⟩
  rw [hq] at HT
  have HQ:=hd_ hq
  have hqs:q≤s.size:=by have:=HP.out;omega
  have hwb:=HW.out i hi
  have HC:=hd_ (fun W (hW:ScB W b s (q:Int))=>zb0 (i:=0) HS.out hqs (by omega) W hW)
  rw [hq] at hwb
  obtain ⟨c,hc⟩:∃ c,cAt s.data.toList q=c:=⟨_,rfl⟩
  rw [Nat.add_zero,hc] at HC
  rw [hc] at hwb
  obtain ⟨c40,c41,c42,c43,c44,f40,f41,f42,f43,f44⟩:=blk5 HT.out.tk;obtain ⟨c60,c61,c62,c63,c64,f60,f61,f62,f63,f64⟩:=blk5 HT.out.an
  obtain ⟨x0,x1,g0,g1⟩:=HT.out.sc.cells
  have hbl:=HT.out.sc.lt
  have q1:IntKind.i64.wrap ((q:Int)+1)=(q:Int)+1:=IntWalk.i64_in _ (by omega)
  clear hc hq
  obtain ⟨l1,hl1⟩:∃ l,lett c=l:=⟨_,rfl⟩
  obtain ⟨l2,hl2⟩:∃ l,dig c=l:=⟨_,rfl⟩
  have HL:=hd_ hl1
  have HG:=hd_ hl2
  have hwb2:(l1 || l2)=decide (i < z):=by rw [← hl1,← hl2];exact hwb
  clear hl1 hl2 hwb
  have hway:(l1=true∧i < z)∨(l1=false∧l2=true∧i < z)∨(l1=false∧l2=false∧i=z):=by
   cases l1 <;> cases l2 <;> simp at hwb2 <;> simp <;> omega
  clear hwb2
  rcases hway with ⟨rfl,hiz⟩ | ⟨rfl,rfl,hiz⟩ | ⟨rfl,rfl,hiz⟩
  ·go_wp2_with (first
    | (go_at_call 79;refine (HC.out _ (by exact HT.out.sc)).mono ?_;rintro e w3 ⟨rfl,nn3,rfl⟩)
    | (go_at_call 101;refine (zap _ _).mono ?_;rintro e w4 ⟨rfl,rfl⟩;rw [HL.out])
    | (go_at_call 102;refine (zar _ _).mono ?_;rintro e w5 ⟨rfl,rfl⟩;rw [HG.out]))
   go_roundw
   case rel=>
    refine ⟨i+1,by omega,hd_ ?_⟩
    rw [show ((p+(i+1):Nat):Int)=(q:Int)+1 by have:=HQ.out;omega]
    exact (HT.out.drewN _).move _
   case measure=>
    have h5:=fun nd=>(((HT.out.drewN nd).move ((q:Int)+1)).sc).cells.2.1
    simp [h5,x1,intOf];have:=HQ.out;omega
  ·go_wp2_with (first
    | (go_at_call 79;refine (HC.out _ (by exact HT.out.sc)).mono ?_;rintro e w3 ⟨rfl,nn3,rfl⟩)
    | (go_at_call 101;refine (zap _ _).mono ?_;rintro e w4 ⟨rfl,rfl⟩;rw [HL.out])
    | (go_at_call 102;refine (zar _ _).mono ?_;rintro e w5 ⟨rfl,rfl⟩;rw [HG.out]))
   go_roundw
   case rel=>
    refine ⟨i+1,by omega,hd_ ?_⟩
    rw [show ((p+(i+1):Nat):Int)=(q:Int)+1 by have:=HQ.out;omega]
    exact (HT.out.drewN _).move _
   case measure=>
    have h5:=fun nd=>(((HT.out.drewN nd).move ((q:Int)+1)).sc).cells.2.1
    simp [h5,x1,intOf];have:=HQ.out;omega
  ·have HI:=hd_ hiz
   have q0:(p:Int)≤q:=by have:=HQ.out;omega
   have q2:(q:Int)≤s.size:=by omega
   have q3:0≤(p:Int):=by omega
   have q4:0≤(q:Int):=by omega
   have hext:s.extract p q=X:=by rw [← HX1.out,← HQ.out,HI.out]
   clear hiz
   cases d1
   all_goals
    cases d2
   ·go_wp2_with (first
     | (go_at_call 79;refine (HC.out _ (by exact HT.out.sc)).mono ?_;rintro e w3 ⟨rfl,nn3,rfl⟩)
     | (go_at_call 101;refine (zap _ _).mono ?_;rintro e w4 ⟨rfl,rfl⟩;rw [HL.out])
     | (go_at_call 102;refine (zar _ _).mono ?_;rintro e w5 ⟨rfl,rfl⟩;rw [HG.out]))
    go_quiet (fail)
    have hd1:(X.toList==([84,82,85,69]:List UInt8))=false:=HD1.out
    have hd2:(X.toList==([70,65,76,83,69]:List UInt8))=false:=HD2.out
    go_wp2
    refine bodyPost_ret (v:=.tuple #[.agg #[.int .i64 3,.int .i64 1,.int .i64 0,.string ⟨#[]⟩,.int .i64 A],.int .i64 120]) (by simp [results,Tryz.results104,go_sem, *]) rfl ?_
    exact zbl (by rw [HNO.out (by have h:=HD1.out;simpa using h) (by have h:=HD2.out;simpa using h)]) (by decide) (by (repeat (refine Only.setFar ?_ (by omega) _ _));first | exact HT.out.on.drewN _ | exact (HT.out.on.drewN _).drewN _ | exact ((HT.out.on.drewN _).drewN _).drewN _)
   ·go_wp2_with (first
     | (go_at_call 79;refine (HC.out _ (by exact HT.out.sc)).mono ?_;rintro e w3 ⟨rfl,nn3,rfl⟩)
     | (go_at_call 101;refine (zap _ _).mono ?_;rintro e w4 ⟨rfl,rfl⟩;rw [HL.out])
     | (go_at_call 102;refine (zar _ _).mono ?_;rintro e w5 ⟨rfl,rfl⟩;rw [HG.out]))
    go_quiet (fail)
    have hd1:(X.toList==([84,82,85,69]:List UInt8))=false:=HD1.out
    have hd2:(X.toList==([70,65,76,83,69]:List UInt8))=true:=HD2.out
    go_wp2
    refine bodyPost_ret (v:=.tuple #[.agg #[.int .i64 3,.int .i64 1,.int .i64 0,.string ⟨#[]⟩,.int .i64 A],.int .i64 0]) (by simp [results,Tryz.results104,go_sem, *]) rfl ?_
    exact zhT (q:=q) (by rw [HFA.out (by have h:=HD1.out;simpa using h) (by have h:=HD2.out;simpa using h),← HQ.out,HI.out]) (by (repeat (refine Only.setFar ?_ (by omega) _ _));first | exact HT.out.on.drewN _ | exact (HT.out.on.drewN _).drewN _ | exact ((HT.out.on.drewN _).drewN _).drewN _) (by (repeat (refine ScB.setFar ?_ (by omega) _ _));first | exact HT.out.sc.drewN _ | exact (HT.out.sc.drewN _).drewN _ | exact ((HT.out.sc.drewN _).drewN _).drewN _)
   ·go_wp2_with (first
     | (go_at_call 79;refine (HC.out _ (by exact HT.out.sc)).mono ?_;rintro e w3 ⟨rfl,nn3,rfl⟩)
     | (go_at_call 101;refine (zap _ _).mono ?_;rintro e w4 ⟨rfl,rfl⟩;rw [HL.out])
     | (go_at_call 102;refine (zar _ _).mono ?_;rintro e w5 ⟨rfl,rfl⟩;rw [HG.out]))
    go_quiet (fail)
    have hd1:(X.toList==([84,82,85,69]:List UInt8))=true:=HD1.out
    have hd2:(X.toList==([70,65,76,83,69]:List UInt8))=false:=HD2.out
    go_wp2
    refine bodyPost_ret (v:=.tuple #[.agg #[.int .i64 3,.int .i64 1,.int .i64 1,.string ⟨#[]⟩,.int .i64 A],.int .i64 0]) (by simp [results,Tryz.results104,go_sem, *]) rfl ?_
    exact zhT (q:=q) (by rw [HTR.out (by have h:=HD1.out;simpa using h),← HQ.out,HI.out]) (by (repeat (refine Only.setFar ?_ (by omega) _ _));first | exact HT.out.on.drewN _ | exact (HT.out.on.drewN _).drewN _ | exact ((HT.out.on.drewN _).drewN _).drewN _) (by (repeat (refine ScB.setFar ?_ (by omega) _ _));first | exact HT.out.sc.drewN _ | exact (HT.out.sc.drewN _).drewN _ | exact ((HT.out.sc.drewN _).drewN _).drewN _)
   ·go_wp2_with (first
     | (go_at_call 79;refine (HC.out _ (by exact HT.out.sc)).mono ?_;rintro e w3 ⟨rfl,nn3,rfl⟩)
     | (go_at_call 101;refine (zap _ _).mono ?_;rintro e w4 ⟨rfl,rfl⟩;rw [HL.out])
     | (go_at_call 102;refine (zar _ _).mono ?_;rintro e w5 ⟨rfl,rfl⟩;rw [HG.out]))
    go_quiet (fail)
    have hd1:(X.toList==([84,82,85,69]:List UInt8))=true:=HD1.out
    have hd2:(X.toList==([70,65,76,83,69]:List UInt8))=true:=HD2.out
    go_wp2
    refine bodyPost_ret (v:=.tuple #[.agg #[.int .i64 3,.int .i64 1,.int .i64 1,.string ⟨#[]⟩,.int .i64 A],.int .i64 0]) (by simp [results,Tryz.results104,go_sem, *]) rfl ?_
    exact zhT (q:=q) (by rw [HTR.out (by have h:=HD1.out;simpa using h),← HQ.out,HI.out]) (by (repeat (refine Only.setFar ?_ (by omega) _ _));first | exact HT.out.on.drewN _ | exact (HT.out.on.drewN _).drewN _ | exact ((HT.out.on.drewN _).drewN _).drewN _) (by (repeat (refine ScB.setFar ?_ (by omega) _ _));first | exact HT.out.sc.drewN _ | exact (HT.out.sc.drewN _).drewN _ | exact ((HT.out.sc.drewN _).drewN _).drewN _)
end Go.Proofs.YtdpkjpjkdmkkpaaGreatDoor
