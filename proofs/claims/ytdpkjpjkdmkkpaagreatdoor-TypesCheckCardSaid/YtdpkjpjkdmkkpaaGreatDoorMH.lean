/- The walk through the reference lexer's token: its memory; its words. -/
import Derived.Test.YtdpkjpjkdmkkpaaGreatDoorMG
set_option maxRecDepth 100000
set_option maxHeartbeats 16000000
namespace Go.Proofs.YtdpkjpjkdmkkpaaGreatDoor
open Ad Go.RowKit Lx
theorem znO {w:World} {g:Nat} {v0 v1 v2 v3 v4:Value} {t:TypeId} (h:w.heap[g]? = some (.cells #[v0,v1,v2,v3,v4] t)) (v:Value) :
  (w.setCell ⟨g,3,none⟩ v).heap[g]? = some (.cells #[v0,v1,v2,v,v4] t):=by
 simp [World.setCell,h,Array.getElem?_modify]
structure TkS (w0:World) (b:Nat) (s:ByteArray) (p:Int) (t0 t1 t2:Int) (tx:ByteArray) (A:Int) (w:World):Prop where
 an:w.heap[w0.heap.size]? = some (.cells #[.int .i64 0,.int .i64 0,.int .i64 0,.string ⟨#[]⟩,.int .i64 0] 107)
 tk:w.heap[w0.heap.size+1]? = some (.cells #[.int .i64 t0,.int .i64 t1,.int .i64 t2,.string tx,.int .i64 A] 107)
 sc:ScB w b s p
 on:Only b w0 w
 lt:b < w0.heap.size
section
variable {w0 w w':World} {b:Nat} {s tx:ByteArray} {p p' t0 t1 t2 A:Int}
theorem TkS.call (h:TkS w0 b s p t0 t1 t2 tx A w) (hs:ScB w' b s p') (ho:Only b w w'):TkS w0 b s p' t0 t1 t2 tx A w':=by
 have hlt:=h.lt
 exact ⟨ho.at h.an (by omega),ho.at h.tk (by omega),hs,h.on.trans ho,h.lt⟩
theorem TkS.below (h:TkS w0 b s p t0 t1 t2 tx A w) (hb:Below w.heap.size w w'):TkS w0 b s p t0 t1 t2 tx A w':=
 h.call ((hb.block b h.sc.lt).trans h.sc) (Only.ofBelow hb)
theorem TkS.drewN (h:TkS w0 b s p t0 t1 t2 tx A w) (n:Nat):TkS w0 b s p t0 t1 t2 tx A (w.drewN n):=h.below (Below.drewN br_ n)
theorem TkS.move (h:TkS w0 b s p t0 t1 t2 tx A w) (p':Int):TkS w0 b s p' t0 t1 t2 tx A (w.setCell ⟨b,1,none⟩ (.int .i64 p')):=
 h.call (h.sc.set p') ((Only.refl b w).setCell 1 _)
theorem TkS.far {r0 r1 r2:Int} {rx:ByteArray} (h:TkS w0 b s p t0 t1 t2 tx A w) (o:Nat) (v:Value) (hk:(w.setCell ⟨w0.heap.size+1,o,none⟩ v).heap[w0.heap.size+1]? = some (.cells #[.int .i64 r0,.int .i64 r1,.int .i64 r2,.string rx,.int .i64 A] 107)):TkS w0 b s p r0 r1 r2 rx A (w.setCell ⟨w0.heap.size+1,o,none⟩ v):=by
 have hlt:=h.lt
 exact ⟨(Below.heap_setCell _ _ _ _ (by simp)).trans h.an,hk,h.sc.setFar (by omega) _ _,h.on.setFar (by omega) _ _,h.lt⟩
theorem TkS.set0 (h:TkS w0 b s p t0 t1 t2 tx A w) (v:Int):TkS w0 b s p v t1 t2 tx A (w.setCell ⟨w0.heap.size+1,0,none⟩ (.int .i64 v)):=h.far _ _ (set5 h.tk _).1
theorem TkS.set1 (h:TkS w0 b s p t0 t1 t2 tx A w) (v:Int):TkS w0 b s p t0 v t2 tx A (w.setCell ⟨w0.heap.size+1,1,none⟩ (.int .i64 v)):=h.far _ _ (set5 h.tk _).2.1
theorem TkS.set3 (h:TkS w0 b s p t0 t1 t2 tx A w) (v:ByteArray):TkS w0 b s p t0 t1 t2 v A (w.setCell ⟨w0.heap.size+1,3,none⟩ (.string v)):=h.far _ _ (znO h.tk _)
theorem TkS.start (h:ScB w b s p):TkS w b s p 0 0 0 ⟨#[]⟩ A ((w.alloc (.cells #[.int .i64 0,.int .i64 0,.int .i64 0,.string ⟨#[]⟩,.int .i64 0] 107)).alloc (.cells #[.int .i64 0,.int .i64 0,.int .i64 0,.string ⟨#[]⟩,.int .i64 A] 107)):=by
 have hlt:=h.lt
 have hb:Below w.heap.size w ((w.alloc (.cells #[.int .i64 0,.int .i64 0,.int .i64 0,.string ⟨#[]⟩,.int .i64 0] 107)).alloc (.cells #[.int .i64 0,.int .i64 0,.int .i64 0,.string ⟨#[]⟩,.int .i64 A] 107)):=(br_.alloc nl_ _).alloc (by simp) _
 obtain ⟨h1,h2,h3⟩:=ze7 (Below.refl ((w.alloc (.cells #[.int .i64 0,.int .i64 0,.int .i64 0,.string ⟨#[]⟩,.int .i64 0] 107)).alloc (.cells #[.int .i64 0,.int .i64 0,.int .i64 0,.string ⟨#[]⟩,.int .i64 A] 107)).heap.size _)
 exact ⟨h1,h2,(h3.block b hlt).trans h,Only.ofBelow h3,hlt⟩
end
theorem zhP {s tx:ByteArray} {A tk kd nn:Int} {b q:Nat} {r:Tok × Nat × Int} {w w':World} (h:r=(⟨tk,kd,nn,tx.data.toList,0⟩,q,0)) (on:Only b w w') (sc:ScB w' b s (q:Int)) :
  za3 s A b r w (.returned (.tuple #[.agg #[.int .i64 tk,.int .i64 kd,.int .i64 nn,.string tx,.int .i64 A],.int .i64 0])) w':=by
 subst h
 refine ⟨fun _=>⟨?_,sc⟩,fun k=>absurd rfl k,on⟩
 simp only [tokV]
theorem zdn (L:List UInt8) (a:Nat):∀ (f p:Nat) (n last:Int) (sm:Bool),zaM L f (a+p) n last sm=(a+(zaM (L.drop a) f p n last sm).1,(zaM (L.drop a) f p n last sm).2.1,(zaM (L.drop a) f p n last sm).2.2):=by
 intro f
 induction f with
 | zero=>intro p n last sm;rfl
 | succ f ih=>
  intro p n last sm
  have hu:∀ q,zcj (L.drop a) q=zcj L (a+q):=by
   intro q
   unfold zcj
   rw [zbu,zbu,Nat.add_assoc]
  simp only [zaM,List.drop_drop,hu]
  rw [zbu]
  by_cases hd:dig (cAt L (a+p))=true
  ·rw [if_pos hd,if_pos hd]
   rw [← Nat.add_assoc]
   by_cases hl:zcj L (a+p+(zak (L.drop (a+p)) 10).2)≤last
   ·rw [if_pos hl,if_pos hl]
   ·rw [if_neg hl,if_neg hl]
    have h:=ih (p+(zak (L.drop (a+p)) 10).2+(if zcj L (a+p+(zak (L.drop (a+p)) 10).2)=4 then 2 else 1)) (zgz n (zak (L.drop (a+p)) 10).1 (zcj L (a+p+(zak (L.drop (a+p)) 10).2))) (zcj L (a+p+(zak (L.drop (a+p)) 10).2)) true
    rw [show a+p+(zak (L.drop (a+p)) 10).2+(if zcj L (a+p+(zak (L.drop (a+p)) 10).2)=4 then 2 else 1)=a+(p+(zak (L.drop (a+p)) 10).2+(if zcj L (a+p+(zak (L.drop (a+p)) 10).2)=4 then 2 else 1)) by omega,h]
  ·rw [if_neg hd,if_neg hd]
def upBy (a:Nat) (r:Tok × Nat × Int):Tok × Nat × Int:=(r.1,a+r.2.1,r.2.2)
theorem zed (a:Nat) (t:Nat × Int × Bool) (n:Int):(zcc (a+t.1,t.2.1,t.2.2) n).1=(zcc t n).1∧(zcc (a+t.1,t.2.1,t.2.2) n).2.2=(zcc t n).2.2∧((zcc t n).2.2=0→(zcc (a+t.1,t.2.1,t.2.2) n).2.1=a+(zcc t n).2.1):=by
 unfold zcc
 dsimp only
 split
 ·simp
 ·split <;> simp
def zeN (a:Nat) (r q:Tok × Nat × Int):Prop:=r.1=q.1∧r.2.2=q.2.2∧(q.2.2=0→r.2.1=a+q.2.1)
theorem zdm (L:List UInt8) (a q:Nat):zeN a (zbt L (a+q)) (zbt (L.drop a) q):=by
 unfold zbt
 rw [zbu]
 by_cases hm:(cAt L (a+q)).toNat=45
 ·rw [if_pos hm,if_pos hm,Nat.add_assoc,zdn L a 6 (q+1)]
  exact zed a _ _
 ·rw [if_neg hm,if_neg hm,zdn L a 6 q]
  exact zed a _ _
theorem zgi (L:List UInt8) (a q k:Nat):zeN a (zaL L (a+q) k) (zaL (L.drop a) q k):=by
 unfold zaL zeN
 simp only [List.drop_drop]
 split
 ·exact ⟨rfl,rfl,fun _=>by simp only;omega⟩
 ·split
  ·split
   ·exact ⟨rfl,rfl,fun h=>by simp at h⟩
   ·split
    ·exact ⟨rfl,rfl,fun _=>by simp only;omega⟩
    ·exact ⟨rfl,rfl,fun h=>by simp at h⟩
  ·split
   ·rename_i h0
    exact ⟨rfl,rfl,fun h=>absurd h h0⟩
   ·split
    ·exact ⟨rfl,rfl,fun _=>by simp only;omega⟩
    ·exact ⟨rfl,rfl,fun h=>by simp at h⟩
theorem zjS {s:ByteArray} {A:Int} {b a:Nat} {r q:Tok × Nat × Int} {w w':World} {ev:Ending} (h:zeN a r q) (hp:za3 s A b r w ev w'):za3 s A b (upBy a q) w ev w':=by
 obtain ⟨h1,h2,h3⟩:=h
 obtain ⟨p1,p2,p3⟩:=hp
 refine ⟨fun k=>?_,fun k=>?_,p3⟩
 ·have k0:q.2.2=0:=k
  obtain ⟨e1,e2⟩:=p1 (by rw [h2];exact k0)
  exact ⟨by rw [e1,h1];rfl,by rw [h3 k0] at e2;exact e2⟩
 ·have k0:q.2.2≠0:=k
  obtain ⟨x1,x2,x3,x4,e⟩:=p2 (by rw [h2];exact k0)
  exact ⟨x1,x2,x3,x4,by rw [e,h2];rfl⟩
theorem zkF {s:ByteArray} {a z:Nat}:(s.data.toList.drop a)[z]? = some 35↔(cAt s.data.toList (a+z)).toNat=35:=by
 rw [← zbu]
 unfold cAt
 rw [List.getD_eq_getElem?_getD]
 cases h:(s.data.toList.drop a)[z]? with
 | none=>simp
 | some c=>simp only [Option.some.injEq,Option.getD_some];exact (u8n c 35).symm
theorem zhG {s:ByteArray} {a b:Nat} {r:Tok × Nat × Int} (hr:zbK (s.data.toList.drop a)=r) (hL0:lett (cAt s.data.toList a)=true) (hs:s.size≤4294967000) (ha:a < s.size) (w:World) (hx:ScB w b s a) :
  Calls Tryz.prog 80 #[.pointer (some ⟨b,0,none⟩)] w (za3 s a b (upBy a r) w):=by
 obtain ⟨z,hz⟩:∃ z,span zbi (s.data.toList.drop a)=z:=⟨_,rfl⟩
 have hzs:=zdf zbi (s.data.toList.drop a)
 rw [hz,List.length_drop,show s.data.toList.length=s.size from rfl] at hzs
 have HW:=hd_ (fun i (hi:i≤z)=>zku (s:=s) (p:=a) hz hi)
 obtain ⟨X,hX⟩:∃ X,s.extract a (a+z)=X:=⟨_,rfl⟩
 have hXm:mkS ((s.data.toList.drop a).take z)=X:=by
  rw [← hX]
  apply ByteArray.ext
  rw [ByteArray.data_extract]
  apply Array.toList_inj.1
  simp [mkS,List.extract_eq_take_drop]
 have hXs:X.size=z:=by rw [← hX];simp [ByteArray.size_extract];omega
 obtain ⟨k,hk⟩:∃ k,kindOf X=k:=⟨_,rfl⟩
 obtain ⟨bT,hbT⟩:∃ bT,(X.toList==[84])=bT:=⟨_,rfl⟩
 have hT0:bT=true→k=0:=by
  intro h
  rw [h] at hbT
  have h1:X=⟨#[84]⟩:=by
   rw [ByteArray.toList_eq] at hbT
   exact ByteArray.ext (Array.toList_inj.1 (by simpa using hbT))
  rw [← hk,h1]
  decide +kernel
 unfold zbK at hr
 dsimp only at hr
 rw [hz,hXm,hk,hbT] at hr
 simp only [zkF] at hr
 obtain ⟨c9,hc9⟩:∃ c,cAt s.data.toList (a+z)=c:=⟨_,rfl⟩
 rw [hc9] at hr
 have HS:=hd_ hs
 have HX:=hd_ hx
 have hlt:=hx.lt
 have HP:Hid (a+z≤s.size):=hd_ (by omega)
 have HC:=hd_ (fun W (hW:ScB W b s (a:Int))=>zb0 (i:=0) hs (by omega) (by omega) W hW)
 have HC9:=hd_ (fun W (hW:ScB W b s ((a+z:Nat):Int))=>zb0 (i:=0) hs (by omega) (by omega) W hW)
 have HKK:=hd_ hk
 have HBT:=hd_ hbT
 have HXE:=hd_ hX
 have HXS:=hd_ hXs
 have C9E:=hd_ hc9
 have HT00:=hd_ hT0
 have hl0:(X.size:Int)=z:=by omega
 rw [Nat.add_zero,hc9] at HC9
 obtain ⟨c,hc⟩:∃ c,cAt s.data.toList a=c:=⟨_,rfl⟩
 rw [Nat.add_zero,hc] at HC
 rw [hc] at hL0
 have HL:=hd_ hL0
 have hps:(a:Int)+z≤s.size:=by omega
 have hss:s.size≤4294967000:=hs
 have a0:(a:Int) < s.size:=by omega
 have HR:=hd_ hr
 clear hr hz hzs hX hXm hXs hk hbT hc9 hx hs ha hc hL0 hT0
 have hway:(c9.toNat=35∧bT=true)∨(c9.toNat=35∧bT=false∧k≠0)∨((c9.toNat=35∧bT=false∧k=0)∨c9.toNat≠35):=by
  by_cases h:c9.toNat=35
  ·by_cases hk:k=0
   ·cases bT <;> simp [h,hk]
   ·cases bT <;> simp [h,hk]
  ·simp [h]
 have hrest:¬ (c9.toNat=35∧(k≠0∨bT=true))→za7 X z=r:=fun h=>by have:=HR.out;rwa [if_neg h] at this
 have htyped:c9.toNat=35→(k≠0∨bT=true)→(if k=11∨k=0 then zbt (s.data.toList.drop a) (z+1) else zaL (s.data.toList.drop a) (z+1) k)=r:=fun h h2=>by have:=HR.out;rwa [if_pos ⟨h,h2⟩] at this
 have HRE:=hd_ hrest
 have HTY:=hd_ htyped
 clear HR hrest htyped
 obtain ⟨x00,x01,g00,g01⟩:=HX.out.cells
 go_enter Tryz.func80,Tryz.ntmps80
 go_upto_region 2 with fail
 have hT0:=TkS.start (A:=(a:Int)) HX.out
 obtain ⟨W0,hW0⟩:∃ W0,W0=(w.alloc (.cells #[.int .i64 0,.int .i64 0,.int .i64 0,.string ⟨#[]⟩,.int .i64 0] 107)).alloc (.cells #[.int .i64 0,.int .i64 0,.int .i64 0,.string ⟨#[]⟩,.int .i64 a] 107):=⟨_,rfl⟩
 rw [← hW0] at hT0 ⊢
 have HT0:=hd_ hT0
 clear hT0 hW0 x00 x01 g00 g01
 obtain ⟨c40,c41,c42,c43,c44,f40,f41,f42,f43,f44⟩:=blk5 HT0.out.tk;obtain ⟨c60,c61,c62,c63,c64,f60,f61,f62,f63,f64⟩:=blk5 HT0.out.an
 obtain ⟨x0,x1,g0,g1⟩:=HT0.out.sc.cells
 have hbl0:=HT0.out.sc.lt
 go_wp2_with (first | (go_at_call 79;refine (HC.out _ (by exact HT0.out.sc)).mono ?_;rintro e w3 ⟨rfl,nn3,rfl⟩) | (go_at_call 101;refine (zap _ _).mono ?_;rintro e w4 ⟨rfl,rfl⟩;rw [HL.out]))
 go_loopw [] (fun wr=>∃ i:Nat,i≤z∧Hid (TkS w b s ((a+i:Nat):Int) 0 0 0 ⟨#[]⟩ a wr)) (fun wr=>s.size - (intOf ((wr.cell? ⟨b,1,none⟩).getD undef)).toNat)
 case atStart=>exact ⟨0,by omega,hd_ (HT0.out.drewN _)⟩
 case round=>
  clear HT0 c40 c41 c42 c43 c44 f40 f41 f42 f43 f44 c60 c61 c62 c63 c64 f60 f61 f62 f63 f64 x0 x1 g0 g1 hbl0 HC HL
  obtain ⟨i,hi,HT⟩:=hrel
  obtain ⟨WR,rfl⟩:∃ WR,WR=wr:=⟨_,rfl⟩
  obtain ⟨q,hq⟩:∃ q,a+i=q:=⟨_,rfl⟩
  rw [hq] at HT
  have HQ:=hd_ hq
  have hqs:q≤s.size:=by have:=HP.out;omega
  have hwb:=HW.out i hi
  have HC:=hd_ (fun W (hW:ScB W b s (q:Int))=>zb0 (i:=0) HS.out hqs (by omega) W hW)
  rw [hq] at hwb
  obtain ⟨c,hc⟩:∃ c,cAt s.data.toList q=c:=⟨_,rfl⟩
  rw [Nat.add_zero,hc] at HC
  rw [hc] at hwb
  obtain ⟨c40,c41,c42,c43,c44,f40,f41,f42,f43,f44⟩:=blk5 HT.out.tk;obtain ⟨c60,c61,c62,c63,c64,f60,f61,f62,f63,f64⟩:=blk5 HT.out.an
  obtain ⟨x0,x1,g0,g1⟩:=HT.out.sc.cells
  have hbl:=HT.out.sc.lt
  have q1:IntKind.i64.wrap ((q:Int)+1)=(q:Int)+1:=IntWalk.i64_in _ (by omega)
  clear hc hq
  obtain ⟨l1,hl1⟩:∃ l,lett c=l:=⟨_,rfl⟩
  obtain ⟨l2,hl2⟩:∃ l,dig c=l:=⟨_,rfl⟩
  have HL:=hd_ hl1
  have HG:=hd_ hl2
  have hwb2:(l1 || l2)=decide (i < z):=by rw [← hl1,← hl2];exact hwb
  clear hl1 hl2 hwb
  have hwy:(l1=true∧i < z)∨(l1=false∧l2=true∧i < z)∨(l1=false∧l2=false∧i=z):=by
   cases l1 <;> cases l2 <;> simp at hwb2 <;> simp <;> omega
  clear hwb2
  rcases hwy with ⟨rfl,hiz⟩ | ⟨rfl,rfl,hiz⟩ | ⟨rfl,rfl,hiz⟩
  ·go_wp2_with (first | (go_at_call 79;refine (HC.out _ (by exact HT.out.sc)).mono ?_;rintro e w3 ⟨rfl,nn3,rfl⟩) | (go_at_call 101;refine (zap _ _).mono ?_;rintro e w4 ⟨rfl,rfl⟩;rw [HL.out]) | (go_at_call 102;refine (zar _ _).mono ?_;rintro e w5 ⟨rfl,rfl⟩;rw [HG.out]))
   go_roundw
   case rel=>
    refine ⟨i+1,by omega,hd_ ?_⟩
    rw [show ((a+(i+1):Nat):Int)=(q:Int)+1 by have:=HQ.out;omega]
    exact (HT.out.drewN _).move _
   case measure=>
    have h5:=fun nd=>(((HT.out.drewN nd).move ((q:Int)+1)).sc).cells.2.1
    simp [h5,x1,intOf];have:=HQ.out;omega
  ·go_wp2_with (first | (go_at_call 79;refine (HC.out _ (by exact HT.out.sc)).mono ?_;rintro e w3 ⟨rfl,nn3,rfl⟩) | (go_at_call 101;refine (zap _ _).mono ?_;rintro e w4 ⟨rfl,rfl⟩;rw [HL.out]) | (go_at_call 102;refine (zar _ _).mono ?_;rintro e w5 ⟨rfl,rfl⟩;rw [HG.out]))
   go_roundw
   case rel=>
    refine ⟨i+1,by omega,hd_ ?_⟩
    rw [show ((a+(i+1):Nat):Int)=(q:Int)+1 by have:=HQ.out;omega]
    exact (HT.out.drewN _).move _
   case measure=>
    have h5:=fun nd=>(((HT.out.drewN nd).move ((q:Int)+1)).sc).cells.2.1
    simp [h5,x1,intOf];have:=HQ.out;omega
  ·have HI:=hd_ hiz
   have q0:(a:Int)≤q:=by have:=HQ.out;omega
   have q2:(q:Int)≤s.size:=by omega
   have q3:0≤(a:Int):=by omega
   have q4:0≤(q:Int):=by omega
   have hqe:a+z=q:=by have:=HQ.out;omega
   have hext:s.extract a q=X:=by rw [← HXE.out,hqe]
   rw [hqe] at HC9
   clear hiz
   go_wp2_with (first | (go_at_call 79;refine (HC.out _ (by exact HT.out.sc)).mono ?_;rintro e w3 ⟨rfl,nn3,rfl⟩) | (go_at_call 101;refine (zap _ _).mono ?_;rintro e w4 ⟨rfl,rfl⟩;rw [HL.out]) | (go_at_call 102;refine (zar _ _).mono ?_;rintro e w5 ⟨rfl,rfl⟩;rw [HG.out]))
   go_quiet (fail)
   rcases hway with ⟨h35,rfl⟩ | ⟨h35,rfl,hk0⟩ | hno
   ·have e35:((c9.toNat:Int)==35)=true:=by simp [h35]
    have hq1:q+1≤s.size:=by
     have:=HP.out
     rcases Nat.lt_or_ge q s.size with h | h
     ·omega
     ·exfalso
      have h9:=C9E.out
      rw [hqe] at h9
      rw [zcD h] at h9
      rw [← h9] at h35
      exact absurd h35 (by decide)
    have hk0:=HT00.out rfl
    subst hk0
    have hbT:(X.toList==([84]:List UInt8))=true:=HBT.out
    obtain ⟨rt,hrt⟩:∃ rt,zbt s.data.toList (q+1)=rt:=⟨_,rfl⟩
    have hup:zeN a rt r:=by
     have h:=zdm s.data.toList a (z+1)
     have h3:=HTY.out h35 (.inr rfl)
     rw [if_pos (.inr rfl)] at h3
     rw [show a+(z+1)=q+1 by omega,hrt,h3] at h
     exact h
    have HTC:=hd_ (fun W (hW:ScB W b s ((q+1:Nat):Int))=>zgN (A:=(a:Int)) (r:=rt) HKK.out (.inl HBT.out) (by rw [if_pos (.inl HBT.out)];exact hrt) HS.out hq1 W hW)
    have HUP:=hd_ hup
    clear h35 hrt hup hqe hext
    go_upto_region 7 with fail
    go_cut [61] from 50 to 60 (fun v61 wx=>v61=.bool true∧TkS w b s (q:Int) 0 0 0 ⟨#[]⟩ a wx)
    case first=>
     go_wp2_with (first
      | (go_at_call 79;refine (HC9.out _ (by exact HT.out.sc)).mono ?_;rintro e w6 ⟨rfl,nn6,rfl⟩)
      | (go_at_call 103;refine (zbg HKK.out _).mono ?_;rintro e w7 ⟨rfl,hb7⟩;have HT7:Hid (TkS w b s (q:Int) 0 0 0 ⟨#[]⟩ a w7):=hd_ (by first | exact (HT.out.drewN _).below hb7 | exact ((HT.out.drewN _).drewN _).below hb7 | exact (((HT.out.drewN _).drewN _).drewN _).below hb7);clear hb7))
     go_meet
     exact ⟨rfl,by first | exact HT7.out | exact HT.out.drewN _ | exact (HT.out.drewN _).drewN _ | exact ((HT.out.drewN _).drewN _).drewN _⟩
    case rest=>
    clear hbT HBT HC9 c40 c41 c42 c43 c44 f40 f41 f42 f43 f44 c60 c61 c62 c63 c64 f60 f61 f62 f63 f64 x0 x1 g0 g1 hbl hq1
    obtain ⟨rfl,hT7⟩:=hcut
    have HT7:=hd_ hT7
    clear hT7 HT
    obtain ⟨c40,c41,c42,c43,c44,f40,f41,f42,f43,f44⟩:=blk5 HT7.out.tk;obtain ⟨c60,c61,c62,c63,c64,f60,f61,f62,f63,f64⟩:=blk5 HT7.out.an
    obtain ⟨x0,x1,g0,g1⟩:=HT7.out.sc.cells
    have hbl:=HT7.out.sc.lt
    go_wp2_with fail
    refine (HTC.out _ (by rw [show ((q+1:Nat):Int)=(q:Int)+1 by omega];exact (HT7.out.move _).sc)).mono ?_
    rintro ev w8 hpost
    have hpost2:=zjS HUP.out hpost
    obtain ⟨p1,p2,p3⟩:=hpost2
    have hon:Only b w w8:=(HT7.out.move ((q:Int)+1)).on.trans p3
    have han:=p3.at (HT7.out.move ((q:Int)+1)).an (by have:=HT7.out.lt;omega)
    obtain ⟨y0,y1,y2,y3,y4,k0,k1,k2,k3,k4⟩:=blk5 han
    have HON:=hd_ hon
    obtain ⟨⟨tk,kd,nn,tx,ta⟩,sz,er⟩:=r
    clear hpost p3 hon han c40 c41 c42 c43 c44 f40 f41 f42 f43 f44 c60 c61 c62 c63 c64 f60 f61 f62 f63 f64 x0 x1 g0 g1 hbl HT7
    by_cases her:er=0
    ·subst her
     obtain ⟨rfl,hsc⟩:=p1 rfl
     have HSC:=hd_ hsc
     clear p1 p2 hsc
     simp only [tokV]
     go_wp2
     refine bodyPost_ret (v:=.tuple #[tokV ⟨tk,kd,nn,tx,a⟩,.int .i64 0]) (by simp [results,Tryz.results80,go_sem,tokV,upBy, *]) rfl ?_
     exact ⟨fun _=>⟨rfl,(by (repeat (refine ScB.setFar ?_ (by omega) _ _));exact HSC.out)⟩,fun h=>absurd rfl h,(by (repeat (refine Only.setFar ?_ (by omega) _ _));exact HON.out)⟩
    ·obtain ⟨z1,z2,z3,z4,rfl⟩:=p2 her
     clear p1 p2
     have HER:=hd_ her
     clear her
     go_wp2
     refine bodyPost_ret (v:=.tuple #[.agg #[.int .i64 z1,.int .i64 z2,.int .i64 z3,.string z4,.int .i64 a],.int .i64 er]) (by simp [results,Tryz.results80,go_sem,upBy, *]) rfl ?_
     exact ⟨fun h=>absurd h HER.out,fun _=>⟨z1,z2,z3,z4,rfl⟩,(by (repeat (refine Only.setFar ?_ (by omega) _ _));exact HON.out)⟩
   ·have e35:((c9.toNat:Int)==35)=true:=by simp [h35]
    have hq1:q+1≤s.size:=by
     have:=HP.out
     rcases Nat.lt_or_ge q s.size with h | h
     ·omega
     ·exfalso
      have h9:=C9E.out
      rw [hqe] at h9
      rw [zcD h] at h9
      rw [← h9] at h35
      exact absurd h35 (by decide)
    have hbT:(X.toList==([84]:List UInt8))=false:=HBT.out
    have ek0:((k:Int) != 0)=true:=by simp;omega
    obtain ⟨rt,hrt⟩:∃ rt,(if (X.toList==[84])=true∨k=11 then zbt s.data.toList (q+1) else zaL s.data.toList (q+1) k)=rt:=⟨_,rfl⟩
    have hup:zeN a rt r:=by
     have h1:=zdm s.data.toList a (z+1)
     have h2:=zgi s.data.toList a (z+1) k
     have h3:=HTY.out h35 (.inl hk0)
     rw [show a+(z+1)=q+1 by omega] at h1 h2
     rw [HBT.out] at hrt
     by_cases h11:k=11
     ·rw [if_pos (.inr h11)] at hrt
      rw [if_pos (.inl h11)] at h3
      rw [hrt,h3] at h1
      exact h1
     ·rw [if_neg (by simp [h11])] at hrt
      rw [if_neg (by omega)] at h3
      rw [hrt,h3] at h2
      exact h2
    have HTC:=hd_ (fun W (hW:ScB W b s ((q+1:Nat):Int))=>zgN (A:=(a:Int)) (r:=rt) HKK.out (.inr ⟨HBT.out,hk0⟩) hrt HS.out hq1 W hW)
    clear hk0
    have HUP:=hd_ hup
    clear h35 hrt hup hqe hext
    go_upto_region 7 with fail
    go_cut [61] from 50 to 60 (fun v61 wx=>v61=.bool true∧TkS w b s (q:Int) 0 0 0 ⟨#[]⟩ a wx)
    case first=>
     go_wp2_with (first
      | (go_at_call 79;refine (HC9.out _ (by exact HT.out.sc)).mono ?_;rintro e w6 ⟨rfl,nn6,rfl⟩)
      | (go_at_call 103;refine (zbg HKK.out _).mono ?_;rintro e w7 ⟨rfl,hb7⟩;have HT7:Hid (TkS w b s (q:Int) 0 0 0 ⟨#[]⟩ a w7):=hd_ (by first | exact (HT.out.drewN _).below hb7 | exact ((HT.out.drewN _).drewN _).below hb7 | exact (((HT.out.drewN _).drewN _).drewN _).below hb7);clear hb7))
     go_meet
     exact ⟨rfl,by first | exact HT7.out | exact HT.out.drewN _ | exact (HT.out.drewN _).drewN _ | exact ((HT.out.drewN _).drewN _).drewN _⟩
    case rest=>
    clear hbT HBT HC9 c40 c41 c42 c43 c44 f40 f41 f42 f43 f44 c60 c61 c62 c63 c64 f60 f61 f62 f63 f64 x0 x1 g0 g1 hbl hq1
    obtain ⟨rfl,hT7⟩:=hcut
    have HT7:=hd_ hT7
    clear hT7 HT
    obtain ⟨c40,c41,c42,c43,c44,f40,f41,f42,f43,f44⟩:=blk5 HT7.out.tk;obtain ⟨c60,c61,c62,c63,c64,f60,f61,f62,f63,f64⟩:=blk5 HT7.out.an
    obtain ⟨x0,x1,g0,g1⟩:=HT7.out.sc.cells
    have hbl:=HT7.out.sc.lt
    go_wp2_with fail
    refine (HTC.out _ (by rw [show ((q+1:Nat):Int)=(q:Int)+1 by omega];exact (HT7.out.move _).sc)).mono ?_
    rintro ev w8 hpost
    have hpost2:=zjS HUP.out hpost
    obtain ⟨p1,p2,p3⟩:=hpost2
    have hon:Only b w w8:=(HT7.out.move ((q:Int)+1)).on.trans p3
    have han:=p3.at (HT7.out.move ((q:Int)+1)).an (by have:=HT7.out.lt;omega)
    obtain ⟨y0,y1,y2,y3,y4,k0,k1,k2,k3,k4⟩:=blk5 han
    have HON:=hd_ hon
    obtain ⟨⟨tk,kd,nn,tx,ta⟩,sz,er⟩:=r
    clear hpost p3 hon han c40 c41 c42 c43 c44 f40 f41 f42 f43 f44 c60 c61 c62 c63 c64 f60 f61 f62 f63 f64 x0 x1 g0 g1 hbl HT7
    by_cases her:er=0
    ·subst her
     obtain ⟨rfl,hsc⟩:=p1 rfl
     have HSC:=hd_ hsc
     clear p1 p2 hsc
     simp only [tokV]
     go_wp2
     refine bodyPost_ret (v:=.tuple #[tokV ⟨tk,kd,nn,tx,a⟩,.int .i64 0]) (by simp [results,Tryz.results80,go_sem,tokV,upBy, *]) rfl ?_
     exact ⟨fun _=>⟨rfl,(by (repeat (refine ScB.setFar ?_ (by omega) _ _));exact HSC.out)⟩,fun h=>absurd rfl h,(by (repeat (refine Only.setFar ?_ (by omega) _ _));exact HON.out)⟩
    ·obtain ⟨z1,z2,z3,z4,rfl⟩:=p2 her
     clear p1 p2
     have HER:=hd_ her
     clear her
     go_wp2
     refine bodyPost_ret (v:=.tuple #[.agg #[.int .i64 z1,.int .i64 z2,.int .i64 z3,.string z4,.int .i64 a],.int .i64 er]) (by simp [results,Tryz.results80,go_sem,upBy, *]) rfl ?_
     exact ⟨fun h=>absurd h HER.out,fun _=>⟨z1,z2,z3,z4,rfl⟩,(by (repeat (refine Only.setFar ?_ (by omega) _ _));exact HON.out)⟩
   ·have hr2:=HRE.out (by rcases hno with ⟨h1,h2,h3⟩ | h <;> simp_all)
    have hbk:(bT=true→k=0):=HT00.out
    have HR2:=hd_ hr2
    obtain ⟨d1,hd1⟩:∃ d,(X.toList==zbs)=d:=⟨_,rfl⟩
    obtain ⟨d2,hd2⟩:∃ d,(X.toList==zbw)=d:=⟨_,rfl⟩
    obtain ⟨d3,hd3⟩:∃ d,zhm X=d:=⟨_,rfl⟩
    have HD1:=hd_ hd1
    have HD2:=hd_ hd2
    have HD3:=hd_ hd3
    have hd1':(X.toList==([84,82,85,69]:List UInt8))=d1:=hd1
    have hd2':(X.toList==([70,65,76,83,69]:List UInt8))=d2:=hd2
    have hbT:(X.toList==([84]:List UInt8))=bT:=HBT.out
    have hres:(d1=true)∨(d1=false∧d2=true)∨(d1=false∧d2=false∧d3=true)∨(d1=false∧d2=false∧d3=false∧32 < z)∨(d1=false∧d2=false∧d3=false∧z≤32):=by cases d1 <;> cases d2 <;> cases d3 <;> simp;omega
    clear hr2 hd1 hd2 hd3 hqe hext
    have hsharp:(((c9.toNat:Int)==35)=true∧bT=false∧k=0)∨((c9.toNat:Int)==35)=false:=by
     rcases hno with ⟨h1,h2,h3⟩ | h
     ·exact .inl ⟨by simp [h1],h2,h3⟩
     ·right;simp;omega
    clear hno hbk
    clear HT00 HTY HRE C9E
    go_upto_region 7 with fail
    go_cut [61] from 50 to 60 (fun v61 wx=>v61=.bool false∧TkS w b s (q:Int) 0 0 0 ⟨#[]⟩ a wx)
    case first=>
     rcases hsharp with ⟨e35,rfl,rfl⟩ | e35
     all_goals
      go_wp2_with (first
       | (go_at_call 79;refine (HC9.out _ (by exact HT.out.sc)).mono ?_;rintro e w6 ⟨rfl,nn6,rfl⟩)
       | (go_at_call 103;refine (zbg HKK.out _).mono ?_;rintro e w7 ⟨rfl,hb7⟩;have HT7:Hid (TkS w b s (q:Int) 0 0 0 ⟨#[]⟩ a w7):=hd_ (by first | exact (HT.out.drewN _).below hb7 | exact ((HT.out.drewN _).drewN _).below hb7 | exact (((HT.out.drewN _).drewN _).drewN _).below hb7);clear hb7))
      go_meet
      exact ⟨rfl,by first | exact HT7.out | exact HT.out.drewN _ | exact (HT.out.drewN _).drewN _ | exact ((HT.out.drewN _).drewN _).drewN _⟩
    case rest=>
    clear hsharp hbT HBT HKK HC9 c40 c41 c42 c43 c44 f40 f41 f42 f43 f44 c60 c61 c62 c63 c64 f60 f61 f62 f63 f64 x0 x1 g0 g1 hbl
    obtain ⟨rfl,hT7⟩:=hcut
    have HT7:=hd_ hT7
    clear hT7 HT
    obtain ⟨c40,c41,c42,c43,c44,f40,f41,f42,f43,f44⟩:=blk5 HT7.out.tk;obtain ⟨c60,c61,c62,c63,c64,f60,f61,f62,f63,f64⟩:=blk5 HT7.out.an
    obtain ⟨x0,x1,g0,g1⟩:=HT7.out.sc.cells
    have hbl:=HT7.out.sc.lt
    rcases hres with rfl | ⟨rfl,rfl⟩ | ⟨rfl,rfl,rfl⟩ | ⟨rfl,rfl,rfl,hz⟩ | ⟨rfl,rfl,rfl,hz⟩
    ·go_wp2_with (go_at_call 105;refine (zcP HD3.out _).mono ?_;rintro e w10 ⟨rfl,hb10⟩;have HT10:Hid (TkS w b s (q:Int) 0 0 0 X a w10):=hd_ ((HT7.out.set3 X).below hb10);clear hb10 c40 c41 c42 c43 c44 f40 f41 f42 f43 f44 c60 c61 c62 c63 c64 f60 f61 f62 f63 f64 x0 x1 g0 g1 hbl;obtain ⟨c40,c41,c42,c43,c44,f40,f41,f42,f43,f44⟩:=blk5 HT10.out.tk;obtain ⟨c60,c61,c62,c63,c64,f60,f61,f62,f63,f64⟩:=blk5 HT10.out.an;obtain ⟨x0,x1,g0,g1⟩:=HT10.out.sc.cells;have hbl:=HT10.out.sc.lt)
     have hqz:a+z=q:=by have:=HQ.out;have:=HI.out;omega
     refine bodyPost_ret (v:=.tuple #[.agg #[.int .i64 3,.int .i64 1,.int .i64 1,.string ⟨#[]⟩,.int .i64 a],.int .i64 0]) (by simp [results,Tryz.results80,go_sem, *]) rfl ?_
     exact zhP (tx:=⟨#[]⟩) (q:=q) (by rw [← HR2.out];unfold za7;rw [if_pos HD1.out];simp only [upBy,hqz]) (by (repeat (refine Only.setFar ?_ (by omega) _ _));exact HT7.out.on) (by (repeat (refine ScB.setFar ?_ (by omega) _ _));exact HT7.out.sc)
    ·go_wp2_with (go_at_call 105;refine (zcP HD3.out _).mono ?_;rintro e w10 ⟨rfl,hb10⟩;have HT10:Hid (TkS w b s (q:Int) 0 0 0 X a w10):=hd_ ((HT7.out.set3 X).below hb10);clear hb10 c40 c41 c42 c43 c44 f40 f41 f42 f43 f44 c60 c61 c62 c63 c64 f60 f61 f62 f63 f64 x0 x1 g0 g1 hbl;obtain ⟨c40,c41,c42,c43,c44,f40,f41,f42,f43,f44⟩:=blk5 HT10.out.tk;obtain ⟨c60,c61,c62,c63,c64,f60,f61,f62,f63,f64⟩:=blk5 HT10.out.an;obtain ⟨x0,x1,g0,g1⟩:=HT10.out.sc.cells;have hbl:=HT10.out.sc.lt)
     have hqz:a+z=q:=by have:=HQ.out;have:=HI.out;omega
     refine bodyPost_ret (v:=.tuple #[.agg #[.int .i64 3,.int .i64 1,.int .i64 0,.string ⟨#[]⟩,.int .i64 a],.int .i64 0]) (by simp [results,Tryz.results80,go_sem, *]) rfl ?_
     exact zhP (tx:=⟨#[]⟩) (q:=q) (by rw [← HR2.out];unfold za7;rw [if_neg (by rw [HD1.out];simp),if_pos HD2.out];simp only [upBy,hqz]) (by (repeat (refine Only.setFar ?_ (by omega) _ _));exact HT7.out.on) (by (repeat (refine ScB.setFar ?_ (by omega) _ _));exact HT7.out.sc)
    ·go_wp2_with (go_at_call 105;refine (zcP HD3.out _).mono ?_;rintro e w10 ⟨rfl,hb10⟩;have HT10:Hid (TkS w b s (q:Int) 0 0 0 X a w10):=hd_ ((HT7.out.set3 X).below hb10);clear hb10 c40 c41 c42 c43 c44 f40 f41 f42 f43 f44 c60 c61 c62 c63 c64 f60 f61 f62 f63 f64 x0 x1 g0 g1 hbl;obtain ⟨c40,c41,c42,c43,c44,f40,f41,f42,f43,f44⟩:=blk5 HT10.out.tk;obtain ⟨c60,c61,c62,c63,c64,f60,f61,f62,f63,f64⟩:=blk5 HT10.out.an;obtain ⟨x0,x1,g0,g1⟩:=HT10.out.sc.cells;have hbl:=HT10.out.sc.lt)
     have hqz:a+z=q:=by have:=HQ.out;have:=HI.out;omega
     refine bodyPost_ret (v:=.tuple #[.agg #[.int .i64 1,.int .i64 0,.int .i64 0,.string X,.int .i64 a],.int .i64 0]) (by simp [results,Tryz.results80,go_sem, *]) rfl ?_
     exact zhP (q:=q) (by rw [← HR2.out];unfold za7;rw [if_neg (by rw [HD1.out];simp),if_neg (by rw [HD2.out];simp),if_pos HD3.out];simp only [upBy,hqz]) (by (repeat (refine Only.setFar ?_ (by omega) _ _));exact HT10.out.on) (by (repeat (refine ScB.setFar ?_ (by omega) _ _));exact HT10.out.sc)
    ·have hz2:32 < (X.size:Int):=by omega
     go_wp2_with (go_at_call 105;refine (zcP HD3.out _).mono ?_;rintro e w10 ⟨rfl,hb10⟩;have HT10:Hid (TkS w b s (q:Int) 0 0 0 X a w10):=hd_ ((HT7.out.set3 X).below hb10);clear hb10 c40 c41 c42 c43 c44 f40 f41 f42 f43 f44 c60 c61 c62 c63 c64 f60 f61 f62 f63 f64 x0 x1 g0 g1 hbl;obtain ⟨c40,c41,c42,c43,c44,f40,f41,f42,f43,f44⟩:=blk5 HT10.out.tk;obtain ⟨c60,c61,c62,c63,c64,f60,f61,f62,f63,f64⟩:=blk5 HT10.out.an;obtain ⟨x0,x1,g0,g1⟩:=HT10.out.sc.cells;have hbl:=HT10.out.sc.lt)
     refine bodyPost_ret (v:=.tuple #[.agg #[.int .i64 0,.int .i64 0,.int .i64 0,.string X,.int .i64 a],.int .i64 121]) (by simp [results,Tryz.results80,go_sem, *]) rfl ?_
     exact zbl (by rw [← HR2.out];unfold za7;rw [if_neg (by rw [HD1.out];simp),if_neg (by rw [HD2.out];simp),if_neg (by rw [HD3.out];simp),if_pos hz];rfl) (by decide) (by (repeat (refine Only.setFar ?_ (by omega) _ _));exact HT10.out.on)
    ·have hz2:(X.size:Int)≤32:=by omega
     go_wp2_with (go_at_call 105;refine (zcP HD3.out _).mono ?_;rintro e w10 ⟨rfl,hb10⟩;have HT10:Hid (TkS w b s (q:Int) 0 0 0 X a w10):=hd_ ((HT7.out.set3 X).below hb10);clear hb10 c40 c41 c42 c43 c44 f40 f41 f42 f43 f44 c60 c61 c62 c63 c64 f60 f61 f62 f63 f64 x0 x1 g0 g1 hbl;obtain ⟨c40,c41,c42,c43,c44,f40,f41,f42,f43,f44⟩:=blk5 HT10.out.tk;obtain ⟨c60,c61,c62,c63,c64,f60,f61,f62,f63,f64⟩:=blk5 HT10.out.an;obtain ⟨x0,x1,g0,g1⟩:=HT10.out.sc.cells;have hbl:=HT10.out.sc.lt)
     have hqz:a+z=q:=by have:=HQ.out;have:=HI.out;omega
     refine bodyPost_ret (v:=.tuple #[.agg #[.int .i64 2,.int .i64 0,.int .i64 0,.string X,.int .i64 a],.int .i64 0]) (by simp [results,Tryz.results80,go_sem, *]) rfl ?_
     exact zhP (q:=q) (by rw [← HR2.out];unfold za7;rw [if_neg (by rw [HD1.out];simp),if_neg (by rw [HD2.out];simp),if_neg (by rw [HD3.out];simp),if_neg (by omega)];simp only [upBy,hqz]) (by (repeat (refine Only.setFar ?_ (by omega) _ _));exact HT10.out.on) (by (repeat (refine ScB.setFar ?_ (by omega) _ _));exact HT10.out.sc)
end Go.Proofs.YtdpkjpjkdmkkpaaGreatDoor
