/- The reference's parser, weakly: that it stays within the tokens and keeps the memory; its small functions. -/
import Derived.Test.YtdpkjpjkdmkkpaaGreatDoorMM
set_option maxRecDepth 100000
set_option maxHeartbeats 16000000
namespace Go.Proofs.YtdpkjpjkdmkkpaaGreatDoor
open Go.RowKit Lx Pa
structure Mv (ts:List Tok) (c:Nat) (s s':PS):Prop where
 good:∀ k,Pa.Good ts k s→Pa.Good ts (k+c) s'
 err:s.err≠0→s'.err≠0
 le:s.i≤s'.i
section
variable {ts:List Tok} {c d k:Nat} {s s1 s2 s':PS}
theorem Mv.refl (ts:List Tok) (s:PS):Mv ts 0 s s:=⟨fun _ h=>h,fun h=>h,Nat.le_refl _⟩
theorem Mv.mono (h:Mv ts c s s') (hc:c≤d):Mv ts d s s':=⟨fun k hk=>(h.good k hk).mono (by omega),h.err,h.le⟩
theorem Mv.trans (h:Mv ts c s s1) (h2:Mv ts d s1 s2):Mv ts (c+d) s s2:=
 ⟨fun k hk=>(h2.good _ (h.good k hk)).mono (by omega),fun h0=>h2.err (h.err h0),lt_ h.le h2.le⟩
theorem Mv.zero (h:Mv ts c s s1) (h0:s1.err=0):Mv ts 0 s s1:=⟨fun k hk=>((h.good k hk).zero h0).mono (by omega),h.err,h.le⟩
theorem Mv.up (he:zaE ts) (ht:(T ts s).tok≠0):Mv ts 0 s (Pa.up s):=⟨fun _ h=>h.up he ht,fun h=>h,by show s.i≤s.i+1;omega⟩
theorem Mv.must (he:zaE ts) (x:List UInt8):Mv ts 0 s (Pa.must ts s x):=by
 refine ⟨fun _ h=>h.must he x,fun h0=>?_,?_⟩
 ·unfold Pa.must
  split
  ·exact h0
  ·unfold fail;rw [if_neg h0];exact h0
 ·unfold Pa.must
  split
  ·show s.i≤s.i+1;omega
  ·unfold fail;split <;> exact Nat.le_refl _
theorem Mv.fail {a e:Int} (h0:e≠0):Mv ts 0 s (Pa.fail s a e):=by
 refine ⟨fun _ h=>(h.fail a e h0).1,fun h1=>?_,?_⟩
 ·unfold Pa.fail;rw [if_neg h1];exact h1
 ·unfold Pa.fail;split <;> exact Nat.le_refl _
theorem zfn {a e:Int} (h0:e≠0):(Pa.fail s a e).err≠0:=by
 unfold Pa.fail
 split
 ·exact h0
 ·rename_i h;exact h
theorem Mv.name (he:zaE ts):Mv ts 1 s (Pa.name ts s):=by
 refine ⟨fun _ h=>h.name he,fun h0=>?_,?_⟩
 ·unfold Pa.name
  split
  ·exact h0
  ·exact zfn (by decide)
 ·unfold Pa.name Pa.up
  split
  ·show s.i≤s.i+1;omega
  ·have:=(Mv.fail (ts:=ts) (s:=s) (a:=(T ts s).at_) (e:=130) (by decide)).le
   show s.i≤_+1;omega
theorem zme:s.i < (Pa.name ts s).i:=by
 unfold Pa.name Pa.up
 split
 ·show s.i < s.i+1;omega
 ·have:=(Mv.fail (ts:=ts) (s:=s) (a:=(T ts s).at_) (e:=130) (by decide)).le
  show s.i < _+1;omega
theorem Mv.literal (he:zaE ts):Mv ts 0 s (Pa.literal ts s).2∧(s.i < (Pa.literal ts s).2.i∨(Pa.literal ts s).2.err≠0):=by
 unfold Pa.literal
 split
 ·rename_i h
  exact ⟨Mv.up he (zjN h),.inl (by show s.i < s.i+1;omega)⟩
 ·exact ⟨Mv.fail (by decide),.inr (zfn (by decide))⟩
theorem Mv.lit (he:zaE ts):Mv ts 0 s (Pa.lit ts s).2∧(s.i < (Pa.lit ts s).2.i∨(Pa.lit ts s).2.err≠0):=by
 unfold Pa.lit
 split
 ·rename_i h
  have h1:=Mv.up he (za2 h)
  have h2:Mv ts 0 (Pa.up s) (if (T ts (Pa.up s)).tok=3 then Pa.up s else Pa.fail (Pa.up s) (T ts (Pa.up s)).at_ 130):=by
   split
   ·exact Mv.refl _ _
   ·exact Mv.fail (by decide)
  have h3:=Mv.literal (s:=if (T ts (Pa.up s)).tok=3 then Pa.up s else Pa.fail (Pa.up s) (T ts (Pa.up s)).at_ 130) he
  exact ⟨(h1.trans h2).trans h3.1,.inl (ll_ (by show s.i < s.i+1;omega) (lt_ h2.le h3.1.le))⟩
 ·exact Mv.literal he
theorem Mv.eat (he:zaE ts) {x:List UInt8} {r:Bool} (h:Pa.eat ts s x=(r,s')):Mv ts 0 s s'∧(r=true→s.err=0∧s'.err=0∧s'.i=s.i+1)∧(r=false→s'=s):=by
 unfold Pa.eat at h
 split at h
 ·rename_i h1
  injection h with h2 h3
  subst h2 h3
  refine ⟨Mv.up he (za2 h1),fun _=>?_,fun h=>by cases h⟩
  unfold is at h1
  simp only [Bool.and_eq_true,decide_eq_true_eq] at h1
  exact ⟨h1.1.1,h1.1.1,rfl⟩
 ·injection h with h2 h3
  subst h2 h3
  exact ⟨Mv.refl _ _,fun h=>by (cases h),fun _=>rfl⟩
end
def zfd (w:World) (b g cap:Nat) (ts:List Tok) (s:PS) (c:Nat) (V:Value→Prop) (e:Ending) (w':World):Prop:=
 ∃ v s',e=.returned v∧V v∧Mv ts c s s'∧Only b w w'∧Par w' b g cap ts s'
def ExV (v:Value):Prop:=∃ op kd n nm fl a ln c ta,v=.agg #[.int .i64 op,.int .i64 kd,.int .i64 n,.string nm,.string fl,.slice a ln c,.int .i64 ta]
theorem zl1 (l:Pa.Lit):ExV (litV l):=⟨_,_,_,_,_,_,_,_,_,rfl⟩
section
variable {b g cap k:Nat} {ts:List Tok} {s:PS} {w:World}
theorem zat (h:Pa.Good ts k s) (hk:k≤50000) (hx:Par w b g cap ts s):s.i≤200000:=by have:=h.2;have:=hx.le;omega
theorem zan (x:ByteArray) (hg:Pa.Good ts k s) (hk:k≤50000) (hx:Par w b g cap ts s) :
  Calls Tryz.prog 51 #[.pointer (some ⟨b,0,none⟩),.string x] w (zfd w b g cap ts s 0 (fun v=>v=.tuple #[])):=
 (zaD rfl hg.1 (zat hg hk hx) w hx).mono fun _ _ ⟨he,ho,hp⟩=>⟨_,_,he,rfl,Mv.must hx.ends _,ho,hp⟩
theorem zb8 (hg:Pa.Good ts k s) (hk:k≤50000) (hx:Par w b g cap ts s) :
  Calls Tryz.prog 84 #[.pointer (some ⟨b,0,none⟩)] w fun e w'=>∃ tk kd nn tx ta s',e=.returned (.agg #[.int .i64 tk,.int .i64 kd,.int .i64 nn,.string tx,.int .i64 ta])∧Mv ts 1 s s'∧s.i < s'.i∧Only b w w'∧Par w' b g cap ts s':=
 (zcr rfl rfl hg.1 (zat hg hk hx) w hx).mono fun _ _ ⟨he,ho,hp⟩=>⟨_,_,_,_,_,_,he,Mv.name hx.ends,zme,ho,hp⟩
theorem zcb (hg:Pa.Good ts k s) (hx:Par w b g cap ts s) :
  Calls Tryz.prog 53 #[.pointer (some ⟨b,0,none⟩)] w fun e w'=>∃ tk kd nn tx ta,e=.returned (.agg #[.int .i64 tk,.int .i64 kd,.int .i64 nn,.string ⟨tx.toArray⟩,.int .i64 ta])∧T ts s=⟨tk,kd,nn,tx,ta⟩∧Below w.heap.size w w':=
 (zbH rfl hg.1 w hx).mono fun _ _ ⟨he,hb⟩=>⟨_,_,_,_,_,he,rfl,hb⟩
theorem zaO (x:ByteArray) (hg:Pa.Good ts k s) (hk:k≤50000) (hx:Par w b g cap ts s) :
  Calls Tryz.prog 82 #[.pointer (some ⟨b,0,none⟩),.string x] w fun e w'=>∃ r s',e=.returned (.bool r)∧(Mv ts 0 s s'∧(r=true→s.err=0∧s'.err=0∧s'.i=s.i+1)∧(r=false→s'=s))∧Only b w w'∧Par w' b g cap ts s':=by
 obtain ⟨p,hp⟩:∃ p,Pa.eat ts s x.data.toList=p:=⟨_,rfl⟩
 obtain ⟨r,s'⟩:=p
 exact (zbr hp hg.1 (zat hg hk hx) w hx).mono fun _ _ ⟨he,ho,hq⟩=>⟨r,s',he,Mv.eat hx.ends hp,ho,hq⟩
theorem zb7 {a e:Int} (h0:e≠0) (hx:Par w b g cap ts s) :
  Calls Tryz.prog 54 #[.pointer (some ⟨b,0,none⟩),.int .i64 a,.int .i64 e] w fun ev w'=>∃ s',ev=.returned (.tuple #[])∧(Mv ts 0 s s'∧s'.err≠0)∧Only b w w'∧Par w' b g cap ts s':=
 (za1 rfl w hx).mono fun _ _ ⟨he,ho,hp⟩=>⟨_,he,⟨Mv.fail h0,zfn h0⟩,ho,hp⟩
theorem zhs (hg:Pa.Good ts k s) (hk:k≤50000) (hx:Par w b g cap ts s) :
  Calls Tryz.prog 126 #[.pointer (some ⟨b,0,none⟩)] w (zfd w b g cap ts s 0 ExV):=by
 obtain ⟨p,hp⟩:∃ p,Pa.literal ts s=p:=⟨_,rfl⟩
 obtain ⟨l,s'⟩:=p
 refine (zb6 hp (hg.mono hk) w hx).mono fun _ _ ⟨he,ho,hq⟩=>⟨_,s',he,zl1 l,?_,ho,hq⟩
 have h:=(Mv.literal (s:=s) hx.ends).1
 rw [hp] at h
 exact h
theorem znd {W:World} {P:Nat→Prop} {x:Ex} {row:List Value} (h:zaX W P x row):ExV (.agg row.toArray):=by
 obtain ⟨op,kind,n,nm,fl,l,ta⟩:=x
 rw [zaX] at h
 obtain ⟨v,cs,rfl,h2,_⟩:=h
 rcases h2 with ⟨_,_,rfl⟩ | ⟨a,c,rfl,_⟩
 ·exact ⟨_,_,_,_,_,_,_,_,_,rfl⟩
 ·exact ⟨_,_,_,_,_,_,_,_,_,rfl⟩
theorem zfC (hg:Pa.Good ts k s) (hk:k≤50000) (hx:Par w b g cap ts s) :
  Calls Tryz.prog 115 #[.pointer (some ⟨b,0,none⟩)] w fun e w'=>∃ v s',e=.returned v∧ExV v∧Mv ts 0 s s'∧(s.i < s'.i∨s'.err≠0)∧Only b w w'∧Par w' b g cap ts s':=by
 obtain ⟨p,hp⟩:∃ p,Pa.lit ts s=p:=⟨_,rfl⟩
 obtain ⟨n,s'⟩:=p
 have h:=Mv.lit (s:=s) hx.ends
 rw [hp] at h
 refine (zjR hp (hg.mono hk) w hx).mono fun _ _ ⟨row,he,hv,ho,hq⟩=>⟨_,s',he,znd hv,h.1,h.2,ho,hq⟩
end
end Go.Proofs.YtdpkjpjkdmkkpaaGreatDoor
namespace Go.Proofs.YtdpkjpjkdmkkpaaGreatDoor
open Go.RowKit Lx Pa
def zjc (deep:Int):Prop:=∀ (b g cap k:Nat) (ts:List Tok) (s:PS) (_:Pa.Good ts k s) (_:k≤49000) (w:World) (_:Par w b g cap ts s),
 Calls Tryz.prog 114 #[.pointer (some ⟨b,0,none⟩),.int .i64 deep] w (zfd w b g cap ts s 1 ExV)
def VarC (deep:Int):Prop:=∀ (b g cap k:Nat) (ts:List Tok) (s:PS) (_:Pa.Good ts k s) (_:k≤49000) (w:World) (_:Par w b g cap ts s),
 Calls Tryz.prog 129 #[.pointer (some ⟨b,0,none⟩),.int .i64 deep] w fun e w'=>∃ v s',e=.returned v∧ExV v∧(Mv ts 1 s s'∧s.i < s'.i)∧Only b w w'∧Par w' b g cap ts s'
theorem zjV {deep:Int} (h0:0≤deep) (h9:deep≤1000) (hE:zjc (deep+1)):VarC deep:=by
 intro b g cap k ts s hg hk w hx
 have F0:=hd_ (Fr.start hx)
 have HG:=hd_ hg
 have n1:w.heap.size≠b:=by have:=hx.pb.lt;omega
 have HEX:=hd_ hE
 have hf3:=zdg
 have hwd:IntKind.i64.wrap (deep+1)=deep+1:=IntWalk.i64_in _ (by omega)
 clear hg hx hE
 go_enter Tryz.func129,Tryz.ntmps129
 go_wp2_with fail
 refine (zb8 HG.out (by omega) (F0.out.alloc _).par).mono ?_
 rintro e w1 ⟨tk,kd,nn,tx,ta,s1,rfl,hm,hlt,ho,hp⟩
 have F1:=hd_ ((F0.out.alloc _).call ho hp)
 have R1:=hd_ ((Bl.new w #[.int .i64 0,.int .i64 0,.int .i64 0,.string ⟨#[]⟩,.string ⟨#[]⟩,.slice none 0 0,.int .i64 0] 112).only ho n1)
 have M1:=hd_ hm
 have L1:Hid (s.i < s1.i):=hd_ hlt
 clear hm hlt ho hp F0
 go_upto_region 3 with fail
 refine zaa (P:=Code.wp _ _ _ _) (F:=fun W=>Fr w b g cap ts s1 W∧Bl W w.heap.size #[.int .i64 0,.int .i64 0,.int .i64 0,.string ⟨#[]⟩,.string ⟨#[]⟩,.slice none 0 0,.int .i64 0] 112∧Bl W (w1.heap.size+1) #[.int .i64 2,.int .i64 0,.int .i64 0,.string tx,.string ⟨#[]⟩,.slice none 0 0,.int .i64 ta] 112)
  ⟨(F1.out.alloc _).alloc _,(R1.out.alloc _).alloc _,Bl.newAt _ (by simp)⟩ ?_
 have hY0:w.heap.size < w1.heap.size+1:=by have:=F1.out.size;omega
 have hY1:w1.heap.size+1≠b:=by have:=F1.out.size;have:=F1.out.lt.1;omega
 intro w2 ⟨F2,R2,E2⟩
 obtain ⟨Y,hY⟩:∃ Y,w1.heap.size+1=Y:=⟨_,rfl⟩
 rw [hY] at E2 hY0 hY1 ⊢
 clear hY F1 R1
 have F2:=hd_ F2
 have R2:=hd_ R2
 have E2:=hd_ E2
 go_wp2_with fail
 refine (zaO ⟨#[46]⟩ (M1.out.good k HG.out) (by omega) F2.out.par).mono ?_
 rintro e w3 ⟨r,s3,rfl,⟨hm,ht,hf⟩,ho,hp⟩
 have F3:=hd_ (F2.out.call ho hp)
 have R3:=hd_ (R2.out.only ho n1)
 have E3:=hd_ (E2.out.only ho hY1)
 clear ho hp F2 R2 E2
 cases r with
 | true=>
  have M3:=hd_ ((M1.out.trans hm).zero (ht rfl).2.1)
  have L3:Hid (s.i < s3.i):=hd_ (ll_ L1.out hm.le)
  clear hm ht hf M1 L1
  go_wp2_with fail
  refine (zb8 (M3.out.good k HG.out) (by omega) F3.out.par).mono ?_
  rintro e w4 ⟨tk4,kd4,nn4,tx4,ta4,s4,rfl,hm,hlt,ho,hp⟩
  have F4:=hd_ (F3.out.call ho hp)
  have R4:=hd_ (R3.out.only ho n1)
  have E4:=hd_ (E3.out.only ho hY1)
  have M4:=hd_ (M3.out.trans hm)
  have L4:Hid (s.i < s4.i):=hd_ (Nat.lt_trans L3.out hlt)
  clear hm hlt ho hp F3 R3 E3 M3 L3
  obtain ⟨-,-,-,-,q4,-,-⟩:=E4.out.cells7
  obtain ⟨-,-,-,-,f4,-,-⟩:=E4.out.free7
  have k3:=E4.out.lt
  go_upto_region 8 with fail
  refine zaa (P:=Code.wp _ _ _ _) (F:=fun W=>Fr w b g cap ts s4 W∧Bl W w.heap.size #[.int .i64 0,.int .i64 0,.int .i64 0,.string ⟨#[]⟩,.string ⟨#[]⟩,.slice none 0 0,.int .i64 0] 112∧Bl W Y #[.int .i64 2,.int .i64 0,.int .i64 0,.string tx,.string tx4,.slice none 0 0,.int .i64 ta] 112)
   ⟨F4.out.far (X:=Y) (by omega) _ _,R4.out.other (Y:=Y) (by omega) _ _,by simpa using E4.out.set 4 (.string tx4)⟩ ?_
  clear q4 f4 k3 F4 R4 E4
  intro w5 ⟨F5,R5,E5⟩
  have F5:=hd_ F5
  have R5:=hd_ R5
  have E5:=hd_ E5
  obtain ⟨q0,q1,q2,q3,q4,q5,q6⟩:=E5.out.cells7
  obtain ⟨r0,r1,r2,r3,r4,r5,r6⟩:=R5.out.cells7
  obtain ⟨g0,g1,g2,g3,g4,g5,g6⟩:=R5.out.free7
  have k2:=R5.out.lt
  have k3:=E5.out.lt
  go_wp2_with fail
  refine zaa (P:=bodyPost _ _ _ _ _) (F:=fun W=>Fr w b g cap ts s4 W∧Bl W w.heap.size #[.int .i64 2,.int .i64 0,.int .i64 0,.string tx,.string tx4,.slice none 0 0,.int .i64 ta] 112)
   ⟨((((((F5.out.far nl_ _ _).far nl_ _ _).far nl_ _ _).far nl_ _ _).far nl_ _ _).far nl_ _ _).far nl_ _ _,R5.out.set7⟩ ?_
  clear q0 q1 q2 q3 q4 q5 q6 r0 r1 r2 r3 r4 r5 r6 g0 g1 g2 g3 g4 g5 g6 k2 k3
  intro wz ⟨FZ,RZ⟩
  obtain ⟨r0,r1,r2,r3,r4,r5,r6⟩:=RZ.cells7
  refine bodyPost_ret (v:=.agg #[.int .i64 2,.int .i64 0,.int .i64 0,.string tx,.string tx4,.slice none 0 0,.int .i64 ta]) (by simp [results,Tryz.results129,go_sem, *]) rfl ?_
  exact ⟨_,_,rfl,⟨_,_,_,_,_,_,_,_,_,rfl⟩,⟨M4.out,L4.out⟩,FZ.only,FZ.par⟩
 | false=>
  obtain rfl:=hf rfl
  clear hm ht hf
  go_wp2_with fail
  refine (zaO ⟨#[91]⟩ (M1.out.good k HG.out) (by omega) F3.out.par).mono ?_
  rintro e w4 ⟨r,s4,rfl,⟨hm,ht,hf⟩,ho,hp⟩
  have F4:=hd_ (F3.out.call ho hp)
  have R4:=hd_ (R3.out.only ho n1)
  have E4:=hd_ (E3.out.only ho hY1)
  clear ho hp F3 R3 E3
  cases r with
  | true=>
   have M4:=hd_ ((M1.out.trans hm).zero (ht rfl).2.1)
   have L4:Hid (s.i < s4.i):=hd_ (ll_ L1.out hm.le)
   clear hm ht hf M1 L1
   go_wp2_with fail
   refine (HEX.out _ _ _ _ _ _ (M4.out.good k HG.out) (by omega) w4 F4.out.par).mono ?_
   rintro e w5 ⟨v,s5,rfl,⟨op5,kd5,nn5,nm5,fl5,a5,ln5,c5,ta5,rfl⟩,hm,ho,hp⟩
   have F5:=hd_ (F4.out.call ho hp)
   have R5:=hd_ (R4.out.only ho n1)
   have E5:=hd_ (E4.out.only ho hY1)
   have M5:=hd_ (M4.out.trans hm)
   have L5:Hid (s.i < s5.i):=hd_ (ll_ L4.out hm.le)
   clear hm ho hp F4 R4 E4 M4 L4
   obtain ⟨-,-,-,-,-,q5,-⟩:=E5.out.cells7
   obtain ⟨-,-,-,-,-,f5,-⟩:=E5.out.free7
   have k3:=E5.out.lt
   go_upto_region 7 with fail
   refine zaa (P:=Code.wp _ _ _ _) (F:=fun W=>Fr w b g cap ts s5 W∧Bl W w.heap.size #[.int .i64 0,.int .i64 0,.int .i64 0,.string ⟨#[]⟩,.string ⟨#[]⟩,.slice none 0 0,.int .i64 0] 112∧Bl W Y #[.int .i64 2,.int .i64 0,.int .i64 0,.string tx,.string ⟨#[]⟩,.slice (some ⟨w5.heap.size,0,none⟩) 1 1,.int .i64 ta] 112)
    ⟨(F5.out.far (X:=Y) (by omega) _ _).alloc _,(R5.out.other (Y:=Y) (by omega) _ _).alloc _,(Bl.alloc (vs:=#[.int .i64 2,.int .i64 0,.int .i64 0,.string tx,.string ⟨#[]⟩,.slice (some ⟨w5.heap.size,0,none⟩) 1 1,.int .i64 ta]) (by simpa using E5.out.set 5 (.slice (some ⟨w5.heap.size,0,none⟩) 1 1)) _)⟩ ?_
   clear q5 f5 k3 R5 E5
   intro w6 ⟨F6,R6,E6⟩
   have F6:=hd_ F6
   have R6:=hd_ R6
   have E6:=hd_ E6
   go_wp2_with fail
   refine (zan ⟨#[93]⟩ (M5.out.good k HG.out) (by omega) F6.out.par).mono ?_
   rintro e w7 ⟨_,s7,rfl,rfl,hm,ho,hp⟩
   have F7:=hd_ (F6.out.call ho hp)
   have R7:=hd_ (R6.out.only ho n1)
   have E7:=hd_ (E6.out.only ho hY1)
   have M7:=hd_ (M5.out.trans hm)
   have L7:Hid (s.i < s7.i):=hd_ (ll_ L5.out hm.le)
   clear hm ho hp F5 F6 R6 E6 M5 L5
   obtain ⟨q0,q1,q2,q3,q4,q5,q6⟩:=E7.out.cells7
   obtain ⟨r0,r1,r2,r3,r4,r5,r6⟩:=R7.out.cells7
   obtain ⟨g0,g1,g2,g3,g4,g5,g6⟩:=R7.out.free7
   have k2:=R7.out.lt
   have k3:=E7.out.lt
   go_wp2_with fail
   refine zaa (P:=bodyPost _ _ _ _ _) (F:=fun W=>Fr w b g cap ts s7 W∧Bl W w.heap.size #[.int .i64 2,.int .i64 0,.int .i64 0,.string tx,.string ⟨#[]⟩,.slice (some ⟨w5.heap.size,0,none⟩) 1 1,.int .i64 ta] 112)
    ⟨((((((F7.out.far nl_ _ _).far nl_ _ _).far nl_ _ _).far nl_ _ _).far nl_ _ _).far nl_ _ _).far nl_ _ _,R7.out.set7⟩ ?_
   clear q0 q1 q2 q3 q4 q5 q6 r0 r1 r2 r3 r4 r5 r6 g0 g1 g2 g3 g4 g5 g6 k2 k3
   intro wz ⟨FZ,RZ⟩
   obtain ⟨r0,r1,r2,r3,r4,r5,r6⟩:=RZ.cells7
   refine bodyPost_ret (v:=.agg #[.int .i64 2,.int .i64 0,.int .i64 0,.string tx,.string ⟨#[]⟩,.slice (some ⟨w5.heap.size,0,none⟩) 1 1,.int .i64 ta]) (by simp [results,Tryz.results129,go_sem, *]) rfl ?_
   exact ⟨_,_,rfl,⟨_,_,_,_,_,_,_,_,_,rfl⟩,⟨M7.out,L7.out⟩,FZ.only,FZ.par⟩
  | false=>
   obtain rfl:=hf rfl
   clear hm ht hf
   obtain ⟨q0,q1,q2,q3,q4,q5,q6⟩:=E4.out.cells7
   obtain ⟨r0,r1,r2,r3,r4,r5,r6⟩:=R4.out.cells7
   obtain ⟨g0,g1,g2,g3,g4,g5,g6⟩:=R4.out.free7
   have k2:=R4.out.lt
   have k3:=E4.out.lt
   go_wp2_with fail
   refine zaa (P:=bodyPost _ _ _ _ _) (F:=fun W=>Fr w b g cap ts s4 W∧Bl W w.heap.size #[.int .i64 2,.int .i64 0,.int .i64 0,.string tx,.string ⟨#[]⟩,.slice none 0 0,.int .i64 ta] 112)
    ⟨((((((F4.out.far nl_ _ _).far nl_ _ _).far nl_ _ _).far nl_ _ _).far nl_ _ _).far nl_ _ _).far nl_ _ _,R4.out.set7⟩ ?_
   clear q0 q1 q2 q3 q4 q5 q6 r0 r1 r2 r3 r4 r5 r6 g0 g1 g2 g3 g4 g5 g6 k2 k3
   intro wz ⟨FZ,RZ⟩
   obtain ⟨r0,r1,r2,r3,r4,r5,r6⟩:=RZ.cells7
   refine bodyPost_ret (v:=.agg #[.int .i64 2,.int .i64 0,.int .i64 0,.string tx,.string ⟨#[]⟩,.slice none 0 0,.int .i64 ta]) (by simp [results,Tryz.results129,go_sem, *]) rfl ?_
   exact ⟨_,_,rfl,⟨_,_,_,_,_,_,_,_,_,rfl⟩,⟨M1.out,L1.out⟩,FZ.only,FZ.par⟩
end Go.Proofs.YtdpkjpjkdmkkpaaGreatDoor
