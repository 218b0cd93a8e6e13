/- What the reference's two Parse answer of any text: the post, and what is plain of it. -/
import Derived.Test.YtdpkjpjkdmkkpaaGreatDoorQG
import Derived.Test.YtdpkjpjkdmkkpaaGreatDoorTD
import Derived.Test.YtdpkjpjkdmkkpaaGreatDoorNC
set_option maxRecDepth 100000
set_option maxHeartbeats 16000000
namespace Go.Proofs.YtdpkjpjkdmkkpaaGreatDoor
open Ad Go.RowKit Lx Pa
theorem znu {il:Bool} {l:List UInt8}:∀ (f a:Nat) (out ts:List Tok),rT il l f a out=.ok ts→ts.length≤out.length+(l.length - a)+1:=by
 intro f
 induction f with
 | zero=>intro a out ts h;cases h
 | succ f ih=>
  intro a out ts h
  rcases zdB h with ⟨_,h2⟩ | ⟨_,_,h3⟩ | ⟨k1,_,_,h4⟩ | ⟨_,_,_,_,_,h6⟩ | ⟨i,h1,_,_,_,_,h6⟩ | ⟨t,n,e',_,_,_,_,_,h6,h7⟩ | ⟨t,n,h1,_,_,_,h5,h6⟩
  ·injection h2 with h2;rw [h2];simp
  ·have:=ih _ _ _ h3;omega
  ·have:=ih _ _ _ h4;simp at this;omega
  ·cases h6
  ·have:=ih _ _ _ h6;omega
  ·cases h7
  ·have hs:=zcG (by intro h0;have:=congrArg List.length h0;rw [List.length_drop,List.length_nil] at this;omega) h5
   have:=ih _ _ _ h6;simp at this;omega
theorem zhB {l:List UInt8} {il:Bool} {ts:List Tok} (h:zaP l il=.ok ts):ts.length≤l.length+1:=by
 unfold zaP at h
 split at h
 ·cases h
 ·have:=znu _ _ _ _ h;simp at this;omega
def zlO (row:List Value):Prop:=∃ nb va vn vc ua un uc il bda bdn bdc lna lnn lnc,row=[.string nb,.slice va vn vc,.slice ua un uc,.bool il,.slice bda bdn bdc,.slice lna lnn lnc]
theorem zbn:zlO [.string ⟨#[]⟩,.slice none 0 0,.slice none 0 0,.bool false,.slice none 0 0,.slice none 0 0]:=⟨_,_,_,_,_,_,_,_,_,_,_,_,_,_,rfl⟩
def zh0 (il:Bool) (w:World) (e:Ending) (w':World):Prop:=
 ∃ row at9 er,e=.returned (.tuple #[.agg row.toArray,.int .i64 at9,.int .i64 er])∧zlO row∧Below w.heap.size w w'∧(er=0→∃ d,Rf.DeclT d∧zbj d∧zaF w' (Btw w.heap.size w'.heap.size) il d row)
theorem zf9 {l:List UInt8} {il:Bool} {ts:List Tok} (hl:l.length≤2500) (h:zaP l il=.ok ts):zaE ts∧ts.length≤100000∧Pa.Good ts 0 ⟨0,0,0⟩ ∧
  ∀ d s1,Pa.decls ts il ⟨0,0,0⟩=(d,s1)→Pa.Good ts 20 s1∧(s1.err=0→Rf.DeclT d∧zbj d):=by
 have hen:=zgA h
 have hlen:=zhB h
 have hg0:Pa.Good ts 0 ⟨0,0,0⟩:=⟨fun _=>hen.1,by simp⟩
 refine ⟨hen,by omega,hg0,fun d s1 hd=>?_⟩
 have h1:Pa.Good ts 20 (Pa.decls ts il ⟨0,0,0⟩).2:=by
  unfold Pa.decls
  exact (zg6 hen _ 10 _ ((((zdh hen _ 8 _ ((hg0.step hen il).mono (by omega)) (by omega)).must hen _).name hen).mono (by omega)) (by omega)).mono (by omega)
 rw [hd] at h1
 refine ⟨h1,fun he=>Rf.decls_T (Rf.tokens_T h) (by omega) hd he (Nat.le_of_lt ((h1.zero he).1 he))⟩
theorem zjX {x:ByteArray} (hs:x.size≤2500) (w:World) :
  Calls Tryz.prog 28 #[.string x] w (zh0 false w):=by
 have hlen:x.data.toList.length=x.size:=rfl
 cases hr:zaP x.data.toList false with
 | error q=>
  obtain ⟨p,e9⟩:=q
  have h9:=zef hr
  have HTK:=hd_ (fun W=>zb1 (s:=x) (il:=false) hr (by omega) W)
  have he:(e9 != 0)=true:=by simpa using h9
  have HE:=hd_ h9
  clear h9 hr hs
  go_enter Tryz.func28,Tryz.ntmps28
  go_wp2_with fail
  refine (HTK.out _).mono ?_
  rintro e w1 ⟨rfl,hb1⟩
  have R1:=hd_ ((Bl.new w #[.string ⟨#[]⟩,.slice none 0 0,.slice none 0 0,.bool false,.slice none 0 0,.slice none 0 0] 28).below hb1)
  have B1:Hid (Below w.heap.size w w1):=hd_ (((Below.refl _ w).alloc nl_ _).trans (hb1.mono (by simp)))
  clear hb1 HTK
  obtain ⟨r0,r1,r2,r3,r4,r5⟩:=R1.out.cells6
  obtain ⟨g0,g1,g2,g3,g4,g5⟩:=R1.out.free6
  have k3:=R1.out.lt
  go_wp2_with fail
  refine zaa (P:=bodyPost _ _ _ _ _) (F:=fun W=>Bl W w.heap.size #[.string ⟨#[]⟩,.slice none 0 0,.slice none 0 0,.bool false,.slice none 0 0,.slice none 0 0] 28∧Below w.heap.size w W)
   ⟨R1.out.set6,((((((B1.out.setCell nl_ _).setCell nl_ _).setCell nl_ _).setCell nl_ _).setCell nl_ _).setCell nl_ _)⟩ ?_
  clear r0 r1 r2 r3 r4 r5 g0 g1 g2 g3 g4 g5 k3
  intro wz ⟨RZ,BZ⟩
  obtain ⟨r0,r1,r2,r3,r4,r5⟩:=RZ.cells6
  refine bodyPost_ret (v:=.tuple #[.agg #[.string ⟨#[]⟩,.slice none 0 0,.slice none 0 0,.bool false,.slice none 0 0,.slice none 0 0],.int .i64 p,.int .i64 e9]) (by simp [results,Tryz.results28,go_sem, *]) rfl ?_
  exact ⟨_,_,_,rfl,zbn,BZ,fun h=>absurd h HE.out⟩
 | ok ts=>
  obtain ⟨hen,hle,hg0,hD⟩:=zf9 (by omega) hr
  obtain ⟨⟨d,s1⟩,hd⟩:∃ p,Pa.decls ts false ⟨0,0,0⟩=p:=⟨_,rfl⟩
  obtain ⟨hg1,hdt⟩:=hD d s1 hd
  have HG1:=hd_ hg1
  have HDT:=hd_ hdt
  have HTK:=hd_ (fun W=>zb1 (s:=x) (il:=false) hr (by omega) W)
  have HD:=hd_ (fun b g cap W (hW:Par W b g cap ts ⟨0,0,0⟩)=>zd9 hd hg0 (by omega) W hW)
  have HST:=hd_ znB
  have hcst:cst 1=198:=by decide
  have hpos:=hen.1
  have HEN:=hd_ hen
  have HLE:=hd_ hle
  have hf0:=zaV
  have hf4:=zbc
  clear hr hd hg0 hg1 hdt hD hs hen hle
  go_enter Tryz.func28,Tryz.ntmps28
  go_wp2_with fail
  refine (HTK.out _).mono ?_
  rintro e w1 ⟨v,rfl,hown,hb1⟩
  obtain ⟨g,cap,rfl,hg1,hg2⟩:=hown.form hpos
  have TC1:=hd_ (TC.own hown rfl)
  have R1:=hd_ ((Bl.new w _ _).below hb1)
  have B1:Hid (Below w.heap.size w w1):=hd_ (((Below.refl _ w).alloc nl_ _).trans (hb1.mono (by simp)))
  have hsz:w.heap.size+1≤w1.heap.size:=by have:=hb1.size;simpa using this
  clear hown hb1 HTK
  go_upto_region 5 with fail
  refine zaa (P:=Code.wp _ _ _ _) (F:=fun W=>Par W w1.heap.size g cap ts ⟨0,0,0⟩∧Bl W w.heap.size #[.string ⟨#[]⟩,.slice none 0 0,.slice none 0 0,.bool false,.slice none 0 0,.slice none 0 0] 28∧Below w.heap.size w W∧w1.heap.size+1≤W.heap.size)
   ⟨⟨Bl.new _ _ _,TC1.out.below (br_.alloc nl_ _),by omega,HEN.out,HLE.out⟩,R1.out.alloc _,B1.out.alloc (by omega) _,by simp⟩ ?_
  intro w2 ⟨P2,R2,B2,hsz2⟩
  have F2:=hd_ (Fr.start P2)
  have R2:=hd_ R2
  have B2:=hd_ B2
  obtain ⟨b,hbq⟩:∃ b,w1.heap.size=b:=⟨_,rfl⟩
  rw [hbq] at F2 hsz2 hsz ⊢
  clear P2 TC1 R1 B1 hbq
  have n1:w.heap.size≠b:=by omega
  go_wp2_with fail
  refine (HD.out _ _ _ _ F2.out.par).mono ?_
  rintro e w3 ⟨row,rfl,hd,ho,hp⟩
  obtain ⟨vs,vv,rfl,hd2,hd3⟩:=hd
  obtain ⟨va,vn,vc,rfl⟩:=hd2.shape
  obtain ⟨ua,un,uc,rfl⟩:=hd3.shape
  have D:Hid (∀ ba bn bc,zaF w3 (Btw w2.heap.size w3.heap.size) false d [.string ⟨d.name.toArray⟩,.slice va vn vc,.slice ua un uc,.bool false,.slice ba bn bc,.slice none 0 0]):=hd_ (fun ba bn bc=>⟨_,_,_,_,_,_,_,_,rfl,hd2,hd3⟩)
  have F3:=hd_ (F2.out.call ho hp)
  have R3:=hd_ (R2.out.only ho n1)
  have M3:=hd_ (Mid.refl (lo:=w2.heap.size) (Nat.le_refl w3.heap.size))
  have hsz3:=ho.size
  clear hd2 hd3 ho hp HD
  have nP:w3.heap.size≠b:=by omega
  go_wp2_with fail
  refine (HST.out _ _ _ _ _ _ HG1.out (by omega) _ (F3.out.alloc _).par).mono ?_
  rintro e w4 ⟨v,s2,rfl,⟨ba,bn,bc,rfl⟩,hm,ho,hp⟩
  have F4:=hd_ ((F3.out.alloc _).call ho hp)
  have R4:=hd_ ((R3.out.alloc _).only ho n1)
  have O4:=hd_ ((Bl.new _ _ _).only ho nP)
  have M4:=hd_ ((M3.out.alloc _).only (by omega) ho)
  have V4:=hd_ hm
  clear ho hp hm
  obtain ⟨-,-,-,-,r4,-⟩:=O4.out.cells6
  obtain ⟨-,-,-,-,g4,-⟩:=O4.out.free6
  have k2:=O4.out.lt
  go_upto_region 7 with fail
  refine zaa (P:=Code.wp _ _ _ _) (F:=fun W=>Fr w2 b g cap ts s2 W∧Bl W w.heap.size #[.string ⟨#[]⟩,.slice none 0 0,.slice none 0 0,.bool false,.slice none 0 0,.slice none 0 0] 28∧Bl W w3.heap.size #[.string ⟨d.name.toArray⟩,.slice va vn vc,.slice ua un uc,.bool false,.slice ba bn bc,.slice none 0 0] 28∧Mid w2.heap.size w3.heap.size w3 W)
   ⟨F4.out.far (by omega) _ _,R4.out.other (by omega) _ _,by simpa using O4.out.set 4 _,M4.out.setHigh nl_ _ _⟩ ?_
  clear r4 g4 k2 F4 R4 O4 M4
  intro w5 ⟨F5,R5,O5,M5⟩
  have F5:=hd_ F5
  have R5:=hd_ R5
  have O5:=hd_ O5
  have M5:=hd_ M5
  go_wp2_with fail
  refine (zan ⟨#[69,78,68,95,80,82,79,71,82,65,77]⟩ (V4.out.good _ HG1.out) (by omega) F5.out.par).mono ?_
  rintro e w6 ⟨_,s3,rfl,rfl,hm,ho,hp⟩
  have F6:=hd_ (F5.out.call ho hp)
  have R6:=hd_ (R5.out.only ho n1)
  have O6:=hd_ (O5.out.only ho nP)
  have M6:=hd_ (M5.out.only (by omega) ho)
  have V6:=hd_ (V4.out.trans hm)
  clear ho hp hm F5 R5 O5 M5 V4
  obtain ⟨-,-,d2,d3,-,-,-⟩:=F6.out.par.pb.cells
  have k1:=F6.out.par.pb.lt
  by_cases he:s3.err=0
  ·have HE2:=hd_ he
   rw [he] at d2
   clear he
   have e3:((0:Int)==0)=true:=rfl
   have e4:((0:Int) != 0)=false:=rfl
   go_wp2_with fail
   refine (zcb (V6.out.good _ HG1.out) F6.out.par).mono ?_
   rintro e w7 ⟨tk,kd,nn,tx,ta,rfl,_,hb⟩
   have F7:=hd_ (F6.out.below hb)
   have R7:=hd_ (R6.out.below hb)
   have O7:=hd_ (O6.out.below hb)
   have M7:=hd_ (M6.out.below hb)
   clear hb d2 d3 k1 F6 R6 O6 M6
   by_cases htk:tk=0
   ·subst htk
    obtain ⟨-,-,d2,-,-,-,-⟩:=F7.out.par.pb.cells
    rw [HE2.out] at d2
    have k1:=F7.out.par.pb.lt
    obtain ⟨q0,q1,q2,q3,q4,q5⟩:=O7.out.cells6
    obtain ⟨r0,r1,r2,r3,r4,r5⟩:=R7.out.cells6
    obtain ⟨g0,g1,g2,g3,g4,g5⟩:=R7.out.free6
    have k2:=O7.out.lt
    have k3:=R7.out.lt
    have BZ:Hid (Below w.heap.size w w7):=hd_ (B2.out.trans (F7.out.only.below (by omega) (by omega)))
    go_wp2_with fail
    refine zaa (P:=bodyPost _ _ _ _ _) (F:=fun W=>Bl W w.heap.size #[.string ⟨d.name.toArray⟩,.slice va vn vc,.slice ua un uc,.bool false,.slice ba bn bc,.slice none 0 0] 28∧Mid w2.heap.size w3.heap.size w3 W∧Below w.heap.size w W)
     ⟨R7.out.set6,((((((M7.out.set (by omega) _ _).set (by omega) _ _).set (by omega) _ _).set (by omega) _ _).set (by omega) _ _).set (by omega) _ _),((((((BZ.out.setCell nl_ _).setCell nl_ _).setCell nl_ _).setCell nl_ _).setCell nl_ _).setCell nl_ _)⟩ ?_
    clear q0 q1 q2 q3 q4 q5 r0 r1 r2 r3 r4 r5 g0 g1 g2 g3 g4 g5 k2 k3 d2 k1
    intro wz ⟨RZ,MZ,BZ⟩
    obtain ⟨r0,r1,r2,r3,r4,r5⟩:=RZ.cells6
    refine bodyPost_ret (v:=.tuple #[.agg #[.string ⟨d.name.toArray⟩,.slice va vn vc,.slice ua un uc,.bool false,.slice ba bn bc,.slice none 0 0],.int .i64 0,.int .i64 0]) (by simp [results,Tryz.results28,go_sem, *]) rfl ?_
    have h1:s1.err=0:=by
     by_cases h:s1.err=0
     ·exact h
     ·exact absurd HE2.out (V6.out.err h)
    exact ⟨_,_,_,rfl,⟨_,_,_,_,_,_,_,_,_,_,_,_,_,_,rfl⟩,BZ,fun _=>⟨d,(HDT.out h1).1,(HDT.out h1).2,(D.out _ _ _).keeps (MZ.keeps (by omega))⟩⟩
   ·have ht1:(tk==0)=false:=by simpa using htk
    have ht2:(tk != 0)=true:=by simpa using htk
    clear htk
    go_wp2_with fail
    refine (zcb (V6.out.good _ HG1.out) F7.out.par).mono ?_
    rintro e w8 ⟨tk8,kd8,nn8,tx8,ta8,rfl,_,hb⟩
    have F8:=hd_ (F7.out.below hb)
    have R8:=hd_ (R7.out.below hb)
    clear hb F7 R7 O7 M7 ht1 ht2
    go_wp2_with fail
    refine (zb7 (a:=ta8) (e:=130) (by decide) F8.out.par).mono ?_
    rintro e w9 ⟨s9,rfl,⟨_,h9⟩,ho,hp⟩
    have F9:=hd_ (F8.out.call ho hp)
    have R9:=hd_ (R8.out.only ho n1)
    have H9:=hd_ h9
    have h8:(s9.err != 0)=true:=by simpa using h9
    have BZ9:Hid (Below w.heap.size w w9):=hd_ (B2.out.trans (F9.out.only.below (by omega) (by omega)))
    clear ho hp h9 F8 R8
    obtain ⟨-,-,d2,d3,-,-,-⟩:=F9.out.par.pb.cells
    have k1:=F9.out.par.pb.lt
    obtain ⟨r0,r1,r2,r3,r4,r5⟩:=R9.out.cells6
    obtain ⟨g0,g1,g2,g3,g4,g5⟩:=R9.out.free6
    have k3:=R9.out.lt
    have n2:b≠w.heap.size:=fun h=>n1 h.symm
    go_upto_region 11 with fail
    go_region
    all_goals
     go_wp2_with fail
     refine zaa (P:=bodyPost _ _ _ _ _) (F:=fun W=>Bl W w.heap.size #[.string ⟨#[]⟩,.slice none 0 0,.slice none 0 0,.bool false,.slice none 0 0,.slice none 0 0] 28∧Below w.heap.size w W)
      ⟨R9.out.set6.drew,(((((((BZ9.out.setCell nl_ _).setCell nl_ _).setCell nl_ _).setCell nl_ _).setCell nl_ _).setCell nl_ _)).drew⟩ ?_
     clear r0 r1 r2 r3 r4 r5 g0 g1 g2 g3 g4 g5 k3 d2 d3 k1
     intro wz ⟨RZ,BZ⟩
     obtain ⟨r0,r1,r2,r3,r4,r5⟩:=RZ.cells6
     refine bodyPost_ret (v:=.tuple #[.agg #[.string ⟨#[]⟩,.slice none 0 0,.slice none 0 0,.bool false,.slice none 0 0,.slice none 0 0],.int .i64 s9.at_,.int .i64 s9.err]) (by simp [results,Tryz.results28,go_sem, *]) rfl ?_
     exact ⟨_,_,_,rfl,zbn,BZ,fun h=>absurd h H9.out⟩
  ·have h3:(s3.err==0)=false:=by simpa using he
   have h8:(s3.err != 0)=true:=by simpa using he
   have H9:=hd_ he
   have BZ6:Hid (Below w.heap.size w w6):=hd_ (B2.out.trans (F6.out.only.below (by omega) (by omega)))
   clear he
   obtain ⟨r0,r1,r2,r3,r4,r5⟩:=R6.out.cells6
   obtain ⟨g0,g1,g2,g3,g4,g5⟩:=R6.out.free6
   have k3:=R6.out.lt
   have n2:b≠w.heap.size:=fun h=>n1 h.symm
   go_upto_region 11 with fail
   go_region
   all_goals
    go_wp2_with fail
    refine zaa (P:=bodyPost _ _ _ _ _) (F:=fun W=>Bl W w.heap.size #[.string ⟨#[]⟩,.slice none 0 0,.slice none 0 0,.bool false,.slice none 0 0,.slice none 0 0] 28∧Below w.heap.size w W)
     ⟨R6.out.set6.drew,(((((((BZ6.out.setCell nl_ _).setCell nl_ _).setCell nl_ _).setCell nl_ _).setCell nl_ _).setCell nl_ _)).drew⟩ ?_
    clear r0 r1 r2 r3 r4 r5 g0 g1 g2 g3 g4 g5 k3 d2 d3 k1
    intro wz ⟨RZ,BZ⟩
    obtain ⟨r0,r1,r2,r3,r4,r5⟩:=RZ.cells6
    refine bodyPost_ret (v:=.tuple #[.agg #[.string ⟨#[]⟩,.slice none 0 0,.slice none 0 0,.bool false,.slice none 0 0,.slice none 0 0],.int .i64 s3.at_,.int .i64 s3.err]) (by simp [results,Tryz.results28,go_sem, *]) rfl ?_
    exact ⟨_,_,_,rfl,zbn,BZ,fun h=>absurd h H9.out⟩
end Go.Proofs.YtdpkjpjkdmkkpaaGreatDoor
