/- The walks through package types: pins, Block, every, Pins, Pin. -/
import Derived.Test.YtdpkjpjkdmkkpaaGreatDoorMR
set_option maxRecDepth 100000
set_option maxHeartbeats 16000000
namespace Go.Proofs.YtdpkjpjkdmkkpaaGreatDoor
open Go.RowKit Lx
def zbe (x:ByteArray):ByteArray × ByteArray × Bool:=match Ty.pins x.data.toList with
 | some p=>(⟨p.1.toArray⟩,⟨p.2.toArray⟩,true)
 | none=>(⟨#[]⟩,⟨#[]⟩,false)
theorem zbO {x:ByteArray} {l:List UInt8} (h:x.data.toList=l):x=⟨l.toArray⟩:=by rw [← h]
theorem zeC {x:ByteArray} {l:List UInt8} (h:¬ x.data.toList=l):(x.toList==l)=false:=by
 rw [ByteArray.toList_eq]
 simpa using h
theorem zcO (x:ByteArray):(x=⟨#[84,79,78]⟩∧zbe x=(⟨#[73,78,32,66,79,79,76,32,80,84,32,84,73,77,69]⟩,⟨#[81,32,66,79,79,76,32,69,84,32,84,73,77,69]⟩,true))∨(x=⟨#[84,79,70]⟩∧zbe x=(⟨#[73,78,32,66,79,79,76,32,80,84,32,84,73,77,69]⟩,⟨#[81,32,66,79,79,76,32,69,84,32,84,73,77,69]⟩,true))∨(x=⟨#[84,80]⟩∧zbe x=(⟨#[73,78,32,66,79,79,76,32,80,84,32,84,73,77,69]⟩,⟨#[81,32,66,79,79,76,32,69,84,32,84,73,77,69]⟩,true))∨(x=⟨#[67,84,85]⟩∧zbe x=(⟨#[67,85,32,66,79,79,76,32,82,32,66,79,79,76,32,80,86,32,73,78,84]⟩,⟨#[81,32,66,79,79,76,32,67,86,32,73,78,84]⟩,true))∨(x=⟨#[67,84,68]⟩∧zbe x=(⟨#[67,68,32,66,79,79,76,32,76,68,32,66,79,79,76,32,80,86,32,73,78,84]⟩,⟨#[81,32,66,79,79,76,32,67,86,32,73,78,84]⟩,true))∨(x=⟨#[67,84,85,68]⟩∧zbe x=(⟨#[67,85,32,66,79,79,76,32,67,68,32,66,79,79,76,32,82,32,66,79,79,76,32,76,68,32,66,79,79,76,32,80,86,32,73,78,84]⟩,⟨#[81,85,32,66,79,79,76,32,81,68,32,66,79,79,76,32,67,86,32,73,78,84]⟩,true))∨(x=⟨#[82,95,84,82,73,71]⟩∧zbe x=(⟨#[67,76,75,32,66,79,79,76]⟩,⟨#[81,32,66,79,79,76]⟩,true))∨(x=⟨#[70,95,84,82,73,71]⟩∧zbe x=(⟨#[67,76,75,32,66,79,79,76]⟩,⟨#[81,32,66,79,79,76]⟩,true))∨(x=⟨#[83,82]⟩∧zbe x=(⟨#[83,49,32,66,79,79,76,32,82,32,66,79,79,76]⟩,⟨#[81,49,32,66,79,79,76]⟩,true))∨(x=⟨#[82,83]⟩∧zbe x=(⟨#[83,32,66,79,79,76,32,82,49,32,66,79,79,76]⟩,⟨#[81,49,32,66,79,79,76]⟩,true))∨(zbe x=(⟨#[]⟩,⟨#[]⟩,false)∧(x.toList==[84,79,78])=false∧(x.toList==[84,79,70])=false∧(x.toList==[84,80])=false∧(x.toList==[67,84,85])=false∧(x.toList==[67,84,68])=false∧(x.toList==[67,84,85,68])=false∧(x.toList==[82,95,84,82,73,71])=false∧(x.toList==[70,95,84,82,73,71])=false∧(x.toList==[83,82])=false∧(x.toList==[82,83])=false):=by
 by_cases c0:x.data.toList=[84,79,78]
 ·have hx:=zbO c0
  subst hx
  exact .inl ⟨rfl,by kernel_rfl⟩
 by_cases c1:x.data.toList=[84,79,70]
 ·have hx:=zbO c1
  subst hx
  exact .inr (.inl ⟨rfl,by kernel_rfl⟩)
 by_cases c2:x.data.toList=[84,80]
 ·have hx:=zbO c2
  subst hx
  exact .inr (.inr (.inl ⟨rfl,by kernel_rfl⟩))
 by_cases c3:x.data.toList=[67,84,85]
 ·have hx:=zbO c3
  subst hx
  exact .inr (.inr (.inr (.inl ⟨rfl,by kernel_rfl⟩)))
 by_cases c4:x.data.toList=[67,84,68]
 ·have hx:=zbO c4
  subst hx
  exact .inr (.inr (.inr (.inr (.inl ⟨rfl,by kernel_rfl⟩))))
 by_cases c5:x.data.toList=[67,84,85,68]
 ·have hx:=zbO c5
  subst hx
  exact .inr (.inr (.inr (.inr (.inr (.inl ⟨rfl,by kernel_rfl⟩)))))
 by_cases c6:x.data.toList=[82,95,84,82,73,71]
 ·have hx:=zbO c6
  subst hx
  exact .inr (.inr (.inr (.inr (.inr (.inr (.inl ⟨rfl,by kernel_rfl⟩))))))
 by_cases c7:x.data.toList=[70,95,84,82,73,71]
 ·have hx:=zbO c7
  subst hx
  exact .inr (.inr (.inr (.inr (.inr (.inr (.inr (.inl ⟨rfl,by kernel_rfl⟩)))))))
 by_cases c8:x.data.toList=[83,82]
 ·have hx:=zbO c8
  subst hx
  exact .inr (.inr (.inr (.inr (.inr (.inr (.inr (.inr (.inl ⟨rfl,by kernel_rfl⟩))))))))
 by_cases c9:x.data.toList=[82,83]
 ·have hx:=zbO c9
  subst hx
  exact .inr (.inr (.inr (.inr (.inr (.inr (.inr (.inr (.inr (.inl ⟨rfl,by kernel_rfl⟩)))))))))
 refine .inr (.inr (.inr (.inr (.inr (.inr (.inr (.inr (.inr (.inr (?_))))))))))
 refine ⟨?_,zeC c0,zeC c1,zeC c2,zeC c3,zeC c4,zeC c5,zeC c6,zeC c7,zeC c8,zeC c9⟩
 unfold zbe Ty.pins
 simp only [c0,c1,c2,c3,c4,c5,c6,c7,c8,c9,or_self,if_false]
theorem zf0 {x:ByteArray} {p:ByteArray × ByteArray × Bool} (hp:zbe x=p) (w:World) :
  Calls Tryz.prog 41 #[.string x] w fun e w'=>e=.returned (.tuple #[.string p.1,.string p.2.1,.bool p.2.2])∧w=w':=by
 rcases zcO x with ⟨rfl,h2⟩ | ⟨rfl,h2⟩ | ⟨rfl,h2⟩ | ⟨rfl,h2⟩ | ⟨rfl,h2⟩ | ⟨rfl,h2⟩ | ⟨rfl,h2⟩ | ⟨rfl,h2⟩ | ⟨rfl,h2⟩ | ⟨rfl,h2⟩ | ⟨h2,e0,e1,e2,e3,e4,e5,e6,e7,e8,e9⟩
 all_goals
  rw [hp] at h2
  subst h2
  clear hp
  go_enter Tryz.func41,Tryz.ntmps41
  go_wp2
  go_returns
  exact ⟨rfl,rfl⟩
theorem zcW {x:ByteArray} {r:Bool} (hr:Ty.block x.data.toList=r) (w:World) :
  Calls Tryz.prog 19 #[.string x] w fun e w'=>e=.returned (.bool r)∧w=w':=by
 obtain ⟨p,hp⟩:∃ p,zbe x=p:=⟨_,rfl⟩
 have hpr:p.2.2=r:=by
  rw [← hp,← hr]
  unfold zbe Ty.block
  cases Ty.pins x.data.toList <;> rfl
 have HP:=hd_ (fun W=>zf0 hp W)
 obtain ⟨p0,p1,p2⟩:=p
 simp only at hpr
 subst hpr
 clear hp hr
 go_enter Tryz.func19,Tryz.ntmps19
 go_wp2_with (go_at_call 41;refine (HP.out _).mono ?_;rintro e w1 ⟨rfl,rfl⟩)
 go_ret
 exact ⟨rfl,rfl⟩
theorem zbW {w:World} {B sz n:Nat} {T:TypeId} {v:Value} {xs:List Value} (h:w.ownsRow B T sz v n xs) (o:Obj):(w.alloc o).ownsRow B T sz v n xs:=
 zae h ((Below.refl w.heap.size w).alloc nl_ o) nl_
theorem zaB {w:World} {B sz n X:Nat} {T:TypeId} {v:Value} {xs:List Value} (h:w.ownsRow B T sz v n xs) (hX:X < B:=by omega):some X≠v.ownBlock:=fun h1=>by
 have:=(h.lt X h1.symm).1
 omega
theorem zcN {w:World} {B B' sz n:Nat} {T:TypeId} {v:Value} {xs:List Value} (h:w.ownsRow B T sz v n xs) (hB:B'≤B):w.ownsRow B' T sz v n xs:=by
 refine ⟨h.1,?_⟩
 rcases h.2 with h1 | ⟨g,cap,cur,h1,h2,h3⟩
 ·exact .inl h1
 ·exact .inr ⟨g,cap,cur,h1,by omega,h3⟩
def strC (l:List (List UInt8)):List Value:=l.map fun s=>Value.string ⟨s.toArray⟩
theorem zhJ:(Tryz.prog.info? 9).map (fun i=>(i.zero,i.size,i.bytes))=some (some (.string ⟨#[]⟩),1,16):=by kernel_rfl
theorem zfT {l:List (List UInt8)} {i:Nat} {s:List UInt8} (h:l[i]? = some s):(strC l).toArray[i]? = some (.string ⟨s.toArray⟩):=by
 simp [strC,h]
theorem zhf {ws:List (List UInt8)} {b:Bool} {i:Nat} {s:List UInt8} (h:ws[i]? = some s) :
  Ty.evensF b (ws.drop i)=(if b=true then s::Ty.evensF false (ws.drop (i+1)) else Ty.evensF true (ws.drop (i+1))):=by
 obtain ⟨hi,hs⟩:=List.getElem?_eq_some_iff.1 h
 rw [List.drop_eq_getElem_cons hi,hs]
 cases b <;> rfl
theorem zgW {s:ByteArray} {ws:List (List UInt8)} (hs:s.size≤1000) (ha:s.data.toList.all (fun b=>decide (b.toNat < 128))=true) (hL:Ty.words s.data.toList=ws) (hn:ws.length≤1000) (w:World) (he:LEnv w) :
  Calls Tryz.prog 42 #[.string s,.int .i64 0] w fun e w'=>∃ v,e=.returned v∧w'.ownsRow w.heap.size 9 1 v (Ty.evens ws).length (strC (Ty.evens ws))∧Below w.heap.size w w':=by
 have HF:=hd_ (fun W (hW:LEnv W)=>zh5 s ws (by omega) ha hL W hW.space)
 have HE:=hd_ he
 obtain ⟨i0,hi,hz0,hz1,hz2⟩:=info_parts zhJ
 have HI:=hd_ (And.intro hi (And.intro hz0 (And.intro hz1 hz2)))
 obtain ⟨N,hN⟩:∃ N,ws.length=N:=⟨_,rfl⟩
 have HN:=hd_ hN
 rw [hN] at hn
 clear hi hz0 hz1 hz2 he ha hL hs
 go_enter Tryz.func42,Tryz.ntmps42
 go_wp2_with fail
 refine (HF.out _ HE.out).mono ?_
 rintro e w1 ⟨rfl,rfl⟩
 rw [hN]
 have W1:Hid (Bl (w.alloc (.cells (strC ws).toArray 9)) w.heap.size (strC ws).toArray 9):=hd_ (Bl.new _ _ _)
 obtain ⟨w1,hw1⟩:∃ w1,w.alloc (.cells (ws.map fun l=>Value.string ⟨l.toArray⟩).toArray 9)=w1:=⟨_,rfl⟩
 have W1:Hid (Bl w1 w.heap.size (strC ws).toArray 9):=hd_ (hw1▸W1.out)
 have B1:Hid (Below w.heap.size w w1):=hd_ (hw1▸br_.alloc nl_ _)
 have S1:w1.heap.size=w.heap.size+1:=by rw [← hw1];simp
 rw [hw1]
 have S9:w.heap.size+1≤w1.heap.size:=by omega
 clear hw1 HF HE S1 hN
 go_wp2_with fail
 go_loopw [5,11] (fun v5 v11 wr=>RRel (∃ (i:Nat) (b:Bool) (acc:List (List UInt8)),i≤N∧v11=.int .i64 i∧Hid (b=decide (i % 2=0))∧Hid (acc++Ty.evensF b (ws.drop i)=Ty.evens ws)∧Hid (acc.length≤i) ∧
  Hid (Bl wr w.heap.size (strC ws).toArray 9)∧Hid (wr.ownsRow (w.heap.size+1) 9 1 v5 acc.length (strC acc))∧Hid (Below w.heap.size w wr)∧Hid (w.heap.size+1≤wr.heap.size))) (fun _ v11 _=>N - (intOf v11).toNat)
 case atStart=>exact RRel.mk ⟨0,true,[],by omega,rfl,hd_ rfl,hd_ rfl,hd_ nl_,W1,hd_ ⟨by simp [strC],.inl ⟨rfl,rfl⟩⟩,B1,hd_ S9⟩
 case round=>
  obtain ⟨i,b,acc,hi,rfl,HB,HA,HL,W2,O2,B2,S2⟩:=hrel.it
  clear hrel W1 B1 S9
  obtain ⟨w2,rfl⟩:∃ w2,w2=wr:=⟨_,rfl⟩
  by_cases hlt:i < N
  ·obtain ⟨x,hx⟩:∃ x,ws[i]? = some x:=⟨ws[i]'(by have:=HN.out;omega),by rw [List.getElem?_eq_getElem]⟩
   have HS:=hd_ (zhf (b:=b) hx)
   have hc:=(W2.out.cell (zfT hx)).1
   have z0:0≤(i:Int):=by omega
   have z1:(i:Int) < N:=by omega
   have z2:(i:Int).toNat=i:=by omega
   have z3:IntKind.i64.wrap ((i:Int)+1)=(i:Int)+1:=IntWalk.i64_in _ (by omega)
   have k2:=W2.out.lt
   obtain ⟨xb,hxb⟩:∃ xb:ByteArray,(⟨x.toArray⟩:ByteArray)=xb:=⟨_,rfl⟩
   rw [hxb] at hc
   clear hx
   cases b with
   | true=>
    have ez:((i:Int) % 2==0)=true:=by have:=HB.out;simp at this;simp;omega
    have k3:=S2.out
    go_wp2_with (at_builtin;refine wpList_append_lies _ (by rfl) _ _ _ (by rfl) (w.heap.size+1) 9 i0 _ 1 16 Tryz.underlying41 HI.out.1 HI.out.2.1 HI.out.2.2.1 HI.out.2.2.2 rfl (by omega) _ acc.length (strC acc) (by rfl) (zbW O2.out _) ⟨w2.heap.size,0,none⟩ 1 1 [.string xb] (by rfl) (by rfl) (World.news_of_block (cs:=#[.string xb]) (t:=9) (fr:=(0,0)) (heap_alloc_new _ _)) (by simp [Value.oneCell']) (by omega) (by have:=HL.out;simp only [maxLen];omega) (by have:=HL.out;omega) (by simp;omega) (w2.heap.size+1) (by simp) ?_;intro g9 cp w3 hown hgrow hat hlt9;have W3:=hd_ ((W2.out.alloc _).grown hgrow (zaB O2.out));have B3:=hd_ ((B2.out.alloc (by omega) _).grown hgrow (by have:=B2.out.size;simp;omega) (fun k hk=>by have:=(O2.out.lt k hk).1;omega));have S3:Hid (w.heap.size+1≤w3.heap.size):=hd_ (by have:=hgrow.size;simp at this;omega);have O3:=hd_ hown;clear hown hgrow hat hlt9)
    go_roundw
    case rel=>exact RRel.mk ⟨i+1,false,acc++[x],by omega,by simp,hd_ (by have:=HB.out;simp at this ⊢;omega),hd_ (by rw [← HA.out,HS.out];simp),hd_ (by have:=HL.out;simp;omega),W3,hd_ (by have:=O3.out;simpa [strC,hxb] using this),B3,S3⟩
    case measure=>simp [intOf];omega
   | false=>
    have ez:((i:Int) % 2==0)=false:=by have:=HB.out;simp at this;simp;omega
    go_wp2_with fail
    go_roundw
    case rel=>exact RRel.mk ⟨i+1,true,acc,by omega,by simp,hd_ (by have:=HB.out;simp at this ⊢;omega),hd_ (by rw [← HA.out,HS.out];simp),hd_ (by have:=HL.out;omega),W2,O2,B2,S2⟩
    case measure=>simp [intOf];omega
  ·have z1:¬ (i:Int) < N:=by omega
   have HX:Hid (acc=Ty.evens ws):=hd_ (by
    have h1:=HA.out
    rw [List.drop_of_length_le (by have:=HN.out;omega)] at h1
    rw [← h1]
    cases b <;> simp [Ty.evensF])
   go_wp2_with fail
   go_ret
   exact ⟨_,rfl,by rw [← HX.out];exact zcN O2.out (by omega),B2.out⟩
def zfc (p:ByteArray × ByteArray × Bool):Prop:=
 p.1.size≤100∧p.2.1.size≤100∧p.1.data.toList.all (fun b=>decide (b.toNat < 128))=true∧p.2.1.data.toList.all (fun b=>decide (b.toNat < 128))=true ∧
 (Ty.words p.1.data.toList).length≤100∧(Ty.words p.2.1.data.toList).length≤100∧(Ty.words (p.1.data.toList++32::p.2.1.data.toList)).length≤100
instance (p:ByteArray × ByteArray × Bool):Decidable (zfc p):=by unfold zfc;infer_instance
theorem zea (x:ByteArray):zfc (zbe x):=by
 rcases zcO x with ⟨_,h⟩ | ⟨_,h⟩ | ⟨_,h⟩ | ⟨_,h⟩ | ⟨_,h⟩ | ⟨_,h⟩ | ⟨_,h⟩ | ⟨_,h⟩ | ⟨_,h⟩ | ⟨_,h⟩ | ⟨h,_⟩
 all_goals
  rw [h]
  exact of_decide_eq_true (by kernel_rfl)
theorem zcs (x:ByteArray):Ty.insOf x.data.toList=Ty.evens (Ty.words (zbe x).1.data.toList)∧Ty.outsOf x.data.toList=Ty.evens (Ty.words (zbe x).2.1.data.toList) ∧
  ∀ q,Ty.pin x.data.toList q=Ty.pinF (Ty.words ((zbe x).1.data.toList++32::(zbe x).2.1.data.toList)) q:=by
 unfold Ty.insOf Ty.outsOf Ty.pin zbe
 cases h:Ty.pins x.data.toList with
 | none=>exact ⟨rfl,rfl,fun _=>rfl⟩
 | some p=>exact ⟨by simp,by simp,fun _=>by simp⟩
def zf5 (x:ByteArray) (w:World) (e:Ending) (w':World):Prop:=
 ∃ v1 v2,e=.returned (.tuple #[v1,v2])∧w'.ownsRow w.heap.size 9 1 v1 (Ty.insOf x.data.toList).length (strC (Ty.insOf x.data.toList))∧w'.ownsRow w.heap.size 9 1 v2 (Ty.outsOf x.data.toList).length (strC (Ty.outsOf x.data.toList))∧Below w.heap.size w w'
theorem zeu (x:ByteArray) (w:World) (he:LEnv w):Calls Tryz.prog 16 #[.string x] w (zf5 x w):=by
 obtain ⟨g1,g2,g3,g4,g5,g6,_⟩:=zea x
 obtain ⟨h1,h2,_⟩:=zcs x
 obtain ⟨p,hp⟩:∃ p,zbe x=p:=⟨_,rfl⟩
 rw [hp] at g1 g2 g3 g4 g5 g6 h1 h2
 have HE:=hd_ he
 have HP:=hd_ (fun W=>zf0 hp W)
 obtain ⟨p0,p1,p2⟩:=p
 have E1:=hd_ (fun W (hW:LEnv W)=>zgW (s:=p0) (by simp only at g1;omega) g3 rfl (by simp only at g5;omega) W hW)
 have E2:=hd_ (fun W (hW:LEnv W)=>zgW (s:=p1) (by simp only at g2;omega) g4 rfl (by simp only at g6;omega) W hW)
 rw [← h1] at E1
 rw [← h2] at E2
 clear hp g1 g2 g3 g4 g5 g6 h1 h2 he
 go_enter Tryz.func16,Tryz.ntmps16
 go_wp2_with (go_at_call 41;refine (HP.out _).mono ?_;rintro e w1 ⟨rfl,rfl⟩)
 go_wp2_with fail
 refine (E1.out _ HE.out).mono ?_
 rintro e w1 ⟨v1,rfl,ho1,hb1⟩
 have O1:=hd_ ho1
 have B1:=hd_ hb1
 clear ho1 hb1
 go_wp2_with fail
 refine (E2.out _ (HE.out.below B1.out)).mono ?_
 rintro e w2 ⟨v2,rfl,ho2,hb2⟩
 have O2:=hd_ ho2
 have B2:=hd_ hb2
 clear ho2 hb2
 go_wp2
 go_returns
 exact ⟨_,_,rfl,zae O1.out B2.out nl_,zcN O2.out B1.out.size,zah B1.out B2.out⟩
theorem zjQ {ws:List (List UInt8)} {i:Nat} {a k q:List UInt8} (h1:ws[i]? = some a) (h2:ws[i+1]? = some k):Ty.pinF (ws.drop i) q=if a=q then Pa.kindOf k else Ty.pinF (ws.drop (i+2)) q:=by
 obtain ⟨hi,ha⟩:=List.getElem?_eq_some_iff.1 h1
 obtain ⟨hj,hk⟩:=List.getElem?_eq_some_iff.1 h2
 rw [List.drop_eq_getElem_cons hi,List.drop_eq_getElem_cons hj,ha,hk,Ty.pinF]
theorem zk7 {ws:List (List UInt8)} {i:Nat} {q:List UInt8} (h:ws.length≤i+1):Ty.pinF (ws.drop i) q=0:=by
 have hl:(ws.drop i).length≤1:=by rw [List.length_drop];omega
 cases hd:ws.drop i with
 | nil=>rfl
 | cons a r=>
  cases r with
  | nil=>rfl
  | cons b r2=>rw [hd] at hl;simp at hl
theorem zhQ {x q:ByteArray} {r:Int} (hr:Ty.pin x.data.toList q.data.toList=r) (w:World) (he:LEnv w) :
  Calls Tryz.prog 21 #[.string x,.string q] w fun e w'=>e=.returned (.int .i64 r)∧Below w.heap.size w w':=by
 obtain ⟨g1,g2,g3,g4,_,_,g7⟩:=zea x
 obtain ⟨_,_,h3⟩:=zcs x
 rw [h3] at hr
 obtain ⟨p,hp⟩:∃ p,zbe x=p:=⟨_,rfl⟩
 rw [hp] at g1 g2 g3 g4 g7 hr
 have HE:=hd_ he
 have HP:=hd_ (fun W=>zf0 hp W)
 obtain ⟨p0,p1,p2⟩:=p
 simp only at g1 g2 g3 g4 g7 hr
 obtain ⟨ws,hws⟩:∃ ws,Ty.words (p0.data.toList++32::p1.data.toList)=ws:=⟨_,rfl⟩
 rw [hws] at g7 hr
 have HF:=hd_ (fun W (hW:LEnv W)=>zh5 (p0++⟨#[32]⟩++p1) ws (by simp [ByteArray.size_append];have:(⟨#[32]⟩:ByteArray).size=1:=rfl;omega) (by
  simp only [ByteArray.data_append,Array.toList_append,List.all_append,Bool.and_eq_true]
  exact ⟨⟨g3,by decide⟩,g4⟩) (by rw [← hws];unfold Ty.words;simp [ByteArray.data_append]) W hW.space)
 obtain ⟨N,hN⟩:∃ N,ws.length=N:=⟨_,rfl⟩
 have HN:=hd_ hN
 have HR:=hd_ hr
 rw [hN] at g7
 have l1:(p0.size:Int)+1≤9223372036854775807:=by omega
 have l2:(p0.size:Int)+1+p1.size≤9223372036854775807:=by omega
 have l3:(p0++⟨#[32]⟩).size=p0.size+1:=by rw [ByteArray.size_append];rfl
 clear hp g1 g2 g3 g4 h3 he hr hws
 go_enter Tryz.func21,Tryz.ntmps21
 go_wp2_with (go_at_call 41;refine (HP.out _).mono ?_;rintro e w1 ⟨rfl,rfl⟩)
 go_wp2_with fail
 refine (HF.out _ HE.out).mono ?_
 rintro e w1 ⟨rfl,rfl⟩
 rw [hN]
 obtain ⟨w1,hw1⟩:∃ w1,w.alloc (.cells (ws.map fun l=>Value.string ⟨l.toArray⟩).toArray 9)=w1:=⟨_,rfl⟩
 have W1:Hid (Bl w1 w.heap.size (strC ws).toArray 9):=hd_ (hw1▸Bl.new _ _ _)
 have B1:Hid (Below w.heap.size w w1):=hd_ (hw1▸br_.alloc nl_ _)
 rw [hw1]
 clear hw1 HF HE hN l1 l2 l3 HP
 have k2:=W1.out.lt
 go_wp2_with fail
 go_loop [9] (fun v9=>∃ i:Nat,i≤N+1∧v9=.int .i64 i∧Hid (Ty.pinF (ws.drop i) q.data.toList=r)) (fun v9=>N+1 - (intOf v9).toNat)
 case atStart=>exact ⟨0,by omega,rfl,HR⟩
 case round=>
  obtain ⟨i,hi,rfl,HR2⟩:=hrel
  clear HR
  have z3:IntKind.i64.wrap ((i:Int)+1)=(i:Int)+1:=IntWalk.i64_in _ (by omega)
  by_cases hlt:i+1 < N
  ·obtain ⟨a,ha⟩:∃ a,ws[i]? = some a:=⟨ws[i]'(by have:=HN.out;omega),by rw [List.getElem?_eq_getElem]⟩
   obtain ⟨c,hc⟩:∃ c,ws[i+1]? = some c:=⟨ws[i+1]'(by have:=HN.out;omega),by rw [List.getElem?_eq_getElem]⟩
   have HS:=hd_ (zjQ (q:=q.data.toList) ha hc)
   have d1:=(W1.out.cell (zfT ha)).1
   have d2:=(W1.out.cell (zfT hc)).1
   have z0:0≤(i:Int):=by omega
   have z1:(i:Int)+1 < N:=by omega
   have z4:(i:Int) < N:=by omega
   have z2:(i:Int).toNat=i:=by omega
   have z5:((i:Int)+1).toNat=i+1:=by omega
   have z6:0≤(i:Int)+1:=by omega
   have z7:IntKind.i64.wrap ((i:Int)+2)=(i:Int)+2:=IntWalk.i64_in _ (by omega)
   obtain ⟨ab,hab⟩:∃ ab:ByteArray,(⟨a.toArray⟩:ByteArray)=ab:=⟨_,rfl⟩
   obtain ⟨cb,hcb⟩:∃ cb:ByteArray,(⟨c.toArray⟩:ByteArray)=cb:=⟨_,rfl⟩
   rw [hab] at d1
   rw [hcb] at d2
   obtain ⟨kk,hkk⟩:∃ kk,kindOf cb=kk:=⟨_,rfl⟩
   have HK:=hd_ (fun W=>zl7 hkk W)
   have HKC:Hid (Pa.kindOf c=(kk:Int)):=hd_ (by rw [zd2,hcb,hkk])
   have HAB:Hid (a=ab.data.toList):=hd_ (by rw [← hab])
   obtain ⟨dd,hdd⟩:∃ dd,(ab.toList==q.toList)=dd:=⟨_,rfl⟩
   clear ha hc hab hcb hkk
   cases dd with
   | true=>
    have HQ:Hid (a=q.data.toList):=hd_ (by rw [HAB.out,(zav ab q).1 hdd])
    go_wp2_with (go_at_call 44;refine (HK.out _).mono ?_;rintro e w3 ⟨rfl,hb3⟩;have B3:=hd_ (zah B1.out hb3);clear hb3)
    go_ret
    exact ⟨zaf (by rw [← HKC.out,← HR2.out,HS.out,if_pos HQ.out]),B3.out⟩
   | false=>
    have HQ:Hid (¬ a=q.data.toList):=hd_ (fun h=>by
     have h2:ab=q:=ByteArray.ext (Array.toList_inj.1 (by rw [← HAB.out,h]))
     rw [(zav ab q).2 h2] at hdd
     cases hdd)
    go_wp2
    go_round
    case rel=>exact ⟨i+2,by omega,by simp,hd_ (by rw [← HR2.out,HS.out,if_neg HQ.out])⟩
    case measure=>simp [intOf];omega
  ·have HZ:Hid (r=0):=hd_ (by rw [← HR2.out];exact zk7 (by have:=HN.out;omega))
   have z1:¬ ((i:Int)+1 < N):=by omega
   go_wp2
   go_ret
   exact ⟨zaf HZ.out.symm,B1.out⟩
open Pa
def StrV (w:World) (P:Nat→Prop) (r:Option zad) (v:Value):Prop:=match r with
 | some s=>∃ rw,v=.agg rw.toArray∧zbT w P s rw
 | none=>v=.agg #[.string ⟨#[]⟩,.slice none 0 0,.int .i64 0]
theorem zcB.get {w:World} {P:Nat→Prop} {l:List zad} {cs:List Value} (h:zcB w P l cs) {i:Nat} {s:zad} (hi:l[i]? = some s) :
  ∃ rw,zbT w P s rw∧∀ k,k < 3→cs[i*3+k]? = rw[k]?:=by
 induction l generalizing cs i with
 | nil=>simp at hi
 | cons e r ih=>
  obtain ⟨row,cr,h1,h2,h3⟩:=h
  have hl:row.length=3:=by obtain ⟨v,h4,_⟩:=h2;rw [h4];rfl
  cases i with
  | zero=>
   simp at hi
   subst hi
   refine ⟨row,h2,fun k hk=>?_⟩
   rw [h1,Nat.zero_mul,Nat.zero_add,List.getElem?_append_left (by omega)]
  | succ i=>
   obtain ⟨rw',h5,h6⟩:=ih h3 (by simpa using hi)
   refine ⟨rw',h5,fun k hk=>?_⟩
   rw [h1,List.getElem?_append_right (by omega),← h6 k hk]
   congr 1
   omega
theorem zce.get {w:World} {P:Nat→Prop} {l:List PVar} {cs:List Value} (h:zce w P l cs) {i:Nat} {s:PVar} (hi:l[i]? = some s) :
  ∃ rw,za0 w P s rw∧∀ k,k < 10→cs[i*10+k]? = rw[k]?:=by
 induction l generalizing cs i with
 | nil=>simp at hi
 | cons e r ih=>
  obtain ⟨row,cr,h1,h2,h3⟩:=h
  have hl:row.length=10:=by obtain ⟨v,h4,_⟩:=h2;rw [h4];rfl
  cases i with
  | zero=>
   simp at hi
   subst hi
   refine ⟨row,h2,fun k hk=>?_⟩
   rw [h1,Nat.zero_mul,Nat.zero_add,List.getElem?_append_left (by omega)]
  | succ i=>
   obtain ⟨rw',h5,h6⟩:=ih h3 (by simpa using hi)
   refine ⟨rw',h5,fun k hk=>?_⟩
   rw [h1,List.getElem?_append_right (by omega),← h6 k hk]
   congr 1
   omega
theorem zfU {l:List zad} {i:Nat} {s:zad} {n:List UInt8} (h:l[i]? = some s):Ty.structOf (l.drop i) n=if s.name=n then some s else Ty.structOf (l.drop (i+1)) n:=by
 obtain ⟨hi,ha⟩:=List.getElem?_eq_some_iff.1 h
 rw [List.drop_eq_getElem_cons hi,ha,Ty.structOf,List.find?_cons]
 by_cases hs:s.name=n
 ·simp [hs]
 ·simp [hs,Ty.structOf]
theorem zgR {l:List zad} {i:Nat} {n:List UInt8} (h:l.length≤i):Ty.structOf (l.drop i) n=none:=by
 rw [List.drop_of_length_le h];rfl
theorem SlAt.form {w:World} {P:Nat→Prop} {n:Nat} {cs:List Value} {v:Value} (h:SlAt w P n cs v):∃ a c,v=.slice a n c∧(0 < n→∃ g,a=some ⟨g,0,none⟩∧P g∧zaC w g cs):=by
 rcases h with ⟨h1,_,h2⟩ | ⟨g,c,h1,h2,h3,_⟩
 ·subst h1;exact ⟨_,_,h2,fun h=>absurd h (by omega)⟩
 ·exact ⟨_,_,h1,fun _=>⟨g,rfl,h2,h3.lie⟩⟩
theorem zbM {d:zaQ} {il:Bool} {row:List Value} {P:Nat→Prop} {nm:ByteArray} {r:Option zad} (hr:Ty.structOf d.structs nm.data.toList=r) (w:World) (hd:zaF w P il d row) (hn:d.structs.length≤100000) :
  Calls Tryz.prog 45 #[.agg row.toArray,.string nm] w fun e w'=>∃ v,e=.returned (.tuple #[v,.bool r.isSome])∧StrV w P r v∧Below w.heap.size w w':=by
 obtain ⟨vs,vv,bda,bdn,bdc,lna,lnn,lnc,rfl,⟨cs,hsl,hrows⟩,hv⟩:=hd
 obtain ⟨av,cv,rfl,hblk⟩:=hsl.form
 obtain ⟨au,nu,cu,rfl⟩:=hv.shape
 obtain ⟨N,hN⟩:∃ N,d.structs.length=N:=⟨_,rfl⟩
 have HN:=hd_ hN
 rw [hN] at hn hblk hsl ⊢
 have HR:=hd_ hr
 have HROWS:=hd_ hrows
 have HBLK:=hd_ hblk
 obtain ⟨nb,hnb⟩:∃ nb:ByteArray,(⟨d.name.toArray⟩:ByteArray)=nb:=⟨_,rfl⟩
 rw [hnb]
 clear hv hsl hr hrows hblk hN hnb
 go_enter Tryz.func45,Tryz.ntmps45
 go_upto_region 1 with fail
 refine zaa (P:=Code.wp _ _ _ _) (F:=fun W=>Bl W w.heap.size #[.string nb,.slice av N cv,.slice au nu cu,.bool il,.slice bda bdn bdc,.slice lna lnn lnc] 28∧Bl W (w.heap.size+1) #[.string ⟨#[]⟩,.slice none 0 0,.int .i64 0] 64∧Below w.heap.size w W)
  ⟨(Bl.new _ _ _).alloc _,Bl.newAt _ (by simp),(br_.alloc nl_ _).alloc (by simp) _⟩ ?_
 intro w1 ⟨P1,R1,B1⟩
 obtain ⟨-,p1,-,-,-,-⟩:=P1.cells6
 have k1:=P1.lt
 have R1:=hd_ R1
 have B1:=hd_ B1
 clear P1
 go_wp2_with fail
 go_loopw [11] (fun v11 wr=>RRel (∃ i:Nat,i≤N∧v11=.int .i64 i∧Hid (Ty.structOf (d.structs.drop i) nm.data.toList=r)∧Hid (Bl wr (w.heap.size+1) #[.string ⟨#[]⟩,.slice none 0 0,.int .i64 0] 64)∧Hid (Below w.heap.size w wr))) (fun v11 _=>N - (intOf v11).toNat)
 case atStart=>exact RRel.mk ⟨0,by omega,rfl,HR,R1,B1⟩
 case round=>
  obtain ⟨i,hi,rfl,HR2,R2,B2⟩:=hrel.it
  clear hrel HR R1 B1 p1 k1
  obtain ⟨w2,rfl⟩:∃ w2,w2=wr:=⟨_,rfl⟩
  by_cases hlt:i < N
  ·obtain ⟨s,hs⟩:∃ s,d.structs[i]? = some s:=⟨d.structs[i]'(by have:=HN.out;omega),by rw [List.getElem?_eq_getElem]⟩
   have HNX:=hd_ (zfU (n:=nm.data.toList) hs)
   obtain ⟨rw',hsv,hcells⟩:=HROWS.out.get hs
   have HSV:=hd_ hsv
   obtain ⟨snm,sa,sl,sc,sat,rfl⟩:=hsv.shape
   have HNM:Hid (s.name=snm.data.toList):=hd_ (by
    obtain ⟨v,h1,_⟩:=hsv
    injection h1 with h2 _
    injection h2 with h2
    rw [h2])
   obtain ⟨g,rfl,hPg,hca⟩:=HBLK.out (by omega)
   have d0:=hca (i*3+0) _ ((hcells 0 (by omega)).trans rfl)
   have d1:=hca (i*3+1) _ ((hcells 1 (by omega)).trans rfl)
   have d2:=hca (i*3+2) _ ((hcells 2 (by omega)).trans rfl)
   have kg:=zac d0
   replace d0:=zab B2.out d0
   replace d1:=zab B2.out d1
   replace d2:=zab B2.out d2
   have z0:0≤(i:Int):=by omega
   have z1:(i:Int) < N:=by omega
   have z2:(i:Int).toNat=i:=by omega
   have z3:IntKind.i64.wrap ((i:Int)+1)=(i:Int)+1:=IntWalk.i64_in _ (by omega)
   have k2:=R2.out.lt
   have kg2:g < w2.heap.size:=by have:=B2.out.size;omega
   clear hsv hcells hPg hca hs
   obtain ⟨dd,hdd⟩:∃ dd,(snm.toList==nm.toList)=dd:=⟨_,rfl⟩
   simp only [Nat.add_zero] at d0
   cases dd with
   | true=>
    have HQ:Hid (s.name=nm.data.toList):=hd_ (by rw [HNM.out,(zav snm nm).1 hdd])
    have HRS:Hid (r=some s):=hd_ (by rw [← HR2.out,HNX.out,if_pos HQ.out])
    go_upto_region 5 with fail
    refine zaa (P:=Code.wp _ _ _ _) (F:=fun W=>Bl W (w.heap.size+1) #[.string ⟨#[]⟩,.slice none 0 0,.int .i64 0] 64∧Bl W w2.heap.size #[.string snm,.slice sa sl sc,.int .i64 sat] 64∧Below w.heap.size w W)
     ⟨R2.out.alloc _,Bl.new _ _ _,B2.out.alloc B2.out.size _⟩ ?_
    clear d0 d1 d2 k2 kg2
    intro w3 ⟨R3,T3,B3⟩
    obtain ⟨q0,q1,q2⟩:=T3.cells3
    obtain ⟨r0,r1,r2⟩:=R3.cells3
    obtain ⟨g0,g1,g2⟩:=R3.free3
    have k3:=T3.lt
    have k4:=R3.lt
    have R3:=hd_ R3
    have B3:=hd_ B3
    clear T3
    go_wp2_with fail
    refine zaa (P:=bodyPost _ _ _ _ _) (F:=fun W=>Bl W (w.heap.size+1) #[.string snm,.slice sa sl sc,.int .i64 sat] 64∧Below w.heap.size w W)
     ⟨R3.out.set3,((B3.out.setCell (by simp) _).setCell (by simp) _).setCell (by simp) _⟩ ?_
    clear q0 q1 q2 r0 r1 r2 g0 g1 g2 k3 k4
    intro w4 ⟨R4,B4⟩
    obtain ⟨r0,r1,r2⟩:=R4.cells3
    refine bodyPost_ret (v:=.tuple #[.agg #[.string snm,.slice sa sl sc,.int .i64 sat],.bool true]) (by simp [results,Tryz.results45,go_sem, *]) rfl ?_
    rw [HRS.out]
    exact ⟨_,rfl,⟨_,rfl,HSV.out⟩,B4⟩
   | false=>
    have HQ:Hid (¬ s.name=nm.data.toList):=hd_ (fun h=>by
     have h2:snm=nm:=ByteArray.ext (Array.toList_inj.1 (by rw [← HNM.out,h]))
     rw [(zav snm nm).2 h2] at hdd
     cases hdd)
    go_wp2_with fail
    go_roundw
    case rel=>exact RRel.mk ⟨i+1,by omega,by simp,hd_ (by rw [← HR2.out,HNX.out,if_neg HQ.out]),hd_ (R2.out.alloc _),hd_ (B2.out.alloc B2.out.size _)⟩
    case measure=>simp [intOf];omega
  ·have HRS:Hid (r=none):=hd_ (by rw [← HR2.out];exact zgR (by have:=HN.out;omega))
   have z1:¬ (i:Int) < N:=by omega
   obtain ⟨r0,r1,r2⟩:=R2.out.cells3
   obtain ⟨g0,g1,g2⟩:=R2.out.free3
   have k4:=R2.out.lt
   go_wp2_with fail
   refine zaa (P:=bodyPost _ _ _ _ _) (F:=fun W=>Bl W (w.heap.size+1) #[.string ⟨#[]⟩,.slice none 0 0,.int .i64 0] 64∧Below w.heap.size w W)
    ⟨R2.out.set3,((B2.out.setCell (by simp) _).setCell (by simp) _).setCell (by simp) _⟩ ?_
   clear r0 r1 r2 g0 g1 g2 k4
   intro w4 ⟨R4,B4⟩
   obtain ⟨r0,r1,r2⟩:=R4.cells3
   refine bodyPost_ret (v:=.tuple #[.agg #[.string ⟨#[]⟩,.slice none 0 0,.int .i64 0],.bool false]) (by simp [results,Tryz.results45,go_sem, *]) rfl ?_
   rw [HRS.out]
   exact ⟨_,rfl,rfl,B4⟩
end Go.Proofs.YtdpkjpjkdmkkpaaGreatDoor
