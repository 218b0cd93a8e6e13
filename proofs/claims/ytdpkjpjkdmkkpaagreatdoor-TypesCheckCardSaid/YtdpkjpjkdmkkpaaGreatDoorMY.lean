/- The walks through the reference's blocks (package rungref15: Pins, Block), and the statements' help Strings. -/
import Derived.Test.YtdpkjpjkdmkkpaaGreatDoorMS
import Derived.Lib.AppendZerosOnto
set_option maxRecDepth 100000
set_option maxHeartbeats 16000000
namespace Go.Proofs.YtdpkjpjkdmkkpaaGreatDoor
open Go.RowKit Lx
theorem zd8 {w:World} {B sz n:Nat} {T:TypeId} {v:Value} {xs:List Value} (h:w.ownsRow B T sz v n xs):∃ a c,v=.slice a n c:=by
 rcases h.2 with ⟨h1,h2⟩ | ⟨g,cap,cur,h1,_⟩
 ·exact ⟨_,_,by rw [h1,h2]⟩
 ·exact ⟨_,_,h1⟩
theorem zaK {w:World} {B X:Nat} {l:List (List UInt8)} (h:Bl w X (strC l).toArray 9) (hB:B≤X) (hl:l.length≤1000):w.ownsRow B 9 1 (.slice (some ⟨X,0,none⟩) l.length l.length) l.length (strC l):=by
 refine ⟨by simp [strC],.inr ⟨X,l.length,(strC l).toArray,rfl,hB,h,Nat.le_refl _,by simp only [maxLen];omega,by simp [strC],?_⟩⟩
 rw [List.take_of_length_le (by simp [strC])]
theorem zjP (w:World) (B:Nat):w.ownsRow B 9 1 (.slice none 0 0) 0 (strC []):=⟨by simp [strC],.inl ⟨rfl,rfl⟩⟩
theorem zgs {x:ByteArray} (h:zbe x=(⟨#[]⟩,⟨#[]⟩,false)):Ty.insOf x.data.toList=[]∧Ty.outsOf x.data.toList=[]:=by
 have h1:=zcs x
 rw [h] at h1
 exact ⟨h1.1.trans (by rfl),h1.2.1.trans (by rfl)⟩
theorem zim (x:ByteArray) (w:World):Calls Tryz.prog 17 #[.string x] w (zf5 x w):=by
 rcases zcO x with ⟨rfl,h2⟩ | ⟨rfl,h2⟩ | ⟨rfl,h2⟩ | ⟨rfl,h2⟩ | ⟨rfl,h2⟩ | ⟨rfl,h2⟩ | ⟨rfl,h2⟩ | ⟨rfl,h2⟩ | ⟨rfl,h2⟩ | ⟨rfl,h2⟩ | ⟨h2,e0,e1,e2,e3,e4,e5,e6,e7,e8,e9⟩
 ·have h3:Ty.insOf [84,79,78]=[[73,78],[80,84]]:=by kernel_rfl
  have h4:Ty.outsOf [84,79,78]=[[81],[69,84]]:=by kernel_rfl
  have H3:=hd_ h3
  have H4:=hd_ h4
  clear h2 h3 h4
  go_enter Tryz.func17,Tryz.ntmps17
  go_wp2
  go_returns
  refine ⟨_,_,rfl,?_,?_,(br_.alloc nl_ _).alloc (by simp) _⟩
  ·rw [show (⟨#[84,79,78]⟩:ByteArray).data.toList=[84,79,78] from rfl,H3.out]
   exact zaK (l:=[[73,78],[80,84]]) ((Bl.new _ _ _).alloc _) nl_ (by decide)
  ·rw [show (⟨#[84,79,78]⟩:ByteArray).data.toList=[84,79,78] from rfl,H4.out]
   exact zaK (l:=[[81],[69,84]]) (Bl.newAt _ (by simp)) (by omega) (by decide)
 ·have h3:Ty.insOf [84,79,70]=[[73,78],[80,84]]:=by kernel_rfl
  have h4:Ty.outsOf [84,79,70]=[[81],[69,84]]:=by kernel_rfl
  have H3:=hd_ h3
  have H4:=hd_ h4
  clear h2 h3 h4
  go_enter Tryz.func17,Tryz.ntmps17
  go_wp2
  go_returns
  refine ⟨_,_,rfl,?_,?_,(br_.alloc nl_ _).alloc (by simp) _⟩
  ·rw [show (⟨#[84,79,70]⟩:ByteArray).data.toList=[84,79,70] from rfl,H3.out]
   exact zaK (l:=[[73,78],[80,84]]) ((Bl.new _ _ _).alloc _) nl_ (by decide)
  ·rw [show (⟨#[84,79,70]⟩:ByteArray).data.toList=[84,79,70] from rfl,H4.out]
   exact zaK (l:=[[81],[69,84]]) (Bl.newAt _ (by simp)) (by omega) (by decide)
 ·have h3:Ty.insOf [84,80]=[[73,78],[80,84]]:=by kernel_rfl
  have h4:Ty.outsOf [84,80]=[[81],[69,84]]:=by kernel_rfl
  have H3:=hd_ h3
  have H4:=hd_ h4
  clear h2 h3 h4
  go_enter Tryz.func17,Tryz.ntmps17
  go_wp2
  go_returns
  refine ⟨_,_,rfl,?_,?_,(br_.alloc nl_ _).alloc (by simp) _⟩
  ·rw [show (⟨#[84,80]⟩:ByteArray).data.toList=[84,80] from rfl,H3.out]
   exact zaK (l:=[[73,78],[80,84]]) ((Bl.new _ _ _).alloc _) nl_ (by decide)
  ·rw [show (⟨#[84,80]⟩:ByteArray).data.toList=[84,80] from rfl,H4.out]
   exact zaK (l:=[[81],[69,84]]) (Bl.newAt _ (by simp)) (by omega) (by decide)
 ·have h3:Ty.insOf [67,84,85]=[[67,85],[82],[80,86]]:=by kernel_rfl
  have h4:Ty.outsOf [67,84,85]=[[81],[67,86]]:=by kernel_rfl
  have H3:=hd_ h3
  have H4:=hd_ h4
  clear h2 h3 h4
  go_enter Tryz.func17,Tryz.ntmps17
  go_wp2
  go_returns
  refine ⟨_,_,rfl,?_,?_,(br_.alloc nl_ _).alloc (by simp) _⟩
  ·rw [show (⟨#[67,84,85]⟩:ByteArray).data.toList=[67,84,85] from rfl,H3.out]
   exact zaK (l:=[[67,85],[82],[80,86]]) ((Bl.new _ _ _).alloc _) nl_ (by decide)
  ·rw [show (⟨#[67,84,85]⟩:ByteArray).data.toList=[67,84,85] from rfl,H4.out]
   exact zaK (l:=[[81],[67,86]]) (Bl.newAt _ (by simp)) (by omega) (by decide)
 ·have h3:Ty.insOf [67,84,68]=[[67,68],[76,68],[80,86]]:=by kernel_rfl
  have h4:Ty.outsOf [67,84,68]=[[81],[67,86]]:=by kernel_rfl
  have H3:=hd_ h3
  have H4:=hd_ h4
  clear h2 h3 h4
  go_enter Tryz.func17,Tryz.ntmps17
  go_wp2
  go_returns
  refine ⟨_,_,rfl,?_,?_,(br_.alloc nl_ _).alloc (by simp) _⟩
  ·rw [show (⟨#[67,84,68]⟩:ByteArray).data.toList=[67,84,68] from rfl,H3.out]
   exact zaK (l:=[[67,68],[76,68],[80,86]]) ((Bl.new _ _ _).alloc _) nl_ (by decide)
  ·rw [show (⟨#[67,84,68]⟩:ByteArray).data.toList=[67,84,68] from rfl,H4.out]
   exact zaK (l:=[[81],[67,86]]) (Bl.newAt _ (by simp)) (by omega) (by decide)
 ·have h3:Ty.insOf [67,84,85,68]=[[67,85],[67,68],[82],[76,68],[80,86]]:=by kernel_rfl
  have h4:Ty.outsOf [67,84,85,68]=[[81,85],[81,68],[67,86]]:=by kernel_rfl
  have H3:=hd_ h3
  have H4:=hd_ h4
  clear h2 h3 h4
  go_enter Tryz.func17,Tryz.ntmps17
  go_wp2
  go_returns
  refine ⟨_,_,rfl,?_,?_,(br_.alloc nl_ _).alloc (by simp) _⟩
  ·rw [show (⟨#[67,84,85,68]⟩:ByteArray).data.toList=[67,84,85,68] from rfl,H3.out]
   exact zaK (l:=[[67,85],[67,68],[82],[76,68],[80,86]]) ((Bl.new _ _ _).alloc _) nl_ (by decide)
  ·rw [show (⟨#[67,84,85,68]⟩:ByteArray).data.toList=[67,84,85,68] from rfl,H4.out]
   exact zaK (l:=[[81,85],[81,68],[67,86]]) (Bl.newAt _ (by simp)) (by omega) (by decide)
 ·have h3:Ty.insOf [82,95,84,82,73,71]=[[67,76,75]]:=by kernel_rfl
  have h4:Ty.outsOf [82,95,84,82,73,71]=[[81]]:=by kernel_rfl
  have H3:=hd_ h3
  have H4:=hd_ h4
  clear h2 h3 h4
  go_enter Tryz.func17,Tryz.ntmps17
  go_wp2
  go_returns
  refine ⟨_,_,rfl,?_,?_,(br_.alloc nl_ _).alloc (by simp) _⟩
  ·rw [show (⟨#[82,95,84,82,73,71]⟩:ByteArray).data.toList=[82,95,84,82,73,71] from rfl,H3.out]
   exact zaK (l:=[[67,76,75]]) ((Bl.new _ _ _).alloc _) nl_ (by decide)
  ·rw [show (⟨#[82,95,84,82,73,71]⟩:ByteArray).data.toList=[82,95,84,82,73,71] from rfl,H4.out]
   exact zaK (l:=[[81]]) (Bl.newAt _ (by simp)) (by omega) (by decide)
 ·have h3:Ty.insOf [70,95,84,82,73,71]=[[67,76,75]]:=by kernel_rfl
  have h4:Ty.outsOf [70,95,84,82,73,71]=[[81]]:=by kernel_rfl
  have H3:=hd_ h3
  have H4:=hd_ h4
  clear h2 h3 h4
  go_enter Tryz.func17,Tryz.ntmps17
  go_wp2
  go_returns
  refine ⟨_,_,rfl,?_,?_,(br_.alloc nl_ _).alloc (by simp) _⟩
  ·rw [show (⟨#[70,95,84,82,73,71]⟩:ByteArray).data.toList=[70,95,84,82,73,71] from rfl,H3.out]
   exact zaK (l:=[[67,76,75]]) ((Bl.new _ _ _).alloc _) nl_ (by decide)
  ·rw [show (⟨#[70,95,84,82,73,71]⟩:ByteArray).data.toList=[70,95,84,82,73,71] from rfl,H4.out]
   exact zaK (l:=[[81]]) (Bl.newAt _ (by simp)) (by omega) (by decide)
 ·have h3:Ty.insOf [83,82]=[[83,49],[82]]:=by kernel_rfl
  have h4:Ty.outsOf [83,82]=[[81,49]]:=by kernel_rfl
  have H3:=hd_ h3
  have H4:=hd_ h4
  clear h2 h3 h4
  go_enter Tryz.func17,Tryz.ntmps17
  go_wp2
  go_returns
  refine ⟨_,_,rfl,?_,?_,(br_.alloc nl_ _).alloc (by simp) _⟩
  ·rw [show (⟨#[83,82]⟩:ByteArray).data.toList=[83,82] from rfl,H3.out]
   exact zaK (l:=[[83,49],[82]]) ((Bl.new _ _ _).alloc _) nl_ (by decide)
  ·rw [show (⟨#[83,82]⟩:ByteArray).data.toList=[83,82] from rfl,H4.out]
   exact zaK (l:=[[81,49]]) (Bl.newAt _ (by simp)) (by omega) (by decide)
 ·have h3:Ty.insOf [82,83]=[[83],[82,49]]:=by kernel_rfl
  have h4:Ty.outsOf [82,83]=[[81,49]]:=by kernel_rfl
  have H3:=hd_ h3
  have H4:=hd_ h4
  clear h2 h3 h4
  go_enter Tryz.func17,Tryz.ntmps17
  go_wp2
  go_returns
  refine ⟨_,_,rfl,?_,?_,(br_.alloc nl_ _).alloc (by simp) _⟩
  ·rw [show (⟨#[82,83]⟩:ByteArray).data.toList=[82,83] from rfl,H3.out]
   exact zaK (l:=[[83],[82,49]]) ((Bl.new _ _ _).alloc _) nl_ (by decide)
  ·rw [show (⟨#[82,83]⟩:ByteArray).data.toList=[82,83] from rfl,H4.out]
   exact zaK (l:=[[81,49]]) (Bl.newAt _ (by simp)) (by omega) (by decide)
 ·obtain ⟨h3,h4⟩:=zgs h2
  have H3:=hd_ h3
  have H4:=hd_ h4
  clear h2 h3 h4
  go_enter Tryz.func17,Tryz.ntmps17
  go_wp2
  go_returns
  refine ⟨_,_,rfl,?_,?_,Below.refl _ _⟩
  ·rw [H3.out];exact zjP _ _
  ·rw [H4.out];exact zjP _ _
theorem zjh (x:ByteArray):Ty.block x.data.toList=decide (0 < (Ty.insOf x.data.toList).length):=by
 rcases zcO x with ⟨rfl,_⟩ | ⟨rfl,_⟩ | ⟨rfl,_⟩ | ⟨rfl,_⟩ | ⟨rfl,_⟩ | ⟨rfl,_⟩ | ⟨rfl,_⟩ | ⟨rfl,_⟩ | ⟨rfl,_⟩ | ⟨rfl,_⟩ | ⟨h2,_⟩
 ·kernel_rfl
 ·kernel_rfl
 ·kernel_rfl
 ·kernel_rfl
 ·kernel_rfl
 ·kernel_rfl
 ·kernel_rfl
 ·kernel_rfl
 ·kernel_rfl
 ·kernel_rfl
 ·rw [(zgs h2).1]
  have h3:Ty.pins x.data.toList=none:=by
   unfold zbe at h2
   cases h:Ty.pins x.data.toList with
   | none=>rfl
   | some p=>rw [h] at h2;simp at h2
  unfold Ty.block
  rw [h3]
  rfl
theorem zck (x:ByteArray) (w:World):Calls Tryz.prog 20 #[.string x] w fun e w'=>e=.returned (.bool (Ty.block x.data.toList))∧Below w.heap.size w w':=by
 rw [zjh]
 obtain ⟨n,hn⟩:∃ n,(Ty.insOf x.data.toList).length=n:=⟨_,rfl⟩
 rw [hn]
 have HN:=hd_ hn
 clear hn
 have HP:=hd_ (zim x w)
 go_enter Tryz.func20,Tryz.ntmps20
 go_wp2_with fail
 refine HP.out.mono ?_
 rintro e w1 ⟨v1,v2,rfl,ho1,ho2,hb⟩
 rw [HN.out] at ho1
 obtain ⟨a1,c1,rfl⟩:=zd8 ho1
 have B1:=hd_ hb
 clear ho1 ho2 hb
 by_cases h0:0 < n
 ·have h1:(0:Int) < n:=by omega
  have HD:Hid (decide (0 < n)=true):=hd_ (by simpa using h0)
  clear h0
  go_wp2
  go_ret
  exact ⟨by rw [HD.out];rfl,B1.out⟩
 ·have h1:¬ (0:Int) < n:=by omega
  have HD:Hid (decide (0 < n)=false):=hd_ (by simpa using h0)
  clear h0
  go_wp2
  go_ret
  exact ⟨by rw [HD.out];rfl,B1.out⟩
theorem zcA (n:Nat):(Builtin.zeroCells #[Value.string ⟨#[]⟩] n).size=n:=by
 simp [Builtin.zeroCells]
theorem zlm (n:Nat) (h0:0 < n) (hn:n≤10000) (w:World) :
  Calls Tryz.prog 99 #[.slice none 0 0,.int .i64 n] w fun e w'=>∃ g c,e=.returned (.slice (some ⟨g,0,none⟩) 0 c)∧w'.ownsRow w.heap.size 9 1 (.slice (some ⟨g,0,none⟩) 0 c) 0 []∧Below w.heap.size w w':=by
 obtain ⟨i0,hi,hz0,hz1,hz2⟩:=info_parts zhJ
 have hrz:∀ ty,(Builtin.append_ #[41,3] ty #[.slice none 0 0,.int .i64 (n:Int)]).run Tryz.prog w =
   .ok (.slice (some ⟨w.heap.size,0,none⟩) n (grownCap w n 0 9)) (w.drew.alloc (.cells (Builtin.zeroCells #[Value.string ⟨#[]⟩] n++Builtin.zeroCells #[Value.string ⟨#[]⟩] (grownCap w n 0 9 - n)) 9)):=fun ty=>by
  have h:=Lib.run_append_grow_zeros w 41 3 ty 9 i0 _ .i64 .i64 Tryz.underlying41 Tryz.underlying3 hi hz0 none 0 0 [] (run_firstCells_none w.drew i0.size 0 0 0) n (by omega) (by omega) (by omega) (by omega) (by rw [hz2];omega)
   (by rw [hz2];have:=growslice_fits (old:=0) (need:=0+n) (bytes:=16) (by omega) (by omega);omega)
  simpa [Value.cells] using h
 have hGn:n≤grownCap w n 0 9:=grownCap_ge w _ _ _
 have hG63:=grownCap_le_maxLen w n 0 9 (by unfold maxLen;omega)
 obtain ⟨G,hG⟩:∃ G,G=grownCap w n 0 9:=⟨_,rfl⟩
 rw [← hG] at hrz hGn hG63
 obtain ⟨ob,hob⟩:∃ o:Array Value,Builtin.zeroCells #[Value.string ⟨#[]⟩] n++Builtin.zeroCells #[Value.string ⟨#[]⟩] (G - n)=o:=⟨_,rfl⟩
 have hos:ob.size=G:=by rw [← hob,Array.size_append,zcA,zcA];omega
 rw [hob] at hrz
 have HOS:=hd_ hos
 have HG6:=hd_ hG63
 have g1:G≤9223372036854775807:=by unfold maxLen at hG63;omega
 have z0:0 < (n:Int):=by omega
 have z1:¬ ((n:Int) < 0):=by omega
 have z2:IntKind.i64.wrap (n:Int)=n:=IntWalk.i64_in _ (by omega)
 clear hG hob hos hi hz0 hz1 hz2 hG63
 go_enter Tryz.func99,Tryz.ntmps99
 go_wp2_with (at_builtin;refine Lib.wpList_append_run _ rfl _ _ _ _ rfl _ _ rfl rfl _ _ (hrz _) ?_)
 all_goals
  go_ret
  refine ⟨_,_,rfl,⟨rfl,.inr ⟨_,_,ob,rfl,Nat.le_refl _,?_,Nat.zero_le _,HG6.out,?_,rfl⟩⟩,br_.drew.alloc nl_ _⟩
  ·exact Bl.new w.drew ob 9
  ·rw [HOS.out];omega
theorem zlk (a b:List (List UInt8)):strC (a++b)=strC a++strC b:=by simp [strC]
theorem zi6 {l m:List (List UInt8)} {v1 v2:Value} {X B1 B2:Nat} (w:World) (h1:w.cell? ⟨X,0,none⟩=some v1) (h2:w.cell? ⟨X,1,none⟩=some v2) (o1:w.ownsRow B1 9 1 v1 l.length (strC l)) (o2:w.ownsRow B2 9 1 v2 m.length (strC m))
  (l0:0 < l.length) (m0:0 < m.length) (hl:l.length≤1000) (hm:m.length≤1000) :
  Calls Tryz.prog 73 #[.slice (some ⟨X,0,none⟩) 2 2] w fun e w'=>∃ v,e=.returned v∧w'.ownsRow w.heap.size 9 1 v (l++m).length (strC (l++m))∧Below w.heap.size w w':=by
 obtain ⟨g1,c1,rfl,_,_⟩:=o1.form l0
 obtain ⟨g2,c2,rfl,_,_⟩:=o2.form m0
 have O1:=hd_ o1
 have O2:=hd_ o2
 have H1:=hd_ h1
 have H2:=hd_ h2
 obtain ⟨i0,hi,hz0,hz1,hz2⟩:=info_parts zhJ
 have HI:=hd_ (And.intro hi (And.intro hz0 (And.intro hz1 hz2)))
 obtain ⟨N,hN⟩:∃ n,l.length=n:=⟨_,rfl⟩
 obtain ⟨M,hM⟩:∃ n,m.length=n:=⟨_,rfl⟩
 have HN:=hd_ hN
 have HM:=hd_ hM
 rw [hN] at l0 hl h1 H1 O1
 rw [hM] at m0 hm h2 H2 O2
 have kX:=zac h1
 have s1:IntKind.i64.wrap (0+(N:Int))=(N:Int):=IntWalk.i64_in _ (by omega) |>.trans (by omega)
 have s2:IntKind.i64.wrap ((N:Int)+M)=(N:Int)+M:=IntWalk.i64_in _ (by omega)
 have s3:¬ ((N:Int) < 0):=by omega
 have s4:¬ ((N:Int)+M < 0):=by omega
 have HG:=hd_ (zlm (N+M) (by omega) (by omega) w)
 clear o1 o2 hi hz0 hz1 hz2 hN hM
 go_enter Tryz.func73,Tryz.ntmps73
 go_wp2_with fail
 go_loop [3,11] (fun v3 v11=>RRel (∃ i:Nat,v11=.int .i64 i∧((i=0∧v3=.int .i64 0)∨(i=1∧v3=.int .i64 N)∨(i=2∧v3=.int .i64 ((N:Int)+M))))) (fun _ v11=>2 - (intOf v11).toNat)
 case atStart=>exact RRel.mk ⟨0,rfl,.inl ⟨rfl,rfl⟩⟩
 case round=>
  obtain ⟨i,rfl,⟨rfl,rfl⟩ | ⟨rfl,rfl⟩ | ⟨rfl,rfl⟩⟩:=hrel.it
  ·clear hrel
   go_wp2_with fail
   go_round
   case rel=>exact RRel.mk ⟨1,by simp,.inr (.inl ⟨rfl,by simp [*]⟩)⟩
   case measure=>simp [intOf]
  ·clear hrel
   go_wp2_with fail
   go_round
   case rel=>exact RRel.mk ⟨2,by simp,.inr (.inr ⟨rfl,by simp [*]⟩)⟩
   case measure=>simp [intOf]
  ·clear hrel
   have e9:(((N+M:Nat):Int))=(N:Int)+M:=by omega
   rw [e9] at HG
   clear e9
   go_wp2_with fail
   refine HG.out.mono ?_
   rintro e w1 ⟨g,cp,rfl,ho,hb⟩
   have W1:=hd_ ho
   have B1':=hd_ hb
   clear ho hb h1 h2 HG
   go_wp2_with fail
   go_loopw [6,27] (fun v6 v27 wr=>RRel (∃ (i:Nat) (acc:List (List UInt8)),((i=0∧acc=[])∨(i=1∧acc=l)∨(i=2∧acc=l++m))∧v27=.int .i64 i∧Hid (wr.ownsRow w.heap.size 9 1 v6 acc.length (strC acc))∧Hid (Below w.heap.size w wr))) (fun _ v27 _=>2 - (intOf v27).toNat)
   case atStart=>exact RRel.mk ⟨0,[],.inl ⟨rfl,rfl⟩,rfl,W1,B1'⟩
   case round=>
    obtain ⟨i,acc,hacc,rfl,W2,B2'⟩:=hrel.it
    clear hrel W1 B1'
    obtain ⟨w2,rfl⟩:∃ w2,w2=wr:=⟨_,rfl⟩
    have d1:=zab B2'.out H1.out
    have d2:=zab B2'.out H2.out
    have kx2:=zac d1
    have O1':=hd_ (zae O1.out B2'.out nl_)
    have O2':=hd_ (zae O2.out B2'.out nl_)
    have K2:=hd_ B2'.out.size
    rcases hacc with ⟨rfl,ha⟩ | ⟨rfl,ha⟩ | ⟨rfl,ha⟩
    all_goals
     have ha2:=ha.symm
     subst ha2
     clear ha
    ·go_wp2_with (at_builtin;refine wpList_append_lies _ (by rfl) _ _ _ (by rfl) w.heap.size 9 i0 _ 1 16 Tryz.underlying41 HI.out.1 HI.out.2.1 HI.out.2.2.1 HI.out.2.2.2 rfl (by omega) _ _ (strC []) (by rfl) W2.out ⟨g1,0,none⟩ N c1 (strC l) (by rfl) (by simpa using O1'.out.1) (O1'.out.cells (g:=g1) rfl) (by intro u hu;simp only [strC,List.mem_map] at hu;obtain ⟨a,_,rfl⟩:=hu;rfl) (by omega) (by simp only [maxLen];simp;omega) (by simp;omega) K2.out _ rfl ?_;intro g9 cp9 w3 hown hgrow hat hlt9;have W3:=hd_ hown;have B3:=hd_ (B2'.out.grown hgrow B2'.out.size (fun k hk=>(W2.out.lt k hk).1));clear hown hgrow hat hlt9)
     go_roundw
     case rel=>exact RRel.mk ⟨1,l,.inr (.inl ⟨rfl,rfl⟩),by simp,hd_ (by have:=W3.out;rw [HN.out];simpa [strC] using this),B3⟩
     case measure=>simp [intOf]
    ·have HAL:=hd_ HN.out
     go_wp2_with (at_builtin;refine wpList_append_lies _ (by rfl) _ _ _ (by rfl) w.heap.size 9 i0 _ 1 16 Tryz.underlying41 HI.out.1 HI.out.2.1 HI.out.2.2.1 HI.out.2.2.2 rfl (by omega) _ _ (strC l) (by rfl) W2.out ⟨g2,0,none⟩ M c2 (strC m) (by rfl) (by simpa using O2'.out.1) (O2'.out.cells (g:=g2) rfl) (by intro u hu;simp only [strC,List.mem_map] at hu;obtain ⟨a,_,rfl⟩:=hu;rfl) (by omega) (by simp only [maxLen];have:=HN.out;omega) (by have:=HN.out;omega) K2.out _ rfl ?_;intro g9 cp9 w3 hown hgrow hat hlt9;have W3:=hd_ hown;have B3:=hd_ (B2'.out.grown hgrow B2'.out.size (fun k hk=>(W2.out.lt k hk).1));clear hown hgrow hat hlt9)
     go_roundw
     case rel=>exact RRel.mk ⟨2,l++m,.inr (.inr ⟨rfl,rfl⟩),by simp,hd_ (by have:=W3.out;rw [List.length_append,HM.out,zlk];exact this),B3⟩
     case measure=>simp [intOf]
    ·go_wp2_with fail
     go_ret
     exact ⟨_,rfl,W2.out,B2'.out⟩
end Go.Proofs.YtdpkjpjkdmkkpaaGreatDoor
