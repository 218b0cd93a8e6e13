/- The program's declarations (package types) in plain words: what is wrong with them, their cells, where a cell is. -/
import Derived.Lib.Fields
import Derived.Test.YtdpkjpjkdmkkpaaGreatDoorMQ
namespace Go.Proofs.YtdpkjpjkdmkkpaaGreatDoor.Ty
open Pa (PVar zad zaQ Ini Lit)
def pins (n:List UInt8):Option (List UInt8 × List UInt8):=
 if n=[84,79,78]∨n=[84,79,70]∨n=[84,80] then some ([73,78,32,66,79,79,76,32,80,84,32,84,73,77,69],[81,32,66,79,79,76,32,69,84,32,84,73,77,69])
 else if n=[67,84,85] then some ([67,85,32,66,79,79,76,32,82,32,66,79,79,76,32,80,86,32,73,78,84],[81,32,66,79,79,76,32,67,86,32,73,78,84])
 else if n=[67,84,68] then some ([67,68,32,66,79,79,76,32,76,68,32,66,79,79,76,32,80,86,32,73,78,84],[81,32,66,79,79,76,32,67,86,32,73,78,84])
 else if n=[67,84,85,68] then some ([67,85,32,66,79,79,76,32,67,68,32,66,79,79,76,32,82,32,66,79,79,76,32,76,68,32,66,79,79,76,32,80,86,32,73,78,84],[81,85,32,66,79,79,76,32,81,68,32,66,79,79,76,32,67,86,32,73,78,84])
 else if n=[82,95,84,82,73,71]∨n=[70,95,84,82,73,71] then some ([67,76,75,32,66,79,79,76],[81,32,66,79,79,76])
 else if n=[83,82] then some ([83,49,32,66,79,79,76,32,82,32,66,79,79,76],[81,49,32,66,79,79,76])
 else if n=[82,83] then some ([83,32,66,79,79,76,32,82,49,32,66,79,79,76],[81,49,32,66,79,79,76])
 else none
def words (l:List UInt8):List (List UInt8):=Lib.fields l
def evensF {α:Type}:Bool→List α→List α
 | _,[]=>[]
 | true,a::r=>a::evensF false r
 | false,_::r=>evensF true r
def evens {α:Type} (l:List α):List α:=evensF true l
def block (n:List UInt8):Bool:=(pins n).isSome
def insOf (n:List UInt8):List (List UInt8):=evens (words ((pins n).getD ([],[])).1)
def outsOf (n:List UInt8):List (List UInt8):=evens (words ((pins n).getD ([],[])).2)
def pinF:List (List UInt8)→List UInt8→Int
 | a::k::r,p=>if a=p then Pa.kindOf k else pinF r p
 | _,_=>0
def pin (n p:List UInt8):Int:=pinF (words (((pins n).getD ([],[])).1++32::((pins n).getD ([],[])).2)) p
def structOf (ss:List zad) (n:List UInt8):Option zad:=ss.find? fun s=>decide (s.name=n)
def scalar (k:Int):Bool:=decide (1≤k)&&decide (k≤11)
def low (k:Int):Int:=if k=2 then -128 else if k=3 then -32768 else if k=4∨k=11 then -2147483648 else 0
def high (k:Int):Int:=if k=1 then 1 else if k=2 then 127 else if k=3 then 32767 else if k=4∨k=11 then 2147483647
 else if k=5∨k=8 then 255 else if k=6∨k=9 then 65535 else 4294967295
def inKind (k n:Int):Bool:=decide (low k≤n)&&decide (n≤high k)
def literal (e:Ini) (k:Int):Option Int:=
 match e with
 | .plain l=>if l.op≠1∨(l.kind≠0∧l.kind≠k)∨(k=11∧l.kind≠k) then none else if inKind k l.n then some l.n else none
 | .neg l _=>if l.op=1∧l.kind=0∧k≠11∧inKind k (Pa.neg64 l.n) then some (Pa.neg64 l.n) else none
def first (o:Option Ini) (k:Int):Bool:=match o with
 | none=>true
 | some e=>(literal e k).isSome
def start (o:Option Ini) (k:Int):Int:=match o with
 | none=>0
 | some e=>(literal e k).getD 0
def fieldsErr (seen:List (List UInt8)):List PVar→Option (Int × Int)
 | []=>none
 | f::r=>if f.name ∈ seen then some (f.at_,151) else if scalar f.kind=false then some (f.at_,152) else if first f.init f.kind=false then some (f.at_,154) else fieldsErr (f.name::seen) r
def structsErr (seen:List (List UInt8)):List zad→Option (Int × Int)
 | []=>none
 | s::r=>
  if block s.name=true∨s.name ∈ seen then some (s.at_,151)
  else if s.fields.length=0∨256 < s.fields.length then some (s.at_,155)
  else match fieldsErr [] s.fields with
   | some e=>some e
   | none=>structsErr (s.name::seen) r
def size (ss:List zad) (v:PVar):Int:=
 if scalar v.kind then 1
 else if v.kind=12 then (if scalar v.elem=false∨v.hi < v.lo∨v.lo < -2147483648∨2147483647 < v.hi∨256≤v.hi - v.lo then 0 else v.hi - v.lo+1)
 else if v.kind≠0 then 0
 else match structOf ss v.tname with
  | some s=>s.fields.length
  | none=>if block v.tname then (insOf v.tname).length+(outsOf v.tname).length+3 else 0
def place (v:PVar):Option (Int × Int):=
 let p:=Ad.aParse v.addr
 if p.2.2≠0 then none
 else if (Ad.aBit p.1=true∧v.kind=1)∨(Ad.aBit p.1=false∧(v.kind=3∨v.kind=6∨v.kind=9)) then some (p.1,p.2.1) else none
def varErr (ss:List zad) (names addrs:List (List UInt8)) (v:PVar):Int:=
 if v.name ∈ names∨block v.name=true∨(structOf ss v.name).isSome then 151
 else if size ss v=0 then 152
 else
  let pl:=place v
  let area:=if v.addr=[] then 0 else (pl.getD (0,0)).1
  if v.addr≠[]∧(pl=none∨v.retain=true) then 153
  else if v.addr≠[]∧v.addr ∈ addrs then 151
  else if v.init≠none∧(scalar v.kind=false∨area=1∨area=4∨first v.init v.kind=false) then 154
  else 0
def varsErr (ss:List zad):List PVar→List (List UInt8)→List (List UInt8)→Int→Option (Int × Int)
 | [],_,_,_=>none
 | v::r,names,addrs,cells=>
  if varErr ss names addrs v≠0 then some (v.at_,varErr ss names addrs v)
  else if 4096 < cells+size ss v then some (v.at_,155)
  else varsErr ss r (v.name::names) (v.addr::addrs) (cells+size ss v)
def check (ss:List zad) (vs:List PVar):Option (Int × Int):=
 match structsErr [] ss with
 | some e=>some e
 | none=>match vs[256]? with
  | some v=>some (v.at_,155)
  | none=>varsErr ss vs [] [] 0
structure Cell where
 var:Int
 field:List UInt8
 index:Int
 kind:Int
 retain:Bool
 area:Int
 offset:Int
 init:Int
deriving DecidableEq,Repr
def laid (ss:List zad) (v:PVar) (c:Cell):List Cell:=
 if v.kind=12 then (List.range (v.hi - v.lo+1).toNat).map fun (i:Nat)=>{ c with field:=[],index:=v.lo+(i:Int),kind:=v.elem,init:=0 }
 else if v.kind≠0 then [{ c with field:=[],index:=-1,kind:=v.kind,init:=start v.init v.kind }]
 else match structOf ss v.tname with
  | some s=>s.fields.map fun f=>{ c with field:=f.name,index:=-1,kind:=f.kind,init:=start f.init f.kind }
  | none=>((insOf v.tname++outsOf v.tname).map fun p=>{ c with field:=p,index:=-1,kind:=pin v.tname p,init:=0 })
   ++ ([[49],[50],[51]].map fun p=>{ c with field:=p,index:=-1,kind:=4,init:=0 })
def cellsF (ss:List zad):List PVar→Int→List Cell
 | [],_=>[]
 | v::r,i=>
  let pl:=if v.addr=[] then (0,0) else (place v).getD (0,0)
  laid ss v ⟨i,[],-1,0,v.retain,pl.1,pl.2,0⟩++cellsF ss r (i+1)
def cells (ss:List zad) (vs:List PVar):List Cell:=if check ss vs=none then cellsF ss vs 0 else []
def findF (vs:List PVar) (name field:List UInt8) (index:Int):List Cell→Int→Int
 | [],_=>-1
 | c::r,i=>match vs[c.var.toNat]? with
  | some v=>if v.name=name∧c.field=field∧(c.index=index∨v.kind≠12) then i else findF vs name field index r (i+1)
  | none=>-1
def find (ss:List zad) (vs:List PVar) (name field:List UInt8) (index:Int):Int:=findF vs name field index (cells ss vs) 0
def fieldOf (ss:List zad) (kind:Int) (tname field:List UInt8):Int × Bool:=
 if kind≠0 then (0,false)
 else match structOf ss tname with
  | some s=>match s.fields.find? fun f=>decide (f.name=field) with
   | some f=>(f.kind,true)
   | none=>(0,false)
  | none=>(pin tname field,decide (pin tname field≠0))
end Go.Proofs.YtdpkjpjkdmkkpaaGreatDoor.Ty
set_option maxRecDepth 100000
set_option maxHeartbeats 16000000
namespace Go.Proofs.YtdpkjpjkdmkkpaaGreatDoor
open Go.RowKit Lx Pa
def stW:Nat→ByteArray
 | 0=>⟨#[73,70]⟩
 | 1=>⟨#[67,65,83,69]⟩
 | 2=>⟨#[70,79,82]⟩
 | 3=>⟨#[87,72,73,76,69]⟩
 | 4=>⟨#[82,69,80,69,65,84]⟩
 | 5=>⟨#[69,88,73,84]⟩
 | 6=>⟨#[82,69,84,85,82,78]⟩
 | _=>⟨#[]⟩
def zlw (ts:List Tok) (s:PS):Prop:=s.err=0∧(T ts s).tok≠2∧is ts s [59]=false∧∀ i,i < 7→is ts s (stW i).data.toList=false
def zcl:List UInt8:=[69,78,68,95,80,82,79,71,82,65,77]
structure POk (ts:List Tok) (d:zaQ):Prop where
 ends:zaE ts
 le:ts.length≤100000
 run:∃ s1 s2,Pa.decls ts false ⟨0,0,0⟩=(d,s1)∧zlw ts s1∧Pa.must ts s1 zcl=s2∧s2.err=0∧(T ts s2).tok=0
theorem ziV {b g cap:Nat} {ts:List Tok} {s:PS} {dp:Int} (hn:zlw ts s) (hg:Pa.Good ts 50000 s) (w:World) (hx:Par w b g cap ts s) :
  Calls Tryz.prog 55 #[.pointer (some ⟨b,0,none⟩),.int .i64 dp] w (zbC w b g cap ts (.slice none 0 0) s):=by
 have F0:=hd_ (Fr.start hx)
 obtain ⟨h0,htk,hsc,hw⟩:=hn
 have hb9:s.i≤200000:=by have:=hg.2;have:=hx.le;omega
 have he:eat ts s [59]=(false,s):=by
  unfold eat
  rw [hsc]
  rfl
 have HE:=hd_ (fun W (hW:Par W b g cap ts s)=>zbr (x:=⟨#[59]⟩) he hg.1 hb9 W hW)
 obtain ⟨t,ht⟩:∃ t,T ts s=t:=⟨_,rfl⟩
 have HT:=hd_ (fun W (hW:Par W b g cap ts s)=>zbH ht hg.1 W hW)
 rw [ht] at htk
 have HW:=hd_ (fun i (hi:i < 7) W (hW:Par W b g cap ts s)=>zb9 (x:=stW i) (hw i hi) hg.1 W hW)
 obtain ⟨tk,kd,nn,tx,ta⟩:=t
 simp only [tokV] at HT
 have e2:(tk==2)=false:=by simpa using htk
 have H0:=hd_ h0
 clear hx hg hsc hw hb9 he ht htk h0
 go_enter Tryz.func55,Tryz.ntmps55
 go_wp2_with fail
 go_loopw [5] (fun v5 wr=>RRel (v5=.slice none 0 0∧Hid (Fr w b g cap ts s wr))) (fun _ _=>0)
 case atStart=>exact RRel.mk ⟨rfl,F0⟩
 case round=>
  obtain ⟨rfl,F1⟩:=hrel.it
  clear hrel F0
  obtain ⟨w1,rfl⟩:∃ w1,w1=wr:=⟨_,rfl⟩
  obtain ⟨-,-,d2,-,-,-,-⟩:=F1.out.par.pb.cells
  rw [H0.out] at d2
  have k1:=F1.out.par.pb.lt
  have e3:((0:Int)==0)=true:=rfl
  go_wp2_with fail
  refine (HE.out _ F1.out.par).mono ?_
  rintro e w2 ⟨rfl,ho,hp⟩
  have F2:=hd_ (F1.out.call ho hp)
  clear ho hp
  clear d2 k1
  go_wp2_with fail
  refine (HT.out _ F2.out.par).mono ?_
  rintro e w3 ⟨rfl,hb⟩
  have F3:=hd_ (F2.out.below hb)
  clear hb
  go_upto_region 7 with fail
  refine zaa (P:=Code.wp _ _ _ _) (F:=fun W=>Fr w b g cap ts s W∧Bl W (w3.heap.size+1) #[.string (stW 0),.string (stW 1),.string (stW 2),.string (stW 3),.string (stW 4),.string (stW 5),.string (stW 6)] 9)
   ⟨(F3.out.alloc _).alloc _,Bl.newAt _ (by simp)⟩ ?_
  intro w4 ⟨F4,L4⟩
  have F4:=hd_ F4
  have L4:=hd_ L4
  have nL:w3.heap.size+1≠b:=by have:=F3.out.size;have:=F3.out.lt.1;omega
  clear F1 F2 F3 HE HT
  go_wp2_with fail
  go_loopw [7,9] (fun v7 v9 wr=>RRel (∃ i:Nat,i≤7∧v7=.bool false∧v9=.int .i64 i∧Hid (Fr w b g cap ts s wr)∧Hid (Bl wr (w3.heap.size+1) #[.string (stW 0),.string (stW 1),.string (stW 2),.string (stW 3),.string (stW 4),.string (stW 5),.string (stW 6)] 9))) (fun _ v9 _=>7 - (intOf v9).toNat)
  case atStart=>exact RRel.mk ⟨0,by omega,rfl,rfl,F4,L4⟩
  case round=>
   obtain ⟨i,hi,rfl,rfl,F5,L5⟩:=hrel.it
   clear hrel F4 L4
   obtain ⟨w5,rfl⟩:∃ w5,w5=wr:=⟨_,rfl⟩
   by_cases h7:i < 7
   ·have HWi:=hd_ (HW.out i h7)
    have hc:w5.cell? ⟨w3.heap.size+1,i,none⟩=some (.string (stW i)):=(L5.out.cell (by
     have h8:i=0∨i=1∨i=2∨i=3∨i=4∨i=5∨i=6:=by omega
     rcases h8 with rfl | rfl | rfl | rfl | rfl | rfl | rfl <;> rfl)).1
    obtain ⟨x,hx⟩:∃ x,stW i=x:=⟨_,rfl⟩
    rw [hx] at hc HWi
    have z0:0≤(i:Int):=by omega
    have z1:(i:Int) < 7:=by omega
    have z2:(i:Int).toNat=i:=by omega
    have z3:IntKind.i64.wrap ((i:Int)+1)=(i:Int)+1:=IntWalk.i64_in _ (by omega)
    have k2:=L5.out.lt
    clear hx
    go_wp2_with (go_at_call 49;refine (HWi.out _ F5.out.par).mono ?_;rintro e w6 ⟨rfl,hb⟩;have F6:=hd_ (F5.out.below hb);have L6:=hd_ (L5.out.below hb);clear hb)
    go_roundw
    case rel=>exact RRel.mk ⟨i+1,by omega,rfl,by simp,F6,L6⟩
    case measure=>simp [intOf];omega
   ·have h8:i=7:=by omega
    subst h8
    clear h7 hi
    go_wp2_with fail
    go_ret
    exact F5.out.post rfl
theorem Mid.setHigh {lo hi X:Nat} {w W:World} (h:Mid lo hi w W) (hX:hi≤X) (o:Nat) (v:Value):Mid lo hi w (W.setCell ⟨X,o,none⟩ v):=
 ⟨fun a h1 h2=>(Below.heap_setCell _ _ _ _ (by simp only;omega)).trans (h.blk a h1 h2),by simpa [World.setCell] using h.le⟩
theorem SSl.shape {w:World} {P:Nat→Prop} {l:List zad} {v:Value} (h:SSl w P l v):∃ a n c,v=.slice a n c:=by
 obtain ⟨cs,h2,_⟩:=h
 rcases h2 with ⟨_,_,h2⟩ | ⟨a,c,h2,_⟩
 ·exact ⟨_,_,_,h2⟩
 ·exact ⟨_,_,_,h2⟩
theorem VSl.shape {w:World} {P:Nat→Prop} {l:List PVar} {v:Value} (h:VSl w P l v):∃ a n c,v=.slice a n c:=by
 obtain ⟨cs,h2,_⟩:=h
 rcases h2 with ⟨_,_,h2⟩ | ⟨a,c,h2,_⟩
 ·exact ⟨_,_,_,h2⟩
 ·exact ⟨_,_,_,h2⟩
theorem zaF.keeps {w w':World} {P P':Nat→Prop} {il:Bool} {d:zaQ} {row:List Value} (h:zaF w P il d row) (hk:zbR P P' w w'):zaF w' P' il d row:=by
 obtain ⟨vs,vv,bda,bdn,bdc,lna,lnn,lnc,h1,h2,h3⟩:=h
 exact ⟨vs,vv,bda,bdn,bdc,lna,lnn,lnc,h1,h2.keeps hk,h3.keeps hk⟩
theorem zk6 {x:ByteArray} {ts:List Tok} {d:zaQ} (hts:zaP x.data.toList false=.ok ts) (hok:POk ts d) (hs:x.size≤65536) (w:World) :
  Calls Tryz.prog 28 #[.string x] w fun e w'=>∃ row,e=.returned (.tuple #[.agg row.toArray,.int .i64 0,.int .i64 0])∧zaF w' (Btw w.heap.size w'.heap.size) false d row∧Below w.heap.size w w':=by
 obtain ⟨hen,hle,s1,s2,h_d,h_ns,h_m,h_e2,h_t2⟩:=hok
 have hg0:Pa.Good ts 0 ⟨0,0,0⟩:=⟨fun _=>hen.1,by simp⟩
 have hg1:Pa.Good ts 0 s1:=by
  have h1:Pa.Good ts 10 (Pa.decls ts false ⟨0,0,0⟩).2:=by
   unfold Pa.decls
   exact zg6 hen _ 10 _ ((((zdh hen _ 8 _ ((hg0.step hen false).mono (by omega)) (by omega)).must hen _).name hen).mono (by omega)) (by omega)
  rw [h_d] at h1
  exact h1.zero h_ns.1
 have hg2:Pa.Good ts 0 s2:=h_m▸hg1.must hen _
 have HTK:=hd_ (fun W=>zb1 (s:=x) (il:=false) hts (by omega) W)
 have HD:=hd_ (fun b g cap W (hW:Par W b g cap ts ⟨0,0,0⟩)=>zd9 h_d hg0 (by omega) W hW)
 have HST:=hd_ (fun b g cap W (hW:Par W b g cap ts s1)=>ziV (dp:=1) h_ns (hg1.mono (by omega)) W hW)
 have HM:=hd_ (fun b g cap W (hW:Par W b g cap ts s1)=>zaD (x:=⟨#[69,78,68,95,80,82,79,71,82,65,77]⟩) h_m hg1.1 (by have:=hg1.2;omega) W hW)
 obtain ⟨t,ht⟩:∃ t,T ts s2=t:=⟨_,rfl⟩
 have HT:=hd_ (fun b g cap W (hW:Par W b g cap ts s2)=>zbH ht hg2.1 W hW)
 rw [ht] at h_t2
 have hpos:=hen.1
 have HEN:=hd_ hen
 have HLE:=hd_ hle
 have HE2:=hd_ h_e2
 obtain ⟨tk,kd,nn,tx,ta⟩:=t
 simp only at h_t2
 subst h_t2
 simp only [tokV] at HT
 have hf0:=zaV
 clear hts h_d h_ns h_m h_e2 hg0 hg1 hg2 ht hs hen hle
 go_enter Tryz.func28,Tryz.ntmps28
 go_wp2_with fail
 refine (HTK.out _).mono ?_
 rintro e w1 ⟨v,rfl,hown,hb1⟩
 obtain ⟨g,cap,rfl,hg1,hg2⟩:=hown.form hpos
 have TC1:=hd_ (TC.own hown rfl)
 have R1:=hd_ ((Bl.new w _ _).below hb1)
 have B1:Hid (Below w.heap.size w w1):=hd_ (((Below.refl _ w).alloc nl_ _).trans (hb1.mono (by simp)))
 have hsz:w.heap.size+1≤w1.heap.size:=by have:=hb1.size;simpa using this
 clear hown hb1
 go_upto_region 5 with fail
 refine zaa (P:=Code.wp _ _ _ _) (F:=fun W=>Par W w1.heap.size g cap ts ⟨0,0,0⟩∧Bl W w.heap.size #[.string ⟨#[]⟩,.slice none 0 0,.slice none 0 0,.bool false,.slice none 0 0,.slice none 0 0] 28∧Below w.heap.size w W∧w1.heap.size+1≤W.heap.size)
  ⟨⟨Bl.new _ _ _,TC1.out.below (br_.alloc nl_ _),by omega,HEN.out,HLE.out⟩,R1.out.alloc _,B1.out.alloc (by omega) _,by simp⟩ ?_
 intro w2 ⟨P2,R2,B2,hsz2⟩
 have F2:=hd_ (Fr.start P2)
 have R2:=hd_ R2
 have B2:=hd_ B2
 obtain ⟨b,hbq⟩:∃ b,w1.heap.size=b:=⟨_,rfl⟩
 rw [hbq] at F2 hsz2 hsz ⊢
 clear P2 TC1 R1 B1 hbq
 have n1:w.heap.size≠b:=by omega
 go_wp2_with fail
 refine (HD.out _ _ _ _ F2.out.par).mono ?_
 rintro e w3 ⟨row,rfl,hd,ho,hp⟩
 obtain ⟨vs,vv,rfl,hd2,hd3⟩:=hd
 obtain ⟨va,vn,vc,rfl⟩:=hd2.shape
 obtain ⟨ua,un,uc,rfl⟩:=hd3.shape
 have D:Hid (zaF w3 (Btw w2.heap.size w3.heap.size) false d [.string ⟨d.name.toArray⟩,.slice va vn vc,.slice ua un uc,.bool false,.slice none 0 0,.slice none 0 0]):=hd_ ⟨_,_,_,_,_,_,_,_,rfl,hd2,hd3⟩
 have F3:=hd_ (F2.out.call ho hp)
 have R3:=hd_ (R2.out.only ho n1)
 have M3:=hd_ (Mid.refl (lo:=w2.heap.size) (Nat.le_refl w3.heap.size))
 have hsz3:=ho.size
 clear hd2 hd3 ho hp
 have nP:w3.heap.size≠b:=by omega
 go_wp2_with fail
 refine (HST.out _ _ _ _ (F3.out.alloc _).par).mono ?_
 rintro e w4 ⟨rfl,ho,hp⟩
 have F4:=hd_ ((F3.out.alloc _).call ho hp)
 have R4:=hd_ ((R3.out.alloc _).only ho n1)
 have O4:=hd_ ((Bl.new _ _ _).only ho nP)
 have M4:=hd_ ((M3.out.alloc _).only (by omega) ho)
 clear ho hp
 obtain ⟨-,-,-,-,r4,-⟩:=O4.out.cells6
 obtain ⟨-,-,-,-,g4,-⟩:=O4.out.free6
 have k2:=O4.out.lt
 go_upto_region 7 with fail
 refine zaa (P:=Code.wp _ _ _ _) (F:=fun W=>Fr w2 b g cap ts s1 W∧Bl W w.heap.size #[.string ⟨#[]⟩,.slice none 0 0,.slice none 0 0,.bool false,.slice none 0 0,.slice none 0 0] 28∧Bl W w3.heap.size #[.string ⟨d.name.toArray⟩,.slice va vn vc,.slice ua un uc,.bool false,.slice none 0 0,.slice none 0 0] 28∧Mid w2.heap.size w3.heap.size w3 W)
  ⟨F4.out.far (by omega) _ _,R4.out.other (by omega) _ _,by simpa using O4.out.set 4 _,M4.out.setHigh nl_ _ _⟩ ?_
 clear r4 g4 k2
 intro w5 ⟨F5,R5,O5,M5⟩
 have F5:=hd_ F5
 have R5:=hd_ R5
 have O5:=hd_ O5
 have M5:=hd_ M5
 go_wp2_with fail
 refine (HM.out _ _ _ _ F5.out.par).mono ?_
 rintro e w6 ⟨rfl,ho,hp⟩
 have F6:=hd_ (F5.out.call ho hp)
 have R6:=hd_ (R5.out.only ho n1)
 have O6:=hd_ (O5.out.only ho nP)
 have M6:=hd_ (M5.out.only (by omega) ho)
 clear ho hp
 obtain ⟨-,-,d2,-,-,-,-⟩:=F6.out.par.pb.cells
 rw [HE2.out] at d2
 have k1:=F6.out.par.pb.lt
 have e3:((0:Int)==0)=true:=rfl
 have e4:((0:Int) != 0)=false:=rfl
 go_wp2_with fail
 refine (HT.out _ _ _ _ F6.out.par).mono ?_
 rintro e w7 ⟨rfl,hb⟩
 have F7:=hd_ (F6.out.below hb)
 have R7:=hd_ (R6.out.below hb)
 have O7:=hd_ (O6.out.below hb)
 have M7:=hd_ (M6.out.below hb)
 clear hb d2 k1
 obtain ⟨-,-,d2,-,-,-,-⟩:=F7.out.par.pb.cells
 rw [HE2.out] at d2
 have k1:=F7.out.par.pb.lt
 obtain ⟨q0,q1,q2,q3,q4,q5⟩:=O7.out.cells6
 obtain ⟨r0,r1,r2,r3,r4,r5⟩:=R7.out.cells6
 obtain ⟨g0,g1,g2,g3,g4,g5⟩:=R7.out.free6
 have k2:=O7.out.lt
 have k3:=R7.out.lt
 have BZ:Hid (Below w.heap.size w w7):=hd_ (B2.out.trans (F7.out.only.below (by omega) (by omega)))
 go_wp2_with fail
 refine zaa (P:=bodyPost _ _ _ _ _) (F:=fun W=>Bl W w.heap.size #[.string ⟨d.name.toArray⟩,.slice va vn vc,.slice ua un uc,.bool false,.slice none 0 0,.slice none 0 0] 28∧Mid w2.heap.size w3.heap.size w3 W∧Below w.heap.size w W)
  ⟨R7.out.set6,((((((M7.out.set (by omega) _ _).set (by omega) _ _).set (by omega) _ _).set (by omega) _ _).set (by omega) _ _).set (by omega) _ _),((((((BZ.out.setCell nl_ _).setCell nl_ _).setCell nl_ _).setCell nl_ _).setCell nl_ _).setCell nl_ _)⟩ ?_
 clear q0 q1 q2 q3 q4 q5 r0 r1 r2 r3 r4 r5 g0 g1 g2 g3 g4 g5 k2 k3 d2 k1
 intro wz ⟨RZ,MZ,BZ⟩
 obtain ⟨r0,r1,r2,r3,r4,r5⟩:=RZ.cells6
 refine bodyPost_ret (v:=.tuple #[.agg #[.string ⟨d.name.toArray⟩,.slice va vn vc,.slice ua un uc,.bool false,.slice none 0 0,.slice none 0 0],.int .i64 0,.int .i64 0]) (by simp [results,Tryz.results28,go_sem, *]) rfl ?_
 exact ⟨_,rfl,D.out.keeps (MZ.keeps (by omega)),BZ⟩
def zbF (x:ByteArray):List Tok:=match zaP x.data.toList false with
 | .ok ts=>ts
 | .error _=>[]
def zbI (x:ByteArray):zaQ:=(Pa.decls (zbF x) false ⟨0,0,0⟩).1
def zcH (x:ByteArray):PS:=(Pa.decls (zbF x) false ⟨0,0,0⟩).2
def zeW (x:ByteArray):Bool:=
 (match zaP x.data.toList false with | .ok _=>true | .error _=>false) &&
 decide (0 < (zbF x).length)&&decide ((zbF x).length≤100000)&&decide (((zbF x).getD ((zbF x).length - 1) tok0).tok=0) &&
 decide ((zcH x).err=0)&&decide ((T (zbF x) (zcH x)).tok≠2)&&(is (zbF x) (zcH x) [59]==false) &&
 (List.range 7).all (fun i=>is (zbF x) (zcH x) (stW i).data.toList==false) &&
 decide ((Pa.must (zbF x) (zcH x) zcl).err=0)&&decide ((T (zbF x) (Pa.must (zbF x) (zcH x) zcl)).tok=0)
theorem zcM {x:ByteArray} (h:zeW x=true):zaP x.data.toList false=.ok (zbF x):=by
 unfold zeW at h
 simp only [Bool.and_eq_true] at h
 have h1:=h.1.1.1.1.1.1.1.1.1
 unfold zbF
 revert h1
 cases zaP x.data.toList false with
 | ok ts=>intro _;rfl
 | error q=>intro h1;cases h1
theorem zgo {x:ByteArray} (h:zeW x=true):POk (zbF x) (zbI x):=by
 unfold zeW at h
 simp only [Bool.and_eq_true,decide_eq_true_eq,beq_iff_eq,List.all_eq_true,List.mem_range] at h
 obtain ⟨⟨⟨⟨⟨⟨⟨⟨⟨_,h1⟩,h2⟩,h3⟩,h4⟩,h5⟩,h6⟩,h7⟩,h8⟩,h9⟩:=h
 refine ⟨⟨h1,fun t ht=>?_⟩,h2,zcH x,_,rfl,⟨h4,h5,h6,h7⟩,rfl,h8,h9⟩
 rw [List.getD_eq_getElem?_getD,ht] at h3
 exact h3
def zes:ByteArray:=⟨#[84,89,80,69,32,115,32,58,32,83,84,82,85,67,84,32,97,32,58,32,73,78,84,32,58,61,32,51,59,32,69,78,68,95,83,84,82,85,67,84,59,32,69,78,68,95,84,89,80,69,32,80,82,79,71,82,65,77,32,112,32,86,65,82,32,120,32,58,32,65,82,82,65,89,91,50,46,46,52,93,32,79,70,32,73,78,84,59,32,116,32,58,32,84,79,78,59,32,121,32,58,32,115,59,32,69,78,68,95,86,65,82,32,86,65,82,32,82,69,84,65,73,78,32,122,32,58,32,66,79,79,76,59,32,69,78,68,95,86,65,82,32,69,78,68,95,80,82,79,71,82,65,77]⟩
def zi8:ByteArray:=⟨#[80,82,79,71,82,65,77,32,112,32,86,65,82,32,120,32,58,32,73,78,84,59,32,120,32,58,32,73,78,84,59,32,69,78,68,95,86,65,82,32,69,78,68,95,80,82,79,71,82,65,77]⟩
theorem zin:zeW zes=true:=by kernel_rfl
theorem zio:zeW zi8=true:=by kernel_rfl
theorem zgg:Ty.check (zbI zes).structs (zbI zes).vars=none:=by kernel_rfl
theorem zgh:Ty.check (zbI zi8).structs (zbI zi8).vars=some (23,151):=by kernel_rfl
def zba:List Ty.Cell:=Ty.cells (zbI zes).structs (zbI zes).vars
theorem zcJ:zba.length=12:=by kernel_rfl
theorem zl9:(zba.getD 0 ⟨0,[],0,0,false,0,0,0⟩).index=2:=by kernel_rfl
theorem zkR:(zba.getD 10 ⟨0,[],0,0,false,0,0,0⟩).init=3:=by kernel_rfl
theorem zkS:(zba.getD 11 ⟨0,[],0,0,false,0,0,0⟩).retain=true:=by kernel_rfl
theorem ziJ:Ty.find (zbI zes).structs (zbI zes).vars [116] [69,84] 0=6:=by kernel_rfl
theorem zhj:Ty.fieldOf (zbI zes).structs 0 [84,79,78] [69,84]=(11,true):=by kernel_rfl
end Go.Proofs.YtdpkjpjkdmkkpaaGreatDoor
