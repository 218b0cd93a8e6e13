/- The walk through the reference's Pin (package rungref15). -/
import Derived.Test.YtdpkjpjkdmkkpaaGreatDoorNB
set_option maxRecDepth 100000
set_option maxHeartbeats 16000000
namespace Go.Proofs.YtdpkjpjkdmkkpaaGreatDoor
open Go.RowKit Lx
open Pa
def ixF (n:List UInt8):List zad→Int→Int
 | [],_=>-1
 | s::r,i=>if s.name=n then i else ixF n r (i+1)
theorem zkN {n:List UInt8} {l:List zad} {i:Nat} {s:zad} {k:Int} (h:l[i]? = some s):ixF n (l.drop i) k=if s.name=n then k else ixF n (l.drop (i+1)) (k+1):=by
 obtain ⟨hi,hs⟩:=List.getElem?_eq_some_iff.1 h
 rw [List.drop_eq_getElem_cons hi,hs,ixF]
theorem zl6 {n:List UInt8} {l:List zad} {i:Nat} {k:Int} (h:l.length≤i):ixF n (l.drop i) k=-1:=by
 rw [List.drop_of_length_le h];rfl
theorem zbL {d:zaQ} {il:Bool} {row:List Value} {P:Nat→Prop} {nm:ByteArray} {r:Int} (hr:ixF nm.data.toList d.structs 0=r) (w:World) (hd:zaF w P il d row) (hn:d.structs.length≤100000) :
  Calls Tryz.prog 29 #[.agg row.toArray,.string nm] w fun e w'=>e=.returned (.int .i64 r)∧Below w.heap.size w w':=by
 obtain ⟨vs,vv,bda,bdn,bdc,lna,lnn,lnc,rfl,⟨cs,hsl,hrows⟩,hv⟩:=hd
 obtain ⟨av,cv,rfl,hblk⟩:=hsl.form
 obtain ⟨au,nu,cu,rfl⟩:=hv.shape
 obtain ⟨N,hN⟩:∃ N,d.structs.length=N:=⟨_,rfl⟩
 have HN:=hd_ hN
 rw [hN] at hn hblk hsl ⊢
 have HR:Hid (ixF nm.data.toList (d.structs.drop 0) ((0:Nat):Int)=r):=hd_ hr
 have HROWS:=hd_ hrows
 have HBLK:=hd_ hblk
 obtain ⟨nb,hnb⟩:∃ nb:ByteArray,(⟨d.name.toArray⟩:ByteArray)=nb:=⟨_,rfl⟩
 rw [hnb]
 clear hv hsl hr hrows hblk hN hnb
 go_enter Tryz.func29,Tryz.ntmps29
 go_upto_region 1 with fail
 refine zaa (P:=Code.wp _ _ _ _) (F:=fun W=>Bl W w.heap.size #[.string nb,.slice av N cv,.slice au nu cu,.bool il,.slice bda bdn bdc,.slice lna lnn lnc] 28∧Below w.heap.size w W)
  ⟨Bl.new _ _ _,br_.alloc nl_ _⟩ ?_
 intro w1 ⟨P1,B1⟩
 obtain ⟨-,p1,-,-,-,-⟩:=P1.cells6
 have k1:=P1.lt
 have B1:=hd_ B1
 clear P1
 go_wp2_with fail
 go_loop [5] (fun v5=>RRel (∃ i:Nat,i≤N∧v5=.int .i64 i∧Hid (ixF nm.data.toList (d.structs.drop i) (i:Int)=r))) (fun v5=>N - (intOf v5).toNat)
 case atStart=>exact RRel.mk ⟨0,by omega,rfl,HR⟩
 case round=>
  obtain ⟨i,hi,rfl,HR2⟩:=hrel.it
  clear hrel HR
  by_cases hlt:i < N
  ·obtain ⟨s,hs⟩:∃ s,d.structs[i]? = some s:=⟨d.structs[i]'(by have:=HN.out;omega),by rw [List.getElem?_eq_getElem]⟩
   have HNX:=hd_ (zkN (n:=nm.data.toList) (k:=(i:Int)) hs)
   obtain ⟨rw',hsv,hcells⟩:=HROWS.out.get hs
   obtain ⟨snm,sa,sl,sc,sat,rfl⟩:=hsv.shape
   have HNM:Hid (s.name=snm.data.toList):=hd_ (by
    obtain ⟨v,h1,_⟩:=hsv
    injection h1 with h2 _
    injection h2 with h2
    rw [h2])
   obtain ⟨g,rfl,hPg,hca⟩:=HBLK.out (by omega)
   have d0:=hca (i*3+0) _ ((hcells 0 (by omega)).trans rfl)
   simp only [Nat.add_zero] at d0
   have kg0:=zac d0
   replace d0:=zab B1.out d0
   have kg:=zac d0
   have z0:0≤(i:Int):=by omega
   have z1:(i:Int) < N:=by omega
   have z2:(i:Int).toNat=i:=by omega
   have z3:IntKind.i64.wrap ((i:Int)+1)=(i:Int)+1:=IntWalk.i64_in _ (by omega)
   clear hsv hcells hPg hca hs
   obtain ⟨dd,hdd⟩:∃ dd,(snm.toList==nm.toList)=dd:=⟨_,rfl⟩
   cases dd with
   | true=>
    have HRS:Hid ((i:Int)=r):=hd_ (by rw [← HR2.out,HNX.out,if_pos (by rw [HNM.out,(zav snm nm).1 hdd])])
    go_wp2_with fail
    go_ret
    exact ⟨zaf HRS.out,B1.out⟩
   | false=>
    have HQ:Hid (¬ s.name=nm.data.toList):=hd_ (fun h=>by
     have h2:snm=nm:=ByteArray.ext (Array.toList_inj.1 (by rw [← HNM.out,h]))
     rw [(zav snm nm).2 h2] at hdd
     cases hdd)
    go_wp2_with fail
    go_round
    case rel=>exact RRel.mk ⟨i+1,by omega,by simp,hd_ (by rw [← HR2.out,HNX.out,if_neg HQ.out];rfl)⟩
    case measure=>simp [intOf];omega
  ·have HRS:Hid ((-1:Int)=r):=hd_ (by rw [← HR2.out];exact (zl6 (by have:=HN.out;omega)).symm)
   have z1:¬ (i:Int) < N:=by omega
   go_wp2_with fail
   go_ret
   exact ⟨zaf HRS.out,B1.out⟩
end Go.Proofs.YtdpkjpjkdmkkpaaGreatDoor
