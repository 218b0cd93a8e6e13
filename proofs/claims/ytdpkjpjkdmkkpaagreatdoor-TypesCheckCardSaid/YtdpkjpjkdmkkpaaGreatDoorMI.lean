/- Plain words on the document's addresses (package rungref10): what its functions compute, and that it is what package addr's compute. No program in sight. -/
import Derived.Test.YtdpkjpjkdmkkpaaGreatDoorMB
namespace Go.Proofs.YtdpkjpjkdmkkpaaGreatDoor.Ad
def zbf:List UInt8→Int→Int
 | [],n=>n
 | c::l,n=>if 48≤c.toNat∧c.toNat≤57 then zbf l (10*n+(c.toNat - 48)) else -1
def rNum (l:List UInt8):Int:=
 if l.length < 1∨l.length > 3∨(l.head? = some 48∧l.length > 1) then -1 else zbf l 0
theorem zc1 (c:UInt8) (h1:48≤c.toNat) (h2:c.toNat≤57):∃ d,d < 10∧c=UInt8.ofNat (48+d):=by
 refine ⟨c.toNat - 48,by omega,?_⟩
 rw [show 48+(c.toNat - 48)=c.toNat by omega];simp
theorem zmi:∀ n:Fin 1000,rNum (dd n)=(n:Nat):=by decide +kernel
theorem zga {d:Nat} (h:d < 10):(UInt8.ofNat (48+d)).toNat=48+d:=by
 simp;omega
theorem zhy (l:List UInt8):rNum l=match zaH l with | some n=>(n:Int) | none=>-1:=by
 cases h:zaH l with
 | some n=>
  obtain ⟨h1,rfl⟩:=zaJ h
  exact zmi ⟨n,h1⟩
 | none=>
  simp only
  by_cases hr:rNum l=-1
  ·exact hr
  exfalso
  unfold rNum at hr
  split at hr
  ·exact hr rfl
  rename_i hc
  have hno:∀ n,n < 1000→dd n≠l:=fun n hn he=>by rw [← he,zfv hn] at h;cases h
  clear h
  rcases l with _ | ⟨a,_ | ⟨b,_ | ⟨c,_ | ⟨d,t⟩⟩⟩⟩
  ·simp at hc
  ·
   simp only [zbf] at hr
   by_cases ha:48≤a.toNat∧a.toNat≤57
   ·obtain ⟨d,hd,rfl⟩:=zc1 a ha.1 ha.2
    exact hno d (by omega) (by unfold dd;rw [if_pos hd])
   ·rw [if_neg ha] at hr;exact hr rfl
  ·
   simp only [zbf] at hr
   by_cases ha:48≤a.toNat∧a.toNat≤57
   ·rw [if_pos ha] at hr
    by_cases hb:48≤b.toNat∧b.toNat≤57
    ·obtain ⟨d,hd,rfl⟩:=zc1 a ha.1 ha.2
     obtain ⟨e,he,rfl⟩:=zc1 b hb.1 hb.2
     have hd0:d≠0:=by rintro rfl;simp at hc
     refine hno (10*d+e) (by omega) ?_
     unfold dd
     rw [if_neg (by omega),if_pos (by omega),show (10*d+e) / 10=d by omega,show (10*d+e) % 10=e by omega]
    ·rw [if_neg hb] at hr;exact hr rfl
   ·rw [if_neg ha] at hr;exact hr rfl
  ·
   simp only [zbf] at hr
   by_cases ha:48≤a.toNat∧a.toNat≤57
   ·rw [if_pos ha] at hr
    by_cases hb:48≤b.toNat∧b.toNat≤57
    ·rw [if_pos hb] at hr
     by_cases hcc:48≤c.toNat∧c.toNat≤57
     ·obtain ⟨d,hd,rfl⟩:=zc1 a ha.1 ha.2
      obtain ⟨e,he,rfl⟩:=zc1 b hb.1 hb.2
      obtain ⟨f,hf,rfl⟩:=zc1 c hcc.1 hcc.2
      have hd0:d≠0:=by rintro rfl;simp at hc
      refine hno (100*d+10*e+f) (by omega) ?_
      unfold dd
      rw [if_neg (by omega),if_neg (by omega),show (100*d+10*e+f) / 100=d by omega,show (100*d+10*e+f) / 10 % 10=e by omega,show (100*d+10*e+f) % 10=f by omega]
     ·rw [if_neg hcc] at hr;exact hr rfl
    ·rw [if_neg hb] at hr;exact hr rfl
   ·rw [if_neg ha] at hr;exact hr rfl
  ·simp at hc
def zeb (r:List UInt8):Int:=
 let k:=(r.takeWhile (· != 46)).length
 if k < r.length∧r.length=k+2∧48≤(r.getD (k+1) 0).toNat∧(r.getD (k+1) 0).toNat≤55∧0≤rNum (r.take k) then 8*rNum (r.take k)+((r.getD (k+1) 0).toNat - 48) else -1
def rNo (a:Int) (r:List UInt8):Int:=if aBit a then zeb r else rNum r
def zcw (l:List UInt8):Nat→Nat→Int × Int × Int
 | 0,_=>(0,0,100)
 | d+1,k=>
  if l.length < 4∨l.take 3≠zaR (1+(k:Int)) then zcw l d (k+1)
  else if 0≤rNo (1+(k:Int)) (l.drop 3)∧rNo (1+(k:Int)) (l.drop 3) < zbG (1+(k:Int)) then (1+(k:Int),rNo (1+(k:Int)) (l.drop 3),0)
  else zcw l d (k+1)
def zij (l:List UInt8):Int × Int × Int:=zcw l 6 0
theorem zeY {l:List UInt8} {k:Nat} (h:k < 6) (hp:l.length < 4∨l.take 3≠zaR (1+(k:Int))):zcw l (6 - k) k=zcw l (6 - (k+1)) (k+1):=by
 rw [show 6 - k=(6 - (k+1))+1 by omega,zcw,if_pos hp]
theorem zgy {l:List UInt8} {k:Nat} {v sz:Int} (h:k < 6) (hl:¬ l.length < 4) (hp:l.take 3=zaR (1+(k:Int))) (hv:rNo (1+(k:Int)) (l.drop 3)=v) (hz:zbG (1+(k:Int))=sz)
  (h1:0≤v) (h2:v < sz):zcw l (6 - k) k=(1+(k:Int),v,0):=by
 rw [show 6 - k=(6 - (k+1))+1 by omega,zcw,if_neg (by rintro (h | h);exact hl h;exact h hp),hv,hz,if_pos ⟨h1,h2⟩]
theorem zbJ {l:List UInt8} {k:Nat} {v sz:Int} (h:k < 6) (hl:¬ l.length < 4) (hp:l.take 3=zaR (1+(k:Int))) (hv:rNo (1+(k:Int)) (l.drop 3)=v) (hz:zbG (1+(k:Int))=sz)
  (h1:v < 0∨sz≤v):zcw l (6 - k) k=zcw l (6 - (k+1)) (k+1):=by
 rw [show 6 - k=(6 - (k+1))+1 by omega,zcw,if_neg (by rintro (h | h);exact hl h;exact h hp),hv,hz,if_neg (by omega)]
def tw (l:List UInt8):Nat:=(l.takeWhile (· != 46)).length
theorem zko:∀ {l:List UInt8} {j:Nat} {c:UInt8},j≤tw l→l[j]? = some c→c≠46→j+1≤tw l
 | [],j,c,_,h,_=>by simp at h
 | x::l,0,c,_,h,hc=>by
  simp at h;subst h
  unfold tw;rw [List.takeWhile_cons_of_pos (by simpa using hc)];simp
 | x::l,j+1,c,hj,h,hc=>by
  unfold tw at hj ⊢
  by_cases hx:x=46
  ·rw [List.takeWhile_cons_of_neg (by simpa using hx)] at hj;simp at hj
  ·rw [List.takeWhile_cons_of_pos (by simpa using hx)] at hj ⊢
   simp at hj h ⊢
   exact zko (l:=l) hj h hc
theorem zkn:∀ {l:List UInt8} {j:Nat},j≤tw l→(l[j]? = none∨l[j]? = some 46)→j=tw l
 | [],j,hj,_=>by simp [tw] at hj ⊢;exact hj
 | x::l,0,_,h=>by
  simp at h;subst h
  unfold tw;rw [List.takeWhile_cons_of_neg (by simp)];rfl
 | x::l,j+1,hj,h=>by
  unfold tw at hj ⊢
  by_cases hx:x=46
  ·rw [List.takeWhile_cons_of_neg (by simpa using hx)] at hj;simp at hj
  ·rw [List.takeWhile_cons_of_pos (by simpa using hx)] at hj ⊢
   simp at hj h ⊢
   exact zkn (l:=l) hj (by simpa using h)
theorem zaU {l:List UInt8} {j:Nat} (hj:j=tw l) (h:¬ (j < l.length∧l.length=j+2∧48≤(l.getD (j+1) 0).toNat∧(l.getD (j+1) 0).toNat≤55∧0≤rNum (l.take j))):zeb l=-1:=by
 subst hj;exact if_neg h
theorem zec {l:List UInt8} {j:Nat} (hj:j=tw l) (h:j < l.length∧l.length=j+2∧48≤(l.getD (j+1) 0).toNat∧(l.getD (j+1) 0).toNat≤55∧0≤rNum (l.take j)) :
  zeb l=8*rNum (l.take j)+((l.getD (j+1) 0).toNat - 48):=by
 subst hj;exact if_pos h
theorem zmj (l:List UInt8):rNum l < 1000:=by
 rw [zhy]
 cases h:zaH l with
 | none=>simp
 | some n=>have:=(zaJ h).1;simp only;omega
theorem zgc {s:ByteArray} {k:Nat} (h:k < s.size):s.data.toList.drop k=s[k]::s.data.toList.drop (k+1):=by
 rw [List.drop_eq_getElem_cons (by simpa using h)];rfl
theorem zhx {s:ByteArray} {k:Nat} {acc:Int} (h:k < s.size) (h1:48≤s[k].toNat) (h2:s[k].toNat≤57) :
  zbf (s.data.toList.drop k) acc=zbf (s.data.toList.drop (k+1)) (10*acc+(s[k].toNat - 48)):=by
 rw [zgc h,zbf,if_pos ⟨h1,h2⟩]
theorem ziW {s:ByteArray} {k:Nat} {acc:Int} (h:k < s.size) (h1:¬ (48≤s[k].toNat∧s[k].toNat≤57)):zbf (s.data.toList.drop k) acc=-1:=by
 rw [zgc h,zbf,if_neg h1]
theorem zhw {s:ByteArray} {k:Nat} {acc:Int} (h:s.size≤k):zbf (s.data.toList.drop k) acc=acc:=by
 rw [List.drop_eq_nil_of_le (by simpa using h)];rfl
theorem zju {s:ByteArray} (h:0 < s.size):s.data.toList.head? = some s[0]:=by
 rw [List.head?_eq_getElem?,List.getElem?_eq_getElem (by simpa using h)];rfl
end Go.Proofs.YtdpkjpjkdmkkpaaGreatDoor.Ad
set_option maxRecDepth 100000
set_option maxHeartbeats 16000000
namespace Go.Proofs.YtdpkjpjkdmkkpaaGreatDoor
open Ad Go.RowKit
theorem zgL (a:Int) (w:World) :
  Calls Tryz.prog 75 #[.int .i64 a] w fun e w'=>e=.returned (.int .i64 (zbG a))∧w=w':=by
 go_enter Tryz.func75,Tryz.ntmps75
 go_wp2
 all_goals (go_ret;exact ⟨zaf (by simp_all [zbG]),rfl⟩)
theorem zdC (a:Int) (w:World) :
  Calls Tryz.prog 61 #[.int .i64 a] w fun e w'=>e=.returned (.bool (aBit a))∧w=w':=by
 by_cases h1:a=1
 ·subst h1
  go_enter Tryz.func61,Tryz.ntmps61
  go_wp2
  go_ret;exact ⟨zct (by decide),rfl⟩
 by_cases h2:a=2
 ·subst h2
  go_enter Tryz.func61,Tryz.ntmps61
  go_wp2
  go_ret;exact ⟨zct (by decide),rfl⟩
 have e1:(a==1)=false:=by simpa using h1
 have e2:(a==2)=false:=by simpa using h2
 go_enter Tryz.func61,Tryz.ntmps61
 go_wp2
 go_ret;exact ⟨zct (Bool.eq_iff_iff.2 (by simp [aBit,h1,h2])),rfl⟩
theorem zeh {s:ByteArray} {r:Int} (hr:rNum s.data.toList=r) (hs:s.size≤140737488351232) (w:World) :
  Calls Tryz.prog 74 #[.string s] w fun e w'=>e=.returned (.int .i64 r)∧w=w':=by
 have HR:=hd_ hr
 clear hr
 have hl:s.data.toList.length=s.size:=rfl
 have HL:=hd_ hl
 clear hl
 by_cases h1:s.size < 1
 ·go_enter Tryz.func74,Tryz.ntmps74
  go_wp2
  go_ret;exact ⟨zaf (by rw [← HR.out,rNum,if_pos (.inl (by have:=HL.out;omega))]),rfl⟩
 by_cases h3:3 < s.size
 ·go_enter Tryz.func74,Tryz.ntmps74
  go_wp2
  go_ret;exact ⟨zaf (by rw [← HR.out,rNum,if_pos (.inr (.inl (by have:=HL.out;omega)))]),rfl⟩
 have hp:0 < s.size:=by omega
 have h3':s.size≤3:=by omega
 have hc:((s[0].toNat:Int)==48)=false∨((s[0].toNat:Int)==48)=true∧s.size=1∨((s[0].toNat:Int)==48)=true∧1 < s.size:=by
  by_cases h:(s[0].toNat:Int)=48
  ·rw [beq_iff_eq.2 h];simp;omega
  ·rw [beq_eq_false_iff_ne.2 h];simp
 have hmain:¬ (((s[0].toNat:Int)==48)=true∧1 < s.size)→zbf (s.data.toList.drop 0) 0=r:=by
  intro h
  have h':¬ (s.data.toList.length < 1∨s.data.toList.length > 3∨(s.data.toList.head? = some 48∧s.data.toList.length > 1)):=by
   rw [HL.out,zju hp]
   rintro (h | h | ⟨h4,h5⟩)
   ·omega
   ·omega
   ·injection h4 with h4
    exact h ⟨by rw [h4];rfl,h5⟩
  rw [← HR.out,rNum,if_neg h'];rfl
 have HM:=hd_ hmain
 clear hmain
 rcases hc with hc | ⟨hc,h5⟩ | ⟨hc,h5⟩
 rotate_right
 ·have HC:=hd_ hc
  go_enter Tryz.func74,Tryz.ntmps74
  go_wp2
  go_ret
  have hx:s.data.toList.head? = some 48:=by
   rw [zju hp]
   have h6:(s[0].toNat:Int)=48:=by simpa using HC.out
   have h7:s[0].toNat=(48:UInt8).toNat:=by
    have:(48:UInt8).toNat=48:=rfl
    omega
   rw [UInt8.toNat_inj.1 h7]
  exact ⟨zaf (by rw [← HR.out,rNum,if_pos (.inr (.inr ⟨hx,by have:=HL.out;omega⟩))]),rfl⟩
 all_goals
  have HM':zbf (s.data.toList.drop 0) 0=r:=HM.out (by rw [hc];simp;try omega)
  have HQ:=hd_ HM'
  clear HM' HM
  go_enter Tryz.func74,Tryz.ntmps74
  go_wp2
  clear hc
  go_loop [3,4] (fun n i=>∃ (k:Nat) (acc:Int),k≤s.size∧0≤acc∧acc < 1000∧(k=0→acc=0)∧(k=1→acc < 10)∧(k=2→acc < 100)∧i=.int .i64 k∧n=.int .i64 acc∧Hid (zbf (s.data.toList.drop k) acc=r)) (fun _ i=>s.size - (intOf i).toNat)
  case atStart=>exact ⟨0,0,by omega,by omega,by omega,by omega,by omega,by omega,rfl,rfl,HQ⟩
  case round=>
   obtain ⟨k,acc,hk,a0,a1,k0,k1,k2,rfl,rfl,HD⟩:=hrel
   have hacc:k=3∨acc < 100:=by omega
   by_cases hlt:k < s.size
   ·by_cases hd:48≤s[k].toNat∧s[k].toNat≤57
    ·have HE:=hd_ ((zhx hlt hd.1 hd.2).symm.trans HD.out)
     obtain ⟨d1,d2⟩:=hd
     clear HD
     go_wp2
     go_round
     case rel=>exact ⟨k+1,10*acc+(s[k].toNat - 48),by omega,by omega,by omega,by omega,by omega,by omega,by go_num,by go_num,HE⟩
     case measure=>simp [intOf];omega
    ·have HE:=hd_ ((ziW (acc:=acc) hlt hd).symm.trans HD.out)
     have hd':(s[k].toNat:Int) < 48∨(48≤(s[k].toNat:Int)∧57 < (s[k].toNat:Int)):=by omega
     clear HD hd
     rcases hd' with hd' | ⟨hd',hd2⟩
     all_goals
      go_wp2
      go_ret
      exact ⟨zaf HE.out,rfl⟩
   ·go_wp2
    go_ret
    exact ⟨zaf (by rw [← HD.out,zhw (by omega)]),rfl⟩
theorem ziG (k:Nat) (hk:k < 6) (w:World) :
  (w.alloc (.cells #[.string ⟨#[37,73,88]⟩,.string ⟨#[37,81,88]⟩,.string ⟨#[37,77,88]⟩,.string ⟨#[37,73,87]⟩,.string ⟨#[37,81,87]⟩,.string ⟨#[37,77,87]⟩] 9)).cell? ⟨w.heap.size,k,none⟩=some (.string ⟨(zaR (1+(k:Int))).toArray⟩):=by
 have h:k=0∨k=1∨k=2∨k=3∨k=4∨k=5:=by omega
 rcases h with rfl | rfl | rfl | rfl | rfl | rfl <;> exact (World.cell?_alloc_at _ _ _ _ rfl)
theorem zde {r:Int × Int × Int} {a n z:Int} {w w':World} (h:(a,n,z)=r) (hb:Below w.heap.size w w') :
  Ending.returned (.tuple #[.int .i64 a,.int .i64 n,.int .i64 z])=.returned (.tuple #[.int .i64 r.1,.int .i64 r.2.1,.int .i64 r.2.2])∧Below w.heap.size w w':=by
 subst h;exact ⟨rfl,hb⟩
theorem zei {s:ByteArray} {r:Int × Int × Int} (hr:zij s.data.toList=r) (hs:s.size≤140737488351232) (w:World) :
  Calls Tryz.prog 40 #[.string s] w fun e w'=>e=.returned (.tuple #[.int .i64 r.1,.int .i64 r.2.1,.int .i64 r.2.2])∧Below w.heap.size w w':=by
 have HR:=hd_ hr
 clear hr
 have hl:s.data.toList.length=s.size:=rfl
 have HL:=hd_ hl
 clear hl
 go_enter Tryz.func40,Tryz.ntmps40
 go_wp2
 have hcell:=fun k hk=>ziG k hk w
 have HC:=hd_ hcell
 clear hcell
 obtain ⟨W0,hW0⟩:∃ W0,W0=w.alloc (.cells #[.string ⟨#[37,73,88]⟩,.string ⟨#[37,81,88]⟩,.string ⟨#[37,77,88]⟩,.string ⟨#[37,73,87]⟩,.string ⟨#[37,81,87]⟩,.string ⟨#[37,77,87]⟩] 9):=⟨_,rfl⟩
 have hb0:Below w.heap.size w W0:=by rw [hW0];exact br_.alloc nl_ _
 rw [← hW0] at HC ⊢
 clear hW0
 go_loopw [6] (fun i wr=>∃ k:Nat,k≤6∧i=.int .i64 k∧Hid (zcw s.data.toList (6 - k) k=r)∧∃ n,wr=W0.drewN n) (fun i _=>6 - (intOf i).toNat)
 case atStart=>exact ⟨0,by omega,rfl,HR,0,rfl⟩
 case round=>
  obtain ⟨k,hk,rfl,HD,n,rfl⟩:=hrel
  by_cases hlt:k < 6
  ·have hc:=HC.out k hlt
   have k0:0≤(k:Int):=by omega
   have k6:(k:Int) < 6:=by omega
   by_cases h4:s.size < 4
   ·have e4:decide ((s.size:Int) < 4)=true:=by simp;omega
    go_wp2
    go_quiet (fail)
    go_wp2
    go_roundw
    case rel=>exact ⟨k+1,by omega,by go_num,hd_ ((zeY hlt (.inl (by have:=HL.out;omega))).symm.trans HD.out),_,rfl⟩
    case measure=>simp [intOf];omega
   ·have e4:decide ((s.size:Int) < 4)=false:=by simp;omega
    go_wp2
    have h3:(s.extract 0 3).toList=s.data.toList.take 3:=by rw [ByteArray.toList_eq];simp [ByteArray.data_extract]
    have H3:=hd_ h3
    clear h3
    cases hp:((s.extract 0 3).toList==zaR (1+(k:Int))) with
    | false=>
     go_quiet (fail)
     go_wp2
     go_roundw
     case rel=>
      have hne:s.data.toList.take 3≠zaR (1+(k:Int)):=by rw [← H3.out];exact ne_of_beq_false hp
      exact ⟨k+1,by omega,by go_num,hd_ ((zeY hlt (.inr hne)).symm.trans HD.out),_,rfl⟩
     case measure=>simp [intOf];omega
    | true=>
     have hsz:3≤s.size:=by omega
     go_quiet (fail)
     go_wp2
     go_quiet (fail)
     have hpe:s.data.toList.take 3=zaR (1+(k:Int)):=by rw [← H3.out];exact eq_of_beq hp
     have HP:=hd_ hpe
     clear hpe hp H3 hc e4
     have ha:(k:Int)+1=1+(k:Int):=by omega
     have HA:=hd_ ha
     clear ha
     obtain ⟨sz,hz⟩:∃ sz,zbG (1+(k:Int))=sz:=⟨_,rfl⟩
     have HZ:=hd_ hz
     clear hz
     have hR0:(s.extract 3 s.size).data.toList=s.data.toList.drop 3:=by simp [ByteArray.data_extract];rw [List.take_of_length_le (by simp)]
     have hR1:(s.extract 3 s.size).size≤140737488351232:=by simp;omega
     generalize hR:s.extract 3 s.size=R at hR0 hR1 ⊢
     have HR0:=hd_ hR0
     clear hR hR0
     obtain ⟨v,hv⟩:∃ v,rNo (1+(k:Int)) R.data.toList=v:=⟨_,rfl⟩
     have HV:Hid (rNo (1+(k:Int)) (s.data.toList.drop 3)=v):=by rw [← HR0.out];exact hv
     cases hb:aBit (1+(k:Int)) with
     | false=>
      have hv':rNum R.data.toList=v:=by rw [← hv,rNo,hb];rfl
      have HV':=hd_ hv'
      clear hv hv'
      by_cases h0:0≤v
      ·go_wp2_with (first
        | (go_at_call 61;refine (zdC _ _).mono ?_;rintro e w1 ⟨rfl,rfl⟩;rw [HA.out,hb])
        | (go_at_call 74;refine (zeh HV'.out hR1 _).mono ?_;rintro e w1 ⟨rfl,rfl⟩)
        | (go_at_call 75;refine (zgL _ _).mono ?_;rintro e w1 ⟨rfl,rfl⟩;rw [HZ.out]))
       ·have h1:v < sz:=by assumption
        go_ret3
        exact zde ((zgy hlt (by have:=HL.out;omega) HP.out HV.out HZ.out h0 h1).symm.trans HD.out) (hb0.drewN _)
       ·have h1:sz≤v:=by assumption
        go_roundw
        case rel=>exact ⟨k+1,by omega,by go_num,hd_ ((zbJ hlt (by have:=HL.out;omega) HP.out HV.out HZ.out (.inr h1)).symm.trans HD.out),_,rfl⟩
        case measure=>simp [intOf];omega
      ·go_wp2_with (first
        | (go_at_call 61;refine (zdC _ _).mono ?_;rintro e w1 ⟨rfl,rfl⟩;rw [HA.out,hb])
        | (go_at_call 74;refine (zeh HV'.out hR1 _).mono ?_;rintro e w1 ⟨rfl,rfl⟩))
       go_roundw
       case rel=>exact ⟨k+1,by omega,by go_num,hd_ ((zbJ hlt (by have:=HL.out;omega) HP.out HV.out HZ.out (.inl (by omega))).symm.trans HD.out),_,rfl⟩
       case measure=>simp [intOf];omega
     | true=>
      have hv':zeb R.data.toList=v:=by rw [← hv,rNo,hb];rfl
      have HV':=hd_ hv'
      clear hv hv'
      go_wp2_with (first
       | (go_at_call 61;refine (zdC _ _).mono ?_;rintro e w1 ⟨rfl,rfl⟩;rw [HA.out,hb]))
      go_loop [10] (fun i=>∃ j:Nat,j≤R.size∧i=.int .i64 j∧Hid (j≤tw R.data.toList)) (fun i=>R.size - (intOf i).toNat)
      case atStart=>exact ⟨0,by omega,rfl,hd_ (Nat.zero_le _)⟩
      case round=>
       obtain ⟨j,hj,rfl,HT⟩:=hrel
       by_cases hjl:j < R.size
       ·cases hdot:((R[j].toNat:Int)==46) with
        | false=>
         have hn:=zko HT.out (c:=R[j]) (by simp [hjl];rfl) (by intro h;rw [h] at hdot;simp at hdot)
         go_wp2
         go_round
         case rel=>exact ⟨j+1,by omega,by go_num,hd_ hn⟩
         case measure=>simp [intOf];omega
        | true=>
         have hje:=zkn HT.out (.inr (by simp [hjl];exact UInt8.toNat_inj.1 (by simp at hdot;exact Int.ofNat.inj hdot)))
         have HJE:=hd_ hje
         clear HT hje
         by_cases h2:R.size=j+2
         rotate_left
         ·have e2:((R.size:Int)==(j:Int)+2)=false:=beq_eq_false_iff_ne.2 (by omega)
          have hbad:=zaU (l:=R.data.toList) HJE.out (by rintro ⟨_,h,_⟩;exact h2 (by simpa using h))
          have h0:v < 0:=by rw [← HV'.out,hbad];omega
          have HN:=hd_ ((zbJ hlt (by have:=HL.out;omega) HP.out HV.out HZ.out (.inl h0)).symm.trans HD.out)
          clear hbad h0
          go_wp2_with fail
          go_roundw
          case rel=>exact ⟨k+1,by omega,by go_num,HN,_,rfl⟩
          case measure=>simp [intOf];omega
         have e2:((R.size:Int)==(j:Int)+2)=true:=beq_iff_eq.2 (by omega)
         have hj1:j+1 < R.size:=by omega
         have hg:(R.data.toList.getD (j+1) 0)=R[j+1]:=by rw [List.getD_eq_getElem?_getD,List.getElem?_eq_getElem (by simpa using hj1)];rfl
         have HG:=hd_ hg
         have H2:=hd_ h2
         clear hg h2
         by_cases h3:48≤(R[j+1].toNat:Int)
         rotate_left
         ·have hbad:=zaU (l:=R.data.toList) HJE.out (by rintro ⟨_,_,h,_⟩;rw [HG.out] at h;omega)
          have h0:v < 0:=by rw [← HV'.out,hbad];omega
          have HN:=hd_ ((zbJ hlt (by have:=HL.out;omega) HP.out HV.out HZ.out (.inl h0)).symm.trans HD.out)
          clear hbad h0
          go_wp2_with fail
          go_roundw
          case rel=>exact ⟨k+1,by omega,by go_num,HN,_,rfl⟩
          case measure=>simp [intOf];omega
         by_cases h4:(R[j+1].toNat:Int)≤55
         rotate_left
         ·have hbad:=zaU (l:=R.data.toList) HJE.out (by rintro ⟨_,_,_,h,_⟩;rw [HG.out] at h;omega)
          have h0:v < 0:=by rw [← HV'.out,hbad];omega
          have HN:=hd_ ((zbJ hlt (by have:=HL.out;omega) HP.out HV.out HZ.out (.inl h0)).symm.trans HD.out)
          clear hbad h0
          go_wp2_with fail
          go_roundw
          case rel=>exact ⟨k+1,by omega,by go_num,HN,_,rfl⟩
          case measure=>simp [intOf];omega
         obtain ⟨m,hm⟩:∃ m,rNum (R.extract 0 j).data.toList=m:=⟨_,rfl⟩
         have hm2:rNum (R.data.toList.take j)=m:=by rw [← hm];simp [ByteArray.data_extract]
         have HM:=hd_ hm
         have HM2:=hd_ hm2
         clear hm hm2
         have hR2:(R.extract 0 j).size≤140737488351232:=by simp;omega
         by_cases h5:0≤m
         rotate_left
         ·have hbad:=zaU (l:=R.data.toList) HJE.out (by rintro ⟨_,_,_,_,h⟩;rw [HM2.out] at h;omega)
          have h0:v < 0:=by rw [← HV'.out,hbad];omega
          have HN:=hd_ ((zbJ hlt (by have:=HL.out;omega) HP.out HV.out HZ.out (.inl h0)).symm.trans HD.out)
          clear hbad h0
          go_wp2_with (go_at_call 74;refine (zeh HM.out hR2 _).mono ?_;rintro e w1 ⟨rfl,rfl⟩)
          go_roundw
          case rel=>exact ⟨k+1,by omega,by go_num,HN,_,rfl⟩
          case measure=>simp [intOf];omega
         have hgood:=zec (l:=R.data.toList) HJE.out ⟨by simpa using hjl,by have:=H2.out;simpa using this,by rw [HG.out];omega,by rw [HG.out];omega,by rw [HM2.out];exact h5⟩
         rw [HV'.out,HM2.out,HG.out] at hgood
         have HGOOD:=hd_ hgood
         clear hgood
         go_wp2_with (go_at_call 74;refine (zeh HM.out hR2 _).mono ?_;rintro e w1 ⟨rfl,rfl⟩)
         have w1:IntKind.i64.wrap ((j:Int)+1)=(j:Int)+1:=IntWalk.i64_in _ (by omega)
         have w2:0≤(j:Int)+1:=by omega
         have w3:((j:Int)+1).toNat=j+1:=by omega
         have w4:0≤(j:Int):=by omega
         have w5:(j:Int)≤(R.size:Int):=by omega
         have w6:(j:Int)+1 < (R.size:Int):=by omega
         have m3:m < 1000:=by rw [← HM.out];exact zmj _
         have w7:IntKind.i64.wrap (8*m)=8*m:=IntWalk.i64_in _ (by omega)
         have w8:IntKind.u8.wrap ((R[j+1].toNat:Int) - 48)=(R[j+1].toNat:Int) - 48:=IntWalk.u8_in _ (by omega)
         have w9:IntKind.i64.wrap (8*m+((R[j+1].toNat:Int) - 48))=8*m+((R[j+1].toNat:Int) - 48):=IntWalk.i64_in _ (by omega)
         have w10:IntKind.i64.wrap ((R[j+1].toNat:Int) - 48)=(R[j+1].toNat:Int) - 48:=IntWalk.i64_in _ (by omega)
         go_quiet ((go_at_call 74;exact zeH (zeh HM.out hR2 _)))
         have hv0:0≤8*m+((R[j+1].toNat:Int) - 48):=by omega
         go_wp2_with (go_at_call 75;refine (zgL _ _).mono ?_;rintro e w1 ⟨rfl,rfl⟩;rw [HZ.out])
         ·have h1:8*m+((R[j+1].toNat:Int) - 48) < sz:=by assumption
          have hg:=HGOOD.out
          go_ret3
          refine zde ?_ (hb0.drewN _)
          rw [← (zgy hlt (by have:=HL.out;omega) HP.out HV.out HZ.out (by omega) (by omega)).symm.trans HD.out,hg]
         ·have h1:sz≤8*m+((R[j+1].toNat:Int) - 48):=by assumption
          have hg:=HGOOD.out
          have HN:=hd_ ((zbJ hlt (by have:=HL.out;omega) HP.out HV.out HZ.out (.inr (by omega))).symm.trans HD.out)
          clear hg
          go_roundw
          case rel=>exact ⟨k+1,by omega,by go_num,HN,_,rfl⟩
          case measure=>simp [intOf];omega
       ·have hje:=zkn HT.out (.inl (by simp;omega))
        have HJE:=hd_ hje
        clear HT hje
        have hbad:=zaU (l:=R.data.toList) HJE.out (by rintro ⟨h,_⟩;exact hjl (by simpa using h))
        have h0:v < 0:=by rw [← HV'.out,hbad];omega
        have HN:=hd_ ((zbJ hlt (by have:=HL.out;omega) HP.out HV.out HZ.out (.inl h0)).symm.trans HD.out)
        clear hbad h0
        go_wp2_with fail
        go_roundw
        case rel=>exact ⟨k+1,by omega,by go_num,HN,_,rfl⟩
        case measure=>simp [intOf];omega
  ·go_wp2
   have hk6:k=6:=by omega
   go_ret3
   subst hk6
   exact zde HD.out (hb0.drewN _)
end Go.Proofs.YtdpkjpjkdmkkpaaGreatDoor
namespace Go.Proofs.YtdpkjpjkdmkkpaaGreatDoor.Ad
theorem zfp:∀ l:List UInt8,Lib.index l [46]=if tw l < l.length then (tw l:Int) else -1
 | []=>rfl
 | x::l=>by
  unfold Lib.index
  by_cases hx:x=46
  ·subst hx
   simp [tw,List.isPrefixOf]
  ·have h1:([46]:List UInt8).isPrefixOf (x::l)=false:=by simp [List.isPrefixOf];exact fun h=>hx h.symm
   have h2:tw (x::l)=tw l+1:=by unfold tw;rw [List.takeWhile_cons_of_pos (by simpa using hx)];rfl
   rw [h1,h2,zfp l]
   simp only [Bool.false_eq_true,if_false,List.length_cons]
   by_cases h:tw l < l.length
   ·simp only [if_pos h,if_pos (show tw l+1 < l.length+1 by omega)]
    rw [if_neg (by simp)];try omega
   ·simp only [if_neg h,if_neg (show ¬ tw l+1 < l.length+1 by omega)];rfl
theorem zjM (c:UInt8):zaH [c]=if 48≤c.toNat∧c.toNat≤57 then some (c.toNat - 48) else none:=by
 split
 ·rename_i h
  have h1:dd (c.toNat - 48)=[c]:=by
   unfold dd;rw [if_pos (by omega),show 48+(c.toNat - 48)=c.toNat by omega];simp
  rw [← h1,zfv (by omega)]
 ·rename_i h
  cases hn:zaH [c] with
  | none=>rfl
  | some n=>
   obtain ⟨h1,h2⟩:=zaJ hn
   exfalso
   unfold dd at h2
   split at h2
   ·injection h2 with h2 _
    apply h
    rw [← h2,zga (by omega)];omega
   ·split at h2 <;> simp at h2
theorem zjL {l:List UInt8} {n:Nat} (h:zaH l=some n):n≤7→∃ c,l=[c]∧48≤c.toNat∧c.toNat≤55∧n=c.toNat - 48:=by
 intro h7
 obtain ⟨h1,rfl⟩:=zaJ h
 refine ⟨UInt8.ofNat (48+n),by unfold dd;rw [if_pos (by omega)],?_,?_,?_⟩ <;> rw [zga (by omega)] <;> omega
theorem zm5 {a:Int} (r:List UInt8) :
  (if 0≤zeb r∧zeb r < zbG a then some (zeb r) else none)=aB a (Lib.cut r [46]).2.2 (zaH (Lib.cut r [46]).1) (zaH (Lib.cut r [46]).2.1):=by
 have hi:=zfp r
 by_cases ht:tw r < r.length
 ·have hc:Lib.cut r [46]=(r.take (tw r),r.drop (tw r+1),true):=by
   unfold Lib.cut;rw [hi,if_pos ht,if_pos (by omega)];simp
  rw [hc]
  simp only
  unfold aB
  simp only [if_true]
  by_cases h2:r.length=tw r+2
  ·have h3:r.drop (tw r+1)=[r.getD (tw r+1) 0]:=by
    rw [List.drop_eq_getElem_cons (by omega),List.drop_eq_nil_of_le (by omega)]
    rw [List.getD_eq_getElem?_getD,List.getElem?_eq_getElem (by omega)];rfl
   rw [h3,zjM]
   generalize hcc:r.getD (tw r+1) 0=c
   have hrn:=zhy (r.take (tw r))
   by_cases h4:48≤c.toNat∧c.toNat≤55
   ·rw [if_pos (show 48≤c.toNat∧c.toNat≤57 by omega)]
    cases hn:zaH (r.take (tw r)) with
    | none=>
     rw [hn] at hrn
     rw [zaU rfl (by rintro ⟨_,_,_,_,h⟩;rw [hrn] at h;simp at h),if_neg (by omega)]
    | some m=>
     rw [hn] at hrn
     simp only at hrn
     rw [zec rfl ⟨ht,h2,by rw [hcc];exact h4.1,by rw [hcc];exact h4.2,by rw [hrn];omega⟩,hrn,hcc]
     have e:((c.toNat - 48:Nat):Int)=(c.toNat:Int) - 48:=by omega
     by_cases h5:8*(m:Int)+((c.toNat:Int) - 48) < zbG a
     ·rw [if_pos ⟨by omega,h5⟩];simp only;rw [if_pos ⟨by omega,by rw [e];exact h5⟩,e]
     ·rw [if_neg (by rintro ⟨_,h⟩;exact h5 h)];simp only;rw [if_neg (by rintro ⟨_,h⟩;rw [e] at h;exact h5 h)]
   ·rw [zaU rfl (by rintro ⟨_,_,h,h',_⟩;rw [hcc] at h h';exact h4 ⟨h,h'⟩)]
    by_cases h5:48≤c.toNat∧c.toNat≤57
    ·rw [if_pos h5,if_neg (by omega)]
     cases zaH (r.take (tw r)) with
     | none=>rfl
     | some m=>simp only;rw [if_neg (by omega)]
    ·rw [if_neg h5,if_neg (by omega)]
  ·rw [zaU rfl (by rintro ⟨_,h,_⟩;exact h2 h)]
   rw [if_neg (by omega)]
   cases hn:zaH (r.drop (tw r+1)) with
   | none=>rfl
   | some n=>
    cases zaH (r.take (tw r)) with
    | none=>rfl
    | some m=>
     simp only
     rw [if_neg]
     rintro ⟨h7,_⟩
     obtain ⟨c,hc1,_⟩:=zjL hn h7
     have:=congrArg List.length hc1
     simp at this
     omega
 ·have hc:Lib.cut r [46]=(r,[],false):=by
   unfold Lib.cut;rw [hi,if_neg ht,if_neg (by omega)]
  rw [hc,zaU rfl (by rintro ⟨h,_⟩;exact ht h)]
  simp [aB]
theorem zk8 (a:Int) (r:List UInt8):(if 0≤rNo a r∧rNo a r < zbG a then some (rNo a r) else none)=aAt a r:=by
 unfold rNo aAt
 cases aBit a with
 | true=>exact zm5 r
 | false=>
  simp only [Bool.false_eq_true,if_false]
  rw [zhy]
  cases zaH r with
  | none=>rfl
  | some n=>simp [aW]
theorem zcU {k:Nat} (h:k < 6):(zaR (1+(k:Int))).length=3:=by
 have h:k=0∨k=1∨k=2∨k=3∨k=4∨k=5:=by omega
 rcases h with rfl | rfl | rfl | rfl | rfl | rfl <;> decide
theorem zlf:∀ k j:Fin 6,zaR (1+((k:Nat):Int))=zaR (1+((j:Nat):Int))→k=j:=by decide
theorem zci {l p:List UInt8} (h:p.length=3):Lib.hasPrefix l p=true↔l.take 3=p:=by
 unfold Lib.hasPrefix
 rw [List.isPrefixOf_iff_prefix,List.prefix_iff_eq_take,h]
 exact ⟨fun h=>h.symm,fun h=>h.symm⟩
theorem zdb {l:List UInt8} {k:Nat} (hk:k < 6) (h:l.take 3=zaR (1+(k:Int))):∀ d j,j+d=6→k < j→zcw l d j=(0,0,100)
 | 0,_,_,_=>rfl
 | d+1,j,hj,hkj=>by
  have hne:l.take 3≠zaR (1+(j:Int)):=by
   rw [h];intro he
   have:=zlf ⟨k,hk⟩ ⟨j,by omega⟩ he
   simp at this
   omega
  rw [zcw,if_pos (.inr hne)]
  exact zdb hk h d (j+1) (by omega) (by omega)
theorem zjr (l:List UInt8):∀ d k,k+d=6→zcw l d k=aFrom l d k
 | 0,_,_=>rfl
 | d+1,k,hk=>by
  have hk6:k < 6:=by omega
  rw [zcw,aFrom]
  by_cases hp:l.take 3=zaR (1+(k:Int))
  ·have hpp:=(zci (zcU hk6)).2 hp
   rw [hpp]
   simp only [if_true]
   have htr:Lib.trimPrefix l (zaR (1+(k:Int)))=l.drop 3:=by
    unfold Lib.trimPrefix;rw [hpp,if_pos rfl,zcU hk6]
   rw [htr,← zk8]
   by_cases h4:l.length < 4
   ·rw [if_pos (.inl h4),zdb hk6 hp d (k+1) (by omega) (by omega)]
    have hd:l.drop 3=[]:=List.drop_eq_nil_of_le (by omega)
    rw [hd]
    have hn:rNo (1+(k:Int)) []=-1:=by
     unfold rNo;split
     ·exact zaU rfl (by rintro ⟨h,_⟩;simp at h)
     ·rfl
    rw [hn];rfl
   ·rw [if_neg (by rintro (h | h);exact h4 h;exact h hp)]
    by_cases hv:0≤rNo (1+(k:Int)) (l.drop 3)∧rNo (1+(k:Int)) (l.drop 3) < zbG (1+(k:Int))
    ·rw [if_pos hv,if_pos hv]
    ·rw [if_neg hv,if_neg hv,zdb hk6 hp d (k+1) (by omega) (by omega)]
  ·have hpp:Lib.hasPrefix l (zaR (1+(k:Int)))=false:=by
    cases h:Lib.hasPrefix l (zaR (1+(k:Int))) with
    | false=>rfl
    | true=>exact absurd ((zci (zcU hk6)).1 h) hp
   rw [hpp,if_pos (.inr hp)]
   simp only [Bool.false_eq_true,if_false]
   exact zjr l d (k+1) (by omega)
theorem zfy (l:List UInt8):zij l=aParse l:=zjr l 6 0 rfl
end Go.Proofs.YtdpkjpjkdmkkpaaGreatDoor.Ad
namespace Go.Proofs.YtdpkjpjkdmkkpaaGreatDoor.Ad
theorem zkC {l c1 c2:List UInt8} (h:Lib.cut l [46]=(c1,c2,true)):l=c1++[46]++c2:=by
 unfold Lib.cut at h
 rw [zfp] at h
 by_cases ht:tw l < l.length
 ·rw [if_pos ht,if_pos (by omega)] at h
  simp only [Prod.mk.injEq,and_true] at h
  obtain ⟨h1,h2⟩:=h
  have hd:l[tw l]? = some 46:=by
   have:∀ l:List UInt8,tw l < l.length→l[tw l]? = some 46:=by
    intro l
    induction l with
    | nil=>intro h;simp at h
    | cons x l ih=>
     intro h
     by_cases hx:x=46
     ·subst hx;simp [tw]
     ·have h2:tw (x::l)=tw l+1:=by unfold tw;rw [List.takeWhile_cons_of_pos (by simpa using hx)];rfl
      rw [h2] at h ⊢
      simp at h ⊢
      exact ih h
   exact this l ht
  have:l=l.take (tw l)++l.drop (tw l):=(List.take_append_drop _ _).symm
  rw [List.getElem?_eq_getElem ht] at hd
  injection hd with hd
  rw [List.drop_eq_getElem_cons ht,hd] at this
  rw [← h1,← h2]
  simpa using this
 ·rw [if_neg ht,if_neg (by omega)] at h
  simp at h
theorem zlW {a n:Int} {l r:List UInt8} (h:aAt a r=some n) (hl:l=zaR a++r):0≤n∧n < zbG a∧zjd a n=l:=by
 unfold aAt at h
 cases hb:aBit a with
 | true=>
  rw [hb,if_pos rfl] at h
  obtain ⟨c1,c2,pt,hc⟩:∃ c1 c2 pt,Lib.cut r [46]=(c1,c2,pt):=⟨_,_,_,rfl⟩
  rw [hc] at h
  simp only at h
  unfold aB at h
  cases pt with
  | false=>simp at h
  | true=>
   simp only [if_true] at h
   cases h2:zaH c2 with
   | none=>rw [h2] at h;simp at h
   | some n2=>
    cases h1:zaH c1 with
    | none=>rw [h1,h2] at h;simp at h
    | some n1=>
     rw [h1,h2] at h
     simp only at h
     split at h
     ·rename_i hq
      injection h with h
      obtain ⟨q1,e1⟩:=zaJ h1
      obtain ⟨q2,e2⟩:=zaJ h2
      subst h
      refine ⟨by omega,hq.2,?_⟩
      rw [zjd,if_neg (by omega),hb,if_pos rfl]
      rw [show (8*(n1:Int)+(n2:Int)) / 8=(n1:Int) by omega,show (8*(n1:Int)+(n2:Int)) % 8=(n2:Int) by omega]
      simp only [Int.toNat_natCast]
      rw [e1,e2,hl,zkC hc]
      simp
     ·cases h
 | false=>
  rw [hb,if_neg (by simp)] at h
  unfold aW at h
  cases hn:zaH r with
  | none=>rw [hn] at h;cases h
  | some m=>
   rw [hn] at h
   simp only at h
   split at h
   ·rename_i hq
    injection h with h
    obtain ⟨q1,e1⟩:=zaJ hn
    subst h
    refine ⟨by omega,hq,?_⟩
    rw [zjd,if_neg (by omega),hb,if_neg (by simp)]
    simp only [Int.toNat_natCast]
    rw [e1,hl]
   ·cases h
theorem zgd (l:List UInt8):∀ d k,k+d=6→(aFrom l d k=(0,0,100))∨∃ j n,j < 6∧aFrom l d k=(1+((j:Nat):Int),n,0)∧0≤n∧n < zbG (1+(j:Int))∧zjd (1+(j:Int)) n=l
 | 0,_,_=>.inl rfl
 | d+1,k,hk=>by
  have hk6:k < 6:=by omega
  rw [aFrom]
  cases hp:Lib.hasPrefix l (zaR (1+(k:Int))) with
  | false=>
   simp only [Bool.false_eq_true,if_false]
   exact zgd l d (k+1) (by omega)
  | true=>
   simp only [if_true]
   cases ha:aAt (1+(k:Int)) (Lib.trimPrefix l (zaR (1+(k:Int)))) with
   | none=>exact .inl rfl
   | some n=>
    have ht:=(zci (zcU hk6)).1 hp
    have hl:l=zaR (1+(k:Int))++Lib.trimPrefix l (zaR (1+(k:Int))):=by
     unfold Lib.trimPrefix
     rw [hp,if_pos rfl,zcU hk6]
     conv=>lhs;rw [← List.take_append_drop 3 l,ht]
    obtain ⟨h1,h2,h3⟩:=zlW ha hl
    exact .inr ⟨k,n,hk6,rfl,h1,h2,h3⟩
theorem ziT (l:List UInt8):aParse l=(0,0,100)∨∃ a n,1≤a∧a≤6∧aParse l=(a,n,0)∧0≤n∧n < zbG a∧zjd a n=l:=by
 rcases zgd l 6 0 rfl with h | ⟨j,n,hj,h1,h2,h3,h4⟩
 ·exact .inl h
 ·exact .inr ⟨1+(j:Int),n,by omega,by omega,h1,h2,h3,h4⟩
end Go.Proofs.YtdpkjpjkdmkkpaaGreatDoor.Ad
