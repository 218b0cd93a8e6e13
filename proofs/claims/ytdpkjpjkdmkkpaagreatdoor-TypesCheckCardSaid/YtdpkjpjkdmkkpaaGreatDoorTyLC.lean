/- The walk through the statement TypesCheck. -/
import Derived.Test.YtdpkjpjkdmkkpaaGreatDoorRE
import Derived.Test.YtdpkjpjkdmkkpaaGreatDoorQF
set_option maxRecDepth 100000
set_option maxHeartbeats 16000000
namespace Go.Proofs.YtdpkjpjkdmkkpaaGreatDoor
open Ad Go.RowKit Lx Pa
theorem zf1 (x:ByteArray) (_hx:x.size≤140737488351232) (il:Bool) (w:World) (he:TEnv w) :
  Calls Tryz.prog 3 #[.string x,.bool il] w fun e w'=>e=.returned (.bool true)∧Below w.heap.size w w':=by
 have HE:=hd_ he
 clear he
 go_enter Tryz.func3,Tryz.ntmps3
 go_wp2_with fail
 refine (zkT w HE.out).mono ?_
 rintro e w1 ⟨rfl,hb⟩
 have B1:=hd_ hb
 clear hb
 go_wp2_with fail
 refine (zmm x il w1).mono ?_
 rintro e w2 ⟨row,ok,rfl,⟨nb,va,vn,vc,ua,un,uc,jl,bda,bdn,bdc,lna,lnn,lnc,rfl⟩,hb,hd⟩
 have B2:=hd_ (zah B1.out hb)
 have HD:=hd_ hd
 clear hb hd B1
 go_upto_region 4 with fail
 refine zaa (P:=Code.wp _ _ _ _) (F:=fun W=>Bl W w2.heap.size #[.string nb,.slice va vn vc,.slice ua un uc,.bool jl,.slice bda bdn bdc,.slice lna lnn lnc] 28∧Below w.heap.size w W∧Below w2.heap.size w2 W)
  ⟨Bl.new _ _ _,B2.out.alloc B2.out.size _,br_.alloc nl_ _⟩ ?_
 clear B2
 intro w3 ⟨P3,B3,hb⟩
 have P3:=hd_ P3
 have B3:=hd_ B3
 cases ok with
 | false=>
  clear HD hb
  go_wp2_with fail
  go_ret
  exact ⟨rfl,B3.out⟩
 | true=>
  obtain ⟨d,ht,hok,hd⟩:=HD.out rfl
  have HT:=hd_ ht
  have HOK:=hd_ hok
  have D3:=hd_ (hd.keeps (zai hb))
  obtain ⟨r,hr⟩:∃ r,Rf.check d.structs d.vars=r:=⟨_,rfl⟩
  have HR:=hd_ hr
  have HR2:Hid (Ty.check d.structs d.vars=r):=hd_ (by rw [← Rf.check_same ht];exact hr)
  clear HD hb ht hok hd hr
  obtain ⟨q0,q1,q2,q3,q4,q5⟩:=P3.out.cells6
  have kp:=P3.out.lt
  go_wp2_with fail
  refine (zgB HR.out HOK.out HT.out w3 D3.out).mono ?_
  rintro e w4 ⟨rfl,hb⟩
  have P4:=hd_ (P3.out.below hb)
  have B4:=hd_ (zah B3.out hb)
  have D4:=hd_ (D3.out.keeps (zai hb))
  clear hb P3 B3 D3 q0 q1 q2 q3 q4 q5 kp
  obtain ⟨q0,q1,q2,q3,q4,q5⟩:=P4.out.cells6
  have kp:=P4.out.lt
  obtain ⟨ra,hra⟩:∃ z,(r.getD (0,0)).1=z:=⟨_,rfl⟩
  obtain ⟨re,hre⟩:∃ z,(r.getD (0,0)).2=z:=⟨_,rfl⟩
  rw [hra,hre]
  have HRA:=hd_ (And.intro hra hre)
  clear hra hre
  go_wp2_with fail
  refine (zcX HR2.out HOK.out w4 (HE.out.lex.below B4.out) D4.out).mono ?_
  rintro e w5 ⟨ev,rfl,hev,hb⟩
  have B5:=hd_ (zah B4.out hb)
  clear hb P4 B4 D4 q0 q1 q2 q3 q4 q5 kp
  cases r with
  | none=>
   have h1:ev=.nilIface:=hev
   obtain ⟨h2,h3⟩:=HRA.out
   simp only [Option.getD_none] at h2 h3
   subst h1 h2 h3
   clear HR HR2 HRA hev
   go_wp2_with fail
   refine (zlo w5).mono ?_
   rintro e w6 ⟨rfl,rfl⟩
   go_wp2_with fail
   go_ret
   exact ⟨rfl,B5.out⟩
  | some q=>
   obtain ⟨pp,rfl,hp⟩:=hev
   obtain ⟨h2,h3⟩:=HRA.out
   simp only [Option.getD_some] at h2 h3
   rw [h2,h3] at hp
   have HPP:=hd_ hp
   clear HR HR2 HRA hp h2 h3
   go_wp2_with fail
   refine (ze6 w5 (HE.out.hnd.below B5.out) HPP.out).mono ?_
   rintro e w6 ⟨rfl,hb⟩
   have B6:=hd_ (zah B5.out hb)
   clear hb HPP
   go_wp2_with fail
   go_ret
   exact ⟨rfl,B6.out⟩
end Go.Proofs.YtdpkjpjkdmkkpaaGreatDoor
