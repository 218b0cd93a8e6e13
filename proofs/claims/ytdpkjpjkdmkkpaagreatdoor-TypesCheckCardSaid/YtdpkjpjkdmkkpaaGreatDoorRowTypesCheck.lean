/- The statement TypesCheck holds for every input: the call returns true and leaves its arguments as they were. Beyond the row's own words there is no condition; the card ties the listed variables of Go's library to the program's text. -/
import Derived.Test.YtdpkjpjkdmkkpaaGreatDoorTyLC
import Derived.Test.YtdpkjpjkdmkkpaaGreatDoorRowKitL
import Derived.Test.YtdpkjpjkdmkkpaaGreatDoorCards
import Derived.Test.YtdpkjpjkdmkkpaaGreatDoorTie
import Derived.SevenTiedAt
set_option maxRecDepth 100000
set_option maxHeartbeats 16000000
namespace Go.Proofs.YtdpkjpjkdmkkpaaGreatDoor
open Go.ChangeAt Go.ChangeShapes Go.RowKit Go.WideElems Go.WideMaps Go.WideShapes
open Go.ChangeMaps (open_string shut_string)
theorem typesCheck_lifted (os:Os) (started:os.Started) (H:Type) (enc:TypeId × Value→H) :
  ReturnsInHanded {} Tryz.checked os 3 .any (fun w args=>(Rows.typesCheckSpec.pre enc Tryz.prog Tryz.f3 [] false w args∧laidMetH Tryz.prog zc5 w)∧sizedMet enc Tryz.prog Tryz.f3 (OpenSpec.ofChange Rows.typesCheckSpec) false w args)
   (Rows.typesCheckSpec.post enc Tryz.prog Tryz.f3 false true false false):=by
 refine zls (C:=Tryz.checked) (X:=fun w _=>laidMetH Tryz.prog zc5 w) (fun _ _ _ hh h=>h.of_heap hh) znx started (by kernel_rfl) Tryz.func3
  (ChangeSpec.witness_shaped (enc:=enc) (C:=Tryz.checked) (os:=os) (X:=fun w _=>laidMetH Tryz.prog zc5 w) false (World.doorLaid Tryz.prog zgb os) #[.string ⟨#[]⟩,.bool false] 8 rfl (World.shaped_of_RefB (by kernel_rfl) (by kernel_rfl)) (by kernel_rfl) (by kernel_rfl) (by kernel_rfl) (zkE os _)) ?_
 intro W base args ds gs before hval0 hW _ hsz0 hL hshape _
 have hsz:(DataW.weightsEach Tryz.prog (Tryz.f3.params.toList++Rows.typesCheckSpec.plain.varTypes Tryz.prog) (ds++gs)).all (·≤reachBytes)=true:=hsz0
 clear hsz0
 have hval:∀ (j:Nat) t v,Tryz.f3.params[j]? = some t→args[j]? = some v→Value.okWide Tryz.prog W .any base t v:=hval0
 have hW':=hW
 obtain ⟨p,q,hA0,hV,rfl,_,_⟩:=hW
 have hA:DataW.TrodAll enc Tryz.prog W 0 (fun _=>true) true Tryz.f3.params.toList args.toList ds p:=hA0
 rw [Tryz.params3] at hA hval hsz
 obtain ⟨v0,v1,d0,d1,p0,p1,rfl,rfl,rfl,h0,h1⟩:=trodAll_two hA
 obtain ⟨rfl,rfl⟩:=trodVars_none hV
 obtain ⟨x0,rfl,rfl,rfl,b0⟩:=open_string Tryz.underlying9 (hval 0 9 v0 rfl rfl) h0
 obtain ⟨x1,rfl,rfl,rfl⟩:=open_bool Tryz.underlying4 (hval 1 4 v1 rfl rfl) h1
 clear hA0 hval0
 simp only [List.append_nil] at hW'
 have l0:x0.size≤140737488351232:=by
  have h1:=sized_string hsz (j:=0) (t:=9) rfl rfl
  have e1:x0.size=x0.data.size:=rfl
  have e2:x0.data.toList.length=x0.data.size:=Array.length_toList
  have e3:reachBytes=140737488351232:=rfl
  omega
 refine (zf1 x0 l0 x1 W (znb hL hshape)).mono fun e W' ⟨he,hnx⟩=>?_
 subst he
 refine ⟨_,rfl,_,_,_,[],[],[],hW',?_,?_,rfl,hnx.frame _,fun h=>by cases h⟩
 ·exact trodAll_mk1 (shut_bool Tryz.underlying4 _)
 ·exact trodAll_mk2 (shut_string Tryz.underlying9 b0) (shut_bool Tryz.underlying4 _)
theorem typesCheck_row:Rows.TypesCheckSaid:=
 OpenClaim.holds_of_wide 3 Tryz.f3 rfl rfl rfl rfl rfl rfl rfl ⟨rfl,rfl,rfl,rfl,rfl⟩ rfl rfl rfl rfl rfl (by kernel_rfl) Tryz.func3 (by kernel_rfl)
  (of_decide_eq_true (by kernel_rfl)) (by unfold Func.isWrapper;rw [if_neg (of_decide_eq_false (by kernel_rfl))];exact ⟨rfl,rfl⟩)
  (fun os started H enc _=>typesCheck_lifted os started H enc)
theorem typesCheck_holds:Rows.TypesCheckCardSaid:=
 Claim7.holds_tied_plain_at .later [] zjF true (true,ziY) true
  typesCheck_row (fun _ h=>by cases h) (by kernel_rfl) (fun _ h=>by cases h) typesCheck_row_tie rfl ⟨rfl,rfl⟩ (by kernel_rfl) rfl
  (fun f fn hf hfn=>by
   obtain rfl : f = 3 := Option.some.inj ((show Tryz.prog.funcNamed "rung/runglaw15.TypesCheck" = some 3 by kernel_rfl).symm.trans hf) |>.symm
   obtain rfl:fn=Tryz.f3:=(Option.some.inj (Tryz.func3.symm.trans hfn)).symm
   exact ⟨by kernel_rfl,fun j t ht=>by
    rw [Tryz.params3] at ht
    have h3:t=9∨t=4:=by
     rcases j with _ | ⟨_ | j⟩
     ·simp at ht;subst ht;simp
     ·simp at ht;subst ht;simp
     ·simp at ht
    rcases h3 with rfl | rfl
    ·exact (show Tryz.prog.wantsStandIn 9=false by kernel_rfl)
    ·exact (show Tryz.prog.wantsStandIn 4=false by kernel_rfl)⟩)
  (by kernel_rfl)
#print axioms typesCheck_holds
end Go.Proofs.YtdpkjpjkdmkkpaaGreatDoor
