/- What every row of this seat shares: the builder that hands on the listed variables and the world's shape; the start that fits; the fixed facts out of them. -/
import Derived.Test.YtdpkjpjkdmkkpaaGreatDoorRows
import Derived.Test.YtdpkjpjkdmkkpaaGreatDoorMC
import Derived.ProofKit
import Derived.LaidMore
import Derived.LaidOnce
import Derived.OpenShut
import Derived.Stop.Joined
import Derived.Stop.LaidErr
import Derived.Lib.LaidTab
import Derived.SizedLaws
import Derived.HandedShaped
import Derived.Shelf.Vars
import Derived.LaidHandle
set_option maxRecDepth 100000
set_option maxHeartbeats 16000000
namespace Go.Proofs.YtdpkjpjkdmkkpaaGreatDoor
open Go.ChangeAt Go.ChangeShapes Go.RowKit Go.WideElems Go.WideMaps Go.WideShapes
theorem znx:ownKnob Tryz.prog.godebug=none:=by kernel_rfl
theorem zls {H:Type} {enc:TypeId × Value→H} {a:Assume} {C:Checked} {os:Os} {f:FuncId} {fn:Func} {s:ChangeSpec} {conds:List PathCond} {apart fresh handsOn again:Bool} {X:World→Array Value→Prop}
  (hX:∀ (w w':World) (args:Array Value),w.heap=w'.heap→X w args→X w' args)
  (own:ownKnob C.prog.godebug=none) (started:os.Started) (noInit:C.prog.inits.idxOf? f=none) (hfn:C.prog.funcs[f]? = some fn)
  (witness:∃ (w:World) (tape:Tape) (i:Input),w.os=os∧(w.forCall tape i).Shaped C.prog∧i.vars=[]∧Input.okWide C.prog (w.forCall tape i) .any w.heap.size f i ∧
   ((s.pre enc C.prog fn conds apart (w.forCall tape i).memory i.args∧X (w.forCall tape i).memory i.args)∧sizedMet enc C.prog fn (OpenSpec.ofChange s) apart (w.forCall tape i).memory i.args)∧a.holds C.prog (lone (Frame.enter C.prog f i.args .normal) [] (w.forCall tape i)))
  (contract:∀ (W:World) (base:Nat) (args:Array Value) (ds gs:List (DataW H)) (before:List MemPlace),
   (∀ (j:Nat) t v,fn.params[j]? = some t→args[j]? = some v→Value.okWide C.prog W .any base t v) →
   DataW.Whole enc C.prog fn.params.toList s.vars apart W args.toList ds gs before →
   conds.all (PathCond.test C.prog ⟨fn.params.toList,ds,s.plain.varTypes C.prog,gs⟩)=true →
   (DataW.weightsEach C.prog (fn.params.toList++s.plain.varTypes C.prog) (ds++gs)).all (·≤reachBytes)=true→X W args→W.ShapedOpen C.prog →
   a.holds C.prog (lone (Frame.enter C.prog f args .normal) [] W) →
   Calls C.prog f args W fun e W'=>∃ v,e=.returned v∧s.post enc C.prog fn apart fresh handsOn again W args v W') :
  ReturnsInHanded a C os f .any (fun w args=>(s.pre enc C.prog fn conds apart w args∧X w args)∧sizedMet enc C.prog fn (OpenSpec.ofChange s) apart w args) (s.post enc C.prog fn apart fresh handsOn again):=by
 refine returnsInHanded_of_calls own started noInit witness ?_
 intro w tape i _ hsh _ hok hpre hholds
 obtain ⟨_,_,_,fn',hfn',_,_,_,_,hval⟩:=hok
 have e:fn'=fn:=Option.some.inj (hfn'.symm.trans hfn)
 subst e
 obtain ⟨⟨⟨ds,gs,before,hw,hc⟩,hx⟩,hz⟩:=hpre
 have hw':=DataW.Whole.of_heap (w':=w.forCall tape i) (by rfl) hw
 refine (contract (w.forCall tape i) w.heap.size i.args ds gs before hval hw' hc (hz.weights hw) (hX _ _ _ (by rfl) hx) hsh hholds).mono fun e W' ⟨v,he,hp⟩=>?_
 subst he
 exact ChangeSpec.post_blind hp
def zc5:List (String × DataW Unit):=[("math/bits.deBruijn32tab", Rows.laid_math_bits_deBruijn32tab), ("math/bits.deBruijn64tab", Rows.laid_math_bits_deBruijn64tab), ("internal/strconv.uint64pow10", Rows.laid_internal_strconv_uint64pow10), ("errors.errorType", Rows.laid_errors_errorType), ("strconv.ErrRange", Rows.laid_strconv_ErrRange), ("strconv.ErrSyntax", Rows.laid_strconv_ErrSyntax), ("unicode.White_Space", Rows.laid_unicode_White_Space), ("strings.asciiSpace", Rows.laid_strings_asciiSpace)]
abbrev zjF:List LaidKind:=[.data, .data, .data, .handle, .sentinel, .sentinel, .listed, .data]
abbrev ziY : String := "412d11a80d33adfd4c6c00c69a31c86ab16e51a76133ba4d17cc793896b6f1c2"
abbrev zgb:Nat:=93
theorem zkE (os:Os) (args:Array Value):laidMetH Tryz.prog zc5 ((World.doorLaid Tryz.prog zgb os).forCall (fun _ _=>0) ⟨#[],args,[]⟩).memory:=
 laidMetH_of_parts3 (fuel:=8) (laidMet_of_run' 8 (by kernel_rfl) (by kernel_rfl)) (by kernel_rfl) (by kernel_rfl)
theorem zk5 {w:World} (h:w.ShapedOpen Tryz.prog):∃ m,w.cell? ⟨3,0,none⟩=some (.int .i64 m):=
 cell_of_shapedOpen_int (t:=3) (zero:=#[.int .i64 0]) h (of_decide_eq_true (by kernel_rfl)) (by kernel_rfl) rfl (by kernel_rfl) (by kernel_rfl) Tryz.underlying3
theorem powT:(Tryz.prog.globals[6]?).map (·.type)=some 259:=by kernel_rfl
theorem znw : Tryz.prog.globalNamed "strconv.ErrRange" = some 5 := by kernel_rfl
theorem rngT:(Tryz.prog.globals[5]?).map (·.type)=some 35:=by kernel_rfl
theorem znC : Tryz.prog.globalNamed "strconv.ErrSyntax" = some 4 := by kernel_rfl
theorem synT:(Tryz.prog.globals[4]?).map (·.type)=some 35:=by kernel_rfl
theorem star : "*" ++ "errors.errorString" = "*errors.errorString" := by decide
theorem zlG (u : TypeId) (h : Tryz.prog.typeName? 3 u = some "*errors.errorString") : u = 256 :=
 typeName_ptr_named (nm := "errors.errorString") (by rw [star]; kernel_rfl) (by kernel_rfl) (by decide) u (by rw [star]; exact h)
theorem zkI : Tryz.prog.globalNamed "errors.errorType" = some 0 := by kernel_rfl
theorem zkJ : (Tryz.prog.cutTypes.find? (·.1 == "internal/reflectlite.rtype")).map (·.2) = some 158 := by kernel_rfl
theorem zjs:((List.range 291).filter fun t=>Tryz.prog.rowNamed t [101,114,114,111,114])=[35]:=by kernel_rfl
theorem zkp:Tryz.prog.types.size=291:=by kernel_rfl
theorem znA:(Tryz.prog.globals[1]?).map (·.type)=some 137:=by kernel_rfl
def znK:List (String × DataW Unit):=[("math/bits.deBruijn32tab", Rows.laid_math_bits_deBruijn32tab), ("math/bits.deBruijn64tab", Rows.laid_math_bits_deBruijn64tab), ("internal/strconv.uint64pow10", Rows.laid_internal_strconv_uint64pow10), ("strconv.ErrRange", Rows.laid_strconv_ErrRange), ("strconv.ErrSyntax", Rows.laid_strconv_ErrSyntax), ("unicode.White_Space", Rows.laid_unicode_White_Space), ("strings.asciiSpace", Rows.laid_strings_asciiSpace)]
def zlz:List (String × DataW Unit):=[("errors.errorType", Rows.laid_errors_errorType)]
theorem ziM {W:World} (h:laidMetH Tryz.prog zc5 W):laidMet Tryz.prog znK W∧handlesMet Tryz.prog zlz W:=h
theorem zl4 {W:World} (h:handlesMet Tryz.prog zlz W):HEnv W:=by
 obtain ⟨name, u, ty, e1, e2, e3, e4, e5⟩ : ∃ name u ty, (Rows.laid_errors_errorType : DataW Unit).handleName? = some name ∧ (Tryz.prog.cutTypes.find? (·.1 == "internal/reflectlite.rtype")).map (·.2) = some u ∧ ty < Tryz.prog.types.size ∧ Tryz.prog.rowNamed ty name = true ∧
   W.var? Tryz.prog "errors.errorType" = some #[.iface u (.agg #[typeHandle Tryz.prog ty])] := h _ (List.mem_singleton.2 rfl)
 have en:name=[101,114,114,111,114]:=(Option.some.inj e1).symm
 subst en
 obtain rfl:=Option.some.inj (zkJ.symm.trans e2)
 have hm:ty ∈ (List.range 291).filter fun t=>Tryz.prog.rowNamed t [101,114,114,111,114]:=List.mem_filter.2 ⟨List.mem_range.2 (by rw [← zkp];exact e3),e4⟩
 rw [zjs] at hm
 obtain rfl:=List.mem_singleton.1 hm
 have hh:typeHandle Tryz.prog 35=.pointer (some ⟨10,35,none⟩):=by kernel_rfl
 rw [hh] at e5
 simpa [HEnv] using World.var?_cell zkI e5 0
theorem znb {W:World} (h:laidMetH Tryz.prog zc5 W) (hs:W.ShapedOpen Tryz.prog):TEnv W:=by
 obtain ⟨hd,hh⟩:=ziM h
 have h3:=hd.tail.tail
 have hpow : Lib.TabIs Tryz.prog W "internal/strconv.uint64pow10" .u64 Lib.pow10Tab :=
  Lib.tabIs_of_head (rest:=_) zns powT Tryz.underlying259 Tryz.underlying225 (by kernel_rfl) (by kernel_rfl) h3
 obtain ⟨a1,s1,hv1,_,_,_⟩:=laid_sentinel h3.tail znw rngT Tryz.underlying35 zlG Tryz.underlying256 Tryz.underlying258 rfl rfl Tryz.underlying9 (by kernel_rfl) (by kernel_rfl)
 obtain ⟨a2,s2,hv2,_,_,_⟩:=laid_sentinel h3.tail.tail znC synT Tryz.underlying35 zlG Tryz.underlying256 Tryz.underlying258 rfl rfl Tryz.underlying9 (by kernel_rfl) (by kernel_rfl)
 have hspace : Lib.TabIs Tryz.prog W "strings.asciiSpace" .u8 Lib.asciiSpaceTab :=
  Lib.tabIs_of_head (rest:=_) zkj znA Tryz.underlying137 Tryz.underlying5 (by kernel_rfl) (by kernel_rfl) h3.tail.tail.tail.tail
 have he:Env W:={ maxLen:=zk5 hs,syn:=⟨_,_,by simpa using World.var?_cell znC hv2 0⟩,rng:=⟨_,_,by simpa using World.var?_cell znw hv1 0⟩,pow:=hpow }
 exact ⟨⟨he,hspace⟩,zl4 hh⟩
end Go.Proofs.YtdpkjpjkdmkkpaaGreatDoor
