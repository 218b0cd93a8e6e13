/- errors.As at an error of package api: its contracts. -/
import Derived.Test.YtdabnnganponpaaGreatDoorBase
import Derived.WalkKit
import Derived.LaidEql
import Derived.Stop.Asserts
import Derived.RowKitTokens
namespace Go.Proofs.YtdabnnganponpaaGreatDoor
open Go.RowKit Go.Extern.Stop Go.Stop Go.Extern

/-- errors.As(nil, target). -/
theorem as_nil (t : Value) (w : World) :
    Calls Tryz.prog 12 #[.nilIface, t] w fun e w' => e = .returned (.bool false) ∧ w' = w := by
  go_enter Tryz.func12, Tryz.ntmps12
  go_wp2
  go_ret
  exact ⟨rfl, rfl⟩

/-! ### CLOSED FACTS ON THE MODEL's ENTRIES FOR internal/reflectlite, at this program's types: 25: *p.E · 27: **p.E · 23: error · 45: reflectlite's rtype · 1: how many package-level variables the dump has -/
theorem Rl.valueOf27 (t : Addr) (w : World) : (ReflectliteValue.unpack (.iface 50 (.pointer (some t)))).run Tryz.prog w
    = .ok (.agg #[.pointer (some ⟨10, 50, none⟩), .pointer (some ⟨w.heap.size, 0, none⟩), .int .u64 150]) (w.alloc (.cells #[.pointer (some t)] 50)) := by kernel_rfl
theorem Rl.type27 (a : Addr) (w : World) : (ReflectliteValue.methodAny (ReflectliteValue.valueError "reflectlite.Value.Type" 0) (fun t _ _ _ => ReflectliteType.toType t) #[.agg #[.pointer (some ⟨10, 50, none⟩), .pointer (some a), .int .u64 150]]).run Tryz.prog w
    = .ok (.iface 103 (.agg #[.pointer (some ⟨10, 50, none⟩)])) w := by kernel_rfl
theorem Rl.methodKind (h : Value) (w : World) : (Go.method 315 103 (.agg #[h]) "Kind").run Tryz.prog w = .ok (126, h) w := by kernel_rfl
theorem Rl.kind27 (w : World) : ((ReflectliteType.abiMethod fun t => (fun a : Nat => Value.int IntKind.u8 (a : Int)) <$> Rtype.kind t) #[.pointer (some ⟨10, 50, none⟩)]).run Tryz.prog w = .ok (.int .u8 22) w := by kernel_rfl
theorem Rl.kind25 (w : World) : ((ReflectliteType.abiMethod fun t => (fun a : Nat => Value.int IntKind.u8 (a : Int)) <$> Rtype.kind t) #[.pointer (some ⟨10, 37, none⟩)]).run Tryz.prog w = .ok (.int .u8 22) w := by kernel_rfl

/-! ### THE ENTRIES THAT READ OR WRITE MEMORY: laws with a premise on the cell (after Derived/Lib/ReflectliteSlice.lean's manner: each unfolding a lemma of its own, by rfl) -/
theorem rlm (z : Sem Value) (f : TypeId → Addr → Nat → Nat → Sem Value) (v : Value) :
    ReflectliteValue.method z f #[v] = (do match ← ReflectliteValue.parts v with | none => z | some (t, a, fl) => f t a fl (fl % 32)) := rfl
theorem Rl.parts27 (a : Addr) (w : World) : (ReflectliteValue.parts (.agg #[.pointer (some ⟨10, 50, none⟩), .pointer (some a), .int .u64 150])).run Tryz.prog w = .ok (some (50, a, 150)) w := by kernel_rfl
/-- (Value).IsNil at the Value of a **p.E that is not nil. -/
theorem Rl.isNil27 (a p : Addr) (W : World) (ha : W.cell? a = some (.pointer (some p))) :
    (ReflectliteValue.method (ReflectliteValue.valueError "reflectlite.Value.IsNil" 0) ReflectliteValue.isNil #[.agg #[.pointer (some ⟨10, 50, none⟩), .pointer (some a), .int .u64 150]]).run Tryz.prog W = .ok (.bool false) W := by
  rw [rlm]
  simp only [Sem.run_bind, Rl.parts27, Result.andThen]
  simp [ReflectliteValue.isNil, loadVar, isAgg, underlying, Tryz.underlying50, ha, Result.andThen]

theorem Rl.methodElem (h : Value) (w : World) : (Go.method 315 103 (.agg #[h]) "Elem").run Tryz.prog w = .ok (138, .agg #[h]) w := by kernel_rfl
theorem Rl.methodImplements (h : Value) (w : World) : (Go.method 315 103 (.agg #[h]) "Implements").run Tryz.prog w = .ok (139, .agg #[h]) w := by kernel_rfl
theorem Rl.methodAssignableTo (h : Value) (w : World) : (Go.method 315 103 (.agg #[h]) "AssignableTo").run Tryz.prog w = .ok (136, .agg #[h]) w := by kernel_rfl
theorem Rl.elem27 (w : World) : (ReflectliteType.method ReflectliteType.elem #[.agg #[.pointer (some ⟨10, 50, none⟩)]]).run Tryz.prog w = .ok (.iface 103 (.agg #[.pointer (some ⟨10, 37, none⟩)])) w := by kernel_rfl
theorem Rl.implements25 (w : World) : (ReflectliteType.relation "Implements" ReflectliteType.implements_ #[.agg #[.pointer (some ⟨10, 37, none⟩)], .iface 103 (.agg #[.pointer (some ⟨10, 26, none⟩)])]).run Tryz.prog w = .ok (.bool true) w := by kernel_rfl
theorem Rl.typeOf25 (v : Value) (w : World) : (ReflectliteType.typeOf #[.iface 37 v]).run Tryz.prog w = .ok (.iface 103 (.agg #[.pointer (some ⟨10, 37, none⟩)])) w := by kernel_rfl
theorem Rl.assignable25 (w : World) : (ReflectliteType.relation "AssignableTo" ReflectliteType.assignableTo #[.agg #[.pointer (some ⟨10, 37, none⟩)], .iface 103 (.agg #[.pointer (some ⟨10, 37, none⟩)])]).run Tryz.prog w = .ok (.bool true) w := by kernel_rfl
theorem Rl.valueOf25 (e : Addr) (w : World) : (ReflectliteValue.unpack (.iface 37 (.pointer (some e)))).run Tryz.prog w
    = .ok (.agg #[.pointer (some ⟨10, 37, none⟩), .pointer (some ⟨w.heap.size, 0, none⟩), .int .u64 150]) (w.alloc (.cells #[.pointer (some e)] 37)) := by kernel_rfl

theorem Rl.elemOf27 (w : World) : (Rtype.elem? 50).run Tryz.prog w = .ok (some 37) w := by kernel_rfl
theorem Rl.mk25 (p : Addr) (w : World) : (ReflectliteValue.mk 37 p ReflectliteValue.flagAddr).run Tryz.prog w = .ok (.agg #[.pointer (some ⟨10, 37, none⟩), .pointer (some p), .int .u64 406]) w := by kernel_rfl
/-- (Value).Elem at the Value of a **p.E that is not nil: the Value of the *p.E variable that it points to, addressable. -/
theorem Rl.elemV27 (a p : Addr) (W : World) (ha : W.cell? a = some (.pointer (some p))) :
    (ReflectliteValue.method (ReflectliteValue.valueError "reflectlite.Value.Elem" 0) ReflectliteValue.elem #[.agg #[.pointer (some ⟨10, 50, none⟩), .pointer (some a), .int .u64 150]]).run Tryz.prog W
      = .ok (.agg #[.pointer (some ⟨10, 37, none⟩), .pointer (some p), .int .u64 406]) W := by
  rw [rlm]
  simp only [Sem.run_bind, Rl.parts27, Result.andThen]
  simp [ReflectliteValue.elem, loadVar, isAgg, underlying, Tryz.underlying50, ha, Result.andThen, Rl.elemOf27, Rl.mk25]
theorem rls (v x : Value) : ReflectliteValue.set #[v, x] = (do
    let (some (dst, a, fl), some (src, b, _)) := (← ReflectliteValue.parts v, ← ReflectliteValue.parts x)
      | unsupported (.noEntry "extern/(internal/reflectlite.Value).Set.zeroValue")
    if fl / ReflectliteValue.flagAddr % 2 == 0 then unsupported (.noEntry "extern/(internal/reflectlite.Value).Set.unaddressable")
    let val ← loadVar src b
    if ← Rtype.directlyAssignable dst src then storeVar dst a val
    else if ← Rtype.implements dst src then
      if (← Rtype.kind src) == 20 then
        match val with
        | .nilIface => unsupported (.noEntry "extern/reflectlite: a nil value of one interface type handed on as a value of another")
        | _ => storeVar dst a val
      else storeVar dst a (.iface src val)
    else panicString ("reflectlite.Set: value of type " ++ (← Rtype.spelt src) ++ " is not assignable to type " ++ (← Rtype.spelt dst))
    pure (.tuple #[])) := rfl
theorem Rl.parts25a (a : Addr) (w : World) : (ReflectliteValue.parts (.agg #[.pointer (some ⟨10, 37, none⟩), .pointer (some a), .int .u64 406])).run Tryz.prog w = .ok (some (37, a, 406)) w := by kernel_rfl
theorem Rl.parts25 (a : Addr) (w : World) : (ReflectliteValue.parts (.agg #[.pointer (some ⟨10, 37, none⟩), .pointer (some a), .int .u64 150])).run Tryz.prog w = .ok (some (37, a, 150)) w := by kernel_rfl
theorem Rl.direct25 (w : World) : (Rtype.directlyAssignable 37 37).run Tryz.prog w = .ok true w := by kernel_rfl
theorem Rl.size25 (w : World) : (sizeOf 37).run Tryz.prog w = .ok 1 w := by kernel_rfl
/-- (Value).Set: the *p.E variable at 'ta' gets what the Value's own variable 'b' holds. -/
theorem Rl.set25 (ta b e : Addr) (old : Value) (W : World) (hb : W.cell? b = some (.pointer (some e))) (ht : W.cell? ta = some old) (hf : W.frozen? ta = false) :
    (ReflectliteValue.set #[.agg #[.pointer (some ⟨10, 37, none⟩), .pointer (some ta), .int .u64 406], .agg #[.pointer (some ⟨10, 37, none⟩), .pointer (some b), .int .u64 150]]).run Tryz.prog W
      = .ok (.tuple #[]) (W.setCell ta (.pointer (some e))) := by
  rw [rls]
  simp only [Sem.run_bind, Rl.parts25a, Rl.parts25, Result.andThen]
  simp [ReflectliteValue.flagAddr, loadVar, isAgg, underlying, Tryz.underlying37, hb, Result.andThen, Rl.direct25, storeVar, Value.cells, storeCells, Addr.add]
  rw [run_store Tryz.prog W ta _ _ (by rfl)]
  simp [ht, hf]

set_option maxHeartbeats 4000000 in
theorem as_hit (e t : Addr) (old : Value) (w : World) (hg : w.cell? ⟨0, 0, none⟩ = some (.iface 103 (.agg #[.pointer (some ⟨10, 26, none⟩)]))) (ht0 : w.cell? t = some old) (hf0 : w.frozen? t = false) :
    Calls Tryz.prog 12 #[.iface 37 (.pointer (some e)), .iface 50 (.pointer (some t))] w fun ev w' => ev = .returned (.bool true) ∧ w' = ((((w.alloc (.cells #[.pointer (some t)] 50)).alloc (.cells #[.pointer (some ⟨10, 50, none⟩), .pointer (some ⟨w.heap.size, 0, none⟩), .int .u64 150] 72)).alloc (.cells #[.pointer (some ⟨10, 50, none⟩), .pointer (some ⟨w.heap.size, 0, none⟩), .int .u64 150] 72)).alloc (.cells #[.pointer (some e)] 37)).setCell t (.pointer (some e)) := by
  have h6 := @run_callFunc_extern Tryz.prog 27 _ (fun args => ReflectliteValue.unpack (args.getD 0 (.tuple #[]))) Tryz.func27 (by kernel_rfl) (by kernel_rfl) (by kernel_rfl) (by kernel_rfl)
  have h7 := @run_callFunc_extern Tryz.prog 28 _ (ReflectliteValue.methodAny (ReflectliteValue.valueError "reflectlite.Value.Type" 0) (fun t _ _ _ => ReflectliteType.toType t)) Tryz.func28 (by kernel_rfl) (by kernel_rfl) (by kernel_rfl) (by kernel_rfl)
  have h8 := @run_callFunc_extern Tryz.prog 29 _ (ReflectliteValue.method (ReflectliteValue.valueError "reflectlite.Value.IsNil" 0) ReflectliteValue.isNil) Tryz.func29 (by kernel_rfl) (by kernel_rfl) (by kernel_rfl) (by kernel_rfl)
  have h27 := @run_callFunc_extern Tryz.prog 126 _ (ReflectliteType.abiMethod fun t => do pure (.int .u8 (← Rtype.kind t))) Tryz.func126 (by kernel_rfl) (by kernel_rfl) (by kernel_rfl) (by kernel_rfl)
  have h37 := @run_callFunc_extern Tryz.prog 138 _ (ReflectliteType.method ReflectliteType.elem) Tryz.func138 (by kernel_rfl) (by kernel_rfl) (by kernel_rfl) (by kernel_rfl)
  have h38 := @run_callFunc_extern Tryz.prog 139 _ (ReflectliteType.relation "Implements" ReflectliteType.implements_) Tryz.func139 (by kernel_rfl) (by kernel_rfl) (by kernel_rfl) (by kernel_rfl)
  have h10 := @run_callFunc_extern Tryz.prog 54 _ ReflectliteType.typeOf Tryz.func54 (by kernel_rfl) (by kernel_rfl) (by kernel_rfl) (by kernel_rfl)
  have h35 := @run_callFunc_extern Tryz.prog 136 _ (ReflectliteType.relation "AssignableTo" ReflectliteType.assignableTo) Tryz.func136 (by kernel_rfl) (by kernel_rfl) (by kernel_rfl) (by kernel_rfl)
  have h11 := @run_callFunc_extern Tryz.prog 55 _ (ReflectliteValue.method (ReflectliteValue.valueError "reflectlite.Value.Elem" 0) ReflectliteValue.elem) Tryz.func55 (by kernel_rfl) (by kernel_rfl) (by kernel_rfl) (by kernel_rfl)
  have h12 := @run_callFunc_extern Tryz.prog 56 _ ReflectliteValue.set Tryz.func56 (by kernel_rfl) (by kernel_rfl) (by kernel_rfl) (by kernel_rfl)
  have tO := Rl.typeOf25
  have mA := Rl.methodAssignableTo
  have a25 := Rl.assignable25
  have v25 := Rl.valueOf25
  have f6 := Rl.valueOf27
  have f7 := Rl.type27
  have mK := Rl.methodKind
  have mE := Rl.methodElem
  have mI := Rl.methodImplements
  have k27 := Rl.kind27
  have k25 := Rl.kind25
  have e27 := Rl.elem27
  have i25 := Rl.implements25
  have n8 := Rl.isNil27 ⟨w.heap.size, 0, none⟩ t ((w.alloc (.cells #[.pointer (some t)] 50)).alloc (.cells #[.pointer (some ⟨10, 50, none⟩), .pointer (some ⟨w.heap.size, 0, none⟩), .int .u64 150] 72)) (by simp)
  have hlt : 0 < w.heap.size := lt_of_cell hg
  have hg2 : ((w.alloc (.cells #[.pointer (some t)] 50)).alloc (.cells #[.pointer (some ⟨10, 50, none⟩), .pointer (some ⟨w.heap.size, 0, none⟩), .int .u64 150] 72)).cell? ⟨0, 0, none⟩ = some (.iface 103 (.agg #[.pointer (some ⟨10, 26, none⟩)])) := by
    rw [World.cell?_alloc_lt _ _ ⟨0, 0, none⟩ (by simp <;> omega), World.cell?_alloc_lt _ _ ⟨0, 0, none⟩ hlt]; exact hg
  have htl : t.block < w.heap.size := by
    rcases Nat.lt_or_ge t.block w.heap.size with h | h
    · exact h
    · simp [World.cell?, Array.getElem?_eq_none h] at ht0
  have el := Rl.elemV27 ⟨w.heap.size, 0, none⟩ t (((w.alloc (.cells #[.pointer (some t)] 50)).alloc (.cells #[.pointer (some ⟨10, 50, none⟩), .pointer (some ⟨w.heap.size, 0, none⟩), .int .u64 150] 72)).alloc (.cells #[.pointer (some ⟨10, 50, none⟩), .pointer (some ⟨w.heap.size, 0, none⟩), .int .u64 150] 72)) (by rw [World.cell?_alloc_lt _ _ ⟨w.heap.size, 0, none⟩ (by simp; omega)]; simp)
  have st := Rl.set25 t ⟨w.heap.size + 1 + 1 + 1, 0, none⟩ e old ((((w.alloc (.cells #[.pointer (some t)] 50)).alloc (.cells #[.pointer (some ⟨10, 50, none⟩), .pointer (some ⟨w.heap.size, 0, none⟩), .int .u64 150] 72)).alloc (.cells #[.pointer (some ⟨10, 50, none⟩), .pointer (some ⟨w.heap.size, 0, none⟩), .int .u64 150] 72)).alloc (.cells #[.pointer (some e)] 37))
    (by rw [World.cell?_alloc_at _ _ _ _ (by simp)]; rfl)
    (by rw [World.cell?_alloc_lt _ _ t (by simp; omega), World.cell?_alloc_lt _ _ t (by simp; omega), World.cell?_alloc_lt _ _ t (by simp; omega), World.cell?_alloc_lt _ _ t htl]; exact ht0)
    (by rw [World.frozen?_alloc_old _ _ t (by simp; omega), World.frozen?_alloc_old _ _ t (by simp; omega), World.frozen?_alloc_old _ _ t (by simp; omega), World.frozen?_alloc_old _ _ t (Nat.ne_of_lt htl)]; exact hf0)
  go_enter Tryz.func12, Tryz.ntmps12
  go_wp2
  refine wp_loop_rounds 1 ?_
  rw [rounds_succ]
  go_wp2
  go_ret
  exact ⟨rfl, rfl⟩
end Go.Proofs.YtdabnnganponpaaGreatDoor
