/- Numbers written out, in base ten and sixteen, and what package lex's plain words read of them. -/
import Derived.Test.YtdpkjpjkdmkkpaaGreatDoorMB
import Derived.Deep.AppendLies
import Derived.OwnWalk
import Derived.Deep.RegionLaw
import Derived.LaidEql
import Derived.Stop.Asserts
import Derived.RowKitTokens
namespace Go.Proofs.YtdpkjpjkdmkkpaaGreatDoor.Lx
def digB (n:Nat):UInt8:=if n < 10 then UInt8.ofNat (48+n) else UInt8.ofNat (55+n)
def numF (base:Nat):Nat→Nat→List UInt8
 | 0,n=>[digB n]
 | f+1,n=>if n < base then [digB n] else numF base f (n / base)++[digB (n % base)]
def decs (n:Nat):List UInt8:=numF 10 20 n
def zm1 (base:Int) (rest:List UInt8):Prop:=∀ c t,rest=c::t→¬ c.toNat=95∧zbx c base=false
theorem zm1.nil (base:Int):zm1 base []:=fun _ _ h=>by cases h
end Go.Proofs.YtdpkjpjkdmkkpaaGreatDoor.Lx
set_option maxRecDepth 100000
set_option maxHeartbeats 16000000
namespace Go.Proofs.YtdpkjpjkdmkkpaaGreatDoor
open Lx
def signed (n:Int):List UInt8:=if n < 0 then 45::decs (-n).toNat else decs n.toNat
theorem ze5 (l:List UInt8):∀ (f at_:Nat) (n:Int) (next:Nat),at_≤l.length→next≤5→at_≤(zfY l f at_ n next).1∧(zfY l f at_ n next).1≤l.length:=by
 intro f
 induction f with
 | zero=>intro at_ n next h _;exact ⟨Nat.le_refl _,h⟩
 | succ f ih=>
  intro at_ n next h hn
  simp only [zfY]
  split
  ·exact ⟨Nat.le_refl _,h⟩
  ·rename_i hk
   obtain ⟨j,hj,h1,h2,h3⟩:=zkq (rest:=l.drop (at_+(zak (l.drop at_) 10).2)) rfl hn hk
   rw [hj,Int.toNat_natCast]
   have hd:=zaI (l.drop at_) 10
   rw [List.length_drop] at hd h3
   have:=ih (at_+(zak (l.drop at_) 10).2+(zg2 j).length) (zfX n (zak (l.drop at_) 10).1 j) (j+1) (by omega) (by omega)
   omega
theorem zd7 {l:List UInt8} {n e:Int} {z:Nat} (h:Lx.number l=(n,z,e)) (he:e=0):1≤z∧z≤l.length:=by
 subst he
 unfold Lx.number at h
 simp only at h
 split at h
 ·cases h
 ·rename_i h0
  have hd:=zaI l 10
  split at h
  ·rename_i h1
   have hlt:(zak l 10).2 < l.length:=by
    rcases Nat.lt_or_ge (zak l 10).2 l.length with h2 | h2
    ·exact h2
    ·rw [List.getElem?_eq_none h2] at h1;exact absurd h1.1 (by simp)
   have hm:=zaI (l.drop ((zak l 10).2+1)) (zak l 10).1
   rw [List.length_drop] at hm
   split at h
   ·cases h
   ·injection h with _ h2;injection h2 with h2 _;omega
  ·injection h with _ h2;injection h2 with h2 _;omega
theorem zlh {p:UInt8→Bool} {c:UInt8} {l:List UInt8} (h:p c=true):1≤span p (c::l):=by
 simp [span,h]
theorem zd3 {l:List UInt8} {a k z:Nat} {t:Tok} {e:Int} (h:zaL l a k=(t,z,e)) (he:e=0) (ha:a≤l.length) (ha1:1≤a):1≤z∧z≤l.length:=by
 subst he
 unfold zaL at h
 simp only at h
 split at h
 ·injection h with _ h2;injection h2 with h2 _
  have:(List.take (span zbi (List.drop a l)) (List.drop a l)).length≤(l.drop a).length:=by rw [List.length_take];omega
  rw [List.length_drop] at this
  omega
 ·split at h
  ·rename_i hp
   have hp2:=zbY hp.2
   rw [List.length_drop] at hp2
   simp only [List.length_cons,List.length_nil] at hp2
   have hd:=zaI (List.drop 1 (List.drop a l)) 10
   rw [List.length_drop,List.length_drop] at hd
   split at h
   ·injection h with _ h2;injection h2 with _ h2;cases h2
   ·split at h
    ·injection h with _ h2;injection h2 with h2 _;omega
    ·injection h with _ h2;injection h2 with _ h2;cases h2
  ·split at h
   ·rename_i h3
    injection h with _ h2;injection h2 with _ h2;exact absurd h2 h3
   ·rename_i h3
    have h3:(Lx.number (l.drop a)).2.2=0:=by simpa using h3
    have hz:=zd7 (l:=l.drop a) (n:=(Lx.number (l.drop a)).1) (z:=(Lx.number (l.drop a)).2.1) (e:=(Lx.number (l.drop a)).2.2) rfl h3
    rw [List.length_drop] at hz
    split at h
    ·injection h with _ h2;injection h2 with h2 _;omega
    ·injection h with _ h2;injection h2 with _ h2;cases h2
theorem zeT {s:Int} {q:Nat × Int × Nat} {t:Tok} {z:Nat} {e:Int} (h:zkX s q=(t,z,e)) (he:e=0):z=q.1:=by
 subst he
 unfold zkX at h
 split at h
 ·injection h with _ h2;injection h2 with _ h2;cases h2
 ·split at h
  ·injection h with _ h2;injection h2 with h2 _;exact h2.symm
  ·injection h with _ h2;injection h2 with _ h2;cases h2
theorem zhk {l:List UInt8} {a z:Nat} {t:Tok} {e:Int} (h:zjE l a=(t,z,e)) (he:e=0) (ha:a≤l.length) (ha1:1≤a):1≤z∧z≤l.length:=by
 unfold zjE at h
 split at h
 ·rename_i hp
  have hp2:=zbY hp
  rw [List.length_drop] at hp2
  simp only [List.length_cons,List.length_nil] at hp2
  have h1:=zeT h he
  have h2:=ze5 l 5 (a+1) 0 0 (by omega) (by omega)
  omega
 ·have h1:=zeT h he
  have h2:=ze5 l 5 a 0 0 ha (by omega)
  omega
theorem zcK {c:UInt8} {l:List UInt8} {t:Tok} {z:Nat} {e:Int} (hc:zbi c=true) (h:zcq (c::l)=(t,z,e)) (he:e=0):1≤z∧z≤(c::l).length:=by
 have h1:=zlh (l:=l) hc
 have h2:=zdf zbi (c::l)
 unfold zcq at h
 simp only at h
 split at h
 ·rename_i hh
  have hlt:span zbi (c::l) < (c::l).length:=by
   rcases Nat.lt_or_ge (span zbi (c::l)) (c::l).length with h3 | h3
   ·exact h3
   ·rw [List.getElem?_eq_none h3] at hh;exact absurd hh.1 (by simp)
  split at h
  ·exact zhk h he (by omega) (by omega)
  ·exact zd3 h he (by omega) (by omega)
 ·subst he
  unfold za7 at h
  repeat' split at h
  all_goals (injection h with _ h2;injection h2 with h2 h3)
  all_goals first | omega | cases h3
theorem zi3 {l:List UInt8} (gs:List (List UInt8)) (hg:∀ g ∈ gs,1≤g.length) {t:Tok} {z:Nat} {e:Int} (h:zcT l gs=(t,z,e)) (he:e=0):1≤z∧z≤l.length:=by
 induction gs with
 | nil=>subst he;simp only [zcT] at h;injection h with _ h2;injection h2 with _ h2;cases h2
 | cons g gs ih=>
  simp only [zcT] at h
  split at h
  ·rename_i hp
   injection h with _ h2;injection h2 with h2 _
   have:=hg g (by simp)
   have:=zbY hp
   omega
  ·exact ih (fun g hg'=>hg g (by simp [hg'])) h
theorem zhl {l:List UInt8} {t:Tok} {z:Nat} {e:Int} (hl:l≠[]) (h:zdk l=(t,z,e)) (he:e=0):1≤z∧z≤l.length:=by
 cases l with
 | nil=>exact absurd rfl hl
 | cons c l=>
  simp only [zdk] at h
  split at h
  ·injection h with _ h2;injection h2 with h2 _;simp;omega
  ·split at h
   ·rename_i hc
    exact zcK (by simp [zbi,hc]) h he
   ·split at h
    ·unfold zbQ at h
     injection h with _ h2;injection h2 with h2 h3
     subst he
     split at h3
     ·cases h3
     ·have:=zd7 (l:=c::l) (n:=(Lx.number (c::l)).1) (z:=(Lx.number (c::l)).2.1) (e:=(Lx.number (c::l)).2.2) rfl h3
      omega
    ·split at h
     ·have hs:=zdf zdU l
      unfold zb3 at h
      split at h
      ·rename_i h3;injection h with _ h2;injection h2 with _ h2;exact absurd (h2.trans he) h3
      ·injection h with _ h2;injection h2 with h2 _;simp;omega
     ·exact zi3 SG (by decide) h he
open Ad Go.RowKit
def tokC (t:Tok):List Value:=[.int .i64 t.tok,.int .i64 t.kind,.int .i64 t.n,.string ⟨t.text.toArray⟩,.int .i64 t.at_]
def zcY (ts:List Tok):List Value:=ts.flatMap tokC
theorem zkk (ts:List Tok) (t:Tok):zcY (ts++[t])=zcY ts++tokC t:=by simp [zcY]
theorem zmD:(Tryz.prog.info? 107).map (fun i=>(i.zero,i.size,i.bytes))=some (some (.agg #[.int .i64 0,.int .i64 0,.int .i64 0,.string ⟨#[]⟩,.int .i64 0]),5,48):=by kernel_rfl
theorem Only.grown {b:Nat} {w w':World} (h:Only b w w'):w.grownBy w' (some b):=⟨h.os,h.tape,h.output,h.size,fun k hk hb=>h.block k hk (fun e=>hb (by rw [e]))⟩
theorem zfZ (t:Tok):∀ u ∈ tokC t,u.oneCell'=true:=by
 intro u hu
 simp only [tokC,List.mem_cons,List.mem_nil_iff,or_false] at hu
 rcases hu with rfl | rfl | rfl | rfl | rfl <;> rfl
theorem zae {w w':World} {B C sz n:Nat} {T:TypeId} {v:Value} {xs:List Value} (h:w.ownsRow B T sz v n xs) (hb:Below C w w') (hC:w.heap.size≤C):w'.ownsRow B T sz v n xs:=by
 refine h.kept (row:=none) ⟨hb.os,hb.tape,hb.output,hb.size,fun k hk _=>hb.block k (by omega)⟩ ?_
 cases hv:v.ownBlock with
 | none=>exact .inl rfl
 | some k=>exact .inr (by simp)
end Go.Proofs.YtdpkjpjkdmkkpaaGreatDoor
namespace Go.Proofs.YtdpkjpjkdmkkpaaGreatDoor
open Go.Extern Go.Extern.Stop Go.RowKit Go.Stop
theorem Rl.valueOf27 (t:Addr) (w:World):(ReflectliteValue.unpack (.iface 72 (.pointer (some t)))).run Tryz.prog w
  = .ok (.agg #[.pointer (some ⟨10,72,none⟩),.pointer (some ⟨w.heap.size,0,none⟩),.int .u64 150]) (w.alloc (.cells #[.pointer (some t)] 72)):=by kernel_rfl
theorem Rl.type27 (a : Addr) (w : World) : (ReflectliteValue.methodAny (ReflectliteValue.valueError "reflectlite.Value.Type" 0) (fun t _ _ _ => ReflectliteType.toType t) #[.agg #[.pointer (some ⟨10, 72, none⟩), .pointer (some a), .int .u64 150]]).run Tryz.prog w
  = .ok (.iface 158 (.agg #[.pointer (some ⟨10,72,none⟩)])) w:=by kernel_rfl
theorem Rl.methodKind (h : Value) (w : World) : (Go.method 391 158 (.agg #[h]) "Kind").run Tryz.prog w = .ok (182, h) w := by kernel_rfl
theorem Rl.kind27 (w:World):((ReflectliteType.abiMethod fun t=>(fun a:Nat=>Value.int IntKind.u8 (a:Int)) <$> Rtype.kind t) #[.pointer (some ⟨10,72,none⟩)]).run Tryz.prog w=.ok (.int .u8 22) w:=by kernel_rfl
theorem Rl.kind25 (w:World):((ReflectliteType.abiMethod fun t=>(fun a:Nat=>Value.int IntKind.u8 (a:Int)) <$> Rtype.kind t) #[.pointer (some ⟨10,70,none⟩)]).run Tryz.prog w=.ok (.int .u8 22) w:=by kernel_rfl
theorem rlm (z:Sem Value) (f:TypeId→Addr→Nat→Nat→Sem Value) (v:Value) :
  ReflectliteValue.method z f #[v]=(do match ← ReflectliteValue.parts v with | none=>z | some (t,a,fl)=>f t a fl (fl % 32)):=rfl
theorem Rl.parts27 (a:Addr) (w:World):(ReflectliteValue.parts (.agg #[.pointer (some ⟨10,72,none⟩),.pointer (some a),.int .u64 150])).run Tryz.prog w=.ok (some (72,a,150)) w:=by kernel_rfl
theorem Rl.isNil27 (a p:Addr) (W:World) (ha:W.cell? a=some (.pointer (some p))) :
  (ReflectliteValue.method (ReflectliteValue.valueError "reflectlite.Value.IsNil" 0) ReflectliteValue.isNil #[.agg #[.pointer (some ⟨10, 72, none⟩), .pointer (some a), .int .u64 150]]).run Tryz.prog W = .ok (.bool false) W := by
 rw [rlm]
 simp only [Sem.run_bind,Rl.parts27,Result.andThen]
 simp [ReflectliteValue.isNil,loadVar,isAgg,underlying,Tryz.underlying72,ha,Result.andThen]
theorem Rl.methodElem (h : Value) (w : World) : (Go.method 391 158 (.agg #[h]) "Elem").run Tryz.prog w = .ok (194, .agg #[h]) w := by kernel_rfl
theorem Rl.methodImplements (h : Value) (w : World) : (Go.method 391 158 (.agg #[h]) "Implements").run Tryz.prog w = .ok (195, .agg #[h]) w := by kernel_rfl
theorem Rl.methodAssignableTo (h : Value) (w : World) : (Go.method 391 158 (.agg #[h]) "AssignableTo").run Tryz.prog w = .ok (192, .agg #[h]) w := by kernel_rfl
theorem Rl.elem27 (w:World):(ReflectliteType.method ReflectliteType.elem #[.agg #[.pointer (some ⟨10,72,none⟩)]]).run Tryz.prog w=.ok (.iface 158 (.agg #[.pointer (some ⟨10,70,none⟩)])) w:=by kernel_rfl
theorem Rl.implements25 (w : World) : (ReflectliteType.relation "Implements" ReflectliteType.implements_ #[.agg #[.pointer (some ⟨10, 70, none⟩)], .iface 158 (.agg #[.pointer (some ⟨10, 35, none⟩)])]).run Tryz.prog w = .ok (.bool true) w := by kernel_rfl
theorem Rl.typeOf25 (v:Value) (w:World):(ReflectliteType.typeOf #[.iface 70 v]).run Tryz.prog w=.ok (.iface 158 (.agg #[.pointer (some ⟨10,70,none⟩)])) w:=by kernel_rfl
theorem Rl.assignable25 (w : World) : (ReflectliteType.relation "AssignableTo" ReflectliteType.assignableTo #[.agg #[.pointer (some ⟨10, 70, none⟩)], .iface 158 (.agg #[.pointer (some ⟨10, 70, none⟩)])]).run Tryz.prog w = .ok (.bool true) w := by kernel_rfl
theorem Rl.valueOf25 (e:Addr) (w:World):(ReflectliteValue.unpack (.iface 70 (.pointer (some e)))).run Tryz.prog w
  = .ok (.agg #[.pointer (some ⟨10,70,none⟩),.pointer (some ⟨w.heap.size,0,none⟩),.int .u64 150]) (w.alloc (.cells #[.pointer (some e)] 70)):=by kernel_rfl
theorem Rl.elemOf27 (w:World):(Rtype.elem? 72).run Tryz.prog w=.ok (some 70) w:=by kernel_rfl
theorem Rl.mk25 (p:Addr) (w:World):(ReflectliteValue.mk 70 p ReflectliteValue.flagAddr).run Tryz.prog w=.ok (.agg #[.pointer (some ⟨10,70,none⟩),.pointer (some p),.int .u64 406]) w:=by kernel_rfl
theorem Rl.elemV27 (a p:Addr) (W:World) (ha:W.cell? a=some (.pointer (some p))) :
  (ReflectliteValue.method (ReflectliteValue.valueError "reflectlite.Value.Elem" 0) ReflectliteValue.elem #[.agg #[.pointer (some ⟨10, 72, none⟩), .pointer (some a), .int .u64 150]]).run Tryz.prog W
   = .ok (.agg #[.pointer (some ⟨10,70,none⟩),.pointer (some p),.int .u64 406]) W:=by
 rw [rlm]
 simp only [Sem.run_bind,Rl.parts27,Result.andThen]
 simp [ReflectliteValue.elem,loadVar,isAgg,underlying,Tryz.underlying72,ha,Result.andThen,Rl.elemOf27,Rl.mk25]
theorem rls (v x:Value):ReflectliteValue.set #[v,x]=(do
  let (some (dst,a,fl),some (src,b,_)):=(← ReflectliteValue.parts v,← ReflectliteValue.parts x)
   | unsupported (.noEntry "extern/(internal/reflectlite.Value).Set.zeroValue")
  if fl / ReflectliteValue.flagAddr % 2 == 0 then unsupported (.noEntry "extern/(internal/reflectlite.Value).Set.unaddressable")
  let val ← loadVar src b
  if ← Rtype.directlyAssignable dst src then storeVar dst a val
  else if ← Rtype.implements dst src then
   if (← Rtype.kind src)==20 then
    match val with
    | .nilIface => unsupported (.noEntry "extern/reflectlite: a nil value of one interface type handed on as a value of another")
    | _=>storeVar dst a val
   else storeVar dst a (.iface src val)
  else panicString ("reflectlite.Set: value of type " ++ (← Rtype.spelt src) ++ " is not assignable to type " ++ (← Rtype.spelt dst))
  pure (.tuple #[])):=rfl
theorem Rl.parts25a (a:Addr) (w:World):(ReflectliteValue.parts (.agg #[.pointer (some ⟨10,70,none⟩),.pointer (some a),.int .u64 406])).run Tryz.prog w=.ok (some (70,a,406)) w:=by kernel_rfl
theorem Rl.parts25 (a:Addr) (w:World):(ReflectliteValue.parts (.agg #[.pointer (some ⟨10,70,none⟩),.pointer (some a),.int .u64 150])).run Tryz.prog w=.ok (some (70,a,150)) w:=by kernel_rfl
theorem Rl.direct25 (w:World):(Rtype.directlyAssignable 70 70).run Tryz.prog w=.ok true w:=by kernel_rfl
theorem Rl.set25 (ta b e:Addr) (old:Value) (W:World) (hb:W.cell? b=some (.pointer (some e))) (ht:W.cell? ta=some old) (hf:W.frozen? ta=false) :
  (ReflectliteValue.set #[.agg #[.pointer (some ⟨10,70,none⟩),.pointer (some ta),.int .u64 406],.agg #[.pointer (some ⟨10,70,none⟩),.pointer (some b),.int .u64 150]]).run Tryz.prog W
   = .ok (.tuple #[]) (W.setCell ta (.pointer (some e))):=by
 rw [rls]
 simp only [Sem.run_bind,Rl.parts25a,Rl.parts25,Result.andThen]
 simp [ReflectliteValue.flagAddr,loadVar,isAgg,underlying,Tryz.underlying70,hb,Result.andThen,Rl.direct25,storeVar,Value.cells,storeCells,Addr.add]
 rw [run_store Tryz.prog W ta _ _ (by rfl)]
 simp [ht,hf]
theorem zm3 (e t:Addr) (old:Value) (w:World) (hg:w.cell? ⟨0,0,none⟩=some (.iface 158 (.agg #[.pointer (some ⟨10,35,none⟩)]))) (ht0:w.cell? t=some old) (hf0:w.frozen? t=false) :
  Calls Tryz.prog 33 #[.iface 70 (.pointer (some e)),.iface 72 (.pointer (some t))] w fun ev w'=>ev=.returned (.bool true)∧w'=((((w.alloc (.cells #[.pointer (some t)] 72)).alloc (.cells #[.pointer (some ⟨10,72,none⟩),.pointer (some ⟨w.heap.size,0,none⟩),.int .u64 150] 122)).alloc (.cells #[.pointer (some ⟨10,72,none⟩),.pointer (some ⟨w.heap.size,0,none⟩),.int .u64 150] 122)).alloc (.cells #[.pointer (some e)] 70)).setCell t (.pointer (some e)):=by
 have h6:=@run_callFunc_extern Tryz.prog 62 _ (fun args=>ReflectliteValue.unpack (args.getD 0 (.tuple #[]))) Tryz.func62 (by kernel_rfl) (by kernel_rfl) (by kernel_rfl) (by kernel_rfl)
 have h7 := @run_callFunc_extern Tryz.prog 63 _ (ReflectliteValue.methodAny (ReflectliteValue.valueError "reflectlite.Value.Type" 0) (fun t _ _ _ => ReflectliteType.toType t)) Tryz.func63 (by kernel_rfl) (by kernel_rfl) (by kernel_rfl) (by kernel_rfl)
 have h8 := @run_callFunc_extern Tryz.prog 64 _ (ReflectliteValue.method (ReflectliteValue.valueError "reflectlite.Value.IsNil" 0) ReflectliteValue.isNil) Tryz.func64 (by kernel_rfl) (by kernel_rfl) (by kernel_rfl) (by kernel_rfl)
 have h27:=@run_callFunc_extern Tryz.prog 182 _ (ReflectliteType.abiMethod fun t=>do pure (.int .u8 (← Rtype.kind t))) Tryz.func182 (by kernel_rfl) (by kernel_rfl) (by kernel_rfl) (by kernel_rfl)
 have h37:=@run_callFunc_extern Tryz.prog 194 _ (ReflectliteType.method ReflectliteType.elem) Tryz.func194 (by kernel_rfl) (by kernel_rfl) (by kernel_rfl) (by kernel_rfl)
 have h38 := @run_callFunc_extern Tryz.prog 195 _ (ReflectliteType.relation "Implements" ReflectliteType.implements_) Tryz.func195 (by kernel_rfl) (by kernel_rfl) (by kernel_rfl) (by kernel_rfl)
 have h10:=@run_callFunc_extern Tryz.prog 89 _ ReflectliteType.typeOf Tryz.func89 (by kernel_rfl) (by kernel_rfl) (by kernel_rfl) (by kernel_rfl)
 have h35 := @run_callFunc_extern Tryz.prog 192 _ (ReflectliteType.relation "AssignableTo" ReflectliteType.assignableTo) Tryz.func192 (by kernel_rfl) (by kernel_rfl) (by kernel_rfl) (by kernel_rfl)
 have h11 := @run_callFunc_extern Tryz.prog 90 _ (ReflectliteValue.method (ReflectliteValue.valueError "reflectlite.Value.Elem" 0) ReflectliteValue.elem) Tryz.func90 (by kernel_rfl) (by kernel_rfl) (by kernel_rfl) (by kernel_rfl)
 have h12:=@run_callFunc_extern Tryz.prog 91 _ ReflectliteValue.set Tryz.func91 (by kernel_rfl) (by kernel_rfl) (by kernel_rfl) (by kernel_rfl)
 have tO:=Rl.typeOf25
 have mA:=Rl.methodAssignableTo
 have a25:=Rl.assignable25
 have v25:=Rl.valueOf25
 have f6:=Rl.valueOf27
 have f7:=Rl.type27
 have mK:=Rl.methodKind
 have mE:=Rl.methodElem
 have mI:=Rl.methodImplements
 have k27:=Rl.kind27
 have k25:=Rl.kind25
 have e27:=Rl.elem27
 have i25:=Rl.implements25
 have n8:=Rl.isNil27 ⟨w.heap.size,0,none⟩ t ((w.alloc (.cells #[.pointer (some t)] 72)).alloc (.cells #[.pointer (some ⟨10,72,none⟩),.pointer (some ⟨w.heap.size,0,none⟩),.int .u64 150] 122)) (by simp)
 have hlt:0 < w.heap.size:=zac hg
 have hg2:((w.alloc (.cells #[.pointer (some t)] 72)).alloc (.cells #[.pointer (some ⟨10,72,none⟩),.pointer (some ⟨w.heap.size,0,none⟩),.int .u64 150] 122)).cell? ⟨0,0,none⟩=some (.iface 158 (.agg #[.pointer (some ⟨10,35,none⟩)])):=by
  rw [World.cell?_alloc_lt _ _ ⟨0,0,none⟩ (by simp <;> omega),World.cell?_alloc_lt _ _ ⟨0,0,none⟩ hlt];exact hg
 have htl:t.block < w.heap.size:=by
  rcases Nat.lt_or_ge t.block w.heap.size with h | h
  ·exact h
  ·simp [World.cell?,Array.getElem?_eq_none h] at ht0
 have el:=Rl.elemV27 ⟨w.heap.size,0,none⟩ t (((w.alloc (.cells #[.pointer (some t)] 72)).alloc (.cells #[.pointer (some ⟨10,72,none⟩),.pointer (some ⟨w.heap.size,0,none⟩),.int .u64 150] 122)).alloc (.cells #[.pointer (some ⟨10,72,none⟩),.pointer (some ⟨w.heap.size,0,none⟩),.int .u64 150] 122)) (by rw [World.cell?_alloc_lt _ _ ⟨w.heap.size,0,none⟩ (by simp;omega)];simp)
 have st:=Rl.set25 t ⟨w.heap.size+1+1+1,0,none⟩ e old ((((w.alloc (.cells #[.pointer (some t)] 72)).alloc (.cells #[.pointer (some ⟨10,72,none⟩),.pointer (some ⟨w.heap.size,0,none⟩),.int .u64 150] 122)).alloc (.cells #[.pointer (some ⟨10,72,none⟩),.pointer (some ⟨w.heap.size,0,none⟩),.int .u64 150] 122)).alloc (.cells #[.pointer (some e)] 70))
  (by rw [World.cell?_alloc_at _ _ _ _ (by simp)];rfl)
  (by rw [World.cell?_alloc_lt _ _ t (by simp;omega),World.cell?_alloc_lt _ _ t (by simp;omega),World.cell?_alloc_lt _ _ t (by simp;omega),World.cell?_alloc_lt _ _ t htl];exact ht0)
  (by rw [World.frozen?_alloc_old _ _ t (by simp;omega),World.frozen?_alloc_old _ _ t (by simp;omega),World.frozen?_alloc_old _ _ t (by simp;omega),World.frozen?_alloc_old _ _ t (Nat.ne_of_lt htl)];exact hf0)
 go_enter Tryz.func33,Tryz.ntmps33
 go_wp2
 refine wp_loop_rounds 1 ?_
 rw [rounds_succ]
 go_wp2
 go_ret
 exact ⟨rfl,rfl⟩
end Go.Proofs.YtdpkjpjkdmkkpaaGreatDoor
namespace Go.Proofs.YtdpkjpjkdmkkpaaGreatDoor
open Go.RowKit
def HEnv (w:World):Prop:=w.cell? ⟨0,0,none⟩=some (.iface 158 (.agg #[.pointer (some ⟨10,35,none⟩)]))
theorem HEnv.below {w w':World} (h:HEnv w) (hb:Below w.heap.size w w'):HEnv w':=(hb.cell (p:=⟨_,_,none⟩) (zac h)).trans h
theorem zkA {p:Nat} {cs:Array Value} (w:World) (hg:HEnv w) (hp:w.heap[p]? = some (.cells cs 75)) :
  Calls Tryz.prog 33 #[.iface 70 (.pointer (some ⟨p,0,none⟩)),.iface 72 (.pointer (some ⟨w.heap.size,0,none⟩))] (w.alloc (.cells #[.pointer none] 70))
   fun e w'=>e=.returned (.bool true)∧w'.cell? ⟨w.heap.size,0,none⟩=some (.pointer (some ⟨p,0,none⟩))∧w'.heap[p]? = some (.cells cs 75)∧Below w.heap.size w w':=by
 have hb1:Below w.heap.size w (w.alloc (.cells #[.pointer none] 70)):=br_.alloc nl_ _
 have hg1:HEnv (w.alloc (.cells #[.pointer none] 70)):=HEnv.below hg hb1
 have hpl:p < w.heap.size:=by
  rcases Nat.lt_or_ge p w.heap.size with h | h
  ·exact h
  ·rw [Array.getElem?_eq_none h] at hp;cases hp
 refine (zm3 ⟨p,0,none⟩ ⟨w.heap.size,0,none⟩ (.pointer none) _ hg1 (by simp) (by simp)).mono ?_
 rintro e w' ⟨rfl,rfl⟩
 have hb:Below w.heap.size w ((((((w.alloc (.cells #[.pointer none] 70)).alloc (.cells #[.pointer (some ⟨w.heap.size,0,none⟩)] 72)).alloc (.cells #[.pointer (some ⟨10,72,none⟩),.pointer (some ⟨(w.alloc (.cells #[.pointer none] 70)).heap.size,0,none⟩),.int .u64 150] 122)).alloc (.cells #[.pointer (some ⟨10,72,none⟩),.pointer (some ⟨(w.alloc (.cells #[.pointer none] 70)).heap.size,0,none⟩),.int .u64 150] 122)).alloc (.cells #[.pointer (some ⟨p,0,none⟩)] 70)).setCell ⟨w.heap.size,0,none⟩ (.pointer (some ⟨p,0,none⟩))):=by
  refine Below.setCell (B:=w.heap.size) ?_ (by simp) _
  refine Below.alloc ?_ (by simp;omega) _
  refine Below.alloc ?_ (by simp;omega) _
  refine Below.alloc ?_ (by simp;omega) _
  refine Below.alloc ?_ (by simp) _
  exact hb1
 refine ⟨rfl,?_,(hb.block p hpl).trans hp,hb⟩
 refine World.cell?_setCell_same (u:=.pointer none) _ _ _ ?_
 rw [World.cell?_alloc_lt _ _ ⟨w.heap.size,0,none⟩ (by simp;omega),World.cell?_alloc_lt _ _ ⟨w.heap.size,0,none⟩ (by simp;omega),World.cell?_alloc_lt _ _ ⟨w.heap.size,0,none⟩ (by simp;omega),World.cell?_alloc_lt _ _ ⟨w.heap.size,0,none⟩ (by simp)]
 simp
theorem zjf {p:Nat} {a n:Int} (w:World) (hg:HEnv w) (hp:w.heap[p]? = some (.cells #[.int .i64 a,.int .i64 n] 75)) :
  Calls Tryz.prog 33 #[.iface 70 (.pointer (some ⟨p,0,none⟩)),.iface 72 (.pointer (some ⟨w.heap.size,0,none⟩))] (w.alloc (.cells #[.pointer none] 70))
   fun e w'=>e=.returned (.bool true)∧w'.cell? ⟨w.heap.size,0,none⟩=some (.pointer (some ⟨p,0,none⟩))∧w'.cell? ⟨p,0,none⟩=some (.int .i64 a)∧w'.cell? ⟨p,1,none⟩=some (.int .i64 n)∧Below w.heap.size w w':=
 (zkA w hg hp).mono fun _ w' ⟨h1,h2,h3,h4⟩=>⟨h1,h2,by simp [World.cell?,h3],by simp [World.cell?,h3],h4⟩
theorem zlo (w:World):Calls Tryz.prog 11 #[.nilIface] w fun e w'=>e=.returned (.tuple #[.int .i64 0,.int .i64 0])∧w=w':=by
 go_enter Tryz.func11,Tryz.ntmps11
 go_wp2
 exact bodyPost_ret (v:=.tuple #[.int .i64 0,.int .i64 0]) (by simp [results,Tryz.results11,go_sem]) rfl ⟨rfl,rfl⟩
theorem ze6 {a n:Int} {p:Nat} (w:World) (hg:HEnv w) (hp:w.heap[p]? = some (.cells #[.int .i64 a,.int .i64 n] 75)) :
  Calls Tryz.prog 11 #[.iface 70 (.pointer (some ⟨p,0,none⟩))] w fun e w'=>e=.returned (.tuple #[.int .i64 a,.int .i64 n])∧Below w.heap.size w w':=by
 have HG:=hd_ (And.intro hg hp)
 clear hg hp
 go_enter Tryz.func11,Tryz.ntmps11
 go_wp2_with (go_at_call 33;refine (zjf w HG.out.1 HG.out.2).mono ?_;rintro e w2 ⟨rfl,ht2,hc0,hc1,hb2⟩;have HB:=hd_ hb2;clear hb2)
 go_quiet (fail)
 go_wp2
 exact bodyPost_ret (v:=.tuple #[.int .i64 a,.int .i64 n]) (by simp [results,Tryz.results11,go_sem]) rfl ⟨rfl,HB.out.drewN _⟩
open Ad Lx
structure TEnv (w:World):Prop where
 lex:LEnv w
 hnd:HEnv w
theorem TEnv.below {w w':World} (h:TEnv w) (hb:Below w.heap.size w w'):TEnv w':=⟨h.lex.below hb,h.hnd.below hb⟩
theorem zal {B:Nat} {w w1 w2:World} (h:Below B w w1) (k:Below w1.heap.size w1 w2) (hB:B≤w1.heap.size):Below B w w2:=
 h.trans ⟨k.os,k.tape,k.output,k.size,fun i hi=>k.block i (ll_ hi hB)⟩
theorem zah {w w1 w2:World} (h:Below w.heap.size w w1) (k:Below w1.heap.size w1 w2):Below w.heap.size w w2:=zal h k h.size
theorem zab {w w':World} {p:Addr} {v:Value} (hb:Below w.heap.size w w') (h:w.cell? p=some v):w'.cell? p=some v:=by
 have hl:p.block < w.heap.size:=World.block_lt_of_cell? w p h
 rw [hb.cell hl];exact h
def KN:List (List UInt8):=[[66,79,79,76],[83,73,78,84],[73,78,84],[68,73,78,84],[85,83,73,78,84],[85,73,78,84],[85,68,73,78,84],[66,89,84,69],[87,79,82,68],[68,87,79,82,68],[84,73,77,69]]
theorem zgQ (L:List (List UInt8)) (j:Nat) (hj:j < L.length):(L.map fun l=>Value.string ⟨l.toArray⟩).toArray[j]? = some (.string (mkS (L.getD j []))):=by
 rw [List.getElem?_toArray,List.getElem?_map,List.getElem?_eq_getElem hj,List.getD_eq_getElem?_getD,List.getElem?_eq_getElem hj]
 rfl
theorem zl8:∀ j,j < 11→mkS (KN.getD j [])=zaw (j+1):=by
 intro j hj
 match j,hj with
 | 0,_=>rfl
 | 1,_=>rfl
 | 2,_=>rfl
 | 3,_=>rfl
 | 4,_=>rfl
 | 5,_=>rfl
 | 6,_=>rfl
 | 7,_=>rfl
 | 8,_=>rfl
 | 9,_=>rfl
 | 10,_=>rfl
theorem zj4 (w:World):Calls Tryz.prog 123 #[] w fun e w'=>e=.returned (.slice (some ⟨w.heap.size,0,none⟩) 11 11)∧w'=w.alloc (.cells (KN.map fun l=>Value.string ⟨l.toArray⟩).toArray 9):=by
 go_enter Tryz.func123,Tryz.ntmps123
 go_wp2
 go_ret
 exact ⟨rfl,rfl⟩
theorem zbg {x:ByteArray} {r:Nat} (hr:kindOf x=r) (w:World) :
  Calls Tryz.prog 103 #[.string x] w fun e w'=>e=.returned (.int .i64 r)∧Below w.heap.size w w':=by
 have HR:Hid (zbS x r 1):=hd_ hr
 clear hr
 go_enter Tryz.func103,Tryz.ntmps103
 go_wp2_with (go_at_call 123;refine (zj4 _).mono ?_;rintro e w1 ⟨rfl,hw1⟩;have HW:=hd_ hw1;clear hw1)
 have hw1:=HW.out
 have hcell:∀ j,j < 11→w1.cell? ⟨w.heap.size,j,none⟩=some (.string (mkS (KN.getD j []))):=by
  intro j hj
  rw [hw1,World.cell?_alloc_at _ _ _ _ (by simp)]
  exact zgQ KN j hj
 have HC:=hd_ hcell
 have HB:Hid (Below w.heap.size w w1):=hd_ (by rw [hw1];exact br_.alloc nl_ _)
 clear hcell hw1 HW
 obtain ⟨b,hb⟩:∃ b,w.heap.size=b:=⟨_,rfl⟩
 rw [hb] at HC ⊢
 have HBE:=hd_ hb
 clear hb
 go_loop [4] (fun i=>∃ k:Nat,k≤11∧i=.int .i64 k∧Hid (zbS x r (k+1))) (fun i=>11 - (intOf i).toNat)
 case atStart=>exact ⟨0,by omega,rfl,HR⟩
 case round=>
  clear HR
  obtain ⟨k,hk,rfl,HD⟩:=hrel
  by_cases hlt:k < 11
  ·have hc:=HC.out k hlt
   rw [zl8 k hlt] at hc
   have hhit:=HD.out.hit (by omega)
   have hmiss:=HD.out.miss (by omega)
   obtain ⟨a,ha⟩:∃ a,zaw (k+1)=a:=⟨_,rfl⟩
   rw [ha] at hc hhit hmiss
   have HH:=hd_ hhit
   have HM:=hd_ hmiss
   have k0:0≤(k:Int):=by omega
   have k1:(k:Int) < 11:=by omega
   clear hhit hmiss ha HD
   obtain ⟨d,hd⟩:∃ d,(a.toList==x.toList)=d:=⟨_,rfl⟩
   cases d with
   | true=>
    have HE:=hd_ ((zav a x).1 hd)
    go_wp2
    go_ret
    exact ⟨zaf (by rw [← HH.out HE.out];go_num),HB.out⟩
   | false=>
    have HE:Hid (¬ a=x):=hd_ (fun h=>by rw [(zav a x).2 h] at hd;cases hd)
    go_wp2
    go_round
    case rel=>exact ⟨k+1,by omega,by go_num,hd_ (HM.out HE.out)⟩
    case measure=>simp [intOf];omega
  ·have HE:Hid (r=0):=hd_ (by have:=HD.out;unfold zbS at this;rw [show 12 - (k+1)=0 by omega] at this;exact this.symm)
   have k1:¬ (k:Int) < 11:=by omega
   clear HD
   go_wp2
   go_ret
   exact ⟨zaf (by rw [HE.out];rfl),HB.out⟩
theorem zjD {x:ByteArray} {k:Nat} (hk:k < 36) (h:mkS (KW.getD k [])=x):zhm x=true:=by
 have hl:KW.length=36:=by decide
 have hm:x ∈ KW.map mkS:=by
  rw [← h,List.getD_eq_getElem?_getD,List.getElem?_eq_getElem (by omega)]
  exact List.mem_map.2 ⟨_,List.getElem_mem _,rfl⟩
 simp [zhm,(Lib.containsS_iff _ _).2 hm]
theorem ziL {x:ByteArray} (h:∀ j,j < 36→¬ mkS (KW.getD j [])=x):zhm x=(kindOf x != 0):=by
 have hl:KW.length=36:=by decide
 have hm:Lib.containsS (KW.map mkS) x=false:=by
  cases hc:Lib.containsS (KW.map mkS) x with
  | false=>rfl
  | true=>
   obtain ⟨l,hl1,hl2⟩:=List.mem_map.1 ((Lib.containsS_iff _ _).1 hc)
   obtain ⟨j,hj,he⟩:=List.getElem_of_mem hl1
   exact absurd (by rw [List.getD_eq_getElem?_getD,List.getElem?_eq_getElem hj,Option.getD_some,he];exact hl2) (h j (by omega))
 simp [zhm,hm]
theorem zcP {x:ByteArray} {r:Bool} (hr:zhm x=r) (w:World) :
  Calls Tryz.prog 105 #[.string x] w fun e w'=>e=.returned (.bool r)∧Below w.heap.size w w':=by
 have HR:=hd_ hr
 clear hr
 obtain ⟨kd,hkd⟩:∃ kd,kindOf x=kd:=⟨_,rfl⟩
 have HK:=hd_ hkd
 clear hkd
 go_enter Tryz.func105,Tryz.ntmps105
 go_wp2
 generalize hw1:w.alloc _=w1
 have hcell:∀ j,j < 36→w1.cell? ⟨w.heap.size,j,none⟩=some (.string (mkS (KW.getD j []))):=by
  intro j hj
  rw [← hw1,World.cell?_alloc_at _ _ _ _ (by simp)]
  exact zgQ KW j hj
 have HC:=hd_ hcell
 have HB:Hid (Below w.heap.size w w1):=hd_ (by rw [← hw1];exact br_.alloc nl_ _)
 clear hcell hw1
 obtain ⟨b,hb⟩:∃ b,w.heap.size=b:=⟨_,rfl⟩
 rw [hb] at HC ⊢
 have HBE:=hd_ hb
 clear hb
 go_loop [4] (fun i=>∃ k:Nat,k≤36∧i=.int .i64 k∧Hid (∀ j,j < k→¬ mkS (KW.getD j [])=x)) (fun i=>36 - (intOf i).toNat)
 case atStart=>exact ⟨0,by omega,rfl,hd_ (fun j hj=>absurd hj (Nat.not_lt_zero _))⟩
 case round=>
  obtain ⟨k,hk,rfl,HD⟩:=hrel
  by_cases hlt:k < 36
  ·have hc:=HC.out k hlt
   obtain ⟨a,ha⟩:∃ a,mkS (KW.getD k [])=a:=⟨_,rfl⟩
   rw [ha] at hc
   have HA:=hd_ ha
   have k0:0≤(k:Int):=by omega
   have k1:(k:Int) < 36:=by omega
   clear ha
   obtain ⟨d,hd⟩:∃ d,(a.toList==x.toList)=d:=⟨_,rfl⟩
   cases d with
   | true=>
    have HE:=hd_ ((zav a x).1 hd)
    go_wp2
    go_ret
    exact ⟨by rw [← HR.out,zjD hlt (HA.out.trans HE.out)];rfl,HB.out⟩
   | false=>
    have HE:Hid (¬ a=x):=hd_ (fun h=>by rw [(zav a x).2 h] at hd;cases hd)
    go_wp2
    go_round
    case rel=>
     refine ⟨k+1,by omega,by go_num,hd_ (fun j hj=>?_)⟩
     rcases Nat.lt_or_ge j k with h | h
     ·exact HD.out j h
     ·rw [show j=k by omega,HA.out];exact HE.out
    case measure=>simp [intOf];omega
  ·have hk36:k=36:=by omega
   have HE:Hid (r=(kd != 0)):=hd_ (by rw [← HR.out,ziL (by rw [← hk36];exact HD.out),HK.out])
   have k1:¬ (k:Int) < 36:=by omega
   clear HD hk36
   by_cases h0:kd=0
   ·subst h0
    go_wp2_with (go_at_call 103;refine (zbg HK.out _).mono ?_;rintro e w2 ⟨rfl,hb2⟩)
    go_ret
    exact ⟨by rw [HE.out];rfl,zah HB.out hb2⟩
   ·have h1:¬ ((kd:Nat):Int)=0:=by omega
    go_wp2_with (go_at_call 103;refine (zbg HK.out _).mono ?_;rintro e w2 ⟨rfl,hb2⟩)
    go_ret
    exact ⟨by rw [HE.out];simp;rw [Bool.eq_iff_iff];simp,zah HB.out hb2⟩
end Go.Proofs.YtdpkjpjkdmkkpaaGreatDoor
