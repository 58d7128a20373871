/- errors.As at plan's errors: nil; what is bad. Conditions: errors.errorType is the handle of 'error'; the target is a variable. -/
import Derived.Test.YtiggoojjefmcoaaDoorProg
import Derived.Test.YtiggoojjefmcoaaDoorBase2
import Derived.LaidEql
import Derived.Stop.Asserts
import Derived.RowKitTokens
import Derived.WalkKit
import Derived.WalkSpells
import Derived.WalkLawsBesides
import Derived.Lib.Hide
import Derived.BigQuiet
import Derived.Deep.QuietTactic

set_option linter.unusedVariables false
set_option linter.unusedSimpArgs false
namespace Go.Proofs.YtiggoojjefmcoaaDoor
open Go.RowKit Go.Extern.Stop Go.Stop Go.Extern
namespace Err
abbrev hBB : Value := .pointer (some ⟨1, 102, none⟩)
abbrev hB : Value := .pointer (some ⟨1, 93, none⟩)
abbrev hS : Value := .pointer (some ⟨1, 97, none⟩)
abbrev hE : Value := .pointer (some ⟨1, 54, none⟩)
theorem as_nil (t : Value) (w : World) :
    Calls Tryd.prog 43 #[.nilIface, t] w fun e w' => e = .returned (.bool false) ∧ w' = w := by
  go_enter Tryd.func43, Tryd.ntmps43
  go_wp2
  go_ret
  exact ⟨rfl, rfl⟩
theorem valueOfBB (t : Addr) (w : World) : (ReflectliteValue.unpack (.iface 102 (.pointer (some t)))).run Tryd.prog w
    = .ok (.agg #[hBB, .pointer (some ⟨w.heap.size, 0, none⟩), .int .u64 150]) (w.alloc (.cells #[.pointer (some t)] 102)) := by kernel_rfl
theorem typeBB (a : Addr) (w : World) : (ReflectliteValue.methodAny (ReflectliteValue.valueError "reflectlite.Value.Type" 0) (fun t _ _ _ => ReflectliteType.toType t) #[.agg #[hBB, .pointer (some a), .int .u64 150]]).run Tryd.prog w
    = .ok (.iface 126 (.agg #[hBB])) w := by kernel_rfl
theorem methodKind (h : Value) (w : World) : (Go.method 268 126 (.agg #[h]) "Kind").run Tryd.prog w = .ok (74, h) w := by kernel_rfl
theorem kindBB (w : World) : ((ReflectliteType.abiMethod fun t => (fun a : Nat => Value.int IntKind.u8 (a : Int)) <$> Rtype.kind t) #[hBB]).run Tryd.prog w = .ok (.int .u8 22) w := by kernel_rfl
theorem kindB (w : World) : ((ReflectliteType.abiMethod fun t => (fun a : Nat => Value.int IntKind.u8 (a : Int)) <$> Rtype.kind t) #[hB]).run Tryd.prog w = .ok (.int .u8 22) w := by kernel_rfl
theorem rlm (z : Sem Value) (f : TypeId → Addr → Nat → Nat → Sem Value) (v : Value) :
    ReflectliteValue.method z f #[v] = (do match ← ReflectliteValue.parts v with | none => z | some (t, a, fl) => f t a fl (fl % 32)) := rfl
theorem partsBB (a : Addr) (w : World) : (ReflectliteValue.parts (.agg #[hBB, .pointer (some a), .int .u64 150])).run Tryd.prog w = .ok (some (102, a, 150)) w := by kernel_rfl
theorem isNilBB (a p : Addr) (W : World) (ha : W.cell? a = some (.pointer (some p))) :
    (ReflectliteValue.method (ReflectliteValue.valueError "reflectlite.Value.IsNil" 0) ReflectliteValue.isNil #[.agg #[hBB, .pointer (some a), .int .u64 150]]).run Tryd.prog W = .ok (.bool false) W := by
  rw [rlm]
  simp only [Sem.run_bind, partsBB, Result.andThen]
  simp [ReflectliteValue.isNil, loadVar, isAgg, underlying, Tryd.underlying102, ha, Result.andThen]
theorem methodElem (h : Value) (w : World) : (Go.method 268 126 (.agg #[h]) "Elem").run Tryd.prog w = .ok (87, .agg #[h]) w := by kernel_rfl
theorem methodImplements (h : Value) (w : World) : (Go.method 268 126 (.agg #[h]) "Implements").run Tryd.prog w = .ok (88, .agg #[h]) w := by kernel_rfl
theorem methodAssignableTo (h : Value) (w : World) : (Go.method 268 126 (.agg #[h]) "AssignableTo").run Tryd.prog w = .ok (85, .agg #[h]) w := by kernel_rfl
theorem elemBB (w : World) : (ReflectliteType.method ReflectliteType.elem #[.agg #[hBB]]).run Tryd.prog w = .ok (.iface 126 (.agg #[hB])) w := by kernel_rfl
theorem implementsB (w : World) : (ReflectliteType.relation "Implements" ReflectliteType.implements_ #[.agg #[hB], .iface 126 (.agg #[hE])]).run Tryd.prog w = .ok (.bool true) w := by kernel_rfl
theorem typeOfB (v : Value) (w : World) : (ReflectliteType.typeOf #[.iface 93 v]).run Tryd.prog w = .ok (.iface 126 (.agg #[hB])) w := by kernel_rfl
theorem assignableB (w : World) : (ReflectliteType.relation "AssignableTo" ReflectliteType.assignableTo #[.agg #[hB], .iface 126 (.agg #[hB])]).run Tryd.prog w = .ok (.bool true) w := by kernel_rfl
theorem valueOfB (e : Addr) (w : World) : (ReflectliteValue.unpack (.iface 93 (.pointer (some e)))).run Tryd.prog w
    = .ok (.agg #[hB, .pointer (some ⟨w.heap.size, 0, none⟩), .int .u64 150]) (w.alloc (.cells #[.pointer (some e)] 93)) := by kernel_rfl
theorem elemOfBB (w : World) : (Rtype.elem? 102).run Tryd.prog w = .ok (some 93) w := by kernel_rfl
theorem mkB (p : Addr) (w : World) : (ReflectliteValue.mk 93 p ReflectliteValue.flagAddr).run Tryd.prog w = .ok (.agg #[hB, .pointer (some p), .int .u64 406]) w := by kernel_rfl
theorem elemV (a p : Addr) (W : World) (ha : W.cell? a = some (.pointer (some p))) :
    (ReflectliteValue.method (ReflectliteValue.valueError "reflectlite.Value.Elem" 0) ReflectliteValue.elem #[.agg #[hBB, .pointer (some a), .int .u64 150]]).run Tryd.prog W
      = .ok (.agg #[hB, .pointer (some p), .int .u64 406]) W := by
  rw [rlm]
  simp only [Sem.run_bind, partsBB, Result.andThen]
  simp [ReflectliteValue.elem, loadVar, isAgg, underlying, Tryd.underlying102, ha, Result.andThen, elemOfBB, mkB]
theorem rls (v x : Value) : ReflectliteValue.set #[v, x] = (do
    let (some (dst, a, fl), some (src, b, _)) := (← ReflectliteValue.parts v, ← ReflectliteValue.parts x)
      | unsupported (.noEntry "extern/(internal/reflectlite.Value).Set.zeroValue")
    if fl / ReflectliteValue.flagAddr % 2 == 0 then unsupported (.noEntry "extern/(internal/reflectlite.Value).Set.unaddressable")
    let val ← loadVar src b
    if ← Rtype.directlyAssignable dst src then storeVar dst a val
    else if ← Rtype.implements dst src then
      if (← Rtype.kind src) == 20 then
        match val with
        | .nilIface => unsupported (.noEntry "extern/reflectlite: a nil value of one interface type handed on as a value of another")
        | _ => storeVar dst a val
      else storeVar dst a (.iface src val)
    else panicString ("reflectlite.Set: value of type " ++ (← Rtype.spelt src) ++ " is not assignable to type " ++ (← Rtype.spelt dst))
    pure (.tuple #[])) := rfl
theorem partsBa (a : Addr) (w : World) : (ReflectliteValue.parts (.agg #[hB, .pointer (some a), .int .u64 406])).run Tryd.prog w = .ok (some (93, a, 406)) w := by kernel_rfl
theorem partsB (a : Addr) (w : World) : (ReflectliteValue.parts (.agg #[hB, .pointer (some a), .int .u64 150])).run Tryd.prog w = .ok (some (93, a, 150)) w := by kernel_rfl
theorem directB (w : World) : (Rtype.directlyAssignable 93 93).run Tryd.prog w = .ok true w := by kernel_rfl
theorem setB (ta b e : Addr) (old : Value) (W : World) (hb : W.cell? b = some (.pointer (some e))) (ht : W.cell? ta = some old) (hf : W.frozen? ta = false) :
    (ReflectliteValue.set #[.agg #[hB, .pointer (some ta), .int .u64 406], .agg #[hB, .pointer (some b), .int .u64 150]]).run Tryd.prog W
      = .ok (.tuple #[]) (W.setCell ta (.pointer (some e))) := by
  rw [rls]
  simp only [Sem.run_bind, partsBa, partsB, Result.andThen]
  simp [ReflectliteValue.flagAddr, loadVar, isAgg, underlying, Tryd.underlying93, hb, Result.andThen, directB, storeVar, Value.cells, storeCells, Addr.add]
  rw [run_store Tryd.prog W ta _ _ (by rfl)]
  simp [ht, hf]
/-! errors.Is where the target is plan.short -/
theorem typeOfS (v : Value) (w : World) : (ReflectliteType.typeOf #[.iface 97 v]).run Tryd.prog w = .ok (.iface 126 (.agg #[hS])) w := by kernel_rfl
theorem comparableS (w : World) : ((ReflectliteType.method fun t => do Rtype.noPackHeld "Comparable" t; (fun a => Value.bool a.comparable) <$> typeInfo t) #[.agg #[hS]]).run Tryd.prog w = .ok (.bool true) w := by kernel_rfl
theorem methodComparable (v : Value) (w : World) : (Go.method 268 126 v "Comparable").run Tryd.prog w = .ok (86, v) w := by kernel_rfl
theorem methodUnwrap (x y : Value) (w : World) : (Go.method 268 99 (.agg #[x, y]) "Unwrap").run Tryd.prog w = .ok (80, .agg #[x, y]) w := by kernel_rfl
theorem noIsB (v : Value) (xT : TypeId) (w : World) : (Instr.typeAssert (.iface 93 v) xT 128 true).run Tryd.prog w = .ok (.tuple #[.nilIface, .bool false]) w := run_typeAssert_lacksB Tryd.underlying128 (by kernel_rfl) (by kernel_rfl) v xT w
theorem noUnwrapB (v : Value) (xT : TypeId) (w : World) : (Instr.typeAssert (.iface 93 v) xT 131 true).run Tryd.prog w = .ok (.tuple #[.nilIface, .bool false]) w := run_typeAssert_lacksB Tryd.underlying131 (by kernel_rfl) (by kernel_rfl) v xT w
theorem noUnwrapsB (v : Value) (xT : TypeId) (w : World) : (Instr.typeAssert (.iface 93 v) xT 133 true).run Tryd.prog w = .ok (.tuple #[.nilIface, .bool false]) w := run_typeAssert_lacksB Tryd.underlying133 (by kernel_rfl) (by kernel_rfl) v xT w
theorem noIsA (v : Value) (xT : TypeId) (w : World) : (Instr.typeAssert (.iface 99 v) xT 128 true).run Tryd.prog w = .ok (.tuple #[.nilIface, .bool false]) w := run_typeAssert_lacksB Tryd.underlying128 (by kernel_rfl) (by kernel_rfl) v xT w
theorem noUnwrapA (v : Value) (xT : TypeId) (w : World) : (Instr.typeAssert (.iface 99 v) xT 131 true).run Tryd.prog w = .ok (.tuple #[.nilIface, .bool false]) w := run_typeAssert_lacksB Tryd.underlying131 (by kernel_rfl) (by kernel_rfl) v xT w
theorem unwrapsA (v : Value) (xT : TypeId) (w : World) : (Instr.typeAssert (.iface 99 v) xT 133 true).run Tryd.prog w = .ok (.tuple #[.iface 99 v, .bool true]) w := run_typeAssert_hasB Tryd.underlying133 (by kernel_rfl) v xT w
theorem eqBS (x y : Value) (w : World) : (binOp .eql 54 (.iface 93 x) (.iface 97 y)).run Tryd.prog w = .ok (.bool false) w := run_eql_iface_types _ _ x y Tryd.underlying54 (by decide) w
theorem eqAS (x y : Value) (w : World) : (binOp .eql 54 (.iface 99 x) (.iface 97 y)).run Tryd.prog w = .ok (.bool false) w := run_eql_iface_types _ _ x y Tryd.underlying54 (by decide) w
theorem eqSS (w : World) : (binOp .eql 54 (.iface 97 (.agg #[])) (.iface 97 (.agg #[]))).run Tryd.prog w = .ok (.bool true) w := by kernel_rfl
end Err
end Go.Proofs.YtiggoojjefmcoaaDoor
