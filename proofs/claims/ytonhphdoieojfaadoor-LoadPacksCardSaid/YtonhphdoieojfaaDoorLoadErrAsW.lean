/- errors.As at load's errors, walked: a place over what is bad is found. Conditions: errors.errorType is the handle of 'error'; the target is a variable. -/
import Derived.Test.YtonhphdoieojfaaDoorLoadErrAs
import Derived.WalkKit
import Derived.WalkSpells
import Derived.WalkLawsBesides
import Derived.Lib.Hide
import Derived.BigQuiet
import Derived.Deep.QuietTactic

set_option linter.unusedVariables false
set_option linter.unusedSimpArgs false
namespace Go.Proofs.YtonhphdoieojfaaDoor
open Go.RowKit Go.Extern.Stop Go.Stop Go.Extern
namespace Err
/-- the target was set; below the target's block all is as it was -/
def Hit (w : World) (t : Nat) (e : Addr) (ev : Ending) (w' : World) : Prop := ev = .returned (.bool true) ∧ w'.cell? ⟨t, 0, none⟩ = some (.pointer (some e)) ∧ Below t w w'
theorem unwrap (q : Int) (x : Value) (w : World) : Calls Tryd.prog 56 #[.agg #[.int .i64 q, x]] w fun e w' => e = .returned x ∧ w' = w.alloc (.cells #[.int .i64 q, x] 64) := by
  go_enter Tryd.func56, Tryd.ntmps56
  go_wp2
  go_ret
  exact ⟨rfl, rfl⟩
set_option maxHeartbeats 4000000 in
theorem as_at (q : Int) (e a : Addr) (t : Nat) (x old : Value) (w : World) (ha : w.cell? a = some (.pointer (some ⟨t, 0, none⟩))) (ht0 : w.cell? ⟨t, 0, none⟩ = some old) (hf0 : w.frozen? ⟨t, 0, none⟩ = false) (hal : a.block < w.heap.size) (htl : t < w.heap.size) :
    Calls Tryd.prog 30 #[.iface 64 (.agg #[.int .i64 q, .iface 52 (.pointer (some e))]), x, .agg #[hBB, .pointer (some a), .int .u64 150], .iface 80 (.agg #[hB])] w (Hit w t e) := by
  have h27 := @run_callFunc_extern Tryd.prog 27 _ (fun args => ReflectliteValue.unpack (args.getD 0 (.tuple #[]))) Tryd.func27 (by kernel_rfl) (by kernel_rfl) (by kernel_rfl) (by kernel_rfl)
  have h33 := @run_callFunc_extern Tryd.prog 33 _ ReflectliteType.typeOf Tryd.func33 (by kernel_rfl) (by kernel_rfl) (by kernel_rfl) (by kernel_rfl)
  have h61 := @run_callFunc_extern Tryd.prog 61 _ (ReflectliteType.relation "AssignableTo" ReflectliteType.assignableTo) Tryd.func61 (by kernel_rfl) (by kernel_rfl) (by kernel_rfl) (by kernel_rfl)
  have h34 := @run_callFunc_extern Tryd.prog 34 _ (ReflectliteValue.method (ReflectliteValue.valueError "reflectlite.Value.Elem" 0) ReflectliteValue.elem) Tryd.func34 (by kernel_rfl) (by kernel_rfl) (by kernel_rfl) (by kernel_rfl)
  have h35 := @run_callFunc_extern Tryd.prog 35 _ ReflectliteValue.set Tryd.func35 (by kernel_rfl) (by kernel_rfl) (by kernel_rfl) (by kernel_rfl)
  have tA := typeOfA
  have tB := typeOfB
  have mA := methodAssignableTo
  have aA := assignableA
  have aB := assignableB
  have nA := noAs
  have uW := unwraps
  have mU := methodUnwrap
  have vB := valueOfB
  have hst : t ≠ w.heap.size := by omega
  have hst1 : t ≠ w.heap.size + 1 := by omega
  have hst2 : t ≠ w.heap.size + 1 + 1 := by omega
  have el := elemV a ⟨t, 0, none⟩ ((w.alloc (.cells #[hBB, .pointer (some a), .int .u64 150] 69)).alloc (.cells #[.int .i64 q, .iface 52 (.pointer (some e))] 64))
    (by rw [World.cell?_alloc_lt _ _ a (by simp; omega), World.cell?_alloc_lt _ _ a hal]; exact ha)
  have st := setB ⟨t, 0, none⟩ ⟨w.heap.size + 1 + 1, 0, none⟩ e old (((w.alloc (.cells #[hBB, .pointer (some a), .int .u64 150] 69)).alloc (.cells #[.int .i64 q, .iface 52 (.pointer (some e))] 64)).alloc (.cells #[.pointer (some e)] 52))
    (by rw [World.cell?_alloc_at _ _ _ _ (by simp)]; rfl)
    (by rw [World.cell?_alloc_lt _ _ ⟨t, 0, none⟩ (by simp; omega), World.cell?_alloc_lt _ _ ⟨t, 0, none⟩ (by simp; omega), World.cell?_alloc_lt _ _ ⟨t, 0, none⟩ htl]; exact ht0)
    (by rw [World.frozen?_alloc_old _ _ ⟨t, 0, none⟩ (by simp; omega), World.frozen?_alloc_old _ _ ⟨t, 0, none⟩ (by simp; omega), World.frozen?_alloc_old _ _ ⟨t, 0, none⟩ hst]; exact hf0)
  have hend : Hit w t e (.returned (.bool true)) ((((w.alloc (.cells #[hBB, .pointer (some a), .int .u64 150] 69)).alloc (.cells #[.int .i64 q, .iface 52 (.pointer (some e))] 64)).alloc (.cells #[.pointer (some e)] 52)).setCell ⟨t, 0, none⟩ (.pointer (some e))) := by
    refine ⟨rfl, World.cell?_setCell_same _ _ _ (u := old) ?_, ?_⟩
    · rw [World.cell?_alloc_lt _ _ ⟨t, 0, none⟩ (by simp; omega), World.cell?_alloc_lt _ _ ⟨t, 0, none⟩ (by simp; omega), World.cell?_alloc_lt _ _ ⟨t, 0, none⟩ htl]; exact ht0
    · exact ((((Below.refl _ _).alloc (by omega) _).alloc (by simp; omega) _).alloc (by simp; omega) _).setCell (by simp) _
  have HEND := Lib.hid hend
  clear hend
  go_enter Tryd.func30, Tryd.ntmps30
  go_wp2
  refine wp_loop_rounds 2 ?_
  rw [rounds_succ]
  go_wp2_with (go_at_call 56; refine (unwrap _ _ _).mono ?_; rintro e w' ⟨rfl, rfl⟩)
  rw [rounds_succ]
  go_wp2
  go_ret
  exact HEND.out
set_option maxHeartbeats 4000000 in
theorem As_at (q : Int) (e : Addr) (t : Nat) (old : Value) (w : World) (hg : w.cell? ⟨0, 0, none⟩ = some (.iface 80 (.agg #[hE]))) (ht0 : w.cell? ⟨t, 0, none⟩ = some old) (hf0 : w.frozen? ⟨t, 0, none⟩ = false) :
    Calls Tryd.prog 20 #[.iface 64 (.agg #[.int .i64 q, .iface 52 (.pointer (some e))]), .iface 54 (.pointer (some ⟨t, 0, none⟩))] w (Hit w t e) := by
  have htl : t < w.heap.size := by
    rcases Nat.lt_or_ge t w.heap.size with h | h
    · exact h
    · simp [World.cell?, Array.getElem?_eq_none h] at ht0
  have hlt : 0 < w.heap.size := by omega
  have hst : t ≠ w.heap.size := by omega
  have hst1 : t ≠ w.heap.size + 1 := by omega
  have h27 := @run_callFunc_extern Tryd.prog 27 _ (fun args => ReflectliteValue.unpack (args.getD 0 (.tuple #[]))) Tryd.func27 (by kernel_rfl) (by kernel_rfl) (by kernel_rfl) (by kernel_rfl)
  have h28 := @run_callFunc_extern Tryd.prog 28 _ (ReflectliteValue.methodAny (ReflectliteValue.valueError "reflectlite.Value.Type" 0) (fun t _ _ _ => ReflectliteType.toType t)) Tryd.func28 (by kernel_rfl) (by kernel_rfl) (by kernel_rfl) (by kernel_rfl)
  have h29 := @run_callFunc_extern Tryd.prog 29 _ (ReflectliteValue.method (ReflectliteValue.valueError "reflectlite.Value.IsNil" 0) ReflectliteValue.isNil) Tryd.func29 (by kernel_rfl) (by kernel_rfl) (by kernel_rfl) (by kernel_rfl)
  have h50 := @run_callFunc_extern Tryd.prog 50 _ (ReflectliteType.abiMethod fun t => do pure (.int .u8 (← Rtype.kind t))) Tryd.func50 (by kernel_rfl) (by kernel_rfl) (by kernel_rfl) (by kernel_rfl)
  have h63 := @run_callFunc_extern Tryd.prog 63 _ (ReflectliteType.method ReflectliteType.elem) Tryd.func63 (by kernel_rfl) (by kernel_rfl) (by kernel_rfl) (by kernel_rfl)
  have h64 := @run_callFunc_extern Tryd.prog 64 _ (ReflectliteType.relation "Implements" ReflectliteType.implements_) Tryd.func64 (by kernel_rfl) (by kernel_rfl) (by kernel_rfl) (by kernel_rfl)
  have f27 := valueOfBB
  have f28 := typeBB
  have mK := methodKind
  have mE := methodElem
  have mI := methodImplements
  have kBB := kindBB
  have kB := kindB
  have eBB := elemBB
  have iB := implementsB
  have n29 := isNilBB ⟨w.heap.size, 0, none⟩ ⟨t, 0, none⟩ ((w.alloc (.cells #[.pointer (some ⟨t, 0, none⟩)] 54)).alloc (.cells #[hBB, .pointer (some ⟨w.heap.size, 0, none⟩), .int .u64 150] 69)) (by simp)
  have hg2 : ((w.alloc (.cells #[.pointer (some ⟨t, 0, none⟩)] 54)).alloc (.cells #[hBB, .pointer (some ⟨w.heap.size, 0, none⟩), .int .u64 150] 69)).cell? ⟨0, 0, none⟩ = some (.iface 80 (.agg #[hE])) := by
    rw [World.cell?_alloc_lt _ _ ⟨0, 0, none⟩ (by simp), World.cell?_alloc_lt _ _ ⟨0, 0, none⟩ hlt]; exact hg
  have c1 : ((w.alloc (.cells #[.pointer (some ⟨t, 0, none⟩)] 54)).alloc (.cells #[hBB, .pointer (some ⟨w.heap.size, 0, none⟩), .int .u64 150] 69)).cell? ⟨w.heap.size, 0, none⟩ = some (.pointer (some ⟨t, 0, none⟩)) := by
    rw [World.cell?_alloc_lt _ _ ⟨w.heap.size, 0, none⟩ (by simp)]; simp
  have c2 : ((w.alloc (.cells #[.pointer (some ⟨t, 0, none⟩)] 54)).alloc (.cells #[hBB, .pointer (some ⟨w.heap.size, 0, none⟩), .int .u64 150] 69)).cell? ⟨t, 0, none⟩ = some old := by
    rw [World.cell?_alloc_lt _ _ ⟨t, 0, none⟩ (by simp; omega), World.cell?_alloc_lt _ _ ⟨t, 0, none⟩ htl]; exact ht0
  have c3 : ((w.alloc (.cells #[.pointer (some ⟨t, 0, none⟩)] 54)).alloc (.cells #[hBB, .pointer (some ⟨w.heap.size, 0, none⟩), .int .u64 150] 69)).frozen? ⟨t, 0, none⟩ = false := by
    rw [World.frozen?_alloc_old _ _ ⟨t, 0, none⟩ (by simp; omega), World.frozen?_alloc_old _ _ ⟨t, 0, none⟩ hst]; exact hf0
  have hb : Below t w ((w.alloc (.cells #[.pointer (some ⟨t, 0, none⟩)] 54)).alloc (.cells #[hBB, .pointer (some ⟨w.heap.size, 0, none⟩), .int .u64 150] 69)) := ((Below.refl _ _).alloc (by omega) _).alloc (by simp; omega) _
  have HA := Lib.hid (as_at q e ⟨w.heap.size, 0, none⟩ t (.iface 54 (.pointer (some ⟨t, 0, none⟩))) old _ c1 c2 c3 (by simp; omega) (by simp; omega))
  have HB := Lib.hid hb
  clear c1 c2 c3 hb
  go_enter Tryd.func20, Tryd.ntmps20
  go_wp2_with (go_at_call 30; refine HA.out.mono ?_; rintro ev w' ⟨rfl, hc, hb1⟩)
  go_ret
  exact ⟨rfl, hc, HB.out.trans hb1⟩
end Err
end Go.Proofs.YtonhphdoieojfaaDoor
