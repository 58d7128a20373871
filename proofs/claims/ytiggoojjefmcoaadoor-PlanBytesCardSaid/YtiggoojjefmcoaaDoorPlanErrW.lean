/- errors.As at plan's errors, walked: what is bad is found. Conditions: errors.errorType is the handle of 'error'; the target is a variable. -/
import Derived.Test.YtiggoojjefmcoaaDoorPlanErrAs
import Derived.WalkKit
import Derived.WalkSpells
import Derived.WalkLawsBesides
import Derived.Lib.Hide
import Derived.BigQuiet
import Derived.Deep.QuietTactic

set_option linter.unusedVariables false
set_option linter.unusedSimpArgs false
namespace Go.Proofs.YtiggoojjefmcoaaDoor
open Go.RowKit Go.Extern.Stop Go.Stop Go.Extern
namespace Err
/-- the target was set; below the target's block all is as it was -/
def Hit (w : World) (t : Nat) (e : Addr) (ev : Ending) (w' : World) : Prop := ev = .returned (.bool true) ∧ w'.cell? ⟨t, 0, none⟩ = some (.pointer (some e)) ∧ Below t w w'
set_option maxHeartbeats 4000000 in
set_option maxRecDepth 100000 in
theorem as_bad (e a : Addr) (t : Nat) (x old : Value) (w : World) (ha : w.cell? a = some (.pointer (some ⟨t, 0, none⟩))) (ht0 : w.cell? ⟨t, 0, none⟩ = some old) (hf0 : w.frozen? ⟨t, 0, none⟩ = false) (hal : a.block < w.heap.size) (htl : t < w.heap.size) :
    Calls Tryd.prog 56 #[.iface 93 (.pointer (some e)), x, .agg #[hBB, .pointer (some a), .int .u64 150], .iface 126 (.agg #[hB])] w (Hit w t e) := by
  have h27 := @run_callFunc_extern Tryd.prog 53 _ (fun args => ReflectliteValue.unpack (args.getD 0 (.tuple #[]))) Tryd.func53 (by kernel_rfl) (by kernel_rfl) (by kernel_rfl) (by kernel_rfl)
  have h33 := @run_callFunc_extern Tryd.prog 51 _ ReflectliteType.typeOf Tryd.func51 (by kernel_rfl) (by kernel_rfl) (by kernel_rfl) (by kernel_rfl)
  have h61 := @run_callFunc_extern Tryd.prog 85 _ (ReflectliteType.relation "AssignableTo" ReflectliteType.assignableTo) Tryd.func85 (by kernel_rfl) (by kernel_rfl) (by kernel_rfl) (by kernel_rfl)
  have h34 := @run_callFunc_extern Tryd.prog 58 _ (ReflectliteValue.method (ReflectliteValue.valueError "reflectlite.Value.Elem" 0) ReflectliteValue.elem) Tryd.func58 (by kernel_rfl) (by kernel_rfl) (by kernel_rfl) (by kernel_rfl)
  have h35 := @run_callFunc_extern Tryd.prog 59 _ ReflectliteValue.set Tryd.func59 (by kernel_rfl) (by kernel_rfl) (by kernel_rfl) (by kernel_rfl)
  have tB := typeOfB
  have mA := methodAssignableTo
  have aB := assignableB
  have vB := valueOfB
  have hst : t ≠ w.heap.size := by omega
  have hst1 : t ≠ w.heap.size + 1 := by omega
  have el := elemV a ⟨t, 0, none⟩ (w.alloc (.cells #[hBB, .pointer (some a), .int .u64 150] 117))
    (by rw [World.cell?_alloc_lt _ _ a hal]; exact ha)
  have st := setB ⟨t, 0, none⟩ ⟨w.heap.size + 1, 0, none⟩ e old ((w.alloc (.cells #[hBB, .pointer (some a), .int .u64 150] 117)).alloc (.cells #[.pointer (some e)] 93))
    (by rw [World.cell?_alloc_at _ _ _ _ (by simp)]; rfl)
    (by rw [World.cell?_alloc_lt _ _ ⟨t, 0, none⟩ (by simp; omega), World.cell?_alloc_lt _ _ ⟨t, 0, none⟩ htl]; exact ht0)
    (by rw [World.frozen?_alloc_old _ _ ⟨t, 0, none⟩ (by simp; omega), World.frozen?_alloc_old _ _ ⟨t, 0, none⟩ hst]; exact hf0)
  have hend : Hit w t e (.returned (.bool true)) (((w.setCell ⟨t, 0, none⟩ (.pointer (some e))).alloc (.cells #[hBB, .pointer (some a), .int .u64 150] 117)).alloc (.cells #[.pointer (some e)] 93)) := by
    have hsz : (w.setCell ⟨t, 0, none⟩ (.pointer (some e))).heap.size = w.heap.size := by simp [World.setCell]
    refine ⟨rfl, ?_, ?_⟩
    · rw [World.cell?_alloc_lt _ _ ⟨t, 0, none⟩ (by simp; omega), World.cell?_alloc_lt _ _ ⟨t, 0, none⟩ (by rw [hsz]; exact htl)]
      exact World.cell?_setCell_same _ _ _ (u := old) ht0
    · exact (((Below.refl _ _).setCell (by simp) _).alloc (by rw [hsz]; omega) _).alloc (by simp; omega) _
  have HEND := Lib.hid hend
  clear hend
  go_enter Tryd.func56, Tryd.ntmps56
  go_wp2
  refine wp_loop_rounds 1 ?_
  rw [rounds_succ]
  go_wp2
  go_ret
  exact HEND.out
set_option maxHeartbeats 4000000 in
set_option maxRecDepth 100000 in
theorem As_bad (e : Addr) (t : Nat) (old : Value) (w : World) (hg : w.cell? ⟨0, 0, none⟩ = some (.iface 126 (.agg #[hE]))) (ht0 : w.cell? ⟨t, 0, none⟩ = some old) (hf0 : w.frozen? ⟨t, 0, none⟩ = false) :
    Calls Tryd.prog 43 #[.iface 93 (.pointer (some e)), .iface 102 (.pointer (some ⟨t, 0, none⟩))] w (Hit w t e) := by
  have htl : t < w.heap.size := by
    rcases Nat.lt_or_ge t w.heap.size with h | h
    · exact h
    · simp [World.cell?, Array.getElem?_eq_none h] at ht0
  have hlt : 0 < w.heap.size := by omega
  have hst : t ≠ w.heap.size := by omega
  have hst1 : t ≠ w.heap.size + 1 := by omega
  have h27 := @run_callFunc_extern Tryd.prog 53 _ (fun args => ReflectliteValue.unpack (args.getD 0 (.tuple #[]))) Tryd.func53 (by kernel_rfl) (by kernel_rfl) (by kernel_rfl) (by kernel_rfl)
  have h28 := @run_callFunc_extern Tryd.prog 54 _ (ReflectliteValue.methodAny (ReflectliteValue.valueError "reflectlite.Value.Type" 0) (fun t _ _ _ => ReflectliteType.toType t)) Tryd.func54 (by kernel_rfl) (by kernel_rfl) (by kernel_rfl) (by kernel_rfl)
  have h29 := @run_callFunc_extern Tryd.prog 55 _ (ReflectliteValue.method (ReflectliteValue.valueError "reflectlite.Value.IsNil" 0) ReflectliteValue.isNil) Tryd.func55 (by kernel_rfl) (by kernel_rfl) (by kernel_rfl) (by kernel_rfl)
  have h50 := @run_callFunc_extern Tryd.prog 74 _ (ReflectliteType.abiMethod fun t => do pure (.int .u8 (← Rtype.kind t))) Tryd.func74 (by kernel_rfl) (by kernel_rfl) (by kernel_rfl) (by kernel_rfl)
  have h63 := @run_callFunc_extern Tryd.prog 87 _ (ReflectliteType.method ReflectliteType.elem) Tryd.func87 (by kernel_rfl) (by kernel_rfl) (by kernel_rfl) (by kernel_rfl)
  have h64 := @run_callFunc_extern Tryd.prog 88 _ (ReflectliteType.relation "Implements" ReflectliteType.implements_) Tryd.func88 (by kernel_rfl) (by kernel_rfl) (by kernel_rfl) (by kernel_rfl)
  have f27 := valueOfBB
  have f28 := typeBB
  have mK := methodKind
  have mE := methodElem
  have mI := methodImplements
  have kBB := kindBB
  have kB := kindB
  have eBB := elemBB
  have iB := implementsB
  have n29 := isNilBB ⟨w.heap.size, 0, none⟩ ⟨t, 0, none⟩ ((w.alloc (.cells #[.pointer (some ⟨t, 0, none⟩)] 102)).alloc (.cells #[hBB, .pointer (some ⟨w.heap.size, 0, none⟩), .int .u64 150] 117)) (by simp)
  have hg2 : ((w.alloc (.cells #[.pointer (some ⟨t, 0, none⟩)] 102)).alloc (.cells #[hBB, .pointer (some ⟨w.heap.size, 0, none⟩), .int .u64 150] 117)).cell? ⟨0, 0, none⟩ = some (.iface 126 (.agg #[hE])) := by
    rw [World.cell?_alloc_lt _ _ ⟨0, 0, none⟩ (by simp), World.cell?_alloc_lt _ _ ⟨0, 0, none⟩ hlt]; exact hg
  have c1 : ((w.alloc (.cells #[.pointer (some ⟨t, 0, none⟩)] 102)).alloc (.cells #[hBB, .pointer (some ⟨w.heap.size, 0, none⟩), .int .u64 150] 117)).cell? ⟨w.heap.size, 0, none⟩ = some (.pointer (some ⟨t, 0, none⟩)) := by
    rw [World.cell?_alloc_lt _ _ ⟨w.heap.size, 0, none⟩ (by simp)]; simp
  have c2 : ((w.alloc (.cells #[.pointer (some ⟨t, 0, none⟩)] 102)).alloc (.cells #[hBB, .pointer (some ⟨w.heap.size, 0, none⟩), .int .u64 150] 117)).cell? ⟨t, 0, none⟩ = some old := by
    rw [World.cell?_alloc_lt _ _ ⟨t, 0, none⟩ (by simp; omega), World.cell?_alloc_lt _ _ ⟨t, 0, none⟩ htl]; exact ht0
  have c3 : ((w.alloc (.cells #[.pointer (some ⟨t, 0, none⟩)] 102)).alloc (.cells #[hBB, .pointer (some ⟨w.heap.size, 0, none⟩), .int .u64 150] 117)).frozen? ⟨t, 0, none⟩ = false := by
    rw [World.frozen?_alloc_old _ _ ⟨t, 0, none⟩ (by simp; omega), World.frozen?_alloc_old _ _ ⟨t, 0, none⟩ hst]; exact hf0
  have hb : Below t w ((w.alloc (.cells #[.pointer (some ⟨t, 0, none⟩)] 102)).alloc (.cells #[hBB, .pointer (some ⟨w.heap.size, 0, none⟩), .int .u64 150] 117)) := ((Below.refl _ _).alloc (by omega) _).alloc (by simp; omega) _
  have HA := Lib.hid (as_bad e ⟨w.heap.size, 0, none⟩ t (.iface 102 (.pointer (some ⟨t, 0, none⟩))) old _ c1 c2 c3 (by simp; omega) (by simp; omega))
  have HB := Lib.hid hb
  clear c1 c2 c3 hb
  go_enter Tryd.func43, Tryd.ntmps43
  go_wp2_with (go_at_call 56; refine HA.out.mono ?_; rintro ev w' ⟨rfl, hc, hb1⟩)
  go_ret
  exact ⟨rfl, hc, HB.out.trans hb1⟩
/-! errors.Is -/
theorem Is_nil (t : Value) (w : World) (tT : TypeId) (v : Value) (ht : t = .iface tT v) :
    Calls Tryd.prog 42 #[.nilIface, t] w fun e w' => e = .returned (.bool false) ∧ w' = w := by
  subst ht
  have hn := run_eql_iface_nil_left (P := Tryd.prog) w tT v Tryd.underlying54
  go_enter Tryd.func42, Tryd.ntmps42
  go_wp2
  go_ret
  exact ⟨rfl, rfl⟩
abbrev shortV : Value := .iface 97 (.agg #[])
set_option maxHeartbeats 4000000 in
set_option maxRecDepth 100000 in
theorem is_bad (p : Value) (w : World) : Calls Tryd.prog 52 #[.iface 93 p, shortV, .bool true] w fun e w' => e = .returned (.bool false) ∧ w' = w := by
  have n1 := noIsB
  have n2 := noUnwrapB
  have n3 := noUnwrapsB
  have q1 := eqBS
  go_enter Tryd.func52, Tryd.ntmps52
  go_wp2
  refine wp_loop_rounds 1 ?_
  rw [rounds_succ]
  go_wp2
  go_ret
  exact ⟨rfl, rfl⟩
set_option maxHeartbeats 4000000 in
set_option maxRecDepth 100000 in
theorem is_short (w : World) : Calls Tryd.prog 52 #[shortV, shortV, .bool true] w fun e w' => e = .returned (.bool true) ∧ w' = w := by
  have q1 := eqSS
  go_enter Tryd.func52, Tryd.ntmps52
  go_wp2
  refine wp_loop_rounds 1 ?_
  rw [rounds_succ]
  go_wp2
  go_ret
  exact ⟨rfl, rfl⟩
set_option maxHeartbeats 4000000 in
set_option maxRecDepth 100000 in
theorem unwrap (p : Option Addr) (w : World) : Calls Tryd.prog 80 #[.agg #[.pointer p, shortV]] w fun e w' => e = .returned (.slice (some ⟨w.heap.size + 1, 0, none⟩) 2 2) ∧ w' = (w.alloc (.cells #[.pointer p, shortV] 99)).alloc (.cells #[.iface 93 (.pointer p), shortV] 54) := by
  go_enter Tryd.func80, Tryd.ntmps80
  go_wp2
  go_ret
  exact ⟨rfl, rfl⟩
set_option maxHeartbeats 4000000 in
set_option maxRecDepth 100000 in
theorem is_at (p : Option Addr) (w : World) : Calls Tryd.prog 52 #[.iface 99 (.agg #[.pointer p, shortV]), shortV, .bool true] w (Gives (.bool true) w) := by
  have n1 := noIsA
  have n2 := noUnwrapA
  have n3 := unwrapsA
  have q1 := eqAS
  have mU := methodUnwrap
  go_enter Tryd.func52, Tryd.ntmps52
  go_wp2
  refine wp_loop_rounds 1 ?_
  rw [rounds_succ]
  go_wp2_with (go_at_call 80; refine (unwrap _ _).mono ?_; rintro e w' ⟨rfl, rfl⟩)
  refine wp_loop_rounds 2 ?_
  rw [rounds_succ]
  go_wp2_with (go_at_call 52; refine (is_bad _ _).mono ?_; rintro e w' ⟨rfl, rfl⟩)
  rw [rounds_succ]
  go_wp2_with (go_at_call 52; refine (is_short _).mono ?_; rintro e w' ⟨rfl, rfl⟩)
  go_ret
  exact ⟨rfl, (by repeat (with_reducible (first | exact Below.refl _ _ | assumption | refine Below.to ?_ (by assumption) | refine below_drewN ?_ _ | refine Below.alloc ?_ (by first | (simp; done) | omega | (simp; omega) | (simp at *; omega)) _ | refine Below.setCell ?_ (by first | (simp; done) | omega | (simp; omega) | (simp at *; omega)) _ | refine Below.drew ?_)))⟩
set_option maxHeartbeats 4000000 in
set_option maxRecDepth 100000 in
theorem Is_bad (p : Value) (w : World) : Calls Tryd.prog 42 #[.iface 93 p, shortV] w fun e w' => e = .returned (.bool false) ∧ w' = w := by
  have h33 := @run_callFunc_extern Tryd.prog 51 _ ReflectliteType.typeOf Tryd.func51 (by kernel_rfl) (by kernel_rfl) (by kernel_rfl) (by kernel_rfl)
  have h86 := @run_callFunc_extern Tryd.prog 86 _ (ReflectliteType.method fun t => do Rtype.noPackHeld "Comparable" t; pure (.bool (← typeInfo t).comparable)) Tryd.func86 (by kernel_rfl) (by kernel_rfl) (by kernel_rfl) (by kernel_rfl)
  have tT := typeOfS
  have cT := comparableS
  have mR := methodComparable
  go_enter Tryd.func42, Tryd.ntmps42
  go_wp2_with (go_at_call 52; refine (is_bad _ _).mono ?_; rintro e w' ⟨rfl, rfl⟩)
  go_ret
  exact ⟨rfl, rfl⟩
set_option maxHeartbeats 4000000 in
set_option maxRecDepth 100000 in
theorem Is_at (p : Option Addr) (w : World) : Calls Tryd.prog 42 #[.iface 99 (.agg #[.pointer p, shortV]), shortV] w (Gives (.bool true) w) := by
  have h33 := @run_callFunc_extern Tryd.prog 51 _ ReflectliteType.typeOf Tryd.func51 (by kernel_rfl) (by kernel_rfl) (by kernel_rfl) (by kernel_rfl)
  have h86 := @run_callFunc_extern Tryd.prog 86 _ (ReflectliteType.method fun t => do Rtype.noPackHeld "Comparable" t; pure (.bool (← typeInfo t).comparable)) Tryd.func86 (by kernel_rfl) (by kernel_rfl) (by kernel_rfl) (by kernel_rfl)
  have tT := typeOfS
  have cT := comparableS
  have mR := methodComparable
  go_enter Tryd.func42, Tryd.ntmps42
  go_wp2_with (go_at_call 52; refine (is_at _ _).mono ?_; rintro e w1 ⟨rfl, hb1⟩)
  go_ret
  exact ⟨rfl, hb1⟩
end Err
end Go.Proofs.YtiggoojjefmcoaaDoor
