/- '!=' of two partitions, two windows, two channels, as the walk meets them. No condition. -/
import Derived.Test.YtiggoojjefmcoaaDoorProg
import Derived.Test.YtiggoojjefmcoaaDoorArrEq
import Derived.KernelRfl
import Derived.WalkKit
import Derived.WalkSpells
import Derived.WalkLawsBesides
import Derived.Lib.Hide
import Derived.BigQuiet
import Derived.Deep.QuietTactic

namespace Go.Proofs.YtiggoojjefmcoaaDoor
open Go
theorem info_int : (Tryd.prog.info? 3).map (fun i => i.size) = some 1 := by kernel_rfl
theorem arr_act (d : Nat) (W : World) (xs ys : Array Value) : (Op.equalIn (d + 1) 43 (.agg xs) (.agg ys)).run Tryd.prog W = (eqFrom d 3 1 xs ys 0 3).run Tryd.prog W := by
  obtain ⟨i, hi, hs⟩ := Option.map_eq_some_iff.1 info_int
  have e : arrOf Tryd.prog 43 = (3, 3) := by unfold arrOf; rw [Tryd.underlying43]
  have h := run_equalIn_array (P := Tryd.prog) W d 43 xs ys i (by rw [e]; exact Tryd.underlying43) (by rw [e]; exact hi)
  rw [e, hs] at h
  exact h
set_option maxHeartbeats 1000000 in
set_option maxRecDepth 100000 in
theorem neqWin (W : World) (a0 a1 a2 b0 b1 b2 : Int) : (binOp .neq 47 (.agg #[.int .i64 a0, .int .i64 a1, .int .i64 a2]) (.agg #[.int .i64 b0, .int .i64 b1, .int .i64 b2])).run Tryd.prog W = .ok (.bool (!decide ([a0, a1, a2] = [b0, b1, b2]))) W := by
  by_cases h0 : a0 = b0 <;> by_cases h1 : a1 = b1 <;> by_cases h2 : a2 = b2 <;> go_simp
set_option maxHeartbeats 1000000 in
set_option maxRecDepth 100000 in
theorem neqChan (W : World) (a0 a1 a2 a3 a4 b0 b1 b2 b3 b4 : Int) : (binOp .neq 62 (.agg #[.int .i64 a0, .int .i64 a1, .int .i64 a2, .int .i64 a3, .int .i64 a4]) (.agg #[.int .i64 b0, .int .i64 b1, .int .i64 b2, .int .i64 b3, .int .i64 b4])).run Tryd.prog W = .ok (.bool (!decide ([a0, a1, a2, a3, a4] = [b0, b1, b2, b3, b4]))) W := by
  by_cases h0 : a0 = b0 <;> by_cases h1 : a1 = b1 <;> by_cases h2 : a2 = b2 <;> by_cases h3 : a3 = b3 <;> by_cases h4 : a4 = b4 <;> go_simp
set_option maxHeartbeats 1000000 in
set_option maxRecDepth 100000 in
theorem neqPart (W : World) (a0 a1 a2 a3 b0 b1 b2 b3 : Int) : (binOp .neq 45 (.agg #[.int .i64 a0, .int .i64 a1, .int .i64 a2, .int .i64 a3]) (.agg #[.int .i64 b0, .int .i64 b1, .int .i64 b2, .int .i64 b3])).run Tryd.prog W = .ok (.bool (!decide ([a0, a1, a2, a3] = [b0, b1, b2, b3]))) W := by
  have hA := arr_act
  by_cases h0 : a0 = b0 <;> by_cases h1 : a1 = b1 <;> by_cases h2 : a2 = b2 <;> by_cases h3 : a3 = b3 <;> go_simp
end Go.Proofs.YtiggoojjefmcoaaDoor
