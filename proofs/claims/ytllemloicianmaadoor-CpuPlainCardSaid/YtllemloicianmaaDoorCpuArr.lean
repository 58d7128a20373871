/- '==' of two register rows, as the walk meets it. No condition. -/
import Derived.Test.YtllemloicianmaaDoorProg
import Derived.Test.YtllemloicianmaaDoorArrEq
import Derived.KernelRfl
namespace Go.Proofs.YtllemloicianmaaDoor
open Go
theorem info_word : (Tryd.prog.info? 22).map (fun i => i.size) = some 1 := by kernel_rfl
theorem arr_regs (d : Nat) (W : World) (xs ys : Array Value) : (Op.equalIn (d + 1) 23 (.agg xs) (.agg ys)).run Tryd.prog W = (eqFrom d 22 1 xs ys 0 8).run Tryd.prog W := by
  obtain ⟨i, hi, hs⟩ := Option.map_eq_some_iff.1 info_word
  have e : arrOf Tryd.prog 23 = (8, 22) := by unfold arrOf; rw [Tryd.underlying23]
  have h := run_equalIn_array (P := Tryd.prog) W d 23 xs ys i (by rw [e]; exact Tryd.underlying23) (by rw [e]; exact hi)
  rw [e, hs] at h
  exact h
end Go.Proofs.YtllemloicianmaaDoor
