/- The variable errors.errorType as the rows list it, and a world that holds it. No condition. -/
import Derived.Test.YtiggoojjefmcoaaDoorPlanTake
import Derived.Test.YtiggoojjefmcoaaDoorCard
import Derived.Test.YtiggoojjefmcoaaDoorCards
import Derived.Test.YtiggoojjefmcoaaDoorTie
import Derived.Deep.DeepHandedRow
import Derived.LaidLaws
import Derived.LaidHandle
set_option linter.unusedVariables false
set_option linter.unusedSimpArgs false
namespace Go.Proofs.YtiggoojjefmcoaaDoor
open Go.ChangeShapes Go.WideShapes Go.ChangeAt Go.RowKit
namespace Tk
abbrev Handle (W : World) : Prop := W.cell? ⟨0, 0, none⟩ = some (.iface 126 (.agg #[Err.hE]))
end Tk
theorem own : ownKnob Tryd.prog.godebug = none := by kernel_rfl
theorem gErr : Tryd.prog.globalNamed "errors.errorType" = some 0 := by kernel_rfl
theorem rtErr : (Tryd.prog.cutTypes.find? (·.1 == "internal/reflectlite.rtype")).map (·.2) = some 126 := by kernel_rfl
theorem oneRowErr : ((List.range 168).filter fun t => Tryd.prog.rowNamed t [101, 114, 114, 111, 114]) = [54] := by kernel_rfl
theorem sizeErr : Tryd.prog.types.size = 168 := by kernel_rfl
theorem handle_of {W : World} (h : laidMetH Tryd.prog [("errors.errorType", Rows.laid_errors_errorType)] W) : Tk.Handle W := by
  have h' : laidMet Tryd.prog [] W ∧ handlesMet Tryd.prog [("errors.errorType", Rows.laid_errors_errorType)] W := h
  obtain ⟨name, u, ty, e1, e2, e3, e4, e5⟩ := h'.2 _ (List.mem_singleton.2 rfl)
  have en : name = [101, 114, 114, 111, 114] := (Option.some.inj e1).symm
  subst en
  obtain rfl := Option.some.inj (rtErr.symm.trans e2)
  have hm : ty ∈ (List.range 168).filter fun t => Tryd.prog.rowNamed t [101, 114, 114, 111, 114] := List.mem_filter.2 ⟨List.mem_range.2 (by rw [← sizeErr]; exact e3), e4⟩
  rw [oneRowErr] at hm
  obtain rfl := List.mem_singleton.1 hm
  have hh : typeHandle Tryd.prog 54 = .pointer (some ⟨1, 54, none⟩) := by kernel_rfl
  rw [hh] at e5
  unfold Tk.Handle
  simpa using World.var?_cell gErr e5 0
/-- the settled world with what is handed in, the variable as its initialiser lays it -/
noncomputable def laidWorld (os : Os) : World :=
  { World.holding Tryd.prog os ⟨#[], #[], []⟩ with heap := (World.holding Tryd.prog os ⟨#[], #[], []⟩).heap.modify 0 fun
      | .cells _ t frozen => .cells #[.iface 126 (.agg #[.pointer (some ⟨1, 54, none⟩)])] t frozen
      | o => o }
theorem looks_on : true = Tryd.pinned.checked.prog.looks [] := by kernel_rfl
theorem laid_outB : laidOutB Tryd.prog = true := by kernel_rfl
end Go.Proofs.YtiggoojjefmcoaaDoor
