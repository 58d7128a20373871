/- The table isa.uses as the rows list it, and a world that holds it. No condition. -/
import Derived.Test.YtllemloicianmaaDoorCpuOpen
import Derived.Test.YtllemloicianmaaDoorCard
import Derived.Test.YtllemloicianmaaDoorCards
import Derived.Test.YtllemloicianmaaDoorTie
import Derived.Deep.DeepHandedRow
import Derived.Lib.LaidTab
namespace Go.Proofs.YtllemloicianmaaDoor
open Go.ChangeShapes Go.WideShapes Go.ChangeAt Go.RowKit
theorem own : ownKnob Tryd.prog.godebug = none := by kernel_rfl
theorem gTab : Tryd.prog.globalNamed "transom/isa.uses" = some 0 := by kernel_rfl
theorem gTabType : (Tryd.prog.globals[0]?).map (·.type) = some 64 := by kernel_rfl
theorem cells_tab : Tryd.prog.cellsOf 64 = 25 := by kernel_rfl
theorem tab_of {W : World} (h : laidMetH Tryd.prog [("transom/isa.uses", Rows.laid_transom_isa_uses)] W) : Tab W := fun k hk => by
  have t : Lib.TabIs Tryd.prog W "transom/isa.uses" .i64 Cp.tbl := Lib.tabIs_of_head (rest := []) gTab gTabType Tryd.underlying64 Tryd.underlying3 cells_int cells_tab h
  exact t.cell gTab k hk
/-- the settled world with what is handed in, the table as its initialiser lays it -/
noncomputable def laidWorld (os : Os) : World :=
  { World.holding Tryd.prog os ⟨#[], #[], []⟩ with heap := (World.holding Tryd.prog os ⟨#[], #[], []⟩).heap.modify 0 fun
      | .cells _ t frozen => .cells (Cp.tbl.map (Value.int .i64)).toArray t frozen
      | o => o }
theorem looks_off : false = Tryd.pinned.checked.prog.looks [] := by kernel_rfl
theorem laid_outB : laidOutB Tryd.prog = true := by kernel_rfl
end Go.Proofs.YtllemloicianmaaDoor
