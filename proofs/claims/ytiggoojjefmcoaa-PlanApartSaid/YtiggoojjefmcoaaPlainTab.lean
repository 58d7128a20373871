/- What a row without variables asks: a world, the layout. No condition. -/
import Derived.Test.YtiggoojjefmcoaaRows
import Derived.Test.YtiggoojjefmcoaaCard
import Derived.Deep.DeepHandedRow
namespace Go.Proofs.Ytiggoojjefmcoaa
open Go.ChangeShapes Go.WideShapes Go.ChangeAt Go.RowKit
theorem own : ownKnob Try.prog.godebug = none := by kernel_rfl
noncomputable def laidWorld (os : Os) : World := World.holding Try.prog os ⟨#[], #[], []⟩
theorem laid_outB : laidOutB Try.prog = true := by kernel_rfl
end Go.Proofs.Ytiggoojjefmcoaa
