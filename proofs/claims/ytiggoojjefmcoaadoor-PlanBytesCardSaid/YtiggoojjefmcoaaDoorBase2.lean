/- More small lemmas on what is returned. Conditions: none of its own. -/
import Derived.Test.YtiggoojjefmcoaaDoorBase
namespace Go.Proofs.YtiggoojjefmcoaaDoor
open Go.RowKit
theorem is_of {v v' : Value} {w : World} (h : v = v') : Is v' w (.returned v) w := ⟨by rw [h], rfl⟩
theorem two_int {k1 k2 : IntKind} {x x' y y' : Int} (hx : x = x') (hy : y = y') : Value.tuple #[.int k1 x, .int k2 y] = .tuple #[.int k1 x', .int k2 y'] := by rw [hx, hy]
theorem two_str {k2 : IntKind} {x x' : ByteArray} {y y' : Int} (hx : x = x') (hy : y = y') : Value.tuple #[.string x, .int k2 y] = .tuple #[.string x', .int k2 y'] := by rw [hx, hy]
end Go.Proofs.YtiggoojjefmcoaaDoor
