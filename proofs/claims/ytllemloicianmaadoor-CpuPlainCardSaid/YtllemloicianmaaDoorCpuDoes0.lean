/- Two lemmas for the walks of cpu.Does. Condition: the registers are words. -/
import Derived.Test.YtllemloicianmaaDoorCpuMay
import Derived.WalkKit
import Derived.WalkSpells
import Derived.WalkLawsBesides
import Derived.Lib.Hide
import Derived.BigQuiet
import Derived.Deep.QuietTactic

namespace Go.Proofs.YtllemloicianmaaDoor
open Go.RowKit

namespace Does
theorem updA {w1 : World} {B : Nat} {rs : List Int} (hc : ∀ o, w1.cell? ⟨B, o, none⟩ = (rs.map (Value.int .u32))[o]?) (k : Nat) (_hk : k < rs.length) (n : Nat) (x : Int) (j : Nat) (hj : j < rs.length) :
    ((w1.drewN n).setCell ⟨B, k, none⟩ (.int .u32 x)).cell? ⟨B, j, none⟩ = some (.int .u32 (Cp.upd rs k x j)) := by
  have h0 : (w1.drewN n).cell? ⟨B, j, none⟩ = some (.int .u32 (rs.getD j 0)) := by
    show w1.cell? ⟨B, j, none⟩ = _
    rw [hc]; simp [List.getElem?_eq_getElem hj]
  by_cases h : k = j
  · subst h
    rw [World.cell?_setCell_same _ _ _ h0]
    simp [Cp.upd, hj]
  · rw [World.cell?_setCell_other _ _ _ _ (by intro e; injection e; omega), h0]
    simp [Cp.upd, h]

theorem sel (rs : List Int) (hl : rs.length = 8) (pc : Int) (a : Int) (h0 : 0 ≤ a) (h1 : a < 8) : ((rs ++ [pc]).map (Value.int .u32))[a.toNat]? = some (.int .u32 (rs.getD a.toNat 0)) := by
  have : a.toNat < rs.length := by omega
  rw [List.map_append, List.getElem?_append_left (by simpa using this)]
  simp [List.getElem?_eq_getElem this]

end Does
end Go.Proofs.YtllemloicianmaaDoor
