/- Slices of rows of numbers, slices of such slices, and a plan, as they lie in memory. No condition. -/
import Derived.Test.YtiggoojjefmcoaaDoorBase2
import Derived.Test.YtiggoojjefmcoaaDoorPlanPlain
set_option linter.unusedVariables false
set_option linter.unusedSimpArgs false
namespace Go.Proofs.YtiggoojjefmcoaaDoor
open Go.RowKit

/-- a slice of rows of sz numbers -/
def RowsAt (W : World) (sz : Nat) (v : Value) (l : List (List Int)) : Prop :=
  ∃ a c, v = .slice a l.length c ∧ l.length ≤ 9223372036854775807 ∧ (l = [] ∨ ∃ b off, a = some ⟨b, off, none⟩ ∧ b < W.heap.size ∧ ∀ i j, i < l.length → j < sz → W.cell? ⟨b, off + i * sz + j, none⟩ = some (.int .i64 (Pl.g (l.getD i []) j)))
/-- a slice of slices of windows -/
def WinsAt (W : World) (v : Value) (ws : List (List (List Int))) : Prop :=
  ∃ a c, v = .slice a ws.length c ∧ ws.length ≤ 9223372036854775807 ∧ (ws = [] ∨ ∃ b off, a = some ⟨b, off, none⟩ ∧ b < W.heap.size ∧ ∀ i, i < ws.length → ∃ u, W.cell? ⟨b, off + i, none⟩ = some u ∧ RowsAt W 3 u (ws.getD i []))
def PlanAt (W : World) (v : Value) (p : Pl.Plan) : Prop :=
  ∃ vp vw vc, v = .agg #[vp, .int .i64 p.fr, vw, vc] ∧ RowsAt W 4 vp p.ps ∧ WinsAt W vw p.ws ∧ RowsAt W 5 vc p.cs

theorem RowsAt.below {W W' : World} {sz : Nat} {v : Value} {l : List (List Int)} (h : RowsAt W sz v l) (hb : Below W.heap.size W W') : RowsAt W' sz v l := by
  obtain ⟨a, c, rfl, hn, h | ⟨b, off, rfl, hlt, hc⟩⟩ := h
  · exact ⟨a, c, rfl, hn, .inl h⟩
  · exact ⟨_, c, rfl, hn, .inr ⟨b, off, rfl, Nat.lt_of_lt_of_le hlt hb.size, fun i j hi hj => (hb.cell (p := ⟨b, off + i * sz + j, none⟩) hlt).trans (hc i j hi hj)⟩⟩
theorem WinsAt.below {W W' : World} {v : Value} {ws : List (List (List Int))} (h : WinsAt W v ws) (hb : Below W.heap.size W W') : WinsAt W' v ws := by
  obtain ⟨a, c, rfl, hn, h | ⟨b, off, rfl, hlt, hc⟩⟩ := h
  · exact ⟨a, c, rfl, hn, .inl h⟩
  · refine ⟨_, c, rfl, hn, .inr ⟨b, off, rfl, Nat.lt_of_lt_of_le hlt hb.size, fun i hi => ?_⟩⟩
    obtain ⟨u, hu, hr⟩ := hc i hi
    exact ⟨u, (hb.cell (p := ⟨b, off + i, none⟩) hlt).trans hu, hr.below hb⟩
theorem PlanAt.below {W W' : World} {v : Value} {p : Pl.Plan} (h : PlanAt W v p) (hb : Below W.heap.size W W') : PlanAt W' v p := by
  obtain ⟨vp, vw, vc, rfl, h1, h2, h3⟩ := h
  exact ⟨vp, vw, vc, rfl, h1.below hb, h2.below hb, h3.below hb⟩

/-- what a search answers: a place, or one below nought -/
def Found (any : Bool) (w : World) (e : Ending) (w' : World) : Prop := ∃ r : Int, e = .returned (.int .i64 r) ∧ decide (0 ≤ r) = any ∧ Below w.heap.size w w'
/-- the head of a search's loop: nothing was found -/
def Seek (α : Type) (w : World) (l : List α) (pr : α → Bool) (v : Value) (wr : World) : Prop := ∃ k : Nat, k ≤ l.length ∧ v = .int .i64 k ∧ Below w.heap.size w wr ∧ l.any pr = (l.drop k).any pr
theorem seek_hit {α : Type} {l : List α} {pr : α → Bool} {k : Nat} {x : α} (hk : k < l.length) (hx : l[k]? = some x) (hany : l.any pr = (l.drop k).any pr) (h : pr x = true) : l.any pr = true := by
  rw [hany, List.drop_eq_getElem_cons hk, List.any_cons]
  rw [List.getElem?_eq_getElem hk] at hx
  injection hx with hx
  rw [hx, h]
  rfl
theorem seek_miss {α : Type} {l : List α} {pr : α → Bool} {k : Nat} {x : α} (hk : k < l.length) (hx : l[k]? = some x) (hany : l.any pr = (l.drop k).any pr) (h : pr x = false) : l.any pr = (l.drop (k + 1)).any pr := by
  rw [hany, List.drop_eq_getElem_cons hk, List.any_cons]
  rw [List.getElem?_eq_getElem hk] at hx
  injection hx with hx
  rw [hx, h]
  rfl
theorem seek_end {α : Type} {l : List α} {pr : α → Bool} {k : Nat} (hk : ¬ k < l.length) (hany : l.any pr = (l.drop k).any pr) : l.any pr = false := by
  rw [hany, List.drop_of_length_le (by omega)]
  rfl
theorem getD_some {α : Type} {l : List α} {k : Nat} {d : α} (h : k < l.length) : l[k]? = some (l.getD k d) := by
  rw [List.getD_eq_getElem?_getD, List.getElem?_eq_getElem h]
  rfl
end Go.Proofs.YtiggoojjefmcoaaDoor
