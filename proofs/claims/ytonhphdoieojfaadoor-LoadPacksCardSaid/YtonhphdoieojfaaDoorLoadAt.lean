/- Slices of strings, slices of such slices, as they lie in memory; searches. No condition. -/
import Derived.Test.YtonhphdoieojfaaDoorBase2
import Derived.Test.YtonhphdoieojfaaDoorLoadPlain
set_option linter.unusedVariables false
set_option linter.unusedSimpArgs false
namespace Go.Proofs.YtonhphdoieojfaaDoor
open Go.RowKit

/-- a slice of strings -/
def StrsAt (W : World) (v : Value) (l : List ByteArray) : Prop :=
  ∃ a c, v = .slice a l.length c ∧ l.length ≤ 9223372036854775807 ∧ (∀ s ∈ l, s.size ≤ 9223372036854775807) ∧ (l = [] ∨ ∃ b off, a = some ⟨b, off, none⟩ ∧ b < W.heap.size ∧ ∀ i, i < l.length → W.cell? ⟨b, off + i, none⟩ = some (.string (l.getD i ByteArray.empty)))
/-- a slice of slices of strings -/
def ImgsAt (W : World) (v : Value) (ls : List (List ByteArray)) : Prop :=
  ∃ a c, v = .slice a ls.length c ∧ ls.length ≤ 9223372036854775807 ∧ (ls = [] ∨ ∃ b off, a = some ⟨b, off, none⟩ ∧ b < W.heap.size ∧ ∀ i, i < ls.length → ∃ u, W.cell? ⟨b, off + i, none⟩ = some u ∧ StrsAt W u (ls.getD i []))
theorem StrsAt.below {W W' : World} {v : Value} {l : List ByteArray} (h : StrsAt W v l) (hb : Below W.heap.size W W') : StrsAt W' v l := by
  obtain ⟨a, c, rfl, hn, hs, h | ⟨b, off, rfl, hlt, hc⟩⟩ := h
  · exact ⟨a, c, rfl, hn, hs, .inl h⟩
  · exact ⟨_, c, rfl, hn, hs, .inr ⟨b, off, rfl, Nat.lt_of_lt_of_le hlt hb.size, fun i hi => (hb.cell (p := ⟨b, off + i, none⟩) hlt).trans (hc i hi)⟩⟩
theorem ImgsAt.below {W W' : World} {v : Value} {ls : List (List ByteArray)} (h : ImgsAt W v ls) (hb : Below W.heap.size W W') : ImgsAt W' v ls := by
  obtain ⟨a, c, rfl, hn, h | ⟨b, off, rfl, hlt, hc⟩⟩ := h
  · exact ⟨a, c, rfl, hn, .inl h⟩
  · refine ⟨_, c, rfl, hn, .inr ⟨b, off, rfl, Nat.lt_of_lt_of_le hlt hb.size, fun i hi => ?_⟩⟩
    obtain ⟨u, hu, hr⟩ := hc i hi
    exact ⟨u, (hb.cell (p := ⟨b, off + i, none⟩) hlt).trans hu, hr.below hb⟩

/-- what a search answers: a place, or one below nought -/
def Found (any : Bool) (w : World) (e : Ending) (w' : World) : Prop := ∃ r : Int, e = .returned (.int .i64 r) ∧ decide (0 ≤ r) = any ∧ Below w.heap.size w w'
/-- the head of a search's loop: nothing was found -/
def Seek (α : Type) (w : World) (l : List α) (pr : α → Bool) (v : Value) (wr : World) : Prop := ∃ k : Nat, k ≤ l.length ∧ v = .int .i64 k ∧ Below w.heap.size w wr ∧ l.any pr = (l.drop k).any pr
theorem seek_hit {α : Type} {l : List α} {pr : α → Bool} {k : Nat} {x : α} (hk : k < l.length) (hx : l[k]? = some x) (hany : l.any pr = (l.drop k).any pr) (h : pr x = true) : l.any pr = true := by
  rw [hany, List.drop_eq_getElem_cons hk, List.any_cons]
  rw [List.getElem?_eq_getElem hk] at hx
  injection hx with hx
  rw [hx, h]
  rfl
theorem seek_miss {α : Type} {l : List α} {pr : α → Bool} {k : Nat} {x : α} (hk : k < l.length) (hx : l[k]? = some x) (hany : l.any pr = (l.drop k).any pr) (h : pr x = false) : l.any pr = (l.drop (k + 1)).any pr := by
  rw [hany, List.drop_eq_getElem_cons hk, List.any_cons]
  rw [List.getElem?_eq_getElem hk] at hx
  injection hx with hx
  rw [hx, h]
  rfl
theorem seek_end {α : Type} {l : List α} {pr : α → Bool} {k : Nat} (hk : ¬ k < l.length) (hany : l.any pr = (l.drop k).any pr) : l.any pr = false := by
  rw [hany, List.drop_of_length_le (by omega)]
  rfl
theorem getD_some {α : Type} {l : List α} {k : Nat} {d : α} (h : k < l.length) : l[k]? = some (l.getD k d) := by
  rw [List.getD_eq_getElem?_getD, List.getElem?_eq_getElem h]
  rfl
end Go.Proofs.YtonhphdoieojfaaDoor
