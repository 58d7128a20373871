/- One more element of several cells behind a row that the call owns; rows of numbers out of such a row. Conditions: the row is the call's own; Go's own limit. -/
import Derived.Test.YtiggoojjefmcoaaDoorOwn
import Derived.Test.YtiggoojjefmcoaaDoorPlanAt
set_option linter.unusedVariables false
set_option linter.unusedSimpArgs false
namespace Go.Proofs.YtiggoojjefmcoaaDoor
open Go.RowKit
theorem append_cells {P : Program} {base : Nat} {t ty e : TypeId} {z : Value} {size bytes : Nat} (ht : P.underlying t = some (.slice e)) (hi : (P.info? e).map (fun i => (i.zero, i.size, i.bytes)) = some (some z, size, bytes)) (hzs : z.cells.size = size) (hs0 : 0 < size)
    {W : World} {v : Value} {x : Array Value} {n : Nat} {xs : List Value} (hown : W.ownsRow base e size v n xs) (hx : ∀ u ∈ x.toList, u.oneCell' = true) (hxs : x.size = size) (hb : (n + 1) * bytes ≤ 140737488355328) (hn : n + 1 ≤ 140737488355328) (hbase : base ≤ W.heap.size) :
    ∃ g cap W', (Builtin.append_ #[t, t] ty #[v, .slice (some ⟨W.heap.size, 0, none⟩) 1 1]).run P (W.alloc (.cells x e)) = .ok (.slice (some ⟨g, 0, none⟩) (n + 1) cap) W' ∧ W'.ownsRow base e size (.slice (some ⟨g, 0, none⟩) (n + 1) cap) (n + 1) (xs ++ x.toList) ∧ (W.alloc (.cells x e)).grownBy W' v.ownBlock ∧ base ≤ g ∧ g < W'.heap.size := by
  obtain ⟨i, hi0, hz, hs, hby⟩ := info_parts hi
  obtain ⟨v', W', hrun, hown', hgrow, _⟩ := run_append_own (P := P) (W.alloc (.cells x e)) base t ty e i z size bytes ht hi0 hz hs hby hzs hs0 v n xs (hown.alloc _) ⟨W.heap.size, 0, none⟩ 1 1 x.toList (by rw [Array.length_toList, hxs, Nat.one_mul])
    (by
      intro j u hj
      have hadd : (⟨W.heap.size, 0, none⟩ : Addr).add j = ⟨W.heap.size, j, none⟩ := by
        unfold Addr.add
        split
        · rename_i hz
          simp only [Addr.mk.injEq, and_true, true_and]
          omega
        · simp only [Addr.mk.injEq, and_true, true_and]
          omega
      rw [hadd, Lib.cell_of_heap (heap_alloc_new W _)]
      rw [← Array.getElem?_toList]
      exact hj)
    hx (by unfold maxLen; omega) hb (by simp; omega)
  have hown2 := hown'
  rcases hown'.2 with ⟨_, h0⟩ | ⟨g, cap, cur, rfl, hg, hgg, _⟩
  · omega
  · exact ⟨g, cap, W', hrun, hown2, hgrow, hg, (Array.getElem?_eq_some_iff.1 hgg).1⟩
/-- a row's numbers as cells -/
def intCells (r : List Int) : List Value := r.map (Value.int .i64)
theorem flat_get {sz : Nat} : ∀ (l : List (List Int)) (i j : Nat), (∀ r ∈ l, r.length = sz) → i < l.length → j < sz → (l.flatMap intCells)[i * sz + j]? = some (.int .i64 (Pl.g (l.getD i []) j))
  | [], i, j, _, hi, _ => absurd hi (Nat.not_lt_zero _)
  | r :: l, 0, j, h, _, hj => by
    have hr := h r (by simp)
    rw [List.flatMap_cons, Nat.zero_mul, Nat.zero_add, List.getElem?_append_left (by simp [intCells]; omega)]
    have hj' : j < r.length := by omega
    simp [intCells, Pl.g, List.getElem?_eq_getElem hj']
  | r :: l, i + 1, j, h, hi, hj => by
    have hr := h r (by simp)
    have ih := flat_get l i j (fun x hx => h x (by simp [hx])) (by simpa using hi) hj
    have hlen : (intCells r).length = sz := by simp [intCells, hr]
    rw [List.flatMap_cons, List.getElem?_append_right (by rw [hlen, Nat.succ_mul]; omega), hlen, show (i + 1) * sz + j - sz = i * sz + j by rw [Nat.succ_mul]; omega, ih, List.getD_cons_succ]
theorem rowsAt_own {W : World} {B sz : Nat} {T : TypeId} {v : Value} {n : Nat} {l : List (List Int)} (h : W.ownsRow B T sz v n (l.flatMap intCells)) (hl : ∀ r ∈ l, r.length = sz) (hn : l.length = n) (hmax : n ≤ 9223372036854775807) : RowsAt W sz v l := by
  subst hn
  rcases h.2 with ⟨rfl, h0⟩ | ⟨g, cap, cur, rfl, hb, hg, hnc, hm, hc, ht⟩
  · exact ⟨none, 0, by rw [h0], hmax, .inl (List.length_eq_zero_iff.mp h0)⟩
  · refine ⟨_, _, rfl, hmax, .inr ⟨g, 0, rfl, (Array.getElem?_eq_some_iff.1 hg).1, fun i j hi hj => ?_⟩⟩
    rw [Lib.cell_of_heap hg, Nat.zero_add, ← flat_get l i j hl hi hj, ← ht]
    have hlt : i * sz + j < l.length * sz := by
      have : (i + 1) * sz ≤ l.length * sz := Nat.mul_le_mul_right _ hi
      rw [Nat.succ_mul] at this
      omega
    rw [List.getElem?_take_of_lt hlt, Array.getElem?_toList]
end Go.Proofs.YtiggoojjefmcoaaDoor
