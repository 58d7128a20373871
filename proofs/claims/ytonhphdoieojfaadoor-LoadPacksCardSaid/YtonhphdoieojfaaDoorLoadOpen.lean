/- Images that come in as an argument, as they lie in memory. No condition. -/
import Derived.Test.YtonhphdoieojfaaDoorProg
import Derived.Test.YtonhphdoieojfaaDoorLoadAt
import Derived.ProofKit
import Derived.OpenShut
import Derived.Deep.Slices
import Derived.Lib.SmallJoins
set_option linter.unusedVariables false
set_option linter.unusedSimpArgs false
namespace Go.Proofs.YtonhphdoieojfaaDoor
open Go.ChangeShapes Go.WideShapes Go.ChangeAt Go.RowKit Go.Joins Go.Deep

theorem cell_lt {w : World} {a : Addr} {v : Value} (h : w.cell? a = some v) : a.block < w.heap.size := by
  rcases Nat.lt_or_ge a.block w.heap.size with h' | h'
  · exact h'
  · simp [World.cell?, Array.getElem?_eq_none h'] at h
section
variable {H : Type} {enc : TypeId × Value → H} {w : World} {base b : Nat} {sp : Nat → Bool} {hd : Bool} {r : Reach}
theorem cells_str : Tryd.prog.cellsOf 9 = 1 := by kernel_rfl
theorem cells_strs : Tryd.prog.cellsOf 32 = 1 := by kernel_rfl
theorem open_strs {fuel : Nat} {cs : List Value} {x : DataW H × List MemPlace} (h : DataW.trod enc Tryd.prog w b sp hd fuel 32 cs = some x) : ∃ v ws, cs = [v] ∧ StrsAt w v ws := by
  rcases open_slice1 Tryd.underlying32 cells_str h with ⟨rfl, _⟩ | ⟨a, len, cap, m, n, V, D, P', rfl, _, hl, hm, hmm, _, hi⟩
  · exact ⟨_, [], rfl, none, 0, rfl, by simp, by simp, .inl rfl⟩
  · have hmax : Go.maxLen = 9223372036854775807 := rfl
    have hlm : len ≤ m := by rw [hmm]; split <;> omega
    have hall : ∀ i, i < len → ∃ l : ByteArray, w.cell? (a.add i) = some (V i) ∧ V i = .string l ∧ l.size ≤ 9223372036854775807 := fun i hil => by
      obtain ⟨hc, ht'⟩ := hi i (by omega)
      obtain ⟨s, hs, _, hw⟩ := DataW.trod_string Tryd.underlying9 ht'
      injection hs with hs
      exact ⟨s, hc, hs, hmax ▸ hw⟩
    obtain ⟨f, hf⟩ := choose_lt hall
    by_cases h0 : len = 0
    · subst h0
      exact ⟨_, [], rfl, some a, cap, rfl, by simp, by simp, .inl rfl⟩
    · have hc0 := (hf 0 (by omega)).1
      obtain ⟨b', off, spot⟩ := a
      have hspot : spot = none := by simpa [Addr.add] using World.cell?_spot hc0
      subst hspot
      refine ⟨_, (List.range len).map f, rfl, _, cap, by rw [List.length_map, List.length_range], by rw [List.length_map, List.length_range]; omega, ?_, .inr ⟨b', off, rfl, ?_, fun i hi => ?_⟩⟩
      · intro s hs
        obtain ⟨i, hi', rfl⟩ := List.mem_map.mp hs
        exact (hf i (List.mem_range.mp hi')).2.2
      · have := cell_lt hc0
        simpa [Addr.add] using this
      · rw [List.length_map, List.length_range] at hi
        have hadd : (⟨b', off, none⟩ : Addr).add i = ⟨b', off + i, none⟩ := by
          unfold Addr.add
          split
          · rename_i hz
            simp only [Addr.mk.injEq, and_true, true_and]
            omega
          · simp only [Addr.mk.injEq, and_true, true_and]
        have hfi := hf i hi
        rw [hadd] at hfi
        rw [List.getD_eq_getElem?_getD, List.getElem?_map, List.getElem?_range hi]
        exact hfi.1.trans (by rw [hfi.2.1]; rfl)
theorem open_imgs {fuel : Nat} {cs : List Value} {x : DataW H × List MemPlace} (h : DataW.trod enc Tryd.prog w b sp hd fuel 22 cs = some x) : ∃ v ws, cs = [v] ∧ ImgsAt w v ws := by
  rcases open_slice1 Tryd.underlying22 cells_strs h with ⟨rfl, _⟩ | ⟨a, len, cap, m, n, V, D, P', rfl, _, hl, hm, hmm, _, hi⟩
  · exact ⟨_, [], rfl, none, 0, rfl, by simp, .inl rfl⟩
  · have hmax : Go.maxLen = 9223372036854775807 := rfl
    have hlm : len ≤ m := by rw [hmm]; split <;> omega
    have hall : ∀ i, i < len → ∃ l : List ByteArray, w.cell? (a.add i) = some (V i) ∧ StrsAt w (V i) l := fun i hil => by
      obtain ⟨hc, ht'⟩ := hi i (by omega)
      obtain ⟨v, l, hv, hl⟩ := open_strs ht'
      injection hv with hv
      exact ⟨l, hc, hv ▸ hl⟩
    obtain ⟨f, hf⟩ := choose_lt hall
    by_cases h0 : len = 0
    · subst h0
      exact ⟨_, [], rfl, some a, cap, rfl, by simp, .inl rfl⟩
    · have hc0 := (hf 0 (by omega)).1
      obtain ⟨b', off, spot⟩ := a
      have hspot : spot = none := by simpa [Addr.add] using World.cell?_spot hc0
      subst hspot
      refine ⟨_, (List.range len).map f, rfl, _, cap, by rw [List.length_map, List.length_range], by rw [List.length_map, List.length_range]; omega, .inr ⟨b', off, rfl, ?_, fun i hi => ?_⟩⟩
      · have := cell_lt hc0
        simpa [Addr.add] using this
      · rw [List.length_map, List.length_range] at hi
        have hadd : (⟨b', off, none⟩ : Addr).add i = ⟨b', off + i, none⟩ := by
          unfold Addr.add
          split
          · rename_i hz
            simp only [Addr.mk.injEq, and_true, true_and]
            omega
          · simp only [Addr.mk.injEq, and_true, true_and]
        have hfi := hf i hi
        rw [hadd] at hfi
        rw [List.getD_eq_getElem?_getD, List.getElem?_map, List.getElem?_range hi]
        exact ⟨V i, hfi.1, hfi.2⟩
set_option maxRecDepth 100000 in
theorem open_images {v : Value} {d : DataW H} {p : List MemPlace} {rr : Reach} {bb : Nat} (hv : Value.okWide Tryd.prog w rr bb 22 v) (h : DataW.Trod enc Tryd.prog w b sp hd 22 v d p) : ∃ l, ImgsAt w v l := by
  obtain ⟨a, len, cap, rfl⟩ := okWide_slice Tryd.underlying22 hv
  obtain ⟨fuel, h⟩ := h
  obtain ⟨u, l, hu, hl⟩ := open_imgs h
  have hu' : ([.slice a len cap] : List Value) = [u] := hu
  injection hu' with hu'
  exact ⟨l, hu' ▸ hl⟩
end
end Go.Proofs.YtonhphdoieojfaaDoor
