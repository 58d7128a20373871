/- A plan that comes in as an argument: its rows, as they lie in memory. No condition. -/
import Derived.Test.YtiggoojjefmcoaaDoorProg
import Derived.Test.YtiggoojjefmcoaaDoorPlanAt
import Derived.ProofKit
import Derived.OpenShut
import Derived.Deep.Slices
import Derived.Lib.SmallJoins
set_option linter.unusedVariables false
set_option linter.unusedSimpArgs false
namespace Go.Proofs.YtiggoojjefmcoaaDoor
open Go.ChangeShapes Go.WideShapes Go.ChangeAt Go.RowKit Go.Joins Go.Deep

theorem cell_lt {w : World} {a : Addr} {v : Value} (h : w.cell? a = some v) : a.block < w.heap.size := by
  rcases Nat.lt_or_ge a.block w.heap.size with h' | h'
  · exact h'
  · simp [World.cell?, Array.getElem?_eq_none h'] at h
theorem i64_bounds {x : Int} (h : (Lit.int .i64 x).wf = true) : -9223372036854775808 ≤ x ∧ x ≤ 9223372036854775807 := by
  have hmin : IntKind.i64.min = -9223372036854775808 := rfl
  have hmax : IntKind.i64.max = 9223372036854775807 := rfl
  simp only [Lit.wf, Bool.and_eq_true, decide_eq_true_eq] at h
  omega
section
variable {H : Type} {enc : TypeId × Value → H} {w : World} {base b : Nat} {sp : Nat → Bool} {hd : Bool} {r : Reach}
/-- a row's cells are numbers -/
def RowIs (sz : Nat) (cs : List Value) : Prop := ∃ r : List Int, ∀ j, j < sz → cs[j]? = some (.int .i64 (Pl.g r j))

theorem open_rows {ts e : TypeId} {sz : Nat} {fuel : Nat} {cs : List Value} {x : DataW H × List MemPlace} (ht : Tryd.prog.underlying ts = some (.slice e)) (hC : Tryd.prog.cellsOf e = sz) (hsz : 0 < sz)
    (hrow : ∀ n cs y, cs.length = sz → DataW.trod enc Tryd.prog w b sp hd n e cs = some y → RowIs sz cs) (h : DataW.trod enc Tryd.prog w b sp hd fuel ts cs = some x) : ∃ v l, cs = [v] ∧ RowsAt w sz v l := by
  rcases open_slice ht h with ⟨rfl, _⟩ | ⟨a, len, cap, m, n, D, P', rfl, _, hl, hm, hmm, _, hi⟩
  · exact ⟨_, [], rfl, none, 0, rfl, by simp, .inl rfl⟩
  · have hmax : Go.maxLen = 9223372036854775807 := rfl
    have hlm : len ≤ m := by rw [hmm]; split <;> omega
    have hall : ∀ i, i < len → ∃ r : List Int, ∀ j, j < sz → w.cell? (a.add (i * sz + j)) = some (.int .i64 (Pl.g r j)) := fun i hil => by
      obtain ⟨cs', hc, ht'⟩ := hi i (by omega)
      obtain ⟨_, hlen, hat⟩ := World.cells?_some hc
      rw [hC] at hlen hat
      obtain ⟨r, hr⟩ := hrow _ _ _ hlen ht'
      exact ⟨r, fun j hj => by rw [← add_add, hat j hj, hr j hj]⟩
    obtain ⟨f, hf⟩ := choose_lt hall
    by_cases h0 : len = 0
    · subst h0
      exact ⟨_, [], rfl, some a, cap, rfl, by simp, .inl rfl⟩
    · have hc0 := hf 0 (by omega) 0 hsz
      obtain ⟨b', off, spot⟩ := a
      have hspot : spot = none := by simpa [Addr.add] using World.cell?_spot hc0
      subst hspot
      refine ⟨_, (List.range len).map f, rfl, _, cap, by rw [List.length_map, List.length_range], by rw [List.length_map, List.length_range]; omega, .inr ⟨b', off, rfl, ?_, fun i j hi hj => ?_⟩⟩
      · have := cell_lt hc0
        simpa [Addr.add] using this
      · rw [List.length_map, List.length_range] at hi
        have hadd : (⟨b', off, none⟩ : Addr).add (i * sz + j) = ⟨b', off + i * sz + j, none⟩ := by
          unfold Addr.add
          split
          · rename_i hz
            simp only [Addr.mk.injEq, and_true, true_and]
            omega
          · simp only [Addr.mk.injEq, and_true, true_and]
            omega
        have := hf i hi j hj
        rw [hadd] at this
        rw [this, List.getD_eq_getElem?_getD, List.getElem?_map, List.getElem?_range hi]
        rfl

theorem open_intc {fuel : Nat} {c : Value} {x : DataW H × List MemPlace} (h : DataW.trod enc Tryd.prog w b sp hd fuel 3 [c] = some x) : ∃ n, c = .int .i64 n ∧ (Lit.int .i64 n).wf = true := by
  obtain ⟨n, hc, _, hw⟩ := DataW.trod_int Tryd.underlying3 h
  injection hc with hc
  exact ⟨n, hc, hw⟩
theorem cells_int : Tryd.prog.cellsOf 3 = 1 := by kernel_rfl
theorem cells_act : Tryd.prog.cellsOf 43 = 3 := by kernel_rfl

theorem row_part (n : Nat) (cs : List Value) (y : DataW H × List MemPlace) (hlen : cs.length = 4) (h : DataW.trod enc Tryd.prog w b sp hd n 45 cs = some y) : RowIs 4 cs := by
  match cs, hlen with
  | [c0, c1, c2, c3], _ =>
    obtain ⟨xs, n, _, _, _, hl, hg⟩ := DataW.trod_struct Tryd.underlying45 h
    have g0 : DataW.trod enc Tryd.prog w b sp hd n 3 (([c0, c1, c2, c3].drop 0).take (Tryd.prog.cellsOf 3)) = xs[0]? := hg 0 _ rfl
    have g1 : DataW.trod enc Tryd.prog w b sp hd n 43 (([c0, c1, c2, c3].drop 1).take (Tryd.prog.cellsOf 43)) = xs[1]? := hg 1 _ rfl
    have hx : xs.length = 2 := hl
    rw [List.getElem?_eq_getElem (by omega), cells_int] at g0
    rw [List.getElem?_eq_getElem (by omega), cells_act] at g1
    obtain ⟨ys, m, _, _, _, hyl, hy⟩ := DataW.trod_array Tryd.underlying43 g1
    have y : ∀ i, (hi : i < 3) → DataW.trod enc Tryd.prog w b sp hd m 3 ((([c1, c2, c3].drop (i * 1)).take 1)) = some (ys[i]'(by omega)) := fun i hi => by
      have := hy i hi
      rw [List.getElem?_eq_getElem (by omega), cells_int] at this
      exact this
    obtain ⟨r0, rfl, _⟩ := open_intc g0
    obtain ⟨r1, rfl, _⟩ := open_intc (y 0 (by omega))
    obtain ⟨r2, rfl, _⟩ := open_intc (y 1 (by omega))
    obtain ⟨r3, rfl, _⟩ := open_intc (y 2 (by omega))
    refine ⟨[r0, r1, r2, r3], fun j hj => ?_⟩
    match j, hj with
    | 0, _ => rfl
    | 1, _ => rfl
    | 2, _ => rfl
    | 3, _ => rfl
theorem row_win (n : Nat) (cs : List Value) (y : DataW H × List MemPlace) (hlen : cs.length = 3) (h : DataW.trod enc Tryd.prog w b sp hd n 47 cs = some y) : RowIs 3 cs := by
  match cs, hlen with
  | [c0, c1, c2], _ =>
    obtain ⟨xs, n, _, _, _, hl, hg⟩ := DataW.trod_struct Tryd.underlying47 h
    have g0 : DataW.trod enc Tryd.prog w b sp hd n 3 (([c0, c1, c2].drop 0).take (Tryd.prog.cellsOf 3)) = xs[0]? := hg 0 _ rfl
    have g1 : DataW.trod enc Tryd.prog w b sp hd n 3 (([c0, c1, c2].drop 1).take (Tryd.prog.cellsOf 3)) = xs[1]? := hg 1 _ rfl
    have g2 : DataW.trod enc Tryd.prog w b sp hd n 3 (([c0, c1, c2].drop 2).take (Tryd.prog.cellsOf 3)) = xs[2]? := hg 2 _ rfl
    have hx : xs.length = 3 := hl
    rw [List.getElem?_eq_getElem (by omega), cells_int] at g0
    rw [List.getElem?_eq_getElem (by omega), cells_int] at g1
    rw [List.getElem?_eq_getElem (by omega), cells_int] at g2
    obtain ⟨r0, rfl, _⟩ := open_intc g0
    obtain ⟨r1, rfl, _⟩ := open_intc g1
    obtain ⟨r2, rfl, _⟩ := open_intc g2
    refine ⟨[r0, r1, r2], fun j hj => ?_⟩
    match j, hj with
    | 0, _ => rfl
    | 1, _ => rfl
    | 2, _ => rfl
theorem row_chan (n : Nat) (cs : List Value) (y : DataW H × List MemPlace) (hlen : cs.length = 5) (h : DataW.trod enc Tryd.prog w b sp hd n 62 cs = some y) : RowIs 5 cs := by
  match cs, hlen with
  | [c0, c1, c2, c3, c4], _ =>
    obtain ⟨xs, n, _, _, _, hl, hg⟩ := DataW.trod_struct Tryd.underlying62 h
    have g0 : DataW.trod enc Tryd.prog w b sp hd n 3 (([c0, c1, c2, c3, c4].drop 0).take (Tryd.prog.cellsOf 3)) = xs[0]? := hg 0 _ rfl
    have g1 : DataW.trod enc Tryd.prog w b sp hd n 3 (([c0, c1, c2, c3, c4].drop 1).take (Tryd.prog.cellsOf 3)) = xs[1]? := hg 1 _ rfl
    have g2 : DataW.trod enc Tryd.prog w b sp hd n 3 (([c0, c1, c2, c3, c4].drop 2).take (Tryd.prog.cellsOf 3)) = xs[2]? := hg 2 _ rfl
    have g3 : DataW.trod enc Tryd.prog w b sp hd n 3 (([c0, c1, c2, c3, c4].drop 3).take (Tryd.prog.cellsOf 3)) = xs[3]? := hg 3 _ rfl
    have g4 : DataW.trod enc Tryd.prog w b sp hd n 3 (([c0, c1, c2, c3, c4].drop 4).take (Tryd.prog.cellsOf 3)) = xs[4]? := hg 4 _ rfl
    have hx : xs.length = 5 := hl
    rw [List.getElem?_eq_getElem (by omega), cells_int] at g0
    rw [List.getElem?_eq_getElem (by omega), cells_int] at g1
    rw [List.getElem?_eq_getElem (by omega), cells_int] at g2
    rw [List.getElem?_eq_getElem (by omega), cells_int] at g3
    rw [List.getElem?_eq_getElem (by omega), cells_int] at g4
    obtain ⟨r0, rfl, _⟩ := open_intc g0
    obtain ⟨r1, rfl, _⟩ := open_intc g1
    obtain ⟨r2, rfl, _⟩ := open_intc g2
    obtain ⟨r3, rfl, _⟩ := open_intc g3
    obtain ⟨r4, rfl, _⟩ := open_intc g4
    refine ⟨[r0, r1, r2, r3, r4], fun j hj => ?_⟩
    match j, hj with
    | 0, _ => rfl
    | 1, _ => rfl
    | 2, _ => rfl
    | 3, _ => rfl
    | 4, _ => rfl

theorem cells_part : Tryd.prog.cellsOf 45 = 4 := by kernel_rfl
theorem cells_win : Tryd.prog.cellsOf 47 = 3 := by kernel_rfl
theorem cells_chan : Tryd.prog.cellsOf 62 = 5 := by kernel_rfl
theorem cells_wins : Tryd.prog.cellsOf 48 = 1 := by kernel_rfl
theorem open_wins {fuel : Nat} {cs : List Value} {x : DataW H × List MemPlace} (h : DataW.trod enc Tryd.prog w b sp hd fuel 23 cs = some x) : ∃ v ws, cs = [v] ∧ WinsAt w v ws := by
  rcases open_slice1 Tryd.underlying23 cells_wins h with ⟨rfl, _⟩ | ⟨a, len, cap, m, n, V, D, P', rfl, _, hl, hm, hmm, _, hi⟩
  · exact ⟨_, [], rfl, none, 0, rfl, by simp, .inl rfl⟩
  · have hmax : Go.maxLen = 9223372036854775807 := rfl
    have hlm : len ≤ m := by rw [hmm]; split <;> omega
    have hall : ∀ i, i < len → ∃ l : List (List Int), w.cell? (a.add i) = some (V i) ∧ RowsAt w 3 (V i) l := fun i hil => by
      obtain ⟨hc, ht'⟩ := hi i (by omega)
      obtain ⟨v, l, hv, hl⟩ := open_rows Tryd.underlying48 cells_win (by omega) row_win ht'
      injection hv with hv
      exact ⟨l, hc, hv ▸ hl⟩
    obtain ⟨f, hf⟩ := choose_lt hall
    by_cases h0 : len = 0
    · subst h0
      exact ⟨_, [], rfl, some a, cap, rfl, by simp, .inl rfl⟩
    · have hc0 := (hf 0 (by omega)).1
      obtain ⟨b', off, spot⟩ := a
      have hspot : spot = none := by simpa [Addr.add] using World.cell?_spot hc0
      subst hspot
      refine ⟨_, (List.range len).map f, rfl, _, cap, by rw [List.length_map, List.length_range], by rw [List.length_map, List.length_range]; omega, .inr ⟨b', off, rfl, ?_, fun i hi => ?_⟩⟩
      · have := cell_lt hc0
        simpa [Addr.add] using this
      · rw [List.length_map, List.length_range] at hi
        have hadd : (⟨b', off, none⟩ : Addr).add i = ⟨b', off + i, none⟩ := by
          unfold Addr.add
          split
          · rename_i hz
            simp only [Addr.mk.injEq, and_true, true_and]
            omega
          · simp only [Addr.mk.injEq, and_true, true_and]
        have hfi := hf i hi
        rw [hadd] at hfi
        refine ⟨V i, hfi.1, ?_⟩
        rw [List.getD_eq_getElem?_getD, List.getElem?_map, List.getElem?_range hi]
        exact hfi.2
theorem cells_plan : Tryd.prog.cellsOf 26 = 4 := by kernel_rfl
set_option maxRecDepth 100000 in
theorem open_plan {v : Value} {d : DataW H} {p : List MemPlace} (hv : Value.okWide Tryd.prog w r base 26 v) (h : DataW.Trod enc Tryd.prog w b sp hd 26 v d p) :
    ∃ P : Pl.Plan, PlanAt w v P ∧ P.fr ≤ 9223372036854775807 := by
  obtain ⟨c0, c1, c2, c3, y0, y1, y2, y3, n, rfl, _, _, h0, h1, h2, h3⟩ := open_agg4 Tryd.underlying26 (by kernel_rfl) cells_plan hv h
  obtain ⟨v0, ps, hv0, hps⟩ := open_rows Tryd.underlying22 cells_part (by omega) row_part h0
  obtain ⟨fr, rfl, hw⟩ := open_intc h1
  obtain ⟨v2, ws, hv2, hws⟩ := open_wins h2
  obtain ⟨v3, cs, hv3, hcs⟩ := open_rows Tryd.underlying24 cells_chan (by omega) row_chan h3
  injection hv0 with hv0
  injection hv2 with hv2
  injection hv3 with hv3
  subst hv0 hv2 hv3
  exact ⟨⟨ps, fr, ws, cs⟩, ⟨_, _, _, rfl, hps, hws, hcs⟩, (i64_bounds hw).2⟩
end
end Go.Proofs.YtiggoojjefmcoaaDoor
