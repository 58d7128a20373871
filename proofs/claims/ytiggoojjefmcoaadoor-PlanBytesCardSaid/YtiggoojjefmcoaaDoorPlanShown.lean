/- The document's examples at the head of the laws of package plan. No condition. -/
import Derived.Test.YtiggoojjefmcoaaDoorPlanWalkE
import Derived.WalkKit
import Derived.WalkSpells
import Derived.WalkLawsBesides
import Derived.Lib.Hide
import Derived.BigQuiet
import Derived.Deep.QuietTactic

set_option linter.unusedVariables false
set_option linter.unusedSimpArgs false
namespace Go.Proofs.YtiggoojjefmcoaaDoor
open Go.RowKit
namespace Plan
theorem rows_lit {W : World} {sz b c : Nat} (l : List (List Int)) (hn : l.length ≤ 9223372036854775807) (hb : b < W.heap.size) (h : ∀ i j, i < l.length → j < sz → W.cell? ⟨b, i * sz + j, none⟩ = some (.int .i64 (Pl.g (l.getD i []) j))) : RowsAt W sz (.slice (some ⟨b, 0, none⟩) l.length c) l :=
  ⟨_, c, rfl, hn, .inr ⟨b, 0, rfl, hb, fun i j hi hj => by rw [Nat.zero_add]; exact h i j hi hj⟩⟩
theorem lit1 {W : World} {b0 b1 b2 : Nat} (h0 : b0 < W.heap.size) (h1 : b1 < W.heap.size) (h2 : b2 < W.heap.size)
    (c0 : W.cell? ⟨b0, 0, none⟩ = some (.int .i64 64)) (c1 : W.cell? ⟨b0, 1, none⟩ = some (.int .i64 1)) (c2 : W.cell? ⟨b0, 2, none⟩ = some (.int .i64 2)) (c3 : W.cell? ⟨b0, 3, none⟩ = some (.int .i64 3))
    (d0 : W.cell? ⟨b1, 0, none⟩ = some (.int .i64 0)) (d1 : W.cell? ⟨b1, 1, none⟩ = some (.int .i64 0)) (d2 : W.cell? ⟨b1, 2, none⟩ = some (.int .i64 10)) (e0 : W.cell? ⟨b2, 0, none⟩ = some (.slice (some ⟨b1, 0, none⟩) 1 1)) :
    PlanAt W (.agg #[.slice (some ⟨b0, 0, none⟩) 1 1, .int .i64 10, .slice (some ⟨b2, 0, none⟩) 1 1, .slice none 0 0]) ⟨[[64, 1, 2, 3]], 10, [[[0, 0, 10]]], []⟩ := by
  refine ⟨_, _, _, rfl, rows_lit [[64, 1, 2, 3]] (by decide) h0 fun i j hi hj => ?_, ⟨_, 1, rfl, by decide, .inr ⟨b2, 0, rfl, h2, fun i hi => ?_⟩⟩, ⟨none, 0, rfl, by decide, .inl rfl⟩⟩
  · obtain rfl : i = 0 := by simpa using hi
    obtain rfl | rfl | rfl | rfl : j = 0 ∨ j = 1 ∨ j = 2 ∨ j = 3 := by omega
    · exact c0
    · exact c1
    · exact c2
    · exact c3
  · obtain rfl : i = 0 := by simpa using hi
    refine ⟨_, e0, rows_lit [[0, 0, 10]] (by decide) h1 fun i j hi hj => ?_⟩
    obtain rfl : i = 0 := by simpa using hi
    obtain rfl | rfl | rfl : j = 0 ∨ j = 1 ∨ j = 2 := by omega
    · exact d0
    · exact d1
    · exact d2
theorem lit2 {W : World} {b0 b1 b2 : Nat} (h0 : b0 < W.heap.size) (h1 : b1 < W.heap.size) (h2 : b2 < W.heap.size)
    (c0 : W.cell? ⟨b0, 0, none⟩ = some (.int .i64 64)) (c1 : W.cell? ⟨b0, 1, none⟩ = some (.int .i64 1)) (c2 : W.cell? ⟨b0, 2, none⟩ = some (.int .i64 2)) (c3 : W.cell? ⟨b0, 3, none⟩ = some (.int .i64 3))
    (d0 : W.cell? ⟨b1, 0, none⟩ = some (.int .i64 0)) (d1 : W.cell? ⟨b1, 1, none⟩ = some (.int .i64 0)) (d2 : W.cell? ⟨b1, 2, none⟩ = some (.int .i64 6)) (d3 : W.cell? ⟨b1, 3, none⟩ = some (.int .i64 0)) (d4 : W.cell? ⟨b1, 4, none⟩ = some (.int .i64 5)) (d5 : W.cell? ⟨b1, 5, none⟩ = some (.int .i64 5))
    (e0 : W.cell? ⟨b2, 0, none⟩ = some (.slice (some ⟨b1, 0, none⟩) 2 2)) :
    PlanAt W (.agg #[.slice (some ⟨b0, 0, none⟩) 1 1, .int .i64 10, .slice (some ⟨b2, 0, none⟩) 1 1, .slice none 0 0]) ⟨[[64, 1, 2, 3]], 10, [[[0, 0, 6], [0, 5, 5]]], []⟩ := by
  refine ⟨_, _, _, rfl, rows_lit [[64, 1, 2, 3]] (by decide) h0 fun i j hi hj => ?_, ⟨_, 1, rfl, by decide, .inr ⟨b2, 0, rfl, h2, fun i hi => ?_⟩⟩, ⟨none, 0, rfl, by decide, .inl rfl⟩⟩
  · obtain rfl : i = 0 := by simpa using hi
    obtain rfl | rfl | rfl | rfl : j = 0 ∨ j = 1 ∨ j = 2 ∨ j = 3 := by omega
    · exact c0
    · exact c1
    · exact c2
    · exact c3
  · obtain rfl : i = 0 := by simpa using hi
    refine ⟨_, e0, rows_lit [[0, 0, 6], [0, 5, 5]] (by decide) h1 fun i j hi hj => ?_⟩
    have hi2 : i < 2 := hi
    obtain rfl | rfl : i = 0 ∨ i = 1 := by omega
    · obtain rfl | rfl | rfl : j = 0 ∨ j = 1 ∨ j = 2 := by omega
      · exact d0
      · exact d1
      · exact d2
    · obtain rfl | rfl | rfl : j = 0 ∨ j = 1 ∨ j = 2 := by omega
      · exact d3
      · exact d4
      · exact d5

set_option maxHeartbeats 4000000 in
set_option maxRecDepth 100000 in
theorem shown (w : World) : Calls Tryd.prog 6 #[] w (Gives (.bool true) w) := by
  go_enter Tryd.func6, Tryd.ntmps6
  repeat' (first | go_values | go_skip | go_guarded | (with_reducible (first | refine ex_then_ret ?_ | refine ex_then_exit ?_ | refine ex_then_normal ?_ | refine ex_block_ret ?_ | refine ex_block_normal ?_ | refine ex_block_same ?_ | refine ex_block_other (by decide) ?_)) | go_step | go_upon | go_quiet (fail))
  refine Calls.mono (Check _ _ _ (lit1 (b1 := w.heap.size + 1) ?s0 ?s1 ?s2 ?m0 ?m1 ?m2 ?m3 ?m4 ?m5 ?m6 ?m7) (by decide)) ?_
  case s0 => (first | (simp; done) | (simp; omega))
  case s1 => (first | (simp; done) | (simp; omega))
  case s2 => (first | (simp; done) | (simp; omega))
  case m0 => go_simp
  case m1 => go_simp
  case m2 => go_simp
  case m3 => go_simp
  case m4 => go_simp
  case m5 => go_simp
  case m6 => go_simp
  case m7 => go_simp
  rintro e w1 ⟨rfl, hb1⟩
  rw [show Pl.check ⟨[[64, 1, 2, 3]], 10, [[[0, 0, 10]]], []⟩ = 0 by decide +kernel]
  obtain ⟨hc1, hf1, hz1⟩ := bfacts hb1
  simp at hz1
  have y0 : w.heap.size < w1.heap.size := by omega
  have y1 : w.heap.size + 1 < w1.heap.size := by omega
  have y2 : w.heap.size + 1 + 1 < w1.heap.size := by omega
  have y3 : w.heap.size + 1 + 1 + 1 < w1.heap.size := by omega
  have y4 : w.heap.size + 1 + 1 + 1 + 1 < w1.heap.size := by omega
  have y5 : w.heap.size + 1 + 1 + 1 + 1 + 1 < w1.heap.size := by omega
  have y6 : w.heap.size + 1 + 1 + 1 + 1 + 1 + 1 < w1.heap.size := by omega
  dsimp only
  repeat' (first | go_values | go_skip | go_guarded | (with_reducible (first | refine ex_then_ret ?_ | refine ex_then_exit ?_ | refine ex_then_normal ?_ | refine ex_block_ret ?_ | refine ex_block_normal ?_ | refine ex_block_same ?_ | refine ex_block_other (by decide) ?_)) | go_step | go_upon | go_quiet (fail))
  refine Calls.mono (Check _ _ _ (lit2 (b1 := w.heap.size + 1 + 1 + 1 + 1 + 1) ?s3 ?s4 ?s5 ?n0 ?n1 ?n2 ?n3 ?n4 ?n5 ?n6 ?n7 ?n8 ?n9 ?n10) (by decide)) ?_
  case s3 => omega
  case s4 => omega
  case s5 => omega
  case n0 => go_simp
  case n1 => go_simp
  case n2 => go_simp
  case n3 => go_simp
  case n4 => go_simp
  case n5 => go_simp
  case n6 => go_simp
  case n7 => go_simp
  case n8 => go_simp
  case n9 => go_simp
  case n10 => go_simp
  rintro e w2 ⟨rfl, hb2⟩
  rw [show Pl.check ⟨[[64, 1, 2, 3]], 10, [[[0, 0, 6], [0, 5, 5]]], []⟩ = 9 by decide +kernel]
  dsimp only
  repeat' (first | go_values | go_skip | go_guarded | (with_reducible (first | refine ex_then_ret ?_ | refine ex_then_exit ?_ | refine ex_then_normal ?_ | refine ex_block_ret ?_ | refine ex_block_normal ?_ | refine ex_block_same ?_ | refine ex_block_other (by decide) ?_)) | go_step | go_upon | go_quiet (fail))
  all_goals go_ret
  all_goals exact gives_bool rfl (by repeat (with_reducible (first | exact Below.refl _ _ | assumption | refine Below.to ?_ (by assumption) | refine below_drewN ?_ _ | refine Below.alloc ?_ (by first | (simp; done) | omega | (simp; omega) | (simp at *; omega)) _ | refine Below.setCell ?_ (by first | (simp; done) | omega | (simp; omega) | (simp at *; omega)) _ | refine Below.drew ?_)))
end Plan
end Go.Proofs.YtiggoojjefmcoaaDoor
