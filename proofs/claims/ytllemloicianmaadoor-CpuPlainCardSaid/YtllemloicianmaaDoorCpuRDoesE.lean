/- transomref03.Does where it refuses. Condition: the registers are words. -/
import Derived.Test.YtllemloicianmaaDoorCpuRDoes0
import Derived.WalkKit
import Derived.WalkSpells
import Derived.WalkLawsBesides
import Derived.Lib.Hide
import Derived.BigQuiet
import Derived.Deep.QuietTactic

set_option linter.unusedVariables false
set_option linter.unusedSimpArgs false
namespace Go.Proofs.YtllemloicianmaaDoor
open Go.RowKit
namespace RDoes
variable (op a b i r0 r1 r2 r3 r4 r5 r6 r7 pc ra rb : Int) (w : World)
set_option maxHeartbeats 2000000 in
set_option maxRecDepth 100000 in
/-- what is refused, or is no work of this function: nothing is changed -/
theorem no (hT : Tab w) (hm : Hid (Cp.may op a b i = false)) :
    Calls Tryd.prog 14 #[.agg #[.int .u32 r0, .int .u32 r1, .int .u32 r2, .int .u32 r3, .int .u32 r4, .int .u32 r5, .int .u32 r6, .int .u32 r7, .int .u32 pc], .agg #[.int .i64 op, .int .i64 a, .int .i64 b, .int .i64 i]] w
      (Gives (.tuple #[.agg #[.int .u32 r0, .int .u32 r1, .int .u32 r2, .int .u32 r3, .int .u32 r4, .int .u32 r5, .int .u32 r6, .int .u32 r7, .int .u32 pc], .bool false]) w) := by
  have z02 : w.heap.size < w.heap.size + 1 + 1 := by omega
  have z03 : w.heap.size < w.heap.size + 1 + 1 + 1 := by omega
  have z13 : w.heap.size + 1 < w.heap.size + 1 + 1 + 1 := by omega
  go_enter Tryd.func14, Tryd.ntmps14
  repeat' (first | (go_at_call 21; refine Calls.mono (RMay.any _ _ _ _ _) ?_; rintro e w1 ⟨rfl, hb1⟩; rw [hm.out]; obtain ⟨hc1, hf1, hz1⟩ := bfacts hb1; simp at hz1; dsimp only) | go_values | go_skip | go_guarded | (with_reducible (first | refine ex_then_ret ?_ | refine ex_then_exit ?_ | refine ex_then_normal ?_ | refine ex_block_ret ?_ | refine ex_block_normal ?_ | refine ex_block_same ?_ | refine ex_block_other (by decide) ?_)) | go_step | go_upon)
  all_goals (apply bodyPost_ret; (simp only [results, Tryd.results14]; go_simp; exact rfl); rfl)
  all_goals exact gives_of rfl (by repeat (with_reducible (first | exact Below.refl _ _ | assumption | refine Below.to ?_ (by assumption) | refine below_drewN ?_ _ | refine Below.alloc ?_ (by first | (simp; done) | omega | (simp; omega) | (simp at *; omega)) _ | refine Below.setCell ?_ (by first | (simp; done) | omega | (simp; omega) | (simp at *; omega)) _ | refine Below.drew ?_)))

set_option maxHeartbeats 2000000 in
set_option maxRecDepth 100000 in
theorem stay14 (hT : Tab w) (h0 : 0 ≤ a) (h1 : a < 8) (h2 : 0 ≤ b) (h3 : b < 8) (hm : Hid (Cp.may 14 a b i = true))
   (ha : [Value.int .u32 r0, .int .u32 r1, .int .u32 r2, .int .u32 r3, .int .u32 r4, .int .u32 r5, .int .u32 r6, .int .u32 r7, .int .u32 pc][a.toNat]? = some (.int .u32 ra))
   (hb : [Value.int .u32 r0, .int .u32 r1, .int .u32 r2, .int .u32 r3, .int .u32 r4, .int .u32 r5, .int .u32 r6, .int .u32 r7, .int .u32 pc][b.toNat]? = some (.int .u32 rb)) :
    Calls Tryd.prog 14 #[.agg #[.int .u32 r0, .int .u32 r1, .int .u32 r2, .int .u32 r3, .int .u32 r4, .int .u32 r5, .int .u32 r6, .int .u32 r7, .int .u32 pc], .agg #[.int .i64 14, .int .i64 a, .int .i64 b, .int .i64 i]] w
      (Gives (.tuple #[.agg #[.int .u32 r0, .int .u32 r1, .int .u32 r2, .int .u32 r3, .int .u32 r4, .int .u32 r5, .int .u32 r6, .int .u32 r7, .int .u32 pc], .bool false]) w) := by
  have z02 : w.heap.size < w.heap.size + 1 + 1 := by omega
  have z03 : w.heap.size < w.heap.size + 1 + 1 + 1 := by omega
  have z13 : w.heap.size + 1 < w.heap.size + 1 + 1 + 1 := by omega
  go_enter Tryd.func14, Tryd.ntmps14
  repeat' (first | (go_at_call 21; refine Calls.mono (RMay.any _ _ _ _ _) ?_; rintro e w1 ⟨rfl, hb1⟩; rw [hm.out]; obtain ⟨hc1, hf1, hz1⟩ := bfacts hb1; simp at hz1; dsimp only) | go_values | go_skip | go_guarded | (with_reducible (first | refine ex_then_ret ?_ | refine ex_then_exit ?_ | refine ex_then_normal ?_ | refine ex_block_ret ?_ | refine ex_block_normal ?_ | refine ex_block_same ?_ | refine ex_block_other (by decide) ?_)) | go_step | go_upon)
  all_goals (apply bodyPost_ret; (simp only [results, Tryd.results14]; go_simp; exact rfl); rfl)
  all_goals exact gives_of (by simp) (by repeat (with_reducible (first | exact Below.refl _ _ | assumption | refine Below.to ?_ (by assumption) | refine below_drewN ?_ _ | refine Below.alloc ?_ (by first | (simp; done) | omega | (simp; omega) | (simp at *; omega)) _ | refine Below.setCell ?_ (by first | (simp; done) | omega | (simp; omega) | (simp at *; omega)) _ | refine Below.drew ?_)))
set_option maxHeartbeats 2000000 in
set_option maxRecDepth 100000 in
theorem stay15 (hT : Tab w) (h0 : 0 ≤ a) (h1 : a < 8) (h2 : 0 ≤ b) (h3 : b < 8) (hm : Hid (Cp.may 15 a b i = true))
   (ha : [Value.int .u32 r0, .int .u32 r1, .int .u32 r2, .int .u32 r3, .int .u32 r4, .int .u32 r5, .int .u32 r6, .int .u32 r7, .int .u32 pc][a.toNat]? = some (.int .u32 ra))
   (hb : [Value.int .u32 r0, .int .u32 r1, .int .u32 r2, .int .u32 r3, .int .u32 r4, .int .u32 r5, .int .u32 r6, .int .u32 r7, .int .u32 pc][b.toNat]? = some (.int .u32 rb)) :
    Calls Tryd.prog 14 #[.agg #[.int .u32 r0, .int .u32 r1, .int .u32 r2, .int .u32 r3, .int .u32 r4, .int .u32 r5, .int .u32 r6, .int .u32 r7, .int .u32 pc], .agg #[.int .i64 15, .int .i64 a, .int .i64 b, .int .i64 i]] w
      (Gives (.tuple #[.agg #[.int .u32 r0, .int .u32 r1, .int .u32 r2, .int .u32 r3, .int .u32 r4, .int .u32 r5, .int .u32 r6, .int .u32 r7, .int .u32 pc], .bool false]) w) := by
  have z02 : w.heap.size < w.heap.size + 1 + 1 := by omega
  have z03 : w.heap.size < w.heap.size + 1 + 1 + 1 := by omega
  have z13 : w.heap.size + 1 < w.heap.size + 1 + 1 + 1 := by omega
  go_enter Tryd.func14, Tryd.ntmps14
  repeat' (first | (go_at_call 21; refine Calls.mono (RMay.any _ _ _ _ _) ?_; rintro e w1 ⟨rfl, hb1⟩; rw [hm.out]; obtain ⟨hc1, hf1, hz1⟩ := bfacts hb1; simp at hz1; dsimp only) | go_values | go_skip | go_guarded | (with_reducible (first | refine ex_then_ret ?_ | refine ex_then_exit ?_ | refine ex_then_normal ?_ | refine ex_block_ret ?_ | refine ex_block_normal ?_ | refine ex_block_same ?_ | refine ex_block_other (by decide) ?_)) | go_step | go_upon)
  all_goals (apply bodyPost_ret; (simp only [results, Tryd.results14]; go_simp; exact rfl); rfl)
  all_goals exact gives_of (by simp) (by repeat (with_reducible (first | exact Below.refl _ _ | assumption | refine Below.to ?_ (by assumption) | refine below_drewN ?_ _ | refine Below.alloc ?_ (by first | (simp; done) | omega | (simp; omega) | (simp at *; omega)) _ | refine Below.setCell ?_ (by first | (simp; done) | omega | (simp; omega) | (simp at *; omega)) _ | refine Below.drew ?_)))
set_option maxHeartbeats 2000000 in
set_option maxRecDepth 100000 in
theorem stay16 (hT : Tab w) (h0 : 0 ≤ a) (h1 : a < 8) (h2 : 0 ≤ b) (h3 : b < 8) (hm : Hid (Cp.may 16 a b i = true))
   (ha : [Value.int .u32 r0, .int .u32 r1, .int .u32 r2, .int .u32 r3, .int .u32 r4, .int .u32 r5, .int .u32 r6, .int .u32 r7, .int .u32 pc][a.toNat]? = some (.int .u32 ra))
   (hb : [Value.int .u32 r0, .int .u32 r1, .int .u32 r2, .int .u32 r3, .int .u32 r4, .int .u32 r5, .int .u32 r6, .int .u32 r7, .int .u32 pc][b.toNat]? = some (.int .u32 rb)) :
    Calls Tryd.prog 14 #[.agg #[.int .u32 r0, .int .u32 r1, .int .u32 r2, .int .u32 r3, .int .u32 r4, .int .u32 r5, .int .u32 r6, .int .u32 r7, .int .u32 pc], .agg #[.int .i64 16, .int .i64 a, .int .i64 b, .int .i64 i]] w
      (Gives (.tuple #[.agg #[.int .u32 r0, .int .u32 r1, .int .u32 r2, .int .u32 r3, .int .u32 r4, .int .u32 r5, .int .u32 r6, .int .u32 r7, .int .u32 pc], .bool false]) w) := by
  have z02 : w.heap.size < w.heap.size + 1 + 1 := by omega
  have z03 : w.heap.size < w.heap.size + 1 + 1 + 1 := by omega
  have z13 : w.heap.size + 1 < w.heap.size + 1 + 1 + 1 := by omega
  go_enter Tryd.func14, Tryd.ntmps14
  repeat' (first | (go_at_call 21; refine Calls.mono (RMay.any _ _ _ _ _) ?_; rintro e w1 ⟨rfl, hb1⟩; rw [hm.out]; obtain ⟨hc1, hf1, hz1⟩ := bfacts hb1; simp at hz1; dsimp only) | go_values | go_skip | go_guarded | (with_reducible (first | refine ex_then_ret ?_ | refine ex_then_exit ?_ | refine ex_then_normal ?_ | refine ex_block_ret ?_ | refine ex_block_normal ?_ | refine ex_block_same ?_ | refine ex_block_other (by decide) ?_)) | go_step | go_upon)
  all_goals (apply bodyPost_ret; (simp only [results, Tryd.results14]; go_simp; exact rfl); rfl)
  all_goals exact gives_of (by simp) (by repeat (with_reducible (first | exact Below.refl _ _ | assumption | refine Below.to ?_ (by assumption) | refine below_drewN ?_ _ | refine Below.alloc ?_ (by first | (simp; done) | omega | (simp; omega) | (simp at *; omega)) _ | refine Below.setCell ?_ (by first | (simp; done) | omega | (simp; omega) | (simp at *; omega)) _ | refine Below.drew ?_)))
set_option maxHeartbeats 2000000 in
set_option maxRecDepth 100000 in
theorem stay17 (hT : Tab w) (h0 : 0 ≤ a) (h1 : a < 8) (h2 : 0 ≤ b) (h3 : b < 8) (hm : Hid (Cp.may 17 a b i = true))
   (ha : [Value.int .u32 r0, .int .u32 r1, .int .u32 r2, .int .u32 r3, .int .u32 r4, .int .u32 r5, .int .u32 r6, .int .u32 r7, .int .u32 pc][a.toNat]? = some (.int .u32 ra))
   (hb : [Value.int .u32 r0, .int .u32 r1, .int .u32 r2, .int .u32 r3, .int .u32 r4, .int .u32 r5, .int .u32 r6, .int .u32 r7, .int .u32 pc][b.toNat]? = some (.int .u32 rb)) :
    Calls Tryd.prog 14 #[.agg #[.int .u32 r0, .int .u32 r1, .int .u32 r2, .int .u32 r3, .int .u32 r4, .int .u32 r5, .int .u32 r6, .int .u32 r7, .int .u32 pc], .agg #[.int .i64 17, .int .i64 a, .int .i64 b, .int .i64 i]] w
      (Gives (.tuple #[.agg #[.int .u32 r0, .int .u32 r1, .int .u32 r2, .int .u32 r3, .int .u32 r4, .int .u32 r5, .int .u32 r6, .int .u32 r7, .int .u32 pc], .bool false]) w) := by
  have z02 : w.heap.size < w.heap.size + 1 + 1 := by omega
  have z03 : w.heap.size < w.heap.size + 1 + 1 + 1 := by omega
  have z13 : w.heap.size + 1 < w.heap.size + 1 + 1 + 1 := by omega
  go_enter Tryd.func14, Tryd.ntmps14
  repeat' (first | (go_at_call 21; refine Calls.mono (RMay.any _ _ _ _ _) ?_; rintro e w1 ⟨rfl, hb1⟩; rw [hm.out]; obtain ⟨hc1, hf1, hz1⟩ := bfacts hb1; simp at hz1; dsimp only) | go_values | go_skip | go_guarded | (with_reducible (first | refine ex_then_ret ?_ | refine ex_then_exit ?_ | refine ex_then_normal ?_ | refine ex_block_ret ?_ | refine ex_block_normal ?_ | refine ex_block_same ?_ | refine ex_block_other (by decide) ?_)) | go_step | go_upon)
  all_goals (apply bodyPost_ret; (simp only [results, Tryd.results14]; go_simp; exact rfl); rfl)
  all_goals exact gives_of (by simp) (by repeat (with_reducible (first | exact Below.refl _ _ | assumption | refine Below.to ?_ (by assumption) | refine below_drewN ?_ _ | refine Below.alloc ?_ (by first | (simp; done) | omega | (simp; omega) | (simp at *; omega)) _ | refine Below.setCell ?_ (by first | (simp; done) | omega | (simp; omega) | (simp at *; omega)) _ | refine Below.drew ?_)))
set_option maxHeartbeats 2000000 in
set_option maxRecDepth 100000 in
theorem stay24 (hT : Tab w) (h0 : 0 ≤ a) (h1 : a < 8) (h2 : 0 ≤ b) (h3 : b < 8) (hm : Hid (Cp.may 24 a b i = true))
   (ha : [Value.int .u32 r0, .int .u32 r1, .int .u32 r2, .int .u32 r3, .int .u32 r4, .int .u32 r5, .int .u32 r6, .int .u32 r7, .int .u32 pc][a.toNat]? = some (.int .u32 ra))
   (hb : [Value.int .u32 r0, .int .u32 r1, .int .u32 r2, .int .u32 r3, .int .u32 r4, .int .u32 r5, .int .u32 r6, .int .u32 r7, .int .u32 pc][b.toNat]? = some (.int .u32 rb)) :
    Calls Tryd.prog 14 #[.agg #[.int .u32 r0, .int .u32 r1, .int .u32 r2, .int .u32 r3, .int .u32 r4, .int .u32 r5, .int .u32 r6, .int .u32 r7, .int .u32 pc], .agg #[.int .i64 24, .int .i64 a, .int .i64 b, .int .i64 i]] w
      (Gives (.tuple #[.agg #[.int .u32 r0, .int .u32 r1, .int .u32 r2, .int .u32 r3, .int .u32 r4, .int .u32 r5, .int .u32 r6, .int .u32 r7, .int .u32 pc], .bool false]) w) := by
  have z02 : w.heap.size < w.heap.size + 1 + 1 := by omega
  have z03 : w.heap.size < w.heap.size + 1 + 1 + 1 := by omega
  have z13 : w.heap.size + 1 < w.heap.size + 1 + 1 + 1 := by omega
  go_enter Tryd.func14, Tryd.ntmps14
  repeat' (first | (go_at_call 21; refine Calls.mono (RMay.any _ _ _ _ _) ?_; rintro e w1 ⟨rfl, hb1⟩; rw [hm.out]; obtain ⟨hc1, hf1, hz1⟩ := bfacts hb1; simp at hz1; dsimp only) | go_values | go_skip | go_guarded | (with_reducible (first | refine ex_then_ret ?_ | refine ex_then_exit ?_ | refine ex_then_normal ?_ | refine ex_block_ret ?_ | refine ex_block_normal ?_ | refine ex_block_same ?_ | refine ex_block_other (by decide) ?_)) | go_step | go_upon)
  all_goals (apply bodyPost_ret; (simp only [results, Tryd.results14]; go_simp; exact rfl); rfl)
  all_goals exact gives_of (by simp) (by repeat (with_reducible (first | exact Below.refl _ _ | assumption | refine Below.to ?_ (by assumption) | refine below_drewN ?_ _ | refine Below.alloc ?_ (by first | (simp; done) | omega | (simp; omega) | (simp at *; omega)) _ | refine Below.setCell ?_ (by first | (simp; done) | omega | (simp; omega) | (simp at *; omega)) _ | refine Below.drew ?_)))

end RDoes
end Go.Proofs.YtllemloicianmaaDoor
