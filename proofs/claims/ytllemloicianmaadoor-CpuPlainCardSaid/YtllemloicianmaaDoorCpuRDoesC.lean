/- transomref03.Does at some operations. Condition: the registers are words. -/
import Derived.Test.YtllemloicianmaaDoorCpuRDoes0
import Derived.WalkKit
import Derived.WalkSpells
import Derived.WalkLawsBesides
import Derived.Lib.Hide
import Derived.BigQuiet
import Derived.Deep.QuietTactic

set_option linter.unusedVariables false
set_option linter.unusedSimpArgs false
namespace Go.Proofs.YtllemloicianmaaDoor
open Go.RowKit
namespace RDoes
variable (op a b i r0 r1 r2 r3 r4 r5 r6 r7 pc ra rb : Int) (w : World)
set_option maxHeartbeats 2000000 in
set_option maxRecDepth 100000 in
theorem jump18 (hT : Tab w) (h0 : 0 ≤ a) (h1 : a < 8) (h2 : 0 ≤ b) (h3 : b < 8) (hm : Hid (Cp.may 18 a b i = true)) (p0 : 0 ≤ ra) (p1 : ra < 4294967296) (p2 : 0 ≤ rb) (p3 : rb < 4294967296)
   (ha : [Value.int .u32 r0, .int .u32 r1, .int .u32 r2, .int .u32 r3, .int .u32 r4, .int .u32 r5, .int .u32 r6, .int .u32 r7, .int .u32 pc][a.toNat]? = some (.int .u32 ra))
   (hb : [Value.int .u32 r0, .int .u32 r1, .int .u32 r2, .int .u32 r3, .int .u32 r4, .int .u32 r5, .int .u32 r6, .int .u32 r7, .int .u32 pc][b.toNat]? = some (.int .u32 rb)) :
    Calls Tryd.prog 14 #[.agg #[.int .u32 r0, .int .u32 r1, .int .u32 r2, .int .u32 r3, .int .u32 r4, .int .u32 r5, .int .u32 r6, .int .u32 r7, .int .u32 pc], .agg #[.int .i64 18, .int .i64 a, .int .i64 b, .int .i64 i]] w
      (Gives (.tuple #[Cp.cpuV [r0, r1, r2, r3, r4, r5, r6, r7] (Cp.nxt 18 ra rb (i % 4294967296) pc), .bool true]) w) := by
  have z02 : w.heap.size < w.heap.size + 1 + 1 := by omega
  have z03 : w.heap.size < w.heap.size + 1 + 1 + 1 := by omega
  have z13 : w.heap.size + 1 < w.heap.size + 1 + 1 + 1 := by omega
  have ha' : [Value.int .u32 r0, .int .u32 r1, .int .u32 r2, .int .u32 r3, .int .u32 r4, .int .u32 r5, .int .u32 r6, .int .u32 r7, .int .u32 ((pc + 4) % 4294967296)][a.toNat]? = some (.int .u32 ra) := selL ha (by omega)
  go_enter Tryd.func14, Tryd.ntmps14
  repeat' (first | (go_at_call 21; refine Calls.mono (RMay.any _ _ _ _ _) ?_; rintro e w1 ⟨rfl, hb1⟩; rw [hm.out]; obtain ⟨hc1, hf1, hz1⟩ := bfacts hb1; simp at hz1; have y0 : w.heap.size < w1.heap.size := (by omega); have y1 : w.heap.size + 1 < w1.heap.size := (by omega); have y2 : w.heap.size + 1 + 1 < w1.heap.size := (by omega); dsimp only) | (go_at_call 23; refine (signed _ _ (by first | exact p0 | exact p2) (by first | exact p1 | exact p3)).mono ?_; rintro e w' ⟨rfl, rfl⟩; dsimp only) | go_values | go_skip | go_guarded | (with_reducible (first | refine ex_then_ret ?_ | refine ex_then_exit ?_ | refine ex_then_normal ?_ | refine ex_block_ret ?_ | refine ex_block_normal ?_ | refine ex_block_same ?_ | refine ex_block_other (by decide) ?_)) | go_step | go_upon)
  all_goals (apply bodyPost_ret; (simp only [results, Tryd.results14]; go_simp; exact rfl); rfl)
  all_goals refine gives_of (Cp.tup (cpu_keep ?_)) (by repeat (with_reducible (first | exact Below.refl _ _ | assumption | refine Below.to ?_ (by assumption) | refine below_drewN ?_ _ | refine Below.alloc ?_ (by first | (simp; done) | omega | (simp; omega) | (simp at *; omega)) _ | refine Below.setCell ?_ (by first | (simp; done) | omega | (simp; omega) | (simp at *; omega)) _ | refine Below.drew ?_)))
  all_goals (first | rfl | (simp [Cp.nxt]; omega) | (simp [Cp.nxt, *]; done))
set_option maxHeartbeats 2000000 in
set_option maxRecDepth 100000 in
theorem jump20 (hT : Tab w) (h0 : 0 ≤ a) (h1 : a < 8) (h2 : 0 ≤ b) (h3 : b < 8) (hm : Hid (Cp.may 20 a b i = true)) (p0 : 0 ≤ ra) (p1 : ra < 4294967296) (p2 : 0 ≤ rb) (p3 : rb < 4294967296)
   (ha : [Value.int .u32 r0, .int .u32 r1, .int .u32 r2, .int .u32 r3, .int .u32 r4, .int .u32 r5, .int .u32 r6, .int .u32 r7, .int .u32 pc][a.toNat]? = some (.int .u32 ra))
   (hb : [Value.int .u32 r0, .int .u32 r1, .int .u32 r2, .int .u32 r3, .int .u32 r4, .int .u32 r5, .int .u32 r6, .int .u32 r7, .int .u32 pc][b.toNat]? = some (.int .u32 rb)) :
    Calls Tryd.prog 14 #[.agg #[.int .u32 r0, .int .u32 r1, .int .u32 r2, .int .u32 r3, .int .u32 r4, .int .u32 r5, .int .u32 r6, .int .u32 r7, .int .u32 pc], .agg #[.int .i64 20, .int .i64 a, .int .i64 b, .int .i64 i]] w
      (Gives (.tuple #[Cp.cpuV [r0, r1, r2, r3, r4, r5, r6, r7] (Cp.nxt 20 ra rb (i % 4294967296) pc), .bool true]) w) := by
  have z02 : w.heap.size < w.heap.size + 1 + 1 := by omega
  have z03 : w.heap.size < w.heap.size + 1 + 1 + 1 := by omega
  have z13 : w.heap.size + 1 < w.heap.size + 1 + 1 + 1 := by omega
  have ha' : [Value.int .u32 r0, .int .u32 r1, .int .u32 r2, .int .u32 r3, .int .u32 r4, .int .u32 r5, .int .u32 r6, .int .u32 r7, .int .u32 ((pc + 4) % 4294967296)][a.toNat]? = some (.int .u32 ra) := selL ha (by omega)
  go_enter Tryd.func14, Tryd.ntmps14
  repeat' (first | (go_at_call 21; refine Calls.mono (RMay.any _ _ _ _ _) ?_; rintro e w1 ⟨rfl, hb1⟩; rw [hm.out]; obtain ⟨hc1, hf1, hz1⟩ := bfacts hb1; simp at hz1; have y0 : w.heap.size < w1.heap.size := (by omega); have y1 : w.heap.size + 1 < w1.heap.size := (by omega); have y2 : w.heap.size + 1 + 1 < w1.heap.size := (by omega); dsimp only) | (go_at_call 23; refine (signed _ _ (by first | exact p0 | exact p2) (by first | exact p1 | exact p3)).mono ?_; rintro e w' ⟨rfl, rfl⟩; dsimp only) | go_values | go_skip | go_guarded | (with_reducible (first | refine ex_then_ret ?_ | refine ex_then_exit ?_ | refine ex_then_normal ?_ | refine ex_block_ret ?_ | refine ex_block_normal ?_ | refine ex_block_same ?_ | refine ex_block_other (by decide) ?_)) | go_step | go_upon)
  all_goals (apply bodyPost_ret; (simp only [results, Tryd.results14]; go_simp; exact rfl); rfl)
  all_goals refine gives_of (Cp.tup (cpu_keep ?_)) (by repeat (with_reducible (first | exact Below.refl _ _ | assumption | refine Below.to ?_ (by assumption) | refine below_drewN ?_ _ | refine Below.alloc ?_ (by first | (simp; done) | omega | (simp; omega) | (simp at *; omega)) _ | refine Below.setCell ?_ (by first | (simp; done) | omega | (simp; omega) | (simp at *; omega)) _ | refine Below.drew ?_)))
  all_goals (first | rfl | (simp [Cp.nxt]; omega) | (simp [Cp.nxt, *]; done))
set_option maxHeartbeats 2000000 in
set_option maxRecDepth 100000 in
theorem jump21 (hT : Tab w) (h0 : 0 ≤ a) (h1 : a < 8) (h2 : 0 ≤ b) (h3 : b < 8) (hm : Hid (Cp.may 21 a b i = true)) (p0 : 0 ≤ ra) (p1 : ra < 4294967296) (p2 : 0 ≤ rb) (p3 : rb < 4294967296)
   (ha : [Value.int .u32 r0, .int .u32 r1, .int .u32 r2, .int .u32 r3, .int .u32 r4, .int .u32 r5, .int .u32 r6, .int .u32 r7, .int .u32 pc][a.toNat]? = some (.int .u32 ra))
   (hb : [Value.int .u32 r0, .int .u32 r1, .int .u32 r2, .int .u32 r3, .int .u32 r4, .int .u32 r5, .int .u32 r6, .int .u32 r7, .int .u32 pc][b.toNat]? = some (.int .u32 rb)) :
    Calls Tryd.prog 14 #[.agg #[.int .u32 r0, .int .u32 r1, .int .u32 r2, .int .u32 r3, .int .u32 r4, .int .u32 r5, .int .u32 r6, .int .u32 r7, .int .u32 pc], .agg #[.int .i64 21, .int .i64 a, .int .i64 b, .int .i64 i]] w
      (Gives (.tuple #[Cp.cpuV [r0, r1, r2, r3, r4, r5, r6, r7] (Cp.nxt 21 ra rb (i % 4294967296) pc), .bool true]) w) := by
  have z02 : w.heap.size < w.heap.size + 1 + 1 := by omega
  have z03 : w.heap.size < w.heap.size + 1 + 1 + 1 := by omega
  have z13 : w.heap.size + 1 < w.heap.size + 1 + 1 + 1 := by omega
  have ha' : [Value.int .u32 r0, .int .u32 r1, .int .u32 r2, .int .u32 r3, .int .u32 r4, .int .u32 r5, .int .u32 r6, .int .u32 r7, .int .u32 ((pc + 4) % 4294967296)][a.toNat]? = some (.int .u32 ra) := selL ha (by omega)
  go_enter Tryd.func14, Tryd.ntmps14
  repeat' (first | (go_at_call 21; refine Calls.mono (RMay.any _ _ _ _ _) ?_; rintro e w1 ⟨rfl, hb1⟩; rw [hm.out]; obtain ⟨hc1, hf1, hz1⟩ := bfacts hb1; simp at hz1; have y0 : w.heap.size < w1.heap.size := (by omega); have y1 : w.heap.size + 1 < w1.heap.size := (by omega); have y2 : w.heap.size + 1 + 1 < w1.heap.size := (by omega); dsimp only) | (go_at_call 23; refine (signed _ _ (by first | exact p0 | exact p2) (by first | exact p1 | exact p3)).mono ?_; rintro e w' ⟨rfl, rfl⟩; dsimp only) | go_values | go_skip | go_guarded | (with_reducible (first | refine ex_then_ret ?_ | refine ex_then_exit ?_ | refine ex_then_normal ?_ | refine ex_block_ret ?_ | refine ex_block_normal ?_ | refine ex_block_same ?_ | refine ex_block_other (by decide) ?_)) | go_step | go_upon)
  all_goals (apply bodyPost_ret; (simp only [results, Tryd.results14]; go_simp; exact rfl); rfl)
  all_goals refine gives_of (Cp.tup (cpu_keep ?_)) (by repeat (with_reducible (first | exact Below.refl _ _ | assumption | refine Below.to ?_ (by assumption) | refine below_drewN ?_ _ | refine Below.alloc ?_ (by first | (simp; done) | omega | (simp; omega) | (simp at *; omega)) _ | refine Below.setCell ?_ (by first | (simp; done) | omega | (simp; omega) | (simp at *; omega)) _ | refine Below.drew ?_)))
  all_goals (first | rfl | (simp [Cp.nxt]; omega) | (simp [Cp.nxt, *]; done))
set_option maxHeartbeats 2000000 in
set_option maxRecDepth 100000 in
theorem jump22 (hT : Tab w) (h0 : 0 ≤ a) (h1 : a < 8) (h2 : 0 ≤ b) (h3 : b < 8) (hm : Hid (Cp.may 22 a b i = true)) (p0 : 0 ≤ ra) (p1 : ra < 4294967296) (p2 : 0 ≤ rb) (p3 : rb < 4294967296)
   (ha : [Value.int .u32 r0, .int .u32 r1, .int .u32 r2, .int .u32 r3, .int .u32 r4, .int .u32 r5, .int .u32 r6, .int .u32 r7, .int .u32 pc][a.toNat]? = some (.int .u32 ra))
   (hb : [Value.int .u32 r0, .int .u32 r1, .int .u32 r2, .int .u32 r3, .int .u32 r4, .int .u32 r5, .int .u32 r6, .int .u32 r7, .int .u32 pc][b.toNat]? = some (.int .u32 rb)) :
    Calls Tryd.prog 14 #[.agg #[.int .u32 r0, .int .u32 r1, .int .u32 r2, .int .u32 r3, .int .u32 r4, .int .u32 r5, .int .u32 r6, .int .u32 r7, .int .u32 pc], .agg #[.int .i64 22, .int .i64 a, .int .i64 b, .int .i64 i]] w
      (Gives (.tuple #[Cp.cpuV [r0, r1, r2, r3, r4, r5, r6, r7] (Cp.nxt 22 ra rb (i % 4294967296) pc), .bool true]) w) := by
  have z02 : w.heap.size < w.heap.size + 1 + 1 := by omega
  have z03 : w.heap.size < w.heap.size + 1 + 1 + 1 := by omega
  have z13 : w.heap.size + 1 < w.heap.size + 1 + 1 + 1 := by omega
  have ha' : [Value.int .u32 r0, .int .u32 r1, .int .u32 r2, .int .u32 r3, .int .u32 r4, .int .u32 r5, .int .u32 r6, .int .u32 r7, .int .u32 ((pc + 4) % 4294967296)][a.toNat]? = some (.int .u32 ra) := selL ha (by omega)
  go_enter Tryd.func14, Tryd.ntmps14
  repeat' (first | (go_at_call 21; refine Calls.mono (RMay.any _ _ _ _ _) ?_; rintro e w1 ⟨rfl, hb1⟩; rw [hm.out]; obtain ⟨hc1, hf1, hz1⟩ := bfacts hb1; simp at hz1; have y0 : w.heap.size < w1.heap.size := (by omega); have y1 : w.heap.size + 1 < w1.heap.size := (by omega); have y2 : w.heap.size + 1 + 1 < w1.heap.size := (by omega); dsimp only) | (go_at_call 23; refine (signed _ _ (by first | exact p0 | exact p2) (by first | exact p1 | exact p3)).mono ?_; rintro e w' ⟨rfl, rfl⟩; dsimp only) | go_values | go_skip | go_guarded | (with_reducible (first | refine ex_then_ret ?_ | refine ex_then_exit ?_ | refine ex_then_normal ?_ | refine ex_block_ret ?_ | refine ex_block_normal ?_ | refine ex_block_same ?_ | refine ex_block_other (by decide) ?_)) | go_step | go_upon)
  all_goals (apply bodyPost_ret; (simp only [results, Tryd.results14]; go_simp; exact rfl); rfl)
  all_goals refine gives_of (Cp.tup (cpu_keep ?_)) (by repeat (with_reducible (first | exact Below.refl _ _ | assumption | refine Below.to ?_ (by assumption) | refine below_drewN ?_ _ | refine Below.alloc ?_ (by first | (simp; done) | omega | (simp; omega) | (simp at *; omega)) _ | refine Below.setCell ?_ (by first | (simp; done) | omega | (simp; omega) | (simp at *; omega)) _ | refine Below.drew ?_)))
  all_goals (first | rfl | (simp [Cp.nxt]; omega) | (simp [Cp.nxt, *]; done))
set_option maxHeartbeats 2000000 in
set_option maxRecDepth 100000 in
theorem jump23 (hT : Tab w) (h0 : 0 ≤ a) (h1 : a < 8) (h2 : 0 ≤ b) (h3 : b < 8) (hm : Hid (Cp.may 23 a b i = true)) (p0 : 0 ≤ ra) (p1 : ra < 4294967296) (p2 : 0 ≤ rb) (p3 : rb < 4294967296)
   (ha : [Value.int .u32 r0, .int .u32 r1, .int .u32 r2, .int .u32 r3, .int .u32 r4, .int .u32 r5, .int .u32 r6, .int .u32 r7, .int .u32 pc][a.toNat]? = some (.int .u32 ra))
   (hb : [Value.int .u32 r0, .int .u32 r1, .int .u32 r2, .int .u32 r3, .int .u32 r4, .int .u32 r5, .int .u32 r6, .int .u32 r7, .int .u32 pc][b.toNat]? = some (.int .u32 rb)) :
    Calls Tryd.prog 14 #[.agg #[.int .u32 r0, .int .u32 r1, .int .u32 r2, .int .u32 r3, .int .u32 r4, .int .u32 r5, .int .u32 r6, .int .u32 r7, .int .u32 pc], .agg #[.int .i64 23, .int .i64 a, .int .i64 b, .int .i64 i]] w
      (Gives (.tuple #[Cp.cpuV [r0, r1, r2, r3, r4, r5, r6, r7] (Cp.nxt 23 ra rb (i % 4294967296) pc), .bool true]) w) := by
  have z02 : w.heap.size < w.heap.size + 1 + 1 := by omega
  have z03 : w.heap.size < w.heap.size + 1 + 1 + 1 := by omega
  have z13 : w.heap.size + 1 < w.heap.size + 1 + 1 + 1 := by omega
  have ha' : [Value.int .u32 r0, .int .u32 r1, .int .u32 r2, .int .u32 r3, .int .u32 r4, .int .u32 r5, .int .u32 r6, .int .u32 r7, .int .u32 ((pc + 4) % 4294967296)][a.toNat]? = some (.int .u32 ra) := selL ha (by omega)
  go_enter Tryd.func14, Tryd.ntmps14
  repeat' (first | (go_at_call 21; refine Calls.mono (RMay.any _ _ _ _ _) ?_; rintro e w1 ⟨rfl, hb1⟩; rw [hm.out]; obtain ⟨hc1, hf1, hz1⟩ := bfacts hb1; simp at hz1; have y0 : w.heap.size < w1.heap.size := (by omega); have y1 : w.heap.size + 1 < w1.heap.size := (by omega); have y2 : w.heap.size + 1 + 1 < w1.heap.size := (by omega); dsimp only) | (go_at_call 23; refine (signed _ _ (by first | exact p0 | exact p2) (by first | exact p1 | exact p3)).mono ?_; rintro e w' ⟨rfl, rfl⟩; dsimp only) | go_values | go_skip | go_guarded | (with_reducible (first | refine ex_then_ret ?_ | refine ex_then_exit ?_ | refine ex_then_normal ?_ | refine ex_block_ret ?_ | refine ex_block_normal ?_ | refine ex_block_same ?_ | refine ex_block_other (by decide) ?_)) | go_step | go_upon)
  all_goals (apply bodyPost_ret; (simp only [results, Tryd.results14]; go_simp; exact rfl); rfl)
  all_goals refine gives_of (Cp.tup (cpu_keep ?_)) (by repeat (with_reducible (first | exact Below.refl _ _ | assumption | refine Below.to ?_ (by assumption) | refine below_drewN ?_ _ | refine Below.alloc ?_ (by first | (simp; done) | omega | (simp; omega) | (simp at *; omega)) _ | refine Below.setCell ?_ (by first | (simp; done) | omega | (simp; omega) | (simp at *; omega)) _ | refine Below.drew ?_)))
  all_goals (first | rfl | (simp [Cp.nxt]; omega) | (simp [Cp.nxt, *]; done))
end RDoes
end Go.Proofs.YtllemloicianmaaDoor
