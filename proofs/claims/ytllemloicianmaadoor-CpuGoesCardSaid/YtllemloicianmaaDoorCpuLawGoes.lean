/- The walks of the laws CpuGoes and CpuUndoes: they answer true. Condition: the registers are words, the table of the uses lies. -/
import Derived.Test.YtllemloicianmaaDoorCpuGoesPlain
import Derived.Test.YtllemloicianmaaDoorCpuArr
import Derived.WalkKit
import Derived.WalkSpells
import Derived.WalkLawsBesides
import Derived.Lib.Hide
import Derived.BigQuiet
import Derived.Deep.QuietTactic

set_option linter.unusedVariables false
set_option linter.unusedSimpArgs false
namespace Go.Proofs.YtllemloicianmaaDoor
open Go.RowKit

namespace LawGoes
variable (r0 r1 r2 r3 r4 r5 r6 r7 pc op a b i : Int) (w : World)
set_option maxHeartbeats 2000000 in
set_option maxRecDepth 100000 in
theorem no (hw : Words [r0, r1, r2, r3, r4, r5, r6, r7]) (hB : Cp.doesB op a b i = false) (hT : Tab w) :
    Calls Tryd.prog 4 #[.agg #[.int .u32 r0, .int .u32 r1, .int .u32 r2, .int .u32 r3, .int .u32 r4, .int .u32 r5, .int .u32 r6, .int .u32 r7, .int .u32 pc], .agg #[.int .i64 op, .int .i64 a, .int .i64 b, .int .i64 i]] w (Gives (.bool true) w) := by
  have H1 := Lib.hid (Does_ex (pc := pc) hw (doesB_no hB).1 (doesB_no hB).2 hB)
  clear hB
  have hA := arr_regs
  have z02 : w.heap.size < w.heap.size + 1 + 1 := by omega
  go_enter Tryd.func4, Tryd.ntmps4
  repeat' (first | go_values | go_skip | go_guarded | (with_reducible (first | refine ex_then_ret ?_ | refine ex_then_exit ?_ | refine ex_then_normal ?_ | refine ex_block_ret ?_ | refine ex_block_normal ?_ | refine ex_block_same ?_ | refine ex_block_other (by decide) ?_)) | go_step | go_upon)
  refine Calls.mono (LawDoes.shown _ ?_) ?_
  · exact hT.below (by repeat (with_reducible (first | exact Below.refl _ _ | assumption | refine Below.to ?_ (by assumption) | refine below_drewN ?_ _ | refine Below.alloc ?_ (by first | (simp; done) | omega | (simp; omega) | (simp at *; omega)) _ | refine Below.setCell ?_ (by first | (simp; done) | omega | (simp; omega) | (simp at *; omega)) _ | refine Below.drew ?_)))
  rintro e w1 ⟨rfl, hb1⟩
  obtain ⟨hc1, hf1, hz1⟩ := bfacts hb1
  try simp at hz1
  have y0 : w.heap.size < w1.heap.size := by omega
  try (have y1 : w.heap.size + 1 < w1.heap.size := by omega)
  dsimp only
  repeat' (first | go_values | go_skip | go_guarded | (with_reducible (first | refine ex_then_ret ?_ | refine ex_then_exit ?_ | refine ex_then_normal ?_ | refine ex_block_ret ?_ | refine ex_block_normal ?_ | refine ex_block_same ?_ | refine ex_block_other (by decide) ?_)) | go_step | go_upon)
  refine Calls.mono (H1.out _ ?_) ?_
  · exact hT.below (by repeat (with_reducible (first | exact Below.refl _ _ | assumption | refine Below.to ?_ (by assumption) | refine below_drewN ?_ _ | refine Below.alloc ?_ (by first | (simp; done) | omega | (simp; omega) | (simp at *; omega)) _ | refine Below.setCell ?_ (by first | (simp; done) | omega | (simp; omega) | (simp at *; omega)) _ | refine Below.drew ?_)))
  rintro e v1 ⟨rfl, gb1⟩
  obtain ⟨gc1, gf1, gz1⟩ := bfacts gb1
  try simp at gz1
  clear H1
  have x1 : w.heap.size < v1.heap.size := by omega
  try (have x1' : w.heap.size + 1 < v1.heap.size := by omega)
  dsimp only
  repeat' (first | go_values | go_skip | go_guarded | (with_reducible (first | refine ex_then_ret ?_ | refine ex_then_exit ?_ | refine ex_then_normal ?_ | refine ex_block_ret ?_ | refine ex_block_normal ?_ | refine ex_block_same ?_ | refine ex_block_other (by decide) ?_)) | go_step | go_upon)
  all_goals go_ret
  all_goals exact gives_of (by simp) (by repeat (with_reducible (first | exact Below.refl _ _ | assumption | refine Below.to ?_ (by assumption) | refine below_drewN ?_ _ | refine Below.alloc ?_ (by first | (simp; done) | omega | (simp; omega) | (simp at *; omega)) _ | refine Below.setCell ?_ (by first | (simp; done) | omega | (simp; omega) | (simp at *; omega)) _ | refine Below.drew ?_)))

set_option maxHeartbeats 2000000 in
set_option maxRecDepth 100000 in
theorem jump18 (hw : Words [r0, r1, r2, r3, r4, r5, r6, r7]) (hB : Cp.doesB 18 a b i = true) (hT : Tab w) :
    Calls Tryd.prog 4 #[.agg #[.int .u32 r0, .int .u32 r1, .int .u32 r2, .int .u32 r3, .int .u32 r4, .int .u32 r5, .int .u32 r6, .int .u32 r7, .int .u32 pc], .agg #[.int .i64 18, .int .i64 a, .int .i64 b, .int .i64 i]] w (Gives (.bool true) w) := by
  obtain ⟨s0, s1, s2, s3, s4, s5, s6, s7, hs, _⟩ := cpuV_ex 0 (doesR_len (pc := pc) (op := 18) (a := a) (b := b) (i := i) hw.1)
  have hp : Cp.doesP [r0, r1, r2, r3, r4, r5, r6, r7] pc 18 a b i = (pc + 4 * (i % 4294967296)) % 4294967296 := by
    rw [doesP_yes hB]; simp [Cp.nxt]
  have H1 := Lib.hid (Does_ex (pc := pc) hw hs hp hB)
  clear hB hp hs
  have hA := arr_regs
  have z02 : w.heap.size < w.heap.size + 1 + 1 := by omega
  go_enter Tryd.func4, Tryd.ntmps4
  repeat' (first | go_values | go_skip | go_guarded | (with_reducible (first | refine ex_then_ret ?_ | refine ex_then_exit ?_ | refine ex_then_normal ?_ | refine ex_block_ret ?_ | refine ex_block_normal ?_ | refine ex_block_same ?_ | refine ex_block_other (by decide) ?_)) | go_step | go_upon)
  refine Calls.mono (LawDoes.shown _ ?_) ?_
  · exact hT.below (by repeat (with_reducible (first | exact Below.refl _ _ | assumption | refine Below.to ?_ (by assumption) | refine below_drewN ?_ _ | refine Below.alloc ?_ (by first | (simp; done) | omega | (simp; omega) | (simp at *; omega)) _ | refine Below.setCell ?_ (by first | (simp; done) | omega | (simp; omega) | (simp at *; omega)) _ | refine Below.drew ?_)))
  rintro e w1 ⟨rfl, hb1⟩
  obtain ⟨hc1, hf1, hz1⟩ := bfacts hb1
  try simp at hz1
  have y0 : w.heap.size < w1.heap.size := by omega
  try (have y1 : w.heap.size + 1 < w1.heap.size := by omega)
  dsimp only
  repeat' (first | go_values | go_skip | go_guarded | (with_reducible (first | refine ex_then_ret ?_ | refine ex_then_exit ?_ | refine ex_then_normal ?_ | refine ex_block_ret ?_ | refine ex_block_normal ?_ | refine ex_block_same ?_ | refine ex_block_other (by decide) ?_)) | go_step | go_upon)
  refine Calls.mono (H1.out _ ?_) ?_
  · exact hT.below (by repeat (with_reducible (first | exact Below.refl _ _ | assumption | refine Below.to ?_ (by assumption) | refine below_drewN ?_ _ | refine Below.alloc ?_ (by first | (simp; done) | omega | (simp; omega) | (simp at *; omega)) _ | refine Below.setCell ?_ (by first | (simp; done) | omega | (simp; omega) | (simp at *; omega)) _ | refine Below.drew ?_)))
  rintro e v1 ⟨rfl, gb1⟩
  obtain ⟨gc1, gf1, gz1⟩ := bfacts gb1
  try simp at gz1
  clear H1
  have x1 : w.heap.size < v1.heap.size := by omega
  try (have x1' : w.heap.size + 1 < v1.heap.size := by omega)
  dsimp only
  repeat' (first | go_values | go_skip | go_guarded | (with_reducible (first | refine ex_then_ret ?_ | refine ex_then_exit ?_ | refine ex_then_normal ?_ | refine ex_block_ret ?_ | refine ex_block_normal ?_ | refine ex_block_same ?_ | refine ex_block_other (by decide) ?_)) | go_step | go_upon)
  all_goals go_ret
  all_goals refine gives_bool ?_ (by repeat (with_reducible (first | exact Below.refl _ _ | assumption | refine Below.to ?_ (by assumption) | refine below_drewN ?_ _ | refine Below.alloc ?_ (by first | (simp; done) | omega | (simp; omega) | (simp at *; omega)) _ | refine Below.setCell ?_ (by first | (simp; done) | omega | (simp; omega) | (simp at *; omega)) _ | refine Below.drew ?_)))
  all_goals (first | rfl | (simp; done) | (simp; omega))
set_option maxHeartbeats 2000000 in
set_option maxRecDepth 100000 in
theorem jump19 (hw : Words [r0, r1, r2, r3, r4, r5, r6, r7]) (hB : Cp.doesB 19 a b i = true) (hT : Tab w) :
    Calls Tryd.prog 4 #[.agg #[.int .u32 r0, .int .u32 r1, .int .u32 r2, .int .u32 r3, .int .u32 r4, .int .u32 r5, .int .u32 r6, .int .u32 r7, .int .u32 pc], .agg #[.int .i64 19, .int .i64 a, .int .i64 b, .int .i64 i]] w (Gives (.bool true) w) := by
  obtain ⟨s0, s1, s2, s3, s4, s5, s6, s7, hs, _⟩ := cpuV_ex 0 (doesR_len (pc := pc) (op := 19) (a := a) (b := b) (i := i) hw.1)
  have hp : Cp.doesP [r0, r1, r2, r3, r4, r5, r6, r7] pc 19 a b i = (pc + 4 * (i % 4294967296)) % 4294967296 := by
    rw [doesP_yes hB]; simp [Cp.nxt]
  have H1 := Lib.hid (Does_ex (pc := pc) hw hs hp hB)
  clear hB hp hs
  have hA := arr_regs
  have z02 : w.heap.size < w.heap.size + 1 + 1 := by omega
  go_enter Tryd.func4, Tryd.ntmps4
  repeat' (first | go_values | go_skip | go_guarded | (with_reducible (first | refine ex_then_ret ?_ | refine ex_then_exit ?_ | refine ex_then_normal ?_ | refine ex_block_ret ?_ | refine ex_block_normal ?_ | refine ex_block_same ?_ | refine ex_block_other (by decide) ?_)) | go_step | go_upon)
  refine Calls.mono (LawDoes.shown _ ?_) ?_
  · exact hT.below (by repeat (with_reducible (first | exact Below.refl _ _ | assumption | refine Below.to ?_ (by assumption) | refine below_drewN ?_ _ | refine Below.alloc ?_ (by first | (simp; done) | omega | (simp; omega) | (simp at *; omega)) _ | refine Below.setCell ?_ (by first | (simp; done) | omega | (simp; omega) | (simp at *; omega)) _ | refine Below.drew ?_)))
  rintro e w1 ⟨rfl, hb1⟩
  obtain ⟨hc1, hf1, hz1⟩ := bfacts hb1
  try simp at hz1
  have y0 : w.heap.size < w1.heap.size := by omega
  try (have y1 : w.heap.size + 1 < w1.heap.size := by omega)
  dsimp only
  repeat' (first | go_values | go_skip | go_guarded | (with_reducible (first | refine ex_then_ret ?_ | refine ex_then_exit ?_ | refine ex_then_normal ?_ | refine ex_block_ret ?_ | refine ex_block_normal ?_ | refine ex_block_same ?_ | refine ex_block_other (by decide) ?_)) | go_step | go_upon)
  refine Calls.mono (H1.out _ ?_) ?_
  · exact hT.below (by repeat (with_reducible (first | exact Below.refl _ _ | assumption | refine Below.to ?_ (by assumption) | refine below_drewN ?_ _ | refine Below.alloc ?_ (by first | (simp; done) | omega | (simp; omega) | (simp at *; omega)) _ | refine Below.setCell ?_ (by first | (simp; done) | omega | (simp; omega) | (simp at *; omega)) _ | refine Below.drew ?_)))
  rintro e v1 ⟨rfl, gb1⟩
  obtain ⟨gc1, gf1, gz1⟩ := bfacts gb1
  try simp at gz1
  clear H1
  have x1 : w.heap.size < v1.heap.size := by omega
  try (have x1' : w.heap.size + 1 < v1.heap.size := by omega)
  dsimp only
  repeat' (first | go_values | go_skip | go_guarded | (with_reducible (first | refine ex_then_ret ?_ | refine ex_then_exit ?_ | refine ex_then_normal ?_ | refine ex_block_ret ?_ | refine ex_block_normal ?_ | refine ex_block_same ?_ | refine ex_block_other (by decide) ?_)) | go_step | go_upon)
  all_goals go_ret
  all_goals refine gives_bool ?_ (by repeat (with_reducible (first | exact Below.refl _ _ | assumption | refine Below.to ?_ (by assumption) | refine below_drewN ?_ _ | refine Below.alloc ?_ (by first | (simp; done) | omega | (simp; omega) | (simp at *; omega)) _ | refine Below.setCell ?_ (by first | (simp; done) | omega | (simp; omega) | (simp at *; omega)) _ | refine Below.drew ?_)))
  all_goals (first | rfl | (simp; done) | (simp; omega))

set_option maxHeartbeats 2000000 in
set_option maxRecDepth 100000 in
theorem reg20 (x : Int) (ha : [Value.int .u32 r0, .int .u32 r1, .int .u32 r2, .int .u32 r3, .int .u32 r4, .int .u32 r5, .int .u32 r6, .int .u32 r7, .int .u32 pc][a.toNat]? = some (.int .u32 x))
   (ha0 : 0 ≤ a) (ha8 : a < 8) (hw : Words [r0, r1, r2, r3, r4, r5, r6, r7]) (hB : Cp.doesB 20 a b i = true) (hx : [r0, r1, r2, r3, r4, r5, r6, r7].getD a.toNat 0 = x) (hT : Tab w) :
    Calls Tryd.prog 4 #[.agg #[.int .u32 r0, .int .u32 r1, .int .u32 r2, .int .u32 r3, .int .u32 r4, .int .u32 r5, .int .u32 r6, .int .u32 r7, .int .u32 pc], .agg #[.int .i64 20, .int .i64 a, .int .i64 b, .int .i64 i]] w (Gives (.bool true) w) := by
  have hp : Cp.doesP [r0, r1, r2, r3, r4, r5, r6, r7] pc 20 a b i = x := by
    rw [doesP_yes hB, hx]; simp [Cp.nxt]
  have H1 := Lib.hid (Does_ex (pc := pc) hw (doesR_jump hw.1 hB (by omega)) hp hB)
  clear hB hp hx
  have hA := arr_regs
  have z02 : w.heap.size < w.heap.size + 1 + 1 := by omega
  go_enter Tryd.func4, Tryd.ntmps4
  repeat' (first | go_values | go_skip | go_guarded | (with_reducible (first | refine ex_then_ret ?_ | refine ex_then_exit ?_ | refine ex_then_normal ?_ | refine ex_block_ret ?_ | refine ex_block_normal ?_ | refine ex_block_same ?_ | refine ex_block_other (by decide) ?_)) | go_step | go_upon)
  refine Calls.mono (LawDoes.shown _ ?_) ?_
  · exact hT.below (by repeat (with_reducible (first | exact Below.refl _ _ | assumption | refine Below.to ?_ (by assumption) | refine below_drewN ?_ _ | refine Below.alloc ?_ (by first | (simp; done) | omega | (simp; omega) | (simp at *; omega)) _ | refine Below.setCell ?_ (by first | (simp; done) | omega | (simp; omega) | (simp at *; omega)) _ | refine Below.drew ?_)))
  rintro e w1 ⟨rfl, hb1⟩
  obtain ⟨hc1, hf1, hz1⟩ := bfacts hb1
  try simp at hz1
  have y0 : w.heap.size < w1.heap.size := by omega
  try (have y1 : w.heap.size + 1 < w1.heap.size := by omega)
  dsimp only
  repeat' (first | go_values | go_skip | go_guarded | (with_reducible (first | refine ex_then_ret ?_ | refine ex_then_exit ?_ | refine ex_then_normal ?_ | refine ex_block_ret ?_ | refine ex_block_normal ?_ | refine ex_block_same ?_ | refine ex_block_other (by decide) ?_)) | go_step | go_upon)
  refine Calls.mono (H1.out _ ?_) ?_
  · exact hT.below (by repeat (with_reducible (first | exact Below.refl _ _ | assumption | refine Below.to ?_ (by assumption) | refine below_drewN ?_ _ | refine Below.alloc ?_ (by first | (simp; done) | omega | (simp; omega) | (simp at *; omega)) _ | refine Below.setCell ?_ (by first | (simp; done) | omega | (simp; omega) | (simp at *; omega)) _ | refine Below.drew ?_)))
  rintro e v1 ⟨rfl, gb1⟩
  obtain ⟨gc1, gf1, gz1⟩ := bfacts gb1
  try simp at gz1
  clear H1
  have x1 : w.heap.size < v1.heap.size := by omega
  try (have x1' : w.heap.size + 1 < v1.heap.size := by omega)
  dsimp only
  repeat' (first | go_values | go_skip | go_guarded | (with_reducible (first | refine ex_then_ret ?_ | refine ex_then_exit ?_ | refine ex_then_normal ?_ | refine ex_block_ret ?_ | refine ex_block_normal ?_ | refine ex_block_same ?_ | refine ex_block_other (by decide) ?_)) | go_step | go_upon)
  go_quiet (fail)
  repeat' (first | go_values | go_skip | go_guarded | (with_reducible (first | refine ex_then_ret ?_ | refine ex_then_exit ?_ | refine ex_then_normal ?_ | refine ex_block_ret ?_ | refine ex_block_normal ?_ | refine ex_block_same ?_ | refine ex_block_other (by decide) ?_)) | go_step | go_upon)
  all_goals go_ret
  all_goals refine gives_bool ?_ (by repeat (with_reducible (first | exact Below.refl _ _ | assumption | refine Below.to ?_ (by assumption) | refine below_drewN ?_ _ | refine Below.alloc ?_ (by first | (simp; done) | omega | (simp; omega) | (simp at *; omega)) _ | refine Below.setCell ?_ (by first | (simp; done) | omega | (simp; omega) | (simp at *; omega)) _ | refine Below.drew ?_)))
  all_goals (first | rfl | (simp; done) | (simp; omega))

set_option maxHeartbeats 2000000 in
set_option maxRecDepth 100000 in
theorem far21 (hw : Words [r0, r1, r2, r3, r4, r5, r6, r7]) (hB : Cp.doesB 21 a b i = true) (hp : Cp.doesP [r0, r1, r2, r3, r4, r5, r6, r7] pc 21 a b i = (pc + 4 * (i % 4294967296)) % 4294967296) (hT : Tab w) :
    Calls Tryd.prog 4 #[.agg #[.int .u32 r0, .int .u32 r1, .int .u32 r2, .int .u32 r3, .int .u32 r4, .int .u32 r5, .int .u32 r6, .int .u32 r7, .int .u32 pc], .agg #[.int .i64 21, .int .i64 a, .int .i64 b, .int .i64 i]] w (Gives (.bool true) w) := by
  have H1 := Lib.hid (Does_ex (pc := pc) hw (doesR_jump hw.1 hB (by omega)) hp hB)
  clear hB hp
  have hA := arr_regs
  have z02 : w.heap.size < w.heap.size + 1 + 1 := by omega
  go_enter Tryd.func4, Tryd.ntmps4
  repeat' (first | go_values | go_skip | go_guarded | (with_reducible (first | refine ex_then_ret ?_ | refine ex_then_exit ?_ | refine ex_then_normal ?_ | refine ex_block_ret ?_ | refine ex_block_normal ?_ | refine ex_block_same ?_ | refine ex_block_other (by decide) ?_)) | go_step | go_upon)
  refine Calls.mono (LawDoes.shown _ ?_) ?_
  · exact hT.below (by repeat (with_reducible (first | exact Below.refl _ _ | assumption | refine Below.to ?_ (by assumption) | refine below_drewN ?_ _ | refine Below.alloc ?_ (by first | (simp; done) | omega | (simp; omega) | (simp at *; omega)) _ | refine Below.setCell ?_ (by first | (simp; done) | omega | (simp; omega) | (simp at *; omega)) _ | refine Below.drew ?_)))
  rintro e w1 ⟨rfl, hb1⟩
  obtain ⟨hc1, hf1, hz1⟩ := bfacts hb1
  try simp at hz1
  have y0 : w.heap.size < w1.heap.size := by omega
  try (have y1 : w.heap.size + 1 < w1.heap.size := by omega)
  dsimp only
  repeat' (first | go_values | go_skip | go_guarded | (with_reducible (first | refine ex_then_ret ?_ | refine ex_then_exit ?_ | refine ex_then_normal ?_ | refine ex_block_ret ?_ | refine ex_block_normal ?_ | refine ex_block_same ?_ | refine ex_block_other (by decide) ?_)) | go_step | go_upon)
  refine Calls.mono (H1.out _ ?_) ?_
  · exact hT.below (by repeat (with_reducible (first | exact Below.refl _ _ | assumption | refine Below.to ?_ (by assumption) | refine below_drewN ?_ _ | refine Below.alloc ?_ (by first | (simp; done) | omega | (simp; omega) | (simp at *; omega)) _ | refine Below.setCell ?_ (by first | (simp; done) | omega | (simp; omega) | (simp at *; omega)) _ | refine Below.drew ?_)))
  rintro e v1 ⟨rfl, gb1⟩
  obtain ⟨gc1, gf1, gz1⟩ := bfacts gb1
  try simp at gz1
  clear H1
  have x1 : w.heap.size < v1.heap.size := by omega
  try (have x1' : w.heap.size + 1 < v1.heap.size := by omega)
  dsimp only
  repeat' (first | go_values | go_skip | go_guarded | (with_reducible (first | refine ex_then_ret ?_ | refine ex_then_exit ?_ | refine ex_then_normal ?_ | refine ex_block_ret ?_ | refine ex_block_normal ?_ | refine ex_block_same ?_ | refine ex_block_other (by decide) ?_)) | go_step | go_upon)
  all_goals go_ret
  all_goals refine gives_bool ?_ (by repeat (with_reducible (first | exact Below.refl _ _ | assumption | refine Below.to ?_ (by assumption) | refine below_drewN ?_ _ | refine Below.alloc ?_ (by first | (simp; done) | omega | (simp; omega) | (simp at *; omega)) _ | refine Below.setCell ?_ (by first | (simp; done) | omega | (simp; omega) | (simp at *; omega)) _ | refine Below.drew ?_)))
  all_goals (first | rfl | (simp; done) | (simp; omega) | (simp at *; omega))
set_option maxHeartbeats 2000000 in
set_option maxRecDepth 100000 in
theorem near21 (hw : Words [r0, r1, r2, r3, r4, r5, r6, r7]) (hB : Cp.doesB 21 a b i = true) (hp : Cp.doesP [r0, r1, r2, r3, r4, r5, r6, r7] pc 21 a b i = (pc + 4) % 4294967296) (hT : Tab w) :
    Calls Tryd.prog 4 #[.agg #[.int .u32 r0, .int .u32 r1, .int .u32 r2, .int .u32 r3, .int .u32 r4, .int .u32 r5, .int .u32 r6, .int .u32 r7, .int .u32 pc], .agg #[.int .i64 21, .int .i64 a, .int .i64 b, .int .i64 i]] w (Gives (.bool true) w) := by
  have H1 := Lib.hid (Does_ex (pc := pc) hw (doesR_jump hw.1 hB (by omega)) hp hB)
  clear hB hp
  have hA := arr_regs
  have z02 : w.heap.size < w.heap.size + 1 + 1 := by omega
  go_enter Tryd.func4, Tryd.ntmps4
  repeat' (first | go_values | go_skip | go_guarded | (with_reducible (first | refine ex_then_ret ?_ | refine ex_then_exit ?_ | refine ex_then_normal ?_ | refine ex_block_ret ?_ | refine ex_block_normal ?_ | refine ex_block_same ?_ | refine ex_block_other (by decide) ?_)) | go_step | go_upon)
  refine Calls.mono (LawDoes.shown _ ?_) ?_
  · exact hT.below (by repeat (with_reducible (first | exact Below.refl _ _ | assumption | refine Below.to ?_ (by assumption) | refine below_drewN ?_ _ | refine Below.alloc ?_ (by first | (simp; done) | omega | (simp; omega) | (simp at *; omega)) _ | refine Below.setCell ?_ (by first | (simp; done) | omega | (simp; omega) | (simp at *; omega)) _ | refine Below.drew ?_)))
  rintro e w1 ⟨rfl, hb1⟩
  obtain ⟨hc1, hf1, hz1⟩ := bfacts hb1
  try simp at hz1
  have y0 : w.heap.size < w1.heap.size := by omega
  try (have y1 : w.heap.size + 1 < w1.heap.size := by omega)
  dsimp only
  repeat' (first | go_values | go_skip | go_guarded | (with_reducible (first | refine ex_then_ret ?_ | refine ex_then_exit ?_ | refine ex_then_normal ?_ | refine ex_block_ret ?_ | refine ex_block_normal ?_ | refine ex_block_same ?_ | refine ex_block_other (by decide) ?_)) | go_step | go_upon)
  refine Calls.mono (H1.out _ ?_) ?_
  · exact hT.below (by repeat (with_reducible (first | exact Below.refl _ _ | assumption | refine Below.to ?_ (by assumption) | refine below_drewN ?_ _ | refine Below.alloc ?_ (by first | (simp; done) | omega | (simp; omega) | (simp at *; omega)) _ | refine Below.setCell ?_ (by first | (simp; done) | omega | (simp; omega) | (simp at *; omega)) _ | refine Below.drew ?_)))
  rintro e v1 ⟨rfl, gb1⟩
  obtain ⟨gc1, gf1, gz1⟩ := bfacts gb1
  try simp at gz1
  clear H1
  have x1 : w.heap.size < v1.heap.size := by omega
  try (have x1' : w.heap.size + 1 < v1.heap.size := by omega)
  dsimp only
  repeat' (first | go_values | go_skip | go_guarded | (with_reducible (first | refine ex_then_ret ?_ | refine ex_then_exit ?_ | refine ex_then_normal ?_ | refine ex_block_ret ?_ | refine ex_block_normal ?_ | refine ex_block_same ?_ | refine ex_block_other (by decide) ?_)) | go_step | go_upon)
  all_goals go_ret
  all_goals refine gives_bool ?_ (by repeat (with_reducible (first | exact Below.refl _ _ | assumption | refine Below.to ?_ (by assumption) | refine below_drewN ?_ _ | refine Below.alloc ?_ (by first | (simp; done) | omega | (simp; omega) | (simp at *; omega)) _ | refine Below.setCell ?_ (by first | (simp; done) | omega | (simp; omega) | (simp at *; omega)) _ | refine Below.drew ?_)))
  all_goals (first | rfl | (simp; done) | (simp; omega) | (simp at *; omega))
set_option maxHeartbeats 2000000 in
set_option maxRecDepth 100000 in
theorem far22 (hw : Words [r0, r1, r2, r3, r4, r5, r6, r7]) (hB : Cp.doesB 22 a b i = true) (hp : Cp.doesP [r0, r1, r2, r3, r4, r5, r6, r7] pc 22 a b i = (pc + 4 * (i % 4294967296)) % 4294967296) (hT : Tab w) :
    Calls Tryd.prog 4 #[.agg #[.int .u32 r0, .int .u32 r1, .int .u32 r2, .int .u32 r3, .int .u32 r4, .int .u32 r5, .int .u32 r6, .int .u32 r7, .int .u32 pc], .agg #[.int .i64 22, .int .i64 a, .int .i64 b, .int .i64 i]] w (Gives (.bool true) w) := by
  have H1 := Lib.hid (Does_ex (pc := pc) hw (doesR_jump hw.1 hB (by omega)) hp hB)
  clear hB hp
  have hA := arr_regs
  have z02 : w.heap.size < w.heap.size + 1 + 1 := by omega
  go_enter Tryd.func4, Tryd.ntmps4
  repeat' (first | go_values | go_skip | go_guarded | (with_reducible (first | refine ex_then_ret ?_ | refine ex_then_exit ?_ | refine ex_then_normal ?_ | refine ex_block_ret ?_ | refine ex_block_normal ?_ | refine ex_block_same ?_ | refine ex_block_other (by decide) ?_)) | go_step | go_upon)
  refine Calls.mono (LawDoes.shown _ ?_) ?_
  · exact hT.below (by repeat (with_reducible (first | exact Below.refl _ _ | assumption | refine Below.to ?_ (by assumption) | refine below_drewN ?_ _ | refine Below.alloc ?_ (by first | (simp; done) | omega | (simp; omega) | (simp at *; omega)) _ | refine Below.setCell ?_ (by first | (simp; done) | omega | (simp; omega) | (simp at *; omega)) _ | refine Below.drew ?_)))
  rintro e w1 ⟨rfl, hb1⟩
  obtain ⟨hc1, hf1, hz1⟩ := bfacts hb1
  try simp at hz1
  have y0 : w.heap.size < w1.heap.size := by omega
  try (have y1 : w.heap.size + 1 < w1.heap.size := by omega)
  dsimp only
  repeat' (first | go_values | go_skip | go_guarded | (with_reducible (first | refine ex_then_ret ?_ | refine ex_then_exit ?_ | refine ex_then_normal ?_ | refine ex_block_ret ?_ | refine ex_block_normal ?_ | refine ex_block_same ?_ | refine ex_block_other (by decide) ?_)) | go_step | go_upon)
  refine Calls.mono (H1.out _ ?_) ?_
  · exact hT.below (by repeat (with_reducible (first | exact Below.refl _ _ | assumption | refine Below.to ?_ (by assumption) | refine below_drewN ?_ _ | refine Below.alloc ?_ (by first | (simp; done) | omega | (simp; omega) | (simp at *; omega)) _ | refine Below.setCell ?_ (by first | (simp; done) | omega | (simp; omega) | (simp at *; omega)) _ | refine Below.drew ?_)))
  rintro e v1 ⟨rfl, gb1⟩
  obtain ⟨gc1, gf1, gz1⟩ := bfacts gb1
  try simp at gz1
  clear H1
  have x1 : w.heap.size < v1.heap.size := by omega
  try (have x1' : w.heap.size + 1 < v1.heap.size := by omega)
  dsimp only
  repeat' (first | go_values | go_skip | go_guarded | (with_reducible (first | refine ex_then_ret ?_ | refine ex_then_exit ?_ | refine ex_then_normal ?_ | refine ex_block_ret ?_ | refine ex_block_normal ?_ | refine ex_block_same ?_ | refine ex_block_other (by decide) ?_)) | go_step | go_upon)
  all_goals go_ret
  all_goals refine gives_bool ?_ (by repeat (with_reducible (first | exact Below.refl _ _ | assumption | refine Below.to ?_ (by assumption) | refine below_drewN ?_ _ | refine Below.alloc ?_ (by first | (simp; done) | omega | (simp; omega) | (simp at *; omega)) _ | refine Below.setCell ?_ (by first | (simp; done) | omega | (simp; omega) | (simp at *; omega)) _ | refine Below.drew ?_)))
  all_goals (first | rfl | (simp; done) | (simp; omega) | (simp at *; omega))
set_option maxHeartbeats 2000000 in
set_option maxRecDepth 100000 in
theorem near22 (hw : Words [r0, r1, r2, r3, r4, r5, r6, r7]) (hB : Cp.doesB 22 a b i = true) (hp : Cp.doesP [r0, r1, r2, r3, r4, r5, r6, r7] pc 22 a b i = (pc + 4) % 4294967296) (hT : Tab w) :
    Calls Tryd.prog 4 #[.agg #[.int .u32 r0, .int .u32 r1, .int .u32 r2, .int .u32 r3, .int .u32 r4, .int .u32 r5, .int .u32 r6, .int .u32 r7, .int .u32 pc], .agg #[.int .i64 22, .int .i64 a, .int .i64 b, .int .i64 i]] w (Gives (.bool true) w) := by
  have H1 := Lib.hid (Does_ex (pc := pc) hw (doesR_jump hw.1 hB (by omega)) hp hB)
  clear hB hp
  have hA := arr_regs
  have z02 : w.heap.size < w.heap.size + 1 + 1 := by omega
  go_enter Tryd.func4, Tryd.ntmps4
  repeat' (first | go_values | go_skip | go_guarded | (with_reducible (first | refine ex_then_ret ?_ | refine ex_then_exit ?_ | refine ex_then_normal ?_ | refine ex_block_ret ?_ | refine ex_block_normal ?_ | refine ex_block_same ?_ | refine ex_block_other (by decide) ?_)) | go_step | go_upon)
  refine Calls.mono (LawDoes.shown _ ?_) ?_
  · exact hT.below (by repeat (with_reducible (first | exact Below.refl _ _ | assumption | refine Below.to ?_ (by assumption) | refine below_drewN ?_ _ | refine Below.alloc ?_ (by first | (simp; done) | omega | (simp; omega) | (simp at *; omega)) _ | refine Below.setCell ?_ (by first | (simp; done) | omega | (simp; omega) | (simp at *; omega)) _ | refine Below.drew ?_)))
  rintro e w1 ⟨rfl, hb1⟩
  obtain ⟨hc1, hf1, hz1⟩ := bfacts hb1
  try simp at hz1
  have y0 : w.heap.size < w1.heap.size := by omega
  try (have y1 : w.heap.size + 1 < w1.heap.size := by omega)
  dsimp only
  repeat' (first | go_values | go_skip | go_guarded | (with_reducible (first | refine ex_then_ret ?_ | refine ex_then_exit ?_ | refine ex_then_normal ?_ | refine ex_block_ret ?_ | refine ex_block_normal ?_ | refine ex_block_same ?_ | refine ex_block_other (by decide) ?_)) | go_step | go_upon)
  refine Calls.mono (H1.out _ ?_) ?_
  · exact hT.below (by repeat (with_reducible (first | exact Below.refl _ _ | assumption | refine Below.to ?_ (by assumption) | refine below_drewN ?_ _ | refine Below.alloc ?_ (by first | (simp; done) | omega | (simp; omega) | (simp at *; omega)) _ | refine Below.setCell ?_ (by first | (simp; done) | omega | (simp; omega) | (simp at *; omega)) _ | refine Below.drew ?_)))
  rintro e v1 ⟨rfl, gb1⟩
  obtain ⟨gc1, gf1, gz1⟩ := bfacts gb1
  try simp at gz1
  clear H1
  have x1 : w.heap.size < v1.heap.size := by omega
  try (have x1' : w.heap.size + 1 < v1.heap.size := by omega)
  dsimp only
  repeat' (first | go_values | go_skip | go_guarded | (with_reducible (first | refine ex_then_ret ?_ | refine ex_then_exit ?_ | refine ex_then_normal ?_ | refine ex_block_ret ?_ | refine ex_block_normal ?_ | refine ex_block_same ?_ | refine ex_block_other (by decide) ?_)) | go_step | go_upon)
  all_goals go_ret
  all_goals refine gives_bool ?_ (by repeat (with_reducible (first | exact Below.refl _ _ | assumption | refine Below.to ?_ (by assumption) | refine below_drewN ?_ _ | refine Below.alloc ?_ (by first | (simp; done) | omega | (simp; omega) | (simp at *; omega)) _ | refine Below.setCell ?_ (by first | (simp; done) | omega | (simp; omega) | (simp at *; omega)) _ | refine Below.drew ?_)))
  all_goals (first | rfl | (simp; done) | (simp; omega) | (simp at *; omega))
set_option maxHeartbeats 2000000 in
set_option maxRecDepth 100000 in
theorem far23 (hw : Words [r0, r1, r2, r3, r4, r5, r6, r7]) (hB : Cp.doesB 23 a b i = true) (hp : Cp.doesP [r0, r1, r2, r3, r4, r5, r6, r7] pc 23 a b i = (pc + 4 * (i % 4294967296)) % 4294967296) (hT : Tab w) :
    Calls Tryd.prog 4 #[.agg #[.int .u32 r0, .int .u32 r1, .int .u32 r2, .int .u32 r3, .int .u32 r4, .int .u32 r5, .int .u32 r6, .int .u32 r7, .int .u32 pc], .agg #[.int .i64 23, .int .i64 a, .int .i64 b, .int .i64 i]] w (Gives (.bool true) w) := by
  have H1 := Lib.hid (Does_ex (pc := pc) hw (doesR_jump hw.1 hB (by omega)) hp hB)
  clear hB hp
  have hA := arr_regs
  have z02 : w.heap.size < w.heap.size + 1 + 1 := by omega
  go_enter Tryd.func4, Tryd.ntmps4
  repeat' (first | go_values | go_skip | go_guarded | (with_reducible (first | refine ex_then_ret ?_ | refine ex_then_exit ?_ | refine ex_then_normal ?_ | refine ex_block_ret ?_ | refine ex_block_normal ?_ | refine ex_block_same ?_ | refine ex_block_other (by decide) ?_)) | go_step | go_upon)
  refine Calls.mono (LawDoes.shown _ ?_) ?_
  · exact hT.below (by repeat (with_reducible (first | exact Below.refl _ _ | assumption | refine Below.to ?_ (by assumption) | refine below_drewN ?_ _ | refine Below.alloc ?_ (by first | (simp; done) | omega | (simp; omega) | (simp at *; omega)) _ | refine Below.setCell ?_ (by first | (simp; done) | omega | (simp; omega) | (simp at *; omega)) _ | refine Below.drew ?_)))
  rintro e w1 ⟨rfl, hb1⟩
  obtain ⟨hc1, hf1, hz1⟩ := bfacts hb1
  try simp at hz1
  have y0 : w.heap.size < w1.heap.size := by omega
  try (have y1 : w.heap.size + 1 < w1.heap.size := by omega)
  dsimp only
  repeat' (first | go_values | go_skip | go_guarded | (with_reducible (first | refine ex_then_ret ?_ | refine ex_then_exit ?_ | refine ex_then_normal ?_ | refine ex_block_ret ?_ | refine ex_block_normal ?_ | refine ex_block_same ?_ | refine ex_block_other (by decide) ?_)) | go_step | go_upon)
  refine Calls.mono (H1.out _ ?_) ?_
  · exact hT.below (by repeat (with_reducible (first | exact Below.refl _ _ | assumption | refine Below.to ?_ (by assumption) | refine below_drewN ?_ _ | refine Below.alloc ?_ (by first | (simp; done) | omega | (simp; omega) | (simp at *; omega)) _ | refine Below.setCell ?_ (by first | (simp; done) | omega | (simp; omega) | (simp at *; omega)) _ | refine Below.drew ?_)))
  rintro e v1 ⟨rfl, gb1⟩
  obtain ⟨gc1, gf1, gz1⟩ := bfacts gb1
  try simp at gz1
  clear H1
  have x1 : w.heap.size < v1.heap.size := by omega
  try (have x1' : w.heap.size + 1 < v1.heap.size := by omega)
  dsimp only
  repeat' (first | go_values | go_skip | go_guarded | (with_reducible (first | refine ex_then_ret ?_ | refine ex_then_exit ?_ | refine ex_then_normal ?_ | refine ex_block_ret ?_ | refine ex_block_normal ?_ | refine ex_block_same ?_ | refine ex_block_other (by decide) ?_)) | go_step | go_upon)
  all_goals go_ret
  all_goals refine gives_bool ?_ (by repeat (with_reducible (first | exact Below.refl _ _ | assumption | refine Below.to ?_ (by assumption) | refine below_drewN ?_ _ | refine Below.alloc ?_ (by first | (simp; done) | omega | (simp; omega) | (simp at *; omega)) _ | refine Below.setCell ?_ (by first | (simp; done) | omega | (simp; omega) | (simp at *; omega)) _ | refine Below.drew ?_)))
  all_goals (first | rfl | (simp; done) | (simp; omega) | (simp at *; omega))
set_option maxHeartbeats 2000000 in
set_option maxRecDepth 100000 in
theorem near23 (hw : Words [r0, r1, r2, r3, r4, r5, r6, r7]) (hB : Cp.doesB 23 a b i = true) (hp : Cp.doesP [r0, r1, r2, r3, r4, r5, r6, r7] pc 23 a b i = (pc + 4) % 4294967296) (hT : Tab w) :
    Calls Tryd.prog 4 #[.agg #[.int .u32 r0, .int .u32 r1, .int .u32 r2, .int .u32 r3, .int .u32 r4, .int .u32 r5, .int .u32 r6, .int .u32 r7, .int .u32 pc], .agg #[.int .i64 23, .int .i64 a, .int .i64 b, .int .i64 i]] w (Gives (.bool true) w) := by
  have H1 := Lib.hid (Does_ex (pc := pc) hw (doesR_jump hw.1 hB (by omega)) hp hB)
  clear hB hp
  have hA := arr_regs
  have z02 : w.heap.size < w.heap.size + 1 + 1 := by omega
  go_enter Tryd.func4, Tryd.ntmps4
  repeat' (first | go_values | go_skip | go_guarded | (with_reducible (first | refine ex_then_ret ?_ | refine ex_then_exit ?_ | refine ex_then_normal ?_ | refine ex_block_ret ?_ | refine ex_block_normal ?_ | refine ex_block_same ?_ | refine ex_block_other (by decide) ?_)) | go_step | go_upon)
  refine Calls.mono (LawDoes.shown _ ?_) ?_
  · exact hT.below (by repeat (with_reducible (first | exact Below.refl _ _ | assumption | refine Below.to ?_ (by assumption) | refine below_drewN ?_ _ | refine Below.alloc ?_ (by first | (simp; done) | omega | (simp; omega) | (simp at *; omega)) _ | refine Below.setCell ?_ (by first | (simp; done) | omega | (simp; omega) | (simp at *; omega)) _ | refine Below.drew ?_)))
  rintro e w1 ⟨rfl, hb1⟩
  obtain ⟨hc1, hf1, hz1⟩ := bfacts hb1
  try simp at hz1
  have y0 : w.heap.size < w1.heap.size := by omega
  try (have y1 : w.heap.size + 1 < w1.heap.size := by omega)
  dsimp only
  repeat' (first | go_values | go_skip | go_guarded | (with_reducible (first | refine ex_then_ret ?_ | refine ex_then_exit ?_ | refine ex_then_normal ?_ | refine ex_block_ret ?_ | refine ex_block_normal ?_ | refine ex_block_same ?_ | refine ex_block_other (by decide) ?_)) | go_step | go_upon)
  refine Calls.mono (H1.out _ ?_) ?_
  · exact hT.below (by repeat (with_reducible (first | exact Below.refl _ _ | assumption | refine Below.to ?_ (by assumption) | refine below_drewN ?_ _ | refine Below.alloc ?_ (by first | (simp; done) | omega | (simp; omega) | (simp at *; omega)) _ | refine Below.setCell ?_ (by first | (simp; done) | omega | (simp; omega) | (simp at *; omega)) _ | refine Below.drew ?_)))
  rintro e v1 ⟨rfl, gb1⟩
  obtain ⟨gc1, gf1, gz1⟩ := bfacts gb1
  try simp at gz1
  clear H1
  have x1 : w.heap.size < v1.heap.size := by omega
  try (have x1' : w.heap.size + 1 < v1.heap.size := by omega)
  dsimp only
  repeat' (first | go_values | go_skip | go_guarded | (with_reducible (first | refine ex_then_ret ?_ | refine ex_then_exit ?_ | refine ex_then_normal ?_ | refine ex_block_ret ?_ | refine ex_block_normal ?_ | refine ex_block_same ?_ | refine ex_block_other (by decide) ?_)) | go_step | go_upon)
  all_goals go_ret
  all_goals refine gives_bool ?_ (by repeat (with_reducible (first | exact Below.refl _ _ | assumption | refine Below.to ?_ (by assumption) | refine below_drewN ?_ _ | refine Below.alloc ?_ (by first | (simp; done) | omega | (simp; omega) | (simp at *; omega)) _ | refine Below.setCell ?_ (by first | (simp; done) | omega | (simp; omega) | (simp at *; omega)) _ | refine Below.drew ?_)))
  all_goals (first | rfl | (simp; done) | (simp; omega) | (simp at *; omega))

set_option maxHeartbeats 2000000 in
set_option maxRecDepth 100000 in
theorem plain (h1 : 1 ≤ op) (h13 : op ≤ 13) (hw : Words [r0, r1, r2, r3, r4, r5, r6, r7]) (hB : Cp.doesB op a b i = true) (hT : Tab w) :
    Calls Tryd.prog 4 #[.agg #[.int .u32 r0, .int .u32 r1, .int .u32 r2, .int .u32 r3, .int .u32 r4, .int .u32 r5, .int .u32 r6, .int .u32 r7, .int .u32 pc], .agg #[.int .i64 op, .int .i64 a, .int .i64 b, .int .i64 i]] w (Gives (.bool true) w) := by
  obtain ⟨s0, s1, s2, s3, s4, s5, s6, s7, hs, _⟩ := cpuV_ex 0 (doesR_len (pc := pc) (op := op) (a := a) (b := b) (i := i) hw.1)
  have hp : Cp.doesP [r0, r1, r2, r3, r4, r5, r6, r7] pc op a b i = (pc + 4) % 4294967296 := by
    rw [doesP_yes hB]; unfold Cp.nxt; rw [if_neg (by omega), if_neg (by omega)]
  have H1 := Lib.hid (Does_ex (pc := pc) hw hs hp hB)
  clear hB hp hs
  have hA := arr_regs
  have z02 : w.heap.size < w.heap.size + 1 + 1 := by omega
  go_enter Tryd.func4, Tryd.ntmps4
  repeat' (first | go_values | go_skip | go_guarded | (with_reducible (first | refine ex_then_ret ?_ | refine ex_then_exit ?_ | refine ex_then_normal ?_ | refine ex_block_ret ?_ | refine ex_block_normal ?_ | refine ex_block_same ?_ | refine ex_block_other (by decide) ?_)) | go_step | go_upon)
  refine Calls.mono (LawDoes.shown _ ?_) ?_
  · exact hT.below (by repeat (with_reducible (first | exact Below.refl _ _ | assumption | refine Below.to ?_ (by assumption) | refine below_drewN ?_ _ | refine Below.alloc ?_ (by first | (simp; done) | omega | (simp; omega) | (simp at *; omega)) _ | refine Below.setCell ?_ (by first | (simp; done) | omega | (simp; omega) | (simp at *; omega)) _ | refine Below.drew ?_)))
  rintro e w1 ⟨rfl, hb1⟩
  obtain ⟨hc1, hf1, hz1⟩ := bfacts hb1
  try simp at hz1
  have y0 : w.heap.size < w1.heap.size := by omega
  try (have y1 : w.heap.size + 1 < w1.heap.size := by omega)
  dsimp only
  repeat' (first | go_values | go_skip | go_guarded | (with_reducible (first | refine ex_then_ret ?_ | refine ex_then_exit ?_ | refine ex_then_normal ?_ | refine ex_block_ret ?_ | refine ex_block_normal ?_ | refine ex_block_same ?_ | refine ex_block_other (by decide) ?_)) | go_step | go_upon)
  refine Calls.mono (H1.out _ ?_) ?_
  · exact hT.below (by repeat (with_reducible (first | exact Below.refl _ _ | assumption | refine Below.to ?_ (by assumption) | refine below_drewN ?_ _ | refine Below.alloc ?_ (by first | (simp; done) | omega | (simp; omega) | (simp at *; omega)) _ | refine Below.setCell ?_ (by first | (simp; done) | omega | (simp; omega) | (simp at *; omega)) _ | refine Below.drew ?_)))
  rintro e v1 ⟨rfl, gb1⟩
  obtain ⟨gc1, gf1, gz1⟩ := bfacts gb1
  try simp at gz1
  clear H1
  have x1 : w.heap.size < v1.heap.size := by omega
  try (have x1' : w.heap.size + 1 < v1.heap.size := by omega)
  dsimp only
  repeat' (first | go_values | go_skip | go_guarded | (with_reducible (first | refine ex_then_ret ?_ | refine ex_then_exit ?_ | refine ex_then_normal ?_ | refine ex_block_ret ?_ | refine ex_block_normal ?_ | refine ex_block_same ?_ | refine ex_block_other (by decide) ?_)) | go_step | go_upon)
  all_goals go_ret
  all_goals refine gives_bool ?_ (by repeat (with_reducible (first | exact Below.refl _ _ | assumption | refine Below.to ?_ (by assumption) | refine below_drewN ?_ _ | refine Below.alloc ?_ (by first | (simp; done) | omega | (simp; omega) | (simp at *; omega)) _ | refine Below.setCell ?_ (by first | (simp; done) | omega | (simp; omega) | (simp at *; omega)) _ | refine Below.drew ?_)))
  all_goals (first | rfl | (simp; done) | (simp; omega))

set_option maxRecDepth 100000 in
theorem walk (hw : Words [r0, r1, r2, r3, r4, r5, r6, r7]) (hT : Tab w) :
    Calls Tryd.prog 4 #[.agg #[.int .u32 r0, .int .u32 r1, .int .u32 r2, .int .u32 r3, .int .u32 r4, .int .u32 r5, .int .u32 r6, .int .u32 r7, .int .u32 pc], .agg #[.int .i64 op, .int .i64 a, .int .i64 b, .int .i64 i]] w (Gives (.bool true) w) := by
  by_cases hB : Cp.doesB op a b i = true
  · obtain ⟨h1, h23, hx, ha0, ha8, hb0, hb8⟩ := doesB_yes hB
    by_cases h13 : op ≤ 13
    · exact plain r0 r1 r2 r3 r4 r5 r6 r7 pc op a b i w h1 h13 hw hB hT
    · have h : op = 18 ∨ op = 19 ∨ op = 20 ∨ op = 21 ∨ op = 22 ∨ op = 23 := by omega
      rcases h with rfl | rfl | rfl | rfl | rfl | rfl
      · exact jump18 r0 r1 r2 r3 r4 r5 r6 r7 pc a b i w hw hB hT
      · exact jump19 r0 r1 r2 r3 r4 r5 r6 r7 pc a b i w hw hB hT
      · have sa := Does.sel [r0, r1, r2, r3, r4, r5, r6, r7] hw.1 pc a ha0 ha8
        exact reg20 r0 r1 r2 r3 r4 r5 r6 r7 pc a b i w _ sa ha0 ha8 hw hB rfl hT
      · by_cases hn : Cp.doesP [r0, r1, r2, r3, r4, r5, r6, r7] pc 21 a b i = (pc + 4) % 4294967296
        · exact near21 r0 r1 r2 r3 r4 r5 r6 r7 pc a b i w hw hB hn hT
        · refine far21 r0 r1 r2 r3 r4 r5 r6 r7 pc a b i w hw hB ?_ hT
          rw [doesP_yes hB] at hn ⊢
          unfold Cp.nxt at hn ⊢
          rw [if_neg (show ¬ (21 : Int) = 20 by omega)] at hn ⊢
          split at hn
          · rw [if_pos ‹_›]
          · exact absurd rfl hn
      · by_cases hn : Cp.doesP [r0, r1, r2, r3, r4, r5, r6, r7] pc 22 a b i = (pc + 4) % 4294967296
        · exact near22 r0 r1 r2 r3 r4 r5 r6 r7 pc a b i w hw hB hn hT
        · refine far22 r0 r1 r2 r3 r4 r5 r6 r7 pc a b i w hw hB ?_ hT
          rw [doesP_yes hB] at hn ⊢
          unfold Cp.nxt at hn ⊢
          rw [if_neg (show ¬ (22 : Int) = 20 by omega)] at hn ⊢
          split at hn
          · rw [if_pos ‹_›]
          · exact absurd rfl hn
      · by_cases hn : Cp.doesP [r0, r1, r2, r3, r4, r5, r6, r7] pc 23 a b i = (pc + 4) % 4294967296
        · exact near23 r0 r1 r2 r3 r4 r5 r6 r7 pc a b i w hw hB hn hT
        · refine far23 r0 r1 r2 r3 r4 r5 r6 r7 pc a b i w hw hB ?_ hT
          rw [doesP_yes hB] at hn ⊢
          unfold Cp.nxt at hn ⊢
          rw [if_neg (show ¬ (23 : Int) = 20 by omega)] at hn ⊢
          split at hn
          · rw [if_pos ‹_›]
          · exact absurd rfl hn
  · exact no r0 r1 r2 r3 r4 r5 r6 r7 pc op a b i w hw (by simpa using hB) hT
end LawGoes
end Go.Proofs.YtllemloicianmaaDoor
