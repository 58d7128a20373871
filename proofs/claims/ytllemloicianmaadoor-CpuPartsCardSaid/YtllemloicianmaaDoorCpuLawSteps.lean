/- The walks of the laws CpuSteps and CpuStays: they answer true. Conditions: the registers are words, the table of the uses lies; at CpuSteps the memory is shorter than 2^32. -/
import Derived.Test.YtllemloicianmaaDoorCpuStepFacts
import Derived.Test.YtllemloicianmaaDoorCpuRStep
import Derived.Test.YtllemloicianmaaDoorCpuArr
import Derived.WalkKit
import Derived.WalkSpells
import Derived.WalkLawsBesides
import Derived.Lib.Hide
import Derived.BigQuiet
import Derived.Deep.QuietTactic

set_option linter.unusedVariables false
set_option linter.unusedSimpArgs false
namespace Go.Proofs.YtllemloicianmaaDoor
open Go.RowKit

theorem RStep_ex {r0 r1 r2 r3 r4 r5 r6 r7 pc s0 s1 s2 s3 s4 s5 s6 s7 p t : Int} {m k : ByteArray} (hw : Words [r0, r1, r2, r3, r4, r5, r6, r7]) (p0 : 0 ≤ pc) (p1 : pc < 4294967296) (hm : m.size < 4294967296)
    (hs : (Cp.step [r0, r1, r2, r3, r4, r5, r6, r7] pc m).rs = [s0, s1, s2, s3, s4, s5, s6, s7]) (hp : (Cp.step [r0, r1, r2, r3, r4, r5, r6, r7] pc m).pc = p) (hk : (Cp.step [r0, r1, r2, r3, r4, r5, r6, r7] pc m).m = k) (ht : (Cp.step [r0, r1, r2, r3, r4, r5, r6, r7] pc m).t = t) (W : World) (hT : Tab W) :
    Calls Tryd.prog 16 #[.agg #[.int .u32 r0, .int .u32 r1, .int .u32 r2, .int .u32 r3, .int .u32 r4, .int .u32 r5, .int .u32 r6, .int .u32 r7, .int .u32 pc], .string m] W
      (Gives (.tuple #[.agg #[.int .u32 s0, .int .u32 s1, .int .u32 s2, .int .u32 s3, .int .u32 s4, .int .u32 s5, .int .u32 s6, .int .u32 s7, .int .u32 p], .string k, .int .i64 t]) W) := by
  have h := RStep_any [r0, r1, r2, r3, r4, r5, r6, r7] pc m W hw p0 p1 hm hT
  rw [hs, hp, hk, ht] at h
  exact h

namespace LawSteps
variable (r0 r1 r2 r3 r4 r5 r6 r7 pc : Int) (m : ByteArray) (w : World)
set_option maxHeartbeats 2000000 in
set_option maxRecDepth 100000 in
theorem walk (hw : Words [r0, r1, r2, r3, r4, r5, r6, r7]) (p0 : 0 ≤ pc) (p1 : pc < 4294967296) (hm : m.size < 4294967296) (hT : Tab w) :
    Calls Tryd.prog 6 #[.agg #[.int .u32 r0, .int .u32 r1, .int .u32 r2, .int .u32 r3, .int .u32 r4, .int .u32 r5, .int .u32 r6, .int .u32 r7, .int .u32 pc], .string m] w (Gives (.bool true) w) := by
  have kk := step_kept hw p0 p1 m
  obtain ⟨s0, s1, s2, s3, s4, s5, s6, s7, hs, _⟩ := cpuV_ex 0 kk.words.1
  have H1 := Lib.hid (Step_ex hw p0 p1 (by omega) hs rfl rfl rfl)
  have H2 := Lib.hid (RStep_ex hw p0 p1 hm hs rfl rfl rfl)
  generalize (Cp.step [r0, r1, r2, r3, r4, r5, r6, r7] pc m).pc = p at H1 H2
  generalize (Cp.step [r0, r1, r2, r3, r4, r5, r6, r7] pc m).t = t at H1 H2
  generalize (Cp.step [r0, r1, r2, r3, r4, r5, r6, r7] pc m).m = k at H1 H2
  clear hs kk
  have hA := arr_regs
  have z02 : w.heap.size < w.heap.size + 1 + 1 := by omega
  go_enter Tryd.func6, Tryd.ntmps6
  repeat' (first | go_values | go_skip | go_guarded | (with_reducible (first | refine ex_then_ret ?_ | refine ex_then_exit ?_ | refine ex_then_normal ?_ | refine ex_block_ret ?_ | refine ex_block_normal ?_ | refine ex_block_same ?_ | refine ex_block_other (by decide) ?_)) | go_step | go_upon)
  refine Calls.mono (LawDoes.shown _ ?_) ?_
  · exact hT.below (by repeat (with_reducible (first | exact Below.refl _ _ | assumption | refine Below.to ?_ (by assumption) | refine below_drewN ?_ _ | refine Below.alloc ?_ (by first | (simp; done) | omega | (simp; omega) | (simp at *; omega)) _ | refine Below.setCell ?_ (by first | (simp; done) | omega | (simp; omega) | (simp at *; omega)) _ | refine Below.drew ?_)))
  rintro e w1 ⟨rfl, hb1⟩
  obtain ⟨hc1, hf1, hz1⟩ := bfacts hb1
  try simp at hz1
  have y0 : w.heap.size < w1.heap.size := by omega
  try (have y1 : w.heap.size + 1 < w1.heap.size := by omega)
  dsimp only
  repeat' (first | go_values | go_skip | go_guarded | (with_reducible (first | refine ex_then_ret ?_ | refine ex_then_exit ?_ | refine ex_then_normal ?_ | refine ex_block_ret ?_ | refine ex_block_normal ?_ | refine ex_block_same ?_ | refine ex_block_other (by decide) ?_)) | go_step | go_upon)
  refine Calls.mono (H1.out _ ?_) ?_
  · exact hT.below (by repeat (with_reducible (first | exact Below.refl _ _ | assumption | refine Below.to ?_ (by assumption) | refine below_drewN ?_ _ | refine Below.alloc ?_ (by first | (simp; done) | omega | (simp; omega) | (simp at *; omega)) _ | refine Below.setCell ?_ (by first | (simp; done) | omega | (simp; omega) | (simp at *; omega)) _ | refine Below.drew ?_)))
  rintro e v1 ⟨rfl, gb1⟩
  obtain ⟨gc1, gf1, gz1⟩ := bfacts gb1
  try simp at gz1
  clear H1
  have x1 : w.heap.size < v1.heap.size := by omega
  try (have x1' : w.heap.size + 1 < v1.heap.size := by omega)
  dsimp only
  repeat' (first | go_values | go_skip | go_guarded | (with_reducible (first | refine ex_then_ret ?_ | refine ex_then_exit ?_ | refine ex_then_normal ?_ | refine ex_block_ret ?_ | refine ex_block_normal ?_ | refine ex_block_same ?_ | refine ex_block_other (by decide) ?_)) | go_step | go_upon)
  refine Calls.mono (H2.out _ ?_) ?_
  · exact hT.below (by repeat (with_reducible (first | exact Below.refl _ _ | assumption | refine Below.to ?_ (by assumption) | refine below_drewN ?_ _ | refine Below.alloc ?_ (by first | (simp; done) | omega | (simp; omega) | (simp at *; omega)) _ | refine Below.setCell ?_ (by first | (simp; done) | omega | (simp; omega) | (simp at *; omega)) _ | refine Below.drew ?_)))
  rintro e v2 ⟨rfl, gb2⟩
  obtain ⟨gc2, gf2, gz2⟩ := bfacts gb2
  try simp at gz2
  clear H2
  have x2 : w.heap.size < v2.heap.size := by omega
  try (have x2' : w.heap.size + 1 < v2.heap.size := by omega)
  try (have k12 : v1.heap.size < v2.heap.size := by omega)
  dsimp only
  repeat' (first | go_values | go_skip | go_guarded | (with_reducible (first | refine ex_then_ret ?_ | refine ex_then_exit ?_ | refine ex_then_normal ?_ | refine ex_block_ret ?_ | refine ex_block_normal ?_ | refine ex_block_same ?_ | refine ex_block_other (by decide) ?_)) | go_step | go_upon)
  all_goals go_ret
  all_goals exact gives_of (by simp) (by repeat (with_reducible (first | exact Below.refl _ _ | assumption | refine Below.to ?_ (by assumption) | refine below_drewN ?_ _ | refine Below.alloc ?_ (by first | (simp; done) | omega | (simp; omega) | (simp at *; omega)) _ | refine Below.setCell ?_ (by first | (simp; done) | omega | (simp; omega) | (simp at *; omega)) _ | refine Below.drew ?_)))
end LawSteps

namespace LawStays
variable (r0 r1 r2 r3 r4 r5 r6 r7 pc : Int) (m : ByteArray) (w : World)
set_option maxHeartbeats 2000000 in
set_option maxRecDepth 100000 in
theorem no1 (hw : Words [r0, r1, r2, r3, r4, r5, r6, r7]) (p0 : 0 ≤ pc) (p1 : pc < 4294967296) (hm : m.size ≤ 140737488355328) (hT : Tab w)
    (hs : (Cp.step [r0, r1, r2, r3, r4, r5, r6, r7] pc m).rs = [r0, r1, r2, r3, r4, r5, r6, r7]) (hp : (Cp.step [r0, r1, r2, r3, r4, r5, r6, r7] pc m).pc = pc) (hk : (Cp.step [r0, r1, r2, r3, r4, r5, r6, r7] pc m).m = m) (ht : (Cp.step [r0, r1, r2, r3, r4, r5, r6, r7] pc m).t = 1) :
    Calls Tryd.prog 7 #[.agg #[.int .u32 r0, .int .u32 r1, .int .u32 r2, .int .u32 r3, .int .u32 r4, .int .u32 r5, .int .u32 r6, .int .u32 r7, .int .u32 pc], .string m] w (Gives (.bool true) w) := by
  have H1 := Lib.hid (Step_ex hw p0 p1 hm hs hp hk ht)
  clear hs hp hk ht
  have hA := arr_regs
  have z02 : w.heap.size < w.heap.size + 1 + 1 := by omega
  go_enter Tryd.func7, Tryd.ntmps7
  repeat' (first | go_values | go_skip | go_guarded | (with_reducible (first | refine ex_then_ret ?_ | refine ex_then_exit ?_ | refine ex_then_normal ?_ | refine ex_block_ret ?_ | refine ex_block_normal ?_ | refine ex_block_same ?_ | refine ex_block_other (by decide) ?_)) | go_step | go_upon)
  refine Calls.mono (LawDoes.shown _ ?_) ?_
  · exact hT.below (by repeat (with_reducible (first | exact Below.refl _ _ | assumption | refine Below.to ?_ (by assumption) | refine below_drewN ?_ _ | refine Below.alloc ?_ (by first | (simp; done) | omega | (simp; omega) | (simp at *; omega)) _ | refine Below.setCell ?_ (by first | (simp; done) | omega | (simp; omega) | (simp at *; omega)) _ | refine Below.drew ?_)))
  rintro e w1 ⟨rfl, hb1⟩
  obtain ⟨hc1, hf1, hz1⟩ := bfacts hb1
  try simp at hz1
  have y0 : w.heap.size < w1.heap.size := by omega
  try (have y1 : w.heap.size + 1 < w1.heap.size := by omega)
  dsimp only
  repeat' (first | go_values | go_skip | go_guarded | (with_reducible (first | refine ex_then_ret ?_ | refine ex_then_exit ?_ | refine ex_then_normal ?_ | refine ex_block_ret ?_ | refine ex_block_normal ?_ | refine ex_block_same ?_ | refine ex_block_other (by decide) ?_)) | go_step | go_upon)
  refine Calls.mono (H1.out _ ?_) ?_
  · exact hT.below (by repeat (with_reducible (first | exact Below.refl _ _ | assumption | refine Below.to ?_ (by assumption) | refine below_drewN ?_ _ | refine Below.alloc ?_ (by first | (simp; done) | omega | (simp; omega) | (simp at *; omega)) _ | refine Below.setCell ?_ (by first | (simp; done) | omega | (simp; omega) | (simp at *; omega)) _ | refine Below.drew ?_)))
  rintro e v1 ⟨rfl, gb1⟩
  obtain ⟨gc1, gf1, gz1⟩ := bfacts gb1
  try simp at gz1
  clear H1
  have x1 : w.heap.size < v1.heap.size := by omega
  try (have x1' : w.heap.size + 1 < v1.heap.size := by omega)
  dsimp only
  repeat' (first | go_values | go_skip | go_guarded | (with_reducible (first | refine ex_then_ret ?_ | refine ex_then_exit ?_ | refine ex_then_normal ?_ | refine ex_block_ret ?_ | refine ex_block_normal ?_ | refine ex_block_same ?_ | refine ex_block_other (by decide) ?_)) | go_step | go_upon)
  all_goals go_ret
  all_goals exact gives_of (by simp) (by repeat (with_reducible (first | exact Below.refl _ _ | assumption | refine Below.to ?_ (by assumption) | refine below_drewN ?_ _ | refine Below.alloc ?_ (by first | (simp; done) | omega | (simp; omega) | (simp at *; omega)) _ | refine Below.setCell ?_ (by first | (simp; done) | omega | (simp; omega) | (simp at *; omega)) _ | refine Below.drew ?_)))
set_option maxHeartbeats 2000000 in
set_option maxRecDepth 100000 in
theorem no2 (hw : Words [r0, r1, r2, r3, r4, r5, r6, r7]) (p0 : 0 ≤ pc) (p1 : pc < 4294967296) (hm : m.size ≤ 140737488355328) (hT : Tab w)
    (hs : (Cp.step [r0, r1, r2, r3, r4, r5, r6, r7] pc m).rs = [r0, r1, r2, r3, r4, r5, r6, r7]) (hp : (Cp.step [r0, r1, r2, r3, r4, r5, r6, r7] pc m).pc = pc) (hk : (Cp.step [r0, r1, r2, r3, r4, r5, r6, r7] pc m).m = m) (ht : (Cp.step [r0, r1, r2, r3, r4, r5, r6, r7] pc m).t = 2) :
    Calls Tryd.prog 7 #[.agg #[.int .u32 r0, .int .u32 r1, .int .u32 r2, .int .u32 r3, .int .u32 r4, .int .u32 r5, .int .u32 r6, .int .u32 r7, .int .u32 pc], .string m] w (Gives (.bool true) w) := by
  have H1 := Lib.hid (Step_ex hw p0 p1 hm hs hp hk ht)
  clear hs hp hk ht
  have hA := arr_regs
  have z02 : w.heap.size < w.heap.size + 1 + 1 := by omega
  go_enter Tryd.func7, Tryd.ntmps7
  repeat' (first | go_values | go_skip | go_guarded | (with_reducible (first | refine ex_then_ret ?_ | refine ex_then_exit ?_ | refine ex_then_normal ?_ | refine ex_block_ret ?_ | refine ex_block_normal ?_ | refine ex_block_same ?_ | refine ex_block_other (by decide) ?_)) | go_step | go_upon)
  refine Calls.mono (LawDoes.shown _ ?_) ?_
  · exact hT.below (by repeat (with_reducible (first | exact Below.refl _ _ | assumption | refine Below.to ?_ (by assumption) | refine below_drewN ?_ _ | refine Below.alloc ?_ (by first | (simp; done) | omega | (simp; omega) | (simp at *; omega)) _ | refine Below.setCell ?_ (by first | (simp; done) | omega | (simp; omega) | (simp at *; omega)) _ | refine Below.drew ?_)))
  rintro e w1 ⟨rfl, hb1⟩
  obtain ⟨hc1, hf1, hz1⟩ := bfacts hb1
  try simp at hz1
  have y0 : w.heap.size < w1.heap.size := by omega
  try (have y1 : w.heap.size + 1 < w1.heap.size := by omega)
  dsimp only
  repeat' (first | go_values | go_skip | go_guarded | (with_reducible (first | refine ex_then_ret ?_ | refine ex_then_exit ?_ | refine ex_then_normal ?_ | refine ex_block_ret ?_ | refine ex_block_normal ?_ | refine ex_block_same ?_ | refine ex_block_other (by decide) ?_)) | go_step | go_upon)
  refine Calls.mono (H1.out _ ?_) ?_
  · exact hT.below (by repeat (with_reducible (first | exact Below.refl _ _ | assumption | refine Below.to ?_ (by assumption) | refine below_drewN ?_ _ | refine Below.alloc ?_ (by first | (simp; done) | omega | (simp; omega) | (simp at *; omega)) _ | refine Below.setCell ?_ (by first | (simp; done) | omega | (simp; omega) | (simp at *; omega)) _ | refine Below.drew ?_)))
  rintro e v1 ⟨rfl, gb1⟩
  obtain ⟨gc1, gf1, gz1⟩ := bfacts gb1
  try simp at gz1
  clear H1
  have x1 : w.heap.size < v1.heap.size := by omega
  try (have x1' : w.heap.size + 1 < v1.heap.size := by omega)
  dsimp only
  repeat' (first | go_values | go_skip | go_guarded | (with_reducible (first | refine ex_then_ret ?_ | refine ex_then_exit ?_ | refine ex_then_normal ?_ | refine ex_block_ret ?_ | refine ex_block_normal ?_ | refine ex_block_same ?_ | refine ex_block_other (by decide) ?_)) | go_step | go_upon)
  all_goals go_ret
  all_goals exact gives_of (by simp) (by repeat (with_reducible (first | exact Below.refl _ _ | assumption | refine Below.to ?_ (by assumption) | refine below_drewN ?_ _ | refine Below.alloc ?_ (by first | (simp; done) | omega | (simp; omega) | (simp at *; omega)) _ | refine Below.setCell ?_ (by first | (simp; done) | omega | (simp; omega) | (simp at *; omega)) _ | refine Below.drew ?_)))
set_option maxHeartbeats 2000000 in
set_option maxRecDepth 100000 in
theorem sys (hw : Words [r0, r1, r2, r3, r4, r5, r6, r7]) (p0 : 0 ≤ pc) (p1 : pc < 4294967296) (hm : m.size ≤ 140737488355328) (hT : Tab w)
    (hs : (Cp.step [r0, r1, r2, r3, r4, r5, r6, r7] pc m).rs = [r0, r1, r2, r3, r4, r5, r6, r7]) (hp : (Cp.step [r0, r1, r2, r3, r4, r5, r6, r7] pc m).pc = (pc + 4) % 4294967296) (hk : (Cp.step [r0, r1, r2, r3, r4, r5, r6, r7] pc m).m = m) (ht : (Cp.step [r0, r1, r2, r3, r4, r5, r6, r7] pc m).t = 3) :
    Calls Tryd.prog 7 #[.agg #[.int .u32 r0, .int .u32 r1, .int .u32 r2, .int .u32 r3, .int .u32 r4, .int .u32 r5, .int .u32 r6, .int .u32 r7, .int .u32 pc], .string m] w (Gives (.bool true) w) := by
  have H1 := Lib.hid (Step_ex hw p0 p1 hm hs hp hk ht)
  clear hs hp hk ht
  have hA := arr_regs
  have z02 : w.heap.size < w.heap.size + 1 + 1 := by omega
  go_enter Tryd.func7, Tryd.ntmps7
  repeat' (first | go_values | go_skip | go_guarded | (with_reducible (first | refine ex_then_ret ?_ | refine ex_then_exit ?_ | refine ex_then_normal ?_ | refine ex_block_ret ?_ | refine ex_block_normal ?_ | refine ex_block_same ?_ | refine ex_block_other (by decide) ?_)) | go_step | go_upon)
  refine Calls.mono (LawDoes.shown _ ?_) ?_
  · exact hT.below (by repeat (with_reducible (first | exact Below.refl _ _ | assumption | refine Below.to ?_ (by assumption) | refine below_drewN ?_ _ | refine Below.alloc ?_ (by first | (simp; done) | omega | (simp; omega) | (simp at *; omega)) _ | refine Below.setCell ?_ (by first | (simp; done) | omega | (simp; omega) | (simp at *; omega)) _ | refine Below.drew ?_)))
  rintro e w1 ⟨rfl, hb1⟩
  obtain ⟨hc1, hf1, hz1⟩ := bfacts hb1
  try simp at hz1
  have y0 : w.heap.size < w1.heap.size := by omega
  try (have y1 : w.heap.size + 1 < w1.heap.size := by omega)
  dsimp only
  repeat' (first | go_values | go_skip | go_guarded | (with_reducible (first | refine ex_then_ret ?_ | refine ex_then_exit ?_ | refine ex_then_normal ?_ | refine ex_block_ret ?_ | refine ex_block_normal ?_ | refine ex_block_same ?_ | refine ex_block_other (by decide) ?_)) | go_step | go_upon)
  refine Calls.mono (H1.out _ ?_) ?_
  · exact hT.below (by repeat (with_reducible (first | exact Below.refl _ _ | assumption | refine Below.to ?_ (by assumption) | refine below_drewN ?_ _ | refine Below.alloc ?_ (by first | (simp; done) | omega | (simp; omega) | (simp at *; omega)) _ | refine Below.setCell ?_ (by first | (simp; done) | omega | (simp; omega) | (simp at *; omega)) _ | refine Below.drew ?_)))
  rintro e v1 ⟨rfl, gb1⟩
  obtain ⟨gc1, gf1, gz1⟩ := bfacts gb1
  try simp at gz1
  clear H1
  have x1 : w.heap.size < v1.heap.size := by omega
  try (have x1' : w.heap.size + 1 < v1.heap.size := by omega)
  dsimp only
  repeat' (first | go_values | go_skip | go_guarded | (with_reducible (first | refine ex_then_ret ?_ | refine ex_then_exit ?_ | refine ex_then_normal ?_ | refine ex_block_ret ?_ | refine ex_block_normal ?_ | refine ex_block_same ?_ | refine ex_block_other (by decide) ?_)) | go_step | go_upon)
  all_goals go_ret
  all_goals exact gives_of (by simp) (by repeat (with_reducible (first | exact Below.refl _ _ | assumption | refine Below.to ?_ (by assumption) | refine below_drewN ?_ _ | refine Below.alloc ?_ (by first | (simp; done) | omega | (simp; omega) | (simp at *; omega)) _ | refine Below.setCell ?_ (by first | (simp; done) | omega | (simp; omega) | (simp at *; omega)) _ | refine Below.drew ?_)))
set_option maxHeartbeats 2000000 in
set_option maxRecDepth 100000 in
theorem goes (k : ByteArray) (hw : Words [r0, r1, r2, r3, r4, r5, r6, r7]) (p0 : 0 ≤ pc) (p1 : pc < 4294967296) (hm : m.size ≤ 140737488355328) (hT : Tab w)
    (hk : (Cp.step [r0, r1, r2, r3, r4, r5, r6, r7] pc m).m = k) (hz : k.size = m.size) (ht : (Cp.step [r0, r1, r2, r3, r4, r5, r6, r7] pc m).t = 0) :
    Calls Tryd.prog 7 #[.agg #[.int .u32 r0, .int .u32 r1, .int .u32 r2, .int .u32 r3, .int .u32 r4, .int .u32 r5, .int .u32 r6, .int .u32 r7, .int .u32 pc], .string m] w (Gives (.bool true) w) := by
  have kk := step_kept hw p0 p1 m
  obtain ⟨s0, s1, s2, s3, s4, s5, s6, s7, hs, _⟩ := cpuV_ex 0 kk.words.1
  have H1 := Lib.hid (Step_ex hw p0 p1 hm hs rfl hk ht)
  generalize (Cp.step [r0, r1, r2, r3, r4, r5, r6, r7] pc m).pc = p at H1
  clear hs hk ht kk
  have hA := arr_regs
  have z02 : w.heap.size < w.heap.size + 1 + 1 := by omega
  have hz' : (k.size : Int) = (m.size : Int) := by omega
  go_enter Tryd.func7, Tryd.ntmps7
  repeat' (first | go_values | go_skip | go_guarded | (with_reducible (first | refine ex_then_ret ?_ | refine ex_then_exit ?_ | refine ex_then_normal ?_ | refine ex_block_ret ?_ | refine ex_block_normal ?_ | refine ex_block_same ?_ | refine ex_block_other (by decide) ?_)) | go_step | go_upon)
  refine Calls.mono (LawDoes.shown _ ?_) ?_
  · exact hT.below (by repeat (with_reducible (first | exact Below.refl _ _ | assumption | refine Below.to ?_ (by assumption) | refine below_drewN ?_ _ | refine Below.alloc ?_ (by first | (simp; done) | omega | (simp; omega) | (simp at *; omega)) _ | refine Below.setCell ?_ (by first | (simp; done) | omega | (simp; omega) | (simp at *; omega)) _ | refine Below.drew ?_)))
  rintro e w1 ⟨rfl, hb1⟩
  obtain ⟨hc1, hf1, hz1⟩ := bfacts hb1
  try simp at hz1
  have y0 : w.heap.size < w1.heap.size := by omega
  try (have y1 : w.heap.size + 1 < w1.heap.size := by omega)
  dsimp only
  repeat' (first | go_values | go_skip | go_guarded | (with_reducible (first | refine ex_then_ret ?_ | refine ex_then_exit ?_ | refine ex_then_normal ?_ | refine ex_block_ret ?_ | refine ex_block_normal ?_ | refine ex_block_same ?_ | refine ex_block_other (by decide) ?_)) | go_step | go_upon)
  refine Calls.mono (H1.out _ ?_) ?_
  · exact hT.below (by repeat (with_reducible (first | exact Below.refl _ _ | assumption | refine Below.to ?_ (by assumption) | refine below_drewN ?_ _ | refine Below.alloc ?_ (by first | (simp; done) | omega | (simp; omega) | (simp at *; omega)) _ | refine Below.setCell ?_ (by first | (simp; done) | omega | (simp; omega) | (simp at *; omega)) _ | refine Below.drew ?_)))
  rintro e v1 ⟨rfl, gb1⟩
  obtain ⟨gc1, gf1, gz1⟩ := bfacts gb1
  try simp at gz1
  clear H1
  have x1 : w.heap.size < v1.heap.size := by omega
  try (have x1' : w.heap.size + 1 < v1.heap.size := by omega)
  dsimp only
  repeat' (first | go_values | go_skip | go_guarded | (with_reducible (first | refine ex_then_ret ?_ | refine ex_then_exit ?_ | refine ex_then_normal ?_ | refine ex_block_ret ?_ | refine ex_block_normal ?_ | refine ex_block_same ?_ | refine ex_block_other (by decide) ?_)) | go_step | go_upon)
  all_goals go_ret
  all_goals exact gives_of (by simp) (by repeat (with_reducible (first | exact Below.refl _ _ | assumption | refine Below.to ?_ (by assumption) | refine below_drewN ?_ _ | refine Below.alloc ?_ (by first | (simp; done) | omega | (simp; omega) | (simp at *; omega)) _ | refine Below.setCell ?_ (by first | (simp; done) | omega | (simp; omega) | (simp at *; omega)) _ | refine Below.drew ?_)))
theorem walk (hw : Words [r0, r1, r2, r3, r4, r5, r6, r7]) (p0 : 0 ≤ pc) (p1 : pc < 4294967296) (hm : m.size ≤ 140737488355328) (hT : Tab w) :
    Calls Tryd.prog 7 #[.agg #[.int .u32 r0, .int .u32 r1, .int .u32 r2, .int .u32 r3, .int .u32 r4, .int .u32 r5, .int .u32 r6, .int .u32 r7, .int .u32 pc], .string m] w (Gives (.bool true) w) := by
  have kk := step_kept hw p0 p1 m
  rcases kk.ways with ⟨h1 | h2, hs, hp, hk⟩ | ⟨h3, hs, hp, hk⟩ | ⟨h0, _⟩
  · exact no1 r0 r1 r2 r3 r4 r5 r6 r7 pc m w hw p0 p1 hm hT hs hp hk h1
  · exact no2 r0 r1 r2 r3 r4 r5 r6 r7 pc m w hw p0 p1 hm hT hs hp hk h2
  · exact sys r0 r1 r2 r3 r4 r5 r6 r7 pc m w hw p0 p1 hm hT hs hp hk h3
  · exact goes r0 r1 r2 r3 r4 r5 r6 r7 pc m w _ hw p0 p1 hm hT rfl kk.size h0
end LawStays
end Go.Proofs.YtllemloicianmaaDoor
