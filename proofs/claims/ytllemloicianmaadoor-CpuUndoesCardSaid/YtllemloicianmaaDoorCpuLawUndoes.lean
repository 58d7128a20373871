/- The walk of the law CpuUndoes: it answers true. Condition: the registers are words, the table of the uses lies. -/
import Derived.Test.YtllemloicianmaaDoorCpuGoesPlain
import Derived.Test.YtllemloicianmaaDoorCpuArr
import Derived.WalkKit
import Derived.WalkSpells
import Derived.WalkLawsBesides
import Derived.Lib.Hide
import Derived.BigQuiet
import Derived.Deep.QuietTactic

set_option linter.unusedVariables false
set_option linter.unusedSimpArgs false
namespace Go.Proofs.YtllemloicianmaaDoor
open Go.RowKit
namespace LawUndoes
variable (r0 r1 r2 r3 r4 r5 r6 r7 pc a b : Int) (w : World)
set_option maxHeartbeats 2000000 in
set_option maxRecDepth 100000 in
theorem out (hn : a < 0 ∨ 7 < a ∨ b < 0 ∨ 7 < b ∨ a = b) (hT : Tab w) :
    Calls Tryd.prog 5 #[.agg #[.int .u32 r0, .int .u32 r1, .int .u32 r2, .int .u32 r3, .int .u32 r4, .int .u32 r5, .int .u32 r6, .int .u32 r7, .int .u32 pc], .int .i64 a, .int .i64 b] w (Gives (.bool true) w) := by
  go_enter Tryd.func5, Tryd.ntmps5
  repeat' (first | go_values | go_skip | go_guarded | (with_reducible (first | refine ex_then_ret ?_ | refine ex_then_exit ?_ | refine ex_then_normal ?_ | refine ex_block_ret ?_ | refine ex_block_normal ?_ | refine ex_block_same ?_ | refine ex_block_other (by decide) ?_)) | go_step | go_upon)
  refine Calls.mono (LawDoes.shown _ ?_) ?_
  · exact hT.below (by repeat (with_reducible (first | exact Below.refl _ _ | assumption | refine Below.to ?_ (by assumption) | refine below_drewN ?_ _ | refine Below.alloc ?_ (by first | (simp; done) | omega | (simp; omega) | (simp at *; omega)) _ | refine Below.setCell ?_ (by first | (simp; done) | omega | (simp; omega) | (simp at *; omega)) _ | refine Below.drew ?_)))
  rintro e w1 ⟨rfl, hb1⟩
  obtain ⟨hc1, hf1, hz1⟩ := bfacts hb1
  try simp at hz1
  have y0 : w.heap.size < w1.heap.size := by omega
  try (have y1 : w.heap.size + 1 < w1.heap.size := by omega)
  dsimp only
  repeat' (first | go_values | go_skip | go_guarded | (with_reducible (first | refine ex_then_ret ?_ | refine ex_then_exit ?_ | refine ex_then_normal ?_ | refine ex_block_ret ?_ | refine ex_block_normal ?_ | refine ex_block_same ?_ | refine ex_block_other (by decide) ?_)) | go_step | go_upon)
  all_goals (first | (exfalso; simp at *; omega) | go_ret)
  all_goals exact gives_of (by simp) (by repeat (with_reducible (first | exact Below.refl _ _ | assumption | refine Below.to ?_ (by assumption) | refine below_drewN ?_ _ | refine Below.alloc ?_ (by first | (simp; done) | omega | (simp; omega) | (simp at *; omega)) _ | refine Below.setCell ?_ (by first | (simp; done) | omega | (simp; omega) | (simp at *; omega)) _ | refine Below.drew ?_)))

set_option maxHeartbeats 4000000 in
set_option maxRecDepth 100000 in
theorem within (ha0 : 0 ≤ a) (ha8 : a ≤ 7) (hb0 : 0 ≤ b) (hb8 : b ≤ 7) (hab : (a == b) = false) (hw : Words [r0, r1, r2, r3, r4, r5, r6, r7]) (hT : Tab w) :
    Calls Tryd.prog 5 #[.agg #[.int .u32 r0, .int .u32 r1, .int .u32 r2, .int .u32 r3, .int .u32 r4, .int .u32 r5, .int .u32 r6, .int .u32 r7, .int .u32 pc], .int .i64 a, .int .i64 b] w (Gives (.bool true) w) := by
  have hne : a ≠ b := by simpa using hab
  obtain ⟨s0, s1, s2, s3, s4, s5, s6, s7, hs, _⟩ := cpuV_ex 0 (doesR_len (pc := pc) (op := 4) (a := a) (b := b) (i := 0) hw.1)
  obtain ⟨t0, t1, t2, t3, t4, t5, t6, t7, ht, _⟩ := cpuV_ex 0 (doesR_len (pc := pc) (op := 10) (a := a) (b := b) (i := 0) hw.1)
  have ws := add_words hw ha0 (by omega) hb0 (by omega) pc
  have wt := xor_words8 hw ha0 (by omega) hb0 (by omega) pc
  have us := undo_add hw ha0 (by omega) hb0 (by omega) hne pc
  have ut := undo_xor hw ha0 (by omega) hb0 (by omega) hne pc
  rw [hs] at ws us
  rw [ht] at wt ut
  have H1 := Lib.hid (Does_ex hw hs rfl (may_ab (.inl rfl) ha0 (by omega) hb0 (by omega)))
  have H3 := Lib.hid (Does_ex hw ht rfl (may_ab (.inr (.inr rfl)) ha0 (by omega) hb0 (by omega)))
  generalize Cp.doesP [r0, r1, r2, r3, r4, r5, r6, r7] pc 4 a b 0 = p at H1
  generalize Cp.doesP [r0, r1, r2, r3, r4, r5, r6, r7] pc 10 a b 0 = q at H3
  have H2 := Lib.hid (Does_ex ws (us p) rfl (may_ab (.inr (.inl rfl)) ha0 (by omega) hb0 (by omega)))
  have H4 := Lib.hid (Does_ex wt (ut q) rfl (may_ab (.inr (.inr rfl)) ha0 (by omega) hb0 (by omega)))
  generalize Cp.doesP [s0, s1, s2, s3, s4, s5, s6, s7] p 5 a b 0 = p' at H2
  generalize Cp.doesP [t0, t1, t2, t3, t4, t5, t6, t7] q 10 a b 0 = q' at H4
  clear hs ht us ut hne
  have hA := arr_regs
  have z02 : w.heap.size < w.heap.size + 1 + 1 := by omega
  go_enter Tryd.func5, Tryd.ntmps5
  repeat' (first | go_values | go_skip | go_guarded | (with_reducible (first | refine ex_then_ret ?_ | refine ex_then_exit ?_ | refine ex_then_normal ?_ | refine ex_block_ret ?_ | refine ex_block_normal ?_ | refine ex_block_same ?_ | refine ex_block_other (by decide) ?_)) | go_step | go_upon)
  refine Calls.mono (LawDoes.shown _ ?_) ?_
  · exact hT.below (by repeat (with_reducible (first | exact Below.refl _ _ | assumption | refine Below.to ?_ (by assumption) | refine below_drewN ?_ _ | refine Below.alloc ?_ (by first | (simp; done) | omega | (simp; omega) | (simp at *; omega)) _ | refine Below.setCell ?_ (by first | (simp; done) | omega | (simp; omega) | (simp at *; omega)) _ | refine Below.drew ?_)))
  rintro e w1 ⟨rfl, hb1⟩
  obtain ⟨hc1, hf1, hz1⟩ := bfacts hb1
  try simp at hz1
  have y0 : w.heap.size < w1.heap.size := by omega
  try (have y1 : w.heap.size + 1 < w1.heap.size := by omega)
  dsimp only
  repeat' (first | go_values | go_skip | go_guarded | (with_reducible (first | refine ex_then_ret ?_ | refine ex_then_exit ?_ | refine ex_then_normal ?_ | refine ex_block_ret ?_ | refine ex_block_normal ?_ | refine ex_block_same ?_ | refine ex_block_other (by decide) ?_)) | go_step | go_upon)
  refine Calls.mono (H1.out _ ?_) ?_
  · exact hT.below (by repeat (with_reducible (first | exact Below.refl _ _ | assumption | refine Below.to ?_ (by assumption) | refine below_drewN ?_ _ | refine Below.alloc ?_ (by first | (simp; done) | omega | (simp; omega) | (simp at *; omega)) _ | refine Below.setCell ?_ (by first | (simp; done) | omega | (simp; omega) | (simp at *; omega)) _ | refine Below.drew ?_)))
  rintro e v1 ⟨rfl, gb1⟩
  obtain ⟨gc1, gf1, gz1⟩ := bfacts gb1
  try simp at gz1
  clear H1
  have x1 : w.heap.size < v1.heap.size := by omega
  try (have x1' : w.heap.size + 1 < v1.heap.size := by omega)
  dsimp only
  repeat' (first | go_values | go_skip | go_guarded | (with_reducible (first | refine ex_then_ret ?_ | refine ex_then_exit ?_ | refine ex_then_normal ?_ | refine ex_block_ret ?_ | refine ex_block_normal ?_ | refine ex_block_same ?_ | refine ex_block_other (by decide) ?_)) | go_step | go_upon)
  refine Calls.mono (H2.out _ ?_) ?_
  · exact hT.below (by repeat (with_reducible (first | exact Below.refl _ _ | assumption | refine Below.to ?_ (by assumption) | refine below_drewN ?_ _ | refine Below.alloc ?_ (by first | (simp; done) | omega | (simp; omega) | (simp at *; omega)) _ | refine Below.setCell ?_ (by first | (simp; done) | omega | (simp; omega) | (simp at *; omega)) _ | refine Below.drew ?_)))
  rintro e v2 ⟨rfl, gb2⟩
  obtain ⟨gc2, gf2, gz2⟩ := bfacts gb2
  try simp at gz2
  clear H2
  have x2 : w.heap.size < v2.heap.size := by omega
  try (have x2' : w.heap.size + 1 < v2.heap.size := by omega)
  try (have k12 : v1.heap.size < v2.heap.size := by omega)
  dsimp only
  repeat' (first | go_values | go_skip | go_guarded | (with_reducible (first | refine ex_then_ret ?_ | refine ex_then_exit ?_ | refine ex_then_normal ?_ | refine ex_block_ret ?_ | refine ex_block_normal ?_ | refine ex_block_same ?_ | refine ex_block_other (by decide) ?_)) | go_step | go_upon)
  refine Calls.mono (H3.out _ ?_) ?_
  · exact hT.below (by repeat (with_reducible (first | exact Below.refl _ _ | assumption | refine Below.to ?_ (by assumption) | refine below_drewN ?_ _ | refine Below.alloc ?_ (by first | (simp; done) | omega | (simp; omega) | (simp at *; omega)) _ | refine Below.setCell ?_ (by first | (simp; done) | omega | (simp; omega) | (simp at *; omega)) _ | refine Below.drew ?_)))
  rintro e v3 ⟨rfl, gb3⟩
  obtain ⟨gc3, gf3, gz3⟩ := bfacts gb3
  try simp at gz3
  clear H3
  have x3 : w.heap.size < v3.heap.size := by omega
  try (have x3' : w.heap.size + 1 < v3.heap.size := by omega)
  try (have k13 : v1.heap.size < v3.heap.size := by omega)
  try (have k23 : v2.heap.size < v3.heap.size := by omega)
  dsimp only
  repeat' (first | go_values | go_skip | go_guarded | (with_reducible (first | refine ex_then_ret ?_ | refine ex_then_exit ?_ | refine ex_then_normal ?_ | refine ex_block_ret ?_ | refine ex_block_normal ?_ | refine ex_block_same ?_ | refine ex_block_other (by decide) ?_)) | go_step | go_upon)
  refine Calls.mono (H4.out _ ?_) ?_
  · exact hT.below (by repeat (with_reducible (first | exact Below.refl _ _ | assumption | refine Below.to ?_ (by assumption) | refine below_drewN ?_ _ | refine Below.alloc ?_ (by first | (simp; done) | omega | (simp; omega) | (simp at *; omega)) _ | refine Below.setCell ?_ (by first | (simp; done) | omega | (simp; omega) | (simp at *; omega)) _ | refine Below.drew ?_)))
  rintro e v4 ⟨rfl, gb4⟩
  obtain ⟨gc4, gf4, gz4⟩ := bfacts gb4
  try simp at gz4
  clear H4
  have x4 : w.heap.size < v4.heap.size := by omega
  try (have x4' : w.heap.size + 1 < v4.heap.size := by omega)
  try (have k14 : v1.heap.size < v4.heap.size := by omega)
  try (have k24 : v2.heap.size < v4.heap.size := by omega)
  try (have k34 : v3.heap.size < v4.heap.size := by omega)
  dsimp only
  repeat' (first | go_values | go_skip | go_guarded | (with_reducible (first | refine ex_then_ret ?_ | refine ex_then_exit ?_ | refine ex_then_normal ?_ | refine ex_block_ret ?_ | refine ex_block_normal ?_ | refine ex_block_same ?_ | refine ex_block_other (by decide) ?_)) | go_step | go_upon)
  all_goals go_ret
  all_goals exact gives_of (by simp) (by repeat (with_reducible (first | exact Below.refl _ _ | assumption | refine Below.to ?_ (by assumption) | refine below_drewN ?_ _ | refine Below.alloc ?_ (by first | (simp; done) | omega | (simp; omega) | (simp at *; omega)) _ | refine Below.setCell ?_ (by first | (simp; done) | omega | (simp; omega) | (simp at *; omega)) _ | refine Below.drew ?_)))

theorem walk (hw : Words [r0, r1, r2, r3, r4, r5, r6, r7]) (hT : Tab w) :
    Calls Tryd.prog 5 #[.agg #[.int .u32 r0, .int .u32 r1, .int .u32 r2, .int .u32 r3, .int .u32 r4, .int .u32 r5, .int .u32 r6, .int .u32 r7, .int .u32 pc], .int .i64 a, .int .i64 b] w (Gives (.bool true) w) := by
  by_cases h : a < 0 ∨ 7 < a ∨ b < 0 ∨ 7 < b ∨ a = b
  · exact out r0 r1 r2 r3 r4 r5 r6 r7 pc a b w h hT
  · exact within r0 r1 r2 r3 r4 r5 r6 r7 pc a b w (by omega) (by omega) (by omega) (by omega) (by simp; omega) hw hT
end LawUndoes
end Go.Proofs.YtllemloicianmaaDoor
