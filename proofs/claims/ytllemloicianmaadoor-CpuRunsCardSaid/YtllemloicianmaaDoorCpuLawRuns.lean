/- The walks of the laws CpuRuns and CpuParts: they answer true. Conditions: the registers are words, the table of the uses lies. -/
import Derived.Test.YtllemloicianmaaDoorCpuRRun
import Derived.Test.YtllemloicianmaaDoorCpuArr
import Derived.WalkKit
import Derived.WalkSpells
import Derived.WalkLawsBesides
import Derived.Lib.Hide
import Derived.BigQuiet
import Derived.Deep.QuietTactic

set_option linter.unusedVariables false
set_option linter.unusedSimpArgs false
namespace Go.Proofs.YtllemloicianmaaDoor
open Go.RowKit
open Run

theorem run_kept : ∀ (n : Nat) {rs : List Int} (hw : Words rs) {pc : Int} (p0 : 0 ≤ pc) (p1 : pc < 4294967296) (m : ByteArray),
    Words (Cp.run n rs pc m).1.rs ∧ 0 ≤ (Cp.run n rs pc m).1.pc ∧ (Cp.run n rs pc m).1.pc < 4294967296 ∧ (Cp.run n rs pc m).1.m.size = m.size ∧ (Cp.run n rs pc m).2 ≤ n ∧ ((Cp.run n rs pc m).1.t = 0 → (Cp.run n rs pc m).2 = n)
  | 0, rs, hw, pc, p0, p1, m => ⟨hw, p0, p1, rfl, Nat.le_refl _, fun _ => rfl⟩
  | n + 1, rs, hw, pc, p0, p1, m => by
    have k := step_kept hw p0 p1 m
    by_cases h : (Cp.step rs pc m).t = 0
    · rw [run_go h]
      have ih := run_kept n k.words k.lo k.hi (Cp.step rs pc m).m
      exact ⟨ih.1, ih.2.1, ih.2.2.1, ih.2.2.2.1.trans k.size, by have := ih.2.2.2.2.1; omega, fun h0 => by have := ih.2.2.2.2.2 h0; omega⟩
    · rw [run_stop h]
      exact ⟨k.words, k.lo, k.hi, k.size, Nat.zero_le _, fun h0 => absurd h0 h⟩

theorem run_more : ∀ (a b : Nat) (rs : List Int) (pc : Int) (m : ByteArray), Cp.run (a + b) rs pc m =
    if (Cp.run a rs pc m).1.t = 0 then ((Cp.run b (Cp.run a rs pc m).1.rs (Cp.run a rs pc m).1.pc (Cp.run a rs pc m).1.m).1, (Cp.run a rs pc m).2 + (Cp.run b (Cp.run a rs pc m).1.rs (Cp.run a rs pc m).1.pc (Cp.run a rs pc m).1.m).2) else Cp.run a rs pc m
  | 0, b, rs, pc, m => by
    rw [Nat.zero_add]
    show _ = if (0 : Int) = 0 then ((Cp.run b rs pc m).1, 0 + (Cp.run b rs pc m).2) else _
    rw [if_pos rfl, Nat.zero_add]
  | a + 1, b, rs, pc, m => by
    rw [show a + 1 + b = (a + b) + 1 by omega]
    by_cases h : (Cp.step rs pc m).t = 0
    · rw [run_go h, run_go h, run_more a b]
      dsimp only
      split
      · dsimp only
        congr 1
        omega
      · rfl
    · rw [run_stop h, run_stop h, if_neg h]

theorem Run_ex {r0 r1 r2 r3 r4 r5 r6 r7 pc s0 s1 s2 s3 s4 s5 s6 s7 p t x n : Int} {m k : ByteArray} (hn : n ≤ 9223372036854775807) (hw : Words [r0, r1, r2, r3, r4, r5, r6, r7]) (p0 : 0 ≤ pc) (p1 : pc < 4294967296) (hm : m.size ≤ 140737488355328)
    (hs : (Cp.run n.toNat [r0, r1, r2, r3, r4, r5, r6, r7] pc m).1.rs = [s0, s1, s2, s3, s4, s5, s6, s7]) (hp : (Cp.run n.toNat [r0, r1, r2, r3, r4, r5, r6, r7] pc m).1.pc = p) (hk : (Cp.run n.toNat [r0, r1, r2, r3, r4, r5, r6, r7] pc m).1.m = k) (ht : (Cp.run n.toNat [r0, r1, r2, r3, r4, r5, r6, r7] pc m).1.t = t) (hx : ((Cp.run n.toNat [r0, r1, r2, r3, r4, r5, r6, r7] pc m).2 : Int) = x) (W : World) (hT : Tab W) :
    Calls Tryd.prog 18 #[.agg #[.int .u32 r0, .int .u32 r1, .int .u32 r2, .int .u32 r3, .int .u32 r4, .int .u32 r5, .int .u32 r6, .int .u32 r7, .int .u32 pc], .string m, .int .i64 n] W
      (Gives (.tuple #[.agg #[.int .u32 s0, .int .u32 s1, .int .u32 s2, .int .u32 s3, .int .u32 s4, .int .u32 s5, .int .u32 s6, .int .u32 s7, .int .u32 p], .string k, .int .i64 t, .int .i64 x]) W) := by
  have h := Run.any r0 r1 r2 r3 r4 r5 r6 r7 pc m W n hn hw p0 p1 hm hT
  rw [hs, hp, hk, ht, hx] at h
  exact h
theorem RRun_ex {r0 r1 r2 r3 r4 r5 r6 r7 pc s0 s1 s2 s3 s4 s5 s6 s7 p t x n : Int} {m k : ByteArray} (hn : n ≤ 9223372036854775807) (hw : Words [r0, r1, r2, r3, r4, r5, r6, r7]) (p0 : 0 ≤ pc) (p1 : pc < 4294967296) (hm : m.size < 4294967296)
    (hs : (Cp.run n.toNat [r0, r1, r2, r3, r4, r5, r6, r7] pc m).1.rs = [s0, s1, s2, s3, s4, s5, s6, s7]) (hp : (Cp.run n.toNat [r0, r1, r2, r3, r4, r5, r6, r7] pc m).1.pc = p) (hk : (Cp.run n.toNat [r0, r1, r2, r3, r4, r5, r6, r7] pc m).1.m = k) (ht : (Cp.run n.toNat [r0, r1, r2, r3, r4, r5, r6, r7] pc m).1.t = t) (hx : ((Cp.run n.toNat [r0, r1, r2, r3, r4, r5, r6, r7] pc m).2 : Int) = x) (W : World) (hT : Tab W) :
    Calls Tryd.prog 19 #[.agg #[.int .u32 r0, .int .u32 r1, .int .u32 r2, .int .u32 r3, .int .u32 r4, .int .u32 r5, .int .u32 r6, .int .u32 r7, .int .u32 pc], .string m, .int .i64 n] W
      (Gives (.tuple #[.agg #[.int .u32 s0, .int .u32 s1, .int .u32 s2, .int .u32 s3, .int .u32 s4, .int .u32 s5, .int .u32 s6, .int .u32 s7, .int .u32 p], .string k, .int .i64 t, .int .i64 x]) W) := by
  have h := RRun.any r0 r1 r2 r3 r4 r5 r6 r7 pc m W n hn hw p0 p1 hm hT
  rw [hs, hp, hk, ht, hx] at h
  exact h

namespace LawRuns
variable (r0 r1 r2 r3 r4 r5 r6 r7 pc n : Int) (m : ByteArray) (w : World)
set_option maxHeartbeats 2000000 in
set_option maxRecDepth 100000 in
theorem out (hn : 2000 < n ∨ 2000 < (m.size : Int)) (hT : Tab w) :
    Calls Tryd.prog 10 #[.agg #[.int .u32 r0, .int .u32 r1, .int .u32 r2, .int .u32 r3, .int .u32 r4, .int .u32 r5, .int .u32 r6, .int .u32 r7, .int .u32 pc], .string m, .int .i64 n] w (Gives (.bool true) w) := by
  rcases hn with h | h
  all_goals
    go_enter Tryd.func10, Tryd.ntmps10
    repeat' (first | (go_at_call 12; refine Calls.mono (LawDoes.shown _ (hT.below (by repeat (with_reducible (first | exact Below.refl _ _ | assumption | refine Below.to ?_ (by assumption) | refine below_drewN ?_ _ | refine Below.alloc ?_ (by first | (simp; done) | omega | (simp; omega) | (simp at *; omega)) _ | refine Below.setCell ?_ (by first | (simp; done) | omega | (simp; omega) | (simp at *; omega)) _ | refine Below.drew ?_))))) ?_; rintro e w1 ⟨rfl, hb1⟩; dsimp only) | go_values | go_skip | go_guarded | (with_reducible (first | refine ex_then_ret ?_ | refine ex_then_exit ?_ | refine ex_then_normal ?_ | refine ex_block_ret ?_ | refine ex_block_normal ?_ | refine ex_block_same ?_ | refine ex_block_other (by decide) ?_)) | go_step | go_upon)
    all_goals (first | (exfalso; simp at *; omega) | go_ret)
    all_goals exact gives_of (by simp) (by repeat (with_reducible (first | exact Below.refl _ _ | assumption | refine Below.to ?_ (by assumption) | refine below_drewN ?_ _ | refine Below.alloc ?_ (by first | (simp; done) | omega | (simp; omega) | (simp at *; omega)) _ | refine Below.setCell ?_ (by first | (simp; done) | omega | (simp; omega) | (simp at *; omega)) _ | refine Below.drew ?_)))
set_option maxHeartbeats 2000000 in
set_option maxRecDepth 100000 in
theorem within (hn : n ≤ 2000) (hm : (m.size : Int) ≤ 2000) (hw : Words [r0, r1, r2, r3, r4, r5, r6, r7]) (p0 : 0 ≤ pc) (p1 : pc < 4294967296) (hT : Tab w) :
    Calls Tryd.prog 10 #[.agg #[.int .u32 r0, .int .u32 r1, .int .u32 r2, .int .u32 r3, .int .u32 r4, .int .u32 r5, .int .u32 r6, .int .u32 r7, .int .u32 pc], .string m, .int .i64 n] w (Gives (.bool true) w) := by
  obtain ⟨s0, s1, s2, s3, s4, s5, s6, s7, hs, _⟩ := cpuV_ex 0 (run_kept n.toNat hw p0 p1 m).1.1
  have H1 := Lib.hid (Run_ex (show n ≤ 9223372036854775807 by omega) hw p0 p1 (by omega) hs rfl rfl rfl rfl)
  have H2 := Lib.hid (RRun_ex (show n ≤ 9223372036854775807 by omega) hw p0 p1 (by omega) hs rfl rfl rfl rfl)
  generalize (Cp.run n.toNat [r0, r1, r2, r3, r4, r5, r6, r7] pc m).1.pc = p at H1 H2
  generalize (Cp.run n.toNat [r0, r1, r2, r3, r4, r5, r6, r7] pc m).1.t = t at H1 H2
  generalize (Cp.run n.toNat [r0, r1, r2, r3, r4, r5, r6, r7] pc m).1.m = k at H1 H2
  generalize ((Cp.run n.toNat [r0, r1, r2, r3, r4, r5, r6, r7] pc m).2 : Int) = x at H1 H2
  clear hs
  have hA := arr_regs
  have z02 : w.heap.size < w.heap.size + 1 + 1 := by omega
  go_enter Tryd.func10, Tryd.ntmps10
  repeat' (first | go_values | go_skip | go_guarded | (with_reducible (first | refine ex_then_ret ?_ | refine ex_then_exit ?_ | refine ex_then_normal ?_ | refine ex_block_ret ?_ | refine ex_block_normal ?_ | refine ex_block_same ?_ | refine ex_block_other (by decide) ?_)) | go_step | go_upon)
  refine Calls.mono (LawDoes.shown _ ?_) ?_
  · exact hT.below (by repeat (with_reducible (first | exact Below.refl _ _ | assumption | refine Below.to ?_ (by assumption) | refine below_drewN ?_ _ | refine Below.alloc ?_ (by first | (simp; done) | omega | (simp; omega) | (simp at *; omega)) _ | refine Below.setCell ?_ (by first | (simp; done) | omega | (simp; omega) | (simp at *; omega)) _ | refine Below.drew ?_)))
  rintro e w1 ⟨rfl, hb1⟩
  obtain ⟨hc1, hf1, hz1⟩ := bfacts hb1
  try simp at hz1
  have y0 : w.heap.size < w1.heap.size := by omega
  try (have y1 : w.heap.size + 1 < w1.heap.size := by omega)
  dsimp only
  repeat' (first | go_values | go_skip | go_guarded | (with_reducible (first | refine ex_then_ret ?_ | refine ex_then_exit ?_ | refine ex_then_normal ?_ | refine ex_block_ret ?_ | refine ex_block_normal ?_ | refine ex_block_same ?_ | refine ex_block_other (by decide) ?_)) | go_step | go_upon)
  refine Calls.mono (H1.out _ ?_) ?_
  · exact hT.below (by repeat (with_reducible (first | exact Below.refl _ _ | assumption | refine Below.to ?_ (by assumption) | refine below_drewN ?_ _ | refine Below.alloc ?_ (by first | (simp; done) | omega | (simp; omega) | (simp at *; omega)) _ | refine Below.setCell ?_ (by first | (simp; done) | omega | (simp; omega) | (simp at *; omega)) _ | refine Below.drew ?_)))
  rintro e v1 ⟨rfl, gb1⟩
  obtain ⟨gc1, gf1, gz1⟩ := bfacts gb1
  try simp at gz1
  clear H1
  have x1 : w.heap.size < v1.heap.size := by omega
  try (have x1' : w.heap.size + 1 < v1.heap.size := by omega)
  dsimp only
  repeat' (first | go_values | go_skip | go_guarded | (with_reducible (first | refine ex_then_ret ?_ | refine ex_then_exit ?_ | refine ex_then_normal ?_ | refine ex_block_ret ?_ | refine ex_block_normal ?_ | refine ex_block_same ?_ | refine ex_block_other (by decide) ?_)) | go_step | go_upon)
  refine Calls.mono (H2.out _ ?_) ?_
  · exact hT.below (by repeat (with_reducible (first | exact Below.refl _ _ | assumption | refine Below.to ?_ (by assumption) | refine below_drewN ?_ _ | refine Below.alloc ?_ (by first | (simp; done) | omega | (simp; omega) | (simp at *; omega)) _ | refine Below.setCell ?_ (by first | (simp; done) | omega | (simp; omega) | (simp at *; omega)) _ | refine Below.drew ?_)))
  rintro e v2 ⟨rfl, gb2⟩
  obtain ⟨gc2, gf2, gz2⟩ := bfacts gb2
  try simp at gz2
  clear H2
  have x2 : w.heap.size < v2.heap.size := by omega
  try (have x2' : w.heap.size + 1 < v2.heap.size := by omega)
  try (have k12 : v1.heap.size < v2.heap.size := by omega)
  dsimp only
  repeat' (first | go_values | go_skip | go_guarded | (with_reducible (first | refine ex_then_ret ?_ | refine ex_then_exit ?_ | refine ex_then_normal ?_ | refine ex_block_ret ?_ | refine ex_block_normal ?_ | refine ex_block_same ?_ | refine ex_block_other (by decide) ?_)) | go_step | go_upon)
  all_goals go_ret
  all_goals exact gives_of (by simp) (by repeat (with_reducible (first | exact Below.refl _ _ | assumption | refine Below.to ?_ (by assumption) | refine below_drewN ?_ _ | refine Below.alloc ?_ (by first | (simp; done) | omega | (simp; omega) | (simp at *; omega)) _ | refine Below.setCell ?_ (by first | (simp; done) | omega | (simp; omega) | (simp at *; omega)) _ | refine Below.drew ?_)))
theorem walk (hw : Words [r0, r1, r2, r3, r4, r5, r6, r7]) (p0 : 0 ≤ pc) (p1 : pc < 4294967296) (hT : Tab w) :
    Calls Tryd.prog 10 #[.agg #[.int .u32 r0, .int .u32 r1, .int .u32 r2, .int .u32 r3, .int .u32 r4, .int .u32 r5, .int .u32 r6, .int .u32 r7, .int .u32 pc], .string m, .int .i64 n] w (Gives (.bool true) w) := by
  by_cases h : 2000 < n ∨ 2000 < (m.size : Int)
  · exact out r0 r1 r2 r3 r4 r5 r6 r7 pc n m w h hT
  · exact within r0 r1 r2 r3 r4 r5 r6 r7 pc n m w (by omega) (by omega) hw p0 p1 hT
end LawRuns

namespace LawParts
variable (r0 r1 r2 r3 r4 r5 r6 r7 pc a b : Int) (m : ByteArray) (w : World)
set_option maxHeartbeats 2000000 in
set_option maxRecDepth 100000 in
theorem out (hn : a < 0 ∨ b < 0 ∨ 1000 < a ∨ 1000 < b ∨ 2000 < (m.size : Int)) (hT : Tab w) :
    Calls Tryd.prog 11 #[.agg #[.int .u32 r0, .int .u32 r1, .int .u32 r2, .int .u32 r3, .int .u32 r4, .int .u32 r5, .int .u32 r6, .int .u32 r7, .int .u32 pc, .string m, .int .i64 a, .int .i64 b]] w (Gives (.bool true) w) := by
  go_enter Tryd.func11, Tryd.ntmps11
  repeat' (first | go_values | go_skip | go_guarded | (with_reducible (first | refine ex_then_ret ?_ | refine ex_then_exit ?_ | refine ex_then_normal ?_ | refine ex_block_ret ?_ | refine ex_block_normal ?_ | refine ex_block_same ?_ | refine ex_block_other (by decide) ?_)) | go_step | go_upon)
  refine Calls.mono (LawDoes.shown _ (hT.below (by repeat (with_reducible (first | exact Below.refl _ _ | assumption | refine Below.to ?_ (by assumption) | refine below_drewN ?_ _ | refine Below.alloc ?_ (by first | (simp; done) | omega | (simp; omega) | (simp at *; omega)) _ | refine Below.setCell ?_ (by first | (simp; done) | omega | (simp; omega) | (simp at *; omega)) _ | refine Below.drew ?_))))) ?_
  rintro e w1 ⟨rfl, hb1⟩
  obtain ⟨hc1, hf1, hz1⟩ := bfacts hb1
  try simp at hz1
  dsimp only
  repeat' (first | go_values | go_skip | go_guarded | (with_reducible (first | refine ex_then_ret ?_ | refine ex_then_exit ?_ | refine ex_then_normal ?_ | refine ex_block_ret ?_ | refine ex_block_normal ?_ | refine ex_block_same ?_ | refine ex_block_other (by decide) ?_)) | go_step | go_upon)
  all_goals (first | (exfalso; simp at *; omega) | go_ret)
  all_goals exact gives_of (by simp) (by repeat (with_reducible (first | exact Below.refl _ _ | assumption | refine Below.to ?_ (by assumption) | refine below_drewN ?_ _ | refine Below.alloc ?_ (by first | (simp; done) | omega | (simp; omega) | (simp at *; omega)) _ | refine Below.setCell ?_ (by first | (simp; done) | omega | (simp; omega) | (simp at *; omega)) _ | refine Below.drew ?_)))

set_option maxHeartbeats 4000000 in
set_option maxRecDepth 100000 in
theorem stops (ha0 : 0 ≤ a) (ha1 : a ≤ 1000) (hb0 : 0 ≤ b) (hb1 : b ≤ 1000) (hm : (m.size : Int) ≤ 2000) (hw : Words [r0, r1, r2, r3, r4, r5, r6, r7]) (p0 : 0 ≤ pc) (p1 : pc < 4294967296) (hT : Tab w) (ht : (Cp.run a.toNat [r0, r1, r2, r3, r4, r5, r6, r7] pc m).1.t ≠ 0) :
    Calls Tryd.prog 11 #[.agg #[.int .u32 r0, .int .u32 r1, .int .u32 r2, .int .u32 r3, .int .u32 r4, .int .u32 r5, .int .u32 r6, .int .u32 r7, .int .u32 pc, .string m, .int .i64 a, .int .i64 b]] w (Gives (.bool true) w) := by
  obtain ⟨s0, s1, s2, s3, s4, s5, s6, s7, hs, _⟩ := cpuV_ex 0 (run_kept a.toNat hw p0 p1 m).1.1
  have hab : Cp.run (a + b).toNat [r0, r1, r2, r3, r4, r5, r6, r7] pc m = Cp.run a.toNat [r0, r1, r2, r3, r4, r5, r6, r7] pc m := by
    rw [show (a + b).toNat = a.toNat + b.toNat by omega, run_more, if_neg ht]
  have H1 := Lib.hid (Run_ex (show a ≤ 9223372036854775807 by omega) hw p0 p1 (by omega) hs rfl rfl rfl rfl)
  have H2 := Lib.hid (Run_ex (m := m) (show a + b ≤ 9223372036854775807 by omega) hw p0 p1 (by omega) (by rw [hab]; exact hs) (by rw [hab]) (by rw [hab]) (by rw [hab]) (by rw [hab]))
  generalize (Cp.run a.toNat [r0, r1, r2, r3, r4, r5, r6, r7] pc m).1.pc = p at H1 H2
  generalize (Cp.run a.toNat [r0, r1, r2, r3, r4, r5, r6, r7] pc m).1.t = t at H1 H2 ht
  generalize (Cp.run a.toNat [r0, r1, r2, r3, r4, r5, r6, r7] pc m).1.m = k at H1 H2
  generalize ((Cp.run a.toNat [r0, r1, r2, r3, r4, r5, r6, r7] pc m).2 : Int) = x at H1 H2
  have ht' : (t == 0) = false := by simpa using ht
  have ht'' : (t != 0) = true := by simpa using ht
  clear hs hab ht
  have hA := arr_regs
  have z02 : w.heap.size < w.heap.size + 1 + 1 := by omega
  go_enter Tryd.func11, Tryd.ntmps11
  repeat' (first | go_values | go_skip | go_guarded | (with_reducible (first | refine ex_then_ret ?_ | refine ex_then_exit ?_ | refine ex_then_normal ?_ | refine ex_block_ret ?_ | refine ex_block_normal ?_ | refine ex_block_same ?_ | refine ex_block_other (by decide) ?_)) | go_step | go_upon)
  refine Calls.mono (LawDoes.shown _ ?_) ?_
  · exact hT.below (by repeat (with_reducible (first | exact Below.refl _ _ | assumption | refine Below.to ?_ (by assumption) | refine below_drewN ?_ _ | refine Below.alloc ?_ (by first | (simp; done) | omega | (simp; omega) | (simp at *; omega)) _ | refine Below.setCell ?_ (by first | (simp; done) | omega | (simp; omega) | (simp at *; omega)) _ | refine Below.drew ?_)))
  rintro e w1 ⟨rfl, hb1⟩
  obtain ⟨hc1, hf1, hz1⟩ := bfacts hb1
  try simp at hz1
  have y0 : w.heap.size < w1.heap.size := by omega
  try (have y1 : w.heap.size + 1 < w1.heap.size := by omega)
  dsimp only
  repeat' (first | go_values | go_skip | go_guarded | (with_reducible (first | refine ex_then_ret ?_ | refine ex_then_exit ?_ | refine ex_then_normal ?_ | refine ex_block_ret ?_ | refine ex_block_normal ?_ | refine ex_block_same ?_ | refine ex_block_other (by decide) ?_)) | go_step | go_upon)
  refine Calls.mono (H1.out _ ?_) ?_
  · exact hT.below (by repeat (with_reducible (first | exact Below.refl _ _ | assumption | refine Below.to ?_ (by assumption) | refine below_drewN ?_ _ | refine Below.alloc ?_ (by first | (simp; done) | omega | (simp; omega) | (simp at *; omega)) _ | refine Below.setCell ?_ (by first | (simp; done) | omega | (simp; omega) | (simp at *; omega)) _ | refine Below.drew ?_)))
  rintro e v1 ⟨rfl, gb1⟩
  obtain ⟨gc1, gf1, gz1⟩ := bfacts gb1
  try simp at gz1
  clear H1
  have x1 : w.heap.size < v1.heap.size := by omega
  try (have x1' : w.heap.size + 1 < v1.heap.size := by omega)
  dsimp only
  repeat' (first | go_values | go_skip | go_guarded | (with_reducible (first | refine ex_then_ret ?_ | refine ex_then_exit ?_ | refine ex_then_normal ?_ | refine ex_block_ret ?_ | refine ex_block_normal ?_ | refine ex_block_same ?_ | refine ex_block_other (by decide) ?_)) | go_step | go_upon)
  refine Calls.mono (H2.out _ ?_) ?_
  · exact hT.below (by repeat (with_reducible (first | exact Below.refl _ _ | assumption | refine Below.to ?_ (by assumption) | refine below_drewN ?_ _ | refine Below.alloc ?_ (by first | (simp; done) | omega | (simp; omega) | (simp at *; omega)) _ | refine Below.setCell ?_ (by first | (simp; done) | omega | (simp; omega) | (simp at *; omega)) _ | refine Below.drew ?_)))
  rintro e v2 ⟨rfl, gb2⟩
  obtain ⟨gc2, gf2, gz2⟩ := bfacts gb2
  try simp at gz2
  clear H2
  have x2 : w.heap.size < v2.heap.size := by omega
  try (have x2' : w.heap.size + 1 < v2.heap.size := by omega)
  try (have k12 : v1.heap.size < v2.heap.size := by omega)
  dsimp only
  repeat' (first | go_values | go_skip | go_guarded | (with_reducible (first | refine ex_then_ret ?_ | refine ex_then_exit ?_ | refine ex_then_normal ?_ | refine ex_block_ret ?_ | refine ex_block_normal ?_ | refine ex_block_same ?_ | refine ex_block_other (by decide) ?_)) | go_step | go_upon)
  all_goals go_ret
  all_goals exact gives_of (by simp) (by repeat (with_reducible (first | exact Below.refl _ _ | assumption | refine Below.to ?_ (by assumption) | refine below_drewN ?_ _ | refine Below.alloc ?_ (by first | (simp; done) | omega | (simp; omega) | (simp at *; omega)) _ | refine Below.setCell ?_ (by first | (simp; done) | omega | (simp; omega) | (simp at *; omega)) _ | refine Below.drew ?_)))

set_option maxHeartbeats 4000000 in
set_option maxRecDepth 100000 in
theorem goes (ha0 : 0 ≤ a) (ha1 : a ≤ 1000) (hb0 : 0 ≤ b) (hb1 : b ≤ 1000) (hm : (m.size : Int) ≤ 2000) (hw : Words [r0, r1, r2, r3, r4, r5, r6, r7]) (p0 : 0 ≤ pc) (p1 : pc < 4294967296) (hT : Tab w) (ht : (Cp.run a.toNat [r0, r1, r2, r3, r4, r5, r6, r7] pc m).1.t = 0) :
    Calls Tryd.prog 11 #[.agg #[.int .u32 r0, .int .u32 r1, .int .u32 r2, .int .u32 r3, .int .u32 r4, .int .u32 r5, .int .u32 r6, .int .u32 r7, .int .u32 pc, .string m, .int .i64 a, .int .i64 b]] w (Gives (.bool true) w) := by
  have kk := run_kept a.toNat hw p0 p1 m
  obtain ⟨s0, s1, s2, s3, s4, s5, s6, s7, hs, _⟩ := cpuV_ex 0 kk.1.1
  obtain ⟨p, hp⟩ : ∃ x, (Cp.run a.toNat [r0, r1, r2, r3, r4, r5, r6, r7] pc m).1.pc = x := ⟨_, rfl⟩
  obtain ⟨k, hk⟩ : ∃ x, (Cp.run a.toNat [r0, r1, r2, r3, r4, r5, r6, r7] pc m).1.m = x := ⟨_, rfl⟩
  have kx := kk.2.2.2.2.2 ht
  rw [hs, hp, hk] at kk
  have ll := run_kept b.toNat kk.1 kk.2.1 kk.2.2.1 k
  obtain ⟨t0, t1, t2, t3, t4, t5, t6, t7, hts, _⟩ := cpuV_ex 0 ll.1.1
  have hab : Cp.run (a + b).toNat [r0, r1, r2, r3, r4, r5, r6, r7] pc m = ((Cp.run b.toNat [s0, s1, s2, s3, s4, s5, s6, s7] p k).1, a.toNat + (Cp.run b.toNat [s0, s1, s2, s3, s4, s5, s6, s7] p k).2) := by
    rw [show (a + b).toNat = a.toNat + b.toNat by omega, run_more, if_pos ht, hs, hp, hk, kx]
  have H1 := Lib.hid (Run_ex (show a ≤ 9223372036854775807 by omega) hw p0 p1 (by omega) hs hp hk ht (x := a) (by rw [kx]; omega))
  have H2 := Lib.hid (Run_ex (show b ≤ 9223372036854775807 by omega) kk.1 kk.2.1 kk.2.2.1 (by have := kk.2.2.2.1; omega) hts rfl rfl rfl rfl)
  have H3 := Lib.hid (Run_ex (m := m) (show a + b ≤ 9223372036854775807 by omega) hw p0 p1 (by omega) (by rw [hab]; exact hts) (by rw [hab]) (by rw [hab]) (by rw [hab]) (x := a + ((Cp.run b.toNat [s0, s1, s2, s3, s4, s5, s6, s7] p k).2 : Int)) (by rw [hab]; simp only []; omega))
  have hy : (Cp.run b.toNat [s0, s1, s2, s3, s4, s5, s6, s7] p k).2 ≤ 1000 := by have := ll.2.2.2.2.1; omega
  simp only [] at H3
  generalize (Cp.run b.toNat [s0, s1, s2, s3, s4, s5, s6, s7] p k).1.pc = p' at H2 H3
  generalize (Cp.run b.toNat [s0, s1, s2, s3, s4, s5, s6, s7] p k).1.t = t' at H2 H3
  generalize (Cp.run b.toNat [s0, s1, s2, s3, s4, s5, s6, s7] p k).1.m = k' at H2 H3
  generalize (Cp.run b.toNat [s0, s1, s2, s3, s4, s5, s6, s7] p k).2 = y at H2 H3 hy
  clear hs hp hk hts hab ht kk ll kx
  have hA := arr_regs
  have z02 : w.heap.size < w.heap.size + 1 + 1 := by omega
  go_enter Tryd.func11, Tryd.ntmps11
  repeat' (first | go_values | go_skip | go_guarded | (with_reducible (first | refine ex_then_ret ?_ | refine ex_then_exit ?_ | refine ex_then_normal ?_ | refine ex_block_ret ?_ | refine ex_block_normal ?_ | refine ex_block_same ?_ | refine ex_block_other (by decide) ?_)) | go_step | go_upon)
  refine Calls.mono (LawDoes.shown _ ?_) ?_
  · exact hT.below (by repeat (with_reducible (first | exact Below.refl _ _ | assumption | refine Below.to ?_ (by assumption) | refine below_drewN ?_ _ | refine Below.alloc ?_ (by first | (simp; done) | omega | (simp; omega) | (simp at *; omega)) _ | refine Below.setCell ?_ (by first | (simp; done) | omega | (simp; omega) | (simp at *; omega)) _ | refine Below.drew ?_)))
  rintro e w1 ⟨rfl, hb1⟩
  obtain ⟨hc1, hf1, hz1⟩ := bfacts hb1
  try simp at hz1
  have y0 : w.heap.size < w1.heap.size := by omega
  try (have y1 : w.heap.size + 1 < w1.heap.size := by omega)
  dsimp only
  repeat' (first | go_values | go_skip | go_guarded | (with_reducible (first | refine ex_then_ret ?_ | refine ex_then_exit ?_ | refine ex_then_normal ?_ | refine ex_block_ret ?_ | refine ex_block_normal ?_ | refine ex_block_same ?_ | refine ex_block_other (by decide) ?_)) | go_step | go_upon)
  refine Calls.mono (H1.out _ ?_) ?_
  · exact hT.below (by repeat (with_reducible (first | exact Below.refl _ _ | assumption | refine Below.to ?_ (by assumption) | refine below_drewN ?_ _ | refine Below.alloc ?_ (by first | (simp; done) | omega | (simp; omega) | (simp at *; omega)) _ | refine Below.setCell ?_ (by first | (simp; done) | omega | (simp; omega) | (simp at *; omega)) _ | refine Below.drew ?_)))
  rintro e v1 ⟨rfl, gb1⟩
  obtain ⟨gc1, gf1, gz1⟩ := bfacts gb1
  try simp at gz1
  clear H1
  have x1 : w.heap.size < v1.heap.size := by omega
  try (have x1' : w.heap.size + 1 < v1.heap.size := by omega)
  dsimp only
  repeat' (first | go_values | go_skip | go_guarded | (with_reducible (first | refine ex_then_ret ?_ | refine ex_then_exit ?_ | refine ex_then_normal ?_ | refine ex_block_ret ?_ | refine ex_block_normal ?_ | refine ex_block_same ?_ | refine ex_block_other (by decide) ?_)) | go_step | go_upon)
  refine Calls.mono (H2.out _ ?_) ?_
  · exact hT.below (by repeat (with_reducible (first | exact Below.refl _ _ | assumption | refine Below.to ?_ (by assumption) | refine below_drewN ?_ _ | refine Below.alloc ?_ (by first | (simp; done) | omega | (simp; omega) | (simp at *; omega)) _ | refine Below.setCell ?_ (by first | (simp; done) | omega | (simp; omega) | (simp at *; omega)) _ | refine Below.drew ?_)))
  rintro e v2 ⟨rfl, gb2⟩
  obtain ⟨gc2, gf2, gz2⟩ := bfacts gb2
  try simp at gz2
  clear H2
  have x2 : w.heap.size < v2.heap.size := by omega
  try (have x2' : w.heap.size + 1 < v2.heap.size := by omega)
  try (have k12 : v1.heap.size < v2.heap.size := by omega)
  dsimp only
  repeat' (first | go_values | go_skip | go_guarded | (with_reducible (first | refine ex_then_ret ?_ | refine ex_then_exit ?_ | refine ex_then_normal ?_ | refine ex_block_ret ?_ | refine ex_block_normal ?_ | refine ex_block_same ?_ | refine ex_block_other (by decide) ?_)) | go_step | go_upon)
  refine Calls.mono (H3.out _ ?_) ?_
  · exact hT.below (by repeat (with_reducible (first | exact Below.refl _ _ | assumption | refine Below.to ?_ (by assumption) | refine below_drewN ?_ _ | refine Below.alloc ?_ (by first | (simp; done) | omega | (simp; omega) | (simp at *; omega)) _ | refine Below.setCell ?_ (by first | (simp; done) | omega | (simp; omega) | (simp at *; omega)) _ | refine Below.drew ?_)))
  rintro e v3 ⟨rfl, gb3⟩
  obtain ⟨gc3, gf3, gz3⟩ := bfacts gb3
  try simp at gz3
  clear H3
  have x3 : w.heap.size < v3.heap.size := by omega
  try (have x3' : w.heap.size + 1 < v3.heap.size := by omega)
  try (have k13 : v1.heap.size < v3.heap.size := by omega)
  try (have k23 : v2.heap.size < v3.heap.size := by omega)
  dsimp only
  repeat' (first | go_values | go_skip | go_guarded | (with_reducible (first | refine ex_then_ret ?_ | refine ex_then_exit ?_ | refine ex_then_normal ?_ | refine ex_block_ret ?_ | refine ex_block_normal ?_ | refine ex_block_same ?_ | refine ex_block_other (by decide) ?_)) | go_step | go_upon)
  all_goals go_ret
  all_goals exact gives_of (by simp) (by repeat (with_reducible (first | exact Below.refl _ _ | assumption | refine Below.to ?_ (by assumption) | refine below_drewN ?_ _ | refine Below.alloc ?_ (by first | (simp; done) | omega | (simp; omega) | (simp at *; omega)) _ | refine Below.setCell ?_ (by first | (simp; done) | omega | (simp; omega) | (simp at *; omega)) _ | refine Below.drew ?_)))
theorem walk (hw : Words [r0, r1, r2, r3, r4, r5, r6, r7]) (p0 : 0 ≤ pc) (p1 : pc < 4294967296) (hT : Tab w) :
    Calls Tryd.prog 11 #[.agg #[.int .u32 r0, .int .u32 r1, .int .u32 r2, .int .u32 r3, .int .u32 r4, .int .u32 r5, .int .u32 r6, .int .u32 r7, .int .u32 pc, .string m, .int .i64 a, .int .i64 b]] w (Gives (.bool true) w) := by
  by_cases h : a < 0 ∨ b < 0 ∨ 1000 < a ∨ 1000 < b ∨ 2000 < (m.size : Int)
  · exact out r0 r1 r2 r3 r4 r5 r6 r7 pc a b m w h hT
  · by_cases ht : (Cp.run a.toNat [r0, r1, r2, r3, r4, r5, r6, r7] pc m).1.t = 0
    · exact goes r0 r1 r2 r3 r4 r5 r6 r7 pc a b m w (by omega) (by omega) (by omega) (by omega) (by omega) hw p0 p1 hT ht
    · exact stops r0 r1 r2 r3 r4 r5 r6 r7 pc a b m w (by omega) (by omega) (by omega) (by omega) (by omega) hw p0 p1 hT ht
end LawParts
end Go.Proofs.YtllemloicianmaaDoor
