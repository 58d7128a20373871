/- The law CpuDoes: cpu.Does is transomref03.Does; the document's example. Condition: the table isa.uses lies in its variable. -/
import Derived.Test.YtllemloicianmaaDoorCpuOpen
import Derived.Test.YtllemloicianmaaDoorCpuRDoes
import Derived.Test.YtllemloicianmaaDoorCpuArr
import Derived.WalkKit
import Derived.WalkSpells
import Derived.WalkLawsBesides
import Derived.Lib.Hide
import Derived.BigQuiet
import Derived.Deep.QuietTactic

set_option linter.unusedVariables false
set_option linter.unusedSimpArgs false
namespace Go.Proofs.YtllemloicianmaaDoor
open Go.RowKit

theorem doesR_len {rs : List Int} {pc op a b i : Int} (h : rs.length = 8) : (Cp.doesR rs pc op a b i).length = 8 := by
  unfold Cp.doesR Cp.regs
  split
  · split
    · exact h
    · simpa using h
  · exact h
theorem cpuV_ex {rs : List Int} (pc : Int) (h : rs.length = 8) : ∃ s0 s1 s2 s3 s4 s5 s6 s7, rs = [s0, s1, s2, s3, s4, s5, s6, s7] ∧
    Cp.cpuV rs pc = .agg #[.int .u32 s0, .int .u32 s1, .int .u32 s2, .int .u32 s3, .int .u32 s4, .int .u32 s5, .int .u32 s6, .int .u32 s7, .int .u32 pc] := by
  match rs, h with
  | [s0, s1, s2, s3, s4, s5, s6, s7], _ => exact ⟨s0, s1, s2, s3, s4, s5, s6, s7, rfl, rfl⟩

/-- Does at registers that are written out -/
theorem Does_ex {r0 r1 r2 r3 r4 r5 r6 r7 pc op a b i s0 s1 s2 s3 s4 s5 s6 s7 p : Int} {t : Bool} (hw : Words [r0, r1, r2, r3, r4, r5, r6, r7])
    (hs : Cp.doesR [r0, r1, r2, r3, r4, r5, r6, r7] pc op a b i = [s0, s1, s2, s3, s4, s5, s6, s7]) (hp : Cp.doesP [r0, r1, r2, r3, r4, r5, r6, r7] pc op a b i = p) (hb : Cp.doesB op a b i = t) (W : World) (hT : Tab W) :
    Calls Tryd.prog 13 #[.agg #[.int .u32 r0, .int .u32 r1, .int .u32 r2, .int .u32 r3, .int .u32 r4, .int .u32 r5, .int .u32 r6, .int .u32 r7, .int .u32 pc], .agg #[.int .i64 op, .int .i64 a, .int .i64 b, .int .i64 i]] W
      (Gives (.tuple #[.agg #[.int .u32 s0, .int .u32 s1, .int .u32 s2, .int .u32 s3, .int .u32 s4, .int .u32 s5, .int .u32 s6, .int .u32 s7, .int .u32 p], .bool t]) W) := by
  have h := Does_any [r0, r1, r2, r3, r4, r5, r6, r7] pc op a b i W hw hT
  rw [hs, hp, hb] at h
  exact h
theorem RDoes_ex {r0 r1 r2 r3 r4 r5 r6 r7 pc op a b i s0 s1 s2 s3 s4 s5 s6 s7 p : Int} {t : Bool} (hw : Words [r0, r1, r2, r3, r4, r5, r6, r7])
    (hs : Cp.doesR [r0, r1, r2, r3, r4, r5, r6, r7] pc op a b i = [s0, s1, s2, s3, s4, s5, s6, s7]) (hp : Cp.doesP [r0, r1, r2, r3, r4, r5, r6, r7] pc op a b i = p) (hb : Cp.doesB op a b i = t) (W : World) (hT : Tab W) :
    Calls Tryd.prog 14 #[.agg #[.int .u32 r0, .int .u32 r1, .int .u32 r2, .int .u32 r3, .int .u32 r4, .int .u32 r5, .int .u32 r6, .int .u32 r7, .int .u32 pc], .agg #[.int .i64 op, .int .i64 a, .int .i64 b, .int .i64 i]] W
      (Gives (.tuple #[.agg #[.int .u32 s0, .int .u32 s1, .int .u32 s2, .int .u32 s3, .int .u32 s4, .int .u32 s5, .int .u32 s6, .int .u32 s7, .int .u32 p], .bool t]) W) := by
  have h := RDoes_any [r0, r1, r2, r3, r4, r5, r6, r7] pc op a b i W hw hT
  rw [hs, hp, hb] at h
  exact h

namespace LawDoes
theorem words0 (x : Int) (h0 : 0 ≤ x) (h1 : x < 4294967296) : Words [0, x, 0, 0, 0, 0, 0, 0] := ⟨rfl, by intro y hy; simp only [List.mem_cons, List.not_mem_nil, or_false] at hy; omega⟩
set_option maxHeartbeats 2000000 in
set_option maxRecDepth 100000 in
theorem shown (w : World) (hT : Tab w) : Calls Tryd.prog 12 #[] w (Gives (.bool true) w) := by
  have H1 := Lib.hid (Does_ex (words0 0 (by omega) (by omega)) (pc := 0) (op := 1) (a := 1) (b := 0) (i := 5) (s0 := 0) (s1 := 5) (s2 := 0) (s3 := 0) (s4 := 0) (s5 := 0) (s6 := 0) (s7 := 0) (p := 4) (t := true) (by decide +kernel) (by decide +kernel) (by decide +kernel))
  have H2 := Lib.hid (Does_ex (words0 5 (by omega) (by omega)) (pc := 4) (op := 13) (a := 1) (b := 0) (i := -6) (s0 := 0) (s1 := 4294967295) (s2 := 0) (s3 := 0) (s4 := 0) (s5 := 0) (s6 := 0) (s7 := 0) (p := 8) (t := true) (by decide +kernel) (by decide +kernel) (by decide +kernel))
  go_enter Tryd.func12, Tryd.ntmps12
  go_wp2_with fail
  refine Calls.mono (H1.out _ ?_) ?_
  · exact hT.below (by repeat (with_reducible (first | exact Below.refl _ _ | assumption | refine Below.to ?_ (by assumption) | refine below_drewN ?_ _ | refine Below.alloc ?_ (by first | (simp; done) | omega | (simp; omega) | (simp at *; omega)) _ | refine Below.setCell ?_ (by first | (simp; done) | omega | (simp; omega) | (simp at *; omega)) _ | refine Below.drew ?_)))
  rintro e w1 ⟨rfl, hb1⟩
  obtain ⟨hc1, hf1, hz1⟩ := bfacts hb1
  clear H1
  dsimp only
  repeat' (first | go_values | go_skip | go_guarded | (with_reducible (first | refine ex_then_ret ?_ | refine ex_then_exit ?_ | refine ex_then_normal ?_ | refine ex_block_ret ?_ | refine ex_block_normal ?_ | refine ex_block_same ?_ | refine ex_block_other (by decide) ?_)) | go_step | go_upon)
  refine Calls.mono (H2.out _ ?_) ?_
  · exact hT.below (by repeat (with_reducible (first | exact Below.refl _ _ | assumption | refine Below.to ?_ (by assumption) | refine below_drewN ?_ _ | refine Below.alloc ?_ (by first | (simp; done) | omega | (simp; omega) | (simp at *; omega)) _ | refine Below.setCell ?_ (by first | (simp; done) | omega | (simp; omega) | (simp at *; omega)) _ | refine Below.drew ?_)))
  rintro e w2 ⟨rfl, hb2⟩
  obtain ⟨hc2, hf2, hz2⟩ := bfacts hb2
  clear H2
  dsimp only
  repeat' (first | go_values | go_skip | go_guarded | (with_reducible (first | refine ex_then_ret ?_ | refine ex_then_exit ?_ | refine ex_then_normal ?_ | refine ex_block_ret ?_ | refine ex_block_normal ?_ | refine ex_block_same ?_ | refine ex_block_other (by decide) ?_)) | go_step | go_upon)
  go_ret
  exact gives_of rfl (by repeat (with_reducible (first | exact Below.refl _ _ | assumption | refine Below.to ?_ (by assumption) | refine below_drewN ?_ _ | refine Below.alloc ?_ (by first | (simp; done) | omega | (simp; omega) | (simp at *; omega)) _ | refine Below.setCell ?_ (by first | (simp; done) | omega | (simp; omega) | (simp at *; omega)) _ | refine Below.drew ?_)))

set_option maxHeartbeats 2000000 in
set_option maxRecDepth 100000 in
theorem walk (r0 r1 r2 r3 r4 r5 r6 r7 pc op a b i : Int) (hw : Words [r0, r1, r2, r3, r4, r5, r6, r7]) (w : World) (hT : Tab w) :
    Calls Tryd.prog 3 #[.agg #[.int .u32 r0, .int .u32 r1, .int .u32 r2, .int .u32 r3, .int .u32 r4, .int .u32 r5, .int .u32 r6, .int .u32 r7, .int .u32 pc], .agg #[.int .i64 op, .int .i64 a, .int .i64 b, .int .i64 i]] w (Gives (.bool true) w) := by
  obtain ⟨s0, s1, s2, s3, s4, s5, s6, s7, hs, _⟩ := cpuV_ex 0 (doesR_len (pc := pc) (op := op) (a := a) (b := b) (i := i) hw.1)
  have H1 := Lib.hid (Does_ex hw hs rfl rfl)
  have H2 := Lib.hid (RDoes_ex hw hs rfl rfl)
  generalize Cp.doesP [r0, r1, r2, r3, r4, r5, r6, r7] pc op a b i = p at H1 H2
  generalize Cp.doesB op a b i = t at H1 H2
  clear hs
  have hA := arr_regs
  have z02 : w.heap.size < w.heap.size + 1 + 1 := by omega
  go_enter Tryd.func3, Tryd.ntmps3
  repeat' (first | go_values | go_skip | go_guarded | (with_reducible (first | refine ex_then_ret ?_ | refine ex_then_exit ?_ | refine ex_then_normal ?_ | refine ex_block_ret ?_ | refine ex_block_normal ?_ | refine ex_block_same ?_ | refine ex_block_other (by decide) ?_)) | go_step | go_upon)
  refine Calls.mono (shown _ ?_) ?_
  · exact hT.below (by repeat (with_reducible (first | exact Below.refl _ _ | assumption | refine Below.to ?_ (by assumption) | refine below_drewN ?_ _ | refine Below.alloc ?_ (by first | (simp; done) | omega | (simp; omega) | (simp at *; omega)) _ | refine Below.setCell ?_ (by first | (simp; done) | omega | (simp; omega) | (simp at *; omega)) _ | refine Below.drew ?_)))
  rintro e w1 ⟨rfl, hb1⟩
  obtain ⟨hc1, hf1, hz1⟩ := bfacts hb1
  simp at hz1
  have y0 : w.heap.size < w1.heap.size := by omega
  have y1 : w.heap.size + 1 < w1.heap.size := by omega
  dsimp only
  repeat' (first | go_values | go_skip | go_guarded | (with_reducible (first | refine ex_then_ret ?_ | refine ex_then_exit ?_ | refine ex_then_normal ?_ | refine ex_block_ret ?_ | refine ex_block_normal ?_ | refine ex_block_same ?_ | refine ex_block_other (by decide) ?_)) | go_step | go_upon)
  refine Calls.mono (H1.out _ ?_) ?_
  · exact hT.below (by repeat (with_reducible (first | exact Below.refl _ _ | assumption | refine Below.to ?_ (by assumption) | refine below_drewN ?_ _ | refine Below.alloc ?_ (by first | (simp; done) | omega | (simp; omega) | (simp at *; omega)) _ | refine Below.setCell ?_ (by first | (simp; done) | omega | (simp; omega) | (simp at *; omega)) _ | refine Below.drew ?_)))
  rintro e w2 ⟨rfl, hb2⟩
  obtain ⟨hc2, hf2, hz2⟩ := bfacts hb2
  have x0 : w.heap.size < w2.heap.size := by omega
  have x1 : w.heap.size + 1 < w2.heap.size := by omega
  clear H1
  dsimp only
  repeat' (first | go_values | go_skip | go_guarded | (with_reducible (first | refine ex_then_ret ?_ | refine ex_then_exit ?_ | refine ex_then_normal ?_ | refine ex_block_ret ?_ | refine ex_block_normal ?_ | refine ex_block_same ?_ | refine ex_block_other (by decide) ?_)) | go_step | go_upon)
  refine Calls.mono (H2.out _ ?_) ?_
  · exact hT.below (by repeat (with_reducible (first | exact Below.refl _ _ | assumption | refine Below.to ?_ (by assumption) | refine below_drewN ?_ _ | refine Below.alloc ?_ (by first | (simp; done) | omega | (simp; omega) | (simp at *; omega)) _ | refine Below.setCell ?_ (by first | (simp; done) | omega | (simp; omega) | (simp at *; omega)) _ | refine Below.drew ?_)))
  rintro e w3 ⟨rfl, hb3⟩
  obtain ⟨hc3, hf3, hz3⟩ := bfacts hb3
  simp at hz3
  have v0 : w2.heap.size < w3.heap.size := by omega
  clear H2
  dsimp only
  repeat' (first | go_values | go_skip | go_guarded | (with_reducible (first | refine ex_then_ret ?_ | refine ex_then_exit ?_ | refine ex_then_normal ?_ | refine ex_block_ret ?_ | refine ex_block_normal ?_ | refine ex_block_same ?_ | refine ex_block_other (by decide) ?_)) | go_step | go_upon)
  all_goals go_ret
  all_goals exact gives_of (by simp) (by repeat (with_reducible (first | exact Below.refl _ _ | assumption | refine Below.to ?_ (by assumption) | refine below_drewN ?_ _ | refine Below.alloc ?_ (by first | (simp; done) | omega | (simp; omega) | (simp at *; omega)) _ | refine Below.setCell ?_ (by first | (simp; done) | omega | (simp; omega) | (simp at *; omega)) _ | refine Below.drew ?_)))
end LawDoes
end Go.Proofs.YtllemloicianmaaDoor
