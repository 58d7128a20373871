/- cpu.Step at loads. Condition: the registers are words. -/
import Derived.Test.YtllemloicianmaaDoorCpuStepA
import Derived.WalkKit
import Derived.WalkSpells
import Derived.WalkLawsBesides
import Derived.Lib.Hide
import Derived.BigQuiet
import Derived.Deep.QuietTactic

set_option linter.unusedVariables false
set_option linter.unusedSimpArgs false
namespace Go.Proofs.YtllemloicianmaaDoor
open Go.RowKit
namespace Step
variable (r0 r1 r2 r3 r4 r5 r6 r7 pc : Int) (m : ByteArray) (w : World)
set_option maxHeartbeats 4000000 in
set_option maxRecDepth 100000 in
theorem lw_yes (x a b i ra rb : Int) (hm : m.size ≤ 140737488355328) (p0 : 0 ≤ pc) (p1 : pc < 4294967296) (h : Sg.isWord m pc = true) (hx : Sg.word m pc.toNat = x)
   (ho : takeV x = .tuple #[.agg #[.int .i64 14, .int .i64 a, .int .i64 b, .int .i64 i], .int .i64 0]) (hT : Tab w) (hf : Sg.isWord m ((rb + i) % 4294967296) = true)
   (h0 : 0 ≤ a) (h1 : a < 8) (h2 : 0 ≤ b) (h3 : b < 8) (q0 : 0 ≤ ra) (q1 : ra < 4294967296) (ha : [Value.int .u32 r0, .int .u32 r1, .int .u32 r2, .int .u32 r3, .int .u32 r4, .int .u32 r5, .int .u32 r6, .int .u32 r7, .int .u32 pc][a.toNat]? = some (.int .u32 ra)) (hb : [Value.int .u32 r0, .int .u32 r1, .int .u32 r2, .int .u32 r3, .int .u32 r4, .int .u32 r5, .int .u32 r6, .int .u32 r7, .int .u32 pc][b.toNat]? = some (.int .u32 rb)) :
    Calls Tryd.prog 15 #[.agg #[.int .u32 r0, .int .u32 r1, .int .u32 r2, .int .u32 r3, .int .u32 r4, .int .u32 r5, .int .u32 r6, .int .u32 r7, .int .u32 pc], .string m] w (Gives (.tuple #[Cp.cpuV ([r0, r1, r2, r3, r4, r5, r6, r7].set a.toNat (Sg.word m ((rb + i) % 4294967296).toNat)) ((pc + 4) % 4294967296), .string m, .int .i64 0]) w) := by
  have x0 := Sg.word_lo m pc.toNat
  have x1 := Sg.word_hi m pc.toNat
  have HL := fun W => Seg.Load_word m pc W hm p0 p1 h
  rw [hx] at x0 x1 HL
  have HT := fun W hT => Take.any x W x0 x1 hT
  rw [ho] at HT
  have H1 := Lib.hid HL
  have H2 := Lib.hid HT
  have d0 : 0 ≤ (rb + i) % 4294967296 := Int.emod_nonneg _ (by omega)
  have d1 : (rb + i) % 4294967296 < 4294967296 := Int.emod_lt_of_pos _ (by omega)
  have H3 := Lib.hid (fun W => Seg.Load_word m _ W hm d0 d1 hf)
  clear HL HT hx h ho d0 d1
  have z02 : w.heap.size < w.heap.size + 1 + 1 := by omega
  have z03 : w.heap.size < w.heap.size + 1 + 1 + 1 := by omega
  have z13 : w.heap.size + 1 < w.heap.size + 1 + 1 + 1 := by omega
  go_enter Tryd.func15, Tryd.ntmps15
  repeat' (first | (go_at_call 24; refine Calls.mono (H1.out _) ?_; rintro e w' ⟨rfl, rfl⟩; dsimp only) | go_values | go_skip | go_guarded | (with_reducible (first | refine ex_then_ret ?_ | refine ex_then_exit ?_ | refine ex_then_normal ?_ | refine ex_block_ret ?_ | refine ex_block_normal ?_ | refine ex_block_same ?_ | refine ex_block_other (by decide) ?_)) | go_step | go_upon)
  clear H1
  refine Calls.mono (H2.out _ ?_) ?_
  · exact hT.below (by repeat (with_reducible (first | exact Below.refl _ _ | assumption | refine Below.to ?_ (by assumption) | refine below_drewN ?_ _ | refine Below.alloc ?_ (by first | (simp; done) | omega | (simp; omega) | (simp at *; omega)) _ | refine Below.setCell ?_ (by first | (simp; done) | omega | (simp; omega) | (simp at *; omega)) _ | refine Below.drew ?_)))
  rintro e w1 ⟨rfl, hb1⟩
  obtain ⟨chb1, fhb1, zhb1⟩ := bfacts hb1
  try simp at zhb1
  have y0hb1 : w.heap.size < w1.heap.size := by omega
  try (have y1hb1 : w.heap.size + 1 < w1.heap.size := by omega)
  try (have y2hb1 : w.heap.size + 1 + 1 < w1.heap.size := by omega)
  dsimp only
  clear H2
  have hcs : ∀ O o, (w1.alloc O).cell? ⟨w.heap.size, o, none⟩ = (([r0, r1, r2, r3, r4, r5, r6, r7] ++ [pc]).map (Value.int .u32))[o]? := by
    intro O o
    rw [cell_alloc_old (by omega), chb1 _ _ (by simp only [World.size_alloc]; omega), cell_alloc_old (by simp only [World.size_alloc]; omega), World.cell?_alloc_mark]
    simp
  have up0 := fun O n v => Does.updA (hcs O) a.toNat (by simp; omega) n v 0 (by simp)
  have up1 := fun O n v => Does.updA (hcs O) a.toNat (by simp; omega) n v 1 (by simp)
  have up2 := fun O n v => Does.updA (hcs O) a.toNat (by simp; omega) n v 2 (by simp)
  have up3 := fun O n v => Does.updA (hcs O) a.toNat (by simp; omega) n v 3 (by simp)
  have up4 := fun O n v => Does.updA (hcs O) a.toNat (by simp; omega) n v 4 (by simp)
  have up5 := fun O n v => Does.updA (hcs O) a.toNat (by simp; omega) n v 5 (by simp)
  have up6 := fun O n v => Does.updA (hcs O) a.toNat (by simp; omega) n v 6 (by simp)
  have up7 := fun O n v => Does.updA (hcs O) a.toNat (by simp; omega) n v 7 (by simp)
  have up8 := fun O n v => (Does.updA (hcs O) a.toNat (by simp; omega) n v 8 (by simp)).trans (congrArg (fun z => some (Value.int .u32 z)) (upd_pc (p := pc) (x := v) (show a.toNat < 8 by omega)))
  clear hcs
  repeat' (first | go_values | go_skip | go_guarded | (with_reducible (first | refine ex_then_ret ?_ | refine ex_then_exit ?_ | refine ex_then_normal ?_ | refine ex_block_ret ?_ | refine ex_block_normal ?_ | refine ex_block_same ?_ | refine ex_block_other (by decide) ?_)) | go_step | go_upon | go_quiet (fail))
  refine Calls.mono (H3.out _) ?_
  rintro e w' ⟨rfl, rfl⟩
  dsimp only
  repeat' (first | go_values | go_skip | go_guarded | (with_reducible (first | refine ex_then_ret ?_ | refine ex_then_exit ?_ | refine ex_then_normal ?_ | refine ex_block_ret ?_ | refine ex_block_normal ?_ | refine ex_block_same ?_ | refine ex_block_other (by decide) ?_)) | go_step | go_upon | go_quiet (fail))
  all_goals (apply bodyPost_ret; (simp only [results, Tryd.results15]; go_simp; exact rfl); rfl)
  all_goals refine gives_of (three (Cp.cpu_eq (by omega) ?_ ?_) rfl) (by repeat (with_reducible (first | exact Below.refl _ _ | assumption | refine Below.to ?_ (by assumption) | refine below_drewN ?_ _ | refine Below.alloc ?_ (by first | (simp; done) | omega | (simp; omega) | (simp at *; omega)) _ | refine Below.setCell ?_ (by first | (simp; done) | omega | (simp; omega) | (simp at *; omega)) _ | refine Below.drew ?_)))
  all_goals (first | rfl | (simp; done) | (simp; omega) | omega)
set_option maxHeartbeats 4000000 in
set_option maxRecDepth 100000 in
theorem lw_no (x a b i ra rb : Int) (hm : m.size ≤ 140737488355328) (p0 : 0 ≤ pc) (p1 : pc < 4294967296) (h : Sg.isWord m pc = true) (hx : Sg.word m pc.toNat = x)
   (ho : takeV x = .tuple #[.agg #[.int .i64 14, .int .i64 a, .int .i64 b, .int .i64 i], .int .i64 0]) (hT : Tab w) (hf : Sg.isWord m ((rb + i) % 4294967296) = false)
   (h0 : 0 ≤ a) (h1 : a < 8) (h2 : 0 ≤ b) (h3 : b < 8) (q0 : 0 ≤ ra) (q1 : ra < 4294967296) (ha : [Value.int .u32 r0, .int .u32 r1, .int .u32 r2, .int .u32 r3, .int .u32 r4, .int .u32 r5, .int .u32 r6, .int .u32 r7, .int .u32 pc][a.toNat]? = some (.int .u32 ra)) (hb : [Value.int .u32 r0, .int .u32 r1, .int .u32 r2, .int .u32 r3, .int .u32 r4, .int .u32 r5, .int .u32 r6, .int .u32 r7, .int .u32 pc][b.toNat]? = some (.int .u32 rb)) :
    Calls Tryd.prog 15 #[.agg #[.int .u32 r0, .int .u32 r1, .int .u32 r2, .int .u32 r3, .int .u32 r4, .int .u32 r5, .int .u32 r6, .int .u32 r7, .int .u32 pc], .string m] w (Gives (.tuple #[.agg #[.int .u32 r0, .int .u32 r1, .int .u32 r2, .int .u32 r3, .int .u32 r4, .int .u32 r5, .int .u32 r6, .int .u32 r7, .int .u32 pc], .string m, .int .i64 2]) w) := by
  have x0 := Sg.word_lo m pc.toNat
  have x1 := Sg.word_hi m pc.toNat
  have HL := fun W => Seg.Load_word m pc W hm p0 p1 h
  rw [hx] at x0 x1 HL
  have HT := fun W hT => Take.any x W x0 x1 hT
  rw [ho] at HT
  have H1 := Lib.hid HL
  have H2 := Lib.hid HT
  have d0 : 0 ≤ (rb + i) % 4294967296 := Int.emod_nonneg _ (by omega)
  have d1 : (rb + i) % 4294967296 < 4294967296 := Int.emod_lt_of_pos _ (by omega)
  have H3 := Lib.hid (fun W => Seg.Load_no m _ W hm d0 d1 hf)
  clear HL HT hx h ho d0 d1
  have z02 : w.heap.size < w.heap.size + 1 + 1 := by omega
  have z03 : w.heap.size < w.heap.size + 1 + 1 + 1 := by omega
  have z13 : w.heap.size + 1 < w.heap.size + 1 + 1 + 1 := by omega
  go_enter Tryd.func15, Tryd.ntmps15
  repeat' (first | (go_at_call 24; refine Calls.mono (H1.out _) ?_; rintro e w' ⟨rfl, rfl⟩; dsimp only) | go_values | go_skip | go_guarded | (with_reducible (first | refine ex_then_ret ?_ | refine ex_then_exit ?_ | refine ex_then_normal ?_ | refine ex_block_ret ?_ | refine ex_block_normal ?_ | refine ex_block_same ?_ | refine ex_block_other (by decide) ?_)) | go_step | go_upon)
  clear H1
  refine Calls.mono (H2.out _ ?_) ?_
  · exact hT.below (by repeat (with_reducible (first | exact Below.refl _ _ | assumption | refine Below.to ?_ (by assumption) | refine below_drewN ?_ _ | refine Below.alloc ?_ (by first | (simp; done) | omega | (simp; omega) | (simp at *; omega)) _ | refine Below.setCell ?_ (by first | (simp; done) | omega | (simp; omega) | (simp at *; omega)) _ | refine Below.drew ?_)))
  rintro e w1 ⟨rfl, hb1⟩
  obtain ⟨chb1, fhb1, zhb1⟩ := bfacts hb1
  try simp at zhb1
  have y0hb1 : w.heap.size < w1.heap.size := by omega
  try (have y1hb1 : w.heap.size + 1 < w1.heap.size := by omega)
  try (have y2hb1 : w.heap.size + 1 + 1 < w1.heap.size := by omega)
  dsimp only
  clear H2

  repeat' (first | go_values | go_skip | go_guarded | (with_reducible (first | refine ex_then_ret ?_ | refine ex_then_exit ?_ | refine ex_then_normal ?_ | refine ex_block_ret ?_ | refine ex_block_normal ?_ | refine ex_block_same ?_ | refine ex_block_other (by decide) ?_)) | go_step | go_upon | go_quiet (fail))
  refine Calls.mono (H3.out _) ?_
  rintro e w' ⟨rfl, rfl⟩
  dsimp only
  repeat' (first | go_values | go_skip | go_guarded | (with_reducible (first | refine ex_then_ret ?_ | refine ex_then_exit ?_ | refine ex_then_normal ?_ | refine ex_block_ret ?_ | refine ex_block_normal ?_ | refine ex_block_same ?_ | refine ex_block_other (by decide) ?_)) | go_step | go_upon | go_quiet (fail))
  all_goals (apply bodyPost_ret; (simp only [results, Tryd.results15]; go_simp; exact rfl); rfl)
  all_goals exact gives_of rfl (by repeat (with_reducible (first | exact Below.refl _ _ | assumption | refine Below.to ?_ (by assumption) | refine below_drewN ?_ _ | refine Below.alloc ?_ (by first | (simp; done) | omega | (simp; omega) | (simp at *; omega)) _ | refine Below.setCell ?_ (by first | (simp; done) | omega | (simp; omega) | (simp at *; omega)) _ | refine Below.drew ?_)))
set_option maxHeartbeats 4000000 in
set_option maxRecDepth 100000 in
theorem lb_yes (x a b i ra rb : Int) (hm : m.size ≤ 140737488355328) (p0 : 0 ≤ pc) (p1 : pc < 4294967296) (h : Sg.isWord m pc = true) (hx : Sg.word m pc.toNat = x)
   (ho : takeV x = .tuple #[.agg #[.int .i64 16, .int .i64 a, .int .i64 b, .int .i64 i], .int .i64 0]) (hT : Tab w) (hf : Sg.has m ((rb + i) % 4294967296) 1 = true)
   (h0 : 0 ≤ a) (h1 : a < 8) (h2 : 0 ≤ b) (h3 : b < 8) (q0 : 0 ≤ ra) (q1 : ra < 4294967296) (ha : [Value.int .u32 r0, .int .u32 r1, .int .u32 r2, .int .u32 r3, .int .u32 r4, .int .u32 r5, .int .u32 r6, .int .u32 r7, .int .u32 pc][a.toNat]? = some (.int .u32 ra)) (hb : [Value.int .u32 r0, .int .u32 r1, .int .u32 r2, .int .u32 r3, .int .u32 r4, .int .u32 r5, .int .u32 r6, .int .u32 r7, .int .u32 pc][b.toNat]? = some (.int .u32 rb)) :
    Calls Tryd.prog 15 #[.agg #[.int .u32 r0, .int .u32 r1, .int .u32 r2, .int .u32 r3, .int .u32 r4, .int .u32 r5, .int .u32 r6, .int .u32 r7, .int .u32 pc], .string m] w (Gives (.tuple #[Cp.cpuV ([r0, r1, r2, r3, r4, r5, r6, r7].set a.toNat (Sg.byte m ((rb + i) % 4294967296).toNat)) ((pc + 4) % 4294967296), .string m, .int .i64 0]) w) := by
  have x0 := Sg.word_lo m pc.toNat
  have x1 := Sg.word_hi m pc.toNat
  have HL := fun W => Seg.Load_word m pc W hm p0 p1 h
  rw [hx] at x0 x1 HL
  have HT := fun W hT => Take.any x W x0 x1 hT
  rw [ho] at HT
  have H1 := Lib.hid HL
  have H2 := Lib.hid HT
  have d0 : 0 ≤ (rb + i) % 4294967296 := Int.emod_nonneg _ (by omega)
  have d1 : (rb + i) % 4294967296 < 4294967296 := Int.emod_lt_of_pos _ (by omega)
  have H3 := Lib.hid (fun W => Seg.Byte_yes m _ W hm d0 d1 hf)
  clear HL HT hx h ho d0 d1
  have z02 : w.heap.size < w.heap.size + 1 + 1 := by omega
  have z03 : w.heap.size < w.heap.size + 1 + 1 + 1 := by omega
  have z13 : w.heap.size + 1 < w.heap.size + 1 + 1 + 1 := by omega
  go_enter Tryd.func15, Tryd.ntmps15
  repeat' (first | (go_at_call 24; refine Calls.mono (H1.out _) ?_; rintro e w' ⟨rfl, rfl⟩; dsimp only) | go_values | go_skip | go_guarded | (with_reducible (first | refine ex_then_ret ?_ | refine ex_then_exit ?_ | refine ex_then_normal ?_ | refine ex_block_ret ?_ | refine ex_block_normal ?_ | refine ex_block_same ?_ | refine ex_block_other (by decide) ?_)) | go_step | go_upon)
  clear H1
  refine Calls.mono (H2.out _ ?_) ?_
  · exact hT.below (by repeat (with_reducible (first | exact Below.refl _ _ | assumption | refine Below.to ?_ (by assumption) | refine below_drewN ?_ _ | refine Below.alloc ?_ (by first | (simp; done) | omega | (simp; omega) | (simp at *; omega)) _ | refine Below.setCell ?_ (by first | (simp; done) | omega | (simp; omega) | (simp at *; omega)) _ | refine Below.drew ?_)))
  rintro e w1 ⟨rfl, hb1⟩
  obtain ⟨chb1, fhb1, zhb1⟩ := bfacts hb1
  try simp at zhb1
  have y0hb1 : w.heap.size < w1.heap.size := by omega
  try (have y1hb1 : w.heap.size + 1 < w1.heap.size := by omega)
  try (have y2hb1 : w.heap.size + 1 + 1 < w1.heap.size := by omega)
  dsimp only
  clear H2
  have hcs : ∀ O o, (w1.alloc O).cell? ⟨w.heap.size, o, none⟩ = (([r0, r1, r2, r3, r4, r5, r6, r7] ++ [pc]).map (Value.int .u32))[o]? := by
    intro O o
    rw [cell_alloc_old (by omega), chb1 _ _ (by simp only [World.size_alloc]; omega), cell_alloc_old (by simp only [World.size_alloc]; omega), World.cell?_alloc_mark]
    simp
  have up0 := fun O n v => Does.updA (hcs O) a.toNat (by simp; omega) n v 0 (by simp)
  have up1 := fun O n v => Does.updA (hcs O) a.toNat (by simp; omega) n v 1 (by simp)
  have up2 := fun O n v => Does.updA (hcs O) a.toNat (by simp; omega) n v 2 (by simp)
  have up3 := fun O n v => Does.updA (hcs O) a.toNat (by simp; omega) n v 3 (by simp)
  have up4 := fun O n v => Does.updA (hcs O) a.toNat (by simp; omega) n v 4 (by simp)
  have up5 := fun O n v => Does.updA (hcs O) a.toNat (by simp; omega) n v 5 (by simp)
  have up6 := fun O n v => Does.updA (hcs O) a.toNat (by simp; omega) n v 6 (by simp)
  have up7 := fun O n v => Does.updA (hcs O) a.toNat (by simp; omega) n v 7 (by simp)
  have up8 := fun O n v => (Does.updA (hcs O) a.toNat (by simp; omega) n v 8 (by simp)).trans (congrArg (fun z => some (Value.int .u32 z)) (upd_pc (p := pc) (x := v) (show a.toNat < 8 by omega)))
  clear hcs
  repeat' (first | go_values | go_skip | go_guarded | (with_reducible (first | refine ex_then_ret ?_ | refine ex_then_exit ?_ | refine ex_then_normal ?_ | refine ex_block_ret ?_ | refine ex_block_normal ?_ | refine ex_block_same ?_ | refine ex_block_other (by decide) ?_)) | go_step | go_upon | go_quiet (fail))
  refine Calls.mono (H3.out _) ?_
  rintro e w' ⟨rfl, rfl⟩
  dsimp only
  repeat' (first | go_values | go_skip | go_guarded | (with_reducible (first | refine ex_then_ret ?_ | refine ex_then_exit ?_ | refine ex_then_normal ?_ | refine ex_block_ret ?_ | refine ex_block_normal ?_ | refine ex_block_same ?_ | refine ex_block_other (by decide) ?_)) | go_step | go_upon | go_quiet (fail))
  all_goals (apply bodyPost_ret; (simp only [results, Tryd.results15]; go_simp; exact rfl); rfl)
  all_goals refine gives_of (three (Cp.cpu_eq (by omega) ?_ ?_) rfl) (by repeat (with_reducible (first | exact Below.refl _ _ | assumption | refine Below.to ?_ (by assumption) | refine below_drewN ?_ _ | refine Below.alloc ?_ (by first | (simp; done) | omega | (simp; omega) | (simp at *; omega)) _ | refine Below.setCell ?_ (by first | (simp; done) | omega | (simp; omega) | (simp at *; omega)) _ | refine Below.drew ?_)))
  all_goals (first | rfl | (simp; done) | (simp; omega) | omega)
set_option maxHeartbeats 4000000 in
set_option maxRecDepth 100000 in
theorem lb_no (x a b i ra rb : Int) (hm : m.size ≤ 140737488355328) (p0 : 0 ≤ pc) (p1 : pc < 4294967296) (h : Sg.isWord m pc = true) (hx : Sg.word m pc.toNat = x)
   (ho : takeV x = .tuple #[.agg #[.int .i64 16, .int .i64 a, .int .i64 b, .int .i64 i], .int .i64 0]) (hT : Tab w) (hf : Sg.has m ((rb + i) % 4294967296) 1 = false)
   (h0 : 0 ≤ a) (h1 : a < 8) (h2 : 0 ≤ b) (h3 : b < 8) (q0 : 0 ≤ ra) (q1 : ra < 4294967296) (ha : [Value.int .u32 r0, .int .u32 r1, .int .u32 r2, .int .u32 r3, .int .u32 r4, .int .u32 r5, .int .u32 r6, .int .u32 r7, .int .u32 pc][a.toNat]? = some (.int .u32 ra)) (hb : [Value.int .u32 r0, .int .u32 r1, .int .u32 r2, .int .u32 r3, .int .u32 r4, .int .u32 r5, .int .u32 r6, .int .u32 r7, .int .u32 pc][b.toNat]? = some (.int .u32 rb)) :
    Calls Tryd.prog 15 #[.agg #[.int .u32 r0, .int .u32 r1, .int .u32 r2, .int .u32 r3, .int .u32 r4, .int .u32 r5, .int .u32 r6, .int .u32 r7, .int .u32 pc], .string m] w (Gives (.tuple #[.agg #[.int .u32 r0, .int .u32 r1, .int .u32 r2, .int .u32 r3, .int .u32 r4, .int .u32 r5, .int .u32 r6, .int .u32 r7, .int .u32 pc], .string m, .int .i64 2]) w) := by
  have x0 := Sg.word_lo m pc.toNat
  have x1 := Sg.word_hi m pc.toNat
  have HL := fun W => Seg.Load_word m pc W hm p0 p1 h
  rw [hx] at x0 x1 HL
  have HT := fun W hT => Take.any x W x0 x1 hT
  rw [ho] at HT
  have H1 := Lib.hid HL
  have H2 := Lib.hid HT
  have d0 : 0 ≤ (rb + i) % 4294967296 := Int.emod_nonneg _ (by omega)
  have d1 : (rb + i) % 4294967296 < 4294967296 := Int.emod_lt_of_pos _ (by omega)
  have H3 := Lib.hid (fun W => Seg.Byte_no m _ W hm d0 d1 hf)
  clear HL HT hx h ho d0 d1
  have z02 : w.heap.size < w.heap.size + 1 + 1 := by omega
  have z03 : w.heap.size < w.heap.size + 1 + 1 + 1 := by omega
  have z13 : w.heap.size + 1 < w.heap.size + 1 + 1 + 1 := by omega
  go_enter Tryd.func15, Tryd.ntmps15
  repeat' (first | (go_at_call 24; refine Calls.mono (H1.out _) ?_; rintro e w' ⟨rfl, rfl⟩; dsimp only) | go_values | go_skip | go_guarded | (with_reducible (first | refine ex_then_ret ?_ | refine ex_then_exit ?_ | refine ex_then_normal ?_ | refine ex_block_ret ?_ | refine ex_block_normal ?_ | refine ex_block_same ?_ | refine ex_block_other (by decide) ?_)) | go_step | go_upon)
  clear H1
  refine Calls.mono (H2.out _ ?_) ?_
  · exact hT.below (by repeat (with_reducible (first | exact Below.refl _ _ | assumption | refine Below.to ?_ (by assumption) | refine below_drewN ?_ _ | refine Below.alloc ?_ (by first | (simp; done) | omega | (simp; omega) | (simp at *; omega)) _ | refine Below.setCell ?_ (by first | (simp; done) | omega | (simp; omega) | (simp at *; omega)) _ | refine Below.drew ?_)))
  rintro e w1 ⟨rfl, hb1⟩
  obtain ⟨chb1, fhb1, zhb1⟩ := bfacts hb1
  try simp at zhb1
  have y0hb1 : w.heap.size < w1.heap.size := by omega
  try (have y1hb1 : w.heap.size + 1 < w1.heap.size := by omega)
  try (have y2hb1 : w.heap.size + 1 + 1 < w1.heap.size := by omega)
  dsimp only
  clear H2

  repeat' (first | go_values | go_skip | go_guarded | (with_reducible (first | refine ex_then_ret ?_ | refine ex_then_exit ?_ | refine ex_then_normal ?_ | refine ex_block_ret ?_ | refine ex_block_normal ?_ | refine ex_block_same ?_ | refine ex_block_other (by decide) ?_)) | go_step | go_upon | go_quiet (fail))
  refine Calls.mono (H3.out _) ?_
  rintro e w' ⟨rfl, rfl⟩
  dsimp only
  repeat' (first | go_values | go_skip | go_guarded | (with_reducible (first | refine ex_then_ret ?_ | refine ex_then_exit ?_ | refine ex_then_normal ?_ | refine ex_block_ret ?_ | refine ex_block_normal ?_ | refine ex_block_same ?_ | refine ex_block_other (by decide) ?_)) | go_step | go_upon | go_quiet (fail))
  all_goals (apply bodyPost_ret; (simp only [results, Tryd.results15]; go_simp; exact rfl); rfl)
  all_goals exact gives_of rfl (by repeat (with_reducible (first | exact Below.refl _ _ | assumption | refine Below.to ?_ (by assumption) | refine below_drewN ?_ _ | refine Below.alloc ?_ (by first | (simp; done) | omega | (simp; omega) | (simp at *; omega)) _ | refine Below.setCell ?_ (by first | (simp; done) | omega | (simp; omega) | (simp at *; omega)) _ | refine Below.drew ?_)))
end Step
end Go.Proofs.YtllemloicianmaaDoor
