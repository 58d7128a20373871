/- cpu.Step, where no instruction is found, and at a system call. Condition: the registers are words. -/
import Derived.Test.YtllemloicianmaaDoorCpuDoes
import Derived.Test.YtllemloicianmaaDoorCpuLawDoes
import Derived.Test.YtllemloicianmaaDoorCpuTake
import Derived.Test.YtllemloicianmaaDoorSegWalk
import Derived.WalkKit
import Derived.WalkSpells
import Derived.WalkLawsBesides
import Derived.Lib.Hide
import Derived.BigQuiet
import Derived.Deep.QuietTactic

set_option linter.unusedVariables false
set_option linter.unusedSimpArgs false
namespace Go.Proofs.YtllemloicianmaaDoor
open Go.RowKit

theorem cell_alloc_old {w : World} {O : Obj} {b o : Nat} (h : b < w.heap.size) : (w.alloc O).cell? ⟨b, o, none⟩ = w.cell? ⟨b, o, none⟩ :=
  ((Below.refl w.heap.size w).alloc (Nat.le_refl _) O).cell (p := ⟨b, o, none⟩) h
theorem three {v v' : Value} {s s' : ByteArray} {t : Int} (h : v = v') (hs : s = s') : Value.tuple #[v, .string s, .int .i64 t] = .tuple #[v', .string s', .int .i64 t] := by rw [h, hs]

theorem updB {w1 : World} {B : Nat} {rs : List Int} (hc : ∀ o, w1.cell? ⟨B, o, none⟩ = (rs.map (Value.int .u32))[o]?) (k : Nat) (hk : k < rs.length) (x : Int) (j : Nat) (hj : j < rs.length) :
    (w1.setCell ⟨B, k, none⟩ (.int .u32 x)).cell? ⟨B, j, none⟩ = some (.int .u32 (Cp.upd rs k x j)) := Does.updA hc k hk 0 x j hj
theorem upd_pc {r0 r1 r2 r3 r4 r5 r6 r7 p x : Int} {k : Nat} (hk : k < 8) : Cp.upd [r0, r1, r2, r3, r4, r5, r6, r7, p] k x 8 = p := by
  have h' : k = 0 ∨ k = 1 ∨ k = 2 ∨ k = 3 ∨ k = 4 ∨ k = 5 ∨ k = 6 ∨ k = 7 := by omega
  rcases h' with rfl | rfl | rfl | rfl | rfl | rfl | rfl | rfl <;> simp [Cp.upd]

namespace Seg
theorem Store_word (m : ByteArray) (a v : Int) (w : World) (hm : m.size ≤ 140737488355328) (h0 : 0 ≤ a) (h1 : a < 4294967296) (v0 : 0 ≤ v) (v1 : v < 4294967296) (h : Sg.isWord m a = true) :
    Calls Tryd.prog 27 #[.string m, .int .u32 a, .int .u32 v] w (Gives (.tuple #[.string (Sg.put m a.toNat (Sg.bytes4 v)), .int .i64 0]) w) := by
  have := Store m a v w hm h0 h1 v0 v1
  unfold Sg.storeM Sg.loadE at this
  rwa [if_pos h, if_pos h] at this
theorem Put_byte (m : ByteArray) (a v : Int) (w : World) (hm : m.size ≤ 140737488355328) (h0 : 0 ≤ a) (h1 : a < 4294967296) (v0 : 0 ≤ v) (v1 : v < 4294967296) (h : Sg.has m a 1 = true) :
    Calls Tryd.prog 28 #[.string m, .int .u32 a, .int .u32 v] w (Gives (.tuple #[.string (Sg.put m a.toNat [UInt8.ofNat (v % 256).toNat]), .int .i64 0]) w) := by
  have := Put m a v w hm h0 h1 v0 v1
  unfold Sg.putM Sg.byteE at this
  rwa [if_pos h, if_pos h] at this
theorem Put_no (m : ByteArray) (a v : Int) (w : World) (hm : m.size ≤ 140737488355328) (h0 : 0 ≤ a) (h1 : a < 4294967296) (v0 : 0 ≤ v) (v1 : v < 4294967296) (h : Sg.has m a 1 = false) :
    Calls Tryd.prog 28 #[.string m, .int .u32 a, .int .u32 v] w (Gives (.tuple #[.string m, .int .i64 10]) w) := by
  have := Put m a v w hm h0 h1 v0 v1
  unfold Sg.putM Sg.byteE at this
  rwa [if_neg (by simp [h]), if_neg (by simp [h])] at this
theorem Byte_yes (m : ByteArray) (a : Int) (w : World) (hm : m.size ≤ 140737488355328) (h0 : 0 ≤ a) (h1 : a < 4294967296) (h : Sg.has m a 1 = true) :
    Calls Tryd.prog 26 #[.string m, .int .u32 a] w (Is (.tuple #[.int .u32 (Sg.byte m a.toNat), .int .i64 0]) w) := by
  have := Byte m a w hm h0 h1
  unfold Sg.byteV Sg.byteE at this
  rwa [if_pos h, if_pos h] at this
theorem Byte_no (m : ByteArray) (a : Int) (w : World) (hm : m.size ≤ 140737488355328) (h0 : 0 ≤ a) (h1 : a < 4294967296) (h : Sg.has m a 1 = false) :
    Calls Tryd.prog 26 #[.string m, .int .u32 a] w (Is (.tuple #[.int .u32 0, .int .i64 10]) w) := by
  have := Byte m a w hm h0 h1
  unfold Sg.byteV Sg.byteE at this
  rwa [if_neg (by simp [h]), if_neg (by simp [h])] at this
theorem Load_word (m : ByteArray) (a : Int) (w : World) (hm : m.size ≤ 140737488355328) (h0 : 0 ≤ a) (h1 : a < 4294967296) (h : Sg.isWord m a = true) :
    Calls Tryd.prog 24 #[.string m, .int .u32 a] w (Is (.tuple #[.int .u32 (Sg.word m a.toNat), .int .i64 0]) w) := by
  have := Load m a w hm h0 h1
  unfold Sg.loadV Sg.loadE at this
  rwa [if_pos h, if_pos h] at this
end Seg

namespace Step
variable (r0 r1 r2 r3 r4 r5 r6 r7 pc : Int) (m : ByteArray) (w : World)
set_option maxHeartbeats 2000000 in
set_option maxRecDepth 100000 in
theorem fault (hm : m.size ≤ 140737488355328) (p0 : 0 ≤ pc) (p1 : pc < 4294967296) (h : Sg.isWord m pc = false) :
    Calls Tryd.prog 15 #[.agg #[.int .u32 r0, .int .u32 r1, .int .u32 r2, .int .u32 r3, .int .u32 r4, .int .u32 r5, .int .u32 r6, .int .u32 r7, .int .u32 pc], .string m] w (Gives (.tuple #[.agg #[.int .u32 r0, .int .u32 r1, .int .u32 r2, .int .u32 r3, .int .u32 r4, .int .u32 r5, .int .u32 r6, .int .u32 r7, .int .u32 pc], .string m, .int .i64 2]) w) := by
  go_enter Tryd.func15, Tryd.ntmps15
  go_wp2_with (go_at_call 24; refine (Seg.Load_no m pc _ hm p0 p1 h).mono ?_; rintro e w' ⟨rfl, rfl⟩)
  repeat' (first | go_values | go_skip | go_guarded | (with_reducible (first | refine ex_then_ret ?_ | refine ex_then_exit ?_ | refine ex_then_normal ?_ | refine ex_block_ret ?_ | refine ex_block_normal ?_ | refine ex_block_same ?_ | refine ex_block_other (by decide) ?_)) | go_step | go_upon)
  all_goals (apply bodyPost_ret; (simp only [results, Tryd.results15]; go_simp; exact rfl); rfl)
  all_goals exact gives_of rfl (by repeat (with_reducible (first | exact Below.refl _ _ | assumption | refine Below.to ?_ (by assumption) | refine below_drewN ?_ _ | refine Below.alloc ?_ (by first | (simp; done) | omega | (simp; omega) | (simp at *; omega)) _ | refine Below.setCell ?_ (by first | (simp; done) | omega | (simp; omega) | (simp at *; omega)) _ | refine Below.drew ?_)))

set_option maxHeartbeats 2000000 in
set_option maxRecDepth 100000 in
theorem odd (x : Int) (hm : m.size ≤ 140737488355328) (p0 : 0 ≤ pc) (p1 : pc < 4294967296) (h : Sg.isWord m pc = true) (hx : Sg.word m pc.toNat = x) (ho : Cp.takeB x = false) (hT : Tab w) :
    Calls Tryd.prog 15 #[.agg #[.int .u32 r0, .int .u32 r1, .int .u32 r2, .int .u32 r3, .int .u32 r4, .int .u32 r5, .int .u32 r6, .int .u32 r7, .int .u32 pc], .string m] w (Gives (.tuple #[.agg #[.int .u32 r0, .int .u32 r1, .int .u32 r2, .int .u32 r3, .int .u32 r4, .int .u32 r5, .int .u32 r6, .int .u32 r7, .int .u32 pc], .string m, .int .i64 1]) w) := by
  have x0 := Sg.word_lo m pc.toNat
  have x1 := Sg.word_hi m pc.toNat
  have HL := fun W => Seg.Load_word m pc W hm p0 p1 h
  rw [hx] at x0 x1 HL
  have HT := fun W hT => Take.any x W x0 x1 hT
  rw [takeV_no ho] at HT
  have H1 := Lib.hid HL
  have H2 := Lib.hid HT
  clear HL HT hx h ho
  have z02 : w.heap.size < w.heap.size + 1 + 1 := by omega
  have z03 : w.heap.size < w.heap.size + 1 + 1 + 1 := by omega
  have z13 : w.heap.size + 1 < w.heap.size + 1 + 1 + 1 := by omega
  go_enter Tryd.func15, Tryd.ntmps15
  repeat' (first | (go_at_call 24; refine Calls.mono (H1.out _) ?_; rintro e w' ⟨rfl, rfl⟩; dsimp only) | go_values | go_skip | go_guarded | (with_reducible (first | refine ex_then_ret ?_ | refine ex_then_exit ?_ | refine ex_then_normal ?_ | refine ex_block_ret ?_ | refine ex_block_normal ?_ | refine ex_block_same ?_ | refine ex_block_other (by decide) ?_)) | go_step | go_upon)
  refine Calls.mono (H2.out _ ?_) ?_
  · exact hT.below (by repeat (with_reducible (first | exact Below.refl _ _ | assumption | refine Below.to ?_ (by assumption) | refine below_drewN ?_ _ | refine Below.alloc ?_ (by first | (simp; done) | omega | (simp; omega) | (simp at *; omega)) _ | refine Below.setCell ?_ (by first | (simp; done) | omega | (simp; omega) | (simp at *; omega)) _ | refine Below.drew ?_)))
  rintro e w1 ⟨rfl, hb1⟩
  obtain ⟨chb1, fhb1, zhb1⟩ := bfacts hb1
  try simp at zhb1
  have y0hb1 : w.heap.size < w1.heap.size := by omega
  try (have y1hb1 : w.heap.size + 1 < w1.heap.size := by omega)
  try (have y2hb1 : w.heap.size + 1 + 1 < w1.heap.size := by omega)
  dsimp only
  repeat' (first | go_values | go_skip | go_guarded | (with_reducible (first | refine ex_then_ret ?_ | refine ex_then_exit ?_ | refine ex_then_normal ?_ | refine ex_block_ret ?_ | refine ex_block_normal ?_ | refine ex_block_same ?_ | refine ex_block_other (by decide) ?_)) | go_step | go_upon)
  all_goals (apply bodyPost_ret; (simp only [results, Tryd.results15]; go_simp; exact rfl); rfl)
  all_goals exact gives_of rfl (by repeat (with_reducible (first | exact Below.refl _ _ | assumption | refine Below.to ?_ (by assumption) | refine below_drewN ?_ _ | refine Below.alloc ?_ (by first | (simp; done) | omega | (simp; omega) | (simp at *; omega)) _ | refine Below.setCell ?_ (by first | (simp; done) | omega | (simp; omega) | (simp at *; omega)) _ | refine Below.drew ?_)))

set_option maxHeartbeats 2000000 in
set_option maxRecDepth 100000 in
theorem sys (x a b i ra rb : Int) (hm : m.size ≤ 140737488355328) (p0 : 0 ≤ pc) (p1 : pc < 4294967296) (h : Sg.isWord m pc = true) (hx : Sg.word m pc.toNat = x)
   (ho : takeV x = .tuple #[.agg #[.int .i64 24, .int .i64 a, .int .i64 b, .int .i64 i], .int .i64 0]) (hT : Tab w)
   (h0 : 0 ≤ a) (h1 : a < 8) (h2 : 0 ≤ b) (h3 : b < 8) (ha : [Value.int .u32 r0, .int .u32 r1, .int .u32 r2, .int .u32 r3, .int .u32 r4, .int .u32 r5, .int .u32 r6, .int .u32 r7, .int .u32 pc][a.toNat]? = some (.int .u32 ra)) (hb : [Value.int .u32 r0, .int .u32 r1, .int .u32 r2, .int .u32 r3, .int .u32 r4, .int .u32 r5, .int .u32 r6, .int .u32 r7, .int .u32 pc][b.toNat]? = some (.int .u32 rb)) :
    Calls Tryd.prog 15 #[.agg #[.int .u32 r0, .int .u32 r1, .int .u32 r2, .int .u32 r3, .int .u32 r4, .int .u32 r5, .int .u32 r6, .int .u32 r7, .int .u32 pc], .string m] w (Gives (.tuple #[Cp.cpuV [r0, r1, r2, r3, r4, r5, r6, r7] ((pc + 4) % 4294967296), .string m, .int .i64 3]) w) := by
  have x0 := Sg.word_lo m pc.toNat
  have x1 := Sg.word_hi m pc.toNat
  have HL := fun W => Seg.Load_word m pc W hm p0 p1 h
  rw [hx] at x0 x1 HL
  have HT := fun W hT => Take.any x W x0 x1 hT
  rw [ho] at HT
  have H1 := Lib.hid HL
  have H2 := Lib.hid HT
  clear HL HT hx h ho
  have z02 : w.heap.size < w.heap.size + 1 + 1 := by omega
  have z03 : w.heap.size < w.heap.size + 1 + 1 + 1 := by omega
  have z13 : w.heap.size + 1 < w.heap.size + 1 + 1 + 1 := by omega
  go_enter Tryd.func15, Tryd.ntmps15
  repeat' (first | (go_at_call 24; refine Calls.mono (H1.out _) ?_; rintro e w' ⟨rfl, rfl⟩; dsimp only) | go_values | go_skip | go_guarded | (with_reducible (first | refine ex_then_ret ?_ | refine ex_then_exit ?_ | refine ex_then_normal ?_ | refine ex_block_ret ?_ | refine ex_block_normal ?_ | refine ex_block_same ?_ | refine ex_block_other (by decide) ?_)) | go_step | go_upon)
  refine Calls.mono (H2.out _ ?_) ?_
  · exact hT.below (by repeat (with_reducible (first | exact Below.refl _ _ | assumption | refine Below.to ?_ (by assumption) | refine below_drewN ?_ _ | refine Below.alloc ?_ (by first | (simp; done) | omega | (simp; omega) | (simp at *; omega)) _ | refine Below.setCell ?_ (by first | (simp; done) | omega | (simp; omega) | (simp at *; omega)) _ | refine Below.drew ?_)))
  rintro e w1 ⟨rfl, hb1⟩
  obtain ⟨chb1, fhb1, zhb1⟩ := bfacts hb1
  try simp at zhb1
  have y0hb1 : w.heap.size < w1.heap.size := by omega
  try (have y1hb1 : w.heap.size + 1 < w1.heap.size := by omega)
  try (have y2hb1 : w.heap.size + 1 + 1 < w1.heap.size := by omega)
  dsimp only
  repeat' (first | go_values | go_skip | go_guarded | (with_reducible (first | refine ex_then_ret ?_ | refine ex_then_exit ?_ | refine ex_then_normal ?_ | refine ex_block_ret ?_ | refine ex_block_normal ?_ | refine ex_block_same ?_ | refine ex_block_other (by decide) ?_)) | go_step | go_upon | go_quiet (fail))
  all_goals (apply bodyPost_ret; (simp only [results, Tryd.results15]; go_simp; exact rfl); rfl)
  all_goals exact gives_of rfl (by repeat (with_reducible (first | exact Below.refl _ _ | assumption | refine Below.to ?_ (by assumption) | refine below_drewN ?_ _ | refine Below.alloc ?_ (by first | (simp; done) | omega | (simp; omega) | (simp at *; omega)) _ | refine Below.setCell ?_ (by first | (simp; done) | omega | (simp; omega) | (simp at *; omega)) _ | refine Below.drew ?_)))
end Step
end Go.Proofs.YtllemloicianmaaDoor
