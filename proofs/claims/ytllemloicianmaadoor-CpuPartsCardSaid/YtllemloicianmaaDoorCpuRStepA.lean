/- transomref03.Step, where no instruction is found. Condition: the registers are words. -/
import Derived.Test.YtllemloicianmaaDoorCpuStepA
import Derived.Test.YtllemloicianmaaDoorSegRefWalk
import Derived.WalkKit
import Derived.WalkSpells
import Derived.WalkLawsBesides
import Derived.Lib.Hide
import Derived.BigQuiet
import Derived.Deep.QuietTactic

set_option linter.unusedVariables false
set_option linter.unusedSimpArgs false
namespace Go.Proofs.YtllemloicianmaaDoor
open Go.RowKit

theorem new_cells {W : World} {cs : List Value} {T : TypeId} {b : Nat} (h : W.heap.size = b) (o : Nat) : (W.alloc (.cells cs.toArray T)).cell? ⟨b, o, none⟩ = cs[o]? := by
  subst h
  rw [World.cell?_alloc_mark, List.getElem?_toArray]
theorem gives_is {v : Value} {w : World} {e : Ending} {w' : World} (h : Is v w e w') : Gives v w e w' := by
  obtain ⟨h1, rfl⟩ := h
  exact ⟨h1, Below.refl _ _⟩
namespace RSeg
theorem Load_word (m : ByteArray) (a : Int) (w : World) (hm : m.size ≤ 140737488355328) (h0 : 0 ≤ a) (h1 : a < 4294967296) (h : Sg.isWord m a = true) :
    Calls Tryd.prog 29 #[.string m, .int .u32 a] w (Gives (.tuple #[.int .u32 (Sg.word m a.toNat), .int .i64 0]) w) := by
  have := Load m a w hm h0 h1
  unfold Sg.loadV Sg.loadE at this
  rwa [if_pos h, if_pos h] at this
theorem Store_word (m : ByteArray) (a v : Int) (w : World) (hm : m.size < 4294967296) (h0 : 0 ≤ a) (h1 : a < 4294967296) (v0 : 0 ≤ v) (v1 : v < 4294967296) (h : Sg.isWord m a = true) :
    Calls Tryd.prog 31 #[.string m, .int .u32 a, .int .u32 v] w (Gives (.tuple #[.string (Sg.put m a.toNat (Sg.bytes4 v)), .int .i64 0]) w) := by
  have := Store m a v w hm h0 h1 v0 v1
  unfold Sg.storeM Sg.loadE at this
  rwa [if_pos h, if_pos h] at this
theorem Put_byte (m : ByteArray) (a v : Int) (w : World) (hm : m.size < 4294967296) (h0 : 0 ≤ a) (h1 : a < 4294967296) (v0 : 0 ≤ v) (v1 : v < 4294967296) (h : Sg.has m a 1 = true) :
    Calls Tryd.prog 33 #[.string m, .int .u32 a, .int .u32 v] w (Gives (.tuple #[.string (Sg.put m a.toNat [UInt8.ofNat (v % 256).toNat]), .int .i64 0]) w) := by
  have := Put m a v w hm h0 h1 v0 v1
  unfold Sg.putM Sg.byteE at this
  rwa [if_pos h, if_pos h] at this
theorem Put_no (m : ByteArray) (a v : Int) (w : World) (hm : m.size < 4294967296) (h0 : 0 ≤ a) (h1 : a < 4294967296) (v0 : 0 ≤ v) (v1 : v < 4294967296) (h : Sg.has m a 1 = false) :
    Calls Tryd.prog 33 #[.string m, .int .u32 a, .int .u32 v] w (Gives (.tuple #[.string m, .int .i64 10]) w) := by
  have := Put m a v w hm h0 h1 v0 v1
  unfold Sg.putM Sg.byteE at this
  rwa [if_neg (by simp [h]), if_neg (by simp [h])] at this
theorem Byte_yes (m : ByteArray) (a : Int) (w : World) (hm : m.size ≤ 140737488355328) (h0 : 0 ≤ a) (h1 : a < 4294967296) (h : Sg.has m a 1 = true) :
    Calls Tryd.prog 32 #[.string m, .int .u32 a] w (Gives (.tuple #[.int .u32 (Sg.byte m a.toNat), .int .i64 0]) w) := by
  have := (Byte m a w hm h0 h1).mono fun _ _ h => gives_is h
  unfold Sg.byteV Sg.byteE at this
  rwa [if_pos h, if_pos h] at this
theorem Byte_no (m : ByteArray) (a : Int) (w : World) (hm : m.size ≤ 140737488355328) (h0 : 0 ≤ a) (h1 : a < 4294967296) (h : Sg.has m a 1 = false) :
    Calls Tryd.prog 32 #[.string m, .int .u32 a] w (Gives (.tuple #[.int .u32 0, .int .i64 10]) w) := by
  have := (Byte m a w hm h0 h1).mono fun _ _ h => gives_is h
  unfold Sg.byteV Sg.byteE at this
  rwa [if_neg (by simp [h]), if_neg (by simp [h])] at this
end RSeg

namespace RStep
variable (r0 r1 r2 r3 r4 r5 r6 r7 pc : Int) (m : ByteArray) (w : World)
set_option maxHeartbeats 2000000 in
set_option maxRecDepth 100000 in
theorem fault (hm : m.size ≤ 140737488355328) (p0 : 0 ≤ pc) (p1 : pc < 4294967296) (h : Sg.isWord m pc = false) :
    Calls Tryd.prog 16 #[.agg #[.int .u32 r0, .int .u32 r1, .int .u32 r2, .int .u32 r3, .int .u32 r4, .int .u32 r5, .int .u32 r6, .int .u32 r7, .int .u32 pc], .string m] w (Gives (.tuple #[.agg #[.int .u32 r0, .int .u32 r1, .int .u32 r2, .int .u32 r3, .int .u32 r4, .int .u32 r5, .int .u32 r6, .int .u32 r7, .int .u32 pc], .string m, .int .i64 2]) w) := by
  have H1 := Lib.hid (fun W => RSeg.Load_no m pc W hm p0 p1 h)
  clear h
  have z02 : w.heap.size < w.heap.size + 1 + 1 := by omega
  have z03 : w.heap.size < w.heap.size + 1 + 1 + 1 := by omega
  have z13 : w.heap.size + 1 < w.heap.size + 1 + 1 + 1 := by omega
  go_enter Tryd.func16, Tryd.ntmps16
  repeat' (first | go_values | go_skip | go_guarded | (with_reducible (first | refine ex_then_ret ?_ | refine ex_then_exit ?_ | refine ex_then_normal ?_ | refine ex_block_ret ?_ | refine ex_block_normal ?_ | refine ex_block_same ?_ | refine ex_block_other (by decide) ?_)) | go_step | go_upon)
  refine Calls.mono (H1.out _) ?_
  rintro e w0 ⟨rfl, hb0⟩
  obtain ⟨chb0, fhb0, zhb0⟩ := bfacts hb0
  try simp at zhb0
  have y0hb0 : w.heap.size < w0.heap.size := by omega
  try (have y1hb0 : w.heap.size + 1 < w0.heap.size := by omega)
  try (have y2hb0 : w.heap.size + 1 + 1 < w0.heap.size := by omega)
  dsimp only
  repeat' (first | go_values | go_skip | go_guarded | (with_reducible (first | refine ex_then_ret ?_ | refine ex_then_exit ?_ | refine ex_then_normal ?_ | refine ex_block_ret ?_ | refine ex_block_normal ?_ | refine ex_block_same ?_ | refine ex_block_other (by decide) ?_)) | go_step | go_upon)
  all_goals (apply bodyPost_ret; (simp only [results, Tryd.results16]; go_simp; exact rfl); rfl)
  all_goals exact gives_of rfl (by repeat (with_reducible (first | exact Below.refl _ _ | assumption | refine Below.to ?_ (by assumption) | refine below_drewN ?_ _ | refine Below.alloc ?_ (by first | (simp; done) | omega | (simp; omega) | (simp at *; omega)) _ | refine Below.setCell ?_ (by first | (simp; done) | omega | (simp; omega) | (simp at *; omega)) _ | refine Below.drew ?_)))

set_option maxHeartbeats 2000000 in
set_option maxRecDepth 100000 in
theorem odd (x : Int) (hm : m.size ≤ 140737488355328) (p0 : 0 ≤ pc) (p1 : pc < 4294967296) (h : Sg.isWord m pc = true) (hx : Sg.word m pc.toNat = x) (ho : Cp.takeB x = false) :
    Calls Tryd.prog 16 #[.agg #[.int .u32 r0, .int .u32 r1, .int .u32 r2, .int .u32 r3, .int .u32 r4, .int .u32 r5, .int .u32 r6, .int .u32 r7, .int .u32 pc], .string m] w (Gives (.tuple #[.agg #[.int .u32 r0, .int .u32 r1, .int .u32 r2, .int .u32 r3, .int .u32 r4, .int .u32 r5, .int .u32 r6, .int .u32 r7, .int .u32 pc], .string m, .int .i64 1]) w) := by
  have x0 := Sg.word_lo m pc.toNat
  have x1 := Sg.word_hi m pc.toNat
  have HL := fun W => RSeg.Load_word m pc W hm p0 p1 h
  rw [hx] at x0 x1 HL
  have HT := fun W => RTake.any x W x0 x1
  rw [takeV_no ho] at HT
  have H1 := Lib.hid HL
  have H2 := Lib.hid HT
  clear HL HT hx h ho
  have z02 : w.heap.size < w.heap.size + 1 + 1 := by omega
  have z03 : w.heap.size < w.heap.size + 1 + 1 + 1 := by omega
  have z13 : w.heap.size + 1 < w.heap.size + 1 + 1 + 1 := by omega
  go_enter Tryd.func16, Tryd.ntmps16
  repeat' (first | go_values | go_skip | go_guarded | (with_reducible (first | refine ex_then_ret ?_ | refine ex_then_exit ?_ | refine ex_then_normal ?_ | refine ex_block_ret ?_ | refine ex_block_normal ?_ | refine ex_block_same ?_ | refine ex_block_other (by decide) ?_)) | go_step | go_upon)
  refine Calls.mono (H1.out _) ?_
  rintro e w0 ⟨rfl, hb0⟩
  obtain ⟨chb0, fhb0, zhb0⟩ := bfacts hb0
  try simp at zhb0
  have y0hb0 : w.heap.size < w0.heap.size := by omega
  try (have y1hb0 : w.heap.size + 1 < w0.heap.size := by omega)
  try (have y2hb0 : w.heap.size + 1 + 1 < w0.heap.size := by omega)
  dsimp only
  clear H1
  repeat' (first | go_values | go_skip | go_guarded | (with_reducible (first | refine ex_then_ret ?_ | refine ex_then_exit ?_ | refine ex_then_normal ?_ | refine ex_block_ret ?_ | refine ex_block_normal ?_ | refine ex_block_same ?_ | refine ex_block_other (by decide) ?_)) | go_step | go_upon)
  refine Calls.mono (H2.out _) ?_
  rintro e w1 ⟨rfl, hb1⟩
  obtain ⟨chb1, fhb1, zhb1⟩ := bfacts hb1
  try simp at zhb1
  have y0hb1 : w.heap.size < w1.heap.size := by omega
  try (have y1hb1 : w.heap.size + 1 < w1.heap.size := by omega)
  try (have y2hb1 : w.heap.size + 1 + 1 < w1.heap.size := by omega)
  dsimp only
  have v01 : w0.heap.size ≤ w1.heap.size := by omega
  repeat' (first | go_values | go_skip | go_guarded | (with_reducible (first | refine ex_then_ret ?_ | refine ex_then_exit ?_ | refine ex_then_normal ?_ | refine ex_block_ret ?_ | refine ex_block_normal ?_ | refine ex_block_same ?_ | refine ex_block_other (by decide) ?_)) | go_step | go_upon)
  all_goals (apply bodyPost_ret; (simp only [results, Tryd.results16]; go_simp; exact rfl); rfl)
  all_goals exact gives_of rfl (by repeat (with_reducible (first | exact Below.refl _ _ | assumption | refine Below.to ?_ (by assumption) | refine below_drewN ?_ _ | refine Below.alloc ?_ (by first | (simp; done) | omega | (simp; omega) | (simp at *; omega)) _ | refine Below.setCell ?_ (by first | (simp; done) | omega | (simp; omega) | (simp at *; omega)) _ | refine Below.drew ?_)))
end RStep
end Go.Proofs.YtllemloicianmaaDoor
