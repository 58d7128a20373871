/- transomref01.Word and transomref01.Bytes at one instruction. No condition. -/
import Derived.Test.YtllemloicianmaaDoorCpuStepFacts
import Derived.Handy
import Derived.WalkKit
import Derived.WalkSpells
import Derived.WalkLawsBesides
import Derived.Lib.Hide
import Derived.BigQuiet
import Derived.Deep.QuietTactic

set_option linter.unusedVariables false
set_option linter.unusedSimpArgs false
namespace Go.Proofs.YtllemloicianmaaDoor
open Go.RowKit

namespace Cp
def enc (op a b i : Int) : Int := 16777216 * op + 1048576 * a + 65536 * b + (if i < 0 then i + 65536 else i)
theorem enc_parts {op a b i : Int} (h : lim op a b i = true) : 0 ≤ enc op a b i ∧ enc op a b i < 4294967296 ∧ opOf (enc op a b i) = op ∧ aOf (enc op a b i) = a ∧ bOf (enc op a b i) = b ∧ immOf (enc op a b i) = i := by
  obtain ⟨h1, h2, h3, h4, h5, h6, h7, h8⟩ := lim_iff.1 h
  unfold enc opOf aOf bOf immOf sgn16
  by_cases hi : i < 0
  · rw [if_pos hi]
    refine ⟨by omega, by omega, by omega, by omega, by omega, ?_⟩
    rw [if_pos (by omega)]
    omega
  · rw [if_neg hi]
    refine ⟨by omega, by omega, by omega, by omega, by omega, ?_⟩
    rw [if_neg (by omega)]
    omega
end Cp

namespace RWord
set_option maxHeartbeats 2000000 in
theorem yes (op a b i : Int) (w : World) (hm : Cp.may op a b i = true) :
    Calls Tryd.prog 34 #[.agg #[.int .i64 op, .int .i64 a, .int .i64 b, .int .i64 i]] w (Gives (.tuple #[.int .u32 (Cp.enc op a b i), .int .i64 0]) w) := by
  have hl : Cp.lim op a b i = true := by
    simp only [Cp.may, Bool.and_eq_true] at hm; exact hm.1.1.1
  obtain ⟨h1, h2, h3, h4, h5, h6, h7, h8⟩ := Cp.lim_iff.1 hl
  have HM := Lib.hid hm
  clear hm hl
  by_cases hi : i < 0
  all_goals
    go_enter Tryd.func34, Tryd.ntmps34
    repeat' (first | go_values | go_skip | go_guarded | (with_reducible (first | refine ex_then_ret ?_ | refine ex_then_exit ?_ | refine ex_then_normal ?_ | refine ex_block_ret ?_ | refine ex_block_normal ?_ | refine ex_block_same ?_ | refine ex_block_other (by decide) ?_)) | go_step | go_upon)
    refine Calls.mono (RMay.any _ _ _ _ _) ?_
    rintro e w1 ⟨rfl, hb1⟩
    rw [HM.out]
    obtain ⟨hc1, hf1, hz1⟩ := bfacts hb1
    try simp at hz1
    dsimp only
    repeat' (first | go_values | go_skip | go_guarded | (with_reducible (first | refine ex_then_ret ?_ | refine ex_then_exit ?_ | refine ex_then_normal ?_ | refine ex_block_ret ?_ | refine ex_block_normal ?_ | refine ex_block_same ?_ | refine ex_block_other (by decide) ?_)) | go_step | go_upon | go_quiet (fail))
    all_goals go_ret2
    all_goals refine gives_of (two_int ?_ rfl) (by repeat (with_reducible (first | exact Below.refl _ _ | assumption | refine Below.to ?_ (by assumption) | refine below_drewN ?_ _ | refine Below.alloc ?_ (by first | (simp; done) | omega | (simp; omega) | (simp at *; omega)) _ | refine Below.setCell ?_ (by first | (simp; done) | omega | (simp; omega) | (simp at *; omega)) _ | refine Below.drew ?_)))
    all_goals (unfold Cp.enc; simp only [hi, if_true, if_false]; try omega)
set_option maxHeartbeats 2000000 in
theorem no (op a b i : Int) (w : World) (hm : Cp.may op a b i = false) :
    Calls Tryd.prog 34 #[.agg #[.int .i64 op, .int .i64 a, .int .i64 b, .int .i64 i]] w (Gives (.tuple #[.int .u32 0, .int .i64 1]) w) := by
  have HM := Lib.hid hm
  clear hm
  go_enter Tryd.func34, Tryd.ntmps34
  repeat' (first | go_values | go_skip | go_guarded | (with_reducible (first | refine ex_then_ret ?_ | refine ex_then_exit ?_ | refine ex_then_normal ?_ | refine ex_block_ret ?_ | refine ex_block_normal ?_ | refine ex_block_same ?_ | refine ex_block_other (by decide) ?_)) | go_step | go_upon)
  refine Calls.mono (RMay.any _ _ _ _ _) ?_
  rintro e w1 ⟨rfl, hb1⟩
  rw [HM.out]
  obtain ⟨hc1, hf1, hz1⟩ := bfacts hb1
  try simp at hz1
  dsimp only
  repeat' (first | go_values | go_skip | go_guarded | (with_reducible (first | refine ex_then_ret ?_ | refine ex_then_exit ?_ | refine ex_then_normal ?_ | refine ex_block_ret ?_ | refine ex_block_normal ?_ | refine ex_block_same ?_ | refine ex_block_other (by decide) ?_)) | go_step | go_upon)
  all_goals go_ret2
  all_goals exact gives_of rfl (by repeat (with_reducible (first | exact Below.refl _ _ | assumption | refine Below.to ?_ (by assumption) | refine below_drewN ?_ _ | refine Below.alloc ?_ (by first | (simp; done) | omega | (simp; omega) | (simp at *; omega)) _ | refine Below.setCell ?_ (by first | (simp; done) | omega | (simp; omega) | (simp at *; omega)) _ | refine Below.drew ?_)))
end RWord

namespace RBytes
/-- four bytes at a new row's head, read as a string -/
theorem back_grown {P : Program} (src dst e T : TypeId) (hs : P.underlying src = some (.slice e)) (he : P.underlying e = some (.int .u8)) (hd : P.underlying dst = some .string) (v : Int) (v0 : 0 ≤ v) (v1 : v < 4294967296) (w1 : World) (A : Obj) (Z : Array Value) (cap : Nat) :
    (convert src dst (.slice (some ⟨w1.heap.size + 1, 0, none⟩) 4 cap)).run P ((w1.alloc A).alloc (.cells (#[.int .u8 (v % 256), .int .u8 (v / 256 % 256), .int .u8 (v / 65536 % 256), .int .u8 (v / 16777216)] ++ Z) T)).drew =
      .ok (.string ⟨(Sg.bytes4 v).toArray⟩) ((w1.alloc A).alloc (.cells (#[.int .u8 (v % 256), .int .u8 (v / 256 % 256), .int .u8 (v / 65536 % 256), .int .u8 (v / 16777216)] ++ Z) T)).drew := by
  refine run_convert_bytes_back (P := P) _ src dst e ⟨w1.heap.size + 1, 0, none⟩ cap (Sg.bytes4 v) hs he hd fun j hj => ?_
  have hj4 : j < 4 := hj
  have ha : (⟨w1.heap.size + 1, 0, none⟩ : Addr).add j = ⟨w1.heap.size + 1, j, none⟩ := by unfold Addr.add; split <;> simp_all
  rw [ha]
  show World.cell? ((w1.alloc A).alloc (.cells (#[.int .u8 (v % 256), .int .u8 (v / 256 % 256), .int .u8 (v / 65536 % 256), .int .u8 (v / 16777216)] ++ Z) T)) ⟨w1.heap.size + 1, j, none⟩ = _
  have hb : w1.heap.size + 1 = (w1.alloc A).heap.size := by simp
  rw [hb, World.cell?_alloc_mark, Array.getElem?_append_left (by simpa using hj4)]
  have e0 := Sg.ofNat_toNat (v % 256) (by omega) (by omega)
  have e1 := Sg.ofNat_toNat (v / 256 % 256) (by omega) (by omega)
  have e2 := Sg.ofNat_toNat (v / 65536 % 256) (by omega) (by omega)
  have e3 := Sg.ofNat_toNat (v / 16777216) (by omega) (by omega)
  have h : j = 0 ∨ j = 1 ∨ j = 2 ∨ j = 3 := by omega
  rcases h with rfl | rfl | rfl | rfl
  · show _ = some (Value.int .u8 ((UInt8.ofNat (v % 256).toNat).toNat : Int)); rw [e0]; rfl
  · show _ = some (Value.int .u8 ((UInt8.ofNat (v / 256 % 256).toNat).toNat : Int)); rw [e1]; rfl
  · show _ = some (Value.int .u8 ((UInt8.ofNat (v / 65536 % 256).toNat).toNat : Int)); rw [e2]; rfl
  · show _ = some (Value.int .u8 ((UInt8.ofNat (v / 16777216).toNat).toNat : Int)); rw [e3]; rfl
set_option maxHeartbeats 2000000 in
theorem yes (op a b i : Int) (B : Nat) (w : World) (hm : Cp.may op a b i = true) (hB : B < w.heap.size) (c0 : w.cell? ⟨B, 0, none⟩ = some (.int .i64 op)) (c1 : w.cell? ⟨B, 1, none⟩ = some (.int .i64 a)) (c2 : w.cell? ⟨B, 2, none⟩ = some (.int .i64 b)) (c3 : w.cell? ⟨B, 3, none⟩ = some (.int .i64 i)) :
    Calls Tryd.prog 17 #[.slice (some ⟨B, 0, none⟩) 1 1] w (Gives (.tuple #[.string ⟨(Sg.bytes4 (Cp.enc op a b i)).toArray⟩, .int .i64 0]) w) := by
  have hl : Cp.lim op a b i = true := by
    simp only [Cp.may, Bool.and_eq_true] at hm; exact hm.1.1.1
  have hp := Cp.enc_parts hl
  have e0 := hp.1
  have e1 := hp.2.1
  have H1 := Lib.hid (fun W => RWord.yes op a b i W hm)
  generalize Cp.enc op a b i = x at H1 e0 e1
  clear hm hl hp
  go_enter Tryd.func17, Tryd.ntmps17
  repeat' (first | go_values | go_skip | go_guarded | (with_reducible (first | refine ex_then_ret ?_ | refine ex_then_exit ?_ | refine ex_then_normal ?_ | refine ex_block_ret ?_ | refine ex_block_normal ?_ | refine ex_block_same ?_ | refine ex_block_other (by decide) ?_)) | go_step | go_upon)
  refine wp_loop_rounds 2 ?_
  rw [rounds_succ]
  repeat' (first | go_values | go_skip | go_guarded | (with_reducible (first | refine ex_then_ret ?_ | refine ex_then_exit ?_ | refine ex_then_normal ?_ | refine ex_block_ret ?_ | refine ex_block_normal ?_ | refine ex_block_same ?_ | refine ex_block_other (by decide) ?_)) | go_step | go_upon | go_quiet (fail))
  refine Calls.mono (H1.out _) ?_
  rintro e w1 ⟨rfl, hb1⟩
  obtain ⟨hc1, hf1, hz1⟩ := bfacts hb1
  try simp at hz1
  dsimp only
  repeat' (first | go_values | go_skip | go_guarded | (with_reducible (first | refine ex_then_ret ?_ | refine ex_then_exit ?_ | refine ex_then_normal ?_ | refine ex_block_ret ?_ | refine ex_block_normal ?_ | refine ex_block_same ?_ | refine ex_block_other (by decide) ?_)) | go_step | go_upon | go_quiet (fail))
  have hback := back_grown (P := Tryd.prog) 62 9 5 5 Tryd.underlying62 Tryd.underlying5 Tryd.underlying9 x e0 e1 w1
  rw [rounds_succ]
  repeat' (first | go_values | go_skip | go_guarded | (with_reducible (first | refine ex_then_ret ?_ | refine ex_then_exit ?_ | refine ex_then_normal ?_ | refine ex_block_ret ?_ | refine ex_block_normal ?_ | refine ex_block_same ?_ | refine ex_block_other (by decide) ?_)) | go_step | go_upon | go_quiet (fail))
  all_goals go_ret2
  all_goals exact gives_of rfl (by repeat (with_reducible (first | exact Below.refl _ _ | assumption | refine Below.to ?_ (by assumption) | refine below_drewN ?_ _ | refine Below.alloc ?_ (by first | (simp; done) | omega | (simp; omega) | (simp at *; omega)) _ | refine Below.setCell ?_ (by first | (simp; done) | omega | (simp; omega) | (simp at *; omega)) _ | refine Below.drew ?_)))
set_option maxHeartbeats 2000000 in
theorem no (op a b i : Int) (B : Nat) (w : World) (hm : Cp.may op a b i = false) (hB : B < w.heap.size) (c0 : w.cell? ⟨B, 0, none⟩ = some (.int .i64 op)) (c1 : w.cell? ⟨B, 1, none⟩ = some (.int .i64 a)) (c2 : w.cell? ⟨B, 2, none⟩ = some (.int .i64 b)) (c3 : w.cell? ⟨B, 3, none⟩ = some (.int .i64 i)) :
    Calls Tryd.prog 17 #[.slice (some ⟨B, 0, none⟩) 1 1] w (Gives (.tuple #[.string ⟨#[]⟩, .int .i64 1]) w) := by
  have H1 := Lib.hid (fun W => RWord.no op a b i W hm)
  clear hm
  go_enter Tryd.func17, Tryd.ntmps17
  repeat' (first | go_values | go_skip | go_guarded | (with_reducible (first | refine ex_then_ret ?_ | refine ex_then_exit ?_ | refine ex_then_normal ?_ | refine ex_block_ret ?_ | refine ex_block_normal ?_ | refine ex_block_same ?_ | refine ex_block_other (by decide) ?_)) | go_step | go_upon)
  refine wp_loop_rounds 2 ?_
  rw [rounds_succ]
  repeat' (first | go_values | go_skip | go_guarded | (with_reducible (first | refine ex_then_ret ?_ | refine ex_then_exit ?_ | refine ex_then_normal ?_ | refine ex_block_ret ?_ | refine ex_block_normal ?_ | refine ex_block_same ?_ | refine ex_block_other (by decide) ?_)) | go_step | go_upon | go_quiet (fail))
  refine Calls.mono (H1.out _) ?_
  rintro e w1 ⟨rfl, hb1⟩
  obtain ⟨hc1, hf1, hz1⟩ := bfacts hb1
  try simp at hz1
  dsimp only
  repeat' (first | go_values | go_skip | go_guarded | (with_reducible (first | refine ex_then_ret ?_ | refine ex_then_exit ?_ | refine ex_then_normal ?_ | refine ex_block_ret ?_ | refine ex_block_normal ?_ | refine ex_block_same ?_ | refine ex_block_other (by decide) ?_)) | go_step | go_upon | go_quiet (fail))
  all_goals go_ret2
  all_goals exact gives_of rfl (by repeat (with_reducible (first | exact Below.refl _ _ | assumption | refine Below.to ?_ (by assumption) | refine below_drewN ?_ _ | refine Below.alloc ?_ (by first | (simp; done) | omega | (simp; omega) | (simp at *; omega)) _ | refine Below.setCell ?_ (by first | (simp; done) | omega | (simp; omega) | (simp at *; omega)) _ | refine Below.drew ?_)))
end RBytes
end Go.Proofs.YtllemloicianmaaDoor
