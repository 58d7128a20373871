/- isa.Take and transomref01.Take: the instruction of a word. Condition: a word, the table of the uses lies. -/
import Derived.Test.YtllemloicianmaaDoorCpuMay
import Derived.Test.YtllemloicianmaaDoorCpuStepPlain
import Derived.Test.YtllemloicianmaaDoorBase2
import Derived.WalkKit
import Derived.WalkSpells
import Derived.WalkLawsBesides
import Derived.Lib.Hide
import Derived.BigQuiet
import Derived.Deep.QuietTactic

set_option linter.unusedVariables false
set_option linter.unusedSimpArgs false
namespace Go.Proofs.YtllemloicianmaaDoor
open Go.RowKit

theorem ins_eq {o o' a a' b b' i i' e e' : Int} (ho : o = o') (ha : a = a') (hb : b = b') (hi : i = i') (he : e = e') :
    Value.tuple #[.agg #[.int .i64 o, .int .i64 a, .int .i64 b, .int .i64 i], .int .i64 e] = .tuple #[.agg #[.int .i64 o', .int .i64 a', .int .i64 b', .int .i64 i'], .int .i64 e'] := by rw [ho, ha, hb, hi, he]

def takeV (x : Int) : Value := if Cp.takeB x then .tuple #[.agg #[.int .i64 (Cp.opOf x), .int .i64 (Cp.aOf x), .int .i64 (Cp.bOf x), .int .i64 (Cp.immOf x)], .int .i64 0]
  else .tuple #[.agg #[.int .i64 0, .int .i64 0, .int .i64 0, .int .i64 0], .int .i64 11]
theorem takeV_yes {x : Int} (h : Cp.takeB x = true) : takeV x = .tuple #[.agg #[.int .i64 (Cp.opOf x), .int .i64 (Cp.aOf x), .int .i64 (Cp.bOf x), .int .i64 (Cp.immOf x)], .int .i64 0] := if_pos h
theorem takeV_no {x : Int} (h : Cp.takeB x = false) : takeV x = .tuple #[.agg #[.int .i64 0, .int .i64 0, .int .i64 0, .int .i64 0], .int .i64 11] := if_neg (by simp [h])

namespace Take
theorem and15 {y : Int} (h0 : 0 ≤ y) (h1 : y < 4294967296) : wrap64 (bits BinOp.and IntKind.u32 y 15) = y % 16 := by
  obtain ⟨n, rfl⟩ := Int.eq_ofNat_of_zero_le h0
  have e := u32_and_nat n 15 (by omega) (by omega)
  rw [nat_mask4] at e
  rw [show (15 : Int) = ((15 : Nat) : Int) from rfl, e]
  unfold wrap64
  omega
theorem imm16 {x : Int} (h0 : 0 ≤ x) (h1 : x < 4294967296) : wrap64 (IntKind.i16.wrap (IntKind.u16.wrap x)) = Cp.immOf x := by
  rw [IntKind.wrap_u16]
  have e : IntKind.i16.wrap (x % 65536) = (x % 65536 + 32768) % 65536 - 32768 := by simp [IntKind.wrap, IntKind.bits, IntKind.signed]; omega
  rw [e]
  unfold wrap64 Cp.immOf Cp.sgn16
  split <;> omega

set_option maxHeartbeats 2000000 in
set_option maxRecDepth 100000 in
theorem any (x : Int) (w : World) (h0 : 0 ≤ x) (h1 : x < 4294967296) (hT : Tab w) :
    Calls Tryd.prog 25 #[.int .u32 x] w (Gives (takeV x) w) := by
  have eA := and15 (show 0 ≤ x / 1048576 by omega) (by omega)
  have eB := and15 (show 0 ≤ x / 65536 by omega) (by omega)
  have eI := imm16 h0 h1
  have HA := Lib.hid eA
  have HB := Lib.hid eB
  have HI := Lib.hid eI
  have hm : Cp.may (x / 16777216) (wrap64 (bits BinOp.and IntKind.u32 (x / 1048576) 15)) (wrap64 (bits BinOp.and IntKind.u32 (x / 65536) 15)) (wrap64 (IntKind.i16.wrap (IntKind.u16.wrap x))) = Cp.takeB x := by
    rw [eA, eB, eI]; rfl
  have HM := Lib.hid hm
  clear eA eB eI hm
  cases ht : Cp.takeB x
  · rw [takeV_no ht]
    rw [ht] at HM
    clear ht
    go_enter Tryd.func25, Tryd.ntmps25
    go_wp2_with (go_at_call 20; refine Calls.mono (May_any _ _ _ _ _ ?_) ?_; (exact hT.below (by repeat (with_reducible (first | exact Below.refl _ _ | assumption | refine Below.to ?_ (by assumption) | refine below_drewN ?_ _ | refine Below.alloc ?_ (by first | (simp; done) | omega | (simp; omega) | (simp at *; omega)) _ | refine Below.setCell ?_ (by first | (simp; done) | omega | (simp; omega) | (simp at *; omega)) _ | refine Below.drew ?_)))); rintro e w1 ⟨rfl, hb1⟩; rw [HM.out]; obtain ⟨hc1, hf1, hz1⟩ := bfacts hb1; simp at hz1)
    have z02 : w.heap.size < w.heap.size + 1 + 1 := by omega
    have y0 : w.heap.size < w1.heap.size := by omega
    have y1 : w.heap.size + 1 < w1.heap.size := by omega
    repeat' (first | go_values | go_skip | go_guarded | (with_reducible (first | refine ex_then_ret ?_ | refine ex_then_exit ?_ | refine ex_then_normal ?_ | refine ex_block_ret ?_ | refine ex_block_normal ?_ | refine ex_block_same ?_ | refine ex_block_other (by decide) ?_)) | go_step | go_upon)
    all_goals (apply bodyPost_ret; (simp only [results, Tryd.results25]; go_simp; exact rfl); rfl)
    all_goals exact gives_of rfl (by repeat (with_reducible (first | exact Below.refl _ _ | assumption | refine Below.to ?_ (by assumption) | refine below_drewN ?_ _ | refine Below.alloc ?_ (by first | (simp; done) | omega | (simp; omega) | (simp at *; omega)) _ | refine Below.setCell ?_ (by first | (simp; done) | omega | (simp; omega) | (simp at *; omega)) _ | refine Below.drew ?_)))
  · rw [takeV_yes ht]
    rw [ht] at HM
    clear ht
    go_enter Tryd.func25, Tryd.ntmps25
    go_wp2_with (go_at_call 20; refine Calls.mono (May_any _ _ _ _ _ ?_) ?_; (exact hT.below (by repeat (with_reducible (first | exact Below.refl _ _ | assumption | refine Below.to ?_ (by assumption) | refine below_drewN ?_ _ | refine Below.alloc ?_ (by first | (simp; done) | omega | (simp; omega) | (simp at *; omega)) _ | refine Below.setCell ?_ (by first | (simp; done) | omega | (simp; omega) | (simp at *; omega)) _ | refine Below.drew ?_)))); rintro e w1 ⟨rfl, hb1⟩; rw [HM.out]; obtain ⟨hc1, hf1, hz1⟩ := bfacts hb1; simp at hz1)
    have z02 : w.heap.size < w.heap.size + 1 + 1 := by omega
    have y0 : w.heap.size < w1.heap.size := by omega
    have y1 : w.heap.size + 1 < w1.heap.size := by omega
    repeat' (first | go_values | go_skip | go_guarded | (with_reducible (first | refine ex_then_ret ?_ | refine ex_then_exit ?_ | refine ex_then_normal ?_ | refine ex_block_ret ?_ | refine ex_block_normal ?_ | refine ex_block_same ?_ | refine ex_block_other (by decide) ?_)) | go_step | go_upon)
    all_goals (apply bodyPost_ret; (simp only [results, Tryd.results25]; go_simp; exact rfl); rfl)
    all_goals exact gives_of (ins_eq rfl HA.out HB.out HI.out rfl) (by repeat (with_reducible (first | exact Below.refl _ _ | assumption | refine Below.to ?_ (by assumption) | refine below_drewN ?_ _ | refine Below.alloc ?_ (by first | (simp; done) | omega | (simp; omega) | (simp at *; omega)) _ | refine Below.setCell ?_ (by first | (simp; done) | omega | (simp; omega) | (simp at *; omega)) _ | refine Below.drew ?_)))
end Take
namespace RTake
set_option maxHeartbeats 2000000 in
set_option maxRecDepth 100000 in
theorem any (x : Int) (w : World) (h0 : 0 ≤ x) (h1 : x < 4294967296) :
    Calls Tryd.prog 30 #[.int .u32 x] w (Gives (takeV x) w) := by
  have q := Int.emod_nonneg x (show (65536 : Int) ≠ 0 by omega)
  have q' := Int.emod_lt_of_pos x (show (0 : Int) < 65536 by omega)
  by_cases hi : 32767 < x % 65536
  · have eI : x % 65536 - 65536 = Cp.immOf x := by unfold Cp.immOf Cp.sgn16; rw [if_pos hi]
    have HI := Lib.hid eI
    have hm : Cp.may (x / 16777216) (x / 1048576 % 16) (x / 65536 % 16) (x % 65536 - 65536) = Cp.takeB x := by rw [eI]; rfl
    have HM := Lib.hid hm
    clear eI hm
    cases ht : Cp.takeB x
    · rw [takeV_no ht]
      rw [ht] at HM
      clear ht
      go_enter Tryd.func30, Tryd.ntmps30
      go_wp2_with (go_at_call 21; refine Calls.mono (RMay.any _ _ _ _ _) ?_; rintro e w1 ⟨rfl, hb1⟩; rw [HM.out]; obtain ⟨hc1, hf1, hz1⟩ := bfacts hb1; simp at hz1)
      have z02 : w.heap.size < w.heap.size + 1 + 1 := by omega
      have y0 : w.heap.size < w1.heap.size := by omega
      have y1 : w.heap.size + 1 < w1.heap.size := by omega
      repeat' (first | go_values | go_skip | go_guarded | (with_reducible (first | refine ex_then_ret ?_ | refine ex_then_exit ?_ | refine ex_then_normal ?_ | refine ex_block_ret ?_ | refine ex_block_normal ?_ | refine ex_block_same ?_ | refine ex_block_other (by decide) ?_)) | go_step | go_upon)
      all_goals (apply bodyPost_ret; (simp only [results, Tryd.results30]; go_simp; exact rfl); rfl)
      all_goals exact gives_of rfl (by repeat (with_reducible (first | exact Below.refl _ _ | assumption | refine Below.to ?_ (by assumption) | refine below_drewN ?_ _ | refine Below.alloc ?_ (by first | (simp; done) | omega | (simp; omega) | (simp at *; omega)) _ | refine Below.setCell ?_ (by first | (simp; done) | omega | (simp; omega) | (simp at *; omega)) _ | refine Below.drew ?_)))
    · rw [takeV_yes ht]
      rw [ht] at HM
      clear ht
      go_enter Tryd.func30, Tryd.ntmps30
      go_wp2_with (go_at_call 21; refine Calls.mono (RMay.any _ _ _ _ _) ?_; rintro e w1 ⟨rfl, hb1⟩; rw [HM.out]; obtain ⟨hc1, hf1, hz1⟩ := bfacts hb1; simp at hz1)
      have z02 : w.heap.size < w.heap.size + 1 + 1 := by omega
      have y0 : w.heap.size < w1.heap.size := by omega
      have y1 : w.heap.size + 1 < w1.heap.size := by omega
      repeat' (first | go_values | go_skip | go_guarded | (with_reducible (first | refine ex_then_ret ?_ | refine ex_then_exit ?_ | refine ex_then_normal ?_ | refine ex_block_ret ?_ | refine ex_block_normal ?_ | refine ex_block_same ?_ | refine ex_block_other (by decide) ?_)) | go_step | go_upon)
      all_goals (apply bodyPost_ret; (simp only [results, Tryd.results30]; go_simp; exact rfl); rfl)
      all_goals exact gives_of (ins_eq rfl rfl rfl HI.out rfl) (by repeat (with_reducible (first | exact Below.refl _ _ | assumption | refine Below.to ?_ (by assumption) | refine below_drewN ?_ _ | refine Below.alloc ?_ (by first | (simp; done) | omega | (simp; omega) | (simp at *; omega)) _ | refine Below.setCell ?_ (by first | (simp; done) | omega | (simp; omega) | (simp at *; omega)) _ | refine Below.drew ?_)))
  · have eI : x % 65536 = Cp.immOf x := by unfold Cp.immOf Cp.sgn16; rw [if_neg hi]
    have HI := Lib.hid eI
    have hm : Cp.may (x / 16777216) (x / 1048576 % 16) (x / 65536 % 16) (x % 65536) = Cp.takeB x := by rw [eI]; rfl
    have HM := Lib.hid hm
    clear eI hm
    cases ht : Cp.takeB x
    · rw [takeV_no ht]
      rw [ht] at HM
      clear ht
      go_enter Tryd.func30, Tryd.ntmps30
      go_wp2_with (go_at_call 21; refine Calls.mono (RMay.any _ _ _ _ _) ?_; rintro e w1 ⟨rfl, hb1⟩; rw [HM.out]; obtain ⟨hc1, hf1, hz1⟩ := bfacts hb1; simp at hz1)
      have z02 : w.heap.size < w.heap.size + 1 + 1 := by omega
      have y0 : w.heap.size < w1.heap.size := by omega
      have y1 : w.heap.size + 1 < w1.heap.size := by omega
      repeat' (first | go_values | go_skip | go_guarded | (with_reducible (first | refine ex_then_ret ?_ | refine ex_then_exit ?_ | refine ex_then_normal ?_ | refine ex_block_ret ?_ | refine ex_block_normal ?_ | refine ex_block_same ?_ | refine ex_block_other (by decide) ?_)) | go_step | go_upon)
      all_goals (apply bodyPost_ret; (simp only [results, Tryd.results30]; go_simp; exact rfl); rfl)
      all_goals exact gives_of rfl (by repeat (with_reducible (first | exact Below.refl _ _ | assumption | refine Below.to ?_ (by assumption) | refine below_drewN ?_ _ | refine Below.alloc ?_ (by first | (simp; done) | omega | (simp; omega) | (simp at *; omega)) _ | refine Below.setCell ?_ (by first | (simp; done) | omega | (simp; omega) | (simp at *; omega)) _ | refine Below.drew ?_)))
    · rw [takeV_yes ht]
      rw [ht] at HM
      clear ht
      go_enter Tryd.func30, Tryd.ntmps30
      go_wp2_with (go_at_call 21; refine Calls.mono (RMay.any _ _ _ _ _) ?_; rintro e w1 ⟨rfl, hb1⟩; rw [HM.out]; obtain ⟨hc1, hf1, hz1⟩ := bfacts hb1; simp at hz1)
      have z02 : w.heap.size < w.heap.size + 1 + 1 := by omega
      have y0 : w.heap.size < w1.heap.size := by omega
      have y1 : w.heap.size + 1 < w1.heap.size := by omega
      repeat' (first | go_values | go_skip | go_guarded | (with_reducible (first | refine ex_then_ret ?_ | refine ex_then_exit ?_ | refine ex_then_normal ?_ | refine ex_block_ret ?_ | refine ex_block_normal ?_ | refine ex_block_same ?_ | refine ex_block_other (by decide) ?_)) | go_step | go_upon)
      all_goals (apply bodyPost_ret; (simp only [results, Tryd.results30]; go_simp; exact rfl); rfl)
      all_goals exact gives_of (ins_eq rfl rfl rfl HI.out rfl) (by repeat (with_reducible (first | exact Below.refl _ _ | assumption | refine Below.to ?_ (by assumption) | refine below_drewN ?_ _ | refine Below.alloc ?_ (by first | (simp; done) | omega | (simp; omega) | (simp at *; omega)) _ | refine Below.setCell ?_ (by first | (simp; done) | omega | (simp; omega) | (simp at *; omega)) _ | refine Below.drew ?_)))
end RTake
end Go.Proofs.YtllemloicianmaaDoor
