/- The walk of the law CpuPlain: it answers true. Conditions: the registers are words, the table of the uses lies. -/
import Derived.Test.YtllemloicianmaaDoorCpuWord
import Derived.Test.YtllemloicianmaaDoorCpuLawDoes
import Derived.Test.YtllemloicianmaaDoorCpuGoesPlain
import Derived.Test.YtllemloicianmaaDoorCpuArr
import Derived.WalkKit
import Derived.WalkSpells
import Derived.WalkLawsBesides
import Derived.Lib.Hide
import Derived.BigQuiet
import Derived.Deep.QuietTactic

set_option linter.unusedVariables false
set_option linter.unusedSimpArgs false
namespace Go.Proofs.YtllemloicianmaaDoor
open Go.RowKit

/-- so many noughts, four by four; a word behind them -/
def nought (k : Nat) : ByteArray := ⟨(List.replicate (4 * k) 0).toArray⟩
def behind (k : Nat) (v : Int) : ByteArray := ⟨(List.replicate (4 * k) 0 ++ Sg.bytes4 v).toArray⟩
theorem nought_size (k : Nat) : (nought k).size = 4 * k := by
  show (List.toArray _).size = _
  rw [List.size_toArray, List.length_replicate]
theorem nought_succ (k : Nat) : nought k ++ ⟨#[0, 0, 0, 0]⟩ = nought (k + 1) := by
  show ByteArray.mk (List.replicate (4 * k) 0).toArray ++ ByteArray.mk ([0, 0, 0, 0] : List UInt8).toArray = _
  rw [ByteArray.mk_append_mk]
  unfold nought
  congr 2
  rw [show 4 * (k + 1) = 4 * k + 4 by omega]
  show List.replicate (4 * k) 0 ++ List.replicate 4 0 = _
  rw [List.replicate_append_replicate]
theorem nought_behind (k : Nat) (v : Int) : nought k ++ ⟨(Sg.bytes4 v).toArray⟩ = behind k v := ByteArray.mk_append_mk _ _
theorem behind_size (k : Nat) (v : Int) : (behind k v).size = 4 * k + 4 := by
  show (List.toArray _).size = _
  rw [List.size_toArray, List.length_append, List.length_replicate]
  rfl
theorem behind_byte (k : Nat) (v : Int) (j : Nat) : Sg.byte (behind k v) (4 * k + j) = (((Sg.bytes4 v).getD j 0).toNat : Int) := by
  unfold Sg.byte behind
  rw [List.getD_eq_getElem?_getD, List.getElem?_append_right (by rw [List.length_replicate]; omega), List.length_replicate, show 4 * k + j - 4 * k = j by omega, List.getD_eq_getElem?_getD]
theorem behind_word (k : Nat) {v : Int} (v0 : 0 ≤ v) (v1 : v < 4294967296) : Sg.word (behind k v) (4 * k) = v := by
  unfold Sg.word
  have h0 := behind_byte k v 0
  rw [Nat.add_zero] at h0
  rw [h0, behind_byte, behind_byte, behind_byte]
  have e0 := Sg.ofNat_toNat (v % 256) (by omega) (by omega)
  have e1 := Sg.ofNat_toNat (v / 256 % 256) (by omega) (by omega)
  have e2 := Sg.ofNat_toNat (v / 65536 % 256) (by omega) (by omega)
  have e3 := Sg.ofNat_toNat (v / 16777216) (by omega) (by omega)
  show ((UInt8.ofNat (v % 256).toNat).toNat : Int) + 256 * ((UInt8.ofNat (v / 256 % 256).toNat).toNat : Int) + 65536 * ((UInt8.ofNat (v / 65536 % 256).toNat).toNat : Int) + 16777216 * ((UInt8.ofNat (v / 16777216).toNat).toNat : Int) = v
  rw [e0, e1, e2, e3]
  omega
/-- a step there is what the instruction does -/
theorem behind_step {rs : List Int} {op a b i : Int} (k : Nat) (hB : Cp.doesB op a b i = true) :
    Cp.step rs (4 * k : Nat) (behind k (Cp.enc op a b i)) = ⟨Cp.doesR rs (4 * k : Nat) op a b i, Cp.doesP rs (4 * k : Nat) op a b i, behind k (Cp.enc op a b i), 0⟩ := by
  have hm : Cp.may op a b i = true := by unfold Cp.doesB at hB; rw [Bool.and_eq_true] at hB; exact hB.1
  have hl : Cp.lim op a b i = true := by simp only [Cp.may, Bool.and_eq_true] at hm; exact hm.1.1.1
  obtain ⟨e0, e1, eo, ea, eb, ei⟩ := Cp.enc_parts hl
  obtain ⟨h1, h2, h3, _⟩ := doesB_yes hB
  have hw : Sg.isWord (behind k (Cp.enc op a b i)) ((4 * k : Nat) : Int) = true := by
    simp only [Sg.isWord, Sg.has, Bool.and_eq_true, decide_eq_true_eq, behind_size]
    omega
  unfold Cp.step
  rw [if_pos hw, Int.toNat_natCast, behind_word k e0 e1]
  have ht : Cp.takeB (Cp.enc op a b i) = true := by unfold Cp.takeB; rw [eo, ea, eb, ei]; exact hm
  rw [if_pos ht, eo, ea, eb, ei]
  unfold Cp.stepI
  simp only []
  rw [if_neg (by omega), if_neg (by omega), if_neg (by omega), if_neg (by omega), if_neg (by omega)]

namespace LawPlain
variable (r0 r1 r2 r3 r4 r5 r6 r7 pc op a b i n : Int) (w : World)
set_option maxHeartbeats 4000000 in
set_option maxRecDepth 100000 in
theorem odd (hm : Cp.may op a b i = false) (hT : Tab w) :
    Calls Tryd.prog 9 #[.agg #[.int .u32 r0, .int .u32 r1, .int .u32 r2, .int .u32 r3, .int .u32 r4, .int .u32 r5, .int .u32 r6, .int .u32 r7, .int .u32 pc], .agg #[.int .i64 op, .int .i64 a, .int .i64 b, .int .i64 i], .int .i64 n] w (Gives (.bool true) w) := by
  have z02 : w.heap.size < w.heap.size + 1 + 1 := by omega
  go_enter Tryd.func9, Tryd.ntmps9
  repeat' (first | go_values | go_skip | go_guarded | (with_reducible (first | refine ex_then_ret ?_ | refine ex_then_exit ?_ | refine ex_then_normal ?_ | refine ex_block_ret ?_ | refine ex_block_normal ?_ | refine ex_block_same ?_ | refine ex_block_other (by decide) ?_)) | go_step | go_upon)
  refine Calls.mono (LawDoes.shown _ (hT.below (by repeat (with_reducible (first | exact Below.refl _ _ | assumption | refine Below.to ?_ (by assumption) | refine below_drewN ?_ _ | refine Below.alloc ?_ (by first | (simp; done) | omega | (simp; omega) | (simp at *; omega)) _ | refine Below.setCell ?_ (by first | (simp; done) | omega | (simp; omega) | (simp at *; omega)) _ | refine Below.drew ?_))))) ?_
  rintro e w1 ⟨rfl, hb1⟩
  obtain ⟨hc1, hf1, hz1⟩ := bfacts hb1
  try simp at hz1
  dsimp only
  repeat' (first | go_values | go_skip | go_guarded | (with_reducible (first | refine ex_then_ret ?_ | refine ex_then_exit ?_ | refine ex_then_normal ?_ | refine ex_block_ret ?_ | refine ex_block_normal ?_ | refine ex_block_same ?_ | refine ex_block_other (by decide) ?_)) | go_step | go_upon)
  refine Calls.mono (RBytes.no op a b i _ _ hm (by simp) (by go_simp) (by go_simp) (by go_simp) (by go_simp)) ?_
  rintro e w2 ⟨rfl, hb2⟩
  dsimp only
  repeat' (first | go_values | go_skip | go_guarded | (with_reducible (first | refine ex_then_ret ?_ | refine ex_then_exit ?_ | refine ex_then_normal ?_ | refine ex_block_ret ?_ | refine ex_block_normal ?_ | refine ex_block_same ?_ | refine ex_block_other (by decide) ?_)) | go_step | go_upon)
  all_goals go_ret
  all_goals exact gives_of (by simp) (by repeat (with_reducible (first | exact Below.refl _ _ | assumption | refine Below.to ?_ (by assumption) | refine below_drewN ?_ _ | refine Below.alloc ?_ (by first | (simp; done) | omega | (simp; omega) | (simp at *; omega)) _ | refine Below.setCell ?_ (by first | (simp; done) | omega | (simp; omega) | (simp at *; omega)) _ | refine Below.drew ?_)))
set_option maxHeartbeats 4000000 in
set_option maxRecDepth 100000 in
theorem out (hm : Cp.may op a b i = true) (hn : n < 0 ∨ 50 < n) (hT : Tab w) :
    Calls Tryd.prog 9 #[.agg #[.int .u32 r0, .int .u32 r1, .int .u32 r2, .int .u32 r3, .int .u32 r4, .int .u32 r5, .int .u32 r6, .int .u32 r7, .int .u32 pc], .agg #[.int .i64 op, .int .i64 a, .int .i64 b, .int .i64 i], .int .i64 n] w (Gives (.bool true) w) := by
  have z02 : w.heap.size < w.heap.size + 1 + 1 := by omega
  go_enter Tryd.func9, Tryd.ntmps9
  repeat' (first | go_values | go_skip | go_guarded | (with_reducible (first | refine ex_then_ret ?_ | refine ex_then_exit ?_ | refine ex_then_normal ?_ | refine ex_block_ret ?_ | refine ex_block_normal ?_ | refine ex_block_same ?_ | refine ex_block_other (by decide) ?_)) | go_step | go_upon)
  refine Calls.mono (LawDoes.shown _ (hT.below (by repeat (with_reducible (first | exact Below.refl _ _ | assumption | refine Below.to ?_ (by assumption) | refine below_drewN ?_ _ | refine Below.alloc ?_ (by first | (simp; done) | omega | (simp; omega) | (simp at *; omega)) _ | refine Below.setCell ?_ (by first | (simp; done) | omega | (simp; omega) | (simp at *; omega)) _ | refine Below.drew ?_))))) ?_
  rintro e w1 ⟨rfl, hb1⟩
  obtain ⟨hc1, hf1, hz1⟩ := bfacts hb1
  try simp at hz1
  have y0 : w.heap.size < w1.heap.size := by omega
  try (have y1 : w.heap.size + 1 < w1.heap.size := by omega)
  dsimp only
  repeat' (first | go_values | go_skip | go_guarded | (with_reducible (first | refine ex_then_ret ?_ | refine ex_then_exit ?_ | refine ex_then_normal ?_ | refine ex_block_ret ?_ | refine ex_block_normal ?_ | refine ex_block_same ?_ | refine ex_block_other (by decide) ?_)) | go_step | go_upon)
  refine Calls.mono (RBytes.yes op a b i _ _ hm (by simp) (by go_simp) (by go_simp) (by go_simp) (by go_simp)) ?_
  rintro e w2 ⟨rfl, hb2⟩
  obtain ⟨hc2, hf2, hz2⟩ := bfacts hb2
  try simp at hz2
  have x0 : w.heap.size < w2.heap.size := by omega
  try (have x1 : w.heap.size + 1 < w2.heap.size := by omega)
  have k12 : w1.heap.size < w2.heap.size := by omega
  dsimp only
  repeat' (first | go_values | go_skip | go_guarded | (with_reducible (first | refine ex_then_ret ?_ | refine ex_then_exit ?_ | refine ex_then_normal ?_ | refine ex_block_ret ?_ | refine ex_block_normal ?_ | refine ex_block_same ?_ | refine ex_block_other (by decide) ?_)) | go_step | go_upon)
  all_goals (first | (exfalso; simp at *; omega) | go_ret)
  all_goals exact gives_of (by simp) (by repeat (with_reducible (first | exact Below.refl _ _ | assumption | refine Below.to ?_ (by assumption) | refine below_drewN ?_ _ | refine Below.alloc ?_ (by first | (simp; done) | omega | (simp; omega) | (simp at *; omega)) _ | refine Below.setCell ?_ (by first | (simp; done) | omega | (simp; omega) | (simp at *; omega)) _ | refine Below.drew ?_)))

set_option maxHeartbeats 4000000 in
set_option maxRecDepth 100000 in
theorem within (N : Nat) (hm : Cp.may op a b i = true) (hw : Words [r0, r1, r2, r3, r4, r5, r6, r7]) (hn1 : N ≤ 50) (hT : Tab w) :
    Calls Tryd.prog 9 #[.agg #[.int .u32 r0, .int .u32 r1, .int .u32 r2, .int .u32 r3, .int .u32 r4, .int .u32 r5, .int .u32 r6, .int .u32 r7, .int .u32 pc], .agg #[.int .i64 op, .int .i64 a, .int .i64 b, .int .i64 i], .int .i64 N] w (Gives (.bool true) w) := by
  have hn0 : (0 : Int) ≤ N := by omega
  have hn2 : (N : Int) ≤ 50 := by omega
  have hstep := fun hB => behind_step (rs := [r0, r1, r2, r3, r4, r5, r6, r7]) (op := op) (a := a) (b := b) (i := i) N hB
  have hsz := behind_size N (Cp.enc op a b i)
  have hnb := nought_behind N (Cp.enc op a b i)
  rw [show ((4 * N : Nat) : Int) = 4 * (N : Int) by omega] at hstep
  have q0 : 0 ≤ 4 * (N : Int) := by omega
  have q1 : 4 * (N : Int) < 4294967296 := by omega
  have kk := step_kept hw q0 q1 (behind N (Cp.enc op a b i))
  obtain ⟨t0, t1, t2, t3, t4, t5, t6, t7, hts, _⟩ := cpuV_ex 0 kk.words.1
  have HD0 : Hid (Cp.doesB op a b i = false → ∀ W, Tab W → Calls Tryd.prog 13 #[.agg #[.int .u32 r0, .int .u32 r1, .int .u32 r2, .int .u32 r3, .int .u32 r4, .int .u32 r5, .int .u32 r6, .int .u32 r7, .int .u32 (4 * (N : Int))], .agg #[.int .i64 op, .int .i64 a, .int .i64 b, .int .i64 i]] W
      (Gives (.tuple #[.agg #[.int .u32 r0, .int .u32 r1, .int .u32 r2, .int .u32 r3, .int .u32 r4, .int .u32 r5, .int .u32 r6, .int .u32 r7, .int .u32 (4 * (N : Int))], .bool false]) W)) :=
    Lib.hid (fun hB => Does_ex hw (doesB_no hB).1 (doesB_no hB).2 hB)
  have HD1 : Hid (Cp.doesB op a b i = true → (Cp.step [r0, r1, r2, r3, r4, r5, r6, r7] (4 * (N : Int)) (behind N (Cp.enc op a b i))).t = 0 ∧ (Cp.step [r0, r1, r2, r3, r4, r5, r6, r7] (4 * (N : Int)) (behind N (Cp.enc op a b i))).m = behind N (Cp.enc op a b i) ∧
      ∀ W, Tab W → Calls Tryd.prog 13 #[.agg #[.int .u32 r0, .int .u32 r1, .int .u32 r2, .int .u32 r3, .int .u32 r4, .int .u32 r5, .int .u32 r6, .int .u32 r7, .int .u32 (4 * (N : Int))], .agg #[.int .i64 op, .int .i64 a, .int .i64 b, .int .i64 i]] W
      (Gives (.tuple #[.agg #[.int .u32 t0, .int .u32 t1, .int .u32 t2, .int .u32 t3, .int .u32 t4, .int .u32 t5, .int .u32 t6, .int .u32 t7, .int .u32 (Cp.step [r0, r1, r2, r3, r4, r5, r6, r7] (4 * (N : Int)) (behind N (Cp.enc op a b i))).pc], .bool true]) W)) :=
    Lib.hid (fun hB => by
      have h := hstep hB
      refine ⟨by rw [h], by rw [h], Does_ex hw ?_ ?_ hB⟩
      · rw [← hts, h]
      · rw [h])
  have HS := Lib.hid (Step_ex hw q0 q1 (by rw [hsz]; omega) hts rfl rfl rfl)
  generalize (Cp.step [r0, r1, r2, r3, r4, r5, r6, r7] (4 * (N : Int)) (behind N (Cp.enc op a b i))).pc = p at HS HD1
  generalize (Cp.step [r0, r1, r2, r3, r4, r5, r6, r7] (4 * (N : Int)) (behind N (Cp.enc op a b i))).t = t at HS HD1
  generalize (Cp.step [r0, r1, r2, r3, r4, r5, r6, r7] (4 * (N : Int)) (behind N (Cp.enc op a b i))).m = k at HS HD1
  have HN := Lib.hid hnb
  clear kk hts hstep hsz hnb q0 q1
  have hA := arr_regs
  have z02 : w.heap.size < w.heap.size + 1 + 1 := by omega
  go_enter Tryd.func9, Tryd.ntmps9
  repeat' (first | go_values | go_skip | go_guarded | (with_reducible (first | refine ex_then_ret ?_ | refine ex_then_exit ?_ | refine ex_then_normal ?_ | refine ex_block_ret ?_ | refine ex_block_normal ?_ | refine ex_block_same ?_ | refine ex_block_other (by decide) ?_)) | go_step | go_upon)
  refine Calls.mono (LawDoes.shown _ (hT.below (by repeat (with_reducible (first | exact Below.refl _ _ | assumption | refine Below.to ?_ (by assumption) | refine below_drewN ?_ _ | refine Below.alloc ?_ (by first | (simp; done) | omega | (simp; omega) | (simp at *; omega)) _ | refine Below.setCell ?_ (by first | (simp; done) | omega | (simp; omega) | (simp at *; omega)) _ | refine Below.drew ?_))))) ?_
  rintro e w1 ⟨rfl, hb1⟩
  obtain ⟨hc1, hf1, hz1⟩ := bfacts hb1
  try simp at hz1
  have y0 : w.heap.size < w1.heap.size := by omega
  try (have y1 : w.heap.size + 1 < w1.heap.size := by omega)
  dsimp only
  repeat' (first | go_values | go_skip | go_guarded | (with_reducible (first | refine ex_then_ret ?_ | refine ex_then_exit ?_ | refine ex_then_normal ?_ | refine ex_block_ret ?_ | refine ex_block_normal ?_ | refine ex_block_same ?_ | refine ex_block_other (by decide) ?_)) | go_step | go_upon)
  refine Calls.mono (RBytes.yes op a b i _ _ hm (by simp) (by go_simp) (by go_simp) (by go_simp) (by go_simp)) ?_
  rintro e w2 ⟨rfl, hb2⟩
  obtain ⟨hc2, hf2, hz2⟩ := bfacts hb2
  try simp at hz2
  have x0 : w.heap.size < w2.heap.size := by omega
  try (have x1 : w.heap.size + 1 < w2.heap.size := by omega)
  have k12 : w1.heap.size < w2.heap.size := by omega
  dsimp only
  repeat' (first | go_values | go_skip | go_guarded | (with_reducible (first | refine ex_then_ret ?_ | refine ex_then_exit ?_ | refine ex_then_normal ?_ | refine ex_block_ret ?_ | refine ex_block_normal ?_ | refine ex_block_same ?_ | refine ex_block_other (by decide) ?_)) | go_step | go_upon)
  go_loop [10, 11] (fun v j => ∃ k : Nat, k ≤ N ∧ j = .int .i64 k ∧ v = .string (nought k)) (fun _ j => N - (intOf j).toNat)
  case atStart => exact ⟨0, Nat.zero_le _, rfl, rfl⟩
  case round =>
    obtain ⟨j, hj, rfl, rfl⟩ := hrel
    have hz := nought_size j
    have hs := Lib.hid (nought_succ j)
    by_cases hlt : j < N
    · have j1 : (j : Int) < N := by omega
      have h4 : (⟨#[0, 0, 0, 0]⟩ : ByteArray).size = 4 := rfl
      repeat' (first | go_values | go_skip | go_guarded | (with_reducible (first | refine ex_then_ret ?_ | refine ex_then_exit ?_ | refine ex_then_normal ?_ | refine ex_block_ret ?_ | refine ex_block_normal ?_ | refine ex_block_same ?_ | refine ex_block_other (by decide) ?_)) | go_step | go_upon)
      exact ⟨⟨j + 1, by omega, by go_num, by rw [hs.out]⟩, by simp [intOf]; omega⟩
    · obtain rfl : j = N := by omega
      have j1 : ¬ (j : Int) < j := by omega
      have h4 : (⟨(Sg.bytes4 (Cp.enc op a b i)).toArray⟩ : ByteArray).size = 4 := rfl
      have hnb := HN.out
      have g0 : w.heap.size < w1.heap.size + 1 := by omega
      have g1 : w.heap.size + 1 < w1.heap.size + 1 := by omega
      cases hB : Cp.doesB op a b i
      · have H1 := Lib.hid (HD0.out hB)
        clear HD0 HD1 hB
        repeat' (first | go_values | go_skip | go_guarded | (with_reducible (first | refine ex_then_ret ?_ | refine ex_then_exit ?_ | refine ex_then_normal ?_ | refine ex_block_ret ?_ | refine ex_block_normal ?_ | refine ex_block_same ?_ | refine ex_block_other (by decide) ?_)) | go_step | go_upon)
        refine Calls.mono (H1.out _ ?_) ?_
        · exact hT.below (by repeat (with_reducible (first | exact Below.refl _ _ | assumption | refine Below.to ?_ (by assumption) | refine below_drewN ?_ _ | refine Below.alloc ?_ (by first | (simp; done) | omega | (simp; omega) | (simp at *; omega)) _ | refine Below.setCell ?_ (by first | (simp; done) | omega | (simp; omega) | (simp at *; omega)) _ | refine Below.drew ?_)))
        rintro e w3 ⟨rfl, hb3⟩
        obtain ⟨hc3, hf3, hz3⟩ := bfacts hb3
        try simp at hz3
        have u0 : w.heap.size < w3.heap.size := by omega
        have u1 : w.heap.size + 1 < w3.heap.size := by omega
        have u2 : w1.heap.size < w3.heap.size := by omega
        dsimp only
        repeat' (first | go_values | go_skip | go_guarded | (with_reducible (first | refine ex_then_ret ?_ | refine ex_then_exit ?_ | refine ex_then_normal ?_ | refine ex_block_ret ?_ | refine ex_block_normal ?_ | refine ex_block_same ?_ | refine ex_block_other (by decide) ?_)) | go_step | go_upon)
        refine Calls.mono (HS.out _ ?_) ?_
        · exact hT.below (by repeat (with_reducible (first | exact Below.refl _ _ | assumption | refine Below.to ?_ (by assumption) | refine below_drewN ?_ _ | refine Below.alloc ?_ (by first | (simp; done) | omega | (simp; omega) | (simp at *; omega)) _ | refine Below.setCell ?_ (by first | (simp; done) | omega | (simp; omega) | (simp at *; omega)) _ | refine Below.drew ?_)))
        rintro e w4 ⟨rfl, hb4⟩
        obtain ⟨hc4, hf4, hz4⟩ := bfacts hb4
        try simp at hz4
        have v0 : w.heap.size < w4.heap.size := by omega
        have v1 : w.heap.size + 1 < w4.heap.size := by omega
        have v2 : w1.heap.size < w4.heap.size := by omega
        have v3 : w3.heap.size < w4.heap.size := by omega
        dsimp only
        repeat' (first | go_values | go_skip | go_guarded | (with_reducible (first | refine ex_then_ret ?_ | refine ex_then_exit ?_ | refine ex_then_normal ?_ | refine ex_block_ret ?_ | refine ex_block_normal ?_ | refine ex_block_same ?_ | refine ex_block_other (by decide) ?_)) | go_step | go_upon)
        all_goals go_ret
        all_goals exact gives_of (by simp) (by repeat (with_reducible (first | exact Below.refl _ _ | assumption | refine Below.to ?_ (by assumption) | refine below_drewN ?_ _ | refine Below.alloc ?_ (by first | (simp; done) | omega | (simp; omega) | (simp at *; omega)) _ | refine Below.setCell ?_ (by first | (simp; done) | omega | (simp; omega) | (simp at *; omega)) _ | refine Below.drew ?_)))
      · obtain ⟨rfl, rfl, h1⟩ := HD1.out hB
        have H1 := Lib.hid h1
        clear HD0 HD1 hB h1
        repeat' (first | go_values | go_skip | go_guarded | (with_reducible (first | refine ex_then_ret ?_ | refine ex_then_exit ?_ | refine ex_then_normal ?_ | refine ex_block_ret ?_ | refine ex_block_normal ?_ | refine ex_block_same ?_ | refine ex_block_other (by decide) ?_)) | go_step | go_upon)
        refine Calls.mono (H1.out _ ?_) ?_
        · exact hT.below (by repeat (with_reducible (first | exact Below.refl _ _ | assumption | refine Below.to ?_ (by assumption) | refine below_drewN ?_ _ | refine Below.alloc ?_ (by first | (simp; done) | omega | (simp; omega) | (simp at *; omega)) _ | refine Below.setCell ?_ (by first | (simp; done) | omega | (simp; omega) | (simp at *; omega)) _ | refine Below.drew ?_)))
        rintro e w3 ⟨rfl, hb3⟩
        obtain ⟨hc3, hf3, hz3⟩ := bfacts hb3
        try simp at hz3
        have u0 : w.heap.size < w3.heap.size := by omega
        have u1 : w.heap.size + 1 < w3.heap.size := by omega
        have u2 : w1.heap.size < w3.heap.size := by omega
        dsimp only
        repeat' (first | go_values | go_skip | go_guarded | (with_reducible (first | refine ex_then_ret ?_ | refine ex_then_exit ?_ | refine ex_then_normal ?_ | refine ex_block_ret ?_ | refine ex_block_normal ?_ | refine ex_block_same ?_ | refine ex_block_other (by decide) ?_)) | go_step | go_upon)
        refine Calls.mono (HS.out _ ?_) ?_
        · exact hT.below (by repeat (with_reducible (first | exact Below.refl _ _ | assumption | refine Below.to ?_ (by assumption) | refine below_drewN ?_ _ | refine Below.alloc ?_ (by first | (simp; done) | omega | (simp; omega) | (simp at *; omega)) _ | refine Below.setCell ?_ (by first | (simp; done) | omega | (simp; omega) | (simp at *; omega)) _ | refine Below.drew ?_)))
        rintro e w4 ⟨rfl, hb4⟩
        obtain ⟨hc4, hf4, hz4⟩ := bfacts hb4
        try simp at hz4
        have v0 : w.heap.size < w4.heap.size := by omega
        have v1 : w.heap.size + 1 < w4.heap.size := by omega
        have v2 : w1.heap.size < w4.heap.size := by omega
        have v3 : w3.heap.size < w4.heap.size := by omega
        dsimp only
        repeat' (first | go_values | go_skip | go_guarded | (with_reducible (first | refine ex_then_ret ?_ | refine ex_then_exit ?_ | refine ex_then_normal ?_ | refine ex_block_ret ?_ | refine ex_block_normal ?_ | refine ex_block_same ?_ | refine ex_block_other (by decide) ?_)) | go_step | go_upon)
        all_goals go_ret
        all_goals exact gives_of (by simp) (by repeat (with_reducible (first | exact Below.refl _ _ | assumption | refine Below.to ?_ (by assumption) | refine below_drewN ?_ _ | refine Below.alloc ?_ (by first | (simp; done) | omega | (simp; omega) | (simp at *; omega)) _ | refine Below.setCell ?_ (by first | (simp; done) | omega | (simp; omega) | (simp at *; omega)) _ | refine Below.drew ?_)))

theorem walk (hw : Words [r0, r1, r2, r3, r4, r5, r6, r7]) (hT : Tab w) :
    Calls Tryd.prog 9 #[.agg #[.int .u32 r0, .int .u32 r1, .int .u32 r2, .int .u32 r3, .int .u32 r4, .int .u32 r5, .int .u32 r6, .int .u32 r7, .int .u32 pc], .agg #[.int .i64 op, .int .i64 a, .int .i64 b, .int .i64 i], .int .i64 n] w (Gives (.bool true) w) := by
  by_cases hm : Cp.may op a b i = true
  · by_cases hn : n < 0 ∨ 50 < n
    · exact out r0 r1 r2 r3 r4 r5 r6 r7 pc op a b i n w hm hn hT
    · obtain ⟨N, rfl⟩ := Int.eq_ofNat_of_zero_le (show 0 ≤ n by omega)
      exact within r0 r1 r2 r3 r4 r5 r6 r7 pc op a b i w N hm hw (by omega) hT
  · exact odd r0 r1 r2 r3 r4 r5 r6 r7 pc op a b i n w (by simpa using hm) hT
end LawPlain
end Go.Proofs.YtllemloicianmaaDoor
