/- The walk of the law CpuOwn: it answers true. Conditions: the registers are words, the table of the uses lies, a memory is no longer than a string can be. -/
import Derived.Test.YtllemloicianmaaDoorCpuRun
import Derived.WalkKit
import Derived.WalkSpells
import Derived.WalkLawsBesides
import Derived.Lib.Hide
import Derived.BigQuiet
import Derived.Deep.QuietTactic

set_option linter.unusedVariables false
set_option linter.unusedSimpArgs false
namespace Go.Proofs.YtllemloicianmaaDoor
open Go.RowKit

/-- how many of the first i registers differ -/
def cnt (rs ss : List Int) : Nat → Nat
  | 0 => 0
  | i + 1 => cnt rs ss i + (if ss.getD i 0 = rs.getD i 0 then 0 else 1)
theorem cnt_le (rs ss : List Int) (i : Nat) : cnt rs ss i ≤ i := by
  induction i with
  | zero => exact Nat.le_refl _
  | succ i ih => unfold cnt; split <;> omega
theorem cnt_set (rs : List Int) (k : Nat) (x : Int) : ∀ i, cnt rs (rs.set k x) i ≤ (if k < i then 1 else 0)
  | 0 => Nat.zero_le _
  | i + 1 => by
    have ih := cnt_set rs k x i
    unfold cnt
    by_cases e : k = i
    · subst e
      rw [if_neg (Nat.lt_irrefl _)] at ih
      rw [if_pos (show k < k + 1 by omega)]
      by_cases h : (rs.set k x).getD k 0 = rs.getD k 0
      · rw [if_pos h]; omega
      · rw [if_neg h]; omega
    · rw [getD_set_other rs k i x e, if_pos rfl]
      split at ih
      · rw [if_pos (show k < i + 1 by omega)]; omega
      · rw [if_neg (show ¬ k < i + 1 by omega)]; omega

theorem own_facts {rs : List Int} {pc : Int} {m : ByteArray} {s : Cp.St} (h : Kept rs pc m s) (hw : Words rs) : (∃ k x, k < 8 ∧ s.rs = rs.set k x) ∧ ∃ k, ∀ j, ¬ (k ≤ j ∧ j < k + 4) → Sg.byte s.m j = Sg.byte m j := by
  have same : rs = rs.set 0 (rs.getD 0 0) := (set_self rs 0 (by rw [hw.1]; omega)).symm
  rcases h.ways with ⟨_, h1, _, h2⟩ | ⟨_, h1, _, h2⟩ | ⟨_, h1, h2⟩
  · exact ⟨⟨0, _, by omega, by rw [h1]; exact same⟩, 0, fun j _ => by rw [h2]⟩
  · exact ⟨⟨0, _, by omega, by rw [h1]; exact same⟩, 0, fun j _ => by rw [h2]⟩
  · exact ⟨h1, h2⟩

namespace LawOwn
/-- the head of the first loop -/
def Inv (B A : Nat) (w : World) (rs ss : List Int) (pc p : Int) (vm vi : Value) (wr : World) : Prop :=
  ∃ i : Nat, i ≤ 8 ∧ vi = .int .i64 i ∧ vm = .int .i64 (cnt rs ss i) ∧ Below B w wr ∧ CpuAt wr B rs pc ∧ CpuAt wr A ss p
/-- the head of the second -/
def Inv2 (B b n : Nat) (w : World) (vf vl vi : Value) (wr : World) : Prop :=
  ∃ (i : Nat) (f l : Int), i ≤ n ∧ vi = .int .i64 i ∧ vf = .int .i64 f ∧ vl = .int .i64 l ∧ (f = -1 ∨ 0 ≤ f ∧ (b : Int) ≤ f ∧ f ≤ l ∧ l < b + 4 ∧ l < i) ∧ Below B w wr
variable (r0 r1 r2 r3 r4 r5 r6 r7 pc : Int) (m : ByteArray) (w : World)
set_option maxHeartbeats 4000000 in
set_option maxRecDepth 100000 in
theorem walk (hw : Words [r0, r1, r2, r3, r4, r5, r6, r7]) (p0 : 0 ≤ pc) (p1 : pc < 4294967296) (hm : m.size ≤ 140737488355328) (hT : Tab w) :
    Calls Tryd.prog 8 #[.agg #[.int .u32 r0, .int .u32 r1, .int .u32 r2, .int .u32 r3, .int .u32 r4, .int .u32 r5, .int .u32 r6, .int .u32 r7, .int .u32 pc], .string m] w (Gives (.bool true) w) := by
  have kk := step_kept hw p0 p1 m
  obtain ⟨s0, s1, s2, s3, s4, s5, s6, s7, hs, _⟩ := cpuV_ex 0 kk.words.1
  have H1 := Lib.hid (Step_ex hw p0 p1 hm hs rfl rfl rfl)
  have H7 := Lib.hid kk
  have hz : (Cp.step [r0, r1, r2, r3, r4, r5, r6, r7] pc m).m.size = m.size := kk.size
  generalize (Cp.step [r0, r1, r2, r3, r4, r5, r6, r7] pc m).pc = p at H1
  generalize (Cp.step [r0, r1, r2, r3, r4, r5, r6, r7] pc m).t = t at H1
  obtain ⟨k, hk'⟩ : ∃ x, (Cp.step [r0, r1, r2, r3, r4, r5, r6, r7] pc m).m = x := ⟨_, rfl⟩
  rw [hk'] at H1 hz
  have hs' := hs
  clear kk hs
  have HZ := Lib.hid hz
  clear hz
  have z02 : w.heap.size < w.heap.size + 1 + 1 := by omega
  go_enter Tryd.func8, Tryd.ntmps8
  repeat' (first | go_values | go_skip | go_guarded | (with_reducible (first | refine ex_then_ret ?_ | refine ex_then_exit ?_ | refine ex_then_normal ?_ | refine ex_block_ret ?_ | refine ex_block_normal ?_ | refine ex_block_same ?_ | refine ex_block_other (by decide) ?_)) | go_step | go_upon)
  refine Calls.mono (LawDoes.shown _ ?_) ?_
  · exact hT.below (by repeat (with_reducible (first | exact Below.refl _ _ | assumption | refine Below.to ?_ (by assumption) | refine below_drewN ?_ _ | refine Below.alloc ?_ (by first | (simp; done) | omega | (simp; omega) | (simp at *; omega)) _ | refine Below.setCell ?_ (by first | (simp; done) | omega | (simp; omega) | (simp at *; omega)) _ | refine Below.drew ?_)))
  rintro e w1 ⟨rfl, hb1⟩
  obtain ⟨hc1, hf1, hz1⟩ := bfacts hb1
  try simp at hz1
  have y0 : w.heap.size < w1.heap.size := by omega
  try (have y1 : w.heap.size + 1 < w1.heap.size := by omega)
  dsimp only
  repeat' (first | go_values | go_skip | go_guarded | (with_reducible (first | refine ex_then_ret ?_ | refine ex_then_exit ?_ | refine ex_then_normal ?_ | refine ex_block_ret ?_ | refine ex_block_normal ?_ | refine ex_block_same ?_ | refine ex_block_other (by decide) ?_)) | go_step | go_upon)
  refine Calls.mono (H1.out _ ?_) ?_
  · exact hT.below (by repeat (with_reducible (first | exact Below.refl _ _ | assumption | refine Below.to ?_ (by assumption) | refine below_drewN ?_ _ | refine Below.alloc ?_ (by first | (simp; done) | omega | (simp; omega) | (simp at *; omega)) _ | refine Below.setCell ?_ (by first | (simp; done) | omega | (simp; omega) | (simp at *; omega)) _ | refine Below.drew ?_)))
  rintro e v1 ⟨rfl, gb1⟩
  obtain ⟨gc1, gf1, gz1⟩ := bfacts gb1
  try simp at gz1
  clear H1
  have x1 : w.heap.size < v1.heap.size := by omega
  try (have x1' : w.heap.size + 1 < v1.heap.size := by omega)
  dsimp only
  repeat' (first | go_values | go_skip | go_guarded | (with_reducible (first | refine ex_then_ret ?_ | refine ex_then_exit ?_ | refine ex_then_normal ?_ | refine ex_block_ret ?_ | refine ex_block_normal ?_ | refine ex_block_same ?_ | refine ex_block_other (by decide) ?_)) | go_step | go_upon)
  have hcnt : cnt [r0, r1, r2, r3, r4, r5, r6, r7] [s0, s1, s2, s3, s4, s5, s6, s7] 8 ≤ 1 := by
    obtain ⟨⟨j, y, hj, hy⟩, _⟩ := own_facts H7.out hw
    rw [hs'] at hy
    rw [hy]
    have := cnt_set [r0, r1, r2, r3, r4, r5, r6, r7] j y 8
    rwa [if_pos hj] at this
  have HC := Lib.hid hcnt
  clear hcnt
  go_loopw [9, 10] (fun vm vi wr => Inv w.heap.size v1.heap.size w [r0, r1, r2, r3, r4, r5, r6, r7] [s0, s1, s2, s3, s4, s5, s6, s7] pc p vm vi wr) (fun _ vi _ => 8 - (intOf vi).toNat)
  case atStart =>
    refine ⟨0, by omega, rfl, rfl, (by repeat (with_reducible (first | exact Below.refl _ _ | assumption | refine Below.to ?_ (by assumption) | refine below_drewN ?_ _ | refine Below.alloc ?_ (by first | (simp; done) | omega | (simp; omega) | (simp at *; omega)) _ | refine Below.setCell ?_ (by first | (simp; done) | omega | (simp; omega) | (simp at *; omega)) _ | refine Below.drew ?_))), ?_, ?_⟩
    · exact cpuAt_of (by simp; omega) (fun o => by go_simp) (by go_simp) (by go_simp) (by go_simp) (by go_simp) (by go_simp) (by go_simp) (by go_simp) (by go_simp) (by go_simp)
    · exact cpuAt_of (by simp) (fun o => by go_simp) (by go_simp) (by go_simp) (by go_simp) (by go_simp) (by go_simp) (by go_simp) (by go_simp) (by go_simp) (by go_simp)
  case round =>
    obtain ⟨i, hi, rfl, rfl, hbel, hC, hA⟩ := hrel
    have hle := cnt_le [r0, r1, r2, r3, r4, r5, r6, r7] [s0, s1, s2, s3, s4, s5, s6, s7] i
    by_cases hlt : i < 8
    · have c1 := hC.2.2 i (by omega)
      have c2 := hA.2.2 i (by omega)
      have e1 : ([r0, r1, r2, r3, r4, r5, r6, r7] ++ [pc]).getD i 0 = [r0, r1, r2, r3, r4, r5, r6, r7].getD i 0 := by
        rw [List.getD_eq_getElem?_getD, List.getD_eq_getElem?_getD, List.getElem?_append_left (by simpa using hlt)]
      have e2 : ([s0, s1, s2, s3, s4, s5, s6, s7] ++ [p]).getD i 0 = [s0, s1, s2, s3, s4, s5, s6, s7].getD i 0 := by
        rw [List.getD_eq_getElem?_getD, List.getD_eq_getElem?_getD, List.getElem?_append_left (by simpa using hlt)]
      rw [e1] at c1
      rw [e2] at c2
      have hcs : cnt [r0, r1, r2, r3, r4, r5, r6, r7] [s0, s1, s2, s3, s4, s5, s6, s7] (i + 1) = cnt [r0, r1, r2, r3, r4, r5, r6, r7] [s0, s1, s2, s3, s4, s5, s6, s7] i + (if [s0, s1, s2, s3, s4, s5, s6, s7].getD i 0 = [r0, r1, r2, r3, r4, r5, r6, r7].getD i 0 then 0 else 1) := rfl
      generalize [r0, r1, r2, r3, r4, r5, r6, r7].getD i 0 = x at c1 hcs
      generalize [s0, s1, s2, s3, s4, s5, s6, s7].getD i 0 = y at c2 hcs
      have HS := Lib.hid hcs
      have HB := Lib.hid hbel
      have Hc := Lib.hid hC
      have Ha := Lib.hid hA
      clear hcs hbel hC hA e1 e2
      have i1 : (i : Int) < 8 := by omega
      have i0 : (0 : Int) ≤ i := by omega
      by_cases e : y = x
      · have e' : (y != x) = false := by simpa using e
        have HE := Lib.hid e
        clear e
        repeat' (first | go_values | go_skip | go_guarded | (with_reducible (first | refine ex_then_ret ?_ | refine ex_then_exit ?_ | refine ex_then_normal ?_ | refine ex_block_ret ?_ | refine ex_block_normal ?_ | refine ex_block_same ?_ | refine ex_block_other (by decide) ?_)) | go_step | go_upon | go_quiet (fail))
        refine ⟨⟨i + 1, by omega, by go_num, ?_, below_drewN HB.out _, Hc.out, Ha.out⟩, by simp [intOf]; omega⟩
        rw [HS.out, if_pos HE.out, Nat.add_zero]
      · have e' : (y != x) = true := by simpa using e
        have HE := Lib.hid e
        clear e
        repeat' (first | go_values | go_skip | go_guarded | (with_reducible (first | refine ex_then_ret ?_ | refine ex_then_exit ?_ | refine ex_then_normal ?_ | refine ex_block_ret ?_ | refine ex_block_normal ?_ | refine ex_block_same ?_ | refine ex_block_other (by decide) ?_)) | go_step | go_upon | go_quiet (fail))
        refine ⟨⟨i + 1, by omega, by go_num, ?_, below_drewN HB.out _, Hc.out, Ha.out⟩, by simp [intOf]; omega⟩
        rw [HS.out, if_neg HE.out]
        go_num
    · have i1 : ¬ (i : Int) < 8 := by omega
      obtain rfl : i = 8 := by omega
      have hq : ((k.size : Int) != (m.size : Int)) = false := by simp [HZ.out]
      have hq' := HC.out
      have hq1 : ¬ (1 : Int) < (cnt [r0, r1, r2, r3, r4, r5, r6, r7] [s0, s1, s2, s3, s4, s5, s6, s7] 8 : Int) := by omega
      have hq2 : k.size = m.size := HZ.out
      obtain ⟨_, b, hsame⟩ := own_facts H7.out hw
      rw [hk'] at hsame
      have HD := Lib.hid hsame
      have HB := Lib.hid hbel
      have HQ := Lib.hid hq2
      clear hsame hbel hC hA hq2 hq'
      repeat' (first | go_values | go_skip | go_guarded | (with_reducible (first | refine ex_then_ret ?_ | refine ex_then_exit ?_ | refine ex_then_normal ?_ | refine ex_block_ret ?_ | refine ex_block_normal ?_ | refine ex_block_same ?_ | refine ex_block_other (by decide) ?_)) | go_step | go_upon | go_quiet (fail))
      obtain ⟨wo, rfl⟩ : ∃ wo : World, wo = wr := ⟨_, rfl⟩
      go_loopw [11, 12, 13] (fun vf vl vi wr => Inv2 w.heap.size b m.size w vf vl vi wr) (fun _ _ vi _ => m.size - (intOf vi).toNat)
      case atStart => exact ⟨0, -1, -1, Nat.zero_le _, rfl, rfl, rfl, .inl rfl, HB.out⟩
      case round =>
        obtain ⟨i, f, l, hi, rfl, rfl, rfl, hfl, hb⟩ := hrel
        by_cases hlt : i < m.size
        · have j1 : i < k.size := by rw [HQ.out]; exact hlt
          have j2 : (i : Int) < (k.size : Int) := by omega
          have j3 : (i : Int) < (m.size : Int) := by omega
          repeat' (first | go_values | go_skip | go_guarded | (with_reducible (first | refine ex_then_ret ?_ | refine ex_then_exit ?_ | refine ex_then_normal ?_ | refine ex_block_ret ?_ | refine ex_block_normal ?_ | refine ex_block_same ?_ | refine ex_block_other (by decide) ?_)) | go_step | go_upon | go_quiet (fail))
          all_goals
            have hin : ((k[i]'j1).toNat : Int) ≠ ((m[i]'hlt).toNat : Int) → b ≤ i ∧ i < b + 4 := fun hne => by
              rw [Sg.byte_eq j1, Sg.byte_eq hlt] at hne
              exact Classical.byContradiction fun hno => hne (HD.out i hno)
            refine ⟨⟨i + 1, _, _, by omega, by go_num, rfl, rfl, ?_, below_drewN hb _⟩, by simp [intOf]; omega⟩
            first
              | (have hne := hin (by simpa using ‹(((k[i]'j1).toNat : Int) != ((m[i]'hlt).toNat : Int)) = true›); omega)
              | omega
        · repeat' (first | go_values | go_skip | go_guarded | (with_reducible (first | refine ex_then_ret ?_ | refine ex_then_exit ?_ | refine ex_then_normal ?_ | refine ex_block_ret ?_ | refine ex_block_normal ?_ | refine ex_block_same ?_ | refine ex_block_other (by decide) ?_)) | go_step | go_upon | go_quiet (fail))
          all_goals go_ret
          all_goals refine gives_bool ?_ (by repeat (with_reducible (first | exact Below.refl _ _ | assumption | refine Below.to ?_ (by assumption) | refine below_drewN ?_ _ | refine Below.alloc ?_ (by first | (simp; done) | omega | (simp; omega) | (simp at *; omega)) _ | refine Below.setCell ?_ (by first | (simp; done) | omega | (simp; omega) | (simp at *; omega)) _ | refine Below.drew ?_)))
          all_goals (first | rfl | (simp; omega))
end LawOwn
end Go.Proofs.YtllemloicianmaaDoor
