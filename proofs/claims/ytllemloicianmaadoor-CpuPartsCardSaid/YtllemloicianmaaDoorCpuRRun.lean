/- transomref03.Run answers what Cp.run says. Condition: the registers are words, a memory is shorter than 2^32, the table of the uses lies. -/
import Derived.Test.YtllemloicianmaaDoorCpuRun
import Derived.Test.YtllemloicianmaaDoorCpuLawSteps
import Derived.WalkKit
import Derived.WalkSpells
import Derived.WalkLawsBesides
import Derived.Lib.Hide
import Derived.BigQuiet
import Derived.Deep.QuietTactic

set_option linter.unusedVariables false
set_option linter.unusedSimpArgs false
namespace Go.Proofs.YtllemloicianmaaDoor
open Go.RowKit
namespace RRun
open Run
variable (r0 r1 r2 r3 r4 r5 r6 r7 pc : Int) (m : ByteArray) (w : World)
/-- what holds at the head of each round -/
def Inv (w : World) (N : Nat) (R : Cp.St × Nat) (v vm : Value) (wr : World) : Prop :=
  ∃ (k : Nat) (s0 s1 s2 s3 s4 s5 s6 s7 p : Int) (mk : ByteArray), k ≤ N ∧ v = .int .i64 k ∧ vm = .string mk ∧ Words [s0, s1, s2, s3, s4, s5, s6, s7] ∧ 0 ≤ p ∧ p < 4294967296 ∧ mk.size < 4294967296 ∧ Below w.heap.size w wr ∧
    CpuAt wr w.heap.size [s0, s1, s2, s3, s4, s5, s6, s7] p ∧ CpuAt wr (w.heap.size + 1) [0, 0, 0, 0, 0, 0, 0, 0] 0 ∧
    R = ((Cp.run (N - k) [s0, s1, s2, s3, s4, s5, s6, s7] p mk).1, (Cp.run (N - k) [s0, s1, s2, s3, s4, s5, s6, s7] p mk).2 + k)

set_option maxHeartbeats 4000000 in
set_option maxRecDepth 100000 in
theorem any (n : Int) (hn : n ≤ 9223372036854775807) (hw : Words [r0, r1, r2, r3, r4, r5, r6, r7]) (p0 : 0 ≤ pc) (p1 : pc < 4294967296) (hm : m.size < 4294967296) (hT : Tab w) :
    Calls Tryd.prog 19 #[.agg #[.int .u32 r0, .int .u32 r1, .int .u32 r2, .int .u32 r3, .int .u32 r4, .int .u32 r5, .int .u32 r6, .int .u32 r7, .int .u32 pc], .string m, .int .i64 n] w
      (Gives (.tuple #[Cp.cpuV (Cp.run n.toNat [r0, r1, r2, r3, r4, r5, r6, r7] pc m).1.rs (Cp.run n.toNat [r0, r1, r2, r3, r4, r5, r6, r7] pc m).1.pc, .string (Cp.run n.toNat [r0, r1, r2, r3, r4, r5, r6, r7] pc m).1.m, .int .i64 (Cp.run n.toNat [r0, r1, r2, r3, r4, r5, r6, r7] pc m).1.t, .int .i64 (Cp.run n.toNat [r0, r1, r2, r3, r4, r5, r6, r7] pc m).2]) w) := by
  obtain ⟨R, hR⟩ : ∃ R, Cp.run n.toNat [r0, r1, r2, r3, r4, r5, r6, r7] pc m = R := ⟨_, rfl⟩
  rw [hR]
  have HR := Lib.hid hR
  clear hR
  have z02 : w.heap.size < w.heap.size + 1 + 1 := by omega
  have z03 : w.heap.size < w.heap.size + 1 + 1 + 1 := by omega
  have z13 : w.heap.size + 1 < w.heap.size + 1 + 1 + 1 := by omega
  go_enter Tryd.func19, Tryd.ntmps19
  repeat' (first | go_values | go_skip | go_guarded | (with_reducible (first | refine ex_then_ret ?_ | refine ex_then_exit ?_ | refine ex_then_normal ?_ | refine ex_block_ret ?_ | refine ex_block_normal ?_ | refine ex_block_same ?_ | refine ex_block_other (by decide) ?_)) | go_step | go_upon)
  go_loopw [1, 10] (fun vm v wr => Inv w n.toNat R v vm wr) (fun _ v _ => n.toNat - (intOf v).toNat)
  case atStart =>
    refine ⟨0, r0, r1, r2, r3, r4, r5, r6, r7, pc, m, Nat.zero_le _, rfl, rfl, hw, p0, p1, hm, (by repeat (with_reducible (first | exact Below.refl _ _ | assumption | refine Below.to ?_ (by assumption) | refine below_drewN ?_ _ | refine Below.alloc ?_ (by first | (simp; done) | omega | (simp; omega) | (simp at *; omega)) _ | refine Below.setCell ?_ (by first | (simp; done) | omega | (simp; omega) | (simp at *; omega)) _ | refine Below.drew ?_))), ?_, ?_, ?_⟩
    · exact cpuAt_of (by simp; omega) (fun o => by go_simp) (by go_simp) (by go_simp) (by go_simp) (by go_simp) (by go_simp) (by go_simp) (by go_simp) (by go_simp) (by go_simp)
    · exact cpuAt_of (by simp) (fun o => by go_simp) (by go_simp) (by go_simp) (by go_simp) (by go_simp) (by go_simp) (by go_simp) (by go_simp) (by go_simp) (by go_simp)
    · rw [Nat.sub_zero, HR.out]; rfl
  case round =>
    obtain ⟨k, s0, s1, s2, s3, s4, s5, s6, s7, p, mk, hk, rfl, rfl, ws, q0, q1, hmk, hbel, hC, hZ, hR⟩ := hrel
    have H2 := Lib.hid hR
    have H4 := Lib.hid hbel
    clear hR hbel
    have hsz := H4.out.size
    obtain ⟨lc, fc, cc⟩ := hC
    obtain ⟨lz, fz, cz⟩ := hZ
    have c0 := cc 0 (by omega)
    have d0 := cz 0 (by omega)
    have c1 := cc 1 (by omega)
    have d1 := cz 1 (by omega)
    have c2 := cc 2 (by omega)
    have d2 := cz 2 (by omega)
    have c3 := cc 3 (by omega)
    have d3 := cz 3 (by omega)
    have c4 := cc 4 (by omega)
    have d4 := cz 4 (by omega)
    have c5 := cc 5 (by omega)
    have d5 := cz 5 (by omega)
    have c6 := cc 6 (by omega)
    have d6 := cz 6 (by omega)
    have c7 := cc 7 (by omega)
    have d7 := cz 7 (by omega)
    have c8 := cc 8 (by omega)
    have d8 := cz 8 (by omega)
    simp only [List.cons_append, List.nil_append, List.getD_cons_zero, List.getD_cons_succ] at c0 c1 c2 c3 c4 c5 c6 c7 c8 d0 d1 d2 d3 d4 d5 d6 d7 d8
    clear cc cz
    by_cases hlt : (k : Int) < n
    · have hkN : n.toNat - k = (n.toNat - (k + 1)) + 1 := by omega
      have kk := step_kept ws q0 q1 mk
      obtain ⟨t0, t1, t2, t3, t4, t5, t6, t7, hts, _⟩ := cpuV_ex 0 kk.words.1
      have H6 := Lib.hid hkN
      have H7 := Lib.hid kk
      obtain ⟨p', hp'⟩ : ∃ x, (Cp.step [s0, s1, s2, s3, s4, s5, s6, s7] p mk).pc = x := ⟨_, rfl⟩
      obtain ⟨k', hk'⟩ : ∃ x, (Cp.step [s0, s1, s2, s3, s4, s5, s6, s7] p mk).m = x := ⟨_, rfl⟩
      obtain ⟨t', ht'⟩ : ∃ x, (Cp.step [s0, s1, s2, s3, s4, s5, s6, s7] p mk).t = x := ⟨_, rfl⟩
      have H1 := Lib.hid (RStep_ex ws q0 q1 hmk hts hp' hk' ht')
      have H8 := Lib.hid (And.intro hts (And.intro hp' (And.intro hk' ht')))
      clear hkN kk hts hp' hk' ht' ws
      have hk1 : (k : Int) + 1 ≤ n := by omega
      by_cases hz : t' = 0
      · have HZ := Lib.hid hz
        have hz' : (t' == 0) = true := by simpa using hz
        have hz'' : (t' != 0) = false := by simpa using hz
        clear hz
        repeat' (first | go_values | go_skip | go_guarded | (with_reducible (first | refine ex_then_ret ?_ | refine ex_then_exit ?_ | refine ex_then_normal ?_ | refine ex_block_ret ?_ | refine ex_block_normal ?_ | refine ex_block_same ?_ | refine ex_block_other (by decide) ?_)) | go_step | go_upon)
        have hB := H4.out
        refine Calls.mono (H1.out _ ?_) ?_
        · exact hT.below (by repeat (with_reducible (first | exact Below.refl _ _ | assumption | refine Below.to ?_ (by assumption) | refine below_drewN ?_ _ | refine Below.alloc ?_ (by first | (simp; done) | omega | (simp; omega) | (simp at *; omega)) _ | refine Below.setCell ?_ (by first | (simp; done) | omega | (simp; omega) | (simp at *; omega)) _ | refine Below.drew ?_)))
        rintro e w2 ⟨rfl, hb2⟩
        obtain ⟨chb2, fhb2, zhb2⟩ := bfacts hb2
        try simp at zhb2
        have g1 : w.heap.size < w2.heap.size := by omega
        have g2 : w.heap.size + 1 < w2.heap.size := by omega
        dsimp only
        repeat' (first | go_values | go_skip | go_guarded | (with_reducible (first | refine ex_then_ret ?_ | refine ex_then_exit ?_ | refine ex_then_normal ?_ | refine ex_block_ret ?_ | refine ex_block_normal ?_ | refine ex_block_same ?_ | refine ex_block_other (by decide) ?_)) | go_step | go_upon | go_quiet (fail))
        obtain ⟨e1, e2, e3, e4⟩ := H8.out
        have kk := H7.out
        have hz0 := HZ.out
        have hB2 : Below w.heap.size w w2 := hB.trans (hb2.mono (by omega))
        refine ⟨⟨k + 1, t0, t1, t2, t3, t4, t5, t6, t7, p', k', by omega, by go_num, rfl, e1 ▸ kk.words, e2 ▸ kk.lo, e2 ▸ kk.hi, ?_, (by repeat (with_reducible (first | exact Below.refl _ _ | assumption | refine Below.to ?_ (by assumption) | refine below_drewN ?_ _ | refine Below.alloc ?_ (by first | (simp; done) | omega | (simp; omega) | (simp at *; omega)) _ | refine Below.setCell ?_ (by first | (simp; done) | omega | (simp; omega) | (simp at *; omega)) _ | refine Below.drew ?_))), ?_, ?_, ?_⟩, by simp [intOf]; omega⟩
        · rw [← e3, kk.size]; exact hmk
        · exact cpuAt_of (by simp; omega) (fun o => by go_simp) (by go_simp) (by go_simp) (by go_simp) (by go_simp) (by go_simp) (by go_simp) (by go_simp) (by go_simp) (by go_simp)
        · exact cpuAt_of (by simp; omega) (fun o => by go_simp) (by go_simp) (by go_simp) (by go_simp) (by go_simp) (by go_simp) (by go_simp) (by go_simp) (by go_simp) (by go_simp)
        · rw [H2.out, H6.out, run_go (e4.trans hz0), e1, e2, e3]
          simp only [Prod.mk.injEq, true_and]
          omega
      · have HZ := Lib.hid hz
        have hz' : (t' == 0) = false := by simpa using hz
        have hz'' : (t' != 0) = true := by simpa using hz
        clear hz
        repeat' (first | go_values | go_skip | go_guarded | (with_reducible (first | refine ex_then_ret ?_ | refine ex_then_exit ?_ | refine ex_then_normal ?_ | refine ex_block_ret ?_ | refine ex_block_normal ?_ | refine ex_block_same ?_ | refine ex_block_other (by decide) ?_)) | go_step | go_upon)
        have hB := H4.out
        refine Calls.mono (H1.out _ ?_) ?_
        · exact hT.below (by repeat (with_reducible (first | exact Below.refl _ _ | assumption | refine Below.to ?_ (by assumption) | refine below_drewN ?_ _ | refine Below.alloc ?_ (by first | (simp; done) | omega | (simp; omega) | (simp at *; omega)) _ | refine Below.setCell ?_ (by first | (simp; done) | omega | (simp; omega) | (simp at *; omega)) _ | refine Below.drew ?_)))
        rintro e w2 ⟨rfl, hb2⟩
        obtain ⟨chb2, fhb2, zhb2⟩ := bfacts hb2
        try simp at zhb2
        have g1 : w.heap.size < w2.heap.size := by omega
        have g2 : w.heap.size + 1 < w2.heap.size := by omega
        dsimp only
        repeat' (first | go_values | go_skip | go_guarded | (with_reducible (first | refine ex_then_ret ?_ | refine ex_then_exit ?_ | refine ex_then_normal ?_ | refine ex_block_ret ?_ | refine ex_block_normal ?_ | refine ex_block_same ?_ | refine ex_block_other (by decide) ?_)) | go_step | go_upon | go_quiet (fail))
        have hB2 : Below w.heap.size w w2 := hB.trans (hb2.mono (by omega))
        obtain ⟨e1, e2, e3, e4⟩ := H8.out
        have hR : R = (Cp.step [s0, s1, s2, s3, s4, s5, s6, s7] p mk, k) := by
          rw [H2.out, H6.out, run_stop (by rw [e4]; exact HZ.out), Nat.zero_add]
        all_goals (apply bodyPost_ret; (simp only [results, Tryd.results19]; go_simp; exact rfl); rfl)
        all_goals refine gives_of ?_ (by repeat (with_reducible (first | exact Below.refl _ _ | assumption | refine Below.to ?_ (by assumption) | refine below_drewN ?_ _ | refine Below.alloc ?_ (by first | (simp; done) | omega | (simp; omega) | (simp at *; omega)) _ | refine Below.setCell ?_ (by first | (simp; done) | omega | (simp; omega) | (simp at *; omega)) _ | refine Below.drew ?_)))
        all_goals (rw [hR]; dsimp only; rw [e1, e2, e3, e4]; rfl)
    · have hB := H4.out
      have hR : R = (⟨[s0, s1, s2, s3, s4, s5, s6, s7], p, mk, 0⟩, k) := by
        rw [H2.out, show n.toNat - k = 0 by omega]
        show ((⟨[s0, s1, s2, s3, s4, s5, s6, s7], p, mk, 0⟩ : Cp.St), 0 + k) = _
        rw [Nat.zero_add]
      have HRR := Lib.hid hR
      clear hR
      by_cases hn0 : n < 0
      · have hk0 : k = 0 := by omega
        subst hk0
        repeat' (first | go_values | go_skip | go_guarded | (with_reducible (first | refine ex_then_ret ?_ | refine ex_then_exit ?_ | refine ex_then_normal ?_ | refine ex_block_ret ?_ | refine ex_block_normal ?_ | refine ex_block_same ?_ | refine ex_block_other (by decide) ?_)) | go_step | go_upon)
        all_goals (apply bodyPost_ret; (simp only [results, Tryd.results19]; go_simp; exact rfl); rfl)
        all_goals refine gives_of ?_ (by repeat (with_reducible (first | exact Below.refl _ _ | assumption | refine Below.to ?_ (by assumption) | refine below_drewN ?_ _ | refine Below.alloc ?_ (by first | (simp; done) | omega | (simp; omega) | (simp at *; omega)) _ | refine Below.setCell ?_ (by first | (simp; done) | omega | (simp; omega) | (simp at *; omega)) _ | refine Below.drew ?_)))
        all_goals (rw [HRR.out]; rfl)
      · have hkn : n = (k : Int) := by omega
        repeat' (first | go_values | go_skip | go_guarded | (with_reducible (first | refine ex_then_ret ?_ | refine ex_then_exit ?_ | refine ex_then_normal ?_ | refine ex_block_ret ?_ | refine ex_block_normal ?_ | refine ex_block_same ?_ | refine ex_block_other (by decide) ?_)) | go_step | go_upon)
        all_goals (apply bodyPost_ret; (simp only [results, Tryd.results19]; go_simp; exact rfl); rfl)
        all_goals refine gives_of ?_ (by repeat (with_reducible (first | exact Below.refl _ _ | assumption | refine Below.to ?_ (by assumption) | refine below_drewN ?_ _ | refine Below.alloc ?_ (by first | (simp; done) | omega | (simp; omega) | (simp at *; omega)) _ | refine Below.setCell ?_ (by first | (simp; done) | omega | (simp; omega) | (simp at *; omega)) _ | refine Below.drew ?_)))
        all_goals (rw [HRR.out]; rfl)
end RRun
end Go.Proofs.YtllemloicianmaaDoor
