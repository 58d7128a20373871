/- cpu.Run answers what Cp.run says. Condition: the registers are words, a memory is no longer than a string can be, the table of the uses lies. -/
import Derived.Test.YtllemloicianmaaDoorCpuStepFacts
import Derived.WalkKit
import Derived.WalkSpells
import Derived.WalkLawsBesides
import Derived.Lib.Hide
import Derived.BigQuiet
import Derived.Deep.QuietTactic

set_option linter.unusedVariables false
set_option linter.unusedSimpArgs false
namespace Go.Proofs.YtllemloicianmaaDoor
open Go.RowKit

/-- a block that holds a processor -/
def CpuAt (W : World) (b : Nat) (rs : List Int) (pc : Int) : Prop := b < W.heap.size ∧ (∀ o, W.frozen? ⟨b, o, none⟩ = false) ∧ ∀ o, o < 9 → W.cell? ⟨b, o, none⟩ = some (.int .u32 ((rs ++ [pc]).getD o 0))
/-- a block of one cell -/
def OneAt (W : World) (b : Nat) (v : Value) : Prop := b < W.heap.size ∧ W.frozen? ⟨b, 0, none⟩ = false ∧ W.cell? ⟨b, 0, none⟩ = some v

theorem cpuAt_of {W : World} {b : Nat} {s0 s1 s2 s3 s4 s5 s6 s7 p : Int} (hb : b < W.heap.size) (hf : ∀ o, W.frozen? ⟨b, o, none⟩ = false) (c0 : W.cell? ⟨b, 0, none⟩ = some (.int .u32 s0)) (c1 : W.cell? ⟨b, 1, none⟩ = some (.int .u32 s1))
    (c2 : W.cell? ⟨b, 2, none⟩ = some (.int .u32 s2)) (c3 : W.cell? ⟨b, 3, none⟩ = some (.int .u32 s3)) (c4 : W.cell? ⟨b, 4, none⟩ = some (.int .u32 s4)) (c5 : W.cell? ⟨b, 5, none⟩ = some (.int .u32 s5))
    (c6 : W.cell? ⟨b, 6, none⟩ = some (.int .u32 s6)) (c7 : W.cell? ⟨b, 7, none⟩ = some (.int .u32 s7)) (c8 : W.cell? ⟨b, 8, none⟩ = some (.int .u32 p)) : CpuAt W b [s0, s1, s2, s3, s4, s5, s6, s7] p := by
  refine ⟨hb, hf, fun o ho => ?_⟩
  have h : o = 0 ∨ o = 1 ∨ o = 2 ∨ o = 3 ∨ o = 4 ∨ o = 5 ∨ o = 6 ∨ o = 7 ∨ o = 8 := by omega
  rcases h with rfl | rfl | rfl | rfl | rfl | rfl | rfl | rfl | rfl <;> assumption

/-- what the step of a run leaves -/
def Stepped (B bc bm bt : Nat) (rs : List Int) (pc : Int) (m : ByteArray) (t : Int) (w : World) (e : Ending) (w' : World) : Prop :=
  e = .returned (.bool (t == 0)) ∧ CpuAt w' bc rs pc ∧ OneAt w' bm (.string m) ∧ OneAt w' bt (.int .i64 t) ∧ Below B w w' ∧ ∀ b, b < w.heap.size → b ≠ bc → b ≠ bm → b ≠ bt → ∀ o, w'.cell? ⟨b, o, none⟩ = w.cell? ⟨b, o, none⟩ ∧ w'.frozen? ⟨b, o, none⟩ = w.frozen? ⟨b, o, none⟩

namespace Run
variable (r0 r1 r2 r3 r4 r5 r6 r7 pc : Int) (m : ByteArray) (w : World)
set_option maxHeartbeats 4000000 in
set_option maxRecDepth 100000 in
theorem clos (B bc bm bt : Nat) (s0 s1 s2 s3 s4 s5 s6 s7 p t t0 : Int) (k : ByteArray) (hT : Tab w)
    (H1 : Hid (∀ W, Tab W → Calls Tryd.prog 15 #[.agg #[.int .u32 r0, .int .u32 r1, .int .u32 r2, .int .u32 r3, .int .u32 r4, .int .u32 r5, .int .u32 r6, .int .u32 r7, .int .u32 pc], .string m] W
      (Gives (.tuple #[.agg #[.int .u32 s0, .int .u32 s1, .int .u32 s2, .int .u32 s3, .int .u32 s4, .int .u32 s5, .int .u32 s6, .int .u32 s7, .int .u32 p], .string k, .int .i64 t]) W)))
    (n1 : bc ≠ bm) (n2 : bc ≠ bt) (n3 : bm ≠ bt) (b1 : B ≤ bc) (b2 : B ≤ bm) (b3 : B ≤ bt) (hC : CpuAt w bc [r0, r1, r2, r3, r4, r5, r6, r7] pc) (hM : OneAt w bm (.string m)) (ht : OneAt w bt (.int .i64 t0)) :
    Calls Tryd.prog 35 #[.pointer (some ⟨bc, 0, none⟩), .pointer (some ⟨bm, 0, none⟩), .pointer (some ⟨bt, 0, none⟩)] w (Stepped B bc bm bt [s0, s1, s2, s3, s4, s5, s6, s7] p k t w) := by
  obtain ⟨lc, fc, cc⟩ := hC
  obtain ⟨lm, fm, cm⟩ := hM
  obtain ⟨lt, ft, ct⟩ := ht
  have c0 := cc 0 (by omega)
  have c1 := cc 1 (by omega)
  have c2 := cc 2 (by omega)
  have c3 := cc 3 (by omega)
  have c4 := cc 4 (by omega)
  have c5 := cc 5 (by omega)
  have c6 := cc 6 (by omega)
  have c7 := cc 7 (by omega)
  have c8 := cc 8 (by omega)
  simp only [List.cons_append, List.nil_append, List.getD_cons_zero, List.getD_cons_succ] at c0 c1 c2 c3 c4 c5 c6 c7 c8
  clear cc
  go_enter Tryd.func35, Tryd.ntmps35
  repeat' (first | go_values | go_skip | go_guarded | (with_reducible (first | refine ex_then_ret ?_ | refine ex_then_exit ?_ | refine ex_then_normal ?_ | refine ex_block_ret ?_ | refine ex_block_normal ?_ | refine ex_block_same ?_ | refine ex_block_other (by decide) ?_)) | go_step | go_upon | go_quiet (fail))
  refine Calls.mono (H1.out _ ?_) ?_
  · exact hT.below (by repeat (with_reducible (first | exact Below.refl _ _ | assumption | refine Below.to ?_ (by assumption) | refine below_drewN ?_ _ | refine Below.alloc ?_ (by first | (simp; done) | omega | (simp; omega) | (simp at *; omega)) _ | refine Below.setCell ?_ (by first | (simp; done) | omega | (simp; omega) | (simp at *; omega)) _ | refine Below.drew ?_)))
  rintro e w1 ⟨rfl, hb1⟩
  obtain ⟨hc1, hf1, hz1⟩ := bfacts hb1
  try simp at hz1
  clear H1
  have g1 : bc < w1.heap.size := by omega
  have g2 : bm < w1.heap.size := by omega
  have g3 : bt < w1.heap.size := by omega
  dsimp only
  repeat' (first | go_values | go_skip | go_guarded | (with_reducible (first | refine ex_then_ret ?_ | refine ex_then_exit ?_ | refine ex_then_normal ?_ | refine ex_block_ret ?_ | refine ex_block_normal ?_ | refine ex_block_same ?_ | refine ex_block_other (by decide) ?_)) | go_step | go_upon | go_quiet (fail))
  all_goals go_ret
  all_goals refine ⟨rfl, cpuAt_of (by simp; omega) (fun o => by go_simp) (by go_simp) (by go_simp) (by go_simp) (by go_simp) (by go_simp) (by go_simp) (by go_simp) (by go_simp) (by go_simp), ⟨by simp; omega, by go_simp, by go_simp⟩, ⟨by simp; omega, by go_simp, by go_simp⟩, ?_, ?_⟩
  · exact (((((((((((hb1.mono (by omega)).setCell b1 _).setCell b1 _).setCell b1 _).setCell b1 _).setCell b1 _).setCell b1 _).setCell b1 _).setCell b1 _).setCell b1 _).setCell b2 _).setCell b3 _
  · intro b hb e1 e2 e3 o
    have f1 := Ne.symm e1
    have f2 := Ne.symm e2
    have f3 := Ne.symm e3
    constructor
    · go_simp
    · go_simp

theorem run_go {n : Nat} {rs : List Int} {pc : Int} {m : ByteArray} (h : (Cp.step rs pc m).t = 0) : Cp.run (n + 1) rs pc m = ((Cp.run n (Cp.step rs pc m).rs (Cp.step rs pc m).pc (Cp.step rs pc m).m).1, (Cp.run n (Cp.step rs pc m).rs (Cp.step rs pc m).pc (Cp.step rs pc m).m).2 + 1) := by
  show (if (Cp.step rs pc m).t = 0 then _ else _) = _
  rw [if_pos h]
theorem run_stop {n : Nat} {rs : List Int} {pc : Int} {m : ByteArray} (h : (Cp.step rs pc m).t ≠ 0) : Cp.run (n + 1) rs pc m = (Cp.step rs pc m, 0) := by
  show (if (Cp.step rs pc m).t = 0 then _ else _) = _
  rw [if_neg h]

/-- what holds at the head of each round -/
def Inv (w : World) (N : Nat) (R : Cp.St × Nat) (v : Value) (wr : World) : Prop :=
  ∃ (k : Nat) (s0 s1 s2 s3 s4 s5 s6 s7 p : Int) (mk : ByteArray), k ≤ N ∧ v = .int .i64 k ∧ Words [s0, s1, s2, s3, s4, s5, s6, s7] ∧ 0 ≤ p ∧ p < 4294967296 ∧ mk.size ≤ 140737488355328 ∧ Below w.heap.size w wr ∧
    CpuAt wr w.heap.size [s0, s1, s2, s3, s4, s5, s6, s7] p ∧ OneAt wr (w.heap.size + 1) (.string mk) ∧ OneAt wr (w.heap.size + 1 + 1 + 1) (.int .i64 0) ∧ CpuAt wr (w.heap.size + 1 + 1) [0, 0, 0, 0, 0, 0, 0, 0] 0 ∧
    R = ((Cp.run (N - k) [s0, s1, s2, s3, s4, s5, s6, s7] p mk).1, (Cp.run (N - k) [s0, s1, s2, s3, s4, s5, s6, s7] p mk).2 + k)

set_option maxHeartbeats 4000000 in
set_option maxRecDepth 100000 in
theorem any (n : Int) (hn : n ≤ 9223372036854775807) (hw : Words [r0, r1, r2, r3, r4, r5, r6, r7]) (p0 : 0 ≤ pc) (p1 : pc < 4294967296) (hm : m.size ≤ 140737488355328) (hT : Tab w) :
    Calls Tryd.prog 18 #[.agg #[.int .u32 r0, .int .u32 r1, .int .u32 r2, .int .u32 r3, .int .u32 r4, .int .u32 r5, .int .u32 r6, .int .u32 r7, .int .u32 pc], .string m, .int .i64 n] w
      (Gives (.tuple #[Cp.cpuV (Cp.run n.toNat [r0, r1, r2, r3, r4, r5, r6, r7] pc m).1.rs (Cp.run n.toNat [r0, r1, r2, r3, r4, r5, r6, r7] pc m).1.pc, .string (Cp.run n.toNat [r0, r1, r2, r3, r4, r5, r6, r7] pc m).1.m, .int .i64 (Cp.run n.toNat [r0, r1, r2, r3, r4, r5, r6, r7] pc m).1.t, .int .i64 (Cp.run n.toNat [r0, r1, r2, r3, r4, r5, r6, r7] pc m).2]) w) := by
  obtain ⟨R, hR⟩ : ∃ R, Cp.run n.toNat [r0, r1, r2, r3, r4, r5, r6, r7] pc m = R := ⟨_, rfl⟩
  rw [hR]
  have HR := Lib.hid hR
  clear hR
  have z02 : w.heap.size < w.heap.size + 1 + 1 := by omega
  have z03 : w.heap.size < w.heap.size + 1 + 1 + 1 := by omega
  have z13 : w.heap.size + 1 < w.heap.size + 1 + 1 + 1 := by omega
  go_enter Tryd.func18, Tryd.ntmps18
  repeat' (first | go_values | go_skip | go_guarded | (with_reducible (first | refine ex_then_ret ?_ | refine ex_then_exit ?_ | refine ex_then_normal ?_ | refine ex_block_ret ?_ | refine ex_block_normal ?_ | refine ex_block_same ?_ | refine ex_block_other (by decide) ?_)) | go_step | go_upon)
  go_loopw [11] (fun v wr => Inv w n.toNat R v wr) (fun v _ => n.toNat - (intOf v).toNat)
  case atStart =>
    refine ⟨0, r0, r1, r2, r3, r4, r5, r6, r7, pc, m, Nat.zero_le _, rfl, hw, p0, p1, hm, (by repeat (with_reducible (first | exact Below.refl _ _ | assumption | refine Below.to ?_ (by assumption) | refine below_drewN ?_ _ | refine Below.alloc ?_ (by first | (simp; done) | omega | (simp; omega) | (simp at *; omega)) _ | refine Below.setCell ?_ (by first | (simp; done) | omega | (simp; omega) | (simp at *; omega)) _ | refine Below.drew ?_))), ?_, ?_, ?_, ?_, ?_⟩
    · exact cpuAt_of (by simp; omega) (fun o => by go_simp) (by go_simp) (by go_simp) (by go_simp) (by go_simp) (by go_simp) (by go_simp) (by go_simp) (by go_simp) (by go_simp)
    · exact ⟨by simp, by go_simp, by go_simp⟩
    · exact ⟨by simp, by go_simp, by go_simp⟩
    · exact cpuAt_of (by simp) (fun o => by go_simp) (by go_simp) (by go_simp) (by go_simp) (by go_simp) (by go_simp) (by go_simp) (by go_simp) (by go_simp) (by go_simp)
    · rw [Nat.sub_zero, HR.out]; rfl
  case round =>
    obtain ⟨k, s0, s1, s2, s3, s4, s5, s6, s7, p, mk, hk, rfl, ws, q0, q1, hmk, hbel, hC, hM, ht, hZ, hR⟩ := hrel
    have H2 := Lib.hid hR
    have H3 := Lib.hid hZ
    have H4 := Lib.hid hbel
    clear hR hZ hbel
    have hsz := H4.out.size
    by_cases hlt : (k : Int) < n
    · have hkN : n.toNat - k = (n.toNat - (k + 1)) + 1 := by omega
      have kk := step_kept ws q0 q1 mk
      obtain ⟨t0, t1, t2, t3, t4, t5, t6, t7, hts, _⟩ := cpuV_ex 0 kk.words.1
      have H6 := Lib.hid hkN
      have H7 := Lib.hid kk
      obtain ⟨p', hp'⟩ : ∃ x, (Cp.step [s0, s1, s2, s3, s4, s5, s6, s7] p mk).pc = x := ⟨_, rfl⟩
      obtain ⟨k', hk'⟩ : ∃ x, (Cp.step [s0, s1, s2, s3, s4, s5, s6, s7] p mk).m = x := ⟨_, rfl⟩
      obtain ⟨t', ht'⟩ : ∃ x, (Cp.step [s0, s1, s2, s3, s4, s5, s6, s7] p mk).t = x := ⟨_, rfl⟩
      have H1 := Lib.hid (Step_ex ws q0 q1 hmk hts hp' hk' ht')
      have H8 := Lib.hid (And.intro hts (And.intro hp' (And.intro hk' ht')))
      have HC := Lib.hid hC
      have HM := Lib.hid hM
      have Ht := Lib.hid ht
      have HL := Lib.hid hlt
      have HS := Lib.hid ws
      clear hkN kk hts hp' hk' ht' hC hM ht ws
      have hk1 : (k : Int) + 1 ≤ n := by omega
      by_cases hz : t' = 0
      · have hz' : (t' == 0) = true := by simpa using hz
        have HZ := Lib.hid hz
        clear hz
        go_wp2_with (go_at_call 35; refine (clos s0 s1 s2 s3 s4 s5 s6 s7 p mk _ w.heap.size w.heap.size (w.heap.size + 1) (w.heap.size + 1 + 1 + 1) t0 t1 t2 t3 t4 t5 t6 t7 _ _ 0 _ (hT.below H4.out) H1 (by omega) (by omega) (by omega) (by omega) (by omega) (by omega) HC.out HM.out Ht.out).mono ?_; rintro e w2 ⟨rfl, kC, kM, kt, kb, ko⟩)
        go_roundw
        case rel =>
          obtain ⟨e1, e2, e3, e4⟩ := H8.out
          have kk := H7.out
          have hz0 := HZ.out
          refine ⟨k + 1, t0, t1, t2, t3, t4, t5, t6, t7, p', k', by omega, by go_num, e1 ▸ kk.words, e2 ▸ kk.lo, e2 ▸ kk.hi, ?_, H4.out.trans kb, kC, kM, ?_, ?_, ?_⟩
          · rw [← e3, kk.size]; exact hmk
          · rw [← hz0]; exact kt
          · obtain ⟨lz, fz, cz⟩ := H3.out
            have hn := ko (w.heap.size + 1 + 1) lz (by omega) (by omega) (by omega)
            exact ⟨Nat.lt_of_lt_of_le lz kb.size, fun o => (hn o).2.trans (fz o), fun o ho => (hn o).1.trans (cz o ho)⟩
          · rw [H2.out, H6.out, run_go (e4.trans hz0), e1, e2, e3]
            simp only [Prod.mk.injEq, true_and]
            omega
        case measure => simp [intOf]; omega
      · have hz' : (t' == 0) = false := by simpa using hz
        have HZ := Lib.hid hz
        clear hz
        go_wp2_with (go_at_call 35; refine (clos s0 s1 s2 s3 s4 s5 s6 s7 p mk _ w.heap.size w.heap.size (w.heap.size + 1) (w.heap.size + 1 + 1 + 1) t0 t1 t2 t3 t4 t5 t6 t7 _ _ 0 _ (hT.below H4.out) H1 (by omega) (by omega) (by omega) (by omega) (by omega) (by omega) HC.out HM.out Ht.out).mono ?_; rintro e w2 ⟨rfl, kC, kM, kt, kb, ko⟩)
        obtain ⟨lc, fc, cc⟩ := kC
        obtain ⟨lm, fm, cm⟩ := kM
        obtain ⟨lt, ft, ct⟩ := kt
        obtain ⟨lz, fz, cz⟩ := (show CpuAt w2 (w.heap.size + 1 + 1) [0, 0, 0, 0, 0, 0, 0, 0] 0 from ⟨Nat.lt_of_lt_of_le H3.out.1 kb.size, fun o => (ko (w.heap.size + 1 + 1) H3.out.1 (by omega) (by omega) (by omega) o).2.trans (H3.out.2.1 o), fun o ho => (ko (w.heap.size + 1 + 1) H3.out.1 (by omega) (by omega) (by omega) o).1.trans (H3.out.2.2 o ho)⟩)
        have c0 := cc 0 (by omega)
        have d0 := cz 0 (by omega)
        have c1 := cc 1 (by omega)
        have d1 := cz 1 (by omega)
        have c2 := cc 2 (by omega)
        have d2 := cz 2 (by omega)
        have c3 := cc 3 (by omega)
        have d3 := cz 3 (by omega)
        have c4 := cc 4 (by omega)
        have d4 := cz 4 (by omega)
        have c5 := cc 5 (by omega)
        have d5 := cz 5 (by omega)
        have c6 := cc 6 (by omega)
        have d6 := cz 6 (by omega)
        have c7 := cc 7 (by omega)
        have d7 := cz 7 (by omega)
        have c8 := cc 8 (by omega)
        have d8 := cz 8 (by omega)
        simp only [List.cons_append, List.nil_append, List.getD_cons_zero, List.getD_cons_succ] at c0 c1 c2 c3 c4 c5 c6 c7 c8 d0 d1 d2 d3 d4 d5 d6 d7 d8
        clear cc cz
        repeat' (first | go_values | go_skip | go_guarded | (with_reducible (first | refine ex_then_ret ?_ | refine ex_then_exit ?_ | refine ex_then_normal ?_ | refine ex_block_ret ?_ | refine ex_block_normal ?_ | refine ex_block_same ?_ | refine ex_block_other (by decide) ?_)) | go_step | go_upon)
        go_region
        all_goals repeat' (first | go_values | go_skip | go_guarded | (with_reducible (first | refine ex_then_ret ?_ | refine ex_then_exit ?_ | refine ex_then_normal ?_ | refine ex_block_ret ?_ | refine ex_block_normal ?_ | refine ex_block_same ?_ | refine ex_block_other (by decide) ?_)) | go_step | go_upon)
        have hB2 := H4.out.trans kb
        obtain ⟨e1, e2, e3, e4⟩ := H8.out
        have hR : R = (Cp.step [s0, s1, s2, s3, s4, s5, s6, s7] p mk, k) := by
          rw [H2.out, H6.out, run_stop (by rw [e4]; exact HZ.out), Nat.zero_add]
        all_goals (apply bodyPost_ret; (simp only [results, Tryd.results18]; go_simp; exact rfl); rfl)
        all_goals refine gives_of ?_ (by repeat (with_reducible (first | exact Below.refl _ _ | assumption | refine Below.to ?_ (by assumption) | refine below_drewN ?_ _ | refine Below.alloc ?_ (by first | (simp; done) | omega | (simp; omega) | (simp at *; omega)) _ | refine Below.setCell ?_ (by first | (simp; done) | omega | (simp; omega) | (simp at *; omega)) _ | refine Below.drew ?_)))
        all_goals (rw [hR]; dsimp only; rw [e1, e2, e3, e4]; rfl)
    · go_wp2_with fail
      obtain ⟨lc, fc, cc⟩ := hC
      obtain ⟨lm, fm, cm⟩ := hM
      obtain ⟨lt, ft, ct⟩ := ht
      obtain ⟨lz, fz, cz⟩ := H3.out
      have c0 := cc 0 (by omega)
      have d0 := cz 0 (by omega)
      have c1 := cc 1 (by omega)
      have d1 := cz 1 (by omega)
      have c2 := cc 2 (by omega)
      have d2 := cz 2 (by omega)
      have c3 := cc 3 (by omega)
      have d3 := cz 3 (by omega)
      have c4 := cc 4 (by omega)
      have d4 := cz 4 (by omega)
      have c5 := cc 5 (by omega)
      have d5 := cz 5 (by omega)
      have c6 := cc 6 (by omega)
      have d6 := cz 6 (by omega)
      have c7 := cc 7 (by omega)
      have d7 := cz 7 (by omega)
      have c8 := cc 8 (by omega)
      have d8 := cz 8 (by omega)
      simp only [List.cons_append, List.nil_append, List.getD_cons_zero, List.getD_cons_succ] at c0 c1 c2 c3 c4 c5 c6 c7 c8 d0 d1 d2 d3 d4 d5 d6 d7 d8
      clear cc cz
      repeat' (first | go_values | go_skip | go_guarded | (with_reducible (first | refine ex_then_ret ?_ | refine ex_then_exit ?_ | refine ex_then_normal ?_ | refine ex_block_ret ?_ | refine ex_block_normal ?_ | refine ex_block_same ?_ | refine ex_block_other (by decide) ?_)) | go_step | go_upon)
      go_region
      all_goals repeat' (first | go_values | go_skip | go_guarded | (with_reducible (first | refine ex_then_ret ?_ | refine ex_then_exit ?_ | refine ex_then_normal ?_ | refine ex_block_ret ?_ | refine ex_block_normal ?_ | refine ex_block_same ?_ | refine ex_block_other (by decide) ?_)) | go_step | go_upon)
      have hB2 := H4.out
      have hR : R = (⟨[s0, s1, s2, s3, s4, s5, s6, s7], p, mk, 0⟩, k) := by
        rw [H2.out, show n.toNat - k = 0 by omega]
        show ((⟨[s0, s1, s2, s3, s4, s5, s6, s7], p, mk, 0⟩ : Cp.St), 0 + k) = _
        rw [Nat.zero_add]
      all_goals (apply bodyPost_ret; (simp only [results, Tryd.results18]; go_simp; exact rfl); rfl)
      all_goals refine gives_of ?_ (by repeat (with_reducible (first | exact Below.refl _ _ | assumption | refine Below.to ?_ (by assumption) | refine below_drewN ?_ _ | refine Below.alloc ?_ (by first | (simp; done) | omega | (simp; omega) | (simp at *; omega)) _ | refine Below.setCell ?_ (by first | (simp; done) | omega | (simp; omega) | (simp at *; omega)) _ | refine Below.drew ?_)))
      all_goals (rw [hR]; rfl)
end Run
end Go.Proofs.YtllemloicianmaaDoor
