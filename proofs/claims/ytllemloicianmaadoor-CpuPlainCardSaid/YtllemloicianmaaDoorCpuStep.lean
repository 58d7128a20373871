/- cpu.Step answers what Cp.step says, in every world that holds the table of the uses. Condition: the registers are words, a memory is no longer than a string can be. -/
import Derived.Test.YtllemloicianmaaDoorCpuStepB
import Derived.Test.YtllemloicianmaaDoorCpuStepC
import Derived.Test.YtllemloicianmaaDoorCpuStepD
import Derived.Test.YtllemloicianmaaDoorCpuGoesPlain
import Derived.WalkKit
import Derived.WalkSpells
import Derived.WalkLawsBesides
import Derived.Lib.Hide
import Derived.BigQuiet
import Derived.Deep.QuietTactic

set_option linter.unusedVariables false
set_option linter.unusedSimpArgs false
namespace Go.Proofs.YtllemloicianmaaDoor
open Go.RowKit

theorem takeB_lim {x : Int} (h : Cp.takeB x = true) : 1 ≤ Cp.opOf x ∧ Cp.opOf x ≤ 24 ∧ 0 ≤ Cp.aOf x ∧ Cp.aOf x < 8 ∧ 0 ≤ Cp.bOf x ∧ Cp.bOf x < 8 := by
  unfold Cp.takeB Cp.may at h
  simp only [Bool.and_eq_true] at h
  obtain ⟨h1, h24, ha0, ha8, hb0, hb8, _, _⟩ := Cp.lim_iff.1 h.1.1.1
  exact ⟨h1, h24, ha0, ha8, hb0, hb8⟩

/-- a step at an instruction, of one that may be -/
theorem Step_ins (rs : List Int) (pc x : Int) (m : ByteArray) (w : World) (hw : Words rs) (p0 : 0 ≤ pc) (p1 : pc < 4294967296) (hm : m.size ≤ 140737488355328) (hT : Tab w)
    (h : Sg.isWord m pc = true) (hx : Sg.word m pc.toNat = x) (ht : Cp.takeB x = true) :
    Calls Tryd.prog 15 #[Cp.cpuV rs pc, .string m] w (Gives (.tuple #[Cp.cpuV (Cp.stepI rs pc m (Cp.opOf x) (Cp.aOf x) (Cp.bOf x) (Cp.immOf x)).rs (Cp.stepI rs pc m (Cp.opOf x) (Cp.aOf x) (Cp.bOf x) (Cp.immOf x)).pc,
      .string (Cp.stepI rs pc m (Cp.opOf x) (Cp.aOf x) (Cp.bOf x) (Cp.immOf x)).m, .int .i64 (Cp.stepI rs pc m (Cp.opOf x) (Cp.aOf x) (Cp.bOf x) (Cp.immOf x)).t]) w) := by
  obtain ⟨h1, h24, ha0, ha8, hb0, hb8⟩ := takeB_lim ht
  have ho := takeV_yes ht
  generalize Cp.opOf x = op at *
  generalize Cp.aOf x = a at *
  generalize Cp.bOf x = b at *
  generalize Cp.immOf x = i at *
  have sa := Does.sel rs hw.1 pc a ha0 ha8
  have sb := Does.sel rs hw.1 pc b hb0 hb8
  have wa := hw.at a.toNat
  have wb := hw.at b.toNat
  unfold Cp.stepI
  simp only []
  have hset := set_self rs a.toNat (by rw [hw.1]; omega)
  generalize hra : rs.getD a.toNat 0 = ra at *
  generalize hrb : rs.getD b.toNat 0 = rb at *
  match rs, hw.1, hw with
  | [r0, r1, r2, r3, r4, r5, r6, r7], _, hw =>
    by_cases o14 : op = 14
    · subst o14
      rw [if_pos rfl]
      by_cases hf : Sg.isWord m ((rb + i) % 4294967296) = true
      · rw [if_pos hf]
        exact Step.lw_yes r0 r1 r2 r3 r4 r5 r6 r7 pc m w x a b i ra rb hm p0 p1 h hx ho hT hf ha0 ha8 hb0 hb8 wa.1 wa.2 sa sb
      · rw [if_neg hf]
        exact Step.lw_no r0 r1 r2 r3 r4 r5 r6 r7 pc m w x a b i ra rb hm p0 p1 h hx ho hT (by simpa using hf) ha0 ha8 hb0 hb8 wa.1 wa.2 sa sb
    · rw [if_neg o14]
      by_cases o16 : op = 16
      · subst o16
        rw [if_pos rfl]
        by_cases hf : Sg.has m ((rb + i) % 4294967296) 1 = true
        · rw [if_pos hf]
          exact Step.lb_yes r0 r1 r2 r3 r4 r5 r6 r7 pc m w x a b i ra rb hm p0 p1 h hx ho hT hf ha0 ha8 hb0 hb8 wa.1 wa.2 sa sb
        · rw [if_neg hf]
          exact Step.lb_no r0 r1 r2 r3 r4 r5 r6 r7 pc m w x a b i ra rb hm p0 p1 h hx ho hT (by simpa using hf) ha0 ha8 hb0 hb8 wa.1 wa.2 sa sb
      · rw [if_neg o16]
        by_cases o15 : op = 15
        · subst o15
          rw [if_pos rfl]
          by_cases hf : Sg.isWord m ((rb + i) % 4294967296) = true
          · rw [if_pos hf]
            have := Step.sw_yes r0 r1 r2 r3 r4 r5 r6 r7 pc m w x a b i ra rb hm p0 p1 h hx ho hT hf ha0 ha8 hb0 hb8 wa.1 wa.2 sa sb
            rwa [hset] at this
          · rw [if_neg hf]
            exact Step.sw_no r0 r1 r2 r3 r4 r5 r6 r7 pc m w x a b i ra rb hm p0 p1 h hx ho hT (by simpa using hf) ha0 ha8 hb0 hb8 wa.1 wa.2 sa sb
        · rw [if_neg o15]
          by_cases o17 : op = 17
          · subst o17
            rw [if_pos rfl]
            by_cases hf : Sg.has m ((rb + i) % 4294967296) 1 = true
            · rw [if_pos hf]
              have := Step.sb_yes r0 r1 r2 r3 r4 r5 r6 r7 pc m w x a b i ra rb hm p0 p1 h hx ho hT hf ha0 ha8 hb0 hb8 wa.1 wa.2 sa sb
              rwa [hset] at this
            · rw [if_neg hf]
              exact Step.sb_no r0 r1 r2 r3 r4 r5 r6 r7 pc m w x a b i ra rb hm p0 p1 h hx ho hT (by simpa using hf) ha0 ha8 hb0 hb8 wa.1 wa.2 sa sb
          · rw [if_neg o17]
            by_cases o24 : op = 24
            · subst o24
              rw [if_pos rfl]
              exact Step.sys r0 r1 r2 r3 r4 r5 r6 r7 pc m w x a b i ra rb hm p0 p1 h hx ho hT ha0 ha8 hb0 hb8 sa sb
            · rw [if_neg o24]
              obtain ⟨s0, s1, s2, s3, s4, s5, s6, s7, hs, _⟩ := cpuV_ex 0 (doesR_len (pc := pc) (op := op) (a := a) (b := b) (i := i) hw.1)
              simp only []
              rw [hs]
              by_cases o13 : op ≤ 13
              · exact Step.lo r0 r1 r2 r3 r4 r5 r6 r7 pc m w x op s0 s1 s2 s3 s4 s5 s6 s7 _ a b i ra rb hm p0 p1 h hx ho hT _ h1 o13 hw hs rfl rfl ha0 ha8 hb0 hb8 wa.1 wa.2 sa sb
              · exact Step.hi r0 r1 r2 r3 r4 r5 r6 r7 pc m w x op s0 s1 s2 s3 s4 s5 s6 s7 _ a b i ra rb hm p0 p1 h hx ho hT _ (by omega) (by omega) hw hs rfl rfl ha0 ha8 hb0 hb8 wa.1 wa.2 sa sb

theorem Step_any (rs : List Int) (pc : Int) (m : ByteArray) (w : World) (hw : Words rs) (p0 : 0 ≤ pc) (p1 : pc < 4294967296) (hm : m.size ≤ 140737488355328) (hT : Tab w) :
    Calls Tryd.prog 15 #[Cp.cpuV rs pc, .string m] w (Gives (.tuple #[Cp.cpuV (Cp.step rs pc m).rs (Cp.step rs pc m).pc, .string (Cp.step rs pc m).m, .int .i64 (Cp.step rs pc m).t]) w) := by
  unfold Cp.step
  by_cases h : Sg.isWord m pc = true
  · rw [if_pos h]
    by_cases ht : Cp.takeB (Sg.word m pc.toNat) = true
    · rw [if_pos ht]
      exact Step_ins rs pc _ m w hw p0 p1 hm hT h rfl ht
    · rw [if_neg ht]
      match rs, hw.1 with
      | [r0, r1, r2, r3, r4, r5, r6, r7], _ => exact Step.odd r0 r1 r2 r3 r4 r5 r6 r7 pc m w _ hm p0 p1 h rfl (by simpa using ht) hT
  · rw [if_neg h]
    match rs, hw.1 with
    | [r0, r1, r2, r3, r4, r5, r6, r7], _ => exact Step.fault r0 r1 r2 r3 r4 r5 r6 r7 pc m w hm p0 p1 (by simpa using h)
end Go.Proofs.YtllemloicianmaaDoor
