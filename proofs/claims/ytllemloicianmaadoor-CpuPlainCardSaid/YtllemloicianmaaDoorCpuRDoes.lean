/- transomref03.Does answers what Cp.doesR, Cp.doesP, Cp.doesB say. Condition: the registers are words. -/
import Derived.Test.YtllemloicianmaaDoorCpuDoes
import Derived.Test.YtllemloicianmaaDoorCpuRDoesA
import Derived.Test.YtllemloicianmaaDoorCpuRDoesB
import Derived.Test.YtllemloicianmaaDoorCpuRDoesC
import Derived.Test.YtllemloicianmaaDoorCpuRDoesD
import Derived.Test.YtllemloicianmaaDoorCpuRDoesE
import Derived.WalkKit
import Derived.WalkSpells
import Derived.WalkLawsBesides
import Derived.Lib.Hide
import Derived.BigQuiet
import Derived.Deep.QuietTactic

set_option linter.unusedVariables false
set_option linter.unusedSimpArgs false
namespace Go.Proofs.YtllemloicianmaaDoor
open Go.RowKit
theorem set_self (rs : List Int) (k : Nat) (h : k < rs.length) : rs.set k (rs.getD k 0) = rs := by
  apply List.ext_getElem?
  intro j
  rw [List.getElem?_set]
  by_cases e : k = j
  · subst e; simp [h]
  · simp [e]

set_option maxRecDepth 100000 in
theorem RDoes_any (rs : List Int) (pc op a b i : Int) (w : World) (hw : Words rs) (hT : Tab w) :
    Calls Tryd.prog 14 #[Cp.cpuV rs pc, .agg #[.int .i64 op, .int .i64 a, .int .i64 b, .int .i64 i]] w
      (Gives (.tuple #[Cp.cpuV (Cp.doesR rs pc op a b i) (Cp.doesP rs pc op a b i), .bool (Cp.doesB op a b i)]) w) := by
  by_cases hm : Cp.may op a b i = true
  · have hlim : Cp.lim op a b i = true := by
      simp only [Cp.may, Bool.and_eq_true] at hm; exact hm.1.1.1
    obtain ⟨h1, h24, ha0, ha8, hb0, hb8, _, _⟩ := Cp.lim_iff.1 hlim
    have sa := Does.sel rs hw.1 pc a ha0 ha8
    have sb := Does.sel rs hw.1 pc b hb0 hb8
    have wa := hw.at a.toNat
    have wb := hw.at b.toNat
    generalize hra : rs.getD a.toNat 0 = ra at sa wa
    generalize hrb : rs.getD b.toNat 0 = rb at sb wb
    match rs, hw.1 with
    | [r0, r1, r2, r3, r4, r5, r6, r7], _ =>
      have h : op = 1 ∨ op = 2 ∨ op = 3 ∨ op = 4 ∨ op = 5 ∨ op = 6 ∨ op = 7 ∨ op = 8 ∨ op = 9 ∨ op = 10 ∨ op = 11 ∨ op = 12 ∨ op = 13 ∨ op = 14 ∨ op = 15 ∨ op = 16 ∨ op = 17 ∨ op = 18 ∨ op = 19 ∨ op = 20 ∨ op = 21 ∨ op = 22 ∨ op = 23 ∨ op = 24 := by omega
      rcases h with rfl | rfl | rfl | rfl | rfl | rfl | rfl | rfl | rfl | rfl | rfl | rfl | rfl | rfl | rfl | rfl | rfl | rfl | rfl | rfl | rfl | rfl | rfl | rfl
      · have h := RDoes.go1 a b i r0 r1 r2 r3 r4 r5 r6 r7 pc ra rb w hT ha0 ha8 hb0 hb8 (Lib.hid hm) wa.1 wa.2 wb.1 wb.2 sa sb
        have eR : Cp.doesR [r0, r1, r2, r3, r4, r5, r6, r7] pc 1 a b i = [r0, r1, r2, r3, r4, r5, r6, r7].set a.toNat (Cp.val 1 ra rb (i % 4294967296) pc) := by unfold Cp.doesR Cp.regs; rw [hm, hra, hrb]; rfl
        have eP : Cp.doesP [r0, r1, r2, r3, r4, r5, r6, r7] pc 1 a b i = Cp.nxt 1 ra rb (i % 4294967296) pc := by unfold Cp.doesP; rw [hm, hra, hrb]; rfl
        have eB : Cp.doesB 1 a b i = true := by unfold Cp.doesB; rw [hm]; rfl
        rw [eR, eP, eB]; exact h
      · have h := RDoes.go2 a b i r0 r1 r2 r3 r4 r5 r6 r7 pc ra rb w hT ha0 ha8 hb0 hb8 (Lib.hid hm) wa.1 wa.2 wb.1 wb.2 sa sb
        have eR : Cp.doesR [r0, r1, r2, r3, r4, r5, r6, r7] pc 2 a b i = [r0, r1, r2, r3, r4, r5, r6, r7].set a.toNat (Cp.val 2 ra rb (i % 4294967296) pc) := by unfold Cp.doesR Cp.regs; rw [hm, hra, hrb]; rfl
        have eP : Cp.doesP [r0, r1, r2, r3, r4, r5, r6, r7] pc 2 a b i = Cp.nxt 2 ra rb (i % 4294967296) pc := by unfold Cp.doesP; rw [hm, hra, hrb]; rfl
        have eB : Cp.doesB 2 a b i = true := by unfold Cp.doesB; rw [hm]; rfl
        rw [eR, eP, eB]; exact h
      · have h := RDoes.go3 a b i r0 r1 r2 r3 r4 r5 r6 r7 pc ra rb w hT ha0 ha8 hb0 hb8 (Lib.hid hm) wa.1 wa.2 wb.1 wb.2 sa sb
        have eR : Cp.doesR [r0, r1, r2, r3, r4, r5, r6, r7] pc 3 a b i = [r0, r1, r2, r3, r4, r5, r6, r7].set a.toNat (Cp.val 3 ra rb (i % 4294967296) pc) := by unfold Cp.doesR Cp.regs; rw [hm, hra, hrb]; rfl
        have eP : Cp.doesP [r0, r1, r2, r3, r4, r5, r6, r7] pc 3 a b i = Cp.nxt 3 ra rb (i % 4294967296) pc := by unfold Cp.doesP; rw [hm, hra, hrb]; rfl
        have eB : Cp.doesB 3 a b i = true := by unfold Cp.doesB; rw [hm]; rfl
        rw [eR, eP, eB]; exact h
      · have h := RDoes.go4 a b i r0 r1 r2 r3 r4 r5 r6 r7 pc ra rb w hT ha0 ha8 hb0 hb8 (Lib.hid hm) wa.1 wa.2 wb.1 wb.2 sa sb
        have eR : Cp.doesR [r0, r1, r2, r3, r4, r5, r6, r7] pc 4 a b i = [r0, r1, r2, r3, r4, r5, r6, r7].set a.toNat (Cp.val 4 ra rb (i % 4294967296) pc) := by unfold Cp.doesR Cp.regs; rw [hm, hra, hrb]; rfl
        have eP : Cp.doesP [r0, r1, r2, r3, r4, r5, r6, r7] pc 4 a b i = Cp.nxt 4 ra rb (i % 4294967296) pc := by unfold Cp.doesP; rw [hm, hra, hrb]; rfl
        have eB : Cp.doesB 4 a b i = true := by unfold Cp.doesB; rw [hm]; rfl
        rw [eR, eP, eB]; exact h
      · have h := RDoes.go5 a b i r0 r1 r2 r3 r4 r5 r6 r7 pc ra rb w hT ha0 ha8 hb0 hb8 (Lib.hid hm) wa.1 wa.2 wb.1 wb.2 sa sb
        have eR : Cp.doesR [r0, r1, r2, r3, r4, r5, r6, r7] pc 5 a b i = [r0, r1, r2, r3, r4, r5, r6, r7].set a.toNat (Cp.val 5 ra rb (i % 4294967296) pc) := by unfold Cp.doesR Cp.regs; rw [hm, hra, hrb]; rfl
        have eP : Cp.doesP [r0, r1, r2, r3, r4, r5, r6, r7] pc 5 a b i = Cp.nxt 5 ra rb (i % 4294967296) pc := by unfold Cp.doesP; rw [hm, hra, hrb]; rfl
        have eB : Cp.doesB 5 a b i = true := by unfold Cp.doesB; rw [hm]; rfl
        rw [eR, eP, eB]; exact h
      · have h := RDoes.go6 a b i r0 r1 r2 r3 r4 r5 r6 r7 pc ra rb w hT ha0 ha8 hb0 hb8 (Lib.hid hm) wa.1 wa.2 wb.1 wb.2 sa sb
        have eR : Cp.doesR [r0, r1, r2, r3, r4, r5, r6, r7] pc 6 a b i = [r0, r1, r2, r3, r4, r5, r6, r7].set a.toNat (Cp.val 6 ra rb (i % 4294967296) pc) := by unfold Cp.doesR Cp.regs; rw [hm, hra, hrb]; rfl
        have eP : Cp.doesP [r0, r1, r2, r3, r4, r5, r6, r7] pc 6 a b i = Cp.nxt 6 ra rb (i % 4294967296) pc := by unfold Cp.doesP; rw [hm, hra, hrb]; rfl
        have eB : Cp.doesB 6 a b i = true := by unfold Cp.doesB; rw [hm]; rfl
        rw [eR, eP, eB]; exact h
      · by_cases hz : rb = 0
        · have h := RDoes.go7z a b i r0 r1 r2 r3 r4 r5 r6 r7 pc ra rb w hT hz ha0 ha8 hb0 hb8 (Lib.hid hm) wa.1 wa.2 wb.1 wb.2 sa sb
          have eR : Cp.doesR [r0, r1, r2, r3, r4, r5, r6, r7] pc 7 a b i = [r0, r1, r2, r3, r4, r5, r6, r7].set a.toNat (Cp.val 7 ra rb (i % 4294967296) pc) := by unfold Cp.doesR Cp.regs; rw [hm, hra, hrb]; rfl
          have eP : Cp.doesP [r0, r1, r2, r3, r4, r5, r6, r7] pc 7 a b i = Cp.nxt 7 ra rb (i % 4294967296) pc := by unfold Cp.doesP; rw [hm, hra, hrb]; rfl
          have eB : Cp.doesB 7 a b i = true := by unfold Cp.doesB; rw [hm]; rfl
          rw [eR, eP, eB]; exact h
        · have h := RDoes.go7 a b i r0 r1 r2 r3 r4 r5 r6 r7 pc ra rb w hT hz (by simpa using hz) ha0 ha8 hb0 hb8 (Lib.hid hm) wa.1 wa.2 wb.1 wb.2 sa sb
          have eR : Cp.doesR [r0, r1, r2, r3, r4, r5, r6, r7] pc 7 a b i = [r0, r1, r2, r3, r4, r5, r6, r7].set a.toNat (Cp.val 7 ra rb (i % 4294967296) pc) := by unfold Cp.doesR Cp.regs; rw [hm, hra, hrb]; rfl
          have eP : Cp.doesP [r0, r1, r2, r3, r4, r5, r6, r7] pc 7 a b i = Cp.nxt 7 ra rb (i % 4294967296) pc := by unfold Cp.doesP; rw [hm, hra, hrb]; rfl
          have eB : Cp.doesB 7 a b i = true := by unfold Cp.doesB; rw [hm]; rfl
          rw [eR, eP, eB]; exact h
      · have h := RDoes.go8 a b i r0 r1 r2 r3 r4 r5 r6 r7 pc ra rb w hT ha0 ha8 hb0 hb8 (Lib.hid hm) wa.1 wa.2 wb.1 wb.2 sa sb
        have eR : Cp.doesR [r0, r1, r2, r3, r4, r5, r6, r7] pc 8 a b i = [r0, r1, r2, r3, r4, r5, r6, r7].set a.toNat (Cp.val 8 ra rb (i % 4294967296) pc) := by unfold Cp.doesR Cp.regs; rw [hm, hra, hrb]; rfl
        have eP : Cp.doesP [r0, r1, r2, r3, r4, r5, r6, r7] pc 8 a b i = Cp.nxt 8 ra rb (i % 4294967296) pc := by unfold Cp.doesP; rw [hm, hra, hrb]; rfl
        have eB : Cp.doesB 8 a b i = true := by unfold Cp.doesB; rw [hm]; rfl
        rw [eR, eP, eB]; exact h
      · have h := RDoes.go9 a b i r0 r1 r2 r3 r4 r5 r6 r7 pc ra rb w hT ha0 ha8 hb0 hb8 (Lib.hid hm) wa.1 wa.2 wb.1 wb.2 sa sb
        have eR : Cp.doesR [r0, r1, r2, r3, r4, r5, r6, r7] pc 9 a b i = [r0, r1, r2, r3, r4, r5, r6, r7].set a.toNat (Cp.val 9 ra rb (i % 4294967296) pc) := by unfold Cp.doesR Cp.regs; rw [hm, hra, hrb]; rfl
        have eP : Cp.doesP [r0, r1, r2, r3, r4, r5, r6, r7] pc 9 a b i = Cp.nxt 9 ra rb (i % 4294967296) pc := by unfold Cp.doesP; rw [hm, hra, hrb]; rfl
        have eB : Cp.doesB 9 a b i = true := by unfold Cp.doesB; rw [hm]; rfl
        rw [eR, eP, eB]; exact h
      · have h := RDoes.go10 a b i r0 r1 r2 r3 r4 r5 r6 r7 pc ra rb w hT ha0 ha8 hb0 hb8 (Lib.hid hm) wa.1 wa.2 wb.1 wb.2 sa sb
        have eR : Cp.doesR [r0, r1, r2, r3, r4, r5, r6, r7] pc 10 a b i = [r0, r1, r2, r3, r4, r5, r6, r7].set a.toNat (Cp.val 10 ra rb (i % 4294967296) pc) := by unfold Cp.doesR Cp.regs; rw [hm, hra, hrb]; rfl
        have eP : Cp.doesP [r0, r1, r2, r3, r4, r5, r6, r7] pc 10 a b i = Cp.nxt 10 ra rb (i % 4294967296) pc := by unfold Cp.doesP; rw [hm, hra, hrb]; rfl
        have eB : Cp.doesB 10 a b i = true := by unfold Cp.doesB; rw [hm]; rfl
        rw [eR, eP, eB]; exact h
      · have h := RDoes.go11 a b i r0 r1 r2 r3 r4 r5 r6 r7 pc ra rb w hT ha0 ha8 hb0 hb8 (Lib.hid hm) wa.1 wa.2 wb.1 wb.2 sa sb
        have eR : Cp.doesR [r0, r1, r2, r3, r4, r5, r6, r7] pc 11 a b i = [r0, r1, r2, r3, r4, r5, r6, r7].set a.toNat (Cp.val 11 ra rb (i % 4294967296) pc) := by unfold Cp.doesR Cp.regs; rw [hm, hra, hrb]; rfl
        have eP : Cp.doesP [r0, r1, r2, r3, r4, r5, r6, r7] pc 11 a b i = Cp.nxt 11 ra rb (i % 4294967296) pc := by unfold Cp.doesP; rw [hm, hra, hrb]; rfl
        have eB : Cp.doesB 11 a b i = true := by unfold Cp.doesB; rw [hm]; rfl
        rw [eR, eP, eB]; exact h
      · have h := RDoes.go12 a b i r0 r1 r2 r3 r4 r5 r6 r7 pc ra rb w hT ha0 ha8 hb0 hb8 (Lib.hid hm) wa.1 wa.2 wb.1 wb.2 sa sb
        have eR : Cp.doesR [r0, r1, r2, r3, r4, r5, r6, r7] pc 12 a b i = [r0, r1, r2, r3, r4, r5, r6, r7].set a.toNat (Cp.val 12 ra rb (i % 4294967296) pc) := by unfold Cp.doesR Cp.regs; rw [hm, hra, hrb]; rfl
        have eP : Cp.doesP [r0, r1, r2, r3, r4, r5, r6, r7] pc 12 a b i = Cp.nxt 12 ra rb (i % 4294967296) pc := by unfold Cp.doesP; rw [hm, hra, hrb]; rfl
        have eB : Cp.doesB 12 a b i = true := by unfold Cp.doesB; rw [hm]; rfl
        rw [eR, eP, eB]; exact h
      · have h := RDoes.go13 a b i r0 r1 r2 r3 r4 r5 r6 r7 pc ra rb w hT ha0 ha8 hb0 hb8 (Lib.hid hm) wa.1 wa.2 wb.1 wb.2 sa sb
        have eR : Cp.doesR [r0, r1, r2, r3, r4, r5, r6, r7] pc 13 a b i = [r0, r1, r2, r3, r4, r5, r6, r7].set a.toNat (Cp.val 13 ra rb (i % 4294967296) pc) := by unfold Cp.doesR Cp.regs; rw [hm, hra, hrb]; rfl
        have eP : Cp.doesP [r0, r1, r2, r3, r4, r5, r6, r7] pc 13 a b i = Cp.nxt 13 ra rb (i % 4294967296) pc := by unfold Cp.doesP; rw [hm, hra, hrb]; rfl
        have eB : Cp.doesB 13 a b i = true := by unfold Cp.doesB; rw [hm]; rfl
        rw [eR, eP, eB]; exact h
      · have h := RDoes.stay14 a b i r0 r1 r2 r3 r4 r5 r6 r7 pc ra rb w hT ha0 ha8 hb0 hb8 (Lib.hid hm) sa sb
        have eR : Cp.doesR [r0, r1, r2, r3, r4, r5, r6, r7] pc 14 a b i = [r0, r1, r2, r3, r4, r5, r6, r7] := by unfold Cp.doesR Cp.regs; rw [hm]; rfl
        have eP : Cp.doesP [r0, r1, r2, r3, r4, r5, r6, r7] pc 14 a b i = pc := by unfold Cp.doesP; rw [hm]; rfl
        have eB : Cp.doesB 14 a b i = false := by unfold Cp.doesB; rw [hm]; rfl
        rw [eR, eP, eB]; exact h
      · have h := RDoes.stay15 a b i r0 r1 r2 r3 r4 r5 r6 r7 pc ra rb w hT ha0 ha8 hb0 hb8 (Lib.hid hm) sa sb
        have eR : Cp.doesR [r0, r1, r2, r3, r4, r5, r6, r7] pc 15 a b i = [r0, r1, r2, r3, r4, r5, r6, r7] := by unfold Cp.doesR Cp.regs; rw [hm]; rfl
        have eP : Cp.doesP [r0, r1, r2, r3, r4, r5, r6, r7] pc 15 a b i = pc := by unfold Cp.doesP; rw [hm]; rfl
        have eB : Cp.doesB 15 a b i = false := by unfold Cp.doesB; rw [hm]; rfl
        rw [eR, eP, eB]; exact h
      · have h := RDoes.stay16 a b i r0 r1 r2 r3 r4 r5 r6 r7 pc ra rb w hT ha0 ha8 hb0 hb8 (Lib.hid hm) sa sb
        have eR : Cp.doesR [r0, r1, r2, r3, r4, r5, r6, r7] pc 16 a b i = [r0, r1, r2, r3, r4, r5, r6, r7] := by unfold Cp.doesR Cp.regs; rw [hm]; rfl
        have eP : Cp.doesP [r0, r1, r2, r3, r4, r5, r6, r7] pc 16 a b i = pc := by unfold Cp.doesP; rw [hm]; rfl
        have eB : Cp.doesB 16 a b i = false := by unfold Cp.doesB; rw [hm]; rfl
        rw [eR, eP, eB]; exact h
      · have h := RDoes.stay17 a b i r0 r1 r2 r3 r4 r5 r6 r7 pc ra rb w hT ha0 ha8 hb0 hb8 (Lib.hid hm) sa sb
        have eR : Cp.doesR [r0, r1, r2, r3, r4, r5, r6, r7] pc 17 a b i = [r0, r1, r2, r3, r4, r5, r6, r7] := by unfold Cp.doesR Cp.regs; rw [hm]; rfl
        have eP : Cp.doesP [r0, r1, r2, r3, r4, r5, r6, r7] pc 17 a b i = pc := by unfold Cp.doesP; rw [hm]; rfl
        have eB : Cp.doesB 17 a b i = false := by unfold Cp.doesB; rw [hm]; rfl
        rw [eR, eP, eB]; exact h
      · have h := RDoes.jump18 a b i r0 r1 r2 r3 r4 r5 r6 r7 pc ra rb w hT ha0 ha8 hb0 hb8 (Lib.hid hm) wa.1 wa.2 wb.1 wb.2 sa sb
        have eR : Cp.doesR [r0, r1, r2, r3, r4, r5, r6, r7] pc 18 a b i = [r0, r1, r2, r3, r4, r5, r6, r7] := by unfold Cp.doesR Cp.regs; rw [hm]; rfl
        have eP : Cp.doesP [r0, r1, r2, r3, r4, r5, r6, r7] pc 18 a b i = Cp.nxt 18 ra rb (i % 4294967296) pc := by unfold Cp.doesP; rw [hm, hra, hrb]; rfl
        have eB : Cp.doesB 18 a b i = true := by unfold Cp.doesB; rw [hm]; rfl
        rw [eR, eP, eB]; exact h
      · have h := RDoes.go19 a b i r0 r1 r2 r3 r4 r5 r6 r7 pc ra rb w hT ha0 ha8 hb0 hb8 (Lib.hid hm) wa.1 wa.2 wb.1 wb.2 sa sb
        have eR : Cp.doesR [r0, r1, r2, r3, r4, r5, r6, r7] pc 19 a b i = [r0, r1, r2, r3, r4, r5, r6, r7].set a.toNat (Cp.val 19 ra rb (i % 4294967296) pc) := by unfold Cp.doesR Cp.regs; rw [hm, hra, hrb]; rfl
        have eP : Cp.doesP [r0, r1, r2, r3, r4, r5, r6, r7] pc 19 a b i = Cp.nxt 19 ra rb (i % 4294967296) pc := by unfold Cp.doesP; rw [hm, hra, hrb]; rfl
        have eB : Cp.doesB 19 a b i = true := by unfold Cp.doesB; rw [hm]; rfl
        rw [eR, eP, eB]; exact h
      · have h := RDoes.jump20 a b i r0 r1 r2 r3 r4 r5 r6 r7 pc ra rb w hT ha0 ha8 hb0 hb8 (Lib.hid hm) wa.1 wa.2 wb.1 wb.2 sa sb
        have eR : Cp.doesR [r0, r1, r2, r3, r4, r5, r6, r7] pc 20 a b i = [r0, r1, r2, r3, r4, r5, r6, r7] := by
          have e1 : Cp.doesR [r0, r1, r2, r3, r4, r5, r6, r7] pc 20 a b i = [r0, r1, r2, r3, r4, r5, r6, r7].set a.toNat ra := by unfold Cp.doesR Cp.regs; rw [hm, hra, hrb]; rfl
          rw [e1, ← hra]; exact set_self _ _ (by simp; omega)
        have eP : Cp.doesP [r0, r1, r2, r3, r4, r5, r6, r7] pc 20 a b i = Cp.nxt 20 ra rb (i % 4294967296) pc := by unfold Cp.doesP; rw [hm, hra, hrb]; rfl
        have eB : Cp.doesB 20 a b i = true := by unfold Cp.doesB; rw [hm]; rfl
        rw [eR, eP, eB]; exact h
      · have h := RDoes.jump21 a b i r0 r1 r2 r3 r4 r5 r6 r7 pc ra rb w hT ha0 ha8 hb0 hb8 (Lib.hid hm) wa.1 wa.2 wb.1 wb.2 sa sb
        have eR : Cp.doesR [r0, r1, r2, r3, r4, r5, r6, r7] pc 21 a b i = [r0, r1, r2, r3, r4, r5, r6, r7] := by
          have e1 : Cp.doesR [r0, r1, r2, r3, r4, r5, r6, r7] pc 21 a b i = [r0, r1, r2, r3, r4, r5, r6, r7].set a.toNat ra := by unfold Cp.doesR Cp.regs; rw [hm, hra, hrb]; rfl
          rw [e1, ← hra]; exact set_self _ _ (by simp; omega)
        have eP : Cp.doesP [r0, r1, r2, r3, r4, r5, r6, r7] pc 21 a b i = Cp.nxt 21 ra rb (i % 4294967296) pc := by unfold Cp.doesP; rw [hm, hra, hrb]; rfl
        have eB : Cp.doesB 21 a b i = true := by unfold Cp.doesB; rw [hm]; rfl
        rw [eR, eP, eB]; exact h
      · have h := RDoes.jump22 a b i r0 r1 r2 r3 r4 r5 r6 r7 pc ra rb w hT ha0 ha8 hb0 hb8 (Lib.hid hm) wa.1 wa.2 wb.1 wb.2 sa sb
        have eR : Cp.doesR [r0, r1, r2, r3, r4, r5, r6, r7] pc 22 a b i = [r0, r1, r2, r3, r4, r5, r6, r7] := by
          have e1 : Cp.doesR [r0, r1, r2, r3, r4, r5, r6, r7] pc 22 a b i = [r0, r1, r2, r3, r4, r5, r6, r7].set a.toNat ra := by unfold Cp.doesR Cp.regs; rw [hm, hra, hrb]; rfl
          rw [e1, ← hra]; exact set_self _ _ (by simp; omega)
        have eP : Cp.doesP [r0, r1, r2, r3, r4, r5, r6, r7] pc 22 a b i = Cp.nxt 22 ra rb (i % 4294967296) pc := by unfold Cp.doesP; rw [hm, hra, hrb]; rfl
        have eB : Cp.doesB 22 a b i = true := by unfold Cp.doesB; rw [hm]; rfl
        rw [eR, eP, eB]; exact h
      · have h := RDoes.jump23 a b i r0 r1 r2 r3 r4 r5 r6 r7 pc ra rb w hT ha0 ha8 hb0 hb8 (Lib.hid hm) wa.1 wa.2 wb.1 wb.2 sa sb
        have eR : Cp.doesR [r0, r1, r2, r3, r4, r5, r6, r7] pc 23 a b i = [r0, r1, r2, r3, r4, r5, r6, r7] := by
          have e1 : Cp.doesR [r0, r1, r2, r3, r4, r5, r6, r7] pc 23 a b i = [r0, r1, r2, r3, r4, r5, r6, r7].set a.toNat ra := by unfold Cp.doesR Cp.regs; rw [hm, hra, hrb]; rfl
          rw [e1, ← hra]; exact set_self _ _ (by simp; omega)
        have eP : Cp.doesP [r0, r1, r2, r3, r4, r5, r6, r7] pc 23 a b i = Cp.nxt 23 ra rb (i % 4294967296) pc := by unfold Cp.doesP; rw [hm, hra, hrb]; rfl
        have eB : Cp.doesB 23 a b i = true := by unfold Cp.doesB; rw [hm]; rfl
        rw [eR, eP, eB]; exact h
      · have h := RDoes.stay24 a b i r0 r1 r2 r3 r4 r5 r6 r7 pc ra rb w hT ha0 ha8 hb0 hb8 (Lib.hid hm) sa sb
        have eR : Cp.doesR [r0, r1, r2, r3, r4, r5, r6, r7] pc 24 a b i = [r0, r1, r2, r3, r4, r5, r6, r7] := by unfold Cp.doesR Cp.regs; rw [hm]; rfl
        have eP : Cp.doesP [r0, r1, r2, r3, r4, r5, r6, r7] pc 24 a b i = pc := by unfold Cp.doesP; rw [hm]; rfl
        have eB : Cp.doesB 24 a b i = false := by unfold Cp.doesB; rw [hm]; rfl
        rw [eR, eP, eB]; exact h
  · have hm' : Cp.may op a b i = false := by simpa using hm
    match rs, hw.1 with
    | [r0, r1, r2, r3, r4, r5, r6, r7], _ =>
      have h := RDoes.no op a b i r0 r1 r2 r3 r4 r5 r6 r7 pc w hT (Lib.hid hm')
      have eR : Cp.doesR [r0, r1, r2, r3, r4, r5, r6, r7] pc op a b i = [r0, r1, r2, r3, r4, r5, r6, r7] := by unfold Cp.doesR; rw [hm']; rfl
      have eP : Cp.doesP [r0, r1, r2, r3, r4, r5, r6, r7] pc op a b i = pc := by unfold Cp.doesP; rw [hm']; rfl
      have eB : Cp.doesB op a b i = false := by unfold Cp.doesB; rw [hm']; rfl
      rw [eR, eP, eB]; exact h
end Go.Proofs.YtllemloicianmaaDoor
