/- plan.Check answers what Pl.check says. Condition: a frame is an integer. -/
import Derived.Test.YtiggoojjefmcoaaDoorPlanWalkD
import Derived.WalkKit
import Derived.WalkSpells
import Derived.WalkLawsBesides
import Derived.Lib.Hide
import Derived.BigQuiet
import Derived.Deep.QuietTactic

set_option linter.unusedVariables false
set_option linter.unusedSimpArgs false
namespace Go.Proofs.YtiggoojjefmcoaaDoor
open Go.RowKit
namespace Plan
set_option maxHeartbeats 4000000 in
set_option maxRecDepth 100000 in
theorem Check (v : Value) (P : Pl.Plan) (w : World) (h : PlanAt w v P) (hfr : P.fr ≤ 9223372036854775807) :
    Calls Tryd.prog 12 #[v] w (Gives (.int .i64 (Pl.check P)) w) := by
  obtain ⟨vp, vw, vc, rfl, hp, hw, hc⟩ := h
  have HP := Lib.hid hp
  have HW := Lib.hid hw
  have HC := Lib.hid hc
  obtain ⟨ap, cp, rfl, np, _⟩ := hp
  obtain ⟨aw, cw, rfl, nw, _⟩ := hw
  obtain ⟨ac, cc, rfl, nc, _⟩ := hc
  obtain ⟨ps, fr, ws, cs⟩ := P
  simp only [] at *
  by_cases h1 : 4 < ps.length ∨ 3 < ws.length ∨ 6 < cs.length
  · have e : Pl.check ⟨ps, fr, ws, cs⟩ = 4 := by unfold Pl.check; rw [if_pos (by simp only []; omega)]
    rw [e]
    rcases h1 with h1 | h1 | h1
    all_goals
      go_enter Tryd.func12, Tryd.ntmps12
      repeat' (first | go_values | go_skip | go_guarded | (with_reducible (first | refine ex_then_ret ?_ | refine ex_then_exit ?_ | refine ex_then_normal ?_ | refine ex_block_ret ?_ | refine ex_block_normal ?_ | refine ex_block_same ?_ | refine ex_block_other (by decide) ?_)) | go_step | go_upon | go_quiet (fail))
      all_goals go_ret
      all_goals exact gives_of rfl (by repeat (with_reducible (first | exact Below.refl _ _ | assumption | refine Below.to ?_ (by assumption) | refine below_drewN ?_ _ | refine Below.alloc ?_ (by first | (simp; done) | omega | (simp; omega) | (simp at *; omega)) _ | refine Below.setCell ?_ (by first | (simp; done) | omega | (simp; omega) | (simp at *; omega)) _ | refine Below.drew ?_)))
  · have h4 : ps.length ≤ 4 := by omega
    have h3 : ws.length ≤ 3 := by omega
    have h6 : cs.length ≤ 6 := by omega
    clear h1
    cases hA : ws.any (fun l => decide (8 < l.length))
    · have HA := Lib.hid hA
      clear hA
      by_cases hz : ps.length = 0 ∨ ws.length = 0
      · have e : Pl.check ⟨ps, fr, ws, cs⟩ = 1 := by unfold Pl.check; rw [if_neg (by simp only [HA.out]; simp; omega), if_pos (by simp only []; omega)]
        rw [e]
        obtain hz | rfl : ps.length = 0 ∨ ws = [] := hz.imp_right List.length_eq_zero_iff.mp
        all_goals
          go_enter Tryd.func12, Tryd.ntmps12
          repeat' (first | (go_at_call 27; refine (contW _ _ _ (HW.out.below (by repeat (with_reducible (first | exact Below.refl _ _ | assumption | refine Below.to ?_ (by assumption) | refine below_drewN ?_ _ | refine Below.alloc ?_ (by first | (simp; done) | omega | (simp; omega) | (simp at *; omega)) _ | refine Below.setCell ?_ (by first | (simp; done) | omega | (simp; omega) | (simp at *; omega)) _ | refine Below.drew ?_))))).mono ?_; rintro e w1 ⟨rfl, hb1⟩; obtain ⟨hc1, hf1, hz1⟩ := bfacts hb1; simp at hz1; have y0 : w.heap.size < w1.heap.size := (by omega); rw [HA.out]; dsimp only) | go_values | go_skip | go_guarded | (with_reducible (first | refine ex_then_ret ?_ | refine ex_then_exit ?_ | refine ex_then_normal ?_ | refine ex_block_ret ?_ | refine ex_block_normal ?_ | refine ex_block_same ?_ | refine ex_block_other (by decide) ?_)) | go_step | go_upon | go_quiet (fail))
          all_goals go_ret
          all_goals exact gives_of rfl (by repeat (with_reducible (first | exact Below.refl _ _ | assumption | refine Below.to ?_ (by assumption) | refine below_drewN ?_ _ | refine Below.alloc ?_ (by first | (simp; done) | omega | (simp; omega) | (simp at *; omega)) _ | refine Below.setCell ?_ (by first | (simp; done) | omega | (simp; omega) | (simp at *; omega)) _ | refine Below.drew ?_)))
      · have hz1 : 0 < ps.length := by omega
        have hz2 : 0 < ws.length := by omega
        have hne1 : ¬ ps = [] := by intro h; rw [h] at hz1; exact absurd hz1 (Nat.lt_irrefl _)
        have hne2 : ¬ ws = [] := by intro h; rw [h] at hz2; exact absurd hz2 (Nat.lt_irrefl _)
        clear hz
        cases hB : ps.any (fun r => !Pl.partB r)
        · have HB := Lib.hid hB
          clear hB
          by_cases hf : fr < 1 ∨ 4096 < fr
          · have e : Pl.check ⟨ps, fr, ws, cs⟩ = 1 := by unfold Pl.check; rw [if_neg (by simp only [HA.out]; simp; omega), if_neg (by simp only []; omega), if_pos (by simp only []; omega)]
            rw [e]
            rcases hf with hf | hf
            all_goals
              go_enter Tryd.func12, Tryd.ntmps12
              repeat' (first | (go_at_call 27; refine (contW _ _ _ (HW.out.below (by repeat (with_reducible (first | exact Below.refl _ _ | assumption | refine Below.to ?_ (by assumption) | refine below_drewN ?_ _ | refine Below.alloc ?_ (by first | (simp; done) | omega | (simp; omega) | (simp at *; omega)) _ | refine Below.setCell ?_ (by first | (simp; done) | omega | (simp; omega) | (simp at *; omega)) _ | refine Below.drew ?_))))).mono ?_; rintro e w1 ⟨rfl, hb1⟩; obtain ⟨hc1, hf1, hz1⟩ := bfacts hb1; simp at hz1; have y0 : w.heap.size < w1.heap.size := (by omega); rw [HA.out]; dsimp only) | (go_at_call 28; refine (contP _ ps _ (HP.out.below (by repeat (with_reducible (first | exact Below.refl _ _ | assumption | refine Below.to ?_ (by assumption) | refine below_drewN ?_ _ | refine Below.alloc ?_ (by first | (simp; done) | omega | (simp; omega) | (simp at *; omega)) _ | refine Below.setCell ?_ (by first | (simp; done) | omega | (simp; omega) | (simp at *; omega)) _ | refine Below.drew ?_))))).mono ?_; rintro e w2 ⟨rfl, hb2⟩; obtain ⟨hc2, hfz2, hz2'⟩ := bfacts hb2; have y1 : w.heap.size < w2.heap.size := (by omega); rw [HB.out]; dsimp only) | go_values | go_skip | go_guarded | (with_reducible (first | refine ex_then_ret ?_ | refine ex_then_exit ?_ | refine ex_then_normal ?_ | refine ex_block_ret ?_ | refine ex_block_normal ?_ | refine ex_block_same ?_ | refine ex_block_other (by decide) ?_)) | go_step | go_upon | go_quiet (fail))
              all_goals go_ret
              all_goals exact gives_of rfl (by repeat (with_reducible (first | exact Below.refl _ _ | assumption | refine Below.to ?_ (by assumption) | refine below_drewN ?_ _ | refine Below.alloc ?_ (by first | (simp; done) | omega | (simp; omega) | (simp at *; omega)) _ | refine Below.setCell ?_ (by first | (simp; done) | omega | (simp; omega) | (simp at *; omega)) _ | refine Below.drew ?_)))
          · have hf1 : 1 ≤ fr := by omega
            have hfr2 : fr ≤ 4096 := by omega
            clear hf
            exact CheckIn w ps fr ws cs ap aw ac cp cw cc HP HW HC h4 h3 h6 HA hne1 hne2 HB hf1 hfr2
        · have HB := Lib.hid hB
          clear hB
          have e : Pl.check ⟨ps, fr, ws, cs⟩ = 1 := by unfold Pl.check; rw [if_neg (by simp only [HA.out]; simp; omega), if_neg (by simp only []; omega), if_pos (by simp only [HB.out]; simp)]
          rw [e]
          go_enter Tryd.func12, Tryd.ntmps12
          repeat' (first | (go_at_call 27; refine (contW _ _ _ (HW.out.below (by repeat (with_reducible (first | exact Below.refl _ _ | assumption | refine Below.to ?_ (by assumption) | refine below_drewN ?_ _ | refine Below.alloc ?_ (by first | (simp; done) | omega | (simp; omega) | (simp at *; omega)) _ | refine Below.setCell ?_ (by first | (simp; done) | omega | (simp; omega) | (simp at *; omega)) _ | refine Below.drew ?_))))).mono ?_; rintro e w1 ⟨rfl, hb1⟩; obtain ⟨hc1, hf1, hz1⟩ := bfacts hb1; simp at hz1; have y0 : w.heap.size < w1.heap.size := (by omega); rw [HA.out]; dsimp only) | (go_at_call 28; refine (contP _ ps _ (HP.out.below (by repeat (with_reducible (first | exact Below.refl _ _ | assumption | refine Below.to ?_ (by assumption) | refine below_drewN ?_ _ | refine Below.alloc ?_ (by first | (simp; done) | omega | (simp; omega) | (simp at *; omega)) _ | refine Below.setCell ?_ (by first | (simp; done) | omega | (simp; omega) | (simp at *; omega)) _ | refine Below.drew ?_))))).mono ?_; rintro e w2 ⟨rfl, hb2⟩; obtain ⟨hc2, hfz2, hz2'⟩ := bfacts hb2; have y1 : w.heap.size < w2.heap.size := (by omega); rw [HB.out]; dsimp only) | go_values | go_skip | go_guarded | (with_reducible (first | refine ex_then_ret ?_ | refine ex_then_exit ?_ | refine ex_then_normal ?_ | refine ex_block_ret ?_ | refine ex_block_normal ?_ | refine ex_block_same ?_ | refine ex_block_other (by decide) ?_)) | go_step | go_upon | go_quiet (fail))
          all_goals go_ret
          all_goals exact gives_of rfl (by repeat (with_reducible (first | exact Below.refl _ _ | assumption | refine Below.to ?_ (by assumption) | refine below_drewN ?_ _ | refine Below.alloc ?_ (by first | (simp; done) | omega | (simp; omega) | (simp at *; omega)) _ | refine Below.setCell ?_ (by first | (simp; done) | omega | (simp; omega) | (simp at *; omega)) _ | refine Below.drew ?_)))
    · have HA := Lib.hid hA
      clear hA
      have e : Pl.check ⟨ps, fr, ws, cs⟩ = 4 := by unfold Pl.check; rw [if_pos (by simp only [HA.out]; simp)]
      rw [e]
      go_enter Tryd.func12, Tryd.ntmps12
      repeat' (first | (go_at_call 27; refine (contW _ _ _ (HW.out.below (by repeat (with_reducible (first | exact Below.refl _ _ | assumption | refine Below.to ?_ (by assumption) | refine below_drewN ?_ _ | refine Below.alloc ?_ (by first | (simp; done) | omega | (simp; omega) | (simp at *; omega)) _ | refine Below.setCell ?_ (by first | (simp; done) | omega | (simp; omega) | (simp at *; omega)) _ | refine Below.drew ?_))))).mono ?_; rintro e w1 ⟨rfl, hb1⟩; obtain ⟨hc1, hf1, hz1⟩ := bfacts hb1; simp at hz1; have y0 : w.heap.size < w1.heap.size := (by omega); rw [HA.out]; dsimp only) | go_values | go_skip | go_guarded | (with_reducible (first | refine ex_then_ret ?_ | refine ex_then_exit ?_ | refine ex_then_normal ?_ | refine ex_block_ret ?_ | refine ex_block_normal ?_ | refine ex_block_same ?_ | refine ex_block_other (by decide) ?_)) | go_step | go_upon | go_quiet (fail))
      all_goals go_ret
      all_goals exact gives_of rfl (by repeat (with_reducible (first | exact Below.refl _ _ | assumption | refine Below.to ?_ (by assumption) | refine below_drewN ?_ _ | refine Below.alloc ?_ (by first | (simp; done) | omega | (simp; omega) | (simp at *; omega)) _ | refine Below.setCell ?_ (by first | (simp; done) | omega | (simp; omega) | (simp at *; omega)) _ | refine Below.drew ?_)))
end Plan
end Go.Proofs.YtiggoojjefmcoaaDoor
