/- The law PlanMoved, walked. Condition: a frame is an integer. -/
import Derived.Test.YtiggoojjefmcoaaPlanShown
import Derived.Test.YtiggoojjefmcoaaPlanMovedFacts
import Derived.WalkKit
import Derived.WalkSpells
import Derived.WalkLawsBesides
import Derived.Lib.Hide
import Derived.BigQuiet
import Derived.Deep.QuietTactic

set_option linter.unusedVariables false
set_option linter.unusedSimpArgs false
namespace Go.Proofs.Ytiggoojjefmcoaa
open Go.RowKit
namespace LawMoved
/-- the head of the loop over the schedules -/
def Outer (np fr : Int) (ws : List (List (List Int))) (vp vw vc : Value) (w : World) (ve v : Value) (wr : World) : Prop :=
  ∃ (k : Nat) (e : Int), k ≤ ws.length ∧ v = .int .i64 k ∧ ve = .int .i64 e ∧ 1 ≤ e ∧ e ≤ 4096 ∧ Below w.heap.size w wr ∧ Plan.PlanCell wr w.heap.size vp fr vw vc ∧ Pl.winsE np fr (ws.drop k) = 0 ∧ Pl.winsEnd ws 1 = Pl.winsEnd (ws.drop k) e
/-- the head of the loop over a schedule's windows -/
def Inner (np fr : Int) (l : List (List Int)) (E : Int) (vp vw vc : Value) (w : World) (ve v : Value) (wr : World) : Prop :=
  ∃ (k : Nat) (b e : Int), k ≤ l.length ∧ v = .int .i64 k ∧ ve = .int .i64 e ∧ 1 ≤ e ∧ e ≤ 4096 ∧ Below w.heap.size w wr ∧ Plan.PlanCell wr w.heap.size vp fr vw vc ∧ Pl.rowE np fr (l.drop k) b = 0 ∧ Pl.rowEnd l E = Pl.rowEnd (l.drop k) e

set_option maxHeartbeats 4000000 in
set_option maxRecDepth 100000 in
theorem walk (v : Value) (P : Pl.Plan) (n : Int) (w : World) (h : PlanAt w v P) (hfr : P.fr ≤ 9223372036854775807) (hnw : (Lit.int .i64 n).wf = true) : Calls Try.prog 5 #[v, .int .i64 n] w (Gives (.bool true) w) := by
  have HPL := Lib.hid h
  have HCK := Lib.hid (fun W (hb : Below w.heap.size w W) => Plan.Check v P W (h.below hb) hfr)
  obtain ⟨vp, vw, vc, rfl, hp, hw, hc⟩ := h
  have HW := Lib.hid hw
  have hn1 : n ≤ 9223372036854775807 := by
    have hmax : IntKind.i64.max = 9223372036854775807 := rfl
    simp only [Lit.wf, Bool.and_eq_true, decide_eq_true_eq] at hnw
    omega
  have HCQ := Lib.hid (fun W (hb : Below w.heap.size w W) => Plan.Check (.agg #[vp, .int .i64 n, vw, vc]) ⟨P.ps, n, P.ws, P.cs⟩ W ⟨vp, vw, vc, rfl, hp.below hb, hw.below hb, hc.below hb⟩ hn1)
  obtain ⟨ap, cp, rfl, np, _⟩ := hp
  obtain ⟨aw, cw, rfl, nw, _⟩ := hw
  obtain ⟨ac, cc, rfl, nc, _⟩ := hc
  by_cases h0 : Pl.check P = 0
  · obtain ⟨f1, f2, f3, f4, f5, f6, f7, _⟩ := Pl.check_zero h0
    have HW0 := Lib.hid (Pl.check_zero h0).2.2.2.2.2.2.2.2.2.1
    go_enter Try.func5, Try.ntmps5
    repeat' (first | (go_at_call 7; refine (Plan.shown _).mono ?_; rintro e w1 ⟨rfl, hb1⟩; obtain ⟨hc1, hf1, hz1⟩ := bfacts hb1; try (simp at hz1); try (have y0 : w.heap.size < w1.heap.size := (by omega)); dsimp only) | (go_at_call 8; refine (HCK.out _ (by repeat (with_reducible (first | exact Below.refl _ _ | assumption | refine Below.to ?_ (by assumption) | refine below_drewN ?_ _ | refine Below.alloc ?_ (by first | (simp; done) | omega | (simp; omega) | (simp at *; omega)) _ | refine Below.setCell ?_ (by first | (simp; done) | omega | (simp; omega) | (simp at *; omega)) _ | refine Below.drew ?_)))).mono ?_; rintro e w2 ⟨rfl, hb2⟩; obtain ⟨hc2, hf2, hz2⟩ := bfacts hb2; try (have y1 : w.heap.size < w2.heap.size := (by omega)); rw [h0]; dsimp only) | go_values | go_skip | go_guarded | (with_reducible (first | refine ex_then_ret ?_ | refine ex_then_exit ?_ | refine ex_then_normal ?_ | refine ex_block_ret ?_ | refine ex_block_normal ?_ | refine ex_block_same ?_ | refine ex_block_other (by decide) ?_)) | go_step | go_upon | go_quiet (fail))
    have hPC : Plan.PlanCell w2 w.heap.size (.slice ap P.ps.length cp) P.fr (.slice aw P.ws.length cw) (.slice ac P.cs.length cc) := ⟨by omega, by go_simp, by go_simp, by go_simp, by go_simp⟩
    have hB2 : Below w.heap.size w w2 := (by repeat (with_reducible (first | exact Below.refl _ _ | assumption | refine Below.to ?_ (by assumption) | refine below_drewN ?_ _ | refine Below.alloc ?_ (by first | (simp; done) | omega | (simp; omega) | (simp at *; omega)) _ | refine Below.setCell ?_ (by first | (simp; done) | omega | (simp; omega) | (simp at *; omega)) _ | refine Below.drew ?_)))
    go_loopw [6, 7] (fun ve v wr => Outer P.ps.length P.fr P.ws (.slice ap P.ps.length cp) (.slice aw P.ws.length cw) (.slice ac P.cs.length cc) w ve v wr) (fun _ v _ => P.ws.length - (intOf v).toNat)
    case atStart => exact ⟨0, 1, Nat.zero_le _, rfl, rfl, by omega, by omega, hB2, hPC, by rw [List.drop_zero]; exact HW0.out, by rw [List.drop_zero]⟩
    case round =>
      obtain ⟨k, E, hk, rfl, rfl, hE1, hE2, hb, hpc, hwe, hend⟩ := hrel
      have HBl := Lib.hid hb
      have HPC := Lib.hid hpc
      have HEND := Lib.hid hend
      clear hend
      obtain ⟨hl0, p0, p1, p2, p3⟩ := hpc
      by_cases hlt : k < P.ws.length
      · obtain ⟨a', c', hav, hn', hnil | ⟨b, off, rfl, hbl, hcell⟩⟩ := HW.out
        · rw [hnil] at hlt; exact absurd hlt (Nat.not_lt_zero _)
        obtain ⟨u, hu, hrow⟩ := hcell k hlt
        cases hav
        have HROW := Lib.hid hrow
        obtain ⟨a3, c3, rfl, hn3, _⟩ := hrow
        have HU := Lib.hid hu
        have c0 := (HBl.out.cell (p := ⟨b, off + k, none⟩) hbl).trans hu
        obtain ⟨hrow0, hnext⟩ := Pl.wins_of hwe hlt
        have HNX := Lib.hid hnext
        have HES := Lib.hid (HEND.out.trans (Pl.winsEnd_step (e := E) hlt))
        clear hcell hu hwe hb hnext
        generalize P.ws.getD k [] = row at *
        repeat' (first | go_values | go_skip | go_guarded | (with_reducible (first | refine ex_then_ret ?_ | refine ex_then_exit ?_ | refine ex_then_normal ?_ | refine ex_block_ret ?_ | refine ex_block_normal ?_ | refine ex_block_same ?_ | refine ex_block_other (by decide) ?_)) | go_step | go_upon | go_quiet (fail))
        obtain ⟨wo, rfl⟩ : ∃ wo : World, wo = wr := ⟨_, rfl⟩
        go_loopw [6, 8] (fun ve v wi => Inner P.ps.length P.fr row E (.slice ap P.ps.length cp) (.slice (some ⟨b, off, none⟩) P.ws.length cw) (.slice ac P.cs.length cc) w ve v wi) (fun _ v _ => row.length - (intOf v).toNat)
        case atStart => exact ⟨0, 0, E, Nat.zero_le _, rfl, rfl, hE1, hE2, HBl.out, HPC.out, by rw [List.drop_zero]; exact hrow0, by rw [List.drop_zero]⟩
        case round =>
          obtain ⟨j, bh, ee, hj, rfl, rfl, he1, he2, hbi, hpi, hre, hend⟩ := hrel
          have HBI := Lib.hid hbi
          have HPI := Lib.hid hpi
          have HEND2 := Lib.hid hend
          obtain ⟨hl1, q0, q1, q2, q3⟩ := hpi
          have e0 := (HBI.out.cell (p := ⟨b, off + k, none⟩) hbl).trans HU.out
          by_cases hjl : j < row.length
          · obtain ⟨a4, c4, hav, hn4, hnil | ⟨b3, off3, rfl, hbl3, hcell3⟩⟩ := HROW.out
            · rw [hnil] at hjl; exact absurd hjl (Nat.not_lt_zero _)
            cases hav
            have at_ := fun i hi => (HBI.out.cell (p := ⟨b3, off3 + j * 3 + i, none⟩) hbl3).trans (hcell3 j i hjl hi)
            have d0 := at_ 0 (by omega)
            have d1 := at_ 1 (by omega)
            have d2 := at_ 2 (by omega)
            rw [Nat.add_zero] at d0
            obtain ⟨hwin, hnx⟩ := Pl.rows_of hre hjl
            have HNR := Lib.hid hnx
            have HST := Lib.hid (hend.trans (Pl.rowEnd_step (e := ee) hjl))
            clear at_ hcell3 hbi hre hnx hend
            generalize row.getD j [] = r at *
            obtain ⟨g0, g1, g2, g3, g4, g5⟩ := Pl.win_facts hwin
            have hsum1 : -9223372036854775808 ≤ Pl.g r 1 + Pl.g r 2 := by omega
            have hsum2 : Pl.g r 1 + Pl.g r 2 ≤ 9223372036854775807 := by omega
            by_cases hmax : ee < Pl.g r 1 + Pl.g r 2
            · have hst := HST.out
              rw [if_pos hmax] at hst
              have HST2 := Lib.hid hst
              clear hst
              repeat' (first | go_values | go_skip | go_guarded | (with_reducible (first | refine ex_then_ret ?_ | refine ex_then_exit ?_ | refine ex_then_normal ?_ | refine ex_block_ret ?_ | refine ex_block_normal ?_ | refine ex_block_same ?_ | refine ex_block_other (by decide) ?_)) | go_step | go_upon | go_quiet (fail))
              have hB := HBI.out
              exact ⟨⟨j + 1, _, _, by omega, by go_num, rfl, by omega, by omega, (by repeat (with_reducible (first | exact Below.refl _ _ | assumption | refine Below.to ?_ (by assumption) | refine below_drewN ?_ _ | refine Below.alloc ?_ (by first | (simp; done) | omega | (simp; omega) | (simp at *; omega)) _ | refine Below.setCell ?_ (by first | (simp; done) | omega | (simp; omega) | (simp at *; omega)) _ | refine Below.drew ?_))), HPI.out.below (by repeat (with_reducible (first | exact Below.refl _ _ | assumption | refine Below.to ?_ (by assumption) | refine below_drewN ?_ _ | refine Below.alloc ?_ (by first | (simp; done) | omega | (simp; omega) | (simp at *; omega)) _ | refine Below.setCell ?_ (by first | (simp; done) | omega | (simp; omega) | (simp at *; omega)) _ | refine Below.drew ?_))), HNR.out, HST2.out⟩, by simp [intOf]; omega⟩
            · have hst := HST.out
              rw [if_neg hmax] at hst
              have HST2 := Lib.hid hst
              clear hst
              repeat' (first | go_values | go_skip | go_guarded | (with_reducible (first | refine ex_then_ret ?_ | refine ex_then_exit ?_ | refine ex_then_normal ?_ | refine ex_block_ret ?_ | refine ex_block_normal ?_ | refine ex_block_same ?_ | refine ex_block_other (by decide) ?_)) | go_step | go_upon | go_quiet (fail))
              have hB := HBI.out
              exact ⟨⟨j + 1, _, _, by omega, by go_num, rfl, by omega, by omega, (by repeat (with_reducible (first | exact Below.refl _ _ | assumption | refine Below.to ?_ (by assumption) | refine below_drewN ?_ _ | refine Below.alloc ?_ (by first | (simp; done) | omega | (simp; omega) | (simp at *; omega)) _ | refine Below.setCell ?_ (by first | (simp; done) | omega | (simp; omega) | (simp at *; omega)) _ | refine Below.drew ?_))), HPI.out.below (by repeat (with_reducible (first | exact Below.refl _ _ | assumption | refine Below.to ?_ (by assumption) | refine below_drewN ?_ _ | refine Below.alloc ?_ (by first | (simp; done) | omega | (simp; omega) | (simp at *; omega)) _ | refine Below.setCell ?_ (by first | (simp; done) | omega | (simp; omega) | (simp at *; omega)) _ | refine Below.drew ?_))), HNR.out, HST2.out⟩, by simp [intOf]; omega⟩
          · have hfin : Pl.rowEnd row E = ee := by rw [hend, List.drop_of_length_le (by omega)]; rfl
            have HFIN := Lib.hid hfin
            clear hfin hend
            repeat' (first | go_values | go_skip | go_guarded | (with_reducible (first | refine ex_then_ret ?_ | refine ex_then_exit ?_ | refine ex_then_normal ?_ | refine ex_block_ret ?_ | refine ex_block_normal ?_ | refine ex_block_same ?_ | refine ex_block_other (by decide) ?_)) | go_step | go_upon | go_quiet (fail))
            have hB := HBI.out
            exact ⟨⟨k + 1, ee, by omega, by go_num, rfl, he1, he2, (by repeat (with_reducible (first | exact Below.refl _ _ | assumption | refine Below.to ?_ (by assumption) | refine below_drewN ?_ _ | refine Below.alloc ?_ (by first | (simp; done) | omega | (simp; omega) | (simp at *; omega)) _ | refine Below.setCell ?_ (by first | (simp; done) | omega | (simp; omega) | (simp at *; omega)) _ | refine Below.drew ?_))), HPI.out.below (by repeat (with_reducible (first | exact Below.refl _ _ | assumption | refine Below.to ?_ (by assumption) | refine below_drewN ?_ _ | refine Below.alloc ?_ (by first | (simp; done) | omega | (simp; omega) | (simp at *; omega)) _ | refine Below.setCell ?_ (by first | (simp; done) | omega | (simp; omega) | (simp at *; omega)) _ | refine Below.drew ?_))), HNX.out, by rw [HES.out, HFIN.out]⟩, by simp [intOf]; omega⟩
      · have hb' := HBl.out
        repeat' (first | (go_at_call 8; refine (HCQ.out _ (by repeat (with_reducible (first | exact Below.refl _ _ | assumption | refine Below.to ?_ (by assumption) | refine below_drewN ?_ _ | refine Below.alloc ?_ (by first | (simp; done) | omega | (simp; omega) | (simp at *; omega)) _ | refine Below.setCell ?_ (by first | (simp; done) | omega | (simp; omega) | (simp at *; omega)) _ | refine Below.drew ?_)))).mono ?_; rintro e w4 ⟨rfl, hb4⟩; obtain ⟨hc4, hf4, hz4⟩ := bfacts hb4; try (simp at hz4); dsimp only) | go_values | go_skip | go_guarded | (with_reducible (first | refine ex_then_ret ?_ | refine ex_then_exit ?_ | refine ex_then_normal ?_ | refine ex_block_ret ?_ | refine ex_block_normal ?_ | refine ex_block_same ?_ | refine ex_block_other (by decide) ?_)) | go_step | go_upon | go_quiet (fail))
        all_goals go_ret
        all_goals
          refine gives_bool ?_ (by repeat (with_reducible (first | exact Below.refl _ _ | assumption | refine Below.to ?_ (by assumption) | refine below_drewN ?_ _ | refine Below.alloc ?_ (by first | (simp; done) | omega | (simp; omega) | (simp at *; omega)) _ | refine Below.setCell ?_ (by first | (simp; done) | omega | (simp; omega) | (simp at *; omega)) _ | refine Below.drew ?_)))
          have hfin : Pl.winsEnd P.ws 1 = E := by rw [HEND.out, List.drop_of_length_le (by omega)]; rfl
          have hm := Pl.check_moved h0 n
          rw [hfin] at hm
          by_cases hq : Pl.check ⟨P.ps, n, P.ws, P.cs⟩ = 0
          · have hq1 := hm.1 hq
            simp [hq]
            try omega
          · have hq1 : ¬ (E ≤ n ∧ n ≤ 4096) := fun h => hq (hm.2 h)
            have hq2 : (Pl.check ⟨P.ps, n, P.ws, P.cs⟩ == 0) = false := beq_false_of_ne hq
            simp only [hq2]
            simp
            try omega
  · go_enter Try.func5, Try.ntmps5
    repeat' (first | (go_at_call 7; refine (Plan.shown _).mono ?_; rintro e w1 ⟨rfl, hb1⟩; obtain ⟨hc1, hf1, hz1⟩ := bfacts hb1; try (simp at hz1); try (have y0 : w.heap.size < w1.heap.size := (by omega)); dsimp only) | (go_at_call 8; refine (HCK.out _ (by repeat (with_reducible (first | exact Below.refl _ _ | assumption | refine Below.to ?_ (by assumption) | refine below_drewN ?_ _ | refine Below.alloc ?_ (by first | (simp; done) | omega | (simp; omega) | (simp at *; omega)) _ | refine Below.setCell ?_ (by first | (simp; done) | omega | (simp; omega) | (simp at *; omega)) _ | refine Below.drew ?_)))).mono ?_; rintro e w2 ⟨rfl, hb2⟩; obtain ⟨hc2, hf2, hz2⟩ := bfacts hb2; try (have y1 : w.heap.size < w2.heap.size := (by omega)); clear HCK HPL; generalize Pl.check P = ee at *; dsimp only) | go_values | go_skip | go_guarded | (with_reducible (first | refine ex_then_ret ?_ | refine ex_then_exit ?_ | refine ex_then_normal ?_ | refine ex_block_ret ?_ | refine ex_block_normal ?_ | refine ex_block_same ?_ | refine ex_block_other (by decide) ?_)) | go_step | go_upon | go_quiet (fail))
    all_goals go_ret
    all_goals exact gives_bool rfl (by repeat (with_reducible (first | exact Below.refl _ _ | assumption | refine Below.to ?_ (by assumption) | refine below_drewN ?_ _ | refine Below.alloc ?_ (by first | (simp; done) | omega | (simp; omega) | (simp at *; omega)) _ | refine Below.setCell ?_ (by first | (simp; done) | omega | (simp; omega) | (simp at *; omega)) _ | refine Below.drew ?_)))
end LawMoved
end Go.Proofs.Ytiggoojjefmcoaa
