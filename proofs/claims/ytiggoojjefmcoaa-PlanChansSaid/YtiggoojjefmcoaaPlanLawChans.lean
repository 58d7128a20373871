/- The law PlanChans, walked. Condition: a frame is an integer. -/
import Derived.Test.YtiggoojjefmcoaaPlanShown
import Derived.Test.YtiggoojjefmcoaaPlanFacts
import Derived.WalkKit
import Derived.WalkSpells
import Derived.WalkLawsBesides
import Derived.Lib.Hide
import Derived.BigQuiet
import Derived.Deep.QuietTactic

set_option linter.unusedVariables false
set_option linter.unusedSimpArgs false
namespace Go.Proofs.Ytiggoojjefmcoaa
open Go.RowKit
namespace LawChans
/-- the head of the loop over the channels -/
def Inv (n : Nat) (vp vw vc : Value) (fr : Int) (w : World) (v : Value) (wr : World) : Prop :=
  ∃ k : Nat, k ≤ n ∧ v = .int .i64 k ∧ Below w.heap.size w wr ∧ Plan.PlanCell wr w.heap.size vp fr vw vc
set_option maxHeartbeats 4000000 in
set_option maxRecDepth 100000 in
theorem walk (v : Value) (P : Pl.Plan) (w : World) (h : PlanAt w v P) (hfr : P.fr ≤ 9223372036854775807) : Calls Try.prog 4 #[v] w (Gives (.bool true) w) := by
  have HPL := Lib.hid h
  have HCK := Lib.hid (fun W (hb : Below w.heap.size w W) => Plan.Check v P W (h.below hb) hfr)
  obtain ⟨vp, vw, vc, rfl, hp, hw, hc⟩ := h
  have HC := Lib.hid hc
  obtain ⟨ap, cp, rfl, np, _⟩ := hp
  obtain ⟨aw, cw, rfl, nw, _⟩ := hw
  obtain ⟨ac, cc, rfl, nc, _⟩ := hc
  by_cases h0 : Pl.check P = 0
  · obtain ⟨f1, f2, f3, f4, f5, f6, f7, _⟩ := Pl.check_zero h0
    have HF := Lib.hid (fun k (hk : k < P.cs.length) => Pl.chan_facts (Pl.chan_of h0 hk))
    go_enter Try.func4, Try.ntmps4
    repeat' (first | (go_at_call 7; refine (Plan.shown _).mono ?_; rintro e w1 ⟨rfl, hb1⟩; obtain ⟨hc1, hf1, hz1⟩ := bfacts hb1; try (simp at hz1); try (have y0 : w.heap.size < w1.heap.size := (by omega)); dsimp only) | (go_at_call 8; refine (HCK.out _ (by repeat (with_reducible (first | exact Below.refl _ _ | assumption | refine Below.to ?_ (by assumption) | refine below_drewN ?_ _ | refine Below.alloc ?_ (by first | (simp; done) | omega | (simp; omega) | (simp at *; omega)) _ | refine Below.setCell ?_ (by first | (simp; done) | omega | (simp; omega) | (simp at *; omega)) _ | refine Below.drew ?_)))).mono ?_; rintro e w2 ⟨rfl, hb2⟩; obtain ⟨hc2, hf2, hz2⟩ := bfacts hb2; try (have y1 : w.heap.size < w2.heap.size := (by omega)); rw [h0]; dsimp only) | go_values | go_skip | go_guarded | (with_reducible (first | refine ex_then_ret ?_ | refine ex_then_exit ?_ | refine ex_then_normal ?_ | refine ex_block_ret ?_ | refine ex_block_normal ?_ | refine ex_block_same ?_ | refine ex_block_other (by decide) ?_)) | go_step | go_upon | go_quiet (fail))
    have hPC : Plan.PlanCell w2 w.heap.size (.slice ap P.ps.length cp) P.fr (.slice aw P.ws.length cw) (.slice ac P.cs.length cc) := ⟨by omega, by go_simp, by go_simp, by go_simp, by go_simp⟩
    have hB2 : Below w.heap.size w w2 := (by repeat (with_reducible (first | exact Below.refl _ _ | assumption | refine Below.to ?_ (by assumption) | refine below_drewN ?_ _ | refine Below.alloc ?_ (by first | (simp; done) | omega | (simp; omega) | (simp at *; omega)) _ | refine Below.setCell ?_ (by first | (simp; done) | omega | (simp; omega) | (simp at *; omega)) _ | refine Below.drew ?_)))
    go_loopw [4] (fun v wr => Inv P.cs.length (.slice ap P.ps.length cp) (.slice aw P.ws.length cw) (.slice ac P.cs.length cc) P.fr w v wr) (fun v _ => P.cs.length - (intOf v).toNat)
    case atStart => exact ⟨0, Nat.zero_le _, rfl, hB2, hPC⟩
    case round =>
      obtain ⟨k, hk, rfl, hb, hpc⟩ := hrel
      have HBl := Lib.hid hb
      have HPC := Lib.hid hpc
      obtain ⟨hl0, p0, p1, p2, p3⟩ := hpc
      by_cases hlt : k < P.cs.length
      · obtain ⟨a', c', hav, hn', hnil | ⟨b, off, rfl, hbl, hcell⟩⟩ := HC.out
        · rw [hnil] at hlt; exact absurd hlt (Nat.not_lt_zero _)
        cases hav
        have at_ := fun i hi => (hb.cell (p := ⟨b, off + k * 5 + i, none⟩) hbl).trans (hcell k i hlt hi)
        have d0 := at_ 0 (by omega)
        have d1 := at_ 1 (by omega)
        have d2 := at_ 2 (by omega)
        have d3 := at_ 3 (by omega)
        have d4 := at_ 4 (by omega)
        rw [Nat.add_zero] at d0
        have hf := HF.out k hlt
        clear at_ hcell hb
        generalize P.cs.getD k [] = r at *
        obtain ⟨g0, g1, g2, g3, g4, g5, g6, g7, g8, g9, g10⟩ := hf
        rcases g0 with g0 | g0
        · have g11 := g10 g0
          clear g10
          rw [g0] at d0
          rw [g11] at d4
          repeat' (first | go_values | go_skip | go_guarded | (with_reducible (first | refine ex_then_ret ?_ | refine ex_then_exit ?_ | refine ex_then_normal ?_ | refine ex_block_ret ?_ | refine ex_block_normal ?_ | refine ex_block_same ?_ | refine ex_block_other (by decide) ?_)) | go_step | go_upon | go_quiet (fail))
          · exfalso
            rename_i hh
            revert hh
            simp [g5]
            try omega
          · have hB := HBl.out
            exact ⟨⟨k + 1, by omega, by go_num, (by repeat (with_reducible (first | exact Below.refl _ _ | assumption | refine Below.to ?_ (by assumption) | refine below_drewN ?_ _ | refine Below.alloc ?_ (by first | (simp; done) | omega | (simp; omega) | (simp at *; omega)) _ | refine Below.setCell ?_ (by first | (simp; done) | omega | (simp; omega) | (simp at *; omega)) _ | refine Below.drew ?_))), HPC.out.below (by repeat (with_reducible (first | exact Below.refl _ _ | assumption | refine Below.to ?_ (by assumption) | refine below_drewN ?_ _ | refine Below.alloc ?_ (by first | (simp; done) | omega | (simp; omega) | (simp at *; omega)) _ | refine Below.setCell ?_ (by first | (simp; done) | omega | (simp; omega) | (simp at *; omega)) _ | refine Below.drew ?_)))⟩, by simp [intOf]; omega⟩
        · clear g10
          rw [g0] at d0
          repeat' (first | go_values | go_skip | go_guarded | (with_reducible (first | refine ex_then_ret ?_ | refine ex_then_exit ?_ | refine ex_then_normal ?_ | refine ex_block_ret ?_ | refine ex_block_normal ?_ | refine ex_block_same ?_ | refine ex_block_other (by decide) ?_)) | go_step | go_upon | go_quiet (fail))
          · exfalso
            rename_i hh
            revert hh
            simp [g5]
            try omega
          · have hB := HBl.out
            exact ⟨⟨k + 1, by omega, by go_num, (by repeat (with_reducible (first | exact Below.refl _ _ | assumption | refine Below.to ?_ (by assumption) | refine below_drewN ?_ _ | refine Below.alloc ?_ (by first | (simp; done) | omega | (simp; omega) | (simp at *; omega)) _ | refine Below.setCell ?_ (by first | (simp; done) | omega | (simp; omega) | (simp at *; omega)) _ | refine Below.drew ?_))), HPC.out.below (by repeat (with_reducible (first | exact Below.refl _ _ | assumption | refine Below.to ?_ (by assumption) | refine below_drewN ?_ _ | refine Below.alloc ?_ (by first | (simp; done) | omega | (simp; omega) | (simp at *; omega)) _ | refine Below.setCell ?_ (by first | (simp; done) | omega | (simp; omega) | (simp at *; omega)) _ | refine Below.drew ?_)))⟩, by simp [intOf]; omega⟩
      · repeat' (first | go_values | go_skip | go_guarded | (with_reducible (first | refine ex_then_ret ?_ | refine ex_then_exit ?_ | refine ex_then_normal ?_ | refine ex_block_ret ?_ | refine ex_block_normal ?_ | refine ex_block_same ?_ | refine ex_block_other (by decide) ?_)) | go_step | go_upon | go_quiet (fail))
        go_ret
        have hB := HBl.out
        exact gives_bool (by simp; try omega) (by repeat (with_reducible (first | exact Below.refl _ _ | assumption | refine Below.to ?_ (by assumption) | refine below_drewN ?_ _ | refine Below.alloc ?_ (by first | (simp; done) | omega | (simp; omega) | (simp at *; omega)) _ | refine Below.setCell ?_ (by first | (simp; done) | omega | (simp; omega) | (simp at *; omega)) _ | refine Below.drew ?_)))
  · go_enter Try.func4, Try.ntmps4
    repeat' (first | (go_at_call 7; refine (Plan.shown _).mono ?_; rintro e w1 ⟨rfl, hb1⟩; obtain ⟨hc1, hf1, hz1⟩ := bfacts hb1; try (simp at hz1); try (have y0 : w.heap.size < w1.heap.size := (by omega)); dsimp only) | (go_at_call 8; refine (HCK.out _ (by repeat (with_reducible (first | exact Below.refl _ _ | assumption | refine Below.to ?_ (by assumption) | refine below_drewN ?_ _ | refine Below.alloc ?_ (by first | (simp; done) | omega | (simp; omega) | (simp at *; omega)) _ | refine Below.setCell ?_ (by first | (simp; done) | omega | (simp; omega) | (simp at *; omega)) _ | refine Below.drew ?_)))).mono ?_; rintro e w2 ⟨rfl, hb2⟩; obtain ⟨hc2, hf2, hz2⟩ := bfacts hb2; try (have y1 : w.heap.size < w2.heap.size := (by omega)); clear HCK HPL; generalize Pl.check P = ee at *; dsimp only) | go_values | go_skip | go_guarded | (with_reducible (first | refine ex_then_ret ?_ | refine ex_then_exit ?_ | refine ex_then_normal ?_ | refine ex_block_ret ?_ | refine ex_block_normal ?_ | refine ex_block_same ?_ | refine ex_block_other (by decide) ?_)) | go_step | go_upon | go_quiet (fail))
    all_goals go_ret
    all_goals exact gives_bool rfl (by repeat (with_reducible (first | exact Below.refl _ _ | assumption | refine Below.to ?_ (by assumption) | refine below_drewN ?_ _ | refine Below.alloc ?_ (by first | (simp; done) | omega | (simp; omega) | (simp at *; omega)) _ | refine Below.setCell ?_ (by first | (simp; done) | omega | (simp; omega) | (simp at *; omega)) _ | refine Below.drew ?_)))
end LawChans
end Go.Proofs.Ytiggoojjefmcoaa
