/- The inner part of plan.Check: its loop over windows. plan.Check answers there what Pl.check says. Condition: a frame is an integer. -/
import Derived.Test.YtiggoojjefmcoaaDoorPlanWalkC
import Derived.WalkKit
import Derived.WalkSpells
import Derived.WalkLawsBesides
import Derived.Lib.Hide
import Derived.BigQuiet
import Derived.Deep.QuietTactic

set_option linter.unusedVariables false
set_option linter.unusedSimpArgs false
namespace Go.Proofs.YtiggoojjefmcoaaDoor
open Go.RowKit
namespace Plan
theorem winsE_step {np fr : Int} {ws : List (List (List Int))} {k : Nat} (hk : k < ws.length) (h : Pl.rowE np fr (ws.getD k []) 0 = 0) : Pl.winsE np fr (ws.drop k) = Pl.winsE np fr (ws.drop (k + 1)) := by
  rw [List.getD_eq_getElem?_getD, List.getElem?_eq_getElem hk, Option.getD_some] at h
  rw [List.drop_eq_getElem_cons hk, Pl.winsE, if_pos h]
theorem winsE_stop {np fr : Int} {ws : List (List (List Int))} {k : Nat} (hk : k < ws.length) (h : Pl.rowE np fr (ws.getD k []) 0 ≠ 0) : Pl.winsE np fr (ws.drop k) = Pl.rowE np fr (ws.getD k []) 0 := by
  rw [List.getD_eq_getElem?_getD, List.getElem?_eq_getElem hk, Option.getD_some] at h ⊢
  rw [List.drop_eq_getElem_cons hk, Pl.winsE, if_neg h]
theorem rowE_step {np fr b : Int} {l : List (List Int)} {k : Nat} (hk : k < l.length) (h : Pl.winE np fr (l.getD k []) b = 0) : Pl.rowE np fr (l.drop k) b = Pl.rowE np fr (l.drop (k + 1)) (Pl.g (l.getD k []) 1 + Pl.g (l.getD k []) 2) := by
  rw [List.getD_eq_getElem?_getD, List.getElem?_eq_getElem hk, Option.getD_some] at h ⊢
  rw [List.drop_eq_getElem_cons hk, Pl.rowE, if_pos h]
theorem rowE_stop {np fr b : Int} {l : List (List Int)} {k : Nat} (hk : k < l.length) (h : Pl.winE np fr (l.getD k []) b ≠ 0) : Pl.rowE np fr (l.drop k) b = Pl.winE np fr (l.getD k []) b := by
  rw [List.getD_eq_getElem?_getD, List.getElem?_eq_getElem hk, Option.getD_some] at h ⊢
  rw [List.drop_eq_getElem_cons hk, Pl.rowE, if_neg h]
theorem winE_end {np fr b : Int} {r : List Int} (h : Pl.winE np fr r b = 0) : 0 ≤ Pl.g r 1 ∧ 2 < Pl.g r 2 ∧ Pl.g r 1 + Pl.g r 2 ≤ fr := by
  unfold Pl.winE at h
  split at h
  · omega
  · omega
theorem check_mid {ps cs : List (List Int)} {fr : Int} {ws : List (List (List Int))} (h4 : ps.length ≤ 4) (h3 : ws.length ≤ 3) (h6 : cs.length ≤ 6) (HA : ws.any (fun l => decide (8 < l.length)) = false) (hne1 : ¬ ps = []) (hne2 : ¬ ws = []) (HB : ps.any (fun r => !Pl.partB r) = false) (hf1 : 1 ≤ fr) (hfr2 : fr ≤ 4096) :
    Pl.check ⟨ps, fr, ws, cs⟩ = if Pl.winsE ps.length fr ws ≠ 0 then Pl.winsE ps.length fr ws else if cs.any (fun r => !Pl.chanB ps.length r) = true then 1 else 0 := by
  unfold Pl.check
  rw [if_neg (by simp only [HA]; simp; omega), if_neg (by simp [hne1, hne2]), if_neg (by simp only [HB]; simp; omega)]
/-- the head of the loop over the schedules -/
def Outer (np fr : Int) (ws : List (List (List Int))) (vp vw vc : Value) (w : World) (v : Value) (wr : World) : Prop :=
  ∃ k : Nat, k ≤ ws.length ∧ v = .int .i64 k ∧ Below w.heap.size w wr ∧ PlanCell wr w.heap.size vp fr vw vc ∧ Pl.winsE np fr ws = Pl.winsE np fr (ws.drop k)
/-- the head of the loop over a schedule's windows -/
def Inner (np fr : Int) (l : List (List Int)) (vp vw vc : Value) (w : World) (vb v : Value) (wr : World) : Prop :=
  ∃ (k : Nat) (b : Int), k ≤ l.length ∧ v = .int .i64 k ∧ vb = .int .i64 b ∧ 0 ≤ b ∧ b ≤ fr ∧ Below w.heap.size w wr ∧ PlanCell wr w.heap.size vp fr vw vc ∧ Pl.rowE np fr l 0 = Pl.rowE np fr (l.drop k) b

set_option maxHeartbeats 4000000 in
set_option maxRecDepth 100000 in
theorem CheckIn (w : World) (ps : List (List Int)) (fr : Int) (ws : List (List (List Int))) (cs : List (List Int)) (ap aw ac : Option Addr) (cp cw cc : Nat)
    (HP : Hid (RowsAt w 4 (.slice ap ps.length cp) ps)) (HW : Hid (WinsAt w (.slice aw ws.length cw) ws)) (HC : Hid (RowsAt w 5 (.slice ac cs.length cc) cs))
    (h4 : ps.length ≤ 4) (h3 : ws.length ≤ 3) (h6 : cs.length ≤ 6) (HA : Hid (ws.any (fun l => decide (8 < l.length)) = false)) (hne1 : ¬ ps = []) (hne2 : ¬ ws = []) (HB : Hid (ps.any (fun r => !Pl.partB r) = false)) (hfr1 : 1 ≤ fr) (hfr2 : fr ≤ 4096) :
    Calls Tryd.prog 12 #[.agg #[.slice ap ps.length cp, .int .i64 fr, .slice aw ws.length cw, .slice ac cs.length cc]] w (Gives (.int .i64 (Pl.check ⟨ps, fr, ws, cs⟩)) w) := by
  go_enter Tryd.func12, Tryd.ntmps12
  repeat' (first | (go_at_call 27; refine (contW _ _ _ (HW.out.below (by repeat (with_reducible (first | exact Below.refl _ _ | assumption | refine Below.to ?_ (by assumption) | refine below_drewN ?_ _ | refine Below.alloc ?_ (by first | (simp; done) | omega | (simp; omega) | (simp at *; omega)) _ | refine Below.setCell ?_ (by first | (simp; done) | omega | (simp; omega) | (simp at *; omega)) _ | refine Below.drew ?_))))).mono ?_; rintro e w1 ⟨rfl, hb1⟩; obtain ⟨hc1, hf1, hz1⟩ := bfacts hb1; simp at hz1; have y0 : w.heap.size < w1.heap.size := (by omega); rw [HA.out]; dsimp only) | (go_at_call 28; refine (contP _ ps _ (HP.out.below (by repeat (with_reducible (first | exact Below.refl _ _ | assumption | refine Below.to ?_ (by assumption) | refine below_drewN ?_ _ | refine Below.alloc ?_ (by first | (simp; done) | omega | (simp; omega) | (simp at *; omega)) _ | refine Below.setCell ?_ (by first | (simp; done) | omega | (simp; omega) | (simp at *; omega)) _ | refine Below.drew ?_))))).mono ?_; rintro e w2 ⟨rfl, hb2⟩; obtain ⟨hc2, hfz2, hz2'⟩ := bfacts hb2; have y1 : w.heap.size < w2.heap.size := (by omega); rw [HB.out]; dsimp only) | go_values | go_skip | go_guarded | (with_reducible (first | refine ex_then_ret ?_ | refine ex_then_exit ?_ | refine ex_then_normal ?_ | refine ex_block_ret ?_ | refine ex_block_normal ?_ | refine ex_block_same ?_ | refine ex_block_other (by decide) ?_)) | go_step | go_upon | go_quiet (fail))
  all_goals try (exfalso; rename_i hh; simp [hne1, hne2] at hh; done)
  have hPC : PlanCell w2 w.heap.size (.slice ap ps.length cp) fr (.slice aw ws.length cw) (.slice ac cs.length cc) := ⟨by omega, by go_simp, by go_simp, by go_simp, by go_simp⟩
  have hB2 : Below w.heap.size w w2 := (by repeat (with_reducible (first | exact Below.refl _ _ | assumption | refine Below.to ?_ (by assumption) | refine below_drewN ?_ _ | refine Below.alloc ?_ (by first | (simp; done) | omega | (simp; omega) | (simp at *; omega)) _ | refine Below.setCell ?_ (by first | (simp; done) | omega | (simp; omega) | (simp at *; omega)) _ | refine Below.drew ?_)))
  go_loopw [61] (fun v wr => Outer ps.length fr ws (.slice ap ps.length cp) (.slice aw ws.length cw) (.slice ac cs.length cc) w v wr) (fun v _ => ws.length - (intOf v).toNat)
  case atStart => exact ⟨0, Nat.zero_le _, rfl, hB2, hPC, by rw [List.drop_zero]⟩
  case round =>
    obtain ⟨k, hk, rfl, hb, hpc, hwe⟩ := hrel
    have HBl := Lib.hid hb
    have HPC := Lib.hid hpc
    have HWE := Lib.hid hwe
    by_cases hlt : k < ws.length
    · obtain ⟨hl0, p0, p1, p2, p3⟩ := HPC.out
      obtain ⟨a', c', hav, hn', hnil | ⟨b, off, rfl, hbl, hcell⟩⟩ := HW.out
      · rw [hnil] at hlt; exact absurd hlt (Nat.not_lt_zero _)
      obtain ⟨u, hu, hrow⟩ := hcell k hlt
      cases hav
      have HROW := Lib.hid hrow
      obtain ⟨a3, c3, rfl, hn3, _⟩ := hrow
      have c0 := (HBl.out.cell (p := ⟨b, off + k, none⟩) hbl).trans hu
      have HSTEP := Lib.hid (fun h => (hwe.trans (winsE_step hlt h) : Pl.winsE ps.length fr ws = _))
      have HSTOP := Lib.hid (fun h => (hwe.trans (winsE_stop hlt h) : Pl.winsE ps.length fr ws = _))
      clear hcell hu hwe hb hpc
      generalize ws.getD k [] = row at *
      repeat' (first | go_values | go_skip | go_guarded | (with_reducible (first | refine ex_then_ret ?_ | refine ex_then_exit ?_ | refine ex_then_normal ?_ | refine ex_block_ret ?_ | refine ex_block_normal ?_ | refine ex_block_same ?_ | refine ex_block_other (by decide) ?_)) | go_step | go_upon | go_quiet (fail))
      obtain ⟨wo, rfl⟩ : ∃ wo : World, wo = wr := ⟨_, rfl⟩
      go_loopw [6, 67] (fun vb v wi => Inner ps.length fr row (.slice ap ps.length cp) (.slice (some ⟨b, off, none⟩) ws.length cw) (.slice ac cs.length cc) w vb v wi) (fun _ v _ => row.length - (intOf v).toNat)
      case atStart => exact ⟨0, 0, Nat.zero_le _, rfl, rfl, Int.le_refl _, by omega, HBl.out, HPC.out, by rw [List.drop_zero]⟩
      case round =>
        obtain ⟨j, bh, hj, rfl, rfl, hb0, hbf, hbi, hpi, hre⟩ := hrel
        have HBI := Lib.hid hbi
        have HPI := Lib.hid hpi
        obtain ⟨hl1, q0, q1, q2, q3⟩ := hpi
        by_cases hjl : j < row.length
        · obtain ⟨a4, c4, hav, hn4, hnil | ⟨b3, off3, rfl, hbl3, hcell3⟩⟩ := HROW.out
          · rw [hnil] at hjl; exact absurd hjl (Nat.not_lt_zero _)
          cases hav
          have at_ := fun i hi => (HBI.out.cell (p := ⟨b3, off3 + j * 3 + i, none⟩) hbl3).trans (hcell3 j i hjl hi)
          have d0 := at_ 0 (by omega)
          have d1 := at_ 1 (by omega)
          have d2 := at_ 2 (by omega)
          rw [Nat.add_zero] at d0
          have HNEXT := Lib.hid (fun h => (hre.trans (rowE_step hjl h) : Pl.rowE ps.length fr row 0 = _))
          have HHALT := Lib.hid (fun h => (hre.trans (rowE_stop hjl h) : Pl.rowE ps.length fr row 0 = _))
          clear at_ hcell3 hbi hre
          generalize row.getD j [] = r at *
          repeat' (first | go_values | go_skip | go_guarded | (with_reducible (first | refine ex_then_ret ?_ | refine ex_then_exit ?_ | refine ex_then_normal ?_ | refine ex_block_ret ?_ | refine ex_block_normal ?_ | refine ex_block_same ?_ | refine ex_block_other (by decide) ?_)) | go_step | go_upon | go_quiet (fail))
          by_cases hw0 : Pl.winE ps.length fr r bh = 0
          · have hend := winE_end hw0
            refine (window ap ps.length cp fr (Pl.g r 0) (Pl.g r 1) (Pl.g r 2) bh _ _ _ (by omega) (by omega)).mono ?_
            rintro e w5 ⟨rfl, hb5⟩
            obtain ⟨hc5, hfz5, hz5⟩ := bfacts hb5
            simp at hz5
            have y5 : w.heap.size < w5.heap.size := by omega
            have y6 : wr.heap.size < w5.heap.size := by omega
            rw [show Pl.winE ps.length fr [Pl.g r 0, Pl.g r 1, Pl.g r 2] bh = Pl.winE ps.length fr r bh from rfl, hw0]
            have hsum1 : -9223372036854775808 ≤ Pl.g r 1 + Pl.g r 2 := by omega
            have hsum2 : Pl.g r 1 + Pl.g r 2 ≤ 9223372036854775807 := by omega
            dsimp only
            repeat' (first | go_values | go_skip | go_guarded | (with_reducible (first | refine ex_then_ret ?_ | refine ex_then_exit ?_ | refine ex_then_normal ?_ | refine ex_block_ret ?_ | refine ex_block_normal ?_ | refine ex_block_same ?_ | refine ex_block_other (by decide) ?_)) | go_step | go_upon | go_quiet (fail))
            have hB := HBI.out
            exact ⟨⟨j + 1, _, by omega, by go_num, rfl, by omega, by omega, (by repeat (with_reducible (first | exact Below.refl _ _ | assumption | refine Below.to ?_ (by assumption) | refine below_drewN ?_ _ | refine Below.alloc ?_ (by first | (simp; done) | omega | (simp; omega) | (simp at *; omega)) _ | refine Below.setCell ?_ (by first | (simp; done) | omega | (simp; omega) | (simp at *; omega)) _ | refine Below.drew ?_))), HPI.out.below (by repeat (with_reducible (first | exact Below.refl _ _ | assumption | refine Below.to ?_ (by assumption) | refine below_drewN ?_ _ | refine Below.alloc ?_ (by first | (simp; done) | omega | (simp; omega) | (simp at *; omega)) _ | refine Below.setCell ?_ (by first | (simp; done) | omega | (simp; omega) | (simp at *; omega)) _ | refine Below.drew ?_))), HNEXT.out hw0⟩, by simp [intOf]; omega⟩
          · refine (window ap ps.length cp fr (Pl.g r 0) (Pl.g r 1) (Pl.g r 2) bh _ _ _ (by omega) (by omega)).mono ?_
            rintro e w5 ⟨rfl, hb5⟩
            obtain ⟨hc5, hfz5, hz5⟩ := bfacts hb5
            simp at hz5
            have y5 : w.heap.size < w5.heap.size := by omega
            have y6 : wr.heap.size < w5.heap.size := by omega
            rw [show Pl.winE ps.length fr [Pl.g r 0, Pl.g r 1, Pl.g r 2] bh = Pl.winE ps.length fr r bh from rfl]
            have hans : Pl.check ⟨ps, fr, ws, cs⟩ = Pl.winE ps.length fr r bh := by
              have t1 := HHALT.out hw0
              have t2 := HSTOP.out (by rw [t1]; exact hw0)
              rw [check_mid h4 h3 h6 HA.out hne1 hne2 HB.out hfr1 hfr2, t2, t1, if_pos hw0]
            have hee : ¬ Pl.winE ps.length fr r bh = 0 := hw0
            generalize Pl.winE ps.length fr r bh = ee at *
            dsimp only
            repeat' (first | go_values | go_skip | go_guarded | (with_reducible (first | refine ex_then_ret ?_ | refine ex_then_exit ?_ | refine ex_then_normal ?_ | refine ex_block_ret ?_ | refine ex_block_normal ?_ | refine ex_block_same ?_ | refine ex_block_other (by decide) ?_)) | go_step | go_upon | go_quiet (fail))
            go_ret
            have hB := HBI.out
            exact gives_int hans.symm (by repeat (with_reducible (first | exact Below.refl _ _ | assumption | refine Below.to ?_ (by assumption) | refine below_drewN ?_ _ | refine Below.alloc ?_ (by first | (simp; done) | omega | (simp; omega) | (simp at *; omega)) _ | refine Below.setCell ?_ (by first | (simp; done) | omega | (simp; omega) | (simp at *; omega)) _ | refine Below.drew ?_)))
        · repeat' (first | go_values | go_skip | go_guarded | (with_reducible (first | refine ex_then_ret ?_ | refine ex_then_exit ?_ | refine ex_then_normal ?_ | refine ex_block_ret ?_ | refine ex_block_normal ?_ | refine ex_block_same ?_ | refine ex_block_other (by decide) ?_)) | go_step | go_upon | go_quiet (fail))
          have hB := HBI.out
          exact ⟨⟨k + 1, by omega, by go_num, (by repeat (with_reducible (first | exact Below.refl _ _ | assumption | refine Below.to ?_ (by assumption) | refine below_drewN ?_ _ | refine Below.alloc ?_ (by first | (simp; done) | omega | (simp; omega) | (simp at *; omega)) _ | refine Below.setCell ?_ (by first | (simp; done) | omega | (simp; omega) | (simp at *; omega)) _ | refine Below.drew ?_))), HPI.out.below (by repeat (with_reducible (first | exact Below.refl _ _ | assumption | refine Below.to ?_ (by assumption) | refine below_drewN ?_ _ | refine Below.alloc ?_ (by first | (simp; done) | omega | (simp; omega) | (simp at *; omega)) _ | refine Below.setCell ?_ (by first | (simp; done) | omega | (simp; omega) | (simp at *; omega)) _ | refine Below.drew ?_))), HSTEP.out (by rw [hre, List.drop_of_length_le (by omega)]; rfl)⟩, by simp [intOf]; omega⟩
    · obtain ⟨hl0, p0, p1, p2, p3⟩ := HPC.out
      have hw0 : Pl.winsE ps.length fr ws = 0 := by rw [hwe, List.drop_of_length_le (by omega)]; rfl
      have hans := check_mid (cs := cs) h4 h3 h6 HA.out hne1 hne2 HB.out hfr1 hfr2
      rw [if_neg (by rw [hw0]; simp)] at hans
      have HANS := Lib.hid hans
      have hB := hb
      clear hans hw0 hwe
      cases hC : cs.any (fun r => !Pl.chanB ps.length r)
      all_goals
        have HCC := Lib.hid hC
        clear hC
        repeat' (first | (go_at_call 32; refine (contC w.heap.size ap ps.length cp fr aw ac ws.length cs.length cw cc (by omega) _ cs _ (HPC.out.below (by repeat (with_reducible (first | exact Below.refl _ _ | assumption | refine Below.to ?_ (by assumption) | refine below_drewN ?_ _ | refine Below.alloc ?_ (by first | (simp; done) | omega | (simp; omega) | (simp at *; omega)) _ | refine Below.setCell ?_ (by first | (simp; done) | omega | (simp; omega) | (simp at *; omega)) _ | refine Below.drew ?_)))) (HC.out.below (by repeat (with_reducible (first | exact Below.refl _ _ | assumption | refine Below.to ?_ (by assumption) | refine below_drewN ?_ _ | refine Below.alloc ?_ (by first | (simp; done) | omega | (simp; omega) | (simp at *; omega)) _ | refine Below.setCell ?_ (by first | (simp; done) | omega | (simp; omega) | (simp at *; omega)) _ | refine Below.drew ?_))))).mono ?_; rintro e w5 ⟨rfl, hb5⟩; rw [HCC.out]; dsimp only) | go_values | go_skip | go_guarded | (with_reducible (first | refine ex_then_ret ?_ | refine ex_then_exit ?_ | refine ex_then_normal ?_ | refine ex_block_ret ?_ | refine ex_block_normal ?_ | refine ex_block_same ?_ | refine ex_block_other (by decide) ?_)) | go_step | go_upon | go_quiet (fail))
        go_ret
        exact gives_int (by rw [HANS.out, HCC.out]; rfl) (by repeat (with_reducible (first | exact Below.refl _ _ | assumption | refine Below.to ?_ (by assumption) | refine below_drewN ?_ _ | refine Below.alloc ?_ (by first | (simp; done) | omega | (simp; omega) | (simp at *; omega)) _ | refine Below.setCell ?_ (by first | (simp; done) | omega | (simp; omega) | (simp at *; omega)) _ | refine Below.drew ?_)))
end Plan
end Go.Proofs.YtiggoojjefmcoaaDoor
