/- transomref05.Same: are two plans the same? No condition. -/
import Derived.Test.YtiggoojjefmcoaaDoorPlanEq
import Derived.Test.YtiggoojjefmcoaaDoorPlanWalkB
import Derived.WalkKit
import Derived.WalkSpells
import Derived.WalkLawsBesides
import Derived.Lib.Hide
import Derived.BigQuiet
import Derived.Deep.QuietTactic

set_option linter.unusedVariables false
set_option linter.unusedSimpArgs false
namespace Go.Proofs.YtiggoojjefmcoaaDoor
open Go.RowKit
namespace RfP
/-- both plans, where the call keeps them -/
structure Both (w : World) (fr : Int) (ap aw ac bp bw bc : Value) (W : World) : Prop where
  bel : Below w.heap.size w W
  a : Plan.PlanCell W w.heap.size ap fr aw ac
  b : Plan.PlanCell W (w.heap.size + 1) bp fr bw bc
theorem Both.below {w W W' : World} {fr : Int} {ap aw ac bp bw bc : Value} (h : Both w fr ap aw ac bp bw bc W) (hb : Below W.heap.size W W') : Both w fr ap aw ac bp bw bc W' :=
  ⟨h.bel.trans (hb.mono h.bel.size), h.a.below hb, h.b.below hb⟩
/-- the head of a loop that compares rows: so far they are the same -/
def AlikeB (w : World) (fr : Int) (ap aw ac bp bw bc : Value) (f : List Int → List Int) (l m : List (List Int)) (v : Value) (wr : World) : Prop := ∃ k : Nat, k ≤ l.length ∧ v = .int .i64 k ∧ Both w fr ap aw ac bp bw bc wr ∧ decide (l.map f = m.map f) = decide ((l.drop k).map f = (m.drop k).map f)
def AlikeBW (w : World) (fr : Int) (ap aw ac bp bw bc : Value) (l m : List (List (List Int))) (v : Value) (wr : World) : Prop := ∃ k : Nat, k ≤ l.length ∧ v = .int .i64 k ∧ Both w fr ap aw ac bp bw bc wr ∧ decide (l.map Plan.rW = m.map Plan.rW) = decide ((l.drop k).map Plan.rW = (m.drop k).map Plan.rW)
theorem len_no {α β : Type} [DecidableEq β] {l m : List α} (f : α → β) (h : ¬ l.length = m.length) : decide (l.map f = m.map f) = false := by
  rw [decide_eq_false_iff_not]
  intro he
  have := congrArg List.length he
  rw [List.length_map, List.length_map] at this
  exact h this
set_option maxHeartbeats 4000000 in
set_option maxRecDepth 100000 in
theorem Same (u v : Value) (P Q : Pl.Plan) (w : World) (hu : PlanAt w u P) (hv : PlanAt w v Q) :
    Calls Tryd.prog 11 #[u, v] w (Gives (.bool (Plan.sameB P Q)) w) := by
  obtain ⟨ps, fr, ws, cs⟩ := P
  obtain ⟨qs, fq, xs, ds⟩ := Q
  obtain ⟨up, uw, uc, rfl, hup, huw, huc⟩ := hu
  obtain ⟨vp, vw, vc, rfl, hvp, hvw, hvc⟩ := hv
  dsimp only at *
  have HUP := Lib.hid hup
  have HUW := Lib.hid huw
  have HUC := Lib.hid huc
  have HVP := Lib.hid hvp
  have HVW := Lib.hid hvw
  have HVC := Lib.hid hvc
  obtain ⟨a1, c1, rfl, n1, _⟩ := hup
  obtain ⟨a2, c2, rfl, n2, _⟩ := huw
  obtain ⟨a3, c3, rfl, n3, _⟩ := huc
  obtain ⟨a4, c4, rfl, n4, _⟩ := hvp
  obtain ⟨a5, c5, rfl, n5, _⟩ := hvw
  obtain ⟨a6, c6, rfl, n6, _⟩ := hvc
  by_cases hlen : qs.length = ps.length ∧ fq = fr ∧ xs.length = ws.length ∧ ds.length = cs.length
  · obtain ⟨l1, rfl, l3, l4⟩ := hlen
    go_enter Tryd.func11, Tryd.ntmps11
    repeat' (first | go_values | go_skip | go_guarded | (with_reducible (first | refine ex_then_ret ?_ | refine ex_then_exit ?_ | refine ex_then_normal ?_ | refine ex_block_ret ?_ | refine ex_block_normal ?_ | refine ex_block_same ?_ | refine ex_block_other (by decide) ?_)) | go_step | go_upon | go_quiet (fail))
    go_loopw [5] (fun v wr => AlikeB w fq (.slice a1 ps.length c1) (.slice a2 ws.length c2) (.slice a3 cs.length c3) (.slice a4 qs.length c4) (.slice a5 xs.length c5) (.slice a6 ds.length c6) Pl.r4 ps qs v wr) (fun v _ => ps.length - (intOf v).toNat)
    case atStart => exact ⟨0, Nat.zero_le _, rfl, ⟨(by repeat (with_reducible (first | exact Below.refl _ _ | assumption | refine Below.to ?_ (by assumption) | refine below_drewN ?_ _ | refine Below.alloc ?_ (by first | (simp; done) | omega | (simp; omega) | (simp at *; omega)) _ | refine Below.setCell ?_ (by first | (simp; done) | omega | (simp; omega) | (simp at *; omega)) _ | refine Below.drew ?_))), ⟨by go_simp, by go_simp, by go_simp, by go_simp, by go_simp⟩, ⟨by go_simp, by go_simp, by go_simp, by go_simp, by go_simp⟩⟩, by rw [List.drop_zero, List.drop_zero]⟩
    case round =>
      obtain ⟨k, hk, rfl, hbo, hany⟩ := hrel
      have HBO := Lib.hid hbo
      have HA := Lib.hid hany
      have HBl := Lib.hid hbo.bel
      obtain ⟨⟨hbs, _, _, _, _⟩, ⟨ha0, ha1, ha2, ha3, ha4⟩, ⟨hb0, hb1, hb2, hb3, hb4⟩⟩ := hbo
      clear hany
      by_cases hlt : k < ps.length
      · have hlt' : k < qs.length := by omega
        obtain ⟨a', c', hav, _, hnil | ⟨b, off, rfl, hbl, hcell⟩⟩ := HUP.out
        · rw [hnil] at hlt; exact absurd hlt (Nat.not_lt_zero _)
        obtain ⟨a'', c'', hav', _, hnil | ⟨b', off', rfl, hbl', hcell'⟩⟩ := HVP.out
        · rw [hnil] at hlt'; exact absurd hlt' (Nat.not_lt_zero _)
        cases hav
        cases hav'
        have at_ := fun i hi => (HBl.out.cell (p := ⟨b, off + k * 4 + i, none⟩) hbl).trans (hcell k i hlt hi)
        have at' := fun i hi => (HBl.out.cell (p := ⟨b', off' + k * 4 + i, none⟩) hbl').trans (hcell' k i hlt' hi)
        have d0 := at_ 0 (by omega)
        have e0 := at' 0 (by omega)
        have d1 := at_ 1 (by omega)
        have e1 := at' 1 (by omega)
        have d2 := at_ 2 (by omega)
        have e2 := at' 2 (by omega)
        have d3 := at_ 3 (by omega)
        have e3 := at' 3 (by omega)
        rw [Nat.add_zero] at d0 e0
        have HE := Lib.hid (Plan.eq_drop (f := Pl.r4) hlt hlt' HA.out)
        have HN := Lib.hid (Plan.ne_drop (f := Pl.r4) hlt hlt' HA.out)
        clear at_ at' hcell hcell'
        generalize ps.getD k [] = r at *
        generalize qs.getD k [] = t at *
        by_cases he : Pl.r4 r = Pl.r4 t
        · have hd : decide ([Pl.g r 0, Pl.g r 1, Pl.g r 2, Pl.g r 3] = [Pl.g t 0, Pl.g t 1, Pl.g t 2, Pl.g t 3]) = true := decide_eq_true he
          have hq := fun W => neqPart W (Pl.g r 0) (Pl.g r 1) (Pl.g r 2) (Pl.g r 3) (Pl.g t 0) (Pl.g t 1) (Pl.g t 2) (Pl.g t 3)
          rw [hd] at hq
          have HX := Lib.hid (HE.out he)
          clear hd he
          repeat' (first | go_values | go_skip | go_guarded | (with_reducible (first | refine ex_then_ret ?_ | refine ex_then_exit ?_ | refine ex_then_normal ?_ | refine ex_block_ret ?_ | refine ex_block_normal ?_ | refine ex_block_same ?_ | refine ex_block_other (by decide) ?_)) | go_step | go_upon | go_quiet (fail))
          exact ⟨⟨k + 1, by omega, by go_num, HBO.out.below (by repeat (with_reducible (first | exact Below.refl _ _ | assumption | refine Below.to ?_ (by assumption) | refine below_drewN ?_ _ | refine Below.alloc ?_ (by first | (simp; done) | omega | (simp; omega) | (simp at *; omega)) _ | refine Below.setCell ?_ (by first | (simp; done) | omega | (simp; omega) | (simp at *; omega)) _ | refine Below.drew ?_))), HX.out⟩, by simp [intOf]; omega⟩
        · have hd : decide ([Pl.g r 0, Pl.g r 1, Pl.g r 2, Pl.g r 3] = [Pl.g t 0, Pl.g t 1, Pl.g t 2, Pl.g t 3]) = false := decide_eq_false he
          have hq := fun W => neqPart W (Pl.g r 0) (Pl.g r 1) (Pl.g r 2) (Pl.g r 3) (Pl.g t 0) (Pl.g t 1) (Pl.g t 2) (Pl.g t 3)
          rw [hd] at hq
          have HX := Lib.hid (HN.out he)
          clear hd he
          repeat' (first | go_values | go_skip | go_guarded | (with_reducible (first | refine ex_then_ret ?_ | refine ex_then_exit ?_ | refine ex_then_normal ?_ | refine ex_block_ret ?_ | refine ex_block_normal ?_ | refine ex_block_same ?_ | refine ex_block_other (by decide) ?_)) | go_step | go_upon | go_quiet (fail))
          go_ret
          have hB := HBl.out
          exact gives_bool (by simp [Plan.sameB, HX.out]) (by repeat (with_reducible (first | exact Below.refl _ _ | assumption | refine Below.to ?_ (by assumption) | refine below_drewN ?_ _ | refine Below.alloc ?_ (by first | (simp; done) | omega | (simp; omega) | (simp at *; omega)) _ | refine Below.setCell ?_ (by first | (simp; done) | omega | (simp; omega) | (simp at *; omega)) _ | refine Below.drew ?_)))
      · have K1 := Lib.hid (show decide (ps.map Pl.r4 = qs.map Pl.r4) = true by rw [HA.out, List.drop_of_length_le (by omega), List.drop_of_length_le (by omega)]; simp)
        clear HA
        repeat' (first | go_values | go_skip | go_guarded | (with_reducible (first | refine ex_then_ret ?_ | refine ex_then_exit ?_ | refine ex_then_normal ?_ | refine ex_block_ret ?_ | refine ex_block_normal ?_ | refine ex_block_same ?_ | refine ex_block_other (by decide) ?_)) | go_step | go_upon | go_quiet (fail))
        go_loopw [6] (fun v wr => AlikeBW w fq (.slice a1 ps.length c1) (.slice a2 ws.length c2) (.slice a3 cs.length c3) (.slice a4 qs.length c4) (.slice a5 xs.length c5) (.slice a6 ds.length c6) ws xs v wr) (fun v _ => ws.length - (intOf v).toNat)
        case atStart => exact ⟨0, Nat.zero_le _, rfl, HBO.out, by rw [List.drop_zero, List.drop_zero]⟩
        case round =>
          obtain ⟨k, hk, rfl, hbo, hany⟩ := hrel
          clear HBO
          have HBO := Lib.hid hbo
          have HA := Lib.hid hany
          have HBl := Lib.hid hbo.bel
          obtain ⟨⟨hbs, _, _, _, _⟩, ⟨ha0, ha1, ha2, ha3, ha4⟩, ⟨hb0, hb1, hb2, hb3, hb4⟩⟩ := hbo
          clear hany
          by_cases hlt : k < ws.length
          · have hlt' : k < xs.length := by omega
            obtain ⟨a', c', hav, _, hnil | ⟨b, off, rfl, hbl, hcell⟩⟩ := HUW.out
            · rw [hnil] at hlt; exact absurd hlt (Nat.not_lt_zero _)
            obtain ⟨a'', c'', hav', _, hnil | ⟨b', off', rfl, hbl', hcell'⟩⟩ := HVW.out
            · rw [hnil] at hlt'; exact absurd hlt' (Nat.not_lt_zero _)
            cases hav
            cases hav'
            obtain ⟨u, hu, hrow⟩ := hcell k hlt
            obtain ⟨u', hu', hrow'⟩ := hcell' k hlt'
            have HR := Lib.hid hrow
            have HR' := Lib.hid hrow'
            obtain ⟨ra, rc, rfl, nr, _⟩ := hrow
            obtain ⟨ra', rc', rfl, nr', _⟩ := hrow'
            have HCU := Lib.hid hu
            have HCU' := Lib.hid hu'
            have cu := (HBl.out.cell (p := ⟨b, off + k, none⟩) hbl).trans hu
            have cu' := (HBl.out.cell (p := ⟨b', off' + k, none⟩) hbl').trans hu'
            have HE := Lib.hid (Plan.eq_dropW hlt hlt' HA.out)
            have HN := Lib.hid (Plan.ne_dropW hlt hlt' HA.out)
            clear hcell hcell' hu hu'
            generalize ws.getD k [] = row at *
            generalize xs.getD k [] = rox at *
            by_cases hrl : row.length = rox.length
            · have hrlI : (rox.length : Int) = row.length := by omega
              repeat' (first | go_values | go_skip | go_guarded | (with_reducible (first | refine ex_then_ret ?_ | refine ex_then_exit ?_ | refine ex_then_normal ?_ | refine ex_block_ret ?_ | refine ex_block_normal ?_ | refine ex_block_same ?_ | refine ex_block_other (by decide) ?_)) | go_step | go_upon | go_quiet (fail))
              clear cu cu' ha0 ha1 ha2 ha3 ha4 hb0 hb1 hb2 hb3 hb4 hbs
              obtain ⟨wo, rfl⟩ : ∃ wo : World, wo = wr := ⟨_, rfl⟩
              have HBO2 := HBO
              go_loopw [7] (fun v wi => AlikeB w fq (.slice a1 ps.length c1) (.slice (some ⟨b, off, none⟩) ws.length c2) (.slice a3 cs.length c3) (.slice a4 qs.length c4) (.slice (some ⟨b', off', none⟩) xs.length c5) (.slice a6 ds.length c6) Pl.r3 row rox v wi) (fun v _ => row.length - (intOf v).toNat)
              case atStart => exact ⟨0, Nat.zero_le _, rfl, HBO2.out.below (by repeat (with_reducible (first | exact Below.refl _ _ | assumption | refine Below.to ?_ (by assumption) | refine below_drewN ?_ _ | refine Below.alloc ?_ (by first | (simp; done) | omega | (simp; omega) | (simp at *; omega)) _ | refine Below.setCell ?_ (by first | (simp; done) | omega | (simp; omega) | (simp at *; omega)) _ | refine Below.drew ?_))), by rw [List.drop_zero, List.drop_zero]⟩
              case round =>
                obtain ⟨j, hj, rfl, hbo, hany⟩ := hrel
                clear HBO HBl HA
                have HBO := Lib.hid hbo
                have HA := Lib.hid hany
                have HBl := Lib.hid hbo.bel
                obtain ⟨⟨hbs, _, _, _, _⟩, ⟨ha0, ha1, ha2, ha3, ha4⟩, ⟨hb0, hb1, hb2, hb3, hb4⟩⟩ := hbo
                have cu := (HBl.out.cell (p := ⟨b, off + k, none⟩) hbl).trans HCU.out
                have cu' := (HBl.out.cell (p := ⟨b', off' + k, none⟩) hbl').trans HCU'.out
                clear hany
                by_cases hjt : j < row.length
                · have hjt' : j < rox.length := by omega
                  obtain ⟨e', f', hav, _, hnil | ⟨g, og, rfl, hgl, hcell⟩⟩ := HR.out
                  · rw [hnil] at hjt; exact absurd hjt (Nat.not_lt_zero _)
                  obtain ⟨e'', f'', hav', _, hnil | ⟨g', og', rfl, hgl', hcell'⟩⟩ := HR'.out
                  · rw [hnil] at hjt'; exact absurd hjt' (Nat.not_lt_zero _)
                  cases hav
                  cases hav'
                  have at_ := fun i hi => (HBl.out.cell (p := ⟨g, og + j * 3 + i, none⟩) hgl).trans (hcell j i hjt hi)
                  have at' := fun i hi => (HBl.out.cell (p := ⟨g', og' + j * 3 + i, none⟩) hgl').trans (hcell' j i hjt' hi)
                  have d0 := at_ 0 (by omega)
                  have e0 := at' 0 (by omega)
                  have d1 := at_ 1 (by omega)
                  have e1 := at' 1 (by omega)
                  have d2 := at_ 2 (by omega)
                  have e2 := at' 2 (by omega)
                  rw [Nat.add_zero] at d0 e0
                  have HE2 := Lib.hid (Plan.eq_drop (f := Pl.r3) hjt hjt' HA.out)
                  have HN2 := Lib.hid (Plan.ne_drop (f := Pl.r3) hjt hjt' HA.out)
                  clear at_ at' hcell hcell'
                  generalize row.getD j [] = r at *
                  generalize rox.getD j [] = t at *
                  by_cases he : Pl.r3 r = Pl.r3 t
                  · have hd : decide ([Pl.g r 0, Pl.g r 1, Pl.g r 2] = [Pl.g t 0, Pl.g t 1, Pl.g t 2]) = true := decide_eq_true he
                    have hq := fun W => neqWin W (Pl.g r 0) (Pl.g r 1) (Pl.g r 2) (Pl.g t 0) (Pl.g t 1) (Pl.g t 2)
                    rw [hd] at hq
                    have HX := Lib.hid (HE2.out he)
                    clear hd he
                    repeat' (first | go_values | go_skip | go_guarded | (with_reducible (first | refine ex_then_ret ?_ | refine ex_then_exit ?_ | refine ex_then_normal ?_ | refine ex_block_ret ?_ | refine ex_block_normal ?_ | refine ex_block_same ?_ | refine ex_block_other (by decide) ?_)) | go_step | go_upon | go_quiet (fail))
                    exact ⟨⟨j + 1, by omega, by go_num, HBO.out.below (by repeat (with_reducible (first | exact Below.refl _ _ | assumption | refine Below.to ?_ (by assumption) | refine below_drewN ?_ _ | refine Below.alloc ?_ (by first | (simp; done) | omega | (simp; omega) | (simp at *; omega)) _ | refine Below.setCell ?_ (by first | (simp; done) | omega | (simp; omega) | (simp at *; omega)) _ | refine Below.drew ?_))), HX.out⟩, by simp [intOf]; omega⟩
                  · have hd : decide ([Pl.g r 0, Pl.g r 1, Pl.g r 2] = [Pl.g t 0, Pl.g t 1, Pl.g t 2]) = false := decide_eq_false he
                    have hq := fun W => neqWin W (Pl.g r 0) (Pl.g r 1) (Pl.g r 2) (Pl.g t 0) (Pl.g t 1) (Pl.g t 2)
                    rw [hd] at hq
                    have HX := Lib.hid (HN2.out he)
                    clear hd he
                    repeat' (first | go_values | go_skip | go_guarded | (with_reducible (first | refine ex_then_ret ?_ | refine ex_then_exit ?_ | refine ex_then_normal ?_ | refine ex_block_ret ?_ | refine ex_block_normal ?_ | refine ex_block_same ?_ | refine ex_block_other (by decide) ?_)) | go_step | go_upon | go_quiet (fail))
                    go_ret
                    have hB := HBl.out
                    exact gives_bool (by simp [Plan.sameB, HN.out (show ¬ Plan.rW row = Plan.rW rox from fun h => by have := HX.out; rw [decide_eq_false_iff_not] at this; exact this h)]) (by repeat (with_reducible (first | exact Below.refl _ _ | assumption | refine Below.to ?_ (by assumption) | refine below_drewN ?_ _ | refine Below.alloc ?_ (by first | (simp; done) | omega | (simp; omega) | (simp at *; omega)) _ | refine Below.setCell ?_ (by first | (simp; done) | omega | (simp; omega) | (simp at *; omega)) _ | refine Below.drew ?_)))
                · have HX := Lib.hid (HE.out (show Plan.rW row = Plan.rW rox by
                    have := HA.out
                    rw [List.drop_of_length_le (by omega), List.drop_of_length_le (by omega)] at this
                    exact of_decide_eq_true (this.trans (by simp))))
                  repeat' (first | go_values | go_skip | go_guarded | (with_reducible (first | refine ex_then_ret ?_ | refine ex_then_exit ?_ | refine ex_then_normal ?_ | refine ex_block_ret ?_ | refine ex_block_normal ?_ | refine ex_block_same ?_ | refine ex_block_other (by decide) ?_)) | go_step | go_upon | go_quiet (fail))
                  exact ⟨⟨k + 1, by omega, by go_num, HBO.out.below (by repeat (with_reducible (first | exact Below.refl _ _ | assumption | refine Below.to ?_ (by assumption) | refine below_drewN ?_ _ | refine Below.alloc ?_ (by first | (simp; done) | omega | (simp; omega) | (simp at *; omega)) _ | refine Below.setCell ?_ (by first | (simp; done) | omega | (simp; omega) | (simp at *; omega)) _ | refine Below.drew ?_))), HX.out⟩, by simp [intOf]; omega⟩
            · have hrlI : ¬ (row.length : Int) = rox.length := by omega
              have HX := Lib.hid (HN.out (show ¬ Plan.rW row = Plan.rW rox from fun h => hrl (by have := congrArg List.length h; rw [Plan.rW, Plan.rW, List.length_map, List.length_map] at this; exact this)))
              repeat' (first | go_values | go_skip | go_guarded | (with_reducible (first | refine ex_then_ret ?_ | refine ex_then_exit ?_ | refine ex_then_normal ?_ | refine ex_block_ret ?_ | refine ex_block_normal ?_ | refine ex_block_same ?_ | refine ex_block_other (by decide) ?_)) | go_step | go_upon | go_quiet (fail))
              go_ret
              have hB := HBl.out
              exact gives_bool (by simp [Plan.sameB, HX.out]) (by repeat (with_reducible (first | exact Below.refl _ _ | assumption | refine Below.to ?_ (by assumption) | refine below_drewN ?_ _ | refine Below.alloc ?_ (by first | (simp; done) | omega | (simp; omega) | (simp at *; omega)) _ | refine Below.setCell ?_ (by first | (simp; done) | omega | (simp; omega) | (simp at *; omega)) _ | refine Below.drew ?_)))
          · have K2 := Lib.hid (show decide (ws.map Plan.rW = xs.map Plan.rW) = true by rw [HA.out, List.drop_of_length_le (by omega), List.drop_of_length_le (by omega)]; simp)
            clear HA
            repeat' (first | go_values | go_skip | go_guarded | (with_reducible (first | refine ex_then_ret ?_ | refine ex_then_exit ?_ | refine ex_then_normal ?_ | refine ex_block_ret ?_ | refine ex_block_normal ?_ | refine ex_block_same ?_ | refine ex_block_other (by decide) ?_)) | go_step | go_upon | go_quiet (fail))
            go_loopw [8] (fun v wr => AlikeB w fq (.slice a1 ps.length c1) (.slice a2 ws.length c2) (.slice a3 cs.length c3) (.slice a4 qs.length c4) (.slice a5 xs.length c5) (.slice a6 ds.length c6) Pl.r5 cs ds v wr) (fun v _ => cs.length - (intOf v).toNat)
            case atStart => exact ⟨0, Nat.zero_le _, rfl, HBO.out, by rw [List.drop_zero, List.drop_zero]⟩
            case round =>
              obtain ⟨k, hk, rfl, hbo, hany⟩ := hrel
              clear HBO
              have HBO := Lib.hid hbo
              have HA := Lib.hid hany
              have HBl := Lib.hid hbo.bel
              obtain ⟨⟨hbs, _, _, _, _⟩, ⟨ha0, ha1, ha2, ha3, ha4⟩, ⟨hb0, hb1, hb2, hb3, hb4⟩⟩ := hbo
              clear hany
              by_cases hlt : k < cs.length
              · have hlt' : k < ds.length := by omega
                obtain ⟨a', c', hav, _, hnil | ⟨b, off, rfl, hbl, hcell⟩⟩ := HUC.out
                · rw [hnil] at hlt; exact absurd hlt (Nat.not_lt_zero _)
                obtain ⟨a'', c'', hav', _, hnil | ⟨b', off', rfl, hbl', hcell'⟩⟩ := HVC.out
                · rw [hnil] at hlt'; exact absurd hlt' (Nat.not_lt_zero _)
                cases hav
                cases hav'
                have at_ := fun i hi => (HBl.out.cell (p := ⟨b, off + k * 5 + i, none⟩) hbl).trans (hcell k i hlt hi)
                have at' := fun i hi => (HBl.out.cell (p := ⟨b', off' + k * 5 + i, none⟩) hbl').trans (hcell' k i hlt' hi)
                have d0 := at_ 0 (by omega)
                have e0 := at' 0 (by omega)
                have d1 := at_ 1 (by omega)
                have e1 := at' 1 (by omega)
                have d2 := at_ 2 (by omega)
                have e2 := at' 2 (by omega)
                have d3 := at_ 3 (by omega)
                have e3 := at' 3 (by omega)
                have d4 := at_ 4 (by omega)
                have e4 := at' 4 (by omega)
                rw [Nat.add_zero] at d0 e0
                have HE := Lib.hid (Plan.eq_drop (f := Pl.r5) hlt hlt' HA.out)
                have HN := Lib.hid (Plan.ne_drop (f := Pl.r5) hlt hlt' HA.out)
                clear at_ at' hcell hcell'
                generalize cs.getD k [] = r at *
                generalize ds.getD k [] = t at *
                by_cases he : Pl.r5 r = Pl.r5 t
                · have hd : decide ([Pl.g r 0, Pl.g r 1, Pl.g r 2, Pl.g r 3, Pl.g r 4] = [Pl.g t 0, Pl.g t 1, Pl.g t 2, Pl.g t 3, Pl.g t 4]) = true := decide_eq_true he
                  have hq := fun W => neqChan W (Pl.g r 0) (Pl.g r 1) (Pl.g r 2) (Pl.g r 3) (Pl.g r 4) (Pl.g t 0) (Pl.g t 1) (Pl.g t 2) (Pl.g t 3) (Pl.g t 4)
                  rw [hd] at hq
                  have HX := Lib.hid (HE.out he)
                  clear hd he
                  repeat' (first | go_values | go_skip | go_guarded | (with_reducible (first | refine ex_then_ret ?_ | refine ex_then_exit ?_ | refine ex_then_normal ?_ | refine ex_block_ret ?_ | refine ex_block_normal ?_ | refine ex_block_same ?_ | refine ex_block_other (by decide) ?_)) | go_step | go_upon | go_quiet (fail))
                  exact ⟨⟨k + 1, by omega, by go_num, HBO.out.below (by repeat (with_reducible (first | exact Below.refl _ _ | assumption | refine Below.to ?_ (by assumption) | refine below_drewN ?_ _ | refine Below.alloc ?_ (by first | (simp; done) | omega | (simp; omega) | (simp at *; omega)) _ | refine Below.setCell ?_ (by first | (simp; done) | omega | (simp; omega) | (simp at *; omega)) _ | refine Below.drew ?_))), HX.out⟩, by simp [intOf]; omega⟩
                · have hd : decide ([Pl.g r 0, Pl.g r 1, Pl.g r 2, Pl.g r 3, Pl.g r 4] = [Pl.g t 0, Pl.g t 1, Pl.g t 2, Pl.g t 3, Pl.g t 4]) = false := decide_eq_false he
                  have hq := fun W => neqChan W (Pl.g r 0) (Pl.g r 1) (Pl.g r 2) (Pl.g r 3) (Pl.g r 4) (Pl.g t 0) (Pl.g t 1) (Pl.g t 2) (Pl.g t 3) (Pl.g t 4)
                  rw [hd] at hq
                  have HX := Lib.hid (HN.out he)
                  clear hd he
                  repeat' (first | go_values | go_skip | go_guarded | (with_reducible (first | refine ex_then_ret ?_ | refine ex_then_exit ?_ | refine ex_then_normal ?_ | refine ex_block_ret ?_ | refine ex_block_normal ?_ | refine ex_block_same ?_ | refine ex_block_other (by decide) ?_)) | go_step | go_upon | go_quiet (fail))
                  go_ret
                  have hB := HBl.out
                  exact gives_bool (by simp [Plan.sameB, HX.out]) (by repeat (with_reducible (first | exact Below.refl _ _ | assumption | refine Below.to ?_ (by assumption) | refine below_drewN ?_ _ | refine Below.alloc ?_ (by first | (simp; done) | omega | (simp; omega) | (simp at *; omega)) _ | refine Below.setCell ?_ (by first | (simp; done) | omega | (simp; omega) | (simp at *; omega)) _ | refine Below.drew ?_)))
              · have K3 := Lib.hid (show decide (cs.map Pl.r5 = ds.map Pl.r5) = true by rw [HA.out, List.drop_of_length_le (by omega), List.drop_of_length_le (by omega)]; simp)
                clear HA
                repeat' (first | go_values | go_skip | go_guarded | (with_reducible (first | refine ex_then_ret ?_ | refine ex_then_exit ?_ | refine ex_then_normal ?_ | refine ex_block_ret ?_ | refine ex_block_normal ?_ | refine ex_block_same ?_ | refine ex_block_other (by decide) ?_)) | go_step | go_upon | go_quiet (fail))
                go_ret
                have hB := HBl.out
                exact gives_bool (by simp [Plan.sameB, K1.out, K2.out, K3.out]) (by repeat (with_reducible (first | exact Below.refl _ _ | assumption | refine Below.to ?_ (by assumption) | refine below_drewN ?_ _ | refine Below.alloc ?_ (by first | (simp; done) | omega | (simp; omega) | (simp at *; omega)) _ | refine Below.setCell ?_ (by first | (simp; done) | omega | (simp; omega) | (simp at *; omega)) _ | refine Below.drew ?_)))
  · have HNO := Lib.hid (show Plan.sameB ⟨ps, fr, ws, cs⟩ ⟨qs, fq, xs, ds⟩ = false by
      simp only [Plan.sameB, Bool.and_eq_false_iff]
      by_cases l1 : ps.length = qs.length
      · by_cases l2 : fr = fq
        · by_cases l3 : ws.length = xs.length
          · exact .inr (.inr (.inr (len_no Pl.r5 (fun l4 => hlen ⟨l1.symm, l2.symm, l3.symm, l4.symm⟩))))
          · exact .inr (.inr (.inl (len_no Plan.rW l3)))
        · exact .inr (.inl (decide_eq_false l2))
      · exact .inl (len_no Pl.r4 l1))
    by_cases l1 : qs.length = ps.length
    · by_cases l2 : fr = fq
      · by_cases l3 : xs.length = ws.length
        · have l4 : ¬ (cs.length : Int) = ds.length := fun h => hlen ⟨l1, l2.symm, l3, by omega⟩
          clear hlen
          go_enter Tryd.func11, Tryd.ntmps11
          repeat' (first | go_values | go_skip | go_guarded | (with_reducible (first | refine ex_then_ret ?_ | refine ex_then_exit ?_ | refine ex_then_normal ?_ | refine ex_block_ret ?_ | refine ex_block_normal ?_ | refine ex_block_same ?_ | refine ex_block_other (by decide) ?_)) | go_step | go_upon | go_quiet (fail))
          all_goals go_ret
          all_goals exact gives_bool HNO.out.symm (by repeat (with_reducible (first | exact Below.refl _ _ | assumption | refine Below.to ?_ (by assumption) | refine below_drewN ?_ _ | refine Below.alloc ?_ (by first | (simp; done) | omega | (simp; omega) | (simp at *; omega)) _ | refine Below.setCell ?_ (by first | (simp; done) | omega | (simp; omega) | (simp at *; omega)) _ | refine Below.drew ?_)))
        · have l3' : ¬ (ws.length : Int) = xs.length := by omega
          clear hlen
          go_enter Tryd.func11, Tryd.ntmps11
          repeat' (first | go_values | go_skip | go_guarded | (with_reducible (first | refine ex_then_ret ?_ | refine ex_then_exit ?_ | refine ex_then_normal ?_ | refine ex_block_ret ?_ | refine ex_block_normal ?_ | refine ex_block_same ?_ | refine ex_block_other (by decide) ?_)) | go_step | go_upon | go_quiet (fail))
          all_goals go_ret
          all_goals exact gives_bool HNO.out.symm (by repeat (with_reducible (first | exact Below.refl _ _ | assumption | refine Below.to ?_ (by assumption) | refine below_drewN ?_ _ | refine Below.alloc ?_ (by first | (simp; done) | omega | (simp; omega) | (simp at *; omega)) _ | refine Below.setCell ?_ (by first | (simp; done) | omega | (simp; omega) | (simp at *; omega)) _ | refine Below.drew ?_)))
      · clear hlen
        go_enter Tryd.func11, Tryd.ntmps11
        repeat' (first | go_values | go_skip | go_guarded | (with_reducible (first | refine ex_then_ret ?_ | refine ex_then_exit ?_ | refine ex_then_normal ?_ | refine ex_block_ret ?_ | refine ex_block_normal ?_ | refine ex_block_same ?_ | refine ex_block_other (by decide) ?_)) | go_step | go_upon | go_quiet (fail))
        all_goals go_ret
        all_goals exact gives_bool HNO.out.symm (by repeat (with_reducible (first | exact Below.refl _ _ | assumption | refine Below.to ?_ (by assumption) | refine below_drewN ?_ _ | refine Below.alloc ?_ (by first | (simp; done) | omega | (simp; omega) | (simp at *; omega)) _ | refine Below.setCell ?_ (by first | (simp; done) | omega | (simp; omega) | (simp at *; omega)) _ | refine Below.drew ?_)))
    · have l1' : ¬ (ps.length : Int) = qs.length := by omega
      clear hlen
      go_enter Tryd.func11, Tryd.ntmps11
      repeat' (first | go_values | go_skip | go_guarded | (with_reducible (first | refine ex_then_ret ?_ | refine ex_then_exit ?_ | refine ex_then_normal ?_ | refine ex_block_ret ?_ | refine ex_block_normal ?_ | refine ex_block_same ?_ | refine ex_block_other (by decide) ?_)) | go_step | go_upon | go_quiet (fail))
      all_goals go_ret
      all_goals exact gives_bool HNO.out.symm (by repeat (with_reducible (first | exact Below.refl _ _ | assumption | refine Below.to ?_ (by assumption) | refine below_drewN ?_ _ | refine Below.alloc ?_ (by first | (simp; done) | omega | (simp; omega) | (simp at *; omega)) _ | refine Below.setCell ?_ (by first | (simp; done) | omega | (simp; omega) | (simp at *; omega)) _ | refine Below.drew ?_)))
end RfP
end Go.Proofs.YtiggoojjefmcoaaDoor
