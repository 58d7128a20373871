/- slices.Equal of rows of numbers; plan.Same. No condition. -/
import Derived.Test.YtiggoojjefmcoaaDoorProg
import Derived.Test.YtiggoojjefmcoaaDoorPlanAt
import Derived.Test.YtiggoojjefmcoaaDoorPlanBytesPlain
import Derived.Test.YtiggoojjefmcoaaDoorPlanNeq
import Derived.Handy
import Derived.WalkKit
import Derived.WalkSpells
import Derived.WalkLawsBesides
import Derived.Lib.Hide
import Derived.BigQuiet
import Derived.Deep.QuietTactic

set_option linter.unusedVariables false
set_option linter.unusedSimpArgs false
namespace Go.Proofs.YtiggoojjefmcoaaDoor
open Go.RowKit
namespace Plan
/-- the head of a loop that compares: so far they are the same -/
def Alike (w : World) (f : List Int → List Int) (l m : List (List Int)) (v : Value) (wr : World) : Prop := ∃ k : Nat, k ≤ l.length ∧ v = .int .i64 k ∧ Below w.heap.size w wr ∧ decide (l.map f = m.map f) = decide ((l.drop k).map f = (m.drop k).map f)
theorem eq_drop {f : List Int → List Int} {l m : List (List Int)} {k : Nat} (hl : k < l.length) (hm : k < m.length) (h : decide (l.map f = m.map f) = decide ((l.drop k).map f = (m.drop k).map f)) (he : f (l.getD k []) = f (m.getD k [])) : decide (l.map f = m.map f) = decide ((l.drop (k + 1)).map f = (m.drop (k + 1)).map f) := by
  rw [List.getD_eq_getElem?_getD, List.getElem?_eq_getElem hl, Option.getD_some, List.getD_eq_getElem?_getD, List.getElem?_eq_getElem hm, Option.getD_some] at he
  rw [h, List.drop_eq_getElem_cons hl, List.drop_eq_getElem_cons hm, List.map_cons, List.map_cons, he]
  simp only [List.cons.injEq, true_and]
theorem ne_drop {f : List Int → List Int} {l m : List (List Int)} {k : Nat} (hl : k < l.length) (hm : k < m.length) (h : decide (l.map f = m.map f) = decide ((l.drop k).map f = (m.drop k).map f)) (he : ¬ f (l.getD k []) = f (m.getD k [])) : decide (l.map f = m.map f) = false := by
  rw [List.getD_eq_getElem?_getD, List.getElem?_eq_getElem hl, Option.getD_some, List.getD_eq_getElem?_getD, List.getElem?_eq_getElem hm, Option.getD_some] at he
  rw [h, List.drop_eq_getElem_cons hl, List.drop_eq_getElem_cons hm, List.map_cons, List.map_cons]
  simp only [List.cons.injEq, he, false_and, decide_false]
set_option maxHeartbeats 4000000 in
set_option maxRecDepth 100000 in
theorem equalP (u v : Value) (l m : List (List Int)) (w : World) (hu : RowsAt w 4 u l) (hv : RowsAt w 4 v m) :
    Calls Tryd.prog 37 #[u, v] w (Gives (.bool (decide (l.map Pl.r4 = m.map Pl.r4))) w) := by
  obtain ⟨a, c, rfl, hn, hc⟩ := hu
  obtain ⟨a', c', rfl, hn', hc'⟩ := hv
  have HC := Lib.hid hc
  have HC' := Lib.hid hc'
  clear hc hc'
  by_cases hlen : l.length = m.length
  · go_enter Tryd.func37, Tryd.ntmps37
    repeat' (first | go_values | go_skip | go_guarded | (with_reducible (first | refine ex_then_ret ?_ | refine ex_then_exit ?_ | refine ex_then_normal ?_ | refine ex_block_ret ?_ | refine ex_block_normal ?_ | refine ex_block_same ?_ | refine ex_block_other (by decide) ?_)) | go_step | go_upon)
    go_loopw [13] (fun v wr => Alike w Pl.r4 l m v wr) (fun v _ => l.length - (intOf v).toNat)
    case atStart => exact ⟨0, Nat.zero_le _, rfl, Below.refl _ _, by rw [List.drop_zero, List.drop_zero]⟩
    case round =>
      obtain ⟨k, hk, rfl, hb, hany⟩ := hrel
      have HB := Lib.hid hb
      have HA := Lib.hid hany
      clear hb hany
      by_cases hlt : k < l.length
      · have hlt' : k < m.length := by omega
        obtain hnil | ⟨b, off, rfl, hbl, hcell⟩ := HC.out
        · rw [hnil] at hlt; exact absurd hlt (Nat.not_lt_zero _)
        obtain hnil | ⟨b', off', rfl, hbl', hcell'⟩ := HC'.out
        · rw [hnil] at hlt'; exact absurd hlt' (Nat.not_lt_zero _)
        have at_ := fun i hi => (HB.out.cell (p := ⟨b, off + k * 4 + i, none⟩) hbl).trans (hcell k i hlt hi)
        have at' := fun i hi => (HB.out.cell (p := ⟨b', off' + k * 4 + i, none⟩) hbl').trans (hcell' k i hlt' hi)
        have d0 := at_ 0 (by omega)
        have d1 := at_ 1 (by omega)
        have d2 := at_ 2 (by omega)
        have d3 := at_ 3 (by omega)
        have e0 := at' 0 (by omega)
        have e1 := at' 1 (by omega)
        have e2 := at' 2 (by omega)
        have e3 := at' 3 (by omega)
        rw [Nat.add_zero] at d0 e0
        have HE := Lib.hid (eq_drop (f := Pl.r4) hlt hlt' HA.out)
        have HN := Lib.hid (ne_drop (f := Pl.r4) hlt hlt' HA.out)
        clear at_ at' hcell hcell'
        generalize l.getD k [] = r at *
        generalize m.getD k [] = t at *
        by_cases he : Pl.r4 r = Pl.r4 t
        · have hd : decide ([Pl.g r 0, Pl.g r 1, Pl.g r 2, Pl.g r 3] = [Pl.g t 0, Pl.g t 1, Pl.g t 2, Pl.g t 3]) = true := decide_eq_true he
          have hq := fun W => neqPart W (Pl.g r 0) (Pl.g r 1) (Pl.g r 2) (Pl.g r 3) (Pl.g t 0) (Pl.g t 1) (Pl.g t 2) (Pl.g t 3)
          rw [hd] at hq
          have HX := Lib.hid (HE.out he)
          clear hd he
          repeat' (first | go_values | go_skip | go_guarded | (with_reducible (first | refine ex_then_ret ?_ | refine ex_then_exit ?_ | refine ex_then_normal ?_ | refine ex_block_ret ?_ | refine ex_block_normal ?_ | refine ex_block_same ?_ | refine ex_block_other (by decide) ?_)) | go_step | go_upon | go_quiet (fail))
          have hB := HB.out
          exact ⟨⟨k + 1, by omega, by go_num, (by repeat (with_reducible (first | exact Below.refl _ _ | assumption | refine Below.to ?_ (by assumption) | refine below_drewN ?_ _ | refine Below.alloc ?_ (by first | (simp; done) | omega | (simp; omega) | (simp at *; omega)) _ | refine Below.setCell ?_ (by first | (simp; done) | omega | (simp; omega) | (simp at *; omega)) _ | refine Below.drew ?_))), HX.out⟩, by simp [intOf]; omega⟩
        · have hd : decide ([Pl.g r 0, Pl.g r 1, Pl.g r 2, Pl.g r 3] = [Pl.g t 0, Pl.g t 1, Pl.g t 2, Pl.g t 3]) = false := decide_eq_false he
          have hq := fun W => neqPart W (Pl.g r 0) (Pl.g r 1) (Pl.g r 2) (Pl.g r 3) (Pl.g t 0) (Pl.g t 1) (Pl.g t 2) (Pl.g t 3)
          rw [hd] at hq
          have HX := Lib.hid (HN.out he)
          clear hd he
          repeat' (first | go_values | go_skip | go_guarded | (with_reducible (first | refine ex_then_ret ?_ | refine ex_then_exit ?_ | refine ex_then_normal ?_ | refine ex_block_ret ?_ | refine ex_block_normal ?_ | refine ex_block_same ?_ | refine ex_block_other (by decide) ?_)) | go_step | go_upon | go_quiet (fail))
          go_ret
          have hB := HB.out
          exact gives_bool HX.out.symm (by repeat (with_reducible (first | exact Below.refl _ _ | assumption | refine Below.to ?_ (by assumption) | refine below_drewN ?_ _ | refine Below.alloc ?_ (by first | (simp; done) | omega | (simp; omega) | (simp at *; omega)) _ | refine Below.setCell ?_ (by first | (simp; done) | omega | (simp; omega) | (simp at *; omega)) _ | refine Below.drew ?_)))
      · have HN := Lib.hid (show decide (l.map Pl.r4 = m.map Pl.r4) = true by rw [HA.out, List.drop_of_length_le (by omega), List.drop_of_length_le (by omega)]; simp)
        repeat' (first | go_values | go_skip | go_guarded | (with_reducible (first | refine ex_then_ret ?_ | refine ex_then_exit ?_ | refine ex_then_normal ?_ | refine ex_block_ret ?_ | refine ex_block_normal ?_ | refine ex_block_same ?_ | refine ex_block_other (by decide) ?_)) | go_step | go_upon)
        go_ret
        have hB := HB.out
        exact gives_bool HN.out.symm (by repeat (with_reducible (first | exact Below.refl _ _ | assumption | refine Below.to ?_ (by assumption) | refine below_drewN ?_ _ | refine Below.alloc ?_ (by first | (simp; done) | omega | (simp; omega) | (simp at *; omega)) _ | refine Below.setCell ?_ (by first | (simp; done) | omega | (simp; omega) | (simp at *; omega)) _ | refine Below.drew ?_)))
  · go_enter Tryd.func37, Tryd.ntmps37
    have hlen' : ¬ (l.length : Int) = m.length := by omega
    repeat' (first | go_values | go_skip | go_guarded | (with_reducible (first | refine ex_then_ret ?_ | refine ex_then_exit ?_ | refine ex_then_normal ?_ | refine ex_block_ret ?_ | refine ex_block_normal ?_ | refine ex_block_same ?_ | refine ex_block_other (by decide) ?_)) | go_step | go_upon)
    all_goals go_ret
    all_goals exact gives_bool (by symm; rw [decide_eq_false_iff_not]; intro h; exact hlen (by have := congrArg List.length h; rw [List.length_map, List.length_map] at this; exact this)) (by repeat (with_reducible (first | exact Below.refl _ _ | assumption | refine Below.to ?_ (by assumption) | refine below_drewN ?_ _ | refine Below.alloc ?_ (by first | (simp; done) | omega | (simp; omega) | (simp at *; omega)) _ | refine Below.setCell ?_ (by first | (simp; done) | omega | (simp; omega) | (simp at *; omega)) _ | refine Below.drew ?_)))
set_option maxHeartbeats 4000000 in
set_option maxRecDepth 100000 in
theorem equalW (u v : Value) (l m : List (List Int)) (w : World) (hu : RowsAt w 3 u l) (hv : RowsAt w 3 v m) :
    Calls Tryd.prog 36 #[u, v] w (Gives (.bool (decide (l.map Pl.r3 = m.map Pl.r3))) w) := by
  obtain ⟨a, c, rfl, hn, hc⟩ := hu
  obtain ⟨a', c', rfl, hn', hc'⟩ := hv
  have HC := Lib.hid hc
  have HC' := Lib.hid hc'
  clear hc hc'
  by_cases hlen : l.length = m.length
  · go_enter Tryd.func36, Tryd.ntmps36
    repeat' (first | go_values | go_skip | go_guarded | (with_reducible (first | refine ex_then_ret ?_ | refine ex_then_exit ?_ | refine ex_then_normal ?_ | refine ex_block_ret ?_ | refine ex_block_normal ?_ | refine ex_block_same ?_ | refine ex_block_other (by decide) ?_)) | go_step | go_upon)
    go_loopw [13] (fun v wr => Alike w Pl.r3 l m v wr) (fun v _ => l.length - (intOf v).toNat)
    case atStart => exact ⟨0, Nat.zero_le _, rfl, Below.refl _ _, by rw [List.drop_zero, List.drop_zero]⟩
    case round =>
      obtain ⟨k, hk, rfl, hb, hany⟩ := hrel
      have HB := Lib.hid hb
      have HA := Lib.hid hany
      clear hb hany
      by_cases hlt : k < l.length
      · have hlt' : k < m.length := by omega
        obtain hnil | ⟨b, off, rfl, hbl, hcell⟩ := HC.out
        · rw [hnil] at hlt; exact absurd hlt (Nat.not_lt_zero _)
        obtain hnil | ⟨b', off', rfl, hbl', hcell'⟩ := HC'.out
        · rw [hnil] at hlt'; exact absurd hlt' (Nat.not_lt_zero _)
        have at_ := fun i hi => (HB.out.cell (p := ⟨b, off + k * 3 + i, none⟩) hbl).trans (hcell k i hlt hi)
        have at' := fun i hi => (HB.out.cell (p := ⟨b', off' + k * 3 + i, none⟩) hbl').trans (hcell' k i hlt' hi)
        have d0 := at_ 0 (by omega)
        have d1 := at_ 1 (by omega)
        have d2 := at_ 2 (by omega)
        have e0 := at' 0 (by omega)
        have e1 := at' 1 (by omega)
        have e2 := at' 2 (by omega)
        rw [Nat.add_zero] at d0 e0
        have HE := Lib.hid (eq_drop (f := Pl.r3) hlt hlt' HA.out)
        have HN := Lib.hid (ne_drop (f := Pl.r3) hlt hlt' HA.out)
        clear at_ at' hcell hcell'
        generalize l.getD k [] = r at *
        generalize m.getD k [] = t at *
        by_cases he : Pl.r3 r = Pl.r3 t
        · have hd : decide ([Pl.g r 0, Pl.g r 1, Pl.g r 2] = [Pl.g t 0, Pl.g t 1, Pl.g t 2]) = true := decide_eq_true he
          have hq := fun W => neqWin W (Pl.g r 0) (Pl.g r 1) (Pl.g r 2) (Pl.g t 0) (Pl.g t 1) (Pl.g t 2)
          rw [hd] at hq
          have HX := Lib.hid (HE.out he)
          clear hd he
          repeat' (first | go_values | go_skip | go_guarded | (with_reducible (first | refine ex_then_ret ?_ | refine ex_then_exit ?_ | refine ex_then_normal ?_ | refine ex_block_ret ?_ | refine ex_block_normal ?_ | refine ex_block_same ?_ | refine ex_block_other (by decide) ?_)) | go_step | go_upon | go_quiet (fail))
          have hB := HB.out
          exact ⟨⟨k + 1, by omega, by go_num, (by repeat (with_reducible (first | exact Below.refl _ _ | assumption | refine Below.to ?_ (by assumption) | refine below_drewN ?_ _ | refine Below.alloc ?_ (by first | (simp; done) | omega | (simp; omega) | (simp at *; omega)) _ | refine Below.setCell ?_ (by first | (simp; done) | omega | (simp; omega) | (simp at *; omega)) _ | refine Below.drew ?_))), HX.out⟩, by simp [intOf]; omega⟩
        · have hd : decide ([Pl.g r 0, Pl.g r 1, Pl.g r 2] = [Pl.g t 0, Pl.g t 1, Pl.g t 2]) = false := decide_eq_false he
          have hq := fun W => neqWin W (Pl.g r 0) (Pl.g r 1) (Pl.g r 2) (Pl.g t 0) (Pl.g t 1) (Pl.g t 2)
          rw [hd] at hq
          have HX := Lib.hid (HN.out he)
          clear hd he
          repeat' (first | go_values | go_skip | go_guarded | (with_reducible (first | refine ex_then_ret ?_ | refine ex_then_exit ?_ | refine ex_then_normal ?_ | refine ex_block_ret ?_ | refine ex_block_normal ?_ | refine ex_block_same ?_ | refine ex_block_other (by decide) ?_)) | go_step | go_upon | go_quiet (fail))
          go_ret
          have hB := HB.out
          exact gives_bool HX.out.symm (by repeat (with_reducible (first | exact Below.refl _ _ | assumption | refine Below.to ?_ (by assumption) | refine below_drewN ?_ _ | refine Below.alloc ?_ (by first | (simp; done) | omega | (simp; omega) | (simp at *; omega)) _ | refine Below.setCell ?_ (by first | (simp; done) | omega | (simp; omega) | (simp at *; omega)) _ | refine Below.drew ?_)))
      · have HN := Lib.hid (show decide (l.map Pl.r3 = m.map Pl.r3) = true by rw [HA.out, List.drop_of_length_le (by omega), List.drop_of_length_le (by omega)]; simp)
        repeat' (first | go_values | go_skip | go_guarded | (with_reducible (first | refine ex_then_ret ?_ | refine ex_then_exit ?_ | refine ex_then_normal ?_ | refine ex_block_ret ?_ | refine ex_block_normal ?_ | refine ex_block_same ?_ | refine ex_block_other (by decide) ?_)) | go_step | go_upon)
        go_ret
        have hB := HB.out
        exact gives_bool HN.out.symm (by repeat (with_reducible (first | exact Below.refl _ _ | assumption | refine Below.to ?_ (by assumption) | refine below_drewN ?_ _ | refine Below.alloc ?_ (by first | (simp; done) | omega | (simp; omega) | (simp at *; omega)) _ | refine Below.setCell ?_ (by first | (simp; done) | omega | (simp; omega) | (simp at *; omega)) _ | refine Below.drew ?_)))
  · go_enter Tryd.func36, Tryd.ntmps36
    have hlen' : ¬ (l.length : Int) = m.length := by omega
    repeat' (first | go_values | go_skip | go_guarded | (with_reducible (first | refine ex_then_ret ?_ | refine ex_then_exit ?_ | refine ex_then_normal ?_ | refine ex_block_ret ?_ | refine ex_block_normal ?_ | refine ex_block_same ?_ | refine ex_block_other (by decide) ?_)) | go_step | go_upon)
    all_goals go_ret
    all_goals exact gives_bool (by symm; rw [decide_eq_false_iff_not]; intro h; exact hlen (by have := congrArg List.length h; rw [List.length_map, List.length_map] at this; exact this)) (by repeat (with_reducible (first | exact Below.refl _ _ | assumption | refine Below.to ?_ (by assumption) | refine below_drewN ?_ _ | refine Below.alloc ?_ (by first | (simp; done) | omega | (simp; omega) | (simp at *; omega)) _ | refine Below.setCell ?_ (by first | (simp; done) | omega | (simp; omega) | (simp at *; omega)) _ | refine Below.drew ?_)))
set_option maxHeartbeats 4000000 in
set_option maxRecDepth 100000 in
theorem equalC (u v : Value) (l m : List (List Int)) (w : World) (hu : RowsAt w 5 u l) (hv : RowsAt w 5 v m) :
    Calls Tryd.prog 39 #[u, v] w (Gives (.bool (decide (l.map Pl.r5 = m.map Pl.r5))) w) := by
  obtain ⟨a, c, rfl, hn, hc⟩ := hu
  obtain ⟨a', c', rfl, hn', hc'⟩ := hv
  have HC := Lib.hid hc
  have HC' := Lib.hid hc'
  clear hc hc'
  by_cases hlen : l.length = m.length
  · go_enter Tryd.func39, Tryd.ntmps39
    repeat' (first | go_values | go_skip | go_guarded | (with_reducible (first | refine ex_then_ret ?_ | refine ex_then_exit ?_ | refine ex_then_normal ?_ | refine ex_block_ret ?_ | refine ex_block_normal ?_ | refine ex_block_same ?_ | refine ex_block_other (by decide) ?_)) | go_step | go_upon)
    go_loopw [13] (fun v wr => Alike w Pl.r5 l m v wr) (fun v _ => l.length - (intOf v).toNat)
    case atStart => exact ⟨0, Nat.zero_le _, rfl, Below.refl _ _, by rw [List.drop_zero, List.drop_zero]⟩
    case round =>
      obtain ⟨k, hk, rfl, hb, hany⟩ := hrel
      have HB := Lib.hid hb
      have HA := Lib.hid hany
      clear hb hany
      by_cases hlt : k < l.length
      · have hlt' : k < m.length := by omega
        obtain hnil | ⟨b, off, rfl, hbl, hcell⟩ := HC.out
        · rw [hnil] at hlt; exact absurd hlt (Nat.not_lt_zero _)
        obtain hnil | ⟨b', off', rfl, hbl', hcell'⟩ := HC'.out
        · rw [hnil] at hlt'; exact absurd hlt' (Nat.not_lt_zero _)
        have at_ := fun i hi => (HB.out.cell (p := ⟨b, off + k * 5 + i, none⟩) hbl).trans (hcell k i hlt hi)
        have at' := fun i hi => (HB.out.cell (p := ⟨b', off' + k * 5 + i, none⟩) hbl').trans (hcell' k i hlt' hi)
        have d0 := at_ 0 (by omega)
        have d1 := at_ 1 (by omega)
        have d2 := at_ 2 (by omega)
        have d3 := at_ 3 (by omega)
        have d4 := at_ 4 (by omega)
        have e0 := at' 0 (by omega)
        have e1 := at' 1 (by omega)
        have e2 := at' 2 (by omega)
        have e3 := at' 3 (by omega)
        have e4 := at' 4 (by omega)
        rw [Nat.add_zero] at d0 e0
        have HE := Lib.hid (eq_drop (f := Pl.r5) hlt hlt' HA.out)
        have HN := Lib.hid (ne_drop (f := Pl.r5) hlt hlt' HA.out)
        clear at_ at' hcell hcell'
        generalize l.getD k [] = r at *
        generalize m.getD k [] = t at *
        by_cases he : Pl.r5 r = Pl.r5 t
        · have hd : decide ([Pl.g r 0, Pl.g r 1, Pl.g r 2, Pl.g r 3, Pl.g r 4] = [Pl.g t 0, Pl.g t 1, Pl.g t 2, Pl.g t 3, Pl.g t 4]) = true := decide_eq_true he
          have hq := fun W => neqChan W (Pl.g r 0) (Pl.g r 1) (Pl.g r 2) (Pl.g r 3) (Pl.g r 4) (Pl.g t 0) (Pl.g t 1) (Pl.g t 2) (Pl.g t 3) (Pl.g t 4)
          rw [hd] at hq
          have HX := Lib.hid (HE.out he)
          clear hd he
          repeat' (first | go_values | go_skip | go_guarded | (with_reducible (first | refine ex_then_ret ?_ | refine ex_then_exit ?_ | refine ex_then_normal ?_ | refine ex_block_ret ?_ | refine ex_block_normal ?_ | refine ex_block_same ?_ | refine ex_block_other (by decide) ?_)) | go_step | go_upon | go_quiet (fail))
          have hB := HB.out
          exact ⟨⟨k + 1, by omega, by go_num, (by repeat (with_reducible (first | exact Below.refl _ _ | assumption | refine Below.to ?_ (by assumption) | refine below_drewN ?_ _ | refine Below.alloc ?_ (by first | (simp; done) | omega | (simp; omega) | (simp at *; omega)) _ | refine Below.setCell ?_ (by first | (simp; done) | omega | (simp; omega) | (simp at *; omega)) _ | refine Below.drew ?_))), HX.out⟩, by simp [intOf]; omega⟩
        · have hd : decide ([Pl.g r 0, Pl.g r 1, Pl.g r 2, Pl.g r 3, Pl.g r 4] = [Pl.g t 0, Pl.g t 1, Pl.g t 2, Pl.g t 3, Pl.g t 4]) = false := decide_eq_false he
          have hq := fun W => neqChan W (Pl.g r 0) (Pl.g r 1) (Pl.g r 2) (Pl.g r 3) (Pl.g r 4) (Pl.g t 0) (Pl.g t 1) (Pl.g t 2) (Pl.g t 3) (Pl.g t 4)
          rw [hd] at hq
          have HX := Lib.hid (HN.out he)
          clear hd he
          repeat' (first | go_values | go_skip | go_guarded | (with_reducible (first | refine ex_then_ret ?_ | refine ex_then_exit ?_ | refine ex_then_normal ?_ | refine ex_block_ret ?_ | refine ex_block_normal ?_ | refine ex_block_same ?_ | refine ex_block_other (by decide) ?_)) | go_step | go_upon | go_quiet (fail))
          go_ret
          have hB := HB.out
          exact gives_bool HX.out.symm (by repeat (with_reducible (first | exact Below.refl _ _ | assumption | refine Below.to ?_ (by assumption) | refine below_drewN ?_ _ | refine Below.alloc ?_ (by first | (simp; done) | omega | (simp; omega) | (simp at *; omega)) _ | refine Below.setCell ?_ (by first | (simp; done) | omega | (simp; omega) | (simp at *; omega)) _ | refine Below.drew ?_)))
      · have HN := Lib.hid (show decide (l.map Pl.r5 = m.map Pl.r5) = true by rw [HA.out, List.drop_of_length_le (by omega), List.drop_of_length_le (by omega)]; simp)
        repeat' (first | go_values | go_skip | go_guarded | (with_reducible (first | refine ex_then_ret ?_ | refine ex_then_exit ?_ | refine ex_then_normal ?_ | refine ex_block_ret ?_ | refine ex_block_normal ?_ | refine ex_block_same ?_ | refine ex_block_other (by decide) ?_)) | go_step | go_upon)
        go_ret
        have hB := HB.out
        exact gives_bool HN.out.symm (by repeat (with_reducible (first | exact Below.refl _ _ | assumption | refine Below.to ?_ (by assumption) | refine below_drewN ?_ _ | refine Below.alloc ?_ (by first | (simp; done) | omega | (simp; omega) | (simp at *; omega)) _ | refine Below.setCell ?_ (by first | (simp; done) | omega | (simp; omega) | (simp at *; omega)) _ | refine Below.drew ?_)))
  · go_enter Tryd.func39, Tryd.ntmps39
    have hlen' : ¬ (l.length : Int) = m.length := by omega
    repeat' (first | go_values | go_skip | go_guarded | (with_reducible (first | refine ex_then_ret ?_ | refine ex_then_exit ?_ | refine ex_then_normal ?_ | refine ex_block_ret ?_ | refine ex_block_normal ?_ | refine ex_block_same ?_ | refine ex_block_other (by decide) ?_)) | go_step | go_upon)
    all_goals go_ret
    all_goals exact gives_bool (by symm; rw [decide_eq_false_iff_not]; intro h; exact hlen (by have := congrArg List.length h; rw [List.length_map, List.length_map] at this; exact this)) (by repeat (with_reducible (first | exact Below.refl _ _ | assumption | refine Below.to ?_ (by assumption) | refine below_drewN ?_ _ | refine Below.alloc ?_ (by first | (simp; done) | omega | (simp; omega) | (simp at *; omega)) _ | refine Below.setCell ?_ (by first | (simp; done) | omega | (simp; omega) | (simp at *; omega)) _ | refine Below.drew ?_)))
/-! schedules -/
def rW (l : List (List Int)) : List (List Int) := l.map Pl.r3
theorem eqW (u v : Value) (l m : List (List Int)) (w : World) (hu : RowsAt w 3 u l) (hv : RowsAt w 3 v m) :
    Calls Tryd.prog 35 #[u, v] w (Gives (.bool (decide (rW l = rW m))) w) := by
  have HU := Lib.hid hu
  have HV := Lib.hid hv
  obtain ⟨a, c, rfl, _⟩ := hu
  obtain ⟨a', c', rfl, _⟩ := hv
  go_enter Tryd.func35, Tryd.ntmps35
  repeat' (first | (go_at_call 36; refine (equalW _ _ l m _ (HU.out.below (by repeat (with_reducible (first | exact Below.refl _ _ | assumption | refine Below.to ?_ (by assumption) | refine below_drewN ?_ _ | refine Below.alloc ?_ (by first | (simp; done) | omega | (simp; omega) | (simp at *; omega)) _ | refine Below.setCell ?_ (by first | (simp; done) | omega | (simp; omega) | (simp at *; omega)) _ | refine Below.drew ?_)))) (HV.out.below (by repeat (with_reducible (first | exact Below.refl _ _ | assumption | refine Below.to ?_ (by assumption) | refine below_drewN ?_ _ | refine Below.alloc ?_ (by first | (simp; done) | omega | (simp; omega) | (simp at *; omega)) _ | refine Below.setCell ?_ (by first | (simp; done) | omega | (simp; omega) | (simp at *; omega)) _ | refine Below.drew ?_))))).mono ?_; rintro e w1 ⟨rfl, hb1⟩; dsimp only) | go_values | go_skip | go_guarded | (with_reducible (first | refine ex_then_ret ?_ | refine ex_then_exit ?_ | refine ex_then_normal ?_ | refine ex_block_ret ?_ | refine ex_block_normal ?_ | refine ex_block_same ?_ | refine ex_block_other (by decide) ?_)) | go_step | go_upon)
  all_goals go_ret
  all_goals exact gives_bool rfl (by repeat (with_reducible (first | exact Below.refl _ _ | assumption | refine Below.to ?_ (by assumption) | refine below_drewN ?_ _ | refine Below.alloc ?_ (by first | (simp; done) | omega | (simp; omega) | (simp at *; omega)) _ | refine Below.setCell ?_ (by first | (simp; done) | omega | (simp; omega) | (simp at *; omega)) _ | refine Below.drew ?_)))
def AlikeW (w : World) (l m : List (List (List Int))) (v : Value) (wr : World) : Prop := ∃ k : Nat, k ≤ l.length ∧ v = .int .i64 k ∧ Below w.heap.size w wr ∧ decide (l.map rW = m.map rW) = decide ((l.drop k).map rW = (m.drop k).map rW)
theorem eq_dropW {l m : List (List (List Int))} {k : Nat} (hl : k < l.length) (hm : k < m.length) (h : decide (l.map rW = m.map rW) = decide ((l.drop k).map rW = (m.drop k).map rW)) (he : rW (l.getD k []) = rW (m.getD k [])) : decide (l.map rW = m.map rW) = decide ((l.drop (k + 1)).map rW = (m.drop (k + 1)).map rW) := by
  rw [List.getD_eq_getElem?_getD, List.getElem?_eq_getElem hl, Option.getD_some, List.getD_eq_getElem?_getD, List.getElem?_eq_getElem hm, Option.getD_some] at he
  rw [h, List.drop_eq_getElem_cons hl, List.drop_eq_getElem_cons hm, List.map_cons, List.map_cons, he]
  simp only [List.cons.injEq, true_and]
theorem ne_dropW {l m : List (List (List Int))} {k : Nat} (hl : k < l.length) (hm : k < m.length) (h : decide (l.map rW = m.map rW) = decide ((l.drop k).map rW = (m.drop k).map rW)) (he : ¬ rW (l.getD k []) = rW (m.getD k [])) : decide (l.map rW = m.map rW) = false := by
  rw [List.getD_eq_getElem?_getD, List.getElem?_eq_getElem hl, Option.getD_some, List.getD_eq_getElem?_getD, List.getElem?_eq_getElem hm, Option.getD_some] at he
  rw [h, List.drop_eq_getElem_cons hl, List.drop_eq_getElem_cons hm, List.map_cons, List.map_cons]
  simp only [List.cons.injEq, he, false_and, decide_false]
set_option maxHeartbeats 4000000 in
set_option maxRecDepth 100000 in
theorem equalF (u v : Value) (l m : List (List (List Int))) (w : World) (hu : WinsAt w u l) (hv : WinsAt w v m) :
    Calls Tryd.prog 38 #[u, v, .func (.func 35) #[] #[]] w (Gives (.bool (decide (l.map rW = m.map rW))) w) := by
  obtain ⟨a, c, rfl, hn, hc⟩ := hu
  obtain ⟨a', c', rfl, hn', hc'⟩ := hv
  have HC := Lib.hid hc
  have HC' := Lib.hid hc'
  clear hc hc'
  by_cases hlen : l.length = m.length
  · go_enter Tryd.func38, Tryd.ntmps38
    repeat' (first | go_values | go_skip | go_guarded | (with_reducible (first | refine ex_then_ret ?_ | refine ex_then_exit ?_ | refine ex_then_normal ?_ | refine ex_block_ret ?_ | refine ex_block_normal ?_ | refine ex_block_same ?_ | refine ex_block_other (by decide) ?_)) | go_step | go_upon)
    go_loopw [17] (fun v wr => AlikeW w l m v wr) (fun v _ => l.length - (intOf v).toNat)
    case atStart => exact ⟨0, Nat.zero_le _, rfl, Below.refl _ _, by rw [List.drop_zero, List.drop_zero]⟩
    case round =>
      obtain ⟨k, hk, rfl, hb, hany⟩ := hrel
      have HB := Lib.hid hb
      have HA := Lib.hid hany
      clear hb hany
      by_cases hlt : k < l.length
      · have hlt' : k < m.length := by omega
        obtain hnil | ⟨b, off, rfl, hbl, hcell⟩ := HC.out
        · rw [hnil] at hlt; exact absurd hlt (Nat.not_lt_zero _)
        obtain hnil | ⟨b', off', rfl, hbl', hcell'⟩ := HC'.out
        · rw [hnil] at hlt'; exact absurd hlt' (Nat.not_lt_zero _)
        obtain ⟨u1, hu1, hs1⟩ := hcell k hlt
        obtain ⟨u2, hu2, hs2⟩ := hcell' k hlt'
        have c0 := (HB.out.cell (p := ⟨b, off + k, none⟩) hbl).trans hu1
        have d0 := (HB.out.cell (p := ⟨b', off' + k, none⟩) hbl').trans hu2
        have HS1 := Lib.hid hs1
        have HS2 := Lib.hid hs2
        obtain ⟨a1, n1, rfl, hn1, _⟩ := hs1
        obtain ⟨a2, n2, rfl, hn2, _⟩ := hs2
        clear hcell hcell' hu1 hu2
        have hB := HB.out
        by_cases he : rW (l.getD k []) = rW (m.getD k [])
        · have HN := Lib.hid (eq_dropW hlt hlt' HA.out he)
          have HE := Lib.hid (decide_eq_true he)
          clear he
          generalize l.getD k [] = r at *
          generalize m.getD k [] = t at *
          repeat' (first | (go_at_call 35; refine (eqW _ _ r t _ (HS1.out.below (by repeat (with_reducible (first | exact Below.refl _ _ | assumption | refine Below.to ?_ (by assumption) | refine below_drewN ?_ _ | refine Below.alloc ?_ (by first | (simp; done) | omega | (simp; omega) | (simp at *; omega)) _ | refine Below.setCell ?_ (by first | (simp; done) | omega | (simp; omega) | (simp at *; omega)) _ | refine Below.drew ?_)))) (HS2.out.below (by repeat (with_reducible (first | exact Below.refl _ _ | assumption | refine Below.to ?_ (by assumption) | refine below_drewN ?_ _ | refine Below.alloc ?_ (by first | (simp; done) | omega | (simp; omega) | (simp at *; omega)) _ | refine Below.setCell ?_ (by first | (simp; done) | omega | (simp; omega) | (simp at *; omega)) _ | refine Below.drew ?_))))).mono ?_; rintro e w1 ⟨rfl, hb1⟩; rw [HE.out]; dsimp only) | go_values | go_skip | go_guarded | (with_reducible (first | refine ex_then_ret ?_ | refine ex_then_exit ?_ | refine ex_then_normal ?_ | refine ex_block_ret ?_ | refine ex_block_normal ?_ | refine ex_block_same ?_ | refine ex_block_other (by decide) ?_)) | go_step | go_upon | go_quiet (fail))
          exact ⟨⟨k + 1, by omega, by go_num, (by repeat (with_reducible (first | exact Below.refl _ _ | assumption | refine Below.to ?_ (by assumption) | refine below_drewN ?_ _ | refine Below.alloc ?_ (by first | (simp; done) | omega | (simp; omega) | (simp at *; omega)) _ | refine Below.setCell ?_ (by first | (simp; done) | omega | (simp; omega) | (simp at *; omega)) _ | refine Below.drew ?_))), HN.out⟩, by simp [intOf]; omega⟩
        · have HN := Lib.hid (ne_dropW hlt hlt' HA.out he)
          have HE := Lib.hid (decide_eq_false he)
          clear he
          generalize l.getD k [] = r at *
          generalize m.getD k [] = t at *
          repeat' (first | (go_at_call 35; refine (eqW _ _ r t _ (HS1.out.below (by repeat (with_reducible (first | exact Below.refl _ _ | assumption | refine Below.to ?_ (by assumption) | refine below_drewN ?_ _ | refine Below.alloc ?_ (by first | (simp; done) | omega | (simp; omega) | (simp at *; omega)) _ | refine Below.setCell ?_ (by first | (simp; done) | omega | (simp; omega) | (simp at *; omega)) _ | refine Below.drew ?_)))) (HS2.out.below (by repeat (with_reducible (first | exact Below.refl _ _ | assumption | refine Below.to ?_ (by assumption) | refine below_drewN ?_ _ | refine Below.alloc ?_ (by first | (simp; done) | omega | (simp; omega) | (simp at *; omega)) _ | refine Below.setCell ?_ (by first | (simp; done) | omega | (simp; omega) | (simp at *; omega)) _ | refine Below.drew ?_))))).mono ?_; rintro e w1 ⟨rfl, hb1⟩; rw [HE.out]; dsimp only) | go_values | go_skip | go_guarded | (with_reducible (first | refine ex_then_ret ?_ | refine ex_then_exit ?_ | refine ex_then_normal ?_ | refine ex_block_ret ?_ | refine ex_block_normal ?_ | refine ex_block_same ?_ | refine ex_block_other (by decide) ?_)) | go_step | go_upon | go_quiet (fail))
          go_ret
          exact gives_bool HN.out.symm (by repeat (with_reducible (first | exact Below.refl _ _ | assumption | refine Below.to ?_ (by assumption) | refine below_drewN ?_ _ | refine Below.alloc ?_ (by first | (simp; done) | omega | (simp; omega) | (simp at *; omega)) _ | refine Below.setCell ?_ (by first | (simp; done) | omega | (simp; omega) | (simp at *; omega)) _ | refine Below.drew ?_)))
      · have HN := Lib.hid (show decide (l.map rW = m.map rW) = true by rw [HA.out, List.drop_of_length_le (by omega), List.drop_of_length_le (by omega)]; simp)
        repeat' (first | go_values | go_skip | go_guarded | (with_reducible (first | refine ex_then_ret ?_ | refine ex_then_exit ?_ | refine ex_then_normal ?_ | refine ex_block_ret ?_ | refine ex_block_normal ?_ | refine ex_block_same ?_ | refine ex_block_other (by decide) ?_)) | go_step | go_upon)
        go_ret
        have hB := HB.out
        exact gives_bool HN.out.symm (by repeat (with_reducible (first | exact Below.refl _ _ | assumption | refine Below.to ?_ (by assumption) | refine below_drewN ?_ _ | refine Below.alloc ?_ (by first | (simp; done) | omega | (simp; omega) | (simp at *; omega)) _ | refine Below.setCell ?_ (by first | (simp; done) | omega | (simp; omega) | (simp at *; omega)) _ | refine Below.drew ?_)))
  · go_enter Tryd.func38, Tryd.ntmps38
    have hlen' : ¬ (l.length : Int) = m.length := by omega
    repeat' (first | go_values | go_skip | go_guarded | (with_reducible (first | refine ex_then_ret ?_ | refine ex_then_exit ?_ | refine ex_then_normal ?_ | refine ex_block_ret ?_ | refine ex_block_normal ?_ | refine ex_block_same ?_ | refine ex_block_other (by decide) ?_)) | go_step | go_upon)
    all_goals go_ret
    all_goals exact gives_bool (by symm; rw [decide_eq_false_iff_not]; intro h; exact hlen (by have := congrArg List.length h; rw [List.length_map, List.length_map] at this; exact this)) (by repeat (with_reducible (first | exact Below.refl _ _ | assumption | refine Below.to ?_ (by assumption) | refine below_drewN ?_ _ | refine Below.alloc ?_ (by first | (simp; done) | omega | (simp; omega) | (simp at *; omega)) _ | refine Below.setCell ?_ (by first | (simp; done) | omega | (simp; omega) | (simp at *; omega)) _ | refine Below.drew ?_)))
/-- are two plans the same? -/
def sameB (P Q : Pl.Plan) : Bool := decide (P.ps.map Pl.r4 = Q.ps.map Pl.r4) && (decide (P.fr = Q.fr) && (decide (P.ws.map rW = Q.ws.map rW) && decide (P.cs.map Pl.r5 = Q.cs.map Pl.r5)))
theorem Same (u v : Value) (P Q : Pl.Plan) (w : World) (hu : PlanAt w u P) (hv : PlanAt w v Q) :
    Calls Tryd.prog 14 #[u, v] w (Gives (.bool (sameB P Q)) w) := by
  unfold sameB
  obtain ⟨up, uw, uc, rfl, hup, huw, huc⟩ := hu
  obtain ⟨vp, vw, vc, rfl, hvp, hvw, hvc⟩ := hv
  have H1 := Lib.hid (fun W (hb : Below w.heap.size w W) => equalP up vp P.ps Q.ps W (hup.below hb) (hvp.below hb))
  have H2 := Lib.hid (fun W (hb : Below w.heap.size w W) => equalF uw vw P.ws Q.ws W (huw.below hb) (hvw.below hb))
  have H3 := Lib.hid (fun W (hb : Below w.heap.size w W) => equalC uc vc P.cs Q.cs W (huc.below hb) (hvc.below hb))
  obtain ⟨a1, c1, rfl, _⟩ := hup
  obtain ⟨a2, c2, rfl, _⟩ := huw
  obtain ⟨a3, c3, rfl, _⟩ := huc
  obtain ⟨a4, c4, rfl, _⟩ := hvp
  obtain ⟨a5, c5, rfl, _⟩ := hvw
  obtain ⟨a6, c6, rfl, _⟩ := hvc
  go_enter Tryd.func14, Tryd.ntmps14
  repeat' (first
    | (go_at_call 37; refine (H1.out _ (by repeat (with_reducible (first | exact Below.refl _ _ | assumption | refine Below.to ?_ (by assumption) | refine below_drewN ?_ _ | refine Below.alloc ?_ (by first | (simp; done) | omega | (simp; omega) | (simp at *; omega)) _ | refine Below.setCell ?_ (by first | (simp; done) | omega | (simp; omega) | (simp at *; omega)) _ | refine Below.drew ?_)))).mono ?_; rintro e w1 ⟨rfl, hb1⟩; obtain ⟨hc1, hf1, hz1⟩ := bfacts hb1; try (simp at hz1); have y0 : w.heap.size < w1.heap.size := (by omega); have y1 : w.heap.size + 1 < w1.heap.size := (by omega); dsimp only)
    | (go_at_call 38; refine (H2.out _ (by repeat (with_reducible (first | exact Below.refl _ _ | assumption | refine Below.to ?_ (by assumption) | refine below_drewN ?_ _ | refine Below.alloc ?_ (by first | (simp; done) | omega | (simp; omega) | (simp at *; omega)) _ | refine Below.setCell ?_ (by first | (simp; done) | omega | (simp; omega) | (simp at *; omega)) _ | refine Below.drew ?_)))).mono ?_; rintro e w2 ⟨rfl, hb2⟩; obtain ⟨hc2, hf2, hz2⟩ := bfacts hb2; have y2 : w.heap.size < w2.heap.size := (by omega); dsimp only)
    | (go_at_call 39; refine (H3.out _ (by repeat (with_reducible (first | exact Below.refl _ _ | assumption | refine Below.to ?_ (by assumption) | refine below_drewN ?_ _ | refine Below.alloc ?_ (by first | (simp; done) | omega | (simp; omega) | (simp at *; omega)) _ | refine Below.setCell ?_ (by first | (simp; done) | omega | (simp; omega) | (simp at *; omega)) _ | refine Below.drew ?_)))).mono ?_; rintro e w3 ⟨rfl, hb3⟩; dsimp only)
    | go_values | go_skip | go_guarded | (with_reducible (first | refine ex_then_ret ?_ | refine ex_then_exit ?_ | refine ex_then_normal ?_ | refine ex_block_ret ?_ | refine ex_block_normal ?_ | refine ex_block_same ?_ | refine ex_block_other (by decide) ?_)) | go_step | go_upon | go_quiet (fail))
  all_goals go_ret
  all_goals refine gives_bool ?_ (by repeat (with_reducible (first | exact Below.refl _ _ | assumption | refine Below.to ?_ (by assumption) | refine below_drewN ?_ _ | refine Below.alloc ?_ (by first | (simp; done) | omega | (simp; omega) | (simp at *; omega)) _ | refine Below.setCell ?_ (by first | (simp; done) | omega | (simp; omega) | (simp at *; omega)) _ | refine Below.drew ?_)))
  all_goals first | (simp [*]; done) | (simp_all; done) | grind
end Plan
end Go.Proofs.YtiggoojjefmcoaaDoor
