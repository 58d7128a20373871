/- The searches of package plan through parts, channels and windows; a channel's look. No condition. -/
import Derived.Test.YtiggoojjefmcoaaDoorPlanWalkA
import Derived.WalkKit
import Derived.WalkSpells
import Derived.WalkLawsBesides
import Derived.Lib.Hide
import Derived.BigQuiet
import Derived.Deep.QuietTactic

set_option linter.unusedVariables false
set_option linter.unusedSimpArgs false
namespace Go.Proofs.YtiggoojjefmcoaaDoor
open Go.RowKit
namespace Plan
set_option maxHeartbeats 1000000 in
theorem idxP (v : Value) (l : List (List Int)) (w : World) (h : RowsAt w 4 v l) :
    Calls Tryd.prog 45 #[v, .func (.func 29) #[] #[]] w (Found (l.any (fun r => !Pl.partB r)) w) := by
  obtain ⟨a, c, rfl, hn, hc⟩ := h
  have HC := Lib.hid hc
  clear hc
  go_enter Tryd.func45, Tryd.ntmps45
  repeat' (first | go_values | go_skip | go_guarded | (with_reducible (first | refine ex_then_ret ?_ | refine ex_then_exit ?_ | refine ex_then_normal ?_ | refine ex_block_ret ?_ | refine ex_block_normal ?_ | refine ex_block_same ?_ | refine ex_block_other (by decide) ?_)) | go_step | go_upon)
  go_loopw [8] (fun v wr => Seek (List Int) w l (fun r => !Pl.partB r) v wr) (fun v _ => l.length - (intOf v).toNat)
  case atStart => exact ⟨0, Nat.zero_le _, rfl, Below.refl _ _, by rw [List.drop_zero]⟩
  case round =>
    obtain ⟨k, hk, rfl, hb, hany⟩ := hrel
    have HB := Lib.hid hb
    have HA := Lib.hid hany
    clear hb hany
    by_cases hlt : k < l.length
    · obtain hnil | ⟨b, off, rfl, hbl, hcell⟩ := HC.out
      · rw [hnil] at hlt; exact absurd hlt (Nat.not_lt_zero _)
      have at_ := fun j hj => (HB.out.cell (p := ⟨b, off + k * 4 + j, none⟩) hbl).trans (hcell k j hlt hj)
      have c0 := at_ 0 (by omega)
      have c1 := at_ 1 (by omega)
      have c2 := at_ 2 (by omega)
      have c3 := at_ 3 (by omega)
      rw [Nat.add_zero] at c0
      have hx := Lib.hid (getD_some (d := []) hlt)
      generalize l.getD k [] = r at c0 c1 c2 c3 hx
      clear at_ hcell
      cases hp : Pl.partB r
      all_goals
        have HP := Lib.hid hp
        clear hp
        repeat' (first | go_values | go_skip | go_guarded | (with_reducible (first | refine ex_then_ret ?_ | refine ex_then_exit ?_ | refine ex_then_normal ?_ | refine ex_block_ret ?_ | refine ex_block_normal ?_ | refine ex_block_same ?_ | refine ex_block_other (by decide) ?_)) | go_step | go_upon)
        refine (notPart (Pl.g r 0) (Pl.g r 1) (Pl.g r 2) (Pl.g r 3) _).mono ?_
        rintro e w1 ⟨rfl, hb1⟩
        rw [show Pl.partB [Pl.g r 0, Pl.g r 1, Pl.g r 2, Pl.g r 3] = Pl.partB r from rfl, HP.out]
        dsimp only
        repeat' (first | go_values | go_skip | go_guarded | (with_reducible (first | refine ex_then_ret ?_ | refine ex_then_exit ?_ | refine ex_then_normal ?_ | refine ex_block_ret ?_ | refine ex_block_normal ?_ | refine ex_block_same ?_ | refine ex_block_other (by decide) ?_)) | go_step | go_upon)
      · go_ret
        have hB := HB.out
        exact ⟨_, rfl, by rw [seek_hit hlt hx.out HA.out (by simp [HP.out])]; simp, (by repeat (with_reducible (first | exact Below.refl _ _ | assumption | refine Below.to ?_ (by assumption) | refine below_drewN ?_ _ | refine Below.alloc ?_ (by first | (simp; done) | omega | (simp; omega) | (simp at *; omega)) _ | refine Below.setCell ?_ (by first | (simp; done) | omega | (simp; omega) | (simp at *; omega)) _ | refine Below.drew ?_)))⟩
      · have hB := HB.out
        exact ⟨⟨k + 1, by omega, by go_num, (by repeat (with_reducible (first | exact Below.refl _ _ | assumption | refine Below.to ?_ (by assumption) | refine below_drewN ?_ _ | refine Below.alloc ?_ (by first | (simp; done) | omega | (simp; omega) | (simp at *; omega)) _ | refine Below.setCell ?_ (by first | (simp; done) | omega | (simp; omega) | (simp at *; omega)) _ | refine Below.drew ?_))), seek_miss hlt hx.out HA.out (by simp [HP.out])⟩, by simp [intOf]; omega⟩
    · repeat' (first | go_values | go_skip | go_guarded | (with_reducible (first | refine ex_then_ret ?_ | refine ex_then_exit ?_ | refine ex_then_normal ?_ | refine ex_block_ret ?_ | refine ex_block_normal ?_ | refine ex_block_same ?_ | refine ex_block_other (by decide) ?_)) | go_step | go_upon)
      go_ret
      have hB := HB.out
      exact ⟨_, rfl, by rw [seek_end hlt HA.out]; rfl, (by repeat (with_reducible (first | exact Below.refl _ _ | assumption | refine Below.to ?_ (by assumption) | refine below_drewN ?_ _ | refine Below.alloc ?_ (by first | (simp; done) | omega | (simp; omega) | (simp at *; omega)) _ | refine Below.setCell ?_ (by first | (simp; done) | omega | (simp; omega) | (simp at *; omega)) _ | refine Below.drew ?_)))⟩
theorem contP (v : Value) (l : List (List Int)) (w : World) (h : RowsAt w 4 v l) :
    Calls Tryd.prog 28 #[v, .func (.func 29) #[] #[]] w (Gives (.bool (l.any (fun r => !Pl.partB r))) w) := by
  go_enter Tryd.func28, Tryd.ntmps28
  repeat' (first | go_values | go_skip | go_guarded | (with_reducible (first | refine ex_then_ret ?_ | refine ex_then_exit ?_ | refine ex_then_normal ?_ | refine ex_block_ret ?_ | refine ex_block_normal ?_ | refine ex_block_same ?_ | refine ex_block_other (by decide) ?_)) | go_step | go_upon)
  refine (idxP v l w h).mono ?_
  rintro e w1 ⟨r, rfl, hr, hb⟩
  have HR := Lib.hid hr
  clear hr
  dsimp only
  repeat' (first | go_values | go_skip | go_guarded | (with_reducible (first | refine ex_then_ret ?_ | refine ex_then_exit ?_ | refine ex_then_normal ?_ | refine ex_block_ret ?_ | refine ex_block_normal ?_ | refine ex_block_same ?_ | refine ex_block_other (by decide) ?_)) | go_step | go_upon)
  all_goals go_ret
  all_goals exact gives_bool HR.out (by repeat (with_reducible (first | exact Below.refl _ _ | assumption | refine Below.to ?_ (by assumption) | refine below_drewN ?_ _ | refine Below.alloc ?_ (by first | (simp; done) | omega | (simp; omega) | (simp at *; omega)) _ | refine Below.setCell ?_ (by first | (simp; done) | omega | (simp; omega) | (simp at *; omega)) _ | refine Below.drew ?_)))

set_option maxHeartbeats 1000000 in
theorem idxW (v : Value) (ws : List (List (List Int))) (w : World) (h : WinsAt w v ws) :
    Calls Tryd.prog 44 #[v, .func (.func 26) #[] #[]] w (Found (ws.any (fun l => decide (8 < l.length))) w) := by
  obtain ⟨a, c, rfl, hn, hc⟩ := h
  have HC := Lib.hid hc
  clear hc
  go_enter Tryd.func44, Tryd.ntmps44
  repeat' (first | go_values | go_skip | go_guarded | (with_reducible (first | refine ex_then_ret ?_ | refine ex_then_exit ?_ | refine ex_then_normal ?_ | refine ex_block_ret ?_ | refine ex_block_normal ?_ | refine ex_block_same ?_ | refine ex_block_other (by decide) ?_)) | go_step | go_upon)
  go_loopw [8] (fun v wr => Seek (List (List Int)) w ws (fun l => decide (8 < l.length)) v wr) (fun v _ => ws.length - (intOf v).toNat)
  case atStart => exact ⟨0, Nat.zero_le _, rfl, Below.refl _ _, by rw [List.drop_zero]⟩
  case round =>
    obtain ⟨k, hk, rfl, hb, hany⟩ := hrel
    have HB := Lib.hid hb
    have HA := Lib.hid hany
    clear hb hany
    by_cases hlt : k < ws.length
    · obtain hnil | ⟨b, off, rfl, hbl, hcell⟩ := HC.out
      · rw [hnil] at hlt; exact absurd hlt (Nat.not_lt_zero _)
      obtain ⟨u, hu, a', c', rfl, hn', _⟩ := hcell k hlt
      have c0 := (HB.out.cell (p := ⟨b, off + k, none⟩) hbl).trans hu
      have hx := Lib.hid (getD_some (d := []) hlt)
      generalize ws.getD k [] = r at c0 hx hn'
      clear hcell hu
      by_cases hp : 8 < r.length
      all_goals
        have HP := Lib.hid hp
        repeat' (first | go_values | go_skip | go_guarded | (with_reducible (first | refine ex_then_ret ?_ | refine ex_then_exit ?_ | refine ex_then_normal ?_ | refine ex_block_ret ?_ | refine ex_block_normal ?_ | refine ex_block_same ?_ | refine ex_block_other (by decide) ?_)) | go_step | go_upon)
        refine (many _ r.length _ _ hn').mono ?_
        rintro e w1 ⟨rfl, rfl⟩
        dsimp only
        repeat' (first | go_values | go_skip | go_guarded | (with_reducible (first | refine ex_then_ret ?_ | refine ex_then_exit ?_ | refine ex_then_normal ?_ | refine ex_block_ret ?_ | refine ex_block_normal ?_ | refine ex_block_same ?_ | refine ex_block_other (by decide) ?_)) | go_step | go_upon)
      · go_ret
        have hB := HB.out
        exact ⟨_, rfl, by rw [seek_hit hlt hx.out HA.out (by simpa using HP.out)]; simp, (by repeat (with_reducible (first | exact Below.refl _ _ | assumption | refine Below.to ?_ (by assumption) | refine below_drewN ?_ _ | refine Below.alloc ?_ (by first | (simp; done) | omega | (simp; omega) | (simp at *; omega)) _ | refine Below.setCell ?_ (by first | (simp; done) | omega | (simp; omega) | (simp at *; omega)) _ | refine Below.drew ?_)))⟩
      · have hB := HB.out
        exact ⟨⟨k + 1, by omega, by go_num, (by repeat (with_reducible (first | exact Below.refl _ _ | assumption | refine Below.to ?_ (by assumption) | refine below_drewN ?_ _ | refine Below.alloc ?_ (by first | (simp; done) | omega | (simp; omega) | (simp at *; omega)) _ | refine Below.setCell ?_ (by first | (simp; done) | omega | (simp; omega) | (simp at *; omega)) _ | refine Below.drew ?_))), seek_miss hlt hx.out HA.out (by simpa using HP.out)⟩, by simp [intOf]; omega⟩
    · repeat' (first | go_values | go_skip | go_guarded | (with_reducible (first | refine ex_then_ret ?_ | refine ex_then_exit ?_ | refine ex_then_normal ?_ | refine ex_block_ret ?_ | refine ex_block_normal ?_ | refine ex_block_same ?_ | refine ex_block_other (by decide) ?_)) | go_step | go_upon)
      go_ret
      have hB := HB.out
      exact ⟨_, rfl, by rw [seek_end hlt HA.out]; rfl, (by repeat (with_reducible (first | exact Below.refl _ _ | assumption | refine Below.to ?_ (by assumption) | refine below_drewN ?_ _ | refine Below.alloc ?_ (by first | (simp; done) | omega | (simp; omega) | (simp at *; omega)) _ | refine Below.setCell ?_ (by first | (simp; done) | omega | (simp; omega) | (simp at *; omega)) _ | refine Below.drew ?_)))⟩
theorem contW (v : Value) (ws : List (List (List Int))) (w : World) (h : WinsAt w v ws) :
    Calls Tryd.prog 27 #[v, .func (.func 26) #[] #[]] w (Gives (.bool (ws.any (fun l => decide (8 < l.length)))) w) := by
  go_enter Tryd.func27, Tryd.ntmps27
  repeat' (first | go_values | go_skip | go_guarded | (with_reducible (first | refine ex_then_ret ?_ | refine ex_then_exit ?_ | refine ex_then_normal ?_ | refine ex_block_ret ?_ | refine ex_block_normal ?_ | refine ex_block_same ?_ | refine ex_block_other (by decide) ?_)) | go_step | go_upon)
  refine (idxW v ws w h).mono ?_
  rintro e w1 ⟨r, rfl, hr, hb⟩
  have HR := Lib.hid hr
  clear hr
  dsimp only
  repeat' (first | go_values | go_skip | go_guarded | (with_reducible (first | refine ex_then_ret ?_ | refine ex_then_exit ?_ | refine ex_then_normal ?_ | refine ex_block_ret ?_ | refine ex_block_normal ?_ | refine ex_block_same ?_ | refine ex_block_other (by decide) ?_)) | go_step | go_upon)
  all_goals go_ret
  all_goals exact gives_bool HR.out (by repeat (with_reducible (first | exact Below.refl _ _ | assumption | refine Below.to ?_ (by assumption) | refine below_drewN ?_ _ | refine Below.alloc ?_ (by first | (simp; done) | omega | (simp; omega) | (simp at *; omega)) _ | refine Below.setCell ?_ (by first | (simp; done) | omega | (simp; omega) | (simp at *; omega)) _ | refine Below.drew ?_)))

set_option maxHeartbeats 2000000 in
theorem channel (a : Option Addr) (np cp : Nat) (fr k f t s d : Int) (vw vc : Value) (w : World) (hn : np ≤ 9223372036854775807) :
    Calls Tryd.prog 34 #[.agg #[.slice a np cp, .int .i64 fr, vw, vc], .agg #[.int .i64 k, .int .i64 f, .int .i64 t, .int .i64 s, .int .i64 d]] w (Gives (.bool (Pl.chanB np [k, f, t, s, d])) w) := by
  by_cases h1 : k = 1
  · subst h1
    go_enter Tryd.func34, Tryd.ntmps34
    repeat' (first | go_values | go_skip | go_guarded | (with_reducible (first | refine ex_then_ret ?_ | refine ex_then_exit ?_ | refine ex_then_normal ?_ | refine ex_block_ret ?_ | refine ex_block_normal ?_ | refine ex_block_same ?_ | refine ex_block_other (by decide) ?_)) | go_step | go_upon | go_quiet (fail))
    all_goals go_ret
    all_goals refine gives_bool ?_ (by repeat (with_reducible (first | exact Below.refl _ _ | assumption | refine Below.to ?_ (by assumption) | refine below_drewN ?_ _ | refine Below.alloc ?_ (by first | (simp; done) | omega | (simp; omega) | (simp at *; omega)) _ | refine Below.setCell ?_ (by first | (simp; done) | omega | (simp; omega) | (simp at *; omega)) _ | refine Below.drew ?_)))
    all_goals (unfold Pl.chanB; simp only [Pl.g, List.getD_cons_zero, List.getD_cons_succ]; rw [Bool.eq_iff_iff]; simp; try omega)
  · by_cases h2 : k = 2
    · subst h2
      go_enter Tryd.func34, Tryd.ntmps34
      repeat' (first | go_values | go_skip | go_guarded | (with_reducible (first | refine ex_then_ret ?_ | refine ex_then_exit ?_ | refine ex_then_normal ?_ | refine ex_block_ret ?_ | refine ex_block_normal ?_ | refine ex_block_same ?_ | refine ex_block_other (by decide) ?_)) | go_step | go_upon | go_quiet (fail))
      all_goals go_ret
      all_goals refine gives_bool ?_ (by repeat (with_reducible (first | exact Below.refl _ _ | assumption | refine Below.to ?_ (by assumption) | refine below_drewN ?_ _ | refine Below.alloc ?_ (by first | (simp; done) | omega | (simp; omega) | (simp at *; omega)) _ | refine Below.setCell ?_ (by first | (simp; done) | omega | (simp; omega) | (simp at *; omega)) _ | refine Below.drew ?_)))
      all_goals (unfold Pl.chanB; simp only [Pl.g, List.getD_cons_zero, List.getD_cons_succ]; rw [Bool.eq_iff_iff]; simp; try omega)
    · have h1' : (k == 1) = false := by simpa using h1
      have h2' : (k == 2) = false := by simpa using h2
      go_enter Tryd.func34, Tryd.ntmps34
      repeat' (first | go_values | go_skip | go_guarded | (with_reducible (first | refine ex_then_ret ?_ | refine ex_then_exit ?_ | refine ex_then_normal ?_ | refine ex_block_ret ?_ | refine ex_block_normal ?_ | refine ex_block_same ?_ | refine ex_block_other (by decide) ?_)) | go_step | go_upon | go_quiet (fail))
      all_goals go_ret
      all_goals refine gives_bool ?_ (by repeat (with_reducible (first | exact Below.refl _ _ | assumption | refine Below.to ?_ (by assumption) | refine below_drewN ?_ _ | refine Below.alloc ?_ (by first | (simp; done) | omega | (simp; omega) | (simp at *; omega)) _ | refine Below.setCell ?_ (by first | (simp; done) | omega | (simp; omega) | (simp at *; omega)) _ | refine Below.drew ?_)))
      all_goals (unfold Pl.chanB; simp only [Pl.g, List.getD_cons_zero, List.getD_cons_succ]; rw [Bool.eq_iff_iff]; simp; try omega)

/-- the plan that a closure has caught -/
def PlanCell (W : World) (bp : Nat) (vp : Value) (fr : Int) (vw vc : Value) : Prop :=
  bp < W.heap.size ∧ W.cell? ⟨bp, 0, none⟩ = some vp ∧ W.cell? ⟨bp, 1, none⟩ = some (.int .i64 fr) ∧ W.cell? ⟨bp, 2, none⟩ = some vw ∧ W.cell? ⟨bp, 3, none⟩ = some vc
theorem PlanCell.below {W W' : World} {bp : Nat} {vp vw vc : Value} {fr : Int} (h : PlanCell W bp vp fr vw vc) (hb : Below W.heap.size W W') : PlanCell W' bp vp fr vw vc := by
  obtain ⟨hl, h0, h1, h2, h3⟩ := h
  exact ⟨Nat.lt_of_lt_of_le hl hb.size, (hb.cell (p := ⟨bp, 0, none⟩) hl).trans h0, (hb.cell (p := ⟨bp, 1, none⟩) hl).trans h1, (hb.cell (p := ⟨bp, 2, none⟩) hl).trans h2, (hb.cell (p := ⟨bp, 3, none⟩) hl).trans h3⟩

set_option maxHeartbeats 1000000 in
theorem notChan (bp : Nat) (a : Option Addr) (np cp : Nat) (fr k f t s d : Int) (c2 c3 : Option Addr) (n2 n3 m2 m3 : Nat) (w : World) (hn : np ≤ 9223372036854775807) (hP : PlanCell w bp (.slice a np cp) fr (.slice c2 n2 m2) (.slice c3 n3 m3)) :
    Calls Tryd.prog 33 #[.agg #[.int .i64 k, .int .i64 f, .int .i64 t, .int .i64 s, .int .i64 d], .pointer (some ⟨bp, 0, none⟩)] w (Gives (.bool (!Pl.chanB np [k, f, t, s, d])) w) := by
  obtain ⟨hl, h0, h1, h2, h3⟩ := hP
  go_enter Tryd.func33, Tryd.ntmps33
  repeat' (first | (go_at_call 34; refine (channel a np cp fr k f t s d _ _ _ hn).mono ?_; rintro e w1 ⟨rfl, hb1⟩; dsimp only) | go_values | go_skip | go_guarded | (with_reducible (first | refine ex_then_ret ?_ | refine ex_then_exit ?_ | refine ex_then_normal ?_ | refine ex_block_ret ?_ | refine ex_block_normal ?_ | refine ex_block_same ?_ | refine ex_block_other (by decide) ?_)) | go_step | go_upon)
  all_goals go_ret
  all_goals exact gives_bool rfl (by repeat (with_reducible (first | exact Below.refl _ _ | assumption | refine Below.to ?_ (by assumption) | refine below_drewN ?_ _ | refine Below.alloc ?_ (by first | (simp; done) | omega | (simp; omega) | (simp at *; omega)) _ | refine Below.setCell ?_ (by first | (simp; done) | omega | (simp; omega) | (simp at *; omega)) _ | refine Below.drew ?_)))

set_option maxHeartbeats 1000000 in
theorem idxC (bp : Nat) (pa : Option Addr) (np cp : Nat) (fr : Int) (c2' c3' : Option Addr) (n2 n3 m2 m3 : Nat) (hnp : np ≤ 9223372036854775807) (v : Value) (l : List (List Int)) (w : World) (hP : PlanCell w bp (.slice pa np cp) fr (.slice c2' n2 m2) (.slice c3' n3 m3)) (h : RowsAt w 5 v l) :
    Calls Tryd.prog 48 #[v, .func (.func 33) #[] #[.pointer (some ⟨bp, 0, none⟩)]] w (Found (l.any (fun r => !Pl.chanB np r)) w) := by
  obtain ⟨a, c, rfl, hn, hc⟩ := h
  have HC := Lib.hid hc
  have HPC := Lib.hid hP
  clear hc hP
  go_enter Tryd.func48, Tryd.ntmps48
  repeat' (first | go_values | go_skip | go_guarded | (with_reducible (first | refine ex_then_ret ?_ | refine ex_then_exit ?_ | refine ex_then_normal ?_ | refine ex_block_ret ?_ | refine ex_block_normal ?_ | refine ex_block_same ?_ | refine ex_block_other (by decide) ?_)) | go_step | go_upon)
  go_loopw [8] (fun v wr => Seek (List Int) w l (fun r => !Pl.chanB np r) v wr) (fun v _ => l.length - (intOf v).toNat)
  case atStart => exact ⟨0, Nat.zero_le _, rfl, Below.refl _ _, by rw [List.drop_zero]⟩
  case round =>
    obtain ⟨k, hk, rfl, hb, hany⟩ := hrel
    have HB := Lib.hid hb
    have HA := Lib.hid hany
    clear hb hany
    by_cases hlt : k < l.length
    · obtain hnil | ⟨b, off, rfl, hbl, hcell⟩ := HC.out
      · rw [hnil] at hlt; exact absurd hlt (Nat.not_lt_zero _)
      have at_ := fun j hj => (HB.out.cell (p := ⟨b, off + k * 5 + j, none⟩) hbl).trans (hcell k j hlt hj)
      have c0 := at_ 0 (by omega)
      have c1 := at_ 1 (by omega)
      have c2 := at_ 2 (by omega)
      have c3 := at_ 3 (by omega)
      have c4 := at_ 4 (by omega)
      rw [Nat.add_zero] at c0
      have hx := Lib.hid (getD_some (d := []) hlt)
      generalize l.getD k [] = r at c0 c1 c2 c3 c4 hx
      clear at_ hcell
      cases hp : Pl.chanB np r
      all_goals
        have HP := Lib.hid hp
        clear hp
        repeat' (first | go_values | go_skip | go_guarded | (with_reducible (first | refine ex_then_ret ?_ | refine ex_then_exit ?_ | refine ex_then_normal ?_ | refine ex_block_ret ?_ | refine ex_block_normal ?_ | refine ex_block_same ?_ | refine ex_block_other (by decide) ?_)) | go_step | go_upon)
        refine (notChan bp pa np cp fr (Pl.g r 0) (Pl.g r 1) (Pl.g r 2) (Pl.g r 3) (Pl.g r 4) _ _ _ _ _ _ _ hnp (HPC.out.below HB.out)).mono ?_
        rintro e w1 ⟨rfl, hb1⟩
        rw [show Pl.chanB np [Pl.g r 0, Pl.g r 1, Pl.g r 2, Pl.g r 3, Pl.g r 4] = Pl.chanB np r from rfl, HP.out]
        dsimp only
        repeat' (first | go_values | go_skip | go_guarded | (with_reducible (first | refine ex_then_ret ?_ | refine ex_then_exit ?_ | refine ex_then_normal ?_ | refine ex_block_ret ?_ | refine ex_block_normal ?_ | refine ex_block_same ?_ | refine ex_block_other (by decide) ?_)) | go_step | go_upon)
      · go_ret
        have hB := HB.out
        exact ⟨_, rfl, by rw [seek_hit hlt hx.out HA.out (by simp [HP.out])]; simp, (by repeat (with_reducible (first | exact Below.refl _ _ | assumption | refine Below.to ?_ (by assumption) | refine below_drewN ?_ _ | refine Below.alloc ?_ (by first | (simp; done) | omega | (simp; omega) | (simp at *; omega)) _ | refine Below.setCell ?_ (by first | (simp; done) | omega | (simp; omega) | (simp at *; omega)) _ | refine Below.drew ?_)))⟩
      · have hB := HB.out
        exact ⟨⟨k + 1, by omega, by go_num, (by repeat (with_reducible (first | exact Below.refl _ _ | assumption | refine Below.to ?_ (by assumption) | refine below_drewN ?_ _ | refine Below.alloc ?_ (by first | (simp; done) | omega | (simp; omega) | (simp at *; omega)) _ | refine Below.setCell ?_ (by first | (simp; done) | omega | (simp; omega) | (simp at *; omega)) _ | refine Below.drew ?_))), seek_miss hlt hx.out HA.out (by simp [HP.out])⟩, by simp [intOf]; omega⟩
    · repeat' (first | go_values | go_skip | go_guarded | (with_reducible (first | refine ex_then_ret ?_ | refine ex_then_exit ?_ | refine ex_then_normal ?_ | refine ex_block_ret ?_ | refine ex_block_normal ?_ | refine ex_block_same ?_ | refine ex_block_other (by decide) ?_)) | go_step | go_upon)
      go_ret
      have hB := HB.out
      exact ⟨_, rfl, by rw [seek_end hlt HA.out]; rfl, (by repeat (with_reducible (first | exact Below.refl _ _ | assumption | refine Below.to ?_ (by assumption) | refine below_drewN ?_ _ | refine Below.alloc ?_ (by first | (simp; done) | omega | (simp; omega) | (simp at *; omega)) _ | refine Below.setCell ?_ (by first | (simp; done) | omega | (simp; omega) | (simp at *; omega)) _ | refine Below.drew ?_)))⟩
theorem contC (bp : Nat) (pa : Option Addr) (np cp : Nat) (fr : Int) (c2' c3' : Option Addr) (n2 n3 m2 m3 : Nat) (hnp : np ≤ 9223372036854775807) (v : Value) (l : List (List Int)) (w : World) (hP : PlanCell w bp (.slice pa np cp) fr (.slice c2' n2 m2) (.slice c3' n3 m3)) (h : RowsAt w 5 v l) :
    Calls Tryd.prog 32 #[v, .func (.func 33) #[] #[.pointer (some ⟨bp, 0, none⟩)]] w (Gives (.bool (l.any (fun r => !Pl.chanB np r))) w) := by
  have HPC := Lib.hid hP
  clear hP
  go_enter Tryd.func32, Tryd.ntmps32
  repeat' (first | go_values | go_skip | go_guarded | (with_reducible (first | refine ex_then_ret ?_ | refine ex_then_exit ?_ | refine ex_then_normal ?_ | refine ex_block_ret ?_ | refine ex_block_normal ?_ | refine ex_block_same ?_ | refine ex_block_other (by decide) ?_)) | go_step | go_upon)
  refine (idxC bp pa np cp fr _ _ _ _ _ _ hnp v l w HPC.out h).mono ?_
  rintro e w1 ⟨r, rfl, hr, hb⟩
  have HR := Lib.hid hr
  clear hr
  dsimp only
  repeat' (first | go_values | go_skip | go_guarded | (with_reducible (first | refine ex_then_ret ?_ | refine ex_then_exit ?_ | refine ex_then_normal ?_ | refine ex_block_ret ?_ | refine ex_block_normal ?_ | refine ex_block_same ?_ | refine ex_block_other (by decide) ?_)) | go_step | go_upon)
  all_goals go_ret
  all_goals exact gives_bool HR.out (by repeat (with_reducible (first | exact Below.refl _ _ | assumption | refine Below.to ?_ (by assumption) | refine below_drewN ?_ _ | refine Below.alloc ?_ (by first | (simp; done) | omega | (simp; omega) | (simp at *; omega)) _ | refine Below.setCell ?_ (by first | (simp; done) | omega | (simp; omega) | (simp at *; omega)) _ | refine Below.drew ?_)))

end Plan
end Go.Proofs.YtiggoojjefmcoaaDoor
