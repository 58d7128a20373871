/- load.Same: are two images the same. No condition. -/
import Derived.Test.YtonhphdoieojfaaDoorLoadWalkB
import Derived.WalkKit
import Derived.WalkSpells
import Derived.WalkLawsBesides
import Derived.Lib.Hide
import Derived.BigQuiet
import Derived.Deep.QuietTactic

set_option linter.unusedVariables false
set_option linter.unusedSimpArgs false
namespace Go.Proofs.YtonhphdoieojfaaDoor
open Go.RowKit
namespace Load
theorem same (u v : Value) (l m : List ByteArray) (w : World) (hu : StrsAt w u l) (hv : StrsAt w v m) :
    Calls Tryd.prog 23 #[u, v] w (Gives (.bool (decide (l = m))) w) := by
  have HU := Lib.hid hu
  have HV := Lib.hid hv
  obtain ⟨a, c, rfl, _⟩ := hu
  obtain ⟨a', c', rfl, _⟩ := hv
  go_enter Tryd.func23, Tryd.ntmps23
  repeat' (first | (go_at_call 31; refine (equal _ _ l m _ (HU.out.below (by repeat (with_reducible (first | exact Below.refl _ _ | assumption | refine Below.to ?_ (by assumption) | refine below_drewN ?_ _ | refine Below.alloc ?_ (by first | (simp; done) | omega | (simp; omega) | (simp at *; omega)) _ | refine Below.setCell ?_ (by first | (simp; done) | omega | (simp; omega) | (simp at *; omega)) _ | refine Below.drew ?_)))) (HV.out.below (by repeat (with_reducible (first | exact Below.refl _ _ | assumption | refine Below.to ?_ (by assumption) | refine below_drewN ?_ _ | refine Below.alloc ?_ (by first | (simp; done) | omega | (simp; omega) | (simp at *; omega)) _ | refine Below.setCell ?_ (by first | (simp; done) | omega | (simp; omega) | (simp at *; omega)) _ | refine Below.drew ?_))))).mono ?_; rintro e w1 ⟨rfl, hb1⟩; dsimp only) | go_values | go_skip | go_guarded | (with_reducible (first | refine ex_then_ret ?_ | refine ex_then_exit ?_ | refine ex_then_normal ?_ | refine ex_block_ret ?_ | refine ex_block_normal ?_ | refine ex_block_same ?_ | refine ex_block_other (by decide) ?_)) | go_step | go_upon)
  all_goals go_ret
  all_goals exact gives_bool rfl (by repeat (with_reducible (first | exact Below.refl _ _ | assumption | refine Below.to ?_ (by assumption) | refine below_drewN ?_ _ | refine Below.alloc ?_ (by first | (simp; done) | omega | (simp; omega) | (simp at *; omega)) _ | refine Below.setCell ?_ (by first | (simp; done) | omega | (simp; omega) | (simp at *; omega)) _ | refine Below.drew ?_)))
set_option maxHeartbeats 1000000 in
theorem equalF (u v : Value) (l m : List (List ByteArray)) (w : World) (hu : ImgsAt w u l) (hv : ImgsAt w v m) :
    Calls Tryd.prog 22 #[u, v, .func (.func 23) #[] #[]] w (Gives (.bool (decide (l = m))) w) := by
  obtain ⟨a, c, rfl, hn, hc⟩ := hu
  obtain ⟨a', c', rfl, hn', hc'⟩ := hv
  have HC := Lib.hid hc
  have HC' := Lib.hid hc'
  clear hc hc'
  by_cases hlen : l.length = m.length
  · go_enter Tryd.func22, Tryd.ntmps22
    repeat' (first | go_values | go_skip | go_guarded | (with_reducible (first | refine ex_then_ret ?_ | refine ex_then_exit ?_ | refine ex_then_normal ?_ | refine ex_block_ret ?_ | refine ex_block_normal ?_ | refine ex_block_same ?_ | refine ex_block_other (by decide) ?_)) | go_step | go_upon)
    go_loopw [17] (fun v wr => Alike w l m v wr) (fun v _ => l.length - (intOf v).toNat)
    case atStart => exact ⟨0, Nat.zero_le _, rfl, Below.refl _ _, by rw [List.drop_zero, List.drop_zero]⟩
    case round =>
      obtain ⟨k, hk, rfl, hb, hany⟩ := hrel
      have HB := Lib.hid hb
      have HA := Lib.hid hany
      clear hb hany
      by_cases hlt : k < l.length
      · have hlt' : k < m.length := by omega
        obtain hnil | ⟨b, off, rfl, hbl, hcell⟩ := HC.out
        · rw [hnil] at hlt; exact absurd hlt (Nat.not_lt_zero _)
        obtain hnil | ⟨b', off', rfl, hbl', hcell'⟩ := HC'.out
        · rw [hnil] at hlt'; exact absurd hlt' (Nat.not_lt_zero _)
        obtain ⟨u1, hu1, hs1⟩ := hcell k hlt
        obtain ⟨u2, hu2, hs2⟩ := hcell' k hlt'
        have c0 := (HB.out.cell (p := ⟨b, off + k, none⟩) hbl).trans hu1
        have d0 := (HB.out.cell (p := ⟨b', off' + k, none⟩) hbl').trans hu2
        have HS1 := Lib.hid hs1
        have HS2 := Lib.hid hs2
        obtain ⟨a1, n1, rfl, hn1, _⟩ := hs1
        obtain ⟨a2, n2, rfl, hn2, _⟩ := hs2
        clear hcell hcell' hu1 hu2
        have hB := HB.out
        by_cases he : l.getD k [] = m.getD k []
        · have HN := Lib.hid (eq_drop hlt hlt' HA.out he)
          have HE := Lib.hid (decide_eq_true he)
          clear he
          generalize l.getD k [] = r at *
          generalize m.getD k [] = t at *
          repeat' (first | (go_at_call 23; refine (same _ _ r t _ (HS1.out.below (by repeat (with_reducible (first | exact Below.refl _ _ | assumption | refine Below.to ?_ (by assumption) | refine below_drewN ?_ _ | refine Below.alloc ?_ (by first | (simp; done) | omega | (simp; omega) | (simp at *; omega)) _ | refine Below.setCell ?_ (by first | (simp; done) | omega | (simp; omega) | (simp at *; omega)) _ | refine Below.drew ?_)))) (HS2.out.below (by repeat (with_reducible (first | exact Below.refl _ _ | assumption | refine Below.to ?_ (by assumption) | refine below_drewN ?_ _ | refine Below.alloc ?_ (by first | (simp; done) | omega | (simp; omega) | (simp at *; omega)) _ | refine Below.setCell ?_ (by first | (simp; done) | omega | (simp; omega) | (simp at *; omega)) _ | refine Below.drew ?_))))).mono ?_; rintro e w1 ⟨rfl, hb1⟩; rw [HE.out]; dsimp only) | go_values | go_skip | go_guarded | (with_reducible (first | refine ex_then_ret ?_ | refine ex_then_exit ?_ | refine ex_then_normal ?_ | refine ex_block_ret ?_ | refine ex_block_normal ?_ | refine ex_block_same ?_ | refine ex_block_other (by decide) ?_)) | go_step | go_upon | go_quiet (fail))
          exact ⟨⟨k + 1, by omega, by go_num, (by repeat (with_reducible (first | exact Below.refl _ _ | assumption | refine Below.to ?_ (by assumption) | refine below_drewN ?_ _ | refine Below.alloc ?_ (by first | (simp; done) | omega | (simp; omega) | (simp at *; omega)) _ | refine Below.setCell ?_ (by first | (simp; done) | omega | (simp; omega) | (simp at *; omega)) _ | refine Below.drew ?_))), HN.out⟩, by simp [intOf]; omega⟩
        · have HN := Lib.hid (ne_drop hlt hlt' HA.out he)
          have HE := Lib.hid (decide_eq_false he)
          clear he
          generalize l.getD k [] = r at *
          generalize m.getD k [] = t at *
          repeat' (first | (go_at_call 23; refine (same _ _ r t _ (HS1.out.below (by repeat (with_reducible (first | exact Below.refl _ _ | assumption | refine Below.to ?_ (by assumption) | refine below_drewN ?_ _ | refine Below.alloc ?_ (by first | (simp; done) | omega | (simp; omega) | (simp at *; omega)) _ | refine Below.setCell ?_ (by first | (simp; done) | omega | (simp; omega) | (simp at *; omega)) _ | refine Below.drew ?_)))) (HS2.out.below (by repeat (with_reducible (first | exact Below.refl _ _ | assumption | refine Below.to ?_ (by assumption) | refine below_drewN ?_ _ | refine Below.alloc ?_ (by first | (simp; done) | omega | (simp; omega) | (simp at *; omega)) _ | refine Below.setCell ?_ (by first | (simp; done) | omega | (simp; omega) | (simp at *; omega)) _ | refine Below.drew ?_))))).mono ?_; rintro e w1 ⟨rfl, hb1⟩; rw [HE.out]; dsimp only) | go_values | go_skip | go_guarded | (with_reducible (first | refine ex_then_ret ?_ | refine ex_then_exit ?_ | refine ex_then_normal ?_ | refine ex_block_ret ?_ | refine ex_block_normal ?_ | refine ex_block_same ?_ | refine ex_block_other (by decide) ?_)) | go_step | go_upon | go_quiet (fail))
          go_ret
          exact gives_bool HN.out.symm (by repeat (with_reducible (first | exact Below.refl _ _ | assumption | refine Below.to ?_ (by assumption) | refine below_drewN ?_ _ | refine Below.alloc ?_ (by first | (simp; done) | omega | (simp; omega) | (simp at *; omega)) _ | refine Below.setCell ?_ (by first | (simp; done) | omega | (simp; omega) | (simp at *; omega)) _ | refine Below.drew ?_)))
      · have HN := Lib.hid (show decide (l = m) = true by rw [HA.out, List.drop_of_length_le (by omega), List.drop_of_length_le (by omega)]; simp)
        repeat' (first | go_values | go_skip | go_guarded | (with_reducible (first | refine ex_then_ret ?_ | refine ex_then_exit ?_ | refine ex_then_normal ?_ | refine ex_block_ret ?_ | refine ex_block_normal ?_ | refine ex_block_same ?_ | refine ex_block_other (by decide) ?_)) | go_step | go_upon)
        go_ret
        have hB := HB.out
        exact gives_bool HN.out.symm (by repeat (with_reducible (first | exact Below.refl _ _ | assumption | refine Below.to ?_ (by assumption) | refine below_drewN ?_ _ | refine Below.alloc ?_ (by first | (simp; done) | omega | (simp; omega) | (simp at *; omega)) _ | refine Below.setCell ?_ (by first | (simp; done) | omega | (simp; omega) | (simp at *; omega)) _ | refine Below.drew ?_)))
  · go_enter Tryd.func22, Tryd.ntmps22
    have hlen' : ¬ (l.length : Int) = m.length := by omega
    repeat' (first | go_values | go_skip | go_guarded | (with_reducible (first | refine ex_then_ret ?_ | refine ex_then_exit ?_ | refine ex_then_normal ?_ | refine ex_block_ret ?_ | refine ex_block_normal ?_ | refine ex_block_same ?_ | refine ex_block_other (by decide) ?_)) | go_step | go_upon)
    all_goals go_ret
    all_goals exact gives_bool (by symm; rw [decide_eq_false_iff_not]; intro h; exact hlen (by rw [h])) (by repeat (with_reducible (first | exact Below.refl _ _ | assumption | refine Below.to ?_ (by assumption) | refine below_drewN ?_ _ | refine Below.alloc ?_ (by first | (simp; done) | omega | (simp; omega) | (simp at *; omega)) _ | refine Below.setCell ?_ (by first | (simp; done) | omega | (simp; omega) | (simp at *; omega)) _ | refine Below.drew ?_)))
theorem Same (u v : Value) (l m : List (List ByteArray)) (w : World) (hu : ImgsAt w u l) (hv : ImgsAt w v m) :
    Calls Tryd.prog 13 #[u, v] w (Gives (.bool (decide (l = m))) w) := by
  have HU := Lib.hid hu
  have HV := Lib.hid hv
  obtain ⟨a, c, rfl, _⟩ := hu
  obtain ⟨a', c', rfl, _⟩ := hv
  go_enter Tryd.func13, Tryd.ntmps13
  repeat' (first | (go_at_call 22; refine (equalF _ _ l m _ (HU.out.below (by repeat (with_reducible (first | exact Below.refl _ _ | assumption | refine Below.to ?_ (by assumption) | refine below_drewN ?_ _ | refine Below.alloc ?_ (by first | (simp; done) | omega | (simp; omega) | (simp at *; omega)) _ | refine Below.setCell ?_ (by first | (simp; done) | omega | (simp; omega) | (simp at *; omega)) _ | refine Below.drew ?_)))) (HV.out.below (by repeat (with_reducible (first | exact Below.refl _ _ | assumption | refine Below.to ?_ (by assumption) | refine below_drewN ?_ _ | refine Below.alloc ?_ (by first | (simp; done) | omega | (simp; omega) | (simp at *; omega)) _ | refine Below.setCell ?_ (by first | (simp; done) | omega | (simp; omega) | (simp at *; omega)) _ | refine Below.drew ?_))))).mono ?_; rintro e w1 ⟨rfl, hb1⟩; dsimp only) | go_values | go_skip | go_guarded | (with_reducible (first | refine ex_then_ret ?_ | refine ex_then_exit ?_ | refine ex_then_normal ?_ | refine ex_block_ret ?_ | refine ex_block_normal ?_ | refine ex_block_same ?_ | refine ex_block_other (by decide) ?_)) | go_step | go_upon)
  all_goals go_ret
  all_goals exact gives_bool rfl (by repeat (with_reducible (first | exact Below.refl _ _ | assumption | refine Below.to ?_ (by assumption) | refine below_drewN ?_ _ | refine Below.alloc ?_ (by first | (simp; done) | omega | (simp; omega) | (simp at *; omega)) _ | refine Below.setCell ?_ (by first | (simp; done) | omega | (simp; omega) | (simp at *; omega)) _ | refine Below.drew ?_)))
end Load
end Go.Proofs.YtonhphdoieojfaaDoor
