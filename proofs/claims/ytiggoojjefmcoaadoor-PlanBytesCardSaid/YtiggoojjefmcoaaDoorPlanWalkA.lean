/- The small functions of package plan, and the searches. No condition. -/
import Derived.Test.YtiggoojjefmcoaaDoorProg
import Derived.Test.YtiggoojjefmcoaaDoorPlanAt
import Derived.Handy
import Derived.WalkKit
import Derived.WalkSpells
import Derived.WalkLawsBesides
import Derived.Lib.Hide
import Derived.BigQuiet
import Derived.Deep.QuietTactic

set_option linter.unusedVariables false
set_option linter.unusedSimpArgs false
namespace Go.Proofs.YtiggoojjefmcoaaDoor
open Go.RowKit
namespace Plan
theorem odd (x : Int) (w : World) : Calls Tryd.prog 46 #[.int .i64 x] w (Is (.bool (Pl.odd x)) w) := by
  go_enter Tryd.func46, Tryd.ntmps46
  go_wp2
  all_goals (go_ret; refine is_bool ?_)
  all_goals (unfold Pl.odd; simp; try omega)
theorem many (a : Option Addr) (n c : Nat) (w : World) (hn : n ≤ 9223372036854775807) : Calls Tryd.prog 26 #[.slice a n c] w (Is (.bool (decide (8 < n))) w) := by
  go_enter Tryd.func26, Tryd.ntmps26
  go_wp2
  all_goals (go_ret; refine is_bool ?_)
  all_goals (simp; try omega)

set_option maxHeartbeats 1000000 in
theorem idx3 (b : Nat) (x y z : Int) (w : World) (c0 : w.cell? ⟨b, 1, none⟩ = some (.int .i64 x)) (c1 : w.cell? ⟨b, 2, none⟩ = some (.int .i64 y)) (c2 : w.cell? ⟨b, 3, none⟩ = some (.int .i64 z)) :
    Calls Tryd.prog 57 #[.slice (some ⟨b, 1, none⟩) 3 3, .func (.func 46) #[] #[]] w (Found (Pl.odd3 x y z) w) := by
  cases hx : Pl.odd x
  · cases hy : Pl.odd y
    · cases hz : Pl.odd z
      all_goals
        have H : Hid (Pl.odd3 x y z = _) := Lib.hid (show Pl.odd3 x y z = (Pl.odd x || (Pl.odd y || Pl.odd z)) from rfl)
        go_enter Tryd.func57, Tryd.ntmps57
        repeat' (first | go_values | go_skip | go_guarded | (with_reducible (first | refine ex_then_ret ?_ | refine ex_then_exit ?_ | refine ex_then_normal ?_ | refine ex_block_ret ?_ | refine ex_block_normal ?_ | refine ex_block_same ?_ | refine ex_block_other (by decide) ?_)) | go_step | go_upon)
        refine wp_loop_rounds 4 ?_
        rw [rounds_succ]
        go_wp2_with (go_at_call 46; refine (odd _ _).mono ?_; rintro e w' ⟨rfl, rfl⟩)
        rw [rounds_succ]
        go_wp2_with (go_at_call 46; refine (odd _ _).mono ?_; rintro e w' ⟨rfl, rfl⟩)
        rw [rounds_succ]
        go_wp2_with (go_at_call 46; refine (odd _ _).mono ?_; rintro e w' ⟨rfl, rfl⟩)
        try (rw [rounds_succ]; go_wp2_with fail)
        go_ret
        exact ⟨_, rfl, by rw [H.out, hx, hy, hz]; rfl, (by repeat (with_reducible (first | exact Below.refl _ _ | assumption | refine Below.to ?_ (by assumption) | refine below_drewN ?_ _ | refine Below.alloc ?_ (by first | (simp; done) | omega | (simp; omega) | (simp at *; omega)) _ | refine Below.setCell ?_ (by first | (simp; done) | omega | (simp; omega) | (simp at *; omega)) _ | refine Below.drew ?_)))⟩
    · have H : Hid (Pl.odd3 x y z = _) := Lib.hid (show Pl.odd3 x y z = (Pl.odd x || (Pl.odd y || Pl.odd z)) from rfl)
      go_enter Tryd.func57, Tryd.ntmps57
      repeat' (first | go_values | go_skip | go_guarded | (with_reducible (first | refine ex_then_ret ?_ | refine ex_then_exit ?_ | refine ex_then_normal ?_ | refine ex_block_ret ?_ | refine ex_block_normal ?_ | refine ex_block_same ?_ | refine ex_block_other (by decide) ?_)) | go_step | go_upon)
      refine wp_loop_rounds 4 ?_
      rw [rounds_succ]
      go_wp2_with (go_at_call 46; refine (odd _ _).mono ?_; rintro e w' ⟨rfl, rfl⟩)
      rw [rounds_succ]
      go_wp2_with (go_at_call 46; refine (odd _ _).mono ?_; rintro e w' ⟨rfl, rfl⟩)
      go_ret
      exact ⟨_, rfl, by rw [H.out, hx, hy]; rfl, (by repeat (with_reducible (first | exact Below.refl _ _ | assumption | refine Below.to ?_ (by assumption) | refine below_drewN ?_ _ | refine Below.alloc ?_ (by first | (simp; done) | omega | (simp; omega) | (simp at *; omega)) _ | refine Below.setCell ?_ (by first | (simp; done) | omega | (simp; omega) | (simp at *; omega)) _ | refine Below.drew ?_)))⟩
  · have H : Hid (Pl.odd3 x y z = _) := Lib.hid (show Pl.odd3 x y z = (Pl.odd x || (Pl.odd y || Pl.odd z)) from rfl)
    go_enter Tryd.func57, Tryd.ntmps57
    repeat' (first | go_values | go_skip | go_guarded | (with_reducible (first | refine ex_then_ret ?_ | refine ex_then_exit ?_ | refine ex_then_normal ?_ | refine ex_block_ret ?_ | refine ex_block_normal ?_ | refine ex_block_same ?_ | refine ex_block_other (by decide) ?_)) | go_step | go_upon)
    refine wp_loop_rounds 4 ?_
    rw [rounds_succ]
    go_wp2_with (go_at_call 46; refine (odd _ _).mono ?_; rintro e w' ⟨rfl, rfl⟩)
    go_ret
    exact ⟨_, rfl, by rw [H.out, hx]; rfl, (by repeat (with_reducible (first | exact Below.refl _ _ | assumption | refine Below.to ?_ (by assumption) | refine below_drewN ?_ _ | refine Below.alloc ?_ (by first | (simp; done) | omega | (simp; omega) | (simp at *; omega)) _ | refine Below.setCell ?_ (by first | (simp; done) | omega | (simp; omega) | (simp at *; omega)) _ | refine Below.drew ?_)))⟩
theorem cont3 (b : Nat) (x y z : Int) (w : World) (c0 : w.cell? ⟨b, 1, none⟩ = some (.int .i64 x)) (c1 : w.cell? ⟨b, 2, none⟩ = some (.int .i64 y)) (c2 : w.cell? ⟨b, 3, none⟩ = some (.int .i64 z)) :
    Calls Tryd.prog 47 #[.slice (some ⟨b, 1, none⟩) 3 3, .func (.func 46) #[] #[]] w (Gives (.bool (Pl.odd3 x y z)) w) := by
  go_enter Tryd.func47, Tryd.ntmps47
  repeat' (first | go_values | go_skip | go_guarded | (with_reducible (first | refine ex_then_ret ?_ | refine ex_then_exit ?_ | refine ex_then_normal ?_ | refine ex_block_ret ?_ | refine ex_block_normal ?_ | refine ex_block_same ?_ | refine ex_block_other (by decide) ?_)) | go_step | go_upon)
  refine (idx3 b x y z w c0 c1 c2).mono ?_
  rintro e w1 ⟨r, rfl, hr, hb⟩
  have HR := Lib.hid hr
  clear hr
  dsimp only
  repeat' (first | go_values | go_skip | go_guarded | (with_reducible (first | refine ex_then_ret ?_ | refine ex_then_exit ?_ | refine ex_then_normal ?_ | refine ex_block_ret ?_ | refine ex_block_normal ?_ | refine ex_block_same ?_ | refine ex_block_other (by decide) ?_)) | go_step | go_upon)
  all_goals go_ret
  all_goals exact gives_bool HR.out (by repeat (with_reducible (first | exact Below.refl _ _ | assumption | refine Below.to ?_ (by assumption) | refine below_drewN ?_ _ | refine Below.alloc ?_ (by first | (simp; done) | omega | (simp; omega) | (simp at *; omega)) _ | refine Below.setCell ?_ (by first | (simp; done) | omega | (simp; omega) | (simp at *; omega)) _ | refine Below.drew ?_)))
set_option maxHeartbeats 1000000 in
theorem part (m a b c : Int) (w : World) : Calls Tryd.prog 30 #[.agg #[.int .i64 m, .int .i64 a, .int .i64 b, .int .i64 c]] w (Gives (.bool (Pl.partB [m, a, b, c])) w) := by
  go_enter Tryd.func30, Tryd.ntmps30
  repeat' (first | (go_at_call 47; refine (cont3 _ a b c _ (by go_simp) (by go_simp) (by go_simp)).mono ?_; rintro e w1 ⟨rfl, hb1⟩; dsimp only) | go_values | go_skip | go_guarded | (with_reducible (first | refine ex_then_ret ?_ | refine ex_then_exit ?_ | refine ex_then_normal ?_ | refine ex_block_ret ?_ | refine ex_block_normal ?_ | refine ex_block_same ?_ | refine ex_block_other (by decide) ?_)) | go_step | go_upon)
  all_goals go_ret
  all_goals refine gives_bool ?_ (by repeat (with_reducible (first | exact Below.refl _ _ | assumption | refine Below.to ?_ (by assumption) | refine below_drewN ?_ _ | refine Below.alloc ?_ (by first | (simp; done) | omega | (simp; omega) | (simp at *; omega)) _ | refine Below.setCell ?_ (by first | (simp; done) | omega | (simp; omega) | (simp at *; omega)) _ | refine Below.drew ?_)))
  all_goals (show _ = (decide (64 ≤ m) && (decide (m ≤ 1024) && ((m % 4 == 0) && !Pl.odd3 a b c))); first | (simp [*]; done) | (simp_all; done) | grind)
set_option maxHeartbeats 1000000 in
theorem notPart (m a b c : Int) (w : World) : Calls Tryd.prog 29 #[.agg #[.int .i64 m, .int .i64 a, .int .i64 b, .int .i64 c]] w (Gives (.bool (!Pl.partB [m, a, b, c])) w) := by
  go_enter Tryd.func29, Tryd.ntmps29
  repeat' (first | (go_at_call 30; refine (part _ _ _ _ _).mono ?_; rintro e w1 ⟨rfl, hb1⟩; dsimp only) | go_values | go_skip | go_guarded | (with_reducible (first | refine ex_then_ret ?_ | refine ex_then_exit ?_ | refine ex_then_normal ?_ | refine ex_block_ret ?_ | refine ex_block_normal ?_ | refine ex_block_same ?_ | refine ex_block_other (by decide) ?_)) | go_step | go_upon)
  all_goals go_ret
  all_goals exact gives_bool rfl (by repeat (with_reducible (first | exact Below.refl _ _ | assumption | refine Below.to ?_ (by assumption) | refine below_drewN ?_ _ | refine Below.alloc ?_ (by first | (simp; done) | omega | (simp; omega) | (simp at *; omega)) _ | refine Below.setCell ?_ (by first | (simp; done) | omega | (simp; omega) | (simp at *; omega)) _ | refine Below.drew ?_)))
end Plan
end Go.Proofs.YtiggoojjefmcoaaDoor
