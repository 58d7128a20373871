/- A window's look. Condition: a frame is an integer. -/
import Derived.Test.YtiggoojjefmcoaaDoorPlanWalkB
import Derived.WalkKit
import Derived.WalkSpells
import Derived.WalkLawsBesides
import Derived.Lib.Hide
import Derived.BigQuiet
import Derived.Deep.QuietTactic

set_option linter.unusedVariables false
set_option linter.unusedSimpArgs false
namespace Go.Proofs.YtiggoojjefmcoaaDoor
open Go.RowKit
namespace Plan
set_option maxHeartbeats 2000000 in
theorem window (a : Option Addr) (np cp : Nat) (fr p f n behind : Int) (vw vc : Value) (w : World) (hn : np ≤ 9223372036854775807) (hfr : fr ≤ 9223372036854775807) :
    Calls Tryd.prog 31 #[.agg #[.slice a np cp, .int .i64 fr, vw, vc], .agg #[.int .i64 p, .int .i64 f, .int .i64 n], .int .i64 behind] w (Gives (.int .i64 (Pl.winE np fr [p, f, n] behind)) w) := by
  by_cases h1 : n ≤ 2 ∨ fr < n
  · rcases h1 with h1 | h1
    all_goals
      go_enter Tryd.func31, Tryd.ntmps31
      repeat' (first | go_values | go_skip | go_guarded | (with_reducible (first | refine ex_then_ret ?_ | refine ex_then_exit ?_ | refine ex_then_normal ?_ | refine ex_block_ret ?_ | refine ex_block_normal ?_ | refine ex_block_same ?_ | refine ex_block_other (by decide) ?_)) | go_step | go_upon | go_quiet (fail))
      all_goals go_ret
      all_goals refine gives_int ?_ (by repeat (with_reducible (first | exact Below.refl _ _ | assumption | refine Below.to ?_ (by assumption) | refine below_drewN ?_ _ | refine Below.alloc ?_ (by first | (simp; done) | omega | (simp; omega) | (simp at *; omega)) _ | refine Below.setCell ?_ (by first | (simp; done) | omega | (simp; omega) | (simp at *; omega)) _ | refine Below.drew ?_)))
      all_goals (unfold Pl.winE; simp only [Pl.g, List.getD_cons_zero, List.getD_cons_succ]; first | (rw [if_pos (by omega)]; done) | (rw [if_neg (by omega), if_pos (by omega)]; done) | (rw [if_neg (by omega), if_neg (by omega)]; done))
  · have h2 : 2 < n := by omega
    have h3 : n ≤ fr := by omega
    go_enter Tryd.func31, Tryd.ntmps31
    repeat' (first | go_values | go_skip | go_guarded | (with_reducible (first | refine ex_then_ret ?_ | refine ex_then_exit ?_ | refine ex_then_normal ?_ | refine ex_block_ret ?_ | refine ex_block_normal ?_ | refine ex_block_same ?_ | refine ex_block_other (by decide) ?_)) | go_step | go_upon | go_quiet (fail))
    all_goals go_ret
    all_goals refine gives_int ?_ (by repeat (with_reducible (first | exact Below.refl _ _ | assumption | refine Below.to ?_ (by assumption) | refine below_drewN ?_ _ | refine Below.alloc ?_ (by first | (simp; done) | omega | (simp; omega) | (simp at *; omega)) _ | refine Below.setCell ?_ (by first | (simp; done) | omega | (simp; omega) | (simp at *; omega)) _ | refine Below.drew ?_)))
    all_goals (unfold Pl.winE; simp only [Pl.g, List.getD_cons_zero, List.getD_cons_succ]; first | (rw [if_pos (by omega)]; done) | (rw [if_neg (by omega), if_pos (by omega)]; done) | (rw [if_neg (by omega), if_neg (by omega)]; done))

end Plan
end Go.Proofs.YtiggoojjefmcoaaDoor
