/- transomref20.num: the number at a place, or why there is none. No condition. -/
import Derived.Test.YtonhphdoieojfaaDoorLoadUnpAt
import Derived.WalkKit
import Derived.WalkSpells
import Derived.WalkLawsBesides
import Derived.Lib.Hide
import Derived.BigQuiet
import Derived.Deep.QuietTactic

set_option linter.unusedVariables false
set_option linter.unusedSimpArgs false
namespace Go.Proofs.YtonhphdoieojfaaDoor
open Go.RowKit
namespace Rf
set_option maxHeartbeats 1000000 in
theorem num_more (s : ByteArray) (p : Nat) (m : Int) (W : World) (hs : s.size ≤ 140737488355328) (hp : s.size ≤ p) (hp' : p ≤ 140737488355328) : Calls Tryd.prog 21 #[.string s, .int .i64 (p : Int), .int .i64 m] W (Is (.tuple #[.int .i64 0, .int .i64 2]) W) := by
  have hpI : ¬ (p : Int) < s.size := by omega
  go_enter Tryd.func21, Tryd.ntmps21
  repeat' (first | go_values | go_skip | go_guarded | (with_reducible (first | refine ex_then_ret ?_ | refine ex_then_exit ?_ | refine ex_then_normal ?_ | refine ex_block_ret ?_ | refine ex_block_normal ?_ | refine ex_block_same ?_ | refine ex_block_other (by decide) ?_)) | go_step | go_upon | go_quiet (fail))
  go_ret2
  exact is_of rfl
set_option maxHeartbeats 1000000 in
theorem num_big (s : ByteArray) (p : Nat) (m : Int) (W : World) (hs : s.size ≤ 140737488355328) (hp : p < s.size) (hm : m < (s[p].toNat : Int)) : Calls Tryd.prog 21 #[.string s, .int .i64 (p : Int), .int .i64 m] W (Is (.tuple #[.int .i64 0, .int .i64 4]) W) := by
  have hpI : (p : Int) < s.size := by omega
  have hp0 : (0 : Int) ≤ p := by omega
  have hx1 : (s[p].toNat : Int) ≤ 255 := by have := s[p].toNat_lt; omega
  go_enter Tryd.func21, Tryd.ntmps21
  repeat' (first | go_values | go_skip | go_guarded | (with_reducible (first | refine ex_then_ret ?_ | refine ex_then_exit ?_ | refine ex_then_normal ?_ | refine ex_block_ret ?_ | refine ex_block_normal ?_ | refine ex_block_same ?_ | refine ex_block_other (by decide) ?_)) | go_step | go_upon | go_quiet (fail))
  go_ret2
  exact is_of rfl
set_option maxHeartbeats 1000000 in
theorem num_ok (s : ByteArray) (p : Nat) (m : Int) (W : World) (hs : s.size ≤ 140737488355328) (hp : p < s.size) (hm : ¬ m < (s[p].toNat : Int)) : Calls Tryd.prog 21 #[.string s, .int .i64 (p : Int), .int .i64 m] W (Is (.tuple #[.int .i64 (s[p].toNat : Int), .int .i64 0]) W) := by
  have hpI : (p : Int) < s.size := by omega
  have hp0 : (0 : Int) ≤ p := by omega
  have hx1 : (s[p].toNat : Int) ≤ 255 := by have := s[p].toNat_lt; omega
  go_enter Tryd.func21, Tryd.ntmps21
  repeat' (first | go_values | go_skip | go_guarded | (with_reducible (first | refine ex_then_ret ?_ | refine ex_then_exit ?_ | refine ex_then_normal ?_ | refine ex_block_ret ?_ | refine ex_block_normal ?_ | refine ex_block_same ?_ | refine ex_block_other (by decide) ?_)) | go_step | go_upon | go_quiet (fail))
  go_ret2
  exact is_of rfl
end Rf
end Go.Proofs.YtonhphdoieojfaaDoor
