/- plan.Take's beginning: strings.CutPrefix; how what the call has made stays while it reads on. Condition: bytes are as many as a string can have. -/
import Derived.Test.YtiggoojjefmcoaaDoorPlanRead
import Derived.Test.YtiggoojjefmcoaaDoorOwnN
import Derived.WalkKit
import Derived.WalkSpells
import Derived.WalkLawsBesides
import Derived.Lib.Hide
import Derived.BigQuiet
import Derived.Deep.QuietTactic

set_option linter.unusedVariables false
set_option linter.unusedSimpArgs false
namespace Go.Proofs.YtiggoojjefmcoaaDoor
open Go.RowKit
namespace Tk
theorem tp_toList (s : ByteArray) (h : 2 ≤ s.size) : ((s.extract 0 2).toList == ([84, 80] : List UInt8)) = decide (s.data.toList.take 2 = [84, 80]) := by
  rw [ByteArray.toList_eq, ByteArray.data_extract, Array.toList_extract, List.extract_eq_take_drop, List.drop_zero, Bool.eq_iff_iff, beq_iff_eq, decide_eq_true_eq]
set_option maxHeartbeats 1000000 in
set_option maxRecDepth 100000 in
theorem cut_yes (s : ByteArray) (w : World) (hs : s.size ≤ 140737488355328) (h : s.data.toList.take 2 = [84, 80]) : Calls Tryd.prog 19 #[.string s, .string ⟨#[84, 80]⟩] w (Is (.tuple #[.string (s.extract 2 s.size), .bool true]) w) := by
  have h2 : 2 ≤ s.size := by
    have := congrArg List.length h
    rw [List.length_take, Array.length_toList] at this
    simp at this
    omega
  have hq := tp_toList s h2
  rw [decide_eq_true h] at hq
  have h2I : (2 : Int) ≤ s.size := by omega
  clear h
  go_enter Tryd.func19, Tryd.ntmps19
  go_wp2
  all_goals go_ret2
  all_goals exact is_of rfl
set_option maxHeartbeats 1000000 in
set_option maxRecDepth 100000 in
theorem cut_no (s : ByteArray) (w : World) (hs : s.size ≤ 140737488355328) (h : ¬ s.data.toList.take 2 = [84, 80]) : Calls Tryd.prog 19 #[.string s, .string ⟨#[84, 80]⟩] w (Is (.tuple #[.string s, .bool false]) w) := by
  by_cases h2 : 2 ≤ s.size
  · have hq := tp_toList s h2
    rw [decide_eq_false h] at hq
    have h2I : (2 : Int) ≤ s.size := by omega
    clear h
    go_enter Tryd.func19, Tryd.ntmps19
    go_wp2
    all_goals go_ret2
    all_goals exact is_of rfl
  · have h2I : ¬ (2 : Int) ≤ s.size := by omega
    go_enter Tryd.func19, Tryd.ntmps19
    go_wp2
    all_goals go_ret2
    all_goals exact is_of rfl
end Tk
end Go.Proofs.YtiggoojjefmcoaaDoor
