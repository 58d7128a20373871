/- What the walks of transomref03.Does lean on: register rows behind a store; power, signed. Condition: words. -/
import Derived.Test.YtllemloicianmaaDoorCpuDoes0
import Derived.WalkKit
import Derived.WalkSpells
import Derived.WalkLawsBesides
import Derived.Lib.Hide
import Derived.BigQuiet
import Derived.Deep.QuietTactic

namespace Go.Proofs.YtllemloicianmaaDoor
open Go.RowKit
namespace RDoes
theorem updL (rs : List Int) (k : Nat) (x : Int) (j : Nat) (hj : j < rs.length) : ((rs.map (Value.int .u32)).set k (.int .u32 x))[j]? = some (.int .u32 (Cp.upd rs k x j)) := by
  simp only [List.getElem?_set, Cp.upd, List.getD_eq_getElem?_getD]
  by_cases h : k = j
  · subst h; simp [hj]
  · simp [h, List.getElem?_eq_getElem hj]
theorem updG (rs : List Int) (k : Nat) (x : Int) (j : Nat) (hj : j < rs.length) (h : j < ((rs.map (Value.int .u32)).set k (.int .u32 x)).length) : ((rs.map (Value.int .u32)).set k (.int .u32 x))[j]'h = .int .u32 (Cp.upd rs k x j) :=
  Option.some.inj ((List.getElem?_eq_getElem h).symm.trans (updL rs k x j hj))
theorem upd8 {r0 r1 r2 r3 r4 r5 r6 r7 p x : Int} {k : Nat} (hk : k < 8) : Cp.upd [r0, r1, r2, r3, r4, r5, r6, r7, p] k x 8 = p := by
  have h' : k = 0 ∨ k = 1 ∨ k = 2 ∨ k = 3 ∨ k = 4 ∨ k = 5 ∨ k = 6 ∨ k = 7 := by omega
  rcases h' with rfl | rfl | rfl | rfl | rfl | rfl | rfl | rfl <;> simp [Cp.upd]
theorem selL {r0 r1 r2 r3 r4 r5 r6 r7 p q x : Value} {k : Nat} (h : [r0, r1, r2, r3, r4, r5, r6, r7, p][k]? = some x) (hk : k < 8) : [r0, r1, r2, r3, r4, r5, r6, r7, q][k]? = some x := by
  have h' : k = 0 ∨ k = 1 ∨ k = 2 ∨ k = 3 ∨ k = 4 ∨ k = 5 ∨ k = 6 ∨ k = 7 := by omega
  rcases h' with rfl | rfl | rfl | rfl | rfl | rfl | rfl | rfl <;> exact h

theorem cpu_keep {r0 r1 r2 r3 r4 r5 r6 r7 p p' : Int} (hp : p = p') :
    Value.agg #[.int .u32 r0, .int .u32 r1, .int .u32 r2, .int .u32 r3, .int .u32 r4, .int .u32 r5, .int .u32 r6, .int .u32 r7, .int .u32 p] = Cp.cpuV [r0, r1, r2, r3, r4, r5, r6, r7] p' := by rw [hp]; rfl

def pw (j : Nat) : Int := 2 ^ j
theorem pw_succ (j : Nat) : pw (j + 1) = pw j + pw j := by unfold pw; rw [Int.pow_succ]; omega
theorem pw_pos (j : Nat) : 1 ≤ pw j := by
  induction j with
  | zero => decide
  | succ j ih => rw [pw_succ]; omega
theorem pw_le {i j : Nat} (h : i ≤ j) : pw i ≤ pw j := by
  induction h with
  | refl => exact Int.le_refl _
  | step _ ih => rw [pw_succ]; have := pw_pos ‹_›; omega
theorem pw_31 : pw 31 = 2147483648 := by decide

set_option maxHeartbeats 1000000 in
theorem power (n : Int) (w : World) (h0 : 0 ≤ n) (h1 : n < 32) :
    Calls Tryd.prog 22 #[.int .u32 n] w (Is (.int .u32 (pw n.toNat)) w) := by
  obtain ⟨m, rfl⟩ := Int.eq_ofNat_of_zero_le h0
  rw [Int.toNat_natCast]
  go_enter Tryd.func22, Tryd.ntmps22
  go_wp2
  go_loop [0, 3] (fun x v => ∃ k : Nat, k ≤ m ∧ x = .int .u32 k ∧ v = .int .u32 (pw (m - k))) (fun x _ => (intOf x).toNat)
  case atStart => exact ⟨m, Nat.le_refl _, rfl, by rw [Nat.sub_self]; rfl⟩
  case round =>
    obtain ⟨k, hk, rfl, rfl⟩ := hrel
    by_cases hlt : 0 < k
    · have hs := pw_succ (m - k)
      have hp := pw_pos (m - k)
      have hle := pw_le (show m - k + 1 ≤ 31 by omega)
      rw [pw_31] at hle
      have HS : Hid (pw (m - (k - 1)) = pw (m - k) + pw (m - k)) := by rw [← hs, show m - (k - 1) = m - k + 1 by omega]; exact rfl
      rw [hs] at hle
      clear hs
      go_wp2
      go_round
      case rel => exact ⟨k - 1, by omega, by rw [show ((k - 1 : Nat) : Int) = (k : Int) - 1 by omega], by rw [HS.out]⟩
      case measure => simp [intOf]; omega
    · obtain rfl : k = 0 := by omega
      go_wp2
      go_ret
      exact ⟨by simp, rfl⟩

theorem signed (x : Int) (w : World) (h0 : 0 ≤ x) (h1 : x < 4294967296) :
    Calls Tryd.prog 23 #[.int .u32 x] w (Is (.int .i64 (Cp.sgn x)) w) := by
  by_cases h : 2147483648 ≤ x
  · go_enter Tryd.func23, Tryd.ntmps23
    go_wp2
    all_goals (go_ret; refine is_int ?_)
    all_goals (unfold Cp.sgn; simp [h])
  · go_enter Tryd.func23, Tryd.ntmps23
    go_wp2
    all_goals (go_ret; refine is_int ?_)
    all_goals (unfold Cp.sgn; rw [if_neg (by omega)])
end RDoes
end Go.Proofs.YtllemloicianmaaDoor
