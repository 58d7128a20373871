/- What a plan that may be is, from Pl.check. No condition. -/
import Derived.Test.YtiggoojjefmcoaaDoorPlanPlain
namespace Go.Proofs.YtiggoojjefmcoaaDoor.Pl

theorem check_zero {P : Plan} (h : check P = 0) : 1 ≤ P.ps.length ∧ P.ps.length ≤ 4 ∧ 1 ≤ P.ws.length ∧ P.ws.length ≤ 3 ∧ P.cs.length ≤ 6 ∧ 1 ≤ P.fr ∧ P.fr ≤ 4096 ∧
    P.ws.any (fun l => decide (8 < l.length)) = false ∧ P.ps.any (fun r => !partB r) = false ∧ winsE P.ps.length P.fr P.ws = 0 ∧ P.cs.any (fun r => !chanB P.ps.length r) = false := by
  unfold check at h
  by_cases h1 : 4 < P.ps.length ∨ 3 < P.ws.length ∨ 6 < P.cs.length ∨ P.ws.any (fun l => decide (8 < l.length)) = true
  · rw [if_pos h1] at h; omega
  rw [if_neg h1] at h
  by_cases h2 : P.ps.length = 0 ∨ P.ws.length = 0
  · rw [if_pos h2] at h; omega
  rw [if_neg h2] at h
  by_cases h3 : P.ps.any (fun r => !partB r) = true ∨ P.fr < 1 ∨ 4096 < P.fr
  · rw [if_pos h3] at h; omega
  rw [if_neg h3] at h
  by_cases h4 : winsE P.ps.length P.fr P.ws ≠ 0
  · rw [if_pos h4] at h; exact absurd h h4
  rw [if_neg h4] at h
  by_cases h5 : P.cs.any (fun r => !chanB P.ps.length r) = true
  · rw [if_pos h5] at h; omega
  simp only [not_or] at h1 h2 h3
  refine ⟨by omega, by omega, by omega, by omega, by omega, by omega, by omega, by simpa using h1.2.2.2, by simpa using h3.1, by omega, by simpa using h5⟩
theorem chan_of {P : Plan} (h : check P = 0) {k : Nat} (hk : k < P.cs.length) : chanB P.ps.length (P.cs.getD k []) = true := by
  have ha := (check_zero h).2.2.2.2.2.2.2.2.2.2
  rw [List.any_eq_false] at ha
  have hm : P.cs.getD k [] ∈ P.cs := by
    rw [List.getD_eq_getElem?_getD, List.getElem?_eq_getElem hk]
    exact List.getElem_mem hk
  have := ha _ hm
  simpa using this
theorem chan_facts {np : Int} {r : List Int} (h : chanB np r = true) : (g r 0 = 1 ∨ g r 0 = 2) ∧ 0 ≤ g r 1 ∧ g r 1 < np ∧ 0 ≤ g r 2 ∧ g r 2 < np ∧ g r 1 ≠ g r 2 ∧ 1 ≤ g r 3 ∧ g r 3 ≤ 32 ∧ 1 ≤ g r 4 ∧ g r 4 ≤ 8 ∧ (g r 0 = 1 → g r 4 = 1) := by
  unfold chanB at h
  rw [decide_eq_true_eq] at h
  by_cases h1 : g r 0 = 1
  · rw [if_pos h1] at h
    omega
  · rw [if_neg h1] at h
    omega
theorem wins_of {np fr : Int} {ws : List (List (List Int))} {k : Nat} (h : winsE np fr (ws.drop k) = 0) (hk : k < ws.length) : rowE np fr (ws.getD k []) 0 = 0 ∧ winsE np fr (ws.drop (k + 1)) = 0 := by
  rw [List.drop_eq_getElem_cons hk, winsE] at h
  rw [List.getD_eq_getElem?_getD, List.getElem?_eq_getElem hk, Option.getD_some]
  by_cases h1 : rowE np fr ws[k] 0 = 0
  · rw [if_pos h1] at h; exact ⟨h1, h⟩
  · rw [if_neg h1] at h; exact absurd h h1
theorem rows_of {np fr b : Int} {l : List (List Int)} {k : Nat} (h : rowE np fr (l.drop k) b = 0) (hk : k < l.length) : winE np fr (l.getD k []) b = 0 ∧ rowE np fr (l.drop (k + 1)) (g (l.getD k []) 1 + g (l.getD k []) 2) = 0 := by
  rw [List.drop_eq_getElem_cons hk, rowE] at h
  rw [List.getD_eq_getElem?_getD, List.getElem?_eq_getElem hk, Option.getD_some]
  by_cases h1 : winE np fr l[k] b = 0
  · rw [if_pos h1] at h; exact ⟨h1, h⟩
  · rw [if_neg h1] at h; exact absurd h h1
theorem win_facts {np fr b : Int} {r : List Int} (h : winE np fr r b = 0) : 0 ≤ g r 0 ∧ g r 0 < np ∧ 0 ≤ g r 1 ∧ 2 < g r 2 ∧ g r 1 + g r 2 ≤ fr ∧ b ≤ g r 1 := by
  unfold winE at h
  split at h
  · omega
  · split at h
    · omega
    · omega
end Go.Proofs.YtiggoojjefmcoaaDoor.Pl
