/- The end of a plan's windows, and what a plan with another frame is. No condition. -/
import Derived.Test.YtiggoojjefmcoaaPlanFacts
namespace Go.Proofs.Ytiggoojjefmcoaa.Pl
def rowEnd : List (List Int) → Int → Int
  | [], e => e
  | r :: l, e => rowEnd l (if e < g r 1 + g r 2 then g r 1 + g r 2 else e)
def winsEnd : List (List (List Int)) → Int → Int
  | [], e => e
  | l :: ls, e => winsEnd ls (rowEnd l e)
theorem winE_other {np fr n b : Int} {r : List Int} (h : winE np fr r b = 0) : winE np n r b = 0 ↔ g r 1 + g r 2 ≤ n := by
  obtain ⟨g0, g1, g2, g3, g4, g5⟩ := win_facts h
  unfold winE
  split
  · constructor
    · intro h; omega
    · intro h; omega
  · split
    · constructor
      · intro h; omega
      · intro h; omega
    · constructor
      · intro h; omega
      · intro h; rfl
theorem rowE_other {np fr n : Int} (l : List (List Int)) : ∀ b e : Int, rowE np fr l b = 0 → ((rowE np n l b = 0 ∧ e ≤ n) ↔ rowEnd l e ≤ n) := by
  induction l with
  | nil => intro b e _; simp [rowE, rowEnd]
  | cons r l ih =>
    intro b e h
    rw [rowE] at h
    have hw : winE np fr r b = 0 := by
      by_cases h1 : winE np fr r b = 0
      · exact h1
      · rw [if_neg h1] at h; exact absurd h h1
    rw [if_pos hw] at h
    have h2 := winE_other (n := n) hw
    rw [rowE, rowEnd, ← ih _ (if e < g r 1 + g r 2 then g r 1 + g r 2 else e) h]
    by_cases h3 : winE np n r b = 0
    · rw [if_pos h3]
      have := h2.1 h3
      constructor
      · rintro ⟨a, c⟩; refine ⟨a, ?_⟩; split <;> omega
      · rintro ⟨a, c⟩; refine ⟨a, ?_⟩; split at c <;> omega
    · rw [if_neg h3]
      have : ¬ g r 1 + g r 2 ≤ n := fun h => h3 (h2.2 h)
      constructor
      · rintro ⟨a, c⟩; exact absurd a h3
      · rintro ⟨a, c⟩; split at c <;> omega
theorem winsE_other {np fr n : Int} (ws : List (List (List Int))) : ∀ e : Int, winsE np fr ws = 0 → ((winsE np n ws = 0 ∧ e ≤ n) ↔ winsEnd ws e ≤ n) := by
  induction ws with
  | nil => intro e _; simp [winsE, winsEnd]
  | cons l ws ih =>
    intro e h
    rw [winsE] at h
    have hw : rowE np fr l 0 = 0 := by
      by_cases h1 : rowE np fr l 0 = 0
      · exact h1
      · rw [if_neg h1] at h; exact absurd h h1
    rw [if_pos hw] at h
    have h2 := rowE_other (n := n) l 0 e hw
    rw [winsE, winsEnd, ← ih _ h, ← h2]
    by_cases h3 : rowE np n l 0 = 0
    · rw [if_pos h3]
      simp [h3]
    · rw [if_neg h3]
      simp [h3]
theorem check_moved {P : Plan} (h : check P = 0) (n : Int) : check ⟨P.ps, n, P.ws, P.cs⟩ = 0 ↔ winsEnd P.ws 1 ≤ n ∧ n ≤ 4096 := by
  obtain ⟨f1, f2, f3, f4, f5, f6, f7, f8, f9, f10, f11⟩ := check_zero h
  have hw := winsE_other (n := n) P.ws 1 f10
  constructor
  · intro h0
    obtain ⟨_, _, _, _, _, k6, k7, _, _, k10, _⟩ := check_zero h0
    exact ⟨hw.1 ⟨k10, k6⟩, k7⟩
  · rintro ⟨h1, h2⟩
    obtain ⟨h3, h4⟩ := hw.2 h1
    unfold check
    rw [if_neg (by simp only [f8]; simp; omega), if_neg (by simp only []; omega), if_neg (by simp only [f9]; simp; omega), if_neg (by simp only [h3]; simp), if_neg (by simp only [f11]; simp)]
theorem winsEnd_step {ws : List (List (List Int))} {k : Nat} {e : Int} (hk : k < ws.length) : winsEnd (ws.drop k) e = winsEnd (ws.drop (k + 1)) (rowEnd (ws.getD k []) e) := by
  rw [List.getD_eq_getElem?_getD, List.getElem?_eq_getElem hk, Option.getD_some, List.drop_eq_getElem_cons hk, winsEnd]
theorem rowEnd_step {l : List (List Int)} {k : Nat} {e : Int} (hk : k < l.length) : rowEnd (l.drop k) e = rowEnd (l.drop (k + 1)) (if e < g (l.getD k []) 1 + g (l.getD k []) 2 then g (l.getD k []) 1 + g (l.getD k []) 2 else e) := by
  rw [List.getD_eq_getElem?_getD, List.getElem?_eq_getElem hk, Option.getD_some, List.drop_eq_getElem_cons hk, rowEnd]
end Go.Proofs.Ytiggoojjefmcoaa.Pl
