/- A plan's bytes in plain Lean: its numbers one behind the other, two bytes each; what has the same bytes is the same. No condition. -/
import Derived.Test.YtiggoojjefmcoaaDoorPlanFacts
set_option linter.unusedVariables false
set_option linter.unusedSimpArgs false
namespace Go.Proofs.YtiggoojjefmcoaaDoor.Pl
def r3 (r : List Int) : List Int := [g r 0, g r 1, g r 2]
def r4 (r : List Int) : List Int := [g r 0, g r 1, g r 2, g r 3]
def r5 (r : List Int) : List Int := [g r 0, g r 1, g r 2, g r 3, g r 4]
def b2 (n : Int) : List UInt8 := [UInt8.ofNat (n / 256).toNat, UInt8.ofNat (n % 256).toNat]
def enc (l : List Int) : List UInt8 := 84 :: 80 :: l.flatMap b2
/-- the numbers, stage by stage -/
def nums1 (P : Plan) (k : Nat) : List Int := (P.ps.length : Int) :: (P.ps.take k).flatMap r4
def nums2 (P : Plan) : List Int := nums1 P P.ps.length ++ [P.fr, (P.ws.length : Int)]
def win (l : List (List Int)) : List Int := (l.length : Int) :: l.flatMap r3
def nums3 (P : Plan) (k : Nat) : List Int := nums2 P ++ (P.ws.take k).flatMap win
def nums3' (P : Plan) (k : Nat) (l : List (List Int)) (j : Nat) : List Int := nums3 P k ++ (l.length : Int) :: (l.take j).flatMap r3
def nums4 (P : Plan) : List Int := nums3 P P.ws.length ++ [(P.cs.length : Int)]
def nums5 (P : Plan) (k : Nat) : List Int := nums4 P ++ (P.cs.take k).flatMap r5
def nums (P : Plan) : List Int := nums5 P P.cs.length
theorem enc_append (a b : List Int) : enc (a ++ b) = enc a ++ b.flatMap b2 := by simp [enc]
theorem enc_length (l : List Int) : (enc l).length = 2 + 2 * l.length := by
  have h : ∀ m : List Int, (m.flatMap b2).length = 2 * m.length := by
    intro m
    induction m with
    | nil => rfl
    | cons x m ih => rw [List.flatMap_cons, List.length_append, ih, List.length_cons]; simp [b2]; omega
  simp only [enc, List.length_cons, h]
  omega
theorem flat_length {f : List Int → List Int} {n : Nat} (hf : ∀ r, (f r).length = n) (l : List (List Int)) : (l.flatMap f).length = n * l.length := by
  induction l with
  | nil => simp
  | cons x l ih => rw [List.flatMap_cons, List.length_append, ih, hf, List.length_cons]; rw [Nat.mul_add]; omega
theorem take_len {α : Type} (l : List α) (k : Nat) : (l.take k).length ≤ l.length := List.length_take_le' _ _
theorem any_win {ws : List (List (List Int))} (h : ws.any (fun l => decide (8 < l.length)) = false) : ∀ l ∈ ws, l.length ≤ 8 := by
  intro l hl
  have := List.any_eq_false.1 h l hl
  simpa using this
theorem wins_length (ws : List (List (List Int))) (h : ∀ l ∈ ws, l.length ≤ 8) : (ws.flatMap win).length ≤ 25 * ws.length := by
  induction ws with
  | nil => simp
  | cons x l ih =>
    have h1 := h x (by simp)
    have h2 := ih (fun y hy => h y (by simp [hy]))
    have h3 : (x.flatMap r3).length = 3 * x.length := flat_length (f := r3) (n := 3) (fun _ => rfl) x
    rw [List.flatMap_cons, List.length_append]
    simp only [win, List.length_cons]
    omega
theorem nums1_length {P : Plan} (h : check P = 0) (k : Nat) : (nums1 P k).length ≤ 17 := by
  obtain ⟨_, h1, _⟩ := check_zero h
  have := flat_length (f := r4) (n := 4) (fun _ => rfl) (P.ps.take k)
  have h2 := take_len P.ps k
  simp only [nums1, List.length_cons]
  omega
theorem nums2_length {P : Plan} (h : check P = 0) : (nums2 P).length ≤ 19 := by
  have := nums1_length h P.ps.length
  simp only [nums2, List.length_append, List.length_cons, List.length_nil]
  omega
theorem nums3_length {P : Plan} (h : check P = 0) (k : Nat) : (nums3 P k).length ≤ 94 := by
  have h1 := nums2_length h
  obtain ⟨_, _, _, h3, _, _, _, h8, _⟩ := check_zero h
  have h4 := wins_length (P.ws.take k) (fun l hl => any_win h8 l (List.mem_of_mem_take hl))
  have h5 := take_len P.ws k
  simp only [nums3, List.length_append]
  omega
theorem nums3'_length {P : Plan} (h : check P = 0) (k : Nat) {l : List (List Int)} (hl : l.length ≤ 8) (j : Nat) : (nums3' P k l j).length ≤ 119 := by
  have h1 := nums3_length h k
  have h4 := flat_length (f := r3) (n := 3) (fun _ => rfl) (l.take j)
  have h5 := take_len l j
  simp only [nums3', List.length_append, List.length_cons]
  omega
theorem nums4_length {P : Plan} (h : check P = 0) : (nums4 P).length ≤ 95 := by
  have := nums3_length h P.ws.length
  simp only [nums4, List.length_append, List.length_cons, List.length_nil]
  omega
theorem nums5_length {P : Plan} (h : check P = 0) (k : Nat) : (nums5 P k).length ≤ 125 := by
  have h1 := nums4_length h
  obtain ⟨_, _, _, _, h3, _⟩ := check_zero h
  have h4 := flat_length (f := r5) (n := 5) (fun _ => rfl) (P.cs.take k)
  have h5 := take_len P.cs k
  simp only [nums5, List.length_append]
  omega
theorem take_next {l : List (List Int)} {k : Nat} {f : List Int → List Int} (h : k < l.length) : (l.take (k + 1)).flatMap f = (l.take k).flatMap f ++ f (l.getD k []) := by
  rw [List.take_succ_eq_append_getElem h, List.flatMap_append, List.getD_eq_getElem?_getD, List.getElem?_eq_getElem h]
  simp
theorem take_nextW {l : List (List (List Int))} {k : Nat} {f : List (List Int) → List Int} (h : k < l.length) : (l.take (k + 1)).flatMap f = (l.take k).flatMap f ++ f (l.getD k []) := by
  rw [List.take_succ_eq_append_getElem h, List.flatMap_append, List.getD_eq_getElem?_getD, List.getElem?_eq_getElem h]
  simp
theorem enc1_next {P : Plan} {k : Nat} (h : k < P.ps.length) : enc (nums1 P k) ++ (r4 (P.ps.getD k [])).flatMap b2 = enc (nums1 P (k + 1)) := by
  rw [← enc_append, nums1, nums1, take_next h, List.cons_append]
theorem enc2_of (P : Plan) : enc (nums1 P P.ps.length) ++ [P.fr, (P.ws.length : Int)].flatMap b2 = enc (nums2 P) := by rw [← enc_append, nums2]
theorem enc3_zero (P : Plan) : enc (nums2 P) = enc (nums3 P 0) := by simp [nums3]
theorem enc3'_zero (P : Plan) (k : Nat) (l : List (List Int)) : enc (nums3 P k) ++ [(l.length : Int)].flatMap b2 = enc (nums3' P k l 0) := by
  rw [← enc_append, nums3']
  simp
theorem enc3'_next {P : Plan} {k j : Nat} {l : List (List Int)} (h : j < l.length) : enc (nums3' P k l j) ++ (r3 (l.getD j [])).flatMap b2 = enc (nums3' P k l (j + 1)) := by
  rw [← enc_append, nums3', nums3', take_next h, List.append_assoc, List.cons_append]
theorem enc3_next {P : Plan} {k : Nat} (h : k < P.ws.length) : enc (nums3' P k (P.ws.getD k []) (P.ws.getD k []).length) = enc (nums3 P (k + 1)) := by
  rw [nums3', nums3, nums3, take_nextW h, List.take_length, win, List.append_assoc]
theorem enc4_of (P : Plan) : enc (nums3 P P.ws.length) ++ [(P.cs.length : Int)].flatMap b2 = enc (nums4 P) := by rw [← enc_append, nums4]
theorem enc5_zero (P : Plan) : enc (nums4 P) = enc (nums5 P 0) := by simp [nums5]
theorem enc5_next {P : Plan} {k : Nat} (h : k < P.cs.length) : enc (nums5 P k) ++ (r5 (P.cs.getD k [])).flatMap b2 = enc (nums5 P (k + 1)) := by
  rw [← enc_append, nums5, nums5, take_next h, List.append_assoc]
theorem enc1_zero (P : Plan) : ([84, 80] : List UInt8) ++ [(P.ps.length : Int)].flatMap b2 = enc (nums1 P 0) := by simp [nums1, enc]
/-! bounds -/
theorem part_facts {r : List Int} (h : partB r = true) : 64 ≤ g r 0 ∧ g r 0 ≤ 1024 ∧ 1 ≤ g r 1 ∧ g r 1 ≤ 3 ∧ 1 ≤ g r 2 ∧ g r 2 ≤ 3 ∧ 1 ≤ g r 3 ∧ g r 3 ≤ 3 := by
  simp only [partB, odd3, odd, Bool.and_eq_true, decide_eq_true_eq, Bool.not_eq_true', Bool.or_eq_false_iff, decide_eq_false_iff_not] at h
  omega
def small (l : List Int) : Prop := ∀ x ∈ l, 0 ≤ x ∧ x < 65536
theorem part_of {P : Plan} (h : check P = 0) {k : Nat} (hk : k < P.ps.length) : partB (P.ps.getD k []) = true := by
  have ha := (check_zero h).2.2.2.2.2.2.2.2.1
  rw [List.any_eq_false] at ha
  have hm : P.ps.getD k [] ∈ P.ps := by
    rw [List.getD_eq_getElem?_getD, List.getElem?_eq_getElem hk]
    exact List.getElem_mem hk
  have := ha _ hm
  simpa using this
theorem small4 {P : Plan} (h : check P = 0) {k : Nat} (hk : k < P.ps.length) : small (r4 (P.ps.getD k [])) := by
  have := part_facts (part_of h hk)
  intro x hx
  simp only [r4, List.mem_cons, List.not_mem_nil, or_false] at hx
  rcases hx with rfl | rfl | rfl | rfl <;> omega
theorem small5 {P : Plan} (h : check P = 0) {k : Nat} (hk : k < P.cs.length) : small (r5 (P.cs.getD k [])) := by
  have := chan_facts (chan_of h hk)
  have := (check_zero h).2.1
  intro x hx
  simp only [r5, List.mem_cons, List.not_mem_nil, or_false] at hx
  rcases hx with rfl | rfl | rfl | rfl | rfl <;> omega
theorem win_small {np fr b : Int} {r : List Int} (hnp : np ≤ 4) (hfr : fr ≤ 4096) (h : winE np fr r b = 0) : small (r3 r) := by
  have := win_facts h
  intro x hx
  simp only [r3, List.mem_cons, List.not_mem_nil, or_false] at hx
  rcases hx with rfl | rfl | rfl <;> omega
theorem rowE_small {np fr : Int} (hnp : np ≤ 4) (hfr : fr ≤ 4096) : ∀ (l : List (List Int)) (b : Int), rowE np fr l b = 0 → ∀ r ∈ l, small (r3 r)
  | [], _, _, r, hr => by cases hr
  | x :: l, b, h, r, hr => by
    rw [rowE] at h
    by_cases h1 : winE np fr x b = 0
    · rw [if_pos h1] at h
      rcases List.mem_cons.mp hr with rfl | hr
      · exact win_small hnp hfr h1
      · exact rowE_small hnp hfr l _ h r hr
    · rw [if_neg h1] at h
      exact absurd h h1
theorem winsE_small {np fr : Int} (hnp : np ≤ 4) (hfr : fr ≤ 4096) : ∀ (ws : List (List (List Int))), winsE np fr ws = 0 → ∀ l ∈ ws, ∀ r ∈ l, small (r3 r)
  | [], _, l, hl => by cases hl
  | x :: ws, h, l, hl => by
    rw [winsE] at h
    by_cases h1 : rowE np fr x 0 = 0
    · rw [if_pos h1] at h
      rcases List.mem_cons.mp hl with rfl | hl
      · exact rowE_small hnp hfr _ _ h1
      · exact winsE_small hnp hfr ws h l hl
    · rw [if_neg h1] at h
      exact absurd h h1
theorem small3 {P : Plan} (h : check P = 0) {k j : Nat} (hk : k < P.ws.length) (hj : j < (P.ws.getD k []).length) : small (r3 ((P.ws.getD k []).getD j [])) := by
  obtain ⟨_, h1, _, _, _, _, h2, _, _, h3, _⟩ := check_zero h
  refine winsE_small (np := P.ps.length) (fr := P.fr) (by omega) h2 P.ws h3 (P.ws.getD k []) ?_ ((P.ws.getD k []).getD j []) ?_
  · rw [List.getD_eq_getElem?_getD, List.getElem?_eq_getElem hk]
    exact List.getElem_mem hk
  · generalize P.ws.getD k [] = l at *
    rw [List.getD_eq_getElem?_getD, List.getElem?_eq_getElem hj]
    exact List.getElem_mem hj
theorem len8 {P : Plan} (h : check P = 0) {k : Nat} (hk : k < P.ws.length) : (P.ws.getD k []).length ≤ 8 := by
  refine any_win (check_zero h).2.2.2.2.2.2.2.1 _ ?_
  rw [List.getD_eq_getElem?_getD, List.getElem?_eq_getElem hk]
  exact List.getElem_mem hk
end Go.Proofs.YtiggoojjefmcoaaDoor.Pl
