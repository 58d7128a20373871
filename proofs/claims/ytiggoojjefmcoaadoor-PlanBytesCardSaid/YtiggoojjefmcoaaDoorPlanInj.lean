/- Two plans that may be have the same bytes just if they are the same. No condition. -/
import Derived.Test.YtiggoojjefmcoaaDoorPlanBytesPlain
set_option linter.unusedVariables false
set_option linter.unusedSimpArgs false
namespace Go.Proofs.YtiggoojjefmcoaaDoor.Pl
def rWin (l : List (List Int)) : List (List Int) := l.map r3
theorem b2_inj {x y : Int} (hx : 0 ≤ x ∧ x < 65536) (hy : 0 ≤ y ∧ y < 65536) (h : b2 x = b2 y) : x = y := by
  simp only [b2, List.cons.injEq, and_true] at h
  have h1 := congrArg UInt8.toNat h.1
  have h2 := congrArg UInt8.toNat h.2
  simp only [UInt8.toNat_ofNat'] at h1 h2
  omega
theorem flat_inj : ∀ (a b : List Int), small a → small b → a.flatMap b2 = b.flatMap b2 → a = b
  | [], [], _, _, _ => rfl
  | [], y :: b, _, _, h => by simp [b2] at h
  | x :: a, [], _, _, h => by simp [b2] at h
  | x :: a, y :: b, ha, hb, h => by
    have hl : (b2 x).length = (b2 y).length := rfl
    rw [List.flatMap_cons, List.flatMap_cons] at h
    obtain ⟨h1, h2⟩ := List.append_inj h hl
    rw [b2_inj (ha x (by simp)) (hb y (by simp)) h1, flat_inj a b (fun z hz => ha z (by simp [hz])) (fun z hz => hb z (by simp [hz])) h2]
theorem rows_inj {f : List Int → List Int} {n : Nat} (hf : ∀ r, (f r).length = n) : ∀ (l m : List (List Int)) (u v : List Int), l.length = m.length → l.flatMap f ++ u = m.flatMap f ++ v → l.map f = m.map f ∧ u = v
  | [], [], u, v, _, h => ⟨rfl, by simpa using h⟩
  | [], y :: m, u, v, hl, h => by simp at hl
  | x :: l, [], u, v, hl, h => by simp at hl
  | x :: l, y :: m, u, v, hl, h => by
    rw [List.flatMap_cons, List.flatMap_cons, List.append_assoc, List.append_assoc] at h
    obtain ⟨h1, h2⟩ := List.append_inj h (by rw [hf, hf])
    obtain ⟨h3, h4⟩ := rows_inj hf l m u v (by simpa using hl) h2
    exact ⟨by rw [List.map_cons, List.map_cons, h1, h3], h4⟩
theorem wins_inj : ∀ (l m : List (List (List Int))) (u v : List Int), l.length = m.length → l.flatMap win ++ u = m.flatMap win ++ v → l.map rWin = m.map rWin ∧ u = v
  | [], [], u, v, _, h => ⟨rfl, by simpa using h⟩
  | [], y :: m, u, v, hl, h => by simp at hl
  | x :: l, [], u, v, hl, h => by simp at hl
  | x :: l, y :: m, u, v, hl, h => by
    rw [List.flatMap_cons, List.flatMap_cons, List.append_assoc, List.append_assoc, win, win, List.cons_append, List.cons_append, List.cons.injEq] at h
    obtain ⟨h1, h2⟩ := rows_inj (f := r3) (n := 3) (fun _ => rfl) x y _ _ (by have := h.1; omega) h.2
    obtain ⟨h3, h4⟩ := wins_inj l m u v (by simpa using hl) h2
    exact ⟨by rw [List.map_cons, List.map_cons, rWin, rWin, h1, h3], h4⟩
theorem nums_eq (P : Plan) : nums P = (P.ps.length : Int) :: (P.ps.flatMap r4 ++ (P.fr :: (P.ws.length : Int) :: (P.ws.flatMap win ++ ((P.cs.length : Int) :: (P.cs.flatMap r5 ++ []))))) := by
  simp [nums, nums5, nums4, nums3, nums2, nums1]
theorem nums_inj {P Q : Plan} (h : nums P = nums Q) : P.ps.map r4 = Q.ps.map r4 ∧ P.fr = Q.fr ∧ P.ws.map rWin = Q.ws.map rWin ∧ P.cs.map r5 = Q.cs.map r5 := by
  rw [nums_eq, nums_eq, List.cons.injEq] at h
  obtain ⟨h1, h2⟩ := h
  obtain ⟨h3, h4⟩ := rows_inj (f := r4) (n := 4) (fun _ => rfl) _ _ _ _ (by omega) h2
  rw [List.cons.injEq, List.cons.injEq] at h4
  obtain ⟨h5, h6, h7⟩ := h4
  obtain ⟨h8, h9⟩ := wins_inj _ _ _ _ (by omega) h7
  rw [List.cons.injEq] at h9
  obtain ⟨h10, h11⟩ := h9
  obtain ⟨h12, _⟩ := rows_inj (f := r5) (n := 5) (fun _ => rfl) _ _ _ _ (by omega) h11
  exact ⟨h3, h5, h8, h12⟩
theorem flat_map (f : List Int → List Int) (l : List (List Int)) : l.flatMap f = (l.map f).flatten := by rw [List.flatMap_def]
theorem win_map (l : List (List Int)) : win l = ((rWin l).length : Int) :: (rWin l).flatten := by rw [win, rWin, List.length_map, flat_map]
theorem nums_same {P Q : Plan} (h1 : P.ps.map r4 = Q.ps.map r4) (h2 : P.fr = Q.fr) (h3 : P.ws.map rWin = Q.ws.map rWin) (h4 : P.cs.map r5 = Q.cs.map r5) : nums P = nums Q := by
  have hw : ∀ l : List (List (List Int)), l.flatMap win = ((l.map rWin).map (fun x => (x.length : Int) :: x.flatten)).flatten := by
    intro l
    rw [List.flatMap_def, List.map_map]
    congr 1
    exact List.map_congr_left (fun x _ => win_map x)
  have l1 := congrArg List.length h1
  have l3 := congrArg List.length h3
  have l4 := congrArg List.length h4
  rw [List.length_map, List.length_map] at l1 l3 l4
  rw [nums_eq, nums_eq, flat_map, flat_map, hw, hw, flat_map, flat_map, h1, h2, h3, h4, l1, l3, l4]
theorem small_nums {P : Plan} (h : check P = 0) : small (nums P) := by
  obtain ⟨f1, f2, f3, f4, f5, f6, f7, f8, _⟩ := check_zero h
  rw [nums_eq]
  have mem : ∀ {α : Type} (l : List α) (d x : α), x ∈ l → ∃ k, k < l.length ∧ l.getD k d = x := by
    intro α l d x hx
    obtain ⟨k, hk, rfl⟩ := List.mem_iff_getElem.1 hx
    exact ⟨k, hk, by rw [List.getD_eq_getElem?_getD, List.getElem?_eq_getElem hk]; rfl⟩
  intro x hx
  simp only [List.mem_cons, List.mem_append, List.mem_flatMap, List.not_mem_nil, or_false] at hx
  rcases hx with rfl | ⟨r, hr, hx⟩ | rfl | rfl | ⟨l, hl, hx⟩ | rfl | ⟨r, hr, hx⟩
  · omega
  · obtain ⟨k, hk, rfl⟩ := mem P.ps [] r hr
    exact small4 h hk x hx
  · omega
  · omega
  · obtain ⟨k, hk, rfl⟩ := mem P.ws [] l hl
    have h8 := len8 h hk
    rw [win, List.mem_cons, List.mem_flatMap] at hx
    rcases hx with rfl | ⟨r, hr, hx⟩
    · omega
    · obtain ⟨j, hj, rfl⟩ := mem (P.ws.getD k []) [] r hr
      exact small3 h hk hj x hx
  · omega
  · obtain ⟨k, hk, rfl⟩ := mem P.cs [] r hr
    exact small5 h hk x hx
theorem enc_inj {P Q : Plan} (hp : check P = 0) (hq : check Q = 0) (h : enc (nums P) = enc (nums Q)) : nums P = nums Q := by
  simp only [enc, List.cons.injEq, true_and] at h
  exact flat_inj _ _ (small_nums hp) (small_nums hq) h
end Go.Proofs.YtiggoojjefmcoaaDoor.Pl
