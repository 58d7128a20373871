/- Of a plan's bytes no beginning is one's; which plans may be does not hang on how rows are written. No condition. -/
import Derived.Test.YtiggoojjefmcoaaDoorPlanParse
set_option linter.unusedVariables false
set_option linter.unusedSimpArgs false
namespace Go.Proofs.YtiggoojjefmcoaaDoor.Pl
theorem take_go {A u : List UInt8} {k : Nat} (h : A.length ≤ k) : (A ++ u).take k = A ++ u.take (k - A.length) := by
  rw [List.take_append, List.take_of_length_le h]
theorem num_cut {m k : Nat} {x : Int} (u : List UInt8) (hk : k < (b2 x).length) : num m ((b2 x ++ u).take k) = .error 2 := by
  have hk2 : k < 2 := hk
  match k, hk2 with
  | 0, _ => rfl
  | 1, _ => rfl
theorem anys_cut : ∀ (l : List Int) (u : List UInt8) (k : Nat), small l → k < (l.flatMap b2).length → anys l.length ((l.flatMap b2 ++ u).take k) = .error 2
  | [], u, k, _, hk => absurd hk (Nat.not_lt_zero _)
  | x :: l, u, k, h, hk => by
    have hx := h x (by simp)
    rw [List.flatMap_cons, List.length_append] at hk
    rw [List.flatMap_cons, List.append_assoc, List.length_cons]
    by_cases h2 : k < (b2 x).length
    · simp only [anys, num_cut (m := 65536) _ h2]
    · have ih := anys_cut l u (k - (b2 x).length) (fun y hy => h y (by simp [hy])) (by omega)
      rw [take_go (by omega)]
      simp only [anys, num_b2 (m := 65536) _ hx.1 hx.2 (by omega), ih]
theorem rowsN_cut {sz : Nat} : ∀ (q : List (List Int)) (u : List UInt8) (k : Nat), (∀ r ∈ q, r.length = sz ∧ small r) → k < (q.flatten.flatMap b2).length → rowsN sz q.length ((q.flatten.flatMap b2 ++ u).take k) = .error 2
  | [], u, k, _, hk => absurd hk (Nat.not_lt_zero _)
  | r :: q, u, k, h, hk => by
    obtain ⟨hl, hs⟩ := h r (by simp)
    rw [List.flatten_cons, List.flatMap_append, List.length_append] at hk
    rw [List.flatten_cons, List.flatMap_append, List.append_assoc, List.length_cons]
    by_cases h2 : k < (r.flatMap b2).length
    · have ha := anys_cut r (q.flatten.flatMap b2 ++ u) k hs h2
      rw [hl] at ha
      simp only [rowsN, ha]
    · have ih := rowsN_cut q u (k - (r.flatMap b2).length) (fun y hy => h y (by simp [hy])) (by omega)
      rw [take_go (by omega)]
      have ha := anys_b2 r ((q.flatten.flatMap b2 ++ u).take (k - (r.flatMap b2).length)) hs
      rw [hl] at ha
      simp only [rowsN, ha, ih]
theorem winsN_cut : ∀ (q : List (List (List Int))) (u : List UInt8) (k : Nat), (∀ l ∈ q, l.length ≤ 8 ∧ ∀ r ∈ l, r.length = 3 ∧ small r) → k < ((q.flatMap winF).flatMap b2).length → winsN q.length (((q.flatMap winF).flatMap b2 ++ u).take k) = .error 2
  | [], u, k, _, hk => absurd hk (Nat.not_lt_zero _)
  | l :: q, u, k, h, hk => by
    obtain ⟨hl, hs⟩ := h l (by simp)
    rw [List.flatMap_cons, winF, List.cons_append, List.flatMap_cons, List.flatMap_append, List.length_append, List.length_append] at hk
    rw [List.flatMap_cons, winF, List.cons_append, List.flatMap_cons, List.flatMap_append, List.append_assoc, List.append_assoc, List.length_cons]
    by_cases h1 : k < (b2 (l.length : Int)).length
    · simp only [winsN, num_cut (m := 8) _ h1]
    · rw [take_go (by omega)]
      by_cases h2 : k - (b2 (l.length : Int)).length < (l.flatten.flatMap b2).length
      · have ha := rowsN_cut l ((q.flatMap winF).flatMap b2 ++ u) _ hs h2
        simp only [winsN, num_b2 (m := 8) (x := (l.length : Int)) _ (by omega) (by omega) (by omega), Int.toNat_natCast, ha]
      · have ih := winsN_cut q u (k - (b2 (l.length : Int)).length - (l.flatten.flatMap b2).length) (fun y hy => h y (by simp [hy])) (by omega)
        rw [take_go (u := (q.flatMap winF).flatMap b2 ++ u) (by omega)]
        have ha := rowsN_b2 l (((q.flatMap winF).flatMap b2 ++ u).take (k - (b2 (l.length : Int)).length - (l.flatten.flatMap b2).length)) hs
        simp only [winsN, num_b2 (m := 8) (x := (l.length : Int)) _ (by omega) (by omega) (by omega), Int.toNat_natCast, ha, ih]
theorem parse_cut {P : Plan} (h : check P = 0) {k : Nat} (hk : k < ((nums P).flatMap b2).length) : parse (((nums P).flatMap b2).take k) = .error 2 := by
  obtain ⟨f1, f2, f3, f4, f5, f6, f7, _⟩ := check_zero h
  have hsm := small_nums h
  rw [← nums_norm] at hsm hk ⊢
  have hF := formed_norm P
  have l1 : (norm P).ps.length = P.ps.length := by simp [norm]
  have l2 : (norm P).ws.length = P.ws.length := by simp [norm]
  have l3 : (norm P).cs.length = P.cs.length := by simp [norm]
  have hfr : (norm P).fr = P.fr := rfl
  have h8 : ∀ l ∈ (norm P).ws, l.length ≤ 8 := by
    intro l hl
    obtain ⟨x, hx, rfl⟩ := List.mem_map.mp hl
    rw [rWin, List.length_map]
    exact any_win (check_zero h).2.2.2.2.2.2.2.1 x hx
  generalize norm P = Q at *
  rw [nums_formed hF] at hsm hk ⊢
  have s1 : ∀ r ∈ Q.ps, r.length = 4 ∧ small r := fun r hr => ⟨hF.1 r hr, fun x hx => hsm x (by simp only [List.mem_cons, List.mem_append, List.mem_flatten]; exact .inr (.inl ⟨r, hr, hx⟩))⟩
  have s2 : ∀ l ∈ Q.ws, l.length ≤ 8 ∧ ∀ r ∈ l, r.length = 3 ∧ small r := fun l hl => ⟨h8 l hl, fun r hr => ⟨hF.2.1 l hl r hr, fun x hx => hsm x (by
    simp only [List.mem_cons, List.mem_append, List.mem_flatten, List.mem_flatMap]
    exact .inr (.inr (.inr (.inr (.inl ⟨l, hl, by simp only [winF, List.mem_cons, List.mem_flatten]; exact .inr ⟨r, hr, hx⟩⟩)))))⟩⟩
  have s3 : ∀ r ∈ Q.cs, r.length = 5 ∧ small r := fun r hr => ⟨hF.2.2 r hr, fun x hx => hsm x (by
    simp only [List.mem_cons, List.mem_append, List.mem_flatten, List.mem_flatMap]
    exact .inr (.inr (.inr (.inr (.inr (.inr (.inl ⟨r, hr, hx⟩)))))))⟩
  simp only [List.flatMap_cons, List.flatMap_append, List.append_nil, List.length_append] at hk ⊢
  unfold parse
  by_cases k1 : k < (b2 (Q.ps.length : Int)).length
  · rw [num_cut (m := 4) _ k1]; rfl
  rw [take_go (by omega), num_b2 (m := 4) _ (by omega) (by omega) (by omega)]
  simp only [bnd, Int.toNat_natCast]
  by_cases k2 : k - (b2 (Q.ps.length : Int)).length < (Q.ps.flatten.flatMap b2).length
  · rw [rowsN_cut Q.ps _ _ s1 k2]
  rw [take_go (by omega), rowsN_b2 Q.ps _ s1]
  simp only [fin0]
  generalize hk3 : k - (b2 (Q.ps.length : Int)).length - (Q.ps.flatten.flatMap b2).length = k3 at *
  by_cases k4 : k3 < (b2 Q.fr).length
  · rw [num_cut (m := 65536) _ k4]; rfl
  rw [take_go (by omega), num_b2 (m := 65536) _ (by omega) (by omega) (by omega)]
  simp only [bnd, fin1]
  by_cases k5 : k3 - (b2 Q.fr).length < (b2 (Q.ws.length : Int)).length
  · rw [num_cut (m := 3) _ k5]
  rw [take_go (by omega), num_b2 (m := 3) _ (by omega) (by omega) (by omega)]
  simp only [fin2, Int.toNat_natCast]
  generalize hk6 : k3 - (b2 Q.fr).length - (b2 (Q.ws.length : Int)).length = k6 at *
  by_cases k7 : k6 < ((Q.ws.flatMap winF).flatMap b2).length
  · rw [winsN_cut Q.ws _ _ s2 k7]; rfl
  rw [take_go (by omega), winsN_b2 Q.ws _ s2]
  simp only [bnd, fin3]
  by_cases k8 : k6 - ((Q.ws.flatMap winF).flatMap b2).length < (b2 (Q.cs.length : Int)).length
  · rw [num_cut (m := 6) _ k8]
  rw [take_go (by omega), num_b2 (m := 6) _ (by omega) (by omega) (by omega)]
  simp only [bnd, fin4, Int.toNat_natCast]
  have e := rowsN_cut Q.cs [] (k6 - ((Q.ws.flatMap winF).flatMap b2).length - (b2 (Q.cs.length : Int)).length) s3
  rw [List.append_nil] at e
  rw [e (by omega)]
end Go.Proofs.YtiggoojjefmcoaaDoor.Pl
