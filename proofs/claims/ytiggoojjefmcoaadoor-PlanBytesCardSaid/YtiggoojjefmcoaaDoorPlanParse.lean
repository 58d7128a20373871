/- The plan of bytes in plain Lean: a parser; what it takes has these bytes, what has bytes is taken as it was. No condition. -/
import Derived.Test.YtiggoojjefmcoaaDoorPlanInj
set_option linter.unusedVariables false
set_option linter.unusedSimpArgs false
namespace Go.Proofs.YtiggoojjefmcoaaDoor.Pl
/-- a number off bytes, or why not -/
def num (most : Nat) : List UInt8 → Except Nat (Int × List UInt8)
  | a :: b :: t => if most < a.toNat * 256 + b.toNat then .error 4 else .ok (((a.toNat * 256 + b.toNat : Nat) : Int), t)
  | _ => .error 2
def anys : Nat → List UInt8 → Except Nat (List Int × List UInt8)
  | 0, s => .ok ([], s)
  | n + 1, s =>
    match num 65536 s with
    | .error e => .error e
    | .ok (x, t) =>
      match anys n t with
      | .error e => .error e
      | .ok (l, u) => .ok (x :: l, u)
def rowsN (sz : Nat) : Nat → List UInt8 → Except Nat (List (List Int) × List UInt8)
  | 0, s => .ok ([], s)
  | n + 1, s =>
    match anys sz s with
    | .error e => .error e
    | .ok (r, t) =>
      match rowsN sz n t with
      | .error e => .error e
      | .ok (q, u) => .ok (r :: q, u)
def winsN : Nat → List UInt8 → Except Nat (List (List (List Int)) × List UInt8)
  | 0, s => .ok ([], s)
  | n + 1, s =>
    match num 8 s with
    | .error e => .error e
    | .ok (c, t) =>
      match rowsN 3 c.toNat t with
      | .error e => .error e
      | .ok (l, u) =>
        match winsN n u with
        | .error e => .error e
        | .ok (q, v) => .ok (l :: q, v)
/-- one step behind another -/
def bnd {α β : Type} (x : Except Nat α) (f : α → Except Nat β) : Except Nat β :=
  match x with
  | .error e => .error e
  | .ok a => f a
def fin5 (ps : List (List Int)) (fr : Int) (ws : List (List (List Int))) : List (List Int) × List UInt8 → Except Nat Plan
  | (cs, s) => if s = [] then .ok ⟨ps, fr, ws, cs⟩ else .error 3
def fin4 (ps : List (List Int)) (fr : Int) (ws : List (List (List Int))) : Int × List UInt8 → Except Nat Plan
  | (nc, s) => bnd (rowsN 5 nc.toNat s) (fin5 ps fr ws)
def fin3 (ps : List (List Int)) (fr : Int) : List (List (List Int)) × List UInt8 → Except Nat Plan
  | (ws, s) => bnd (num 6 s) (fin4 ps fr ws)
def fin2 (ps : List (List Int)) (fr : Int) : Int × List UInt8 → Except Nat Plan
  | (nw, s) => bnd (winsN nw.toNat s) (fin3 ps fr)
def fin1 (ps : List (List Int)) : Int × List UInt8 → Except Nat Plan
  | (fr, s) => bnd (num 3 s) (fin2 ps fr)
def fin0 : List (List Int) × List UInt8 → Except Nat Plan
  | (ps, s) => bnd (num 65536 s) (fin1 ps)
def parse (s : List UInt8) : Except Nat Plan := bnd (num 4 s) (fun x => bnd (rowsN 4 x.1.toNat x.2) fin0)
/-- the plan of bytes -/
def take (s : List UInt8) : Except Nat Plan :=
  if s.take 2 = [84, 80] then bnd (parse (s.drop 2)) (fun P => if check P = 0 then .ok P else .error (check P).toNat) else .error 3
/-! what is taken has these bytes -/
theorem num_ok {m : Nat} {s t : List UInt8} {x : Int} (h : num m s = .ok (x, t)) : 0 ≤ x ∧ x < 65536 ∧ x ≤ m ∧ s = b2 x ++ t := by
  match s, h with
  | a :: b :: u, h =>
    simp only [num] at h
    split at h
    · cases h
    · rename_i hm
      simp only [Except.ok.injEq, Prod.mk.injEq] at h
      obtain ⟨rfl, rfl⟩ := h
      have ha := a.toNat_lt
      have hb := b.toNat_lt
      refine ⟨by omega, by omega, by omega, ?_⟩
      have e1 : ((((a.toNat * 256 + b.toNat : Nat) : Int)) / 256).toNat = a.toNat := by omega
      have e2 : ((((a.toNat * 256 + b.toNat : Nat) : Int)) % 256).toNat = b.toNat := by omega
      rw [b2, e1, e2]
      simp
theorem anys_ok : ∀ (n : Nat) (s : List UInt8) (l : List Int) (u : List UInt8), anys n s = .ok (l, u) → l.length = n ∧ small l ∧ s = l.flatMap b2 ++ u
  | 0, s, l, u, h => by
    simp only [anys, Except.ok.injEq, Prod.mk.injEq] at h
    obtain ⟨rfl, rfl⟩ := h
    exact ⟨rfl, (fun x hx => by cases hx), rfl⟩
  | n + 1, s, l, u, h => by
    simp only [anys] at h
    split at h
    · cases h
    · rename_i x t hx
      split at h
      · cases h
      · rename_i l' u' hl
        simp only [Except.ok.injEq, Prod.mk.injEq] at h
        obtain ⟨rfl, rfl⟩ := h
        obtain ⟨a1, a2, _, a3⟩ := num_ok hx
        obtain ⟨b1, b2', b3⟩ := anys_ok n _ _ _ hl
        refine ⟨by simp [b1], ?_, by rw [a3, b3]; simp⟩
        intro y hy
        rcases List.mem_cons.mp hy with rfl | hy
        · exact ⟨a1, a2⟩
        · exact b2' y hy
theorem rowsN_ok {sz : Nat} : ∀ (n : Nat) (s : List UInt8) (q : List (List Int)) (u : List UInt8), rowsN sz n s = .ok (q, u) → q.length = n ∧ (∀ r ∈ q, r.length = sz ∧ small r) ∧ s = q.flatten.flatMap b2 ++ u
  | 0, s, l, u, h => by
    simp only [rowsN, Except.ok.injEq, Prod.mk.injEq] at h
    obtain ⟨rfl, rfl⟩ := h
    exact ⟨rfl, (fun x hx => by cases hx), rfl⟩
  | n + 1, s, l, u, h => by
    simp only [rowsN] at h
    split at h
    · cases h
    · rename_i r t hr
      split at h
      · cases h
      · rename_i q' u' hq
        simp only [Except.ok.injEq, Prod.mk.injEq] at h
        obtain ⟨rfl, rfl⟩ := h
        obtain ⟨a1, a2, a3⟩ := anys_ok _ _ _ _ hr
        obtain ⟨b1, b2', b3⟩ := rowsN_ok n _ _ _ hq
        refine ⟨by simp [b1], ?_, by rw [a3, b3]; simp⟩
        intro y hy
        rcases List.mem_cons.mp hy with rfl | hy
        · exact ⟨a1, a2⟩
        · exact b2' y hy
def winF (l : List (List Int)) : List Int := (l.length : Int) :: l.flatten
theorem winsN_ok : ∀ (n : Nat) (s : List UInt8) (q : List (List (List Int))) (u : List UInt8), winsN n s = .ok (q, u) → q.length = n ∧ (∀ l ∈ q, l.length ≤ 8 ∧ ∀ r ∈ l, r.length = 3 ∧ small r) ∧ s = (q.flatMap winF).flatMap b2 ++ u
  | 0, s, l, u, h => by
    simp only [winsN, Except.ok.injEq, Prod.mk.injEq] at h
    obtain ⟨rfl, rfl⟩ := h
    exact ⟨rfl, (fun x hx => by cases hx), rfl⟩
  | n + 1, s, l, u, h => by
    simp only [winsN] at h
    split at h
    · cases h
    · rename_i c t hc
      split at h
      · cases h
      · rename_i l1 u1 hl
        split at h
        · cases h
        · rename_i q' u' hq
          simp only [Except.ok.injEq, Prod.mk.injEq] at h
          obtain ⟨rfl, rfl⟩ := h
          obtain ⟨a1, _, a2, a3⟩ := num_ok hc
          obtain ⟨b1, b2', b3⟩ := rowsN_ok _ _ _ _ hl
          obtain ⟨c1, c2, c3⟩ := winsN_ok n _ _ _ hq
          refine ⟨by simp [c1], ?_, ?_⟩
          · intro y hy
            rcases List.mem_cons.mp hy with rfl | hy
            · exact ⟨by omega, b2'⟩
            · exact c2 y hy
          · have e : ((l1.length : Nat) : Int) = c := by omega
            rw [a3, b3, c3]
            simp [winF, e]
theorem bnd_ok {α β : Type} {x : Except Nat α} {f : α → Except Nat β} {b : β} (h : bnd x f = .ok b) : ∃ a, x = .ok a ∧ f a = .ok b := by
  match x, h with
  | .ok a, h => exact ⟨a, rfl, h⟩
/-- a plan whose rows are as long as they should be -/
def Formed (P : Plan) : Prop := (∀ r ∈ P.ps, r.length = 4) ∧ (∀ l ∈ P.ws, ∀ r ∈ l, r.length = 3) ∧ (∀ r ∈ P.cs, r.length = 5)
theorem r3_of {r : List Int} (h : r.length = 3) : r3 r = r := by
  match r, h with
  | [a, b, c], _ => rfl
theorem r4_of {r : List Int} (h : r.length = 4) : r4 r = r := by
  match r, h with
  | [a, b, c, d], _ => rfl
theorem r5_of {r : List Int} (h : r.length = 5) : r5 r = r := by
  match r, h with
  | [a, b, c, d, e], _ => rfl
theorem flat_same {f : List Int → List Int} {l : List (List Int)} (h : ∀ r ∈ l, f r = r) : l.flatMap f = l.flatten := by
  rw [List.flatMap_def]
  congr 1
  exact (List.map_congr_left h).trans (List.map_id _)
theorem win_same {l : List (List Int)} (h : ∀ r ∈ l, r.length = 3) : win l = winF l := by rw [win, winF, flat_same (fun r hr => r3_of (h r hr))]
theorem nums_formed {P : Plan} (h : Formed P) : nums P = (P.ps.length : Int) :: (P.ps.flatten ++ (P.fr :: (P.ws.length : Int) :: (P.ws.flatMap winF ++ ((P.cs.length : Int) :: (P.cs.flatten ++ []))))) := by
  have hw : P.ws.flatMap win = P.ws.flatMap winF := by
    rw [List.flatMap_def, List.flatMap_def]
    congr 1
    exact List.map_congr_left (fun l hl => win_same (h.2.1 l hl))
  rw [nums_eq, flat_same (fun r hr => r4_of (h.1 r hr)), hw, flat_same (fun r hr => r5_of (h.2.2 r hr))]
theorem parse_ok {s : List UInt8} {P : Plan} (h : parse s = .ok P) : Formed P ∧ s = (nums P).flatMap b2 ∧ P.fr < 65536 := by
  unfold parse at h
  obtain ⟨⟨np, s1⟩, h1, h⟩ := bnd_ok h
  obtain ⟨⟨ps, s2⟩, h2, h⟩ := bnd_ok h
  obtain ⟨⟨fr, s3⟩, h3, h⟩ := bnd_ok h
  obtain ⟨⟨nw, s4⟩, h4, h⟩ := bnd_ok h
  obtain ⟨⟨ws, s5⟩, h5, h⟩ := bnd_ok h
  obtain ⟨⟨nc, s6⟩, h6, h⟩ := bnd_ok h
  obtain ⟨⟨cs, s7⟩, h7, h⟩ := bnd_ok h
  simp only [fin5] at h
  split at h
  · rename_i hs
    injection h with h
    subst h hs
    obtain ⟨a1, _, _, a2⟩ := num_ok h1
    obtain ⟨b1, b3, b4⟩ := rowsN_ok _ _ _ _ h2
    obtain ⟨c1, c2, _, c3⟩ := num_ok h3
    obtain ⟨d1, _, _, d3⟩ := num_ok h4
    obtain ⟨e1, e2, e3⟩ := winsN_ok _ _ _ _ h5
    obtain ⟨f1, _, _, f3⟩ := num_ok h6
    obtain ⟨g1, g2, g3⟩ := rowsN_ok _ _ _ _ h7
    have hF : Formed ⟨ps, fr, ws, cs⟩ := ⟨fun r hr => (b3 r hr).1, fun l hl r hr => ((e2 l hl).2 r hr).1, fun r hr => (g2 r hr).1⟩
    refine ⟨hF, ?_, c2⟩
    have z1 : ((ps.length : Nat) : Int) = np := by simp only at b1; omega
    have z2 : ((ws.length : Nat) : Int) = nw := by omega
    have z3 : ((cs.length : Nat) : Int) = nc := by omega
    simp only at b4 c3 d3 e3 f3 g3
    rw [nums_formed hF, a2, b4, c3, d3, e3, f3, g3, z1, z2, z3]
    simp
  · cases h
/-! bytes are taken as they were -/
theorem num_b2 {m : Nat} {x : Int} (u : List UInt8) (h0 : 0 ≤ x) (h1 : x < 65536) (hm : x ≤ m) : num m (b2 x ++ u) = .ok (x, u) := by
  have e1 : (UInt8.ofNat (x / 256).toNat).toNat = (x / 256).toNat := by rw [UInt8.toNat_ofNat']; omega
  have e2 : (UInt8.ofNat (x % 256).toNat).toNat = (x % 256).toNat := by rw [UInt8.toNat_ofNat']; omega
  have e3 : (((x / 256).toNat * 256 + (x % 256).toNat : Nat) : Int) = x := by omega
  simp only [b2, List.cons_append, List.nil_append, num, e1, e2, e3]
  rw [if_neg (by omega)]
theorem anys_b2 : ∀ (l : List Int) (u : List UInt8), small l → anys l.length (l.flatMap b2 ++ u) = .ok (l, u)
  | [], u, _ => rfl
  | x :: l, u, h => by
    have hx := h x (by simp)
    have ih := anys_b2 l u (fun y hy => h y (by simp [hy]))
    rw [List.flatMap_cons, List.append_assoc, List.length_cons]
    simp only [anys, num_b2 (m := 65536) _ hx.1 hx.2 (by omega), ih]
theorem rowsN_b2 {sz : Nat} : ∀ (q : List (List Int)) (u : List UInt8), (∀ r ∈ q, r.length = sz ∧ small r) → rowsN sz q.length (q.flatten.flatMap b2 ++ u) = .ok (q, u)
  | [], u, _ => rfl
  | r :: q, u, h => by
    obtain ⟨hl, hs⟩ := h r (by simp)
    have ih := rowsN_b2 q u (fun y hy => h y (by simp [hy]))
    have ha := anys_b2 r (q.flatten.flatMap b2 ++ u) hs
    rw [hl] at ha
    rw [List.flatten_cons, List.flatMap_append, List.append_assoc, List.length_cons]
    simp only [rowsN, ha, ih]
theorem winsN_b2 : ∀ (q : List (List (List Int))) (u : List UInt8), (∀ l ∈ q, l.length ≤ 8 ∧ ∀ r ∈ l, r.length = 3 ∧ small r) → winsN q.length ((q.flatMap winF).flatMap b2 ++ u) = .ok (q, u)
  | [], u, _ => rfl
  | l :: q, u, h => by
    obtain ⟨hl, hs⟩ := h l (by simp)
    have ih := winsN_b2 q u (fun y hy => h y (by simp [hy]))
    have ha := rowsN_b2 l ((q.flatMap winF).flatMap b2 ++ u) hs
    rw [List.flatMap_cons, winF, List.cons_append, List.flatMap_cons, List.flatMap_append, List.append_assoc, List.append_assoc, List.length_cons]
    simp only [winsN, num_b2 (m := 8) (x := (l.length : Int)) _ (by omega) (by omega) (by omega), Int.toNat_natCast, ha, ih]
/-- the plan, its rows as long as they should be -/
def norm (P : Plan) : Plan := ⟨P.ps.map r4, P.fr, P.ws.map rWin, P.cs.map r5⟩
theorem formed_norm (P : Plan) : Formed (norm P) := by
  refine ⟨?_, ?_, ?_⟩
  · intro r hr
    obtain ⟨x, _, rfl⟩ := List.mem_map.mp hr
    rfl
  · intro l hl r hr
    obtain ⟨x, _, rfl⟩ := List.mem_map.mp hl
    obtain ⟨y, _, rfl⟩ := List.mem_map.mp hr
    rfl
  · intro r hr
    obtain ⟨x, _, rfl⟩ := List.mem_map.mp hr
    rfl
theorem r3_r3 (r : List Int) : r3 (r3 r) = r3 r := rfl
theorem nums_norm (P : Plan) : nums (norm P) = nums P := by
  refine nums_same ?_ rfl ?_ ?_
  · simp only [norm, List.map_map]; rfl
  · simp only [norm, List.map_map]
    refine List.map_congr_left (fun l _ => ?_)
    simp only [Function.comp, rWin, List.map_map]
    rfl
  · simp only [norm, List.map_map]; rfl
theorem parse_nums {P : Plan} (h : check P = 0) (u : List UInt8) : bnd (num 4 ((nums P).flatMap b2 ++ u)) (fun x => bnd (rowsN 4 x.1.toNat x.2) fin0) = if u = [] then .ok (norm P) else .error 3 := by
  obtain ⟨f1, f2, f3, f4, f5, f6, f7, _⟩ := check_zero h
  have hsm := small_nums h
  rw [← nums_norm] at hsm ⊢
  have hF := formed_norm P
  have l1 : (norm P).ps.length = P.ps.length := by simp [norm]
  have l2 : (norm P).ws.length = P.ws.length := by simp [norm]
  have l3 : (norm P).cs.length = P.cs.length := by simp [norm]
  have hfr : (norm P).fr = P.fr := rfl
  have h8 : ∀ l ∈ (norm P).ws, l.length ≤ 8 := by
    intro l hl
    obtain ⟨x, hx, rfl⟩ := List.mem_map.mp hl
    rw [rWin, List.length_map]
    exact any_win (check_zero h).2.2.2.2.2.2.2.1 x hx
  generalize norm P = Q at *
  rw [nums_formed hF] at hsm ⊢
  have s1 : ∀ r ∈ Q.ps, r.length = 4 ∧ small r := fun r hr => ⟨hF.1 r hr, fun x hx => hsm x (by simp only [List.mem_cons, List.mem_append, List.mem_flatten]; exact .inr (.inl ⟨r, hr, hx⟩))⟩
  have s2 : ∀ l ∈ Q.ws, l.length ≤ 8 ∧ ∀ r ∈ l, r.length = 3 ∧ small r := fun l hl => ⟨h8 l hl, fun r hr => ⟨hF.2.1 l hl r hr, fun x hx => hsm x (by
    simp only [List.mem_cons, List.mem_append, List.mem_flatten, List.mem_flatMap]
    exact .inr (.inr (.inr (.inr (.inl ⟨l, hl, by simp only [winF, List.mem_cons, List.mem_flatten]; exact .inr ⟨r, hr, hx⟩⟩)))))⟩⟩
  have s3 : ∀ r ∈ Q.cs, r.length = 5 ∧ small r := fun r hr => ⟨hF.2.2 r hr, fun x hx => hsm x (by
    simp only [List.mem_cons, List.mem_append, List.mem_flatten, List.mem_flatMap]
    exact .inr (.inr (.inr (.inr (.inr (.inr (.inl ⟨r, hr, hx⟩)))))))⟩
  have e1 := rowsN_b2 Q.ps ((Q.fr :: (Q.ws.length : Int) :: (Q.ws.flatMap winF ++ ((Q.cs.length : Int) :: (Q.cs.flatten ++ [])))).flatMap b2 ++ u) s1
  have e2 := winsN_b2 Q.ws (((Q.cs.length : Int) :: (Q.cs.flatten ++ [])).flatMap b2 ++ u) s2
  have e3 := rowsN_b2 Q.cs u s3
  simp only [List.flatMap_cons, List.flatMap_append, List.append_assoc, List.append_nil] at e1 e2 e3 ⊢
  rw [num_b2 (m := 4) _ (by omega) (by omega) (by omega)]
  simp only [bnd, Int.toNat_natCast]
  rw [e1]
  simp only [fin0]
  rw [num_b2 (m := 65536) _ (by omega) (by omega) (by omega)]
  simp only [bnd, fin1]
  rw [num_b2 (m := 3) _ (by omega) (by omega) (by omega)]
  simp only [bnd, fin2, Int.toNat_natCast]
  rw [e2]
  simp only [fin3]
  rw [num_b2 (m := 6) _ (by omega) (by omega) (by omega)]
  simp only [bnd, fin4, Int.toNat_natCast]
  rw [e3]
  simp only [fin5]
end Go.Proofs.YtiggoojjefmcoaaDoor.Pl
