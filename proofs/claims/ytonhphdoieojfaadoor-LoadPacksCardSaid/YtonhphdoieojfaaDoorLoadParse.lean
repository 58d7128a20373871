/- The images of bytes in plain Lean: a parser; what it takes is packed by the same bytes, what was packed is taken as it was. No condition. -/
import Derived.Test.YtonhphdoieojfaaDoorLoadPackPlain
set_option linter.unusedVariables false
set_option linter.unusedSimpArgs false
namespace Go.Proofs.YtonhphdoieojfaaDoor.Ld
/-- so many strings off bytes, or why not -/
def strs : Nat → List UInt8 → Except Nat (List (List UInt8) × List UInt8)
  | 0, s => .ok ([], s)
  | n + 1, [] => .error 2
  | n + 1, c :: t => if c.toNat > 64 then .error 4 else if c.toNat > t.length then .error 2 else
      match strs n (t.drop c.toNat) with
      | .error e => .error e
      | .ok (r, u) => .ok (t.take c.toNat :: r, u)
/-- so many rows -/
def rows : Nat → List UInt8 → Except Nat (List (List (List UInt8)) × List UInt8)
  | 0, s => .ok ([], s)
  | n + 1, [] => .error 2
  | n + 1, c :: t => if c.toNat > 8 then .error 4 else
      match strs c.toNat t with
      | .error e => .error e
      | .ok (r, u) =>
        match rows n u with
        | .error e => .error e
        | .ok (q, v) => .ok (r :: q, v)
def finish : Except Nat (List (List (List UInt8)) × List UInt8) → Except Nat (List (List (List UInt8)))
  | .error e => .error e
  | .ok (q, v) => if v = [] then .ok q else .error 3
def unpack : List UInt8 → Except Nat (List (List (List UInt8)))
  | [] => .error 2
  | c :: t => if c.toNat > 4 then .error 4 else finish (rows c.toNat t)
theorem byte_toNat {c : UInt8} : byte c.toNat = c := by simp [byte]
theorem toNat_byte {n : Nat} (h : n < 256) : (byte n).toNat = n := by simp [byte]; omega
theorem strs_ok : ∀ (n : Nat) (s : List UInt8) (r : List (List UInt8)) (u : List UInt8), strs n s = .ok (r, u) → r.length = n ∧ (∀ x ∈ r, x.length ≤ 64) ∧ s = packRow r ++ u
  | 0, s, r, u, h => by
    simp only [strs, Except.ok.injEq, Prod.mk.injEq] at h
    obtain ⟨rfl, rfl⟩ := h
    simp [packRow]
  | n + 1, [], r, u, h => by simp [strs] at h
  | n + 1, c :: t, r, u, h => by
    simp only [strs] at h
    split at h
    · cases h
    · rename_i h64
      split at h
      · cases h
      · rename_i hlen
        split at h
        · cases h
        · rename_i r' u' he
          simp only [Except.ok.injEq, Prod.mk.injEq] at h
          obtain ⟨rfl, rfl⟩ := h
          obtain ⟨h1, h2, h3⟩ := strs_ok n _ _ _ he
          have hl : (t.take c.toNat).length = c.toNat := by rw [List.length_take]; omega
          refine ⟨by simp [h1], ?_, ?_⟩
          · intro x hx
            rcases List.mem_cons.mp hx with rfl | hx
            · omega
            · exact h2 x hx
          · rw [packRow, hl, byte_toNat, List.cons_append, List.append_assoc, ← h3, List.take_append_drop]
theorem strs_pack : ∀ (r : List (List UInt8)) (u : List UInt8), (∀ x ∈ r, x.length ≤ 64) → strs r.length (packRow r ++ u) = .ok (r, u)
  | [], u, _ => rfl
  | s :: r, u, h => by
    have h64 := h s (by simp)
    have ih := strs_pack r u (fun x hx => h x (by simp [hx]))
    have hb : (byte s.length).toNat = s.length := toNat_byte (by omega)
    simp only [packRow, List.cons_append, List.append_assoc, List.length_cons, strs, hb]
    rw [if_neg (by omega), if_neg (by simp), List.drop_left, ih]
    simp
theorem rows_ok : ∀ (n : Nat) (s : List UInt8) (q : List (List (List UInt8))) (u : List UInt8), rows n s = .ok (q, u) → q.length = n ∧ (∀ r ∈ q, r.length ≤ 8 ∧ ∀ x ∈ r, x.length ≤ 64) ∧ s = packRows q ++ u
  | 0, s, q, u, h => by
    simp only [rows, Except.ok.injEq, Prod.mk.injEq] at h
    obtain ⟨rfl, rfl⟩ := h
    simp [packRows]
  | n + 1, [], q, u, h => by simp [rows] at h
  | n + 1, c :: t, q, u, h => by
    simp only [rows] at h
    split at h
    · cases h
    · rename_i h8
      split at h
      · cases h
      · rename_i r u1 he
        split at h
        · cases h
        · rename_i q' v he2
          simp only [Except.ok.injEq, Prod.mk.injEq] at h
          obtain ⟨rfl, rfl⟩ := h
          obtain ⟨a1, a2, a3⟩ := strs_ok _ _ _ _ he
          obtain ⟨b1, b2, b3⟩ := rows_ok n _ _ _ he2
          refine ⟨by simp [b1], ?_, ?_⟩
          · intro x hx
            rcases List.mem_cons.mp hx with rfl | hx
            · exact ⟨by omega, a2⟩
            · exact b2 x hx
          · rw [packRows, a1, byte_toNat, List.cons_append, List.append_assoc, ← b3, ← a3]
theorem rows_pack : ∀ (q : List (List (List UInt8))) (u : List UInt8), (∀ r ∈ q, r.length ≤ 8 ∧ ∀ x ∈ r, x.length ≤ 64) → rows q.length (packRows q ++ u) = .ok (q, u)
  | [], u, _ => rfl
  | r :: q, u, h => by
    obtain ⟨h8, h64⟩ := h r (by simp)
    have ih := rows_pack q u (fun x hx => h x (by simp [hx]))
    have hb : (byte r.length).toNat = r.length := toNat_byte (by omega)
    simp only [packRows, List.cons_append, List.append_assoc, List.length_cons, rows, hb]
    rw [if_neg (by omega), strs_pack r _ h64]
    simp only [ih]
theorem unpack_ok {s : List UInt8} {q : List (List (List UInt8))} (h : unpack s = .ok q) : fits q = true ∧ s = pack q := by
  match s, h with
  | [], h => simp [unpack] at h
  | c :: t, h =>
    simp only [unpack] at h
    split at h
    · cases h
    · rename_i h4
      match hr : rows c.toNat t, h with
      | .error e, h => simp [finish] at h
      | .ok (q', v), h =>
        simp only [finish] at h
        split at h
        · rename_i hv
          injection h with h
          subst h hv
          obtain ⟨a1, a2, a3⟩ := rows_ok _ _ _ _ hr
          refine ⟨?_, ?_⟩
          · simp only [fits, Bool.and_eq_true, decide_eq_true_eq, List.all_eq_true]
            exact ⟨by omega, a2⟩
          · rw [pack, a1, byte_toNat, a3, List.append_nil]
        · cases h
theorem unpack_pack {q : List (List (List UInt8))} (h : fits q = true) : unpack (pack q) = .ok q := by
  obtain ⟨h4, hr⟩ := fits_all h
  have hb : (byte q.length).toNat = q.length := toNat_byte (by omega)
  have := rows_pack q [] hr
  rw [List.append_nil] at this
  simp only [pack, unpack, hb, this, finish]
  rw [if_neg (by omega)]
  simp
theorem unpack_more {q : List (List (List UInt8))} {x : UInt8} (h : fits q = true) : unpack (pack q ++ [x]) = .error 3 := by
  obtain ⟨h4, hr⟩ := fits_all h
  have hb : (byte q.length).toNat = q.length := toNat_byte (by omega)
  have := rows_pack q [x] hr
  simp only [pack, List.cons_append, unpack, hb, this, finish]
  rw [if_neg (by omega)]
  simp
/-! a beginning of packed images: bytes are missing -/
theorem strs_cut : ∀ (r : List (List UInt8)) (k : Nat), (∀ x ∈ r, x.length ≤ 64) → k < (packRow r).length → strs r.length ((packRow r).take k) = .error 2
  | [], k, _, hk => by simp [packRow] at hk
  | s :: r, 0, _, _ => by simp [strs]
  | s :: r, k + 1, h, hk => by
    have h64 := h s (by simp)
    have hb : (byte s.length).toNat = s.length := toNat_byte (by omega)
    simp only [packRow, List.length_cons, List.length_append] at hk
    simp only [packRow, List.take_succ_cons, List.length_cons, strs, hb]
    rw [if_neg (by omega)]
    split
    · rfl
    · rename_i hlen
      have hks : s.length ≤ k := by
        simp only [List.length_take, List.length_append] at hlen
        omega
      rw [List.take_append, List.take_of_length_le (by omega), List.drop_left, strs_cut r (k - s.length) (fun x hx => h x (by simp [hx])) (by omega)]
theorem strs_cut_more (r : List (List UInt8)) (u : List UInt8) (k : Nat) (h : ∀ x ∈ r, x.length ≤ 64) (hk : k < (packRow r).length) : strs r.length ((packRow r ++ u).take k) = .error 2 := by
  rw [List.take_append_of_le_length (by omega)]
  exact strs_cut r k h hk
theorem rows_cut : ∀ (q : List (List (List UInt8))) (k : Nat), (∀ r ∈ q, r.length ≤ 8 ∧ ∀ x ∈ r, x.length ≤ 64) → k < (packRows q).length → rows q.length ((packRows q).take k) = .error 2
  | [], k, _, hk => by simp [packRows] at hk
  | r :: q, 0, _, _ => by simp [rows]
  | r :: q, k + 1, h, hk => by
    obtain ⟨h8, h64⟩ := h r (by simp)
    have hb : (byte r.length).toNat = r.length := toNat_byte (by omega)
    simp only [packRows, List.length_cons, List.length_append] at hk
    simp only [packRows, List.take_succ_cons, List.length_cons, rows, hb]
    rw [if_neg (by omega)]
    by_cases hkr : k < (packRow r).length
    · rw [strs_cut_more r _ k h64 hkr]
    · rw [List.take_append, List.take_of_length_le (by omega), strs_pack r _ h64]
      simp only
      rw [rows_cut q (k - (packRow r).length) (fun x hx => h x (by simp [hx])) (by omega)]
theorem unpack_cut {q : List (List (List UInt8))} {k : Nat} (h : fits q = true) (hk : k < (pack q).length) : unpack ((pack q).take k) = .error 2 := by
  obtain ⟨h4, hr⟩ := fits_all h
  have hb : (byte q.length).toNat = q.length := toNat_byte (by omega)
  match k, hk with
  | 0, _ => simp [unpack]
  | k + 1, hk =>
    simp only [pack, List.length_cons] at hk
    simp only [pack, List.take_succ_cons, unpack, hb]
    rw [if_neg (by omega), rows_cut q k hr (by omega)]
    rfl
end Go.Proofs.YtonhphdoieojfaaDoor.Ld
