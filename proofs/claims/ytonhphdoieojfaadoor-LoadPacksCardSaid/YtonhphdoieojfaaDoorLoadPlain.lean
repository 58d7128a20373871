/- Packed images in plain Lean: rows of bytes' rows; what is packed alike is the same. No condition. -/
import Derived.WalkKit
namespace Go.Proofs.YtonhphdoieojfaaDoor.Ld
/-- may images be packed? -/
def fits (l : List (List (List UInt8))) : Bool := decide (l.length ≤ 4) && l.all (fun row => decide (row.length ≤ 8) && row.all (fun s => decide (s.length ≤ 64)))
def byte (n : Nat) : UInt8 := UInt8.ofNat n
def packRow : List (List UInt8) → List UInt8
  | [] => []
  | s :: row => byte s.length :: (s ++ packRow row)
def packRows : List (List (List UInt8)) → List UInt8
  | [] => []
  | row :: l => byte row.length :: (packRow row ++ packRows l)
def pack (l : List (List (List UInt8))) : List UInt8 := byte l.length :: packRows l
theorem byte_inj {m n : Nat} (hm : m < 256) (hn : n < 256) (h : byte m = byte n) : m = n := by
  have := congrArg UInt8.toNat h
  simp only [byte, UInt8.toNat_ofNat'] at this
  omega
theorem packRow_inj (a : List (List UInt8)) : ∀ (b : List (List UInt8)) (u v : List UInt8), a.length = b.length → (∀ s ∈ a, s.length ≤ 64) → (∀ s ∈ b, s.length ≤ 64) → packRow a ++ u = packRow b ++ v → a = b ∧ u = v := by
  induction a with
  | nil =>
    intro b u v hl _ _ h
    obtain rfl : b = [] := List.length_eq_zero_iff.mp hl.symm
    exact ⟨rfl, h⟩
  | cons s a ih =>
    intro b u v hl ha hb h
    match b, hl with
    | t :: b, hl =>
      simp only [packRow, List.cons_append, List.append_assoc, List.cons.injEq] at h
      have hs := ha s (by simp)
      have ht := hb t (by simp)
      have hst := byte_inj (by omega) (by omega) h.1
      obtain ⟨h1, h2⟩ := List.append_inj h.2 hst
      obtain ⟨h3, h4⟩ := ih b u v (by simpa using hl) (fun x hx => ha x (by simp [hx])) (fun x hx => hb x (by simp [hx])) h2
      exact ⟨by rw [h1, h3], h4⟩
theorem packRows_inj (a : List (List (List UInt8))) : ∀ (b : List (List (List UInt8))) (u v : List UInt8), a.length = b.length →
    (∀ row ∈ a, row.length ≤ 8 ∧ ∀ s ∈ row, s.length ≤ 64) → (∀ row ∈ b, row.length ≤ 8 ∧ ∀ s ∈ row, s.length ≤ 64) → packRows a ++ u = packRows b ++ v → a = b ∧ u = v := by
  induction a with
  | nil =>
    intro b u v hl _ _ h
    obtain rfl : b = [] := List.length_eq_zero_iff.mp hl.symm
    exact ⟨rfl, h⟩
  | cons s a ih =>
    intro b u v hl ha hb h
    match b, hl with
    | t :: b, hl =>
      simp only [packRows, List.cons_append, List.append_assoc, List.cons.injEq] at h
      have hs := ha s (by simp)
      have ht := hb t (by simp)
      have hst := byte_inj (by omega) (by omega) h.1
      obtain ⟨h1, h2⟩ := packRow_inj s t _ _ hst hs.2 ht.2 h.2
      obtain ⟨h3, h4⟩ := ih b u v (by simpa using hl) (fun x hx => ha x (by simp [hx])) (fun x hx => hb x (by simp [hx])) h2
      exact ⟨by rw [h1, h3], h4⟩
theorem fits_all {l : List (List (List UInt8))} (h : fits l = true) : l.length ≤ 4 ∧ ∀ row ∈ l, row.length ≤ 8 ∧ ∀ s ∈ row, s.length ≤ 64 := by
  simp only [fits, Bool.and_eq_true, decide_eq_true_eq, List.all_eq_true] at h
  exact h
theorem pack_inj {a b : List (List (List UInt8))} (ha : fits a = true) (hb : fits b = true) : pack a = pack b ↔ a = b := by
  constructor
  · intro h
    obtain ⟨a1, a2⟩ := fits_all ha
    obtain ⟨b1, b2⟩ := fits_all hb
    simp only [pack, List.cons.injEq] at h
    have hl := byte_inj (by omega) (by omega) h.1
    exact (packRows_inj a b [] [] hl a2 b2 (by simpa using h.2)).1
  · rintro rfl; rfl
end Go.Proofs.YtonhphdoieojfaaDoor.Ld
