/- Packed images in plain Lean, piece by piece, and the bounds of their lengths. No condition. -/
import Derived.Test.YtonhphdoieojfaaDoorLoadPlain
import Derived.Test.YtonhphdoieojfaaDoorBuild
set_option linter.unusedVariables false
set_option linter.unusedSimpArgs false
namespace Go.Proofs.YtonhphdoieojfaaDoor.Ld
theorem bl (s : ByteArray) : s.data.toList.length = s.size := Array.length_toList
/-- images as lists of bytes -/
def row (r : List ByteArray) : List (List UInt8) := r.map (·.data.toList)
def of (l : List (List ByteArray)) : List (List (List UInt8)) := l.map row
theorem packRow_snoc (a : List (List UInt8)) (s : List UInt8) : packRow (a ++ [s]) = packRow a ++ byte s.length :: s := by
  induction a with
  | nil => simp [packRow]
  | cons x a ih => simp [packRow, ih]
theorem packRows_snoc (a : List (List (List UInt8))) (r : List (List UInt8)) : packRows (a ++ [r]) = packRows a ++ byte r.length :: packRow r := by
  induction a with
  | nil => simp [packRows]
  | cons x a ih => simp [packRows, ih]
theorem packRow_length (a : List (List UInt8)) (h : ∀ s ∈ a, s.length ≤ 64) : (packRow a).length ≤ 65 * a.length := by
  induction a with
  | nil => simp [packRow]
  | cons x a ih =>
    have h1 := h x (by simp)
    have h2 := ih (fun s hs => h s (by simp [hs]))
    simp only [packRow, List.length_cons, List.length_append]
    omega
theorem packRows_length (a : List (List (List UInt8))) (h : ∀ r ∈ a, r.length ≤ 8 ∧ ∀ s ∈ r, s.length ≤ 64) : (packRows a).length ≤ 521 * a.length := by
  induction a with
  | nil => simp [packRows]
  | cons x a ih =>
    have h1 := h x (by simp)
    have h2 := ih (fun s hs => h s (by simp [hs]))
    have h3 := packRow_length x h1.2
    simp only [packRows, List.length_cons, List.length_append]
    omega
theorem take_row {r : List ByteArray} {j : Nat} (h : j < r.length) : row (r.take (j + 1)) = row (r.take j) ++ [(r.getD j ByteArray.empty).data.toList] := by
  rw [List.take_succ_eq_append_getElem h, List.getD_eq_getElem?_getD, List.getElem?_eq_getElem h, row, List.map_append]
  rfl
theorem take_of {l : List (List ByteArray)} {k : Nat} (h : k < l.length) : of (l.take (k + 1)) = of (l.take k) ++ [row (l.getD k [])] := by
  rw [List.take_succ_eq_append_getElem h, List.getD_eq_getElem?_getD, List.getElem?_eq_getElem h, of, List.map_append]
  rfl
/-- may a row be packed? -/
def okRow (r : List ByteArray) : Bool := decide (r.length ≤ 8) && !(r.any (fun s => decide (64 < s.size)))
theorem okRow_iff (r : List ByteArray) : okRow r = true ↔ (row r).length ≤ 8 ∧ ∀ s ∈ row r, s.length ≤ 64 := by
  simp only [okRow, row, Bool.and_eq_true, decide_eq_true_eq, List.length_map, List.mem_map, Bool.not_eq_true', List.any_eq_false]
  refine and_congr_right fun _ => ⟨?_, ?_⟩
  · rintro h s ⟨x, hx, rfl⟩
    have := h x hx
    rw [bl]
    simpa using this
  · intro h x hx
    have := h _ ⟨x, hx, rfl⟩
    rw [bl] at this
    simpa using this
theorem fits_iff (l : List (List ByteArray)) : fits (of l) = true ↔ l.length ≤ 4 ∧ ∀ r ∈ l, okRow r = true := by
  simp only [fits, of, Bool.and_eq_true, decide_eq_true_eq, List.length_map, List.all_eq_true, List.mem_map]
  refine and_congr_right fun _ => ⟨?_, ?_⟩
  · intro h r hr
    rw [okRow_iff]
    exact h _ ⟨r, hr, rfl⟩
  · rintro h _ ⟨r, hr, rfl⟩
    exact (okRow_iff r).1 (h r hr)
/-- what load.Pack hands back -/
def packS (l : List (List ByteArray)) : ByteArray := if fits (of l) then ⟨(pack (of l)).toArray⟩ else ByteArray.empty
def packE (l : List (List ByteArray)) : Int := if fits (of l) then 0 else 4
theorem cells_byte (n : Nat) (h : n < 256) : Lib.byteCells [byte n] = [Value.int .u8 (n : Int)] := by
  simp only [Lib.byteCells, byte, List.map_cons, List.map_nil, UInt8.toNat_ofNat']
  congr 2
  omega
/-- what is packed when k rows are done, and j strings of the next one -/
def rowsK (l : List (List ByteArray)) (k : Nat) : List UInt8 := byte l.length :: packRows (of (l.take k))
def rowsKJ (l : List (List ByteArray)) (k : Nat) (r : List ByteArray) (j : Nat) : List UInt8 := rowsK l k ++ byte r.length :: packRow (row (r.take j))
theorem mem_take_ok {l : List (List ByteArray)} {k : Nat} (h : ∀ r ∈ l.take k, okRow r = true) : ∀ r ∈ of (l.take k), r.length ≤ 8 ∧ ∀ s ∈ r, s.length ≤ 64 := by
  intro r hr
  obtain ⟨x, hx, rfl⟩ := List.mem_map.mp hr
  exact (okRow_iff x).1 (h x hx)
theorem rowsK_length {l : List (List ByteArray)} {k : Nat} (hl : l.length ≤ 4) (h : ∀ r ∈ l.take k, okRow r = true) : (rowsK l k).length ≤ 2085 := by
  have h1 := packRows_length _ (mem_take_ok h)
  have h2 : (of (l.take k)).length ≤ 4 := by
    rw [of, List.length_map]
    exact Nat.le_trans (List.length_take_le' _ _) hl
  simp only [rowsK, List.length_cons]
  omega
theorem rowsKJ_length {l : List (List ByteArray)} {k j : Nat} {r : List ByteArray} (hl : l.length ≤ 4) (h : ∀ r ∈ l.take k, okRow r = true) (hr : okRow r = true) : (rowsKJ l k r j).length ≤ 2606 := by
  have h1 := rowsK_length hl h
  obtain ⟨h2, h3⟩ := (okRow_iff r).1 hr
  have h4 : (packRow (row (r.take j))).length ≤ 65 * (row (r.take j)).length := packRow_length _ (fun s hs => by
    obtain ⟨x, hx, rfl⟩ := List.mem_map.mp hs
    exact h3 _ (List.mem_map.mpr ⟨x, List.mem_of_mem_take hx, rfl⟩))
  have h5 : (row (r.take j)).length ≤ 8 := by
    rw [row, List.length_map]
    rw [row, List.length_map] at h2
    exact Nat.le_trans (List.length_take_le' _ _) h2
  simp only [rowsKJ, List.length_append, List.length_cons]
  omega
theorem rowsKJ_next (l : List (List ByteArray)) (k : Nat) (r : List ByteArray) (j : Nat) (h : j < r.length) : rowsKJ l k r j ++ [byte (r.getD j ByteArray.empty).size] ++ (r.getD j ByteArray.empty).data.toList = rowsKJ l k r (j + 1) := by
  rw [rowsKJ, rowsKJ, take_row h, packRow_snoc, bl]
  simp
theorem rowsKJ_end (l : List (List ByteArray)) (k : Nat) (h : k < l.length) : rowsKJ l k (l.getD k []) (l.getD k []).length = rowsK l (k + 1) := by
  rw [rowsKJ, rowsK, rowsK, take_of h, packRows_snoc, List.take_length]
  simp [row]
theorem take_ok {l : List (List ByteArray)} {k : Nat} (hk : k < l.length) (h : ∀ r ∈ l.take k, okRow r = true) (hr : okRow (l.getD k []) = true) : ∀ r ∈ l.take (k + 1), okRow r = true := by
  rw [List.take_succ_eq_append_getElem hk]
  rw [List.getD_eq_getElem?_getD, List.getElem?_eq_getElem hk] at hr
  intro r hm
  rcases List.mem_append.mp hm with hm | hm
  · exact h r hm
  · rw [List.mem_singleton] at hm
    rw [hm]
    exact hr
theorem not_fits_long {l : List (List ByteArray)} (h : ¬ l.length ≤ 4) : fits (of l) = false := by
  rw [Bool.eq_false_iff]
  intro hf
  exact h ((fits_iff l).1 hf).1
theorem not_fits_row {l : List (List ByteArray)} {k : Nat} (hk : k < l.length) (h : okRow (l.getD k []) = false) : fits (of l) = false := by
  rw [Bool.eq_false_iff]
  intro hf
  rw [List.getD_eq_getElem?_getD, List.getElem?_eq_getElem hk] at h
  exact absurd (((fits_iff l).1 hf).2 _ (List.getElem_mem hk)) (by rw [Option.getD_some] at h; rw [h]; decide)
theorem fits_end {l : List (List ByteArray)} (hl : l.length ≤ 4) (h : ∀ r ∈ l.take l.length, okRow r = true) : fits (of l) = true := (fits_iff l).2 ⟨hl, by rw [List.take_length] at h; exact h⟩
theorem rowsK_end (l : List (List ByteArray)) : rowsK l l.length = pack (of l) := by
  rw [rowsK, pack, List.take_length, of, List.length_map]
theorem packS_no {l : List (List ByteArray)} (h : fits (of l) = false) : ByteArray.empty = packS l := by rw [packS, h]; rfl
theorem packE_no {l : List (List ByteArray)} (h : fits (of l) = false) : (4 : Int) = packE l := by rw [packE, h]; rfl
theorem packS_yes {l : List (List ByteArray)} (h : fits (of l) = true) : (⟨(rowsK l l.length).toArray⟩ : ByteArray) = packS l := by rw [packS, h, rowsK_end]; rfl
theorem packE_yes {l : List (List ByteArray)} (h : fits (of l) = true) : (0 : Int) = packE l := by rw [packE, h]; rfl
theorem okRow_big {r : List ByteArray} (h : ¬ r.length ≤ 8) : okRow r = false := by simp [okRow, h]
theorem okRow_any {r : List ByteArray} (h : r.any (fun s => decide (64 < s.size)) = true) : okRow r = false := by simp [okRow, h]
theorem okRow_yes {r : List ByteArray} (h8 : r.length ≤ 8) (h : r.any (fun s => decide (64 < s.size)) = false) : okRow r = true := by simp [okRow, h8, h]
theorem okRow_size {r : List ByteArray} {j : Nat} (h : okRow r = true) (hj : j < r.length) : (r.getD j ByteArray.empty).size ≤ 64 := by
  have := ((okRow_iff r).1 h).2 _ (List.mem_map.mpr ⟨_, List.getElem_mem hj, rfl⟩)
  rw [List.getD_eq_getElem?_getD, List.getElem?_eq_getElem hj]
  rw [bl] at this
  exact this
end Go.Proofs.YtonhphdoieojfaaDoor.Ld
