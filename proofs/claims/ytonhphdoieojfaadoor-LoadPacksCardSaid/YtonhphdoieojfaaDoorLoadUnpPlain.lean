/- load.unpack's steps in plain Lean: what a loop has taken, and what is left to take. No condition. -/
import Derived.Test.YtonhphdoieojfaaDoorLoadParse
set_option linter.unusedVariables false
set_option linter.unusedSimpArgs false
namespace Go.Proofs.YtonhphdoieojfaaDoor.Ld
theorem drop_at (s : ByteArray) (p : Nat) (h : p < s.size) : s.data.toList.drop p = s[p] :: s.data.toList.drop (p + 1) := by
  have hl : p < s.data.toList.length := by rw [bl]; exact h
  rw [List.drop_eq_getElem_cons hl]
  congr 1
theorem drop_none (s : ByteArray) (p : Nat) (h : s.size ≤ p) : s.data.toList.drop p = [] := List.drop_of_length_le (by rw [bl]; exact h)
theorem drop_len (s : ByteArray) (p : Nat) : (s.data.toList.drop p).length = s.size - p := by rw [List.length_drop, bl]
theorem extract_list (s : ByteArray) (a n : Nat) : (s.extract a (a + n)).data.toList = (s.data.toList.drop a).take n := by
  rw [ByteArray.data_extract, Array.toList_extract, List.extract_eq_take_drop]
  congr 1
  omega
def pre (acc : List ByteArray) : Except Nat (List (List UInt8) × List UInt8) → Except Nat (List (List UInt8) × List UInt8)
  | .error e => .error e
  | .ok (r, u) => .ok (row acc ++ r, u)
theorem pre_nil (x : Except Nat (List (List UInt8) × List UInt8)) : pre [] x = x := by
  match x with
  | .error e => rfl
  | .ok (r, u) => rfl
section
variable {X : Except Nat (List (List UInt8) × List UInt8)} {acc : List ByteArray} {k p : Nat} {s : ByteArray}
theorem strs_more (h : X = pre acc (strs (k + 1) (s.data.toList.drop p))) (hp : s.size ≤ p) : X = .error 2 := by
  rw [h, drop_none s p hp]; rfl
theorem strs_big (h : X = pre acc (strs (k + 1) (s.data.toList.drop p))) (hp : p < s.size) (hm : 64 < s[p].toNat) : X = .error 4 := by
  rw [h, drop_at s p hp, strs, if_pos hm]; rfl
theorem strs_short (h : X = pre acc (strs (k + 1) (s.data.toList.drop p))) (hp : p < s.size) (hm : ¬ 64 < s[p].toNat) (hl : s.size - (p + 1) < s[p].toNat) : X = .error 2 := by
  rw [h, drop_at s p hp, strs, if_neg hm, if_pos (by rw [drop_len]; exact hl)]; rfl
theorem strs_next (h : X = pre acc (strs (k + 1) (s.data.toList.drop p))) (hp : p < s.size) (hm : ¬ 64 < s[p].toNat) (hl : ¬ s.size - (p + 1) < s[p].toNat) :
    X = pre (acc ++ [s.extract (p + 1) (p + 1 + s[p].toNat)]) (strs k (s.data.toList.drop (p + 1 + s[p].toNat))) := by
  rw [h, drop_at s p hp, strs, if_neg hm, if_neg (by rw [drop_len]; exact hl), List.drop_drop]
  match strs k (s.data.toList.drop (p + 1 + s[p].toNat)) with
  | .error e => rfl
  | .ok (r, u) => simp [pre, row, extract_list]
theorem strs_end (h : X = pre acc (strs 0 (s.data.toList.drop p))) : X = .ok (row acc, s.data.toList.drop p) := by
  rw [h, strs, pre, List.append_nil]
end
def preR (acc : List (List ByteArray)) : Except Nat (List (List (List UInt8)) × List UInt8) → Except Nat (List (List (List UInt8)) × List UInt8)
  | .error e => .error e
  | .ok (r, u) => .ok (of acc ++ r, u)
theorem preR_nil (x : Except Nat (List (List (List UInt8)) × List UInt8)) : preR [] x = x := by
  match x with
  | .error e => rfl
  | .ok (r, u) => rfl
section
variable {Y : Except Nat (List (List (List UInt8)))} {acc : List (List ByteArray)} {k p p' c : Nat} {s : ByteArray} {r : List ByteArray}
theorem unp_more (hp : s.size ≤ 0) : unpack s.data.toList = .error 2 := by
  have := drop_none s 0 hp
  rw [List.drop_zero] at this
  rw [this]; rfl
theorem unp_big (hp : 0 < s.size) (hm : 4 < s[0].toNat) : unpack s.data.toList = .error 4 := by
  have := drop_at s 0 hp
  rw [List.drop_zero] at this
  rw [this, unpack, if_pos hm]
theorem unp_go (hp : 0 < s.size) (hm : ¬ 4 < s[0].toNat) : unpack s.data.toList = finish (preR [] (rows s[0].toNat (s.data.toList.drop 1))) := by
  have := drop_at s 0 hp
  rw [List.drop_zero] at this
  rw [preR_nil]
  conv => lhs; rw [this, unpack, if_neg hm]
theorem rows_more (h : Y = finish (preR acc (rows (k + 1) (s.data.toList.drop p)))) (hp : s.size ≤ p) : Y = .error 2 := by
  rw [h, drop_none s p hp]; rfl
theorem rows_big (h : Y = finish (preR acc (rows (k + 1) (s.data.toList.drop p)))) (hp : p < s.size) (hm : 8 < s[p].toNat) : Y = .error 4 := by
  rw [h, drop_at s p hp, rows, if_pos hm]; rfl
theorem rows_bad (h : Y = finish (preR acc (rows (k + 1) (s.data.toList.drop p)))) (hp : p < s.size) (hm : ¬ 8 < s[p].toNat) (hs : strs s[p].toNat (s.data.toList.drop (p + 1)) = .error c) : Y = .error c := by
  rw [h, drop_at s p hp, rows, if_neg hm, hs]; rfl
theorem rows_next (h : Y = finish (preR acc (rows (k + 1) (s.data.toList.drop p)))) (hp : p < s.size) (hm : ¬ 8 < s[p].toNat) (hs : strs s[p].toNat (s.data.toList.drop (p + 1)) = .ok (row r, s.data.toList.drop p')) :
    Y = finish (preR (acc ++ [r]) (rows k (s.data.toList.drop p'))) := by
  rw [h, drop_at s p hp, rows, if_neg hm, hs]
  show finish (preR acc (match rows k (s.data.toList.drop p') with | .error e => .error e | .ok (q, v) => .ok (row r :: q, v))) = _
  match rows k (s.data.toList.drop p') with
  | .error e => rfl
  | .ok (q, u) => simp [preR, of]
theorem rows_left (h : Y = finish (preR acc (rows 0 (s.data.toList.drop p)))) (hp : p < s.size) : Y = .error 3 := by
  rw [h, drop_at s p hp, rows, preR, finish, if_neg (by simp)]
theorem rows_end (h : Y = finish (preR acc (rows 0 (s.data.toList.drop p)))) (hp : s.size ≤ p) : Y = .ok (of acc) := by
  rw [h, drop_none s p hp, rows, preR, finish, if_pos rfl, List.append_nil]
end
end Go.Proofs.YtonhphdoieojfaaDoor.Ld
