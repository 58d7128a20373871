/- The plain arithmetic of memories of bytes: the byte and the word at a place, a memory with bytes. No condition. -/
import Derived.WalkKit
namespace Go.Proofs.YtonhphdoieojfaaDoor.Sg

/-- the byte at a place -/
def byte (m : ByteArray) (k : Nat) : Int := ((m.data.toList.getD k 0).toNat : Int)
theorem byte_eq {m : ByteArray} {k : Nat} (h : k < m.size) : ((m[k]'h).toNat : Int) = byte m k := by
  unfold byte
  have h' : k < m.data.toList.length := by rw [Array.length_toList]; exact h
  rw [List.getD_eq_getElem?_getD, List.getElem?_eq_getElem h']
  rfl
theorem byte_lo (m : ByteArray) (k : Nat) : 0 ≤ byte m k := by unfold byte; omega
theorem byte_hi (m : ByteArray) (k : Nat) : byte m k < 256 := by
  unfold byte
  have := (m.data.toList.getD k 0).toNat_lt
  omega

/-- the word at a place -/
def word (m : ByteArray) (k : Nat) : Int := byte m k + 256 * byte m (k + 1) + 65536 * byte m (k + 2) + 16777216 * byte m (k + 3)
theorem word_lo (m : ByteArray) (k : Nat) : 0 ≤ word m k := by
  unfold word
  have := byte_lo m k; have := byte_lo m (k + 1); have := byte_lo m (k + 2); have := byte_lo m (k + 3)
  omega
theorem word_hi (m : ByteArray) (k : Nat) : word m k < 4294967296 := by
  unfold word
  have := byte_hi m k; have := byte_hi m (k + 1); have := byte_hi m (k + 2); have := byte_hi m (k + 3)
  omega

theorem or8 {x b : Int} (h0 : 0 ≤ x) (h1 : x < 16777216) (h2 : 0 ≤ b) (h3 : b < 256) : bits .or .u32 (x * 256) b = x * 256 + b := by
  rw [u32_or _ _ (by omega) (by omega) h2 (by omega)]
  rw [nat_join 8 _ _ (by omega) (by omega)]
  omega

theorem or_word {b0 b1 b2 b3 : Int} (h0 : 0 ≤ b0) (h0' : b0 < 256) (h1 : 0 ≤ b1) (h1' : b1 < 256) (h2 : 0 ≤ b2) (h2' : b2 < 256) (h3 : 0 ≤ b3) (h3' : b3 < 256) :
    bits .or .u32 (bits .or .u32 (bits .or .u32 (bits .or .u32 0 (b3 % 4294967296) * 256 % 4294967296) (b2 % 4294967296) * 256 % 4294967296) (b1 % 4294967296) * 256 % 4294967296) (b0 % 4294967296) =
      b0 + 256 * b1 + 65536 * b2 + 16777216 * b3 := by
  have e3 : bits .or .u32 0 b3 = b3 := by have := or8 (x := 0) (b := b3) (by omega) (by omega) h3 h3'; simpa using this
  rw [Int.emod_eq_of_lt h3 (by omega), Int.emod_eq_of_lt h2 (by omega), Int.emod_eq_of_lt h1 (by omega), Int.emod_eq_of_lt h0 (by omega), e3]
  rw [Int.emod_eq_of_lt (show 0 ≤ b3 * 256 by omega) (by omega), or8 h3 (by omega) h2 h2']
  rw [Int.emod_eq_of_lt (show 0 ≤ (b3 * 256 + b2) * 256 by omega) (by omega), or8 (by omega) (by omega) h1 h1']
  rw [Int.emod_eq_of_lt (show 0 ≤ ((b3 * 256 + b2) * 256 + b1) * 256 by omega) (by omega), or8 (by omega) (by omega) h0 h0']
  omega

/-- a memory with bytes at a place -/
def put (m : ByteArray) (k : Nat) (l : List UInt8) : ByteArray := ⟨(m.data.toList.take k ++ l ++ m.data.toList.drop (k + l.length)).toArray⟩
theorem put_size {m : ByteArray} {k : Nat} {l : List UInt8} (h : k + l.length ≤ m.size) : (put m k l).size = m.size := by
  have : (put m k l).size = (m.data.toList.take k ++ l ++ m.data.toList.drop (k + l.length)).length := by show (List.toArray _).size = _; exact List.size_toArray
  rw [this]
  simp only [List.length_append, List.length_take, List.length_drop]
  have e : m.data.toList.length = m.size := Array.length_toList
  omega
theorem put_data (m : ByteArray) (k : Nat) (l : List UInt8) : (put m k l).data.toList = m.data.toList.take k ++ l ++ m.data.toList.drop (k + l.length) := by simp [put]
theorem byte_put_in {m : ByteArray} {k j : Nat} {l : List UInt8} (h : k + l.length ≤ m.size) (h1 : k ≤ j) (h2 : j < k + l.length) : byte (put m k l) j = ((l.getD (j - k) 0).toNat : Int) := by
  have e : m.data.toList.length = m.size := Array.length_toList
  have hk : (m.data.toList.take k).length = k := by rw [List.length_take]; omega
  unfold byte
  rw [put_data, List.getD_eq_getElem?_getD, List.getElem?_append_left (by simp only [List.length_append, hk]; omega), List.getElem?_append_right (by omega), hk, List.getD_eq_getElem?_getD]
theorem byte_put_out {m : ByteArray} {k j : Nat} {l : List UInt8} (h : k + l.length ≤ m.size) (h1 : j < k ∨ k + l.length ≤ j) : byte (put m k l) j = byte m j := by
  have e : m.data.toList.length = m.size := Array.length_toList
  have hk : (m.data.toList.take k).length = k := by rw [List.length_take]; omega
  unfold byte
  rw [put_data, List.getD_eq_getElem?_getD, List.getD_eq_getElem?_getD]
  rcases h1 with h1 | h1
  · rw [List.append_assoc, List.getElem?_append_left (by omega), List.getElem?_take, if_pos h1]
  · rw [List.getElem?_append_right (by simp only [List.length_append, hk]; omega), List.getElem?_drop]
    simp only [List.length_append, hk]
    rw [show k + l.length + (j - (k + l.length)) = j by omega]

/-- a word's bytes -/
def bytes4 (v : Int) : List UInt8 := [UInt8.ofNat (v % 256).toNat, UInt8.ofNat (v / 256 % 256).toNat, UInt8.ofNat (v / 65536 % 256).toNat, UInt8.ofNat (v / 16777216).toNat]
theorem ofNat_toNat (n : Int) (h0 : 0 ≤ n) (h1 : n < 256) : (((UInt8.ofNat n.toNat).toNat : Nat) : Int) = n := by
  rw [UInt8.toNat_ofNat']
  omega

/-- does a word stand there, does a byte -/
def has (m : ByteArray) (a n : Int) : Bool := decide (a + n ≤ m.size)
def isWord (m : ByteArray) (a : Int) : Bool := decide (a % 4 = 0) && has m a 4

def loadV (m : ByteArray) (a : Int) : Int := if isWord m a then word m a.toNat else 0
def loadE (m : ByteArray) (a : Int) : Int := if isWord m a then 0 else 10
def storeM (m : ByteArray) (a v : Int) : ByteArray := if isWord m a then put m a.toNat (bytes4 v) else m
def byteV (m : ByteArray) (a : Int) : Int := if has m a 1 then byte m a.toNat else 0
def byteE (m : ByteArray) (a : Int) : Int := if has m a 1 then 0 else 10
def putM (m : ByteArray) (a v : Int) : ByteArray := if has m a 1 then put m a.toNat [UInt8.ofNat (v % 256).toNat] else m
def outS (m : ByteArray) (a n : Int) : ByteArray := if has m a n then m.extract a.toNat (a + n).toNat else ⟨#[]⟩
def outE (m : ByteArray) (a n : Int) : Int := if has m a n then 0 else 10
def inM (m : ByteArray) (a : Int) (s : ByteArray) : ByteArray := if has m a s.size then put m a.toNat s.data.toList else m
def inE (m : ByteArray) (a : Int) (s : ByteArray) : Int := if has m a s.size then 0 else 10
def makeM (n : Int) (s : ByteArray) : ByteArray := if 0 ≤ n ∧ n ≤ 1024 ∧ s.size ≤ n then ⟨(s.data.toList ++ List.replicate (n - s.size).toNat 0).toArray⟩ else ⟨#[]⟩
def makeE (n : Int) (s : ByteArray) : Int := if n < 0 ∨ 1024 < n then 1 else if n < s.size then 4 else 0

theorem storeM_size {m : ByteArray} {a v : Int} (h0 : 0 ≤ a) : (storeM m a v).size = m.size := by
  unfold storeM
  split
  · rename_i h
    simp only [isWord, has, Bool.and_eq_true, decide_eq_true_eq] at h
    exact put_size (by simp [bytes4]; omega)
  · rfl
theorem putM_size {m : ByteArray} {a v : Int} (h0 : 0 ≤ a) : (putM m a v).size = m.size := by
  unfold putM
  split
  · rename_i h
    simp only [has, decide_eq_true_eq] at h
    exact put_size (by simp; omega)
  · rfl
end Go.Proofs.YtonhphdoieojfaaDoor.Sg
