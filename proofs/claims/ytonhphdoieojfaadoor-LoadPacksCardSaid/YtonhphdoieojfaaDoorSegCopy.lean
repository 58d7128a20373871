/- A string's bytes laid into a row, another string copied over them, the row read back as a string: laws on worlds. No condition on programs but for the types. -/
import Derived.Test.YtonhphdoieojfaaDoorBase2
import Derived.Test.YtonhphdoieojfaaDoorSegPlain
import Derived.Lib.LazyBuf
import Derived.Lib.BufferWrite
import Derived.WalkKit
import Derived.WalkSpells
import Derived.WalkLawsBesides
import Derived.Lib.Hide
import Derived.BigQuiet
import Derived.Deep.QuietTactic

set_option linter.unusedVariables false
set_option linter.unusedSimpArgs false
namespace Go.Proofs.YtonhphdoieojfaaDoor.Sg
open Go.RowKit

section
variable {P : Program}
/-- the row that '[]byte(m)' laid holds m's bytes -/
theorem row_cell (w : World) (m : ByteArray) (cap : Nat) (t : TypeId) (fr : Nat × Nat) (j : Nat) (hj : j < m.size) : (w.alloc (.cells (bytesRow m cap) t fr)).drew.cell? ⟨w.heap.size, j, none⟩ = some (.int .u8 (byte m j)) := by
  show (w.alloc (.cells (bytesRow m cap) t fr)).cell? ⟨w.heap.size, j, none⟩ = _
  rw [World.cell?_alloc_mark, bytesRow_at m cap j hj, ← byte_eq hj]
  rfl
theorem row_free (w : World) (m : ByteArray) (cap : Nat) (t : TypeId) (j : Nat) (hj : j < m.size) :
    (w.alloc (.cells (bytesRow m cap) t ((bytesRow m cap).size, (bytesRow m cap).size + 1))).drew.frozen? ⟨w.heap.size, j, none⟩ = false := by
  show (w.alloc (.cells (bytesRow m cap) t ((bytesRow m cap).size, (bytesRow m cap).size + 1))).frozen? ⟨w.heap.size, j, none⟩ = false
  have hs : m.size ≤ (bytesRow m cap).size := by
    have e : m.data.size = m.size := rfl
    simp only [bytesRow, Array.size_append, Array.size_map, Array.size_replicate]; omega
  rw [World.frozen?_alloc_mark]
  simp; omega

theorem back_put (W : World) (src dst e : TypeId) (hs : P.underlying src = some (.slice e)) (he : P.underlying e = some (.int .u8)) (hd : P.underlying dst = some .string)
    (b cap : Nat) (m s : ByteArray) (k : Nat) (hrow : ∀ j, j < m.size → W.cell? ⟨b, j, none⟩ = some (.int .u8 (byte m j))) (hf : k + s.size ≤ m.size) :
    (convert src dst (.slice (some ⟨b, 0, none⟩) m.size cap)).run P (W.setCells b k (s.data.toList.map fun x => Value.int .u8 (x.toNat : Int))) =
      .ok (.string (put m k s.data.toList)) (W.setCells b k (s.data.toList.map fun x => Value.int .u8 (x.toNat : Int))) := by
  have el : s.data.toList.length = s.size := Array.length_toList
  have hsz : (put m k s.data.toList).size = m.size := put_size (by omega)
  have hl : (put m k s.data.toList).data.toList.length = m.size := by rw [Array.length_toList]; exact hsz
  have h := run_convert_bytes_back (P := P) (W.setCells b k (s.data.toList.map fun x => Value.int .u8 (x.toNat : Int))) src dst e ⟨b, 0, none⟩ cap (put m k s.data.toList).data.toList hs he hd ?_
  · rw [hl] at h
    exact h
  · intro j hj
    have hj' : j < m.size := by omega
    have hv : ((put m k s.data.toList).data.toList[j].toNat : Int) = byte (put m k s.data.toList) j := by
      unfold byte
      rw [List.getD_eq_getElem?_getD, List.getElem?_eq_getElem hj]
      rfl
    have ha : (⟨b, 0, none⟩ : Addr).add j = ⟨b, j, none⟩ := by unfold Addr.add; split <;> simp_all
    rw [hv, ha]
    by_cases hin : k ≤ j ∧ j < k + s.size
    · obtain ⟨i, rfl⟩ : ∃ i, j = k + i := ⟨j - k, by omega⟩
      rw [World.cell?_setCells_in b _ k W (fun i hi => by
        rw [List.length_map] at hi
        rw [hrow _ (by omega)]; rfl) i (by rw [List.length_map]; omega)]
      rw [byte_put_in (by omega) (by omega) (by omega), List.getElem_map, show k + i - k = i by omega, List.getD_eq_getElem?_getD, List.getElem?_eq_getElem (by omega)]
      rfl
    · rw [World.cell?_setCells_out b _ k W ⟨b, j, none⟩ (fun _ _ => by rw [List.length_map]; show j < k ∨ k + _ ≤ j; omega), hrow j hj', byte_put_out (by omega) (by omega)]

theorem back_same (W : World) (src dst e : TypeId) (hs : P.underlying src = some (.slice e)) (he : P.underlying e = some (.int .u8)) (hd : P.underlying dst = some .string)
    (b cap : Nat) (m : ByteArray) (hrow : ∀ j, j < m.size → W.cell? ⟨b, j, none⟩ = some (.int .u8 (byte m j))) :
    (convert src dst (.slice (some ⟨b, 0, none⟩) m.size cap)).run P W = .ok (.string m) W := by
  have h := back_put (P := P) W src dst e hs he hd b cap m ⟨#[]⟩ 0 hrow (by show 0 + 0 ≤ _; omega)
  have e0 : put m 0 (⟨#[]⟩ : ByteArray).data.toList = m := by
    unfold put
    rcases m with ⟨l⟩
    simp
  rw [e0] at h
  exact h
/-- four new bytes, read as a string; one -/
theorem back4 (w : World) (src dst e T : TypeId) (cap : Nat) (hs : P.underlying src = some (.slice e)) (he : P.underlying e = some (.int .u8)) (hd : P.underlying dst = some .string) (v : Int) (v0 : 0 ≤ v) (v1 : v < 4294967296) :
    (convert src dst (.slice (some ⟨w.heap.size, 0, none⟩) 4 cap)).run P (w.alloc (.cells #[.int .u8 (v % 256), .int .u8 (v / 256 % 256), .int .u8 (v / 65536 % 256), .int .u8 (v / 16777216)] T)) =
      .ok (.string ⟨(bytes4 v).toArray⟩) (w.alloc (.cells #[.int .u8 (v % 256), .int .u8 (v / 256 % 256), .int .u8 (v / 65536 % 256), .int .u8 (v / 16777216)] T)) := by
  refine run_convert_bytes_back (P := P) _ src dst e ⟨w.heap.size, 0, none⟩ cap (bytes4 v) hs he hd fun j hj => ?_
  have hj4 : j < 4 := hj
  have ha : (⟨w.heap.size, 0, none⟩ : Addr).add j = ⟨w.heap.size, j, none⟩ := by unfold Addr.add; split <;> simp_all
  rw [ha, World.cell?_alloc_mark]
  have e0 := ofNat_toNat (v % 256) (by omega) (by omega)
  have e1 := ofNat_toNat (v / 256 % 256) (by omega) (by omega)
  have e2 := ofNat_toNat (v / 65536 % 256) (by omega) (by omega)
  have e3 := ofNat_toNat (v / 16777216) (by omega) (by omega)
  have h : j = 0 ∨ j = 1 ∨ j = 2 ∨ j = 3 := by omega
  rcases h with rfl | rfl | rfl | rfl
  · show _ = some (Value.int .u8 ((UInt8.ofNat (v % 256).toNat).toNat : Int)); rw [e0]; rfl
  · show _ = some (Value.int .u8 ((UInt8.ofNat (v / 256 % 256).toNat).toNat : Int)); rw [e1]; rfl
  · show _ = some (Value.int .u8 ((UInt8.ofNat (v / 65536 % 256).toNat).toNat : Int)); rw [e2]; rfl
  · show _ = some (Value.int .u8 ((UInt8.ofNat (v / 16777216).toNat).toNat : Int)); rw [e3]; rfl
theorem back1 (w : World) (src dst e T : TypeId) (cap : Nat) (hs : P.underlying src = some (.slice e)) (he : P.underlying e = some (.int .u8)) (hd : P.underlying dst = some .string) (v : Int) (v0 : 0 ≤ v) (v1 : v < 256) :
    (convert src dst (.slice (some ⟨w.heap.size, 0, none⟩) 1 cap)).run P (w.alloc (.cells #[.int .u8 v] T)) = .ok (.string ⟨#[UInt8.ofNat v.toNat]⟩) (w.alloc (.cells #[.int .u8 v] T)) := by
  refine run_convert_bytes_back (P := P) _ src dst e ⟨w.heap.size, 0, none⟩ cap [UInt8.ofNat v.toNat] hs he hd fun j hj => ?_
  have hj1 : j < 1 := hj
  have ha : (⟨w.heap.size, 0, none⟩ : Addr).add j = ⟨w.heap.size, j, none⟩ := by unfold Addr.add; split <;> simp_all
  rw [ha, World.cell?_alloc_mark]
  obtain rfl : j = 0 := by omega
  show _ = some (Value.int .u8 ((UInt8.ofNat v.toNat).toNat : Int))
  rw [ofNat_toNat v v0 v1]
  rfl
theorem back4_drew (w : World) (src dst e T : TypeId) (cap : Nat) (hs : P.underlying src = some (.slice e)) (he : P.underlying e = some (.int .u8)) (hd : P.underlying dst = some .string) (v : Int) (v0 : 0 ≤ v) (v1 : v < 4294967296) :
    (convert src dst (.slice (some ⟨w.heap.size, 0, none⟩) 4 cap)).run P (w.alloc (.cells #[.int .u8 (v % 256), .int .u8 (v / 256 % 256), .int .u8 (v / 65536 % 256), .int .u8 (v / 16777216)] T)).drew =
      .ok (.string ⟨(bytes4 v).toArray⟩) (w.alloc (.cells #[.int .u8 (v % 256), .int .u8 (v / 256 % 256), .int .u8 (v / 65536 % 256), .int .u8 (v / 16777216)] T)).drew :=
  back4 w.drew src dst e T cap hs he hd v v0 v1
theorem back1_drew (w : World) (src dst e T : TypeId) (cap : Nat) (hs : P.underlying src = some (.slice e)) (he : P.underlying e = some (.int .u8)) (hd : P.underlying dst = some .string) (v : Int) (v0 : 0 ≤ v) (v1 : v < 256) :
    (convert src dst (.slice (some ⟨w.heap.size, 0, none⟩) 1 cap)).run P (w.alloc (.cells #[.int .u8 v] T)).drew = .ok (.string ⟨#[UInt8.ofNat v.toNat]⟩) (w.alloc (.cells #[.int .u8 v] T)).drew :=
  back1 w.drew src dst e T cap hs he hd v v0 v1
theorem put_nothing (m : ByteArray) (k : Nat) {s : ByteArray} (h : s.size = 0) : put m k s.data.toList = m := by
  have e : s.data.toList = [] := List.eq_nil_of_length_eq_zero (by rw [Array.length_toList]; exact h)
  rw [e]
  unfold put
  rcases m with ⟨l⟩
  simp
end
end Go.Proofs.YtonhphdoieojfaaDoor.Sg
