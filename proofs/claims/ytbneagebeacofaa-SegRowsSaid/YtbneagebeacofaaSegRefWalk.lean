/- The functions of transomref02 answer what the plain functions Sg say, in every world. Conditions: a place is a word, a memory is no longer than a string can be (at Store and Put: than 2^32). -/
import Derived.Test.YtbneagebeacofaaProg
import Derived.Test.YtbneagebeacofaaSegCopy
import Derived.Handy
import Derived.WalkKit
import Derived.WalkSpells
import Derived.WalkLawsBesides
import Derived.Lib.Hide
import Derived.BigQuiet
import Derived.Deep.QuietTactic

set_option linter.unusedVariables false
set_option linter.unusedSimpArgs false
namespace Go.Proofs.Ytbneagebeacofaa
open Go.RowKit
namespace RSeg

theorem cat_put {m : ByteArray} {k n : Nat} {l : List UInt8} (hn : l.length = n) (h : k + n ≤ m.size) : m.extract 0 k ++ ⟨l.toArray⟩ ++ m.extract (k + n) m.size = Sg.put m k l := by
  subst hn
  rcases m with ⟨⟨d⟩⟩
  have hs : (ByteArray.mk ⟨d⟩).size = d.length := rfl
  have h1 : (ByteArray.mk ⟨d⟩).extract 0 k = ⟨(d.take k).toArray⟩ := by rw [show (ByteArray.mk ⟨d⟩) = ByteArray.mk d.toArray from rfl, ByteArray.extract_mk]; simp
  have h2 : (ByteArray.mk ⟨d⟩).extract (k + l.length) (ByteArray.mk ⟨d⟩).size = ⟨(d.drop (k + l.length)).toArray⟩ := by
    rw [show (ByteArray.mk ⟨d⟩) = ByteArray.mk d.toArray from rfl, ByteArray.extract_mk, List.take_of_length_le]
    rw [List.length_drop]; exact Nat.le_refl _
  rw [h1, h2, ByteArray.mk_append_mk, ByteArray.mk_append_mk]
  rfl

set_option maxHeartbeats 1000000 in
theorem fits (m : ByteArray) (a n : Int) (w : World) (hm : m.size ≤ 140737488355328) (h0 : 0 ≤ a) (h1 : a < 4294967296) (h2 : 0 ≤ n) (h3 : n < 4611686018427387904) :
    Calls Try.prog 28 #[.string m, .int .u32 a, .int .i64 n] w (Is (.bool (Sg.has m a n)) w) := by
  go_enter Try.func28, Try.ntmps28
  go_wp2
  go_ret
  refine is_bool ?_
  rfl

set_option maxHeartbeats 1000000 in
theorem Load_no (m : ByteArray) (a : Int) (w : World) (hm : m.size ≤ 140737488355328) (h0 : 0 ≤ a) (h1 : a < 4294967296) (hw : Sg.isWord m a = false) :
    Calls Try.prog 21 #[.string m, .int .u32 a] w (Gives (.tuple #[.int .u32 0, .int .i64 10]) w) := by
  by_cases hh : Sg.has m a 4 = true
  · have h4 : (a % 4 != 0) = true := by
      simp only [Sg.isWord, hh, Bool.and_true, decide_eq_false_iff_not] at hw
      simpa using hw
    go_enter Try.func21, Try.ntmps21
    go_wp2_with (go_at_call 28; refine (fits m a 4 _ hm h0 h1 (by omega) (by omega)).mono ?_; rintro e w' ⟨rfl, rfl⟩)
    all_goals go_ret2
    all_goals exact ⟨rfl, (by repeat (with_reducible (first | exact Below.refl _ _ | assumption | refine Below.to ?_ (by assumption) | refine below_drewN ?_ _ | refine Below.alloc ?_ (by first | (simp; done) | omega | (simp; omega) | (simp at *; omega)) _ | refine Below.setCell ?_ (by first | (simp; done) | omega | (simp; omega) | (simp at *; omega)) _ | refine Below.drew ?_)))⟩
  · have hh' : Sg.has m a 4 = false := by simpa using hh
    go_enter Try.func21, Try.ntmps21
    go_wp2_with (go_at_call 28; refine (fits m a 4 _ hm h0 h1 (by omega) (by omega)).mono ?_; rintro e w' ⟨rfl, rfl⟩)
    all_goals go_ret2
    all_goals exact ⟨rfl, (by repeat (with_reducible (first | exact Below.refl _ _ | assumption | refine Below.to ?_ (by assumption) | refine below_drewN ?_ _ | refine Below.alloc ?_ (by first | (simp; done) | omega | (simp; omega) | (simp at *; omega)) _ | refine Below.setCell ?_ (by first | (simp; done) | omega | (simp; omega) | (simp at *; omega)) _ | refine Below.drew ?_)))⟩

set_option maxHeartbeats 1000000 in
theorem Load_yes (m : ByteArray) (k : Nat) (w : World) (hm : m.size ≤ 140737488355328) (h1 : k < 4294967293) (hh : Sg.has m k 4 = true) (h4 : k % 4 = 0) (hf : k + 4 ≤ m.size) :
    Calls Try.prog 21 #[.string m, .int .u32 k] w (Gives (.tuple #[.int .u32 (Sg.word m k), .int .i64 0]) w) := by
  have l0 : k < m.size := by omega
  have l1 : k + 1 < m.size := by omega
  have l2 : k + 2 < m.size := by omega
  have l3 : k + 3 < m.size := by omega
  go_enter Try.func21, Try.ntmps21
  go_wp2_with (go_at_call 28; refine (fits m k 4 _ hm (by omega) (by omega) (by omega) (by omega)).mono ?_; rintro e w' ⟨rfl, rfl⟩)
  have q1 : IntKind.u32.wrap ((k : Int) + 1) = (k : Int) + 1 := IntWalk.u32_in _ (by omega)
  have q2 : IntKind.u32.wrap ((k : Int) + 2) = (k : Int) + 2 := IntWalk.u32_in _ (by omega)
  have q3 : IntKind.u32.wrap ((k : Int) + 3) = (k : Int) + 3 := IntWalk.u32_in _ (by omega)
  have p1 : 0 ≤ (k : Int) + 1 := by omega
  have p2 : 0 ≤ (k : Int) + 2 := by omega
  have p3 : 0 ≤ (k : Int) + 3 := by omega
  have b1 : (k : Int) + 1 < (m.size : Int) := by omega
  have b2 : (k : Int) + 2 < (m.size : Int) := by omega
  have b3 : (k : Int) + 3 < (m.size : Int) := by omega
  have t1 : ((k : Int) + 1).toNat = k + 1 := by omega
  have t2 : ((k : Int) + 2).toNat = k + 2 := by omega
  have t3 : ((k : Int) + 3).toNat = k + 3 := by omega
  go_quiet (fail)
  clear q1 q2 q3
  go_wp2_with fail
  all_goals go_ret2
  all_goals refine gives_of (two_int ?_ rfl) (by repeat (with_reducible (first | exact Below.refl _ _ | assumption | refine Below.to ?_ (by assumption) | refine below_drewN ?_ _ | refine Below.alloc ?_ (by first | (simp; done) | omega | (simp; omega) | (simp at *; omega)) _ | refine Below.setCell ?_ (by first | (simp; done) | omega | (simp; omega) | (simp at *; omega)) _ | refine Below.drew ?_)))
  all_goals (unfold Sg.word; rw [← Sg.byte_eq l0, ← Sg.byte_eq l1, ← Sg.byte_eq l2, ← Sg.byte_eq l3])
  all_goals (have := m[k].toNat_lt; have := m[k + 1].toNat_lt; have := m[k + 2].toNat_lt; have := m[k + 3].toNat_lt; first | rfl | omega)

set_option maxHeartbeats 1000000 in
theorem Byte (m : ByteArray) (a : Int) (w : World) (hm : m.size ≤ 140737488355328) (h0 : 0 ≤ a) (h1 : a < 4294967296) :
    Calls Try.prog 23 #[.string m, .int .u32 a] w (Is (.tuple #[.int .u32 (Sg.byteV m a), .int .i64 (Sg.byteE m a)]) w) := by
  unfold Sg.byteV Sg.byteE
  by_cases hw : Sg.has m a 1 = true
  · rw [if_pos hw, if_pos hw]
    obtain ⟨k, rfl⟩ := Int.eq_ofNat_of_zero_le h0
    have hf : k < m.size := by
      simp only [Sg.has, decide_eq_true_eq] at hw
      omega
    go_enter Try.func23, Try.ntmps23
    go_wp2_with (go_at_call 28; refine (fits m k 1 _ hm (by omega) h1 (by omega) (by omega)).mono ?_; rintro e w' ⟨rfl, rfl⟩)
    all_goals go_ret2
    all_goals refine is_of (two_int ?_ rfl)
    all_goals (show _ % 4294967296 = Sg.byte m k; have hx := Sg.byte_eq hf; have hy := Sg.byte_hi m k; rw [← hx] at hy ⊢; exact Int.emod_eq_of_lt (by omega) (by omega))
  · rw [if_neg hw, if_neg hw]
    have hn : Sg.has m a 1 = false := by simpa using hw
    go_enter Try.func23, Try.ntmps23
    go_wp2_with (go_at_call 28; refine (fits m a 1 _ hm h0 h1 (by omega) (by omega)).mono ?_; rintro e w' ⟨rfl, rfl⟩)
    all_goals go_ret2
    all_goals exact ⟨rfl, rfl⟩

set_option maxHeartbeats 1000000 in
theorem Store_no (m : ByteArray) (a v : Int) (w : World) (hm : m.size ≤ 140737488355328) (h0 : 0 ≤ a) (h1 : a < 4294967296) (hw : Sg.isWord m a = false) :
    Calls Try.prog 22 #[.string m, .int .u32 a, .int .u32 v] w (Gives (.tuple #[.string m, .int .i64 10]) w) := by
  by_cases hh : Sg.has m a 4 = true
  · have h4 : (a % 4 != 0) = true := by
      simp only [Sg.isWord, hh, Bool.and_true, decide_eq_false_iff_not] at hw
      simpa using hw
    go_enter Try.func22, Try.ntmps22
    go_wp2_with (go_at_call 28; refine (fits m a 4 _ hm h0 h1 (by omega) (by omega)).mono ?_; rintro e w' ⟨rfl, rfl⟩)
    all_goals go_ret2
    all_goals exact ⟨rfl, (by repeat (with_reducible (first | exact Below.refl _ _ | assumption | refine Below.to ?_ (by assumption) | refine below_drewN ?_ _ | refine Below.alloc ?_ (by first | (simp; done) | omega | (simp; omega) | (simp at *; omega)) _ | refine Below.setCell ?_ (by first | (simp; done) | omega | (simp; omega) | (simp at *; omega)) _ | refine Below.drew ?_)))⟩
  · have hh' : Sg.has m a 4 = false := by simpa using hh
    go_enter Try.func22, Try.ntmps22
    go_wp2_with (go_at_call 28; refine (fits m a 4 _ hm h0 h1 (by omega) (by omega)).mono ?_; rintro e w' ⟨rfl, rfl⟩)
    all_goals go_ret2
    all_goals exact ⟨rfl, (by repeat (with_reducible (first | exact Below.refl _ _ | assumption | refine Below.to ?_ (by assumption) | refine below_drewN ?_ _ | refine Below.alloc ?_ (by first | (simp; done) | omega | (simp; omega) | (simp at *; omega)) _ | refine Below.setCell ?_ (by first | (simp; done) | omega | (simp; omega) | (simp at *; omega)) _ | refine Below.drew ?_)))⟩


set_option maxHeartbeats 1000000 in
theorem Store_yes (m : ByteArray) (k : Nat) (v : Int) (w : World) (hm : m.size < 4294967296) (v0 : 0 ≤ v) (v1 : v < 4294967296) (hh : Sg.has m k 4 = true) (h4 : k % 4 = 0) (hf : k + 4 ≤ m.size) :
    Calls Try.prog 22 #[.string m, .int .u32 k, .int .u32 v] w (Gives (.tuple #[.string (Sg.put m k (Sg.bytes4 v)), .int .i64 0]) w) := by
  have hb4 := Sg.back4_drew (P := Try.prog) w 53 9 5 5 4 Try.underlying53 Try.underlying5 Try.underlying9 v v0 v1
  have x1 : k ≤ m.size := by omega
  have x2 : k + 4 ≤ m.size := hf
  have s4 : (⟨(Sg.bytes4 v).toArray⟩ : ByteArray).size = 4 := rfl
  have q4 : IntKind.u32.wrap ((k : Int) + 4) = (k : Int) + 4 := IntWalk.u32_in _ (by omega)
  have p4 : 0 ≤ (k : Int) + 4 := by omega
  have t4 : ((k : Int) + 4).toNat = k + 4 := by omega
  go_enter Try.func22, Try.ntmps22
  go_wp2_with (go_at_call 28; refine (fits m k 4 _ (by omega) (by omega) (by omega) (by omega) (by omega)).mono ?_; rintro e w' ⟨rfl, rfl⟩)
  go_region
  go_wp2_with fail
  go_ret2
  exact gives_of (two_str (cat_put rfl hf) rfl) (by repeat (with_reducible (first | exact Below.refl _ _ | assumption | refine Below.to ?_ (by assumption) | refine below_drewN ?_ _ | refine Below.alloc ?_ (by first | (simp; done) | omega | (simp; omega) | (simp at *; omega)) _ | refine Below.setCell ?_ (by first | (simp; done) | omega | (simp; omega) | (simp at *; omega)) _ | refine Below.drew ?_)))

theorem Load (m : ByteArray) (a : Int) (w : World) (hm : m.size ≤ 140737488355328) (h0 : 0 ≤ a) (h1 : a < 4294967296) :
    Calls Try.prog 21 #[.string m, .int .u32 a] w (Gives (.tuple #[.int .u32 (Sg.loadV m a), .int .i64 (Sg.loadE m a)]) w) := by
  unfold Sg.loadV Sg.loadE
  by_cases hw : Sg.isWord m a = true
  · rw [if_pos hw, if_pos hw]
    obtain ⟨k, rfl⟩ := Int.eq_ofNat_of_zero_le h0
    have hb := hw
    simp only [Sg.isWord, Sg.has, Bool.and_eq_true, decide_eq_true_eq] at hb
    exact Load_yes m k w hm (by omega) (by simpa [Sg.has] using hb.2) (by omega) (by omega)
  · rw [if_neg hw, if_neg hw]
    exact Load_no m a w hm h0 h1 (by simpa using hw)

theorem Store (m : ByteArray) (a v : Int) (w : World) (hm : m.size < 4294967296) (h0 : 0 ≤ a) (h1 : a < 4294967296) (v0 : 0 ≤ v) (v1 : v < 4294967296) :
    Calls Try.prog 22 #[.string m, .int .u32 a, .int .u32 v] w (Gives (.tuple #[.string (Sg.storeM m a v), .int .i64 (Sg.loadE m a)]) w) := by
  unfold Sg.storeM Sg.loadE
  by_cases hw : Sg.isWord m a = true
  · rw [if_pos hw, if_pos hw]
    obtain ⟨k, rfl⟩ := Int.eq_ofNat_of_zero_le h0
    have hb := hw
    simp only [Sg.isWord, Sg.has, Bool.and_eq_true, decide_eq_true_eq] at hb
    exact Store_yes m k v w hm v0 v1 (by simpa [Sg.has] using hb.2) (by omega) (by omega)
  · rw [if_neg hw, if_neg hw]
    exact Store_no m a v w (by omega) h0 h1 (by simpa using hw)

set_option maxHeartbeats 1000000 in
theorem Put_yes (m : ByteArray) (k : Nat) (v : Int) (w : World) (hm : m.size < 4294967296) (v0 : 0 ≤ v) (v1 : v < 4294967296) (hh : Sg.has m k 1 = true) (hf : k + 1 ≤ m.size) :
    Calls Try.prog 24 #[.string m, .int .u32 k, .int .u32 v] w (Gives (.tuple #[.string (Sg.put m k [UInt8.ofNat (v % 256).toNat]), .int .i64 0]) w) := by
  have hb4 := Sg.back1_drew (P := Try.prog) w 53 9 5 5 1 Try.underlying53 Try.underlying5 Try.underlying9 (v % 256) (by omega) (by omega)
  have x1 : k ≤ m.size := by omega
  have s4 : (⟨#[UInt8.ofNat (v % 256).toNat]⟩ : ByteArray).size = 1 := rfl
  have q4 : IntKind.u32.wrap ((k : Int) + 1) = (k : Int) + 1 := IntWalk.u32_in _ (by omega)
  have p4 : 0 ≤ (k : Int) + 1 := by omega
  have t4 : ((k : Int) + 1).toNat = k + 1 := by omega
  go_enter Try.func24, Try.ntmps24
  go_wp2_with (go_at_call 28; refine (fits m k 1 _ (by omega) (by omega) (by omega) (by omega) (by omega)).mono ?_; rintro e w' ⟨rfl, rfl⟩)
  go_region
  go_wp2_with fail
  go_ret2
  exact gives_of (two_str (cat_put (l := [UInt8.ofNat (v % 256).toNat]) rfl hf) rfl) (by repeat (with_reducible (first | exact Below.refl _ _ | assumption | refine Below.to ?_ (by assumption) | refine below_drewN ?_ _ | refine Below.alloc ?_ (by first | (simp; done) | omega | (simp; omega) | (simp at *; omega)) _ | refine Below.setCell ?_ (by first | (simp; done) | omega | (simp; omega) | (simp at *; omega)) _ | refine Below.drew ?_)))

set_option maxHeartbeats 1000000 in
theorem Put (m : ByteArray) (a v : Int) (w : World) (hm : m.size < 4294967296) (h0 : 0 ≤ a) (h1 : a < 4294967296) (v0 : 0 ≤ v) (v1 : v < 4294967296) :
    Calls Try.prog 24 #[.string m, .int .u32 a, .int .u32 v] w (Gives (.tuple #[.string (Sg.putM m a v), .int .i64 (Sg.byteE m a)]) w) := by
  unfold Sg.putM Sg.byteE
  by_cases hw : Sg.has m a 1 = true
  · rw [if_pos hw, if_pos hw]
    obtain ⟨k, rfl⟩ := Int.eq_ofNat_of_zero_le h0
    have hb := hw
    simp only [Sg.has, decide_eq_true_eq] at hb
    exact Put_yes m k v w hm v0 v1 hw (by omega)
  · rw [if_neg hw, if_neg hw]
    have hn : Sg.has m a 1 = false := by simpa using hw
    go_enter Try.func24, Try.ntmps24
    go_wp2_with (go_at_call 28; refine (fits m a 1 _ (by omega) h0 h1 (by omega) (by omega)).mono ?_; rintro e w' ⟨rfl, rfl⟩)
    all_goals go_ret2
    all_goals exact ⟨rfl, (by repeat (with_reducible (first | exact Below.refl _ _ | assumption | refine Below.to ?_ (by assumption) | refine below_drewN ?_ _ | refine Below.alloc ?_ (by first | (simp; done) | omega | (simp; omega) | (simp at *; omega)) _ | refine Below.setCell ?_ (by first | (simp; done) | omega | (simp; omega) | (simp at *; omega)) _ | refine Below.drew ?_)))⟩
end RSeg
end Go.Proofs.Ytbneagebeacofaa
