/- The functions of package seg answer what the plain functions Sg say, in every world. Conditions: a place is a word, a memory is no longer than a string can be. -/
import Derived.Test.YtbneagebeacofaaProg
import Derived.Test.YtbneagebeacofaaBase2
import Derived.Test.YtbneagebeacofaaSegCopy
import Derived.Handy
import Derived.WalkKit
import Derived.WalkSpells
import Derived.WalkLawsBesides
import Derived.Lib.Hide
import Derived.BigQuiet
import Derived.Deep.QuietTactic

set_option linter.unusedVariables false
set_option linter.unusedSimpArgs false
namespace Go.Proofs.Ytbneagebeacofaa
open Go.RowKit
namespace Seg

set_option maxHeartbeats 1000000 in
theorem has (m : ByteArray) (a n : Int) (w : World) (hm : m.size ≤ 140737488355328) (h0 : 0 ≤ a) (h1 : a < 4294967296) (h2 : 0 ≤ n) (h3 : n < 4611686018427387904) :
    Calls Try.prog 26 #[.string m, .int .u32 a, .int .u64 n] w (Is (.bool (Sg.has m a n)) w) := by
  go_enter Try.func26, Try.ntmps26
  go_wp2
  go_ret
  refine is_bool ?_
  rfl

set_option maxHeartbeats 1000000 in
theorem word (m : ByteArray) (a : Int) (w : World) (hm : m.size ≤ 140737488355328) (h0 : 0 ≤ a) (h1 : a < 4294967296) :
    Calls Try.prog 25 #[.string m, .int .u32 a] w (Is (.bool (Sg.isWord m a)) w) := by
  go_enter Try.func25, Try.ntmps25
  go_wp2_with (go_at_call 26; refine (has m a 4 _ hm h0 h1 (by omega) (by omega)).mono ?_; rintro e w' ⟨rfl, rfl⟩)
  all_goals go_ret
  all_goals refine is_bool ?_
  all_goals (unfold Sg.isWord; first | (simp_all; done) | grind)

set_option maxHeartbeats 1000000 in
theorem Load_no (m : ByteArray) (a : Int) (w : World) (hm : m.size ≤ 140737488355328) (h0 : 0 ≤ a) (h1 : a < 4294967296) (hw : Sg.isWord m a = false) :
    Calls Try.prog 11 #[.string m, .int .u32 a] w (Is (.tuple #[.int .u32 0, .int .i64 10]) w) := by
  go_enter Try.func11, Try.ntmps11
  go_wp2_with (go_at_call 25; refine (word m a _ hm h0 h1).mono ?_; rintro e w' ⟨rfl, rfl⟩)
  all_goals go_ret2
  all_goals exact ⟨rfl, rfl⟩

set_option maxHeartbeats 1000000 in
theorem Load_yes (m : ByteArray) (k : Nat) (w : World) (hm : m.size ≤ 140737488355328) (h1 : k < 4294967296) (hw : Sg.isWord m k = true) (hf : k + 4 ≤ m.size) :
    Calls Try.prog 11 #[.string m, .int .u32 k] w (Is (.tuple #[.int .u32 (Sg.word m k), .int .i64 0]) w) := by
  have l0 : k < m.size := by omega
  have l1 : k + 1 < m.size := by omega
  have l2 : k + 2 < m.size := by omega
  have l3 : k + 3 < m.size := by omega
  go_enter Try.func11, Try.ntmps11
  go_wp2_with (go_at_call 25; refine (word m k _ hm (by omega) (by omega)).mono ?_; rintro e w' ⟨rfl, rfl⟩)
  refine wp_loop_rounds 5 ?_; repeat any_goals (rw [rounds_succ]; go_wp2_with fail)
  all_goals go_ret2
  all_goals refine is_of (two_int ?_ rfl)
  all_goals (unfold Sg.word; rw [← Sg.byte_eq l0, ← Sg.byte_eq l1, ← Sg.byte_eq l2, ← Sg.byte_eq l3])
  all_goals exact Sg.or_word (by omega) (by have := m[k].toNat_lt; omega) (by omega) (by have := m[k + 1].toNat_lt; omega) (by omega) (by have := m[k + 2].toNat_lt; omega) (by omega) (by have := m[k + 3].toNat_lt; omega)

theorem Load (m : ByteArray) (a : Int) (w : World) (hm : m.size ≤ 140737488355328) (h0 : 0 ≤ a) (h1 : a < 4294967296) :
    Calls Try.prog 11 #[.string m, .int .u32 a] w (Is (.tuple #[.int .u32 (Sg.loadV m a), .int .i64 (Sg.loadE m a)]) w) := by
  unfold Sg.loadV Sg.loadE
  by_cases hw : Sg.isWord m a = true
  · rw [if_pos hw, if_pos hw]
    obtain ⟨k, rfl⟩ := Int.eq_ofNat_of_zero_le h0
    have hf : k + 4 ≤ m.size := by
      simp only [Sg.isWord, Sg.has, Bool.and_eq_true, decide_eq_true_eq] at hw
      omega
    exact Load_yes m k w hm (by omega) hw hf
  · rw [if_neg hw, if_neg hw]
    exact Load_no m a w hm h0 h1 (by simpa using hw)

set_option maxHeartbeats 1000000 in
theorem Byte (m : ByteArray) (a : Int) (w : World) (hm : m.size ≤ 140737488355328) (h0 : 0 ≤ a) (h1 : a < 4294967296) :
    Calls Try.prog 12 #[.string m, .int .u32 a] w (Is (.tuple #[.int .u32 (Sg.byteV m a), .int .i64 (Sg.byteE m a)]) w) := by
  unfold Sg.byteV Sg.byteE
  by_cases hw : Sg.has m a 1 = true
  · rw [if_pos hw, if_pos hw]
    obtain ⟨k, rfl⟩ := Int.eq_ofNat_of_zero_le h0
    have hf : k < m.size := by
      simp only [Sg.has, decide_eq_true_eq] at hw
      omega
    go_enter Try.func12, Try.ntmps12
    go_wp2_with (go_at_call 26; refine (has m k 1 _ hm (by omega) h1 (by omega) (by omega)).mono ?_; rintro e w' ⟨rfl, rfl⟩)
    all_goals go_ret2
    all_goals refine is_of (two_int ?_ rfl)
    all_goals (show _ % 4294967296 = Sg.byte m k; have hx := Sg.byte_eq hf; have hy := Sg.byte_hi m k; rw [← hx] at hy ⊢; exact Int.emod_eq_of_lt (by omega) (by omega))
  · rw [if_neg hw, if_neg hw]
    have hn : Sg.has m a 1 = false := by simpa using hw
    go_enter Try.func12, Try.ntmps12
    go_wp2_with (go_at_call 26; refine (has m a 1 _ hm h0 h1 (by omega) (by omega)).mono ?_; rintro e w' ⟨rfl, rfl⟩)
    all_goals go_ret2
    all_goals exact ⟨rfl, rfl⟩

/-! a memory with bytes: the walk copies -/
theorem size_byte : ∀ w, (Go.sizeOf 5).run Try.prog w = .ok 1 w := fun _ => by kernel_rfl
set_option maxHeartbeats 1000000 in
theorem with_any (m : ByteArray) (k : Nat) (s : ByteArray) (w : World) (hm : m.size ≤ 140737488355328) (h1 : k < 4294967296) (hf : k + s.size ≤ m.size) :
    Calls Try.prog 27 #[.string m, .int .u32 k, .string s] w (Gives (.string (Sg.put m k s.data.toList)) w) := by
  have hcv := run_bytes_of_string (P := Try.prog) w 9 53 5 m Try.underlying9 Try.underlying53 Try.underlying5
  have hge := grownCap_ge w m.size 0 5
  generalize grownCap w m.size 0 5 = cap at hcv hge
  have hrow := Sg.row_cell w m cap 5 ((bytesRow m cap).size, (bytesRow m cap).size + 1)
  have hfree := Sg.row_free w m cap 5
  have hbel : Below w.heap.size w (w.alloc (.cells (bytesRow m cap) 5 ((bytesRow m cap).size, (bytesRow m cap).size + 1))).drew := (by repeat (with_reducible (first | exact Below.refl _ _ | assumption | refine Below.to ?_ (by assumption) | refine below_drewN ?_ _ | refine Below.alloc ?_ (by first | (simp; done) | omega | (simp; omega) | (simp at *; omega)) _ | refine Below.setCell ?_ (by first | (simp; done) | omega | (simp; omega) | (simp at *; omega)) _ | refine Below.drew ?_)))
  generalize hW : (w.alloc (.cells (bytesRow m cap) 5 ((bytesRow m cap).size, (bytesRow m cap).size + 1))).drew = W at hrow hfree hbel
  have hcp := Go.run_copy_string (P := Try.prog) W 53 9 3 5 w.heap.size k (m.size - k) (cap - k) s Try.underlying53 size_byte (by omega)
    (fun j hj => by rw [hrow _ (by omega)]; rfl) (fun j hj => hfree _ (by omega))
  have hback := Sg.back_put (P := Try.prog) W 53 9 5 Try.underlying53 Try.underlying5 Try.underlying9 w.heap.size cap m s k hrow hf
  have hbel2 : Hid (Below w.heap.size w (W.setCells w.heap.size k (s.data.toList.map fun x => Value.int .u8 (x.toNat : Int)))) := Lib.hid (Go.below_setCells (Nat.le_refl _) _ _ _ hbel)
  generalize W.setCells w.heap.size k (s.data.toList.map fun x => Value.int .u8 (x.toNat : Int)) = W2 at hcp hback hbel2
  by_cases hk : cap = k
  · obtain rfl : cap = m.size := by omega
    obtain rfl : m.size = k := by omega
    have h0 : s.size = 0 := by omega
    have hcp0 := Lib.run_copy_empty_string (P := Try.prog) W 53 9 3 5 (some ⟨w.heap.size, 0, none⟩) 0 0 s Try.underlying53 (by kernel_rfl) h0
    have hback0 := Sg.back_same (P := Try.prog) W 53 9 5 Try.underlying53 Try.underlying5 Try.underlying9 w.heap.size m.size m hrow
    rw [Sg.put_nothing m _ h0]
    clear hcp hback hrow hfree hf h0
    go_enter Try.func27, Try.ntmps27
    go_wp2_with fail
    go_ret
    exact ⟨rfl, hbel⟩
  · have hk' : k < cap := by omega
    have hkm : k ≤ m.size := by omega
    have H := Lib.hid hf
    clear hrow hfree hf
    go_enter Try.func27, Try.ntmps27
    go_wp2_with fail
    go_ret
    exact ⟨rfl, hbel2.out⟩

theorem with_at (m : ByteArray) (a : Int) (s : ByteArray) (w : World) (hm : m.size ≤ 140737488355328) (h0 : 0 ≤ a) (h1 : a < 4294967296) (hf : a + s.size ≤ m.size) :
    Calls Try.prog 27 #[.string m, .int .u32 a, .string s] w (Gives (.string (Sg.put m a.toNat s.data.toList)) w) := by
  obtain ⟨k, rfl⟩ := Int.eq_ofNat_of_zero_le h0
  exact with_any m k s w hm (by omega) (by omega)

set_option maxHeartbeats 1000000 in
theorem Store_no (m : ByteArray) (a v : Int) (w : World) (hm : m.size ≤ 140737488355328) (h0 : 0 ≤ a) (h1 : a < 4294967296) (hw : Sg.isWord m a = false) :
    Calls Try.prog 14 #[.string m, .int .u32 a, .int .u32 v] w (Gives (.tuple #[.string m, .int .i64 10]) w) := by
  go_enter Try.func14, Try.ntmps14
  go_wp2_with (go_at_call 25; refine (word m a _ hm h0 h1).mono ?_; rintro e w' ⟨rfl, rfl⟩)
  all_goals go_ret2
  all_goals exact ⟨rfl, (by repeat (with_reducible (first | exact Below.refl _ _ | assumption | refine Below.to ?_ (by assumption) | refine below_drewN ?_ _ | refine Below.alloc ?_ (by first | (simp; done) | omega | (simp; omega) | (simp at *; omega)) _ | refine Below.setCell ?_ (by first | (simp; done) | omega | (simp; omega) | (simp at *; omega)) _ | refine Below.drew ?_)))⟩

set_option maxHeartbeats 1000000 in
theorem Store_yes (m : ByteArray) (a v : Int) (w : World) (hm : m.size ≤ 140737488355328) (h0 : 0 ≤ a) (h1 : a < 4294967296) (v0 : 0 ≤ v) (v1 : v < 4294967296) (hw : Sg.isWord m a = true) (hf : a + 4 ≤ m.size) :
    Calls Try.prog 14 #[.string m, .int .u32 a, .int .u32 v] w (Gives (.tuple #[.string (Sg.put m a.toNat (Sg.bytes4 v)), .int .i64 0]) w) := by
  have hb4 := Sg.back4 (P := Try.prog) w 53 9 5 51 4 Try.underlying53 Try.underlying5 Try.underlying9 v v0 v1
  go_enter Try.func14, Try.ntmps14
  go_wp2_with (go_at_call 25; refine (word m a _ hm h0 h1).mono ?_; rintro e w' ⟨rfl, rfl⟩)
  refine wp_loop_rounds 5 ?_; repeat any_goals (rw [rounds_succ]; go_wp2_with fail)
  refine (with_at m a ⟨(Sg.bytes4 v).toArray⟩ _ hm h0 h1 hf).mono ?_
  rintro e w1 ⟨rfl, hb1⟩
  dsimp only
  repeat' (first | go_values | go_skip | go_guarded | (with_reducible (first | refine ex_then_ret ?_ | refine ex_then_exit ?_ | refine ex_then_normal ?_ | refine ex_block_ret ?_ | refine ex_block_normal ?_ | refine ex_block_same ?_ | refine ex_block_other (by decide) ?_)) | go_step | go_upon)
  all_goals go_ret2
  all_goals exact ⟨rfl, (by repeat (with_reducible (first | exact Below.refl _ _ | assumption | refine Below.to ?_ (by assumption) | refine below_drewN ?_ _ | refine Below.alloc ?_ (by first | (simp; done) | omega | (simp; omega) | (simp at *; omega)) _ | refine Below.setCell ?_ (by first | (simp; done) | omega | (simp; omega) | (simp at *; omega)) _ | refine Below.drew ?_)))⟩

theorem Store (m : ByteArray) (a v : Int) (w : World) (hm : m.size ≤ 140737488355328) (h0 : 0 ≤ a) (h1 : a < 4294967296) (v0 : 0 ≤ v) (v1 : v < 4294967296) :
    Calls Try.prog 14 #[.string m, .int .u32 a, .int .u32 v] w (Gives (.tuple #[.string (Sg.storeM m a v), .int .i64 (Sg.loadE m a)]) w) := by
  unfold Sg.storeM Sg.loadE
  by_cases hw : Sg.isWord m a = true
  · rw [if_pos hw, if_pos hw]
    have hf : a + 4 ≤ m.size := by
      simp only [Sg.isWord, Sg.has, Bool.and_eq_true, decide_eq_true_eq] at hw
      omega
    exact Store_yes m a v w hm h0 h1 v0 v1 hw hf
  · rw [if_neg hw, if_neg hw]
    exact Store_no m a v w hm h0 h1 (by simpa using hw)

set_option maxHeartbeats 1000000 in
theorem Put (m : ByteArray) (a v : Int) (w : World) (hm : m.size ≤ 140737488355328) (h0 : 0 ≤ a) (h1 : a < 4294967296) (v0 : 0 ≤ v) (v1 : v < 4294967296) :
    Calls Try.prog 20 #[.string m, .int .u32 a, .int .u32 v] w (Gives (.tuple #[.string (Sg.putM m a v), .int .i64 (Sg.byteE m a)]) w) := by
  unfold Sg.putM Sg.byteE
  by_cases hw : Sg.has m a 1 = true
  · rw [if_pos hw, if_pos hw]
    have hf : a + 1 ≤ m.size := by
      simp only [Sg.has, decide_eq_true_eq] at hw
      omega
    have hb4 := Sg.back1 (P := Try.prog) w 53 9 5 5 1 Try.underlying53 Try.underlying5 Try.underlying9 (v % 256) (by omega) (by omega)
    go_enter Try.func20, Try.ntmps20
    go_wp2_with (go_at_call 26; refine (has m a 1 _ hm h0 h1 (by omega) (by omega)).mono ?_; rintro e w' ⟨rfl, rfl⟩)
    refine (with_at m a ⟨#[UInt8.ofNat (v % 256).toNat]⟩ _ hm h0 h1 hf).mono ?_
    rintro e w1 ⟨rfl, hb1⟩
    dsimp only
    repeat' (first | go_values | go_skip | go_guarded | (with_reducible (first | refine ex_then_ret ?_ | refine ex_then_exit ?_ | refine ex_then_normal ?_ | refine ex_block_ret ?_ | refine ex_block_normal ?_ | refine ex_block_same ?_ | refine ex_block_other (by decide) ?_)) | go_step | go_upon)
    all_goals go_ret2
    all_goals exact ⟨rfl, (by repeat (with_reducible (first | exact Below.refl _ _ | assumption | refine Below.to ?_ (by assumption) | refine below_drewN ?_ _ | refine Below.alloc ?_ (by first | (simp; done) | omega | (simp; omega) | (simp at *; omega)) _ | refine Below.setCell ?_ (by first | (simp; done) | omega | (simp; omega) | (simp at *; omega)) _ | refine Below.drew ?_)))⟩
  · rw [if_neg hw, if_neg hw]
    have hn : Sg.has m a 1 = false := by simpa using hw
    go_enter Try.func20, Try.ntmps20
    go_wp2_with (go_at_call 26; refine (has m a 1 _ hm h0 h1 (by omega) (by omega)).mono ?_; rintro e w' ⟨rfl, rfl⟩)
    all_goals go_ret2
    all_goals exact ⟨rfl, (by repeat (with_reducible (first | exact Below.refl _ _ | assumption | refine Below.to ?_ (by assumption) | refine below_drewN ?_ _ | refine Below.alloc ?_ (by first | (simp; done) | omega | (simp; omega) | (simp at *; omega)) _ | refine Below.setCell ?_ (by first | (simp; done) | omega | (simp; omega) | (simp at *; omega)) _ | refine Below.drew ?_)))⟩
end Seg
end Go.Proofs.Ytbneagebeacofaa
