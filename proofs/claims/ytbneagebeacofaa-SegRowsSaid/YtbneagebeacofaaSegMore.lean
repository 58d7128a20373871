/- seg.Out, seg.In, seg.Make and their references answer what the plain functions Sg say. Conditions: a place is a word, a memory is no longer than a string can be. -/
import Derived.Test.YtbneagebeacofaaSegWalk
import Derived.Test.YtbneagebeacofaaSegRefWalk
import Derived.Test.YtbneagebeacofaaShelf
import Derived.WalkKit
import Derived.WalkSpells
import Derived.WalkLawsBesides
import Derived.Lib.Hide
import Derived.BigQuiet
import Derived.Deep.QuietTactic

set_option linter.unusedVariables false
set_option linter.unusedSimpArgs false
namespace Go.Proofs.Ytbneagebeacofaa
open Go.RowKit

theorem str_eta (s : ByteArray) : (⟨s.data.toList.toArray⟩ : ByteArray) = s := rfl
theorem cat_put_str {m s : ByteArray} {k : Nat} (h : k + s.size ≤ m.size) : m.extract 0 k ++ s ++ m.extract (k + s.size) m.size = Sg.put m k s.data.toList :=
  RSeg.cat_put (l := s.data.toList) Array.length_toList h

theorem repeat0 : ∀ c, Lib.repeatL [0] c = List.replicate c (0 : UInt8)
  | 0 => rfl
  | c + 1 => by
    show [0] ++ Lib.repeatL [0] c = _
    rw [repeat0 c]
    rfl

namespace Seg
set_option maxHeartbeats 1000000 in
theorem Out (m : ByteArray) (a n : Int) (w : World) (hm : m.size ≤ 140737488355328) (h0 : 0 ≤ a) (h1 : a < 4294967296) (n0 : 0 ≤ n) (n1 : n < 4294967296) :
    Calls Try.prog 13 #[.string m, .int .u32 a, .int .u32 n] w (Is (.tuple #[.string (Sg.outS m a n), .int .i64 (Sg.outE m a n)]) w) := by
  unfold Sg.outS Sg.outE
  by_cases hw : Sg.has m a n = true
  · rw [if_pos hw, if_pos hw]
    have hf : a + n ≤ m.size := by simpa [Sg.has] using hw
    go_enter Try.func13, Try.ntmps13
    go_wp2_with (go_at_call 26; refine (has m a n _ hm h0 h1 n0 (by omega)).mono ?_; rintro e w' ⟨rfl, rfl⟩)
    all_goals go_ret2
    all_goals exact ⟨rfl, rfl⟩
  · rw [if_neg hw, if_neg hw]
    have hn : Sg.has m a n = false := by simpa using hw
    go_enter Try.func13, Try.ntmps13
    go_wp2_with (go_at_call 26; refine (has m a n _ hm h0 h1 n0 (by omega)).mono ?_; rintro e w' ⟨rfl, rfl⟩)
    all_goals go_ret2
    all_goals exact ⟨rfl, rfl⟩

set_option maxHeartbeats 1000000 in
theorem In (m : ByteArray) (a : Int) (s : ByteArray) (w : World) (hm : m.size ≤ 140737488355328) (hs : s.size ≤ 140737488355328) (h0 : 0 ≤ a) (h1 : a < 4294967296) :
    Calls Try.prog 16 #[.string m, .int .u32 a, .string s] w (Gives (.tuple #[.string (Sg.inM m a s), .int .i64 (Sg.inE m a s)]) w) := by
  unfold Sg.inM Sg.inE
  by_cases hw : Sg.has m a s.size = true
  · rw [if_pos hw, if_pos hw]
    have hf : a + s.size ≤ m.size := by simpa [Sg.has] using hw
    go_enter Try.func16, Try.ntmps16
    go_wp2_with (first | (go_at_call 26; refine (has m a s.size _ hm h0 h1 (by omega) (by omega)).mono ?_; rintro e w' ⟨rfl, rfl⟩) | (go_at_call 27; refine (with_at m a s _ hm h0 h1 hf).mono ?_; rintro e w1 ⟨rfl, hb1⟩))
    all_goals go_ret2
    all_goals exact ⟨rfl, (by repeat (with_reducible (first | exact Below.refl _ _ | assumption | refine Below.to ?_ (by assumption) | refine below_drewN ?_ _ | refine Below.alloc ?_ (by first | (simp; done) | omega | (simp; omega) | (simp at *; omega)) _ | refine Below.setCell ?_ (by first | (simp; done) | omega | (simp; omega) | (simp at *; omega)) _ | refine Below.drew ?_)))⟩
  · rw [if_neg hw, if_neg hw]
    have hn : Sg.has m a s.size = false := by simpa using hw
    go_enter Try.func16, Try.ntmps16
    go_wp2_with (go_at_call 26; refine (has m a s.size _ hm h0 h1 (by omega) (by omega)).mono ?_; rintro e w' ⟨rfl, rfl⟩)
    all_goals go_ret2
    all_goals exact ⟨rfl, (by repeat (with_reducible (first | exact Below.refl _ _ | assumption | refine Below.to ?_ (by assumption) | refine below_drewN ?_ _ | refine Below.alloc ?_ (by first | (simp; done) | omega | (simp; omega) | (simp at *; omega)) _ | refine Below.setCell ?_ (by first | (simp; done) | omega | (simp; omega) | (simp at *; omega)) _ | refine Below.drew ?_)))⟩

/-- noughts -/
def zeros (c : Int) : ByteArray := ⟨(List.replicate c.toNat 0).toArray⟩
theorem zeros_size (c : Int) : (zeros c).size = c.toNat := by
  show (List.toArray _).size = _
  rw [List.size_toArray, List.length_replicate]
theorem cat_zeros (s : ByteArray) (c : Int) : s ++ zeros c = ⟨(s.data.toList ++ List.replicate c.toNat 0).toArray⟩ := ByteArray.mk_append_mk s.data.toList _

theorem Repeat_at (c : Int) (w : World) (h0 : 0 ≤ c) (h1 : c ≤ 1024) :
    Calls Try.prog 29 #[.string ⟨#[0]⟩, .int .i64 c] w (Gives (.string (zeros c)) w) := by
  obtain ⟨n, rfl⟩ := Int.eq_ofNat_of_zero_le h0
  have h := Try.strings_Repeat ⟨#[0]⟩ n w (by omega) (by show 1 * n ≤ _; omega)
  rw [show (⟨#[0]⟩ : ByteArray).data.toList = [0] from rfl, repeat0] at h
  exact h

set_option maxHeartbeats 1000000 in
theorem Make_yes (n : Int) (s : ByteArray) (w : World) (h0 : 0 ≤ n) (h1 : n ≤ 1024) (h2 : s.size ≤ n) :
    Calls Try.prog 18 #[.int .i64 n, .string s] w (Gives (.tuple #[.string ⟨(s.data.toList ++ List.replicate (n - s.size).toNat 0).toArray⟩, .int .i64 0]) w) := by
  have hz := zeros_size (n - s.size)
  go_enter Try.func18, Try.ntmps18
  go_wp2_with (go_at_call 29; refine (Repeat_at _ _ (by omega) (by omega)).mono ?_; rintro e w1 ⟨rfl, hb1⟩)
  go_ret2
  exact gives_of (two_str (cat_zeros s (n - s.size)) rfl) (by repeat (with_reducible (first | exact Below.refl _ _ | assumption | refine Below.to ?_ (by assumption) | refine below_drewN ?_ _ | refine Below.alloc ?_ (by first | (simp; done) | omega | (simp; omega) | (simp at *; omega)) _ | refine Below.setCell ?_ (by first | (simp; done) | omega | (simp; omega) | (simp at *; omega)) _ | refine Below.drew ?_)))

theorem Make (n : Int) (s : ByteArray) (w : World) :
    Calls Try.prog 18 #[.int .i64 n, .string s] w (Gives (.tuple #[.string (Sg.makeM n s), .int .i64 (Sg.makeE n s)]) w) := by
  unfold Sg.makeM Sg.makeE
  by_cases h : n < 0 ∨ 1024 < n
  · rw [if_neg (by omega), if_pos h]
    go_enter Try.func18, Try.ntmps18
    go_wp2_with fail
    all_goals go_ret2
    all_goals exact ⟨rfl, (by repeat (with_reducible (first | exact Below.refl _ _ | assumption | refine Below.to ?_ (by assumption) | refine below_drewN ?_ _ | refine Below.alloc ?_ (by first | (simp; done) | omega | (simp; omega) | (simp at *; omega)) _ | refine Below.setCell ?_ (by first | (simp; done) | omega | (simp; omega) | (simp at *; omega)) _ | refine Below.drew ?_)))⟩
  · rw [if_neg h]
    by_cases h2 : n < s.size
    · rw [if_neg (by omega), if_pos h2]
      have h3 : 0 ≤ n := by omega
      have h4 : n ≤ 1024 := by omega
      go_enter Try.func18, Try.ntmps18
      go_wp2_with fail
      all_goals go_ret2
      all_goals exact ⟨rfl, (by repeat (with_reducible (first | exact Below.refl _ _ | assumption | refine Below.to ?_ (by assumption) | refine below_drewN ?_ _ | refine Below.alloc ?_ (by first | (simp; done) | omega | (simp; omega) | (simp at *; omega)) _ | refine Below.setCell ?_ (by first | (simp; done) | omega | (simp; omega) | (simp at *; omega)) _ | refine Below.drew ?_)))⟩
    · rw [if_pos (by omega), if_neg h2]
      exact Make_yes n s w (by omega) (by omega) (by omega)
end Seg
end Go.Proofs.Ytbneagebeacofaa
