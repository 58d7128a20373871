/- The walks of the laws SegWords and SegCopies: they answer true. Conditions: places are words, the memories are shorter than 2^32. -/
import Derived.Test.YtbneagebeacofaaSegLawA
import Derived.WalkKit
import Derived.WalkSpells
import Derived.WalkLawsBesides
import Derived.Lib.Hide
import Derived.BigQuiet
import Derived.Deep.QuietTactic

set_option linter.unusedVariables false
set_option linter.unusedSimpArgs false
namespace Go.Proofs.Ytbneagebeacofaa
open Go.RowKit

namespace LawWords
set_option maxHeartbeats 4000000 in
theorem core (m k p : ByteArray) (a v b e x i g j : Int) (w : World)
    (H1 : Hid (∀ W, Calls Try.prog 11 #[.string m, .int .u32 a] W (Is (.tuple #[.int .u32 b, .int .i64 e]) W)))
    (H2 : Hid (∀ W, Calls Try.prog 21 #[.string m, .int .u32 a] W (Gives (.tuple #[.int .u32 b, .int .i64 e]) W)))
    (H3 : Hid (∀ W, Calls Try.prog 14 #[.string m, .int .u32 a, .int .u32 v] W (Gives (.tuple #[.string k, .int .i64 e]) W)))
    (H4 : Hid (∀ W, Calls Try.prog 22 #[.string m, .int .u32 a, .int .u32 v] W (Gives (.tuple #[.string k, .int .i64 e]) W)))
    (H5 : Hid (∀ W, Calls Try.prog 12 #[.string m, .int .u32 a] W (Is (.tuple #[.int .u32 x, .int .i64 i]) W)))
    (H6 : Hid (∀ W, Calls Try.prog 23 #[.string m, .int .u32 a] W (Is (.tuple #[.int .u32 x, .int .i64 i]) W)))
    (H7 : Hid (∀ W, Calls Try.prog 20 #[.string m, .int .u32 a, .int .u32 v] W (Gives (.tuple #[.string p, .int .i64 i]) W)))
    (H8 : Hid (∀ W, Calls Try.prog 24 #[.string m, .int .u32 a, .int .u32 v] W (Gives (.tuple #[.string p, .int .i64 i]) W)))
    (e0 : 0 ≤ e) (e1 : e ≤ 10) (i0 : 0 ≤ i) (i1 : i ≤ 10) :
    Calls Try.prog 9 #[.string m, .int .u32 a, .int .u32 v] w (Gives (.bool true) w) := by
  go_enter Try.func9, Try.ntmps9
  repeat' (first | (go_at_call 10; refine (shown _).mono ?_; rintro e w1 ⟨rfl, hb1⟩; dsimp only) | (go_at_call 11; refine (H1.out _).mono ?_; rintro e w' ⟨rfl, rfl⟩; dsimp only) | go_values | go_skip | go_guarded | (with_reducible (first | refine ex_then_ret ?_ | refine ex_then_exit ?_ | refine ex_then_normal ?_ | refine ex_block_ret ?_ | refine ex_block_normal ?_ | refine ex_block_same ?_ | refine ex_block_other (by decide) ?_)) | go_step | go_upon)
  refine (H2.out _).mono ?_
  rintro e w2 ⟨rfl, hb2⟩
  dsimp only
  repeat' (first | go_values | go_skip | go_guarded | (with_reducible (first | refine ex_then_ret ?_ | refine ex_then_exit ?_ | refine ex_then_normal ?_ | refine ex_block_ret ?_ | refine ex_block_normal ?_ | refine ex_block_same ?_ | refine ex_block_other (by decide) ?_)) | go_step | go_upon)
  refine (H3.out _).mono ?_
  rintro e w3 ⟨rfl, hb3⟩
  dsimp only
  repeat' (first | go_values | go_skip | go_guarded | (with_reducible (first | refine ex_then_ret ?_ | refine ex_then_exit ?_ | refine ex_then_normal ?_ | refine ex_block_ret ?_ | refine ex_block_normal ?_ | refine ex_block_same ?_ | refine ex_block_other (by decide) ?_)) | go_step | go_upon)
  refine (H4.out _).mono ?_
  rintro e w4 ⟨rfl, hb4⟩
  dsimp only
  repeat' (first | go_values | go_skip | go_guarded | (with_reducible (first | refine ex_then_ret ?_ | refine ex_then_exit ?_ | refine ex_then_normal ?_ | refine ex_block_ret ?_ | refine ex_block_normal ?_ | refine ex_block_same ?_ | refine ex_block_other (by decide) ?_)) | go_step | go_upon)
  refine (H5.out _).mono ?_
  rintro e w' ⟨rfl, rfl⟩
  dsimp only
  repeat' (first | go_values | go_skip | go_guarded | (with_reducible (first | refine ex_then_ret ?_ | refine ex_then_exit ?_ | refine ex_then_normal ?_ | refine ex_block_ret ?_ | refine ex_block_normal ?_ | refine ex_block_same ?_ | refine ex_block_other (by decide) ?_)) | go_step | go_upon)
  refine (H6.out _).mono ?_
  rintro e w' ⟨rfl, rfl⟩
  dsimp only
  repeat' (first | go_values | go_skip | go_guarded | (with_reducible (first | refine ex_then_ret ?_ | refine ex_then_exit ?_ | refine ex_then_normal ?_ | refine ex_block_ret ?_ | refine ex_block_normal ?_ | refine ex_block_same ?_ | refine ex_block_other (by decide) ?_)) | go_step | go_upon)
  refine (H7.out _).mono ?_
  rintro e w5 ⟨rfl, hb5⟩
  dsimp only
  repeat' (first | go_values | go_skip | go_guarded | (with_reducible (first | refine ex_then_ret ?_ | refine ex_then_exit ?_ | refine ex_then_normal ?_ | refine ex_block_ret ?_ | refine ex_block_normal ?_ | refine ex_block_same ?_ | refine ex_block_other (by decide) ?_)) | go_step | go_upon)
  refine (H8.out _).mono ?_
  rintro e w6 ⟨rfl, hb6⟩
  dsimp only
  repeat' (first | go_values | go_skip | go_guarded | (with_reducible (first | refine ex_then_ret ?_ | refine ex_then_exit ?_ | refine ex_then_normal ?_ | refine ex_block_ret ?_ | refine ex_block_normal ?_ | refine ex_block_same ?_ | refine ex_block_other (by decide) ?_)) | go_step | go_upon)
  all_goals go_ret
  all_goals refine gives_bool ?_ (by repeat (with_reducible (first | exact Below.refl _ _ | assumption | refine Below.to ?_ (by assumption) | refine below_drewN ?_ _ | refine Below.alloc ?_ (by first | (simp; done) | omega | (simp; omega) | (simp at *; omega)) _ | refine Below.setCell ?_ (by first | (simp; done) | omega | (simp; omega) | (simp at *; omega)) _ | refine Below.drew ?_)))
  all_goals (first | rfl | (simp; done) | (simp; omega))
theorem walk (m : ByteArray) (a v : Int) (w : World) (hm : m.size < 4294967296) (h0 : 0 ≤ a) (h1 : a < 4294967296) (v0 : 0 ≤ v) (v1 : v < 4294967296) :
    Calls Try.prog 9 #[.string m, .int .u32 a, .int .u32 v] w (Gives (.bool true) w) := by
  refine core m _ _ a v _ _ _ _ 0 0 w (Lib.hid fun W => Seg.Load m a W (by omega) h0 h1) (Lib.hid fun W => RSeg.Load m a W (by omega) h0 h1) (Lib.hid fun W => Seg.Store m a v W (by omega) h0 h1 v0 v1) (Lib.hid fun W => RSeg.Store m a v W hm h0 h1 v0 v1)
    (Lib.hid fun W => Seg.Byte m a W (by omega) h0 h1) (Lib.hid fun W => RSeg.Byte m a W (by omega) h0 h1) (Lib.hid fun W => Seg.Put m a v W (by omega) h0 h1 v0 v1) (Lib.hid fun W => RSeg.Put m a v W hm h0 h1 v0 v1) ?_ ?_ ?_ ?_
  · unfold Sg.loadE; split <;> omega
  · unfold Sg.loadE; split <;> omega
  · unfold Sg.byteE; split <;> omega
  · unfold Sg.byteE; split <;> omega
end LawWords

theorem mk_eta (m : ByteArray) : ∃ d : List UInt8, m = ByteArray.mk d.toArray := ⟨m.data.toList, rfl⟩
theorem ext_mid {m s : ByteArray} {k : Nat} (h : k + s.size ≤ m.size) : (Sg.put m k s.data.toList).extract k (k + s.size) = s := by
  obtain ⟨d, rfl⟩ := mk_eta m
  obtain ⟨l, rfl⟩ := mk_eta s
  have hd : (ByteArray.mk d.toArray).size = d.length := List.size_toArray
  have hl : (ByteArray.mk l.toArray).size = l.length := List.size_toArray
  rw [hd, hl] at h
  have hk : (d.take k).length = k := by rw [List.length_take]; omega
  unfold Sg.put
  rw [ByteArray.extract_mk, hl]
  congr 2
  show ((d.take k ++ l ++ d.drop (k + l.length)).drop k).take (k + l.length - k) = l
  rw [List.append_assoc, List.drop_append_of_le_length (by omega), List.drop_of_length_le (by omega), List.nil_append, show k + l.length - k = l.length by omega, List.take_append_of_le_length (Nat.le_refl _), List.take_length]
theorem ext_head {m s : ByteArray} {k : Nat} (h : k + s.size ≤ m.size) : (Sg.put m k s.data.toList).extract 0 k = m.extract 0 k := by
  obtain ⟨d, rfl⟩ := mk_eta m
  obtain ⟨l, rfl⟩ := mk_eta s
  have hd : (ByteArray.mk d.toArray).size = d.length := List.size_toArray
  have hl : (ByteArray.mk l.toArray).size = l.length := List.size_toArray
  rw [hd, hl] at h
  have hk : (d.take k).length = k := by rw [List.length_take]; omega
  unfold Sg.put
  rw [ByteArray.extract_mk, ByteArray.extract_mk]
  congr 2
  show ((d.take k ++ l ++ d.drop (k + l.length)).drop 0).take (k - 0) = (d.drop 0).take (k - 0)
  rw [List.drop_zero, List.drop_zero, Nat.sub_zero, List.append_assoc, List.take_append_of_le_length (by omega), List.take_of_length_le (by omega)]
theorem ext_tail {m s : ByteArray} {k : Nat} (h : k + s.size ≤ m.size) : (Sg.put m k s.data.toList).extract (k + s.size) m.size = m.extract (k + s.size) m.size := by
  obtain ⟨d, rfl⟩ := mk_eta m
  obtain ⟨l, rfl⟩ := mk_eta s
  have hd : (ByteArray.mk d.toArray).size = d.length := List.size_toArray
  have hl : (ByteArray.mk l.toArray).size = l.length := List.size_toArray
  rw [hd, hl] at h
  have hk : (d.take k ++ l).length = k + l.length := by rw [List.length_append, List.length_take]; omega
  unfold Sg.put
  rw [ByteArray.extract_mk, ByteArray.extract_mk, hl]
  congr 2
  show ((d.take k ++ l ++ d.drop (k + l.length)).drop (k + l.length)).take _ = (d.drop (k + l.length)).take _
  rw [← hk, List.drop_left]

namespace LawCopies
set_option maxHeartbeats 4000000 in
theorem core (m k x s : ByteArray) (j : Nat) (w : World) (hm : m.size ≤ 1048576) (hs : s.size ≤ 1048576) (hf : j + s.size ≤ m.size) (hz : Hid (k.size = m.size)) (ht : Hid (k.extract (j + s.size) k.size = m.extract (j + s.size) m.size))
    (H1 : Hid (∀ W, Calls Try.prog 16 #[.string m, .int .u32 j, .string s] W (Gives (.tuple #[.string k, .int .i64 0]) W)))
    (H2 : Hid (∀ W, Calls Try.prog 13 #[.string k, .int .u32 j, .int .u32 s.size] W (Is (.tuple #[.string s, .int .i64 0]) W)))
    (H3 : Hid (∀ W, Calls Try.prog 13 #[.string m, .int .u32 0, .int .u32 j] W (Is (.tuple #[.string x, .int .i64 0]) W)))
    (H4 : Hid (∀ W, Calls Try.prog 13 #[.string k, .int .u32 0, .int .u32 j] W (Is (.tuple #[.string x, .int .i64 0]) W))) :
    Calls Try.prog 7 #[.string m, .int .u32 j, .string s] w (Gives (.bool true) w) := by
  go_enter Try.func7, Try.ntmps7
  repeat' (first | (go_at_call 10; refine (shown _).mono ?_; rintro e w1 ⟨rfl, hb1⟩; dsimp only) | go_values | go_skip | go_guarded | (with_reducible (first | refine ex_then_ret ?_ | refine ex_then_exit ?_ | refine ex_then_normal ?_ | refine ex_block_ret ?_ | refine ex_block_normal ?_ | refine ex_block_same ?_ | refine ex_block_other (by decide) ?_)) | go_step | go_upon)
  refine (H1.out _).mono ?_
  rintro e w2 ⟨rfl, hb2⟩
  dsimp only
  repeat' (first | go_values | go_skip | go_guarded | (with_reducible (first | refine ex_then_ret ?_ | refine ex_then_exit ?_ | refine ex_then_normal ?_ | refine ex_block_ret ?_ | refine ex_block_normal ?_ | refine ex_block_same ?_ | refine ex_block_other (by decide) ?_)) | go_step | go_upon)
  refine (H2.out _).mono ?_
  rintro e w' ⟨rfl, rfl⟩
  dsimp only
  repeat' (first | go_values | go_skip | go_guarded | (with_reducible (first | refine ex_then_ret ?_ | refine ex_then_exit ?_ | refine ex_then_normal ?_ | refine ex_block_ret ?_ | refine ex_block_normal ?_ | refine ex_block_same ?_ | refine ex_block_other (by decide) ?_)) | go_step | go_upon)
  refine (H3.out _).mono ?_
  rintro e w' ⟨rfl, rfl⟩
  dsimp only
  repeat' (first | go_values | go_skip | go_guarded | (with_reducible (first | refine ex_then_ret ?_ | refine ex_then_exit ?_ | refine ex_then_normal ?_ | refine ex_block_ret ?_ | refine ex_block_normal ?_ | refine ex_block_same ?_ | refine ex_block_other (by decide) ?_)) | go_step | go_upon)
  refine (H4.out _).mono ?_
  rintro e w' ⟨rfl, rfl⟩
  dsimp only
  repeat' (first | go_values | go_skip | go_guarded | (with_reducible (first | refine ex_then_ret ?_ | refine ex_then_exit ?_ | refine ex_then_normal ?_ | refine ex_block_ret ?_ | refine ex_block_normal ?_ | refine ex_block_same ?_ | refine ex_block_other (by decide) ?_)) | go_step | go_upon)
  have b2 : (j : Int) + (s.size : Int) ≤ (m.size : Int) := by omega
  have b3 : (j : Int) + (s.size : Int) ≤ (k.size : Int) := by have := hz.out; omega
  have b4 : j + s.size ≤ k.size := by omega
  have q1 : IntKind.i64.wrap ((j : Int) + (s.size : Int)) = (j : Int) + (s.size : Int) := IntWalk.i64_in _ (by omega)
  have p1 : 0 ≤ (j : Int) + (s.size : Int) := by omega
  have t1 : ((j : Int) + (s.size : Int)).toNat = j + s.size := by omega
  have e1 : ((k.size : Int) == (m.size : Int)) = true := by rw [hz.out]; simp
  have e2 := ht.out
  go_quiet (fail)
  repeat' (first | go_values | go_skip | go_guarded | (with_reducible (first | refine ex_then_ret ?_ | refine ex_then_exit ?_ | refine ex_then_normal ?_ | refine ex_block_ret ?_ | refine ex_block_normal ?_ | refine ex_block_same ?_ | refine ex_block_other (by decide) ?_)) | go_step | go_upon)
  all_goals go_ret
  all_goals refine gives_bool ?_ (by repeat (with_reducible (first | exact Below.refl _ _ | assumption | refine Below.to ?_ (by assumption) | refine below_drewN ?_ _ | refine Below.alloc ?_ (by first | (simp; done) | omega | (simp; omega) | (simp at *; omega)) _ | refine Below.setCell ?_ (by first | (simp; done) | omega | (simp; omega) | (simp at *; omega)) _ | refine Below.drew ?_)))
  all_goals (first | rfl | (simp; done) | (simp; omega))
set_option maxHeartbeats 4000000 in
theorem no (m s : ByteArray) (a : Int) (w : World)
    (H1 : Hid (∀ W, Calls Try.prog 16 #[.string m, .int .u32 a, .string s] W (Gives (.tuple #[.string m, .int .i64 10]) W))) :
    Calls Try.prog 7 #[.string m, .int .u32 a, .string s] w (Gives (.bool true) w) := by
  go_enter Try.func7, Try.ntmps7
  repeat' (first | (go_at_call 10; refine (shown _).mono ?_; rintro e w1 ⟨rfl, hb1⟩; dsimp only) | go_values | go_skip | go_guarded | (with_reducible (first | refine ex_then_ret ?_ | refine ex_then_exit ?_ | refine ex_then_normal ?_ | refine ex_block_ret ?_ | refine ex_block_normal ?_ | refine ex_block_same ?_ | refine ex_block_other (by decide) ?_)) | go_step | go_upon)
  refine (H1.out _).mono ?_
  rintro e w2 ⟨rfl, hb2⟩
  dsimp only
  repeat' (first | go_values | go_skip | go_guarded | (with_reducible (first | refine ex_then_ret ?_ | refine ex_then_exit ?_ | refine ex_then_normal ?_ | refine ex_block_ret ?_ | refine ex_block_normal ?_ | refine ex_block_same ?_ | refine ex_block_other (by decide) ?_)) | go_step | go_upon)
  all_goals go_ret
  all_goals refine gives_bool ?_ (by repeat (with_reducible (first | exact Below.refl _ _ | assumption | refine Below.to ?_ (by assumption) | refine below_drewN ?_ _ | refine Below.alloc ?_ (by first | (simp; done) | omega | (simp; omega) | (simp at *; omega)) _ | refine Below.setCell ?_ (by first | (simp; done) | omega | (simp; omega) | (simp at *; omega)) _ | refine Below.drew ?_)))
  all_goals (first | rfl | (simp; done) | (simp; omega))
theorem walk (m s : ByteArray) (a : Int) (w : World) (hm : m.size ≤ 1048576) (hs : s.size ≤ 1048576) (h0 : 0 ≤ a) (h1 : a < 4294967296) :
    Calls Try.prog 7 #[.string m, .int .u32 a, .string s] w (Gives (.bool true) w) := by
  have hI := fun W => Seg.In m a s W (by omega) (by omega) h0 h1
  unfold Sg.inM Sg.inE at hI
  by_cases hw : Sg.has m a s.size = true
  · rw [if_pos hw, if_pos hw] at hI
    have hf : a + s.size ≤ m.size := by simpa [Sg.has] using hw
    obtain ⟨j, rfl⟩ := Int.eq_ofNat_of_zero_le h0
    rw [Int.toNat_natCast] at hI
    have el : s.data.toList.length = s.size := Array.length_toList
    have hl : j + s.size ≤ m.size := by omega
    have hz : (Sg.put m j s.data.toList).size = m.size := Sg.put_size (by omega)
    have out : ∀ (k : ByteArray) (c n : Int) (y : ByteArray) (_ : k.size = m.size) (_ : 0 ≤ c) (_ : 0 ≤ n) (_ : c + n ≤ m.size) (_ : k.extract c.toNat (c + n).toNat = y) W,
        Calls Try.prog 13 #[.string k, .int .u32 c, .int .u32 n] W (Is (.tuple #[.string y, .int .i64 0]) W) := by
      intro k c n y hk c0 n0 hcn hy W
      have h := Seg.Out k c n W (by omega) c0 (by omega) n0 (by omega)
      have hh : Sg.has k c n = true := by simp only [Sg.has, decide_eq_true_eq]; omega
      unfold Sg.outS Sg.outE at h
      rw [if_pos hh, if_pos hh, hy] at h
      exact h
    refine core m _ (m.extract 0 j) s j w hm hs hl (Lib.hid hz) (Lib.hid ?_) (Lib.hid hI) (Lib.hid (out _ j s.size s hz (by omega) (by omega) (by omega) ?_)) (Lib.hid (out m 0 j _ rfl (by omega) (by omega) (by omega) ?_)) (Lib.hid (out _ 0 j _ hz (by omega) (by omega) (by omega) ?_))
    · rw [hz]; exact ext_tail hl
    · rw [Int.toNat_natCast, show ((j : Int) + (s.size : Int)).toNat = j + s.size by omega]; exact ext_mid hl
    · rw [Int.zero_add, Int.toNat_natCast]; rfl
    · rw [Int.zero_add, Int.toNat_natCast]; exact ext_head hl
  · rw [if_neg hw, if_neg hw] at hI
    exact no m s a w (Lib.hid hI)
end LawCopies
end Go.Proofs.Ytbneagebeacofaa
