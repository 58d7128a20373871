/- The walks of the laws SegBytes, SegBounds, SegBack, SegOne: they answer true. Conditions: places are words, a memory is no longer than a string can be. -/
import Derived.Test.YtbneagebeacofaaSegMore
import Derived.WalkKit
import Derived.WalkSpells
import Derived.WalkLawsBesides
import Derived.Lib.Hide
import Derived.BigQuiet
import Derived.Deep.QuietTactic

set_option linter.unusedVariables false
set_option linter.unusedSimpArgs false
namespace Go.Proofs.Ytbneagebeacofaa
open Go.RowKit

def ab : ByteArray := ⟨#[97, 98]⟩
def mem8 : ByteArray := ⟨#[97, 98, 0, 0, 0, 0, 0, 0]⟩
set_option maxHeartbeats 2000000 in
theorem shown (w : World) : Calls Try.prog 10 #[] w (Gives (.bool true) w) := by
  have hM := fun W => Seg.Make 8 ab W
  rw [show Sg.makeM 8 ab = mem8 by decide +kernel, show Sg.makeE 8 ab = 0 by decide +kernel] at hM
  have hL := fun (a : Int) W h0 h1 => Seg.Load mem8 a W (show 8 ≤ 140737488355328 by omega) h0 h1
  have h0 := fun W => hL 0 W (by omega) (by omega)
  have h2 := fun W => hL 2 W (by omega) (by omega)
  have h8 := fun W => hL 8 W (by omega) (by omega)
  rw [show Sg.loadV mem8 0 = 25185 by decide +kernel, show Sg.loadE mem8 0 = 0 by decide +kernel] at h0
  rw [show Sg.loadV mem8 2 = 0 by decide +kernel, show Sg.loadE mem8 2 = 10 by decide +kernel] at h2
  rw [show Sg.loadV mem8 8 = 0 by decide +kernel, show Sg.loadE mem8 8 = 10 by decide +kernel] at h8
  have HM := Lib.hid hM
  have H0 := Lib.hid h0
  have H2 := Lib.hid h2
  have H8 := Lib.hid h8
  clear hM hL h0 h2 h8
  go_enter Try.func10, Try.ntmps10
  go_wp2_with fail
  refine Calls.mono (HM.out _) ?_
  rintro e w1 ⟨rfl, hb1⟩
  dsimp only
  repeat' (first | go_values | go_skip | go_guarded | (with_reducible (first | refine ex_then_ret ?_ | refine ex_then_exit ?_ | refine ex_then_normal ?_ | refine ex_block_ret ?_ | refine ex_block_normal ?_ | refine ex_block_same ?_ | refine ex_block_other (by decide) ?_)) | go_step | go_upon)
  refine Calls.mono (H0.out _) ?_
  rintro e w2 ⟨rfl, rfl⟩
  dsimp only
  repeat' (first | go_values | go_skip | go_guarded | (with_reducible (first | refine ex_then_ret ?_ | refine ex_then_exit ?_ | refine ex_then_normal ?_ | refine ex_block_ret ?_ | refine ex_block_normal ?_ | refine ex_block_same ?_ | refine ex_block_other (by decide) ?_)) | go_step | go_upon)
  refine Calls.mono (H2.out _) ?_
  rintro e w2 ⟨rfl, rfl⟩
  dsimp only
  repeat' (first | go_values | go_skip | go_guarded | (with_reducible (first | refine ex_then_ret ?_ | refine ex_then_exit ?_ | refine ex_then_normal ?_ | refine ex_block_ret ?_ | refine ex_block_normal ?_ | refine ex_block_same ?_ | refine ex_block_other (by decide) ?_)) | go_step | go_upon)
  refine Calls.mono (H8.out _) ?_
  rintro e w2 ⟨rfl, rfl⟩
  dsimp only
  repeat' (first | go_values | go_skip | go_guarded | (with_reducible (first | refine ex_then_ret ?_ | refine ex_then_exit ?_ | refine ex_then_normal ?_ | refine ex_block_ret ?_ | refine ex_block_normal ?_ | refine ex_block_same ?_ | refine ex_block_other (by decide) ?_)) | go_step | go_upon)
  go_ret
  exact gives_of rfl (by repeat (with_reducible (first | exact Below.refl _ _ | assumption | refine Below.to ?_ (by assumption) | refine below_drewN ?_ _ | refine Below.alloc ?_ (by first | (simp; done) | omega | (simp; omega) | (simp at *; omega)) _ | refine Below.setCell ?_ (by first | (simp; done) | omega | (simp; omega) | (simp at *; omega)) _ | refine Below.drew ?_)))

namespace LawBytes
set_option maxHeartbeats 2000000 in
theorem no (m : ByteArray) (a : Int) (w : World) (hm : m.size ≤ 140737488355328) (h0 : 0 ≤ a) (h1 : a < 4294967296) (hw : Sg.isWord m a = false) :
    Calls Try.prog 3 #[.string m, .int .u32 a] w (Gives (.bool true) w) := by
  go_enter Try.func3, Try.ntmps3
  go_wp2_with (first | (go_at_call 10; refine (shown _).mono ?_; rintro e w1 ⟨rfl, hb1⟩) | (go_at_call 11; refine (Seg.Load_no m a _ hm h0 h1 hw).mono ?_; rintro e w' ⟨rfl, rfl⟩))
  all_goals go_ret
  all_goals exact gives_of rfl (by repeat (with_reducible (first | exact Below.refl _ _ | assumption | refine Below.to ?_ (by assumption) | refine below_drewN ?_ _ | refine Below.alloc ?_ (by first | (simp; done) | omega | (simp; omega) | (simp at *; omega)) _ | refine Below.setCell ?_ (by first | (simp; done) | omega | (simp; omega) | (simp at *; omega)) _ | refine Below.drew ?_)))
theorem Byte_as (m : ByteArray) (k j : Nat) (w : World) (hm : m.size ≤ 140737488355328) (h1 : k + j < 4294967296) (hf : k + j < m.size) {v : Int} (hv : Sg.byte m (k + j) = v) :
    Calls Try.prog 12 #[.string m, .int .u32 ((k + j : Nat) : Int)] w (Is (.tuple #[.int .u32 v, .int .i64 0]) w) := by
  have h := Seg.Byte m ((k + j : Nat) : Int) w hm (by omega) (by omega)
  have hh : Sg.has m ((k + j : Nat) : Int) 1 = true := by simp only [Sg.has, decide_eq_true_eq]; omega
  unfold Sg.byteV Sg.byteE at h
  rw [if_pos hh, if_pos hh, Int.toNat_natCast, hv] at h
  exact h
set_option maxHeartbeats 2000000 in
theorem yes (m : ByteArray) (k : Nat) (w : World) (hm : m.size ≤ 140737488355328) (h1 : k < 4294967293) (hw : Sg.isWord m k = true) (hf : k + 4 ≤ m.size) :
    Calls Try.prog 3 #[.string m, .int .u32 k] w (Gives (.bool true) w) := by
  have q0 := Sg.byte_lo m k
  have q1 := Sg.byte_lo m (k + 1)
  have q2 := Sg.byte_lo m (k + 2)
  have q3 := Sg.byte_lo m (k + 3)
  have p0 := Sg.byte_hi m k
  have p1 := Sg.byte_hi m (k + 1)
  have p2 := Sg.byte_hi m (k + 2)
  have p3 := Sg.byte_hi m (k + 3)
  have HB0 := Lib.hid (fun W => Byte_as m k 0 W hm (by omega) (by omega) (v := Sg.word m k % 256) (by show Sg.byte m k = _; unfold Sg.word; omega))
  have HB1 := Lib.hid (fun W => Byte_as m k 1 W hm (by omega) (by omega) (v := Sg.word m k / 256 % 256) (by unfold Sg.word; omega))
  have HB2 := Lib.hid (fun W => Byte_as m k 2 W hm (by omega) (by omega) (v := Sg.word m k / 256 / 256 % 256) (by unfold Sg.word; omega))
  have HB3 := Lib.hid (fun W => Byte_as m k 3 W hm (by omega) (by omega) (v := Sg.word m k / 256 / 256 / 256 % 256) (by unfold Sg.word; omega))
  have w0 := Sg.word_lo m k
  have w1' := Sg.word_hi m k
  clear q0 q1 q2 q3 p0 p1 p2 p3
  go_enter Try.func3, Try.ntmps3
  go_wp2_with (first | (go_at_call 10; refine (shown _).mono ?_; rintro e w1 ⟨rfl, hb1⟩) | (go_at_call 11; refine (Seg.Load_yes m k _ hm (by omega) hw hf).mono ?_; rintro e w' ⟨rfl, rfl⟩))
  refine wp_loop_rounds 5 ?_
  rw [rounds_succ]
  go_wp2_with (go_at_call 12; refine (HB0.out _).mono ?_; rintro e w' ⟨rfl, rfl⟩)
  rw [rounds_succ]
  go_wp2_with (go_at_call 12; refine (HB1.out _).mono ?_; rintro e w' ⟨rfl, rfl⟩)
  rw [rounds_succ]
  go_wp2_with (go_at_call 12; refine (HB2.out _).mono ?_; rintro e w' ⟨rfl, rfl⟩)
  rw [rounds_succ]
  go_wp2_with (go_at_call 12; refine (HB3.out _).mono ?_; rintro e w' ⟨rfl, rfl⟩)
  rw [rounds_succ]
  go_wp2_with fail
  go_ret
  exact gives_of rfl (by repeat (with_reducible (first | exact Below.refl _ _ | assumption | refine Below.to ?_ (by assumption) | refine below_drewN ?_ _ | refine Below.alloc ?_ (by first | (simp; done) | omega | (simp; omega) | (simp at *; omega)) _ | refine Below.setCell ?_ (by first | (simp; done) | omega | (simp; omega) | (simp at *; omega)) _ | refine Below.drew ?_)))
theorem walk (m : ByteArray) (a : Int) (w : World) (hm : m.size ≤ 140737488355328) (h0 : 0 ≤ a) (h1 : a < 4294967296) :
    Calls Try.prog 3 #[.string m, .int .u32 a] w (Gives (.bool true) w) := by
  by_cases hw : Sg.isWord m a = true
  · obtain ⟨k, rfl⟩ := Int.eq_ofNat_of_zero_le h0
    have hb := hw
    simp only [Sg.isWord, Sg.has, Bool.and_eq_true, decide_eq_true_eq] at hb
    exact yes m k w hm (by omega) hw (by omega)
  · exact no m a w hm h0 h1 (by simpa using hw)
end LawBytes

/-! what was stored, what stands at other places -/
namespace Sg
theorem word_put_same {m : ByteArray} {k : Nat} {v : Int} (v0 : 0 ≤ v) (v1 : v < 4294967296) (h : k + 4 ≤ m.size) : word (put m k (bytes4 v)) k = v := by
  have hl : (bytes4 v).length = 4 := rfl
  unfold word
  rw [byte_put_in (by omega) (by omega) (by omega), byte_put_in (by omega) (by omega) (by omega), byte_put_in (by omega) (by omega) (by omega), byte_put_in (by omega) (by omega) (by omega)]
  rw [show k - k = 0 by omega, show k + 1 - k = 1 by omega, show k + 2 - k = 2 by omega, show k + 3 - k = 3 by omega]
  have e0 := ofNat_toNat (v % 256) (by omega) (by omega)
  have e1 := ofNat_toNat (v / 256 % 256) (by omega) (by omega)
  have e2 := ofNat_toNat (v / 65536 % 256) (by omega) (by omega)
  have e3 := ofNat_toNat (v / 16777216) (by omega) (by omega)
  show ((UInt8.ofNat (v % 256).toNat).toNat : Int) + 256 * ((UInt8.ofNat (v / 256 % 256).toNat).toNat : Int) + 65536 * ((UInt8.ofNat (v / 65536 % 256).toNat).toNat : Int) + 16777216 * ((UInt8.ofNat (v / 16777216).toNat).toNat : Int) = v
  rw [e0, e1, e2, e3]
  omega
theorem word_put_other {m : ByteArray} {k j : Nat} {l : List UInt8} (h : k + l.length ≤ m.size) (hj : j + 4 ≤ k ∨ k + l.length ≤ j) : word (put m k l) j = word m j := by
  unfold word
  rw [byte_put_out h (by omega), byte_put_out h (by omega), byte_put_out h (by omega), byte_put_out h (by omega)]
theorem has_size {m k : ByteArray} (h : k.size = m.size) (a n : Int) : has k a n = has m a n := by unfold has; rw [h]
theorem isWord_size {m k : ByteArray} (h : k.size = m.size) (a : Int) : isWord k a = isWord m a := by unfold isWord; rw [has_size h]
end Sg

namespace LawBounds
set_option maxHeartbeats 2000000 in
theorem core (m : ByteArray) (a n e f g x z : Int) (y : ByteArray) (t : Bool) (w : World) (hm : m.size ≤ 140737488355328) (h0 : 0 ≤ a) (h1 : a < 4294967296) (n0 : 0 ≤ n) (n1 : n < 4294967296)
    (HB : Hid (∀ W, Calls Try.prog 12 #[.string m, .int .u32 a] W (Is (.tuple #[.int .u32 x, .int .i64 e]) W)))
    (HO : Hid (∀ W, Calls Try.prog 13 #[.string m, .int .u32 a, .int .u32 n] W (Is (.tuple #[.string y, .int .i64 f]) W)))
    (HL : Hid (∀ W, Calls Try.prog 11 #[.string m, .int .u32 a] W (Is (.tuple #[.int .u32 z, .int .i64 g]) W)))
    (he : (e == 0) = decide (a < (m.size : Int))) (hf : (f == 0) = decide (a + n ≤ (m.size : Int))) (ht : (a % 4 == 0) = t) (hg : (g == 0) = (t && decide (a + 4 ≤ (m.size : Int)))) :
    Calls Try.prog 4 #[.string m, .int .u32 a, .int .u32 n] w (Gives (.bool true) w) := by
  cases t
  all_goals
    simp only [Bool.false_and, Bool.true_and] at hg
    go_enter Try.func4, Try.ntmps4
    go_wp2_with (first | (go_at_call 10; refine (shown _).mono ?_; rintro e w1 ⟨rfl, hb1⟩) | (go_at_call 12; refine (HB.out _).mono ?_; rintro e w' ⟨rfl, rfl⟩) | (go_at_call 13; refine (HO.out _).mono ?_; rintro e w' ⟨rfl, rfl⟩) | (go_at_call 11; refine (HL.out _).mono ?_; rintro e w' ⟨rfl, rfl⟩))
    all_goals go_ret
    all_goals exact gives_bool (by first | rfl | simp) (by repeat (with_reducible (first | exact Below.refl _ _ | assumption | refine Below.to ?_ (by assumption) | refine below_drewN ?_ _ | refine Below.alloc ?_ (by first | (simp; done) | omega | (simp; omega) | (simp at *; omega)) _ | refine Below.setCell ?_ (by first | (simp; done) | omega | (simp; omega) | (simp at *; omega)) _ | refine Below.drew ?_)))
theorem walk (m : ByteArray) (a n : Int) (w : World) (hm : m.size ≤ 140737488355328) (h0 : 0 ≤ a) (h1 : a < 4294967296) (n0 : 0 ≤ n) (n1 : n < 4294967296) :
    Calls Try.prog 4 #[.string m, .int .u32 a, .int .u32 n] w (Gives (.bool true) w) := by
  refine core m a n _ _ _ _ _ _ _ w hm h0 h1 n0 n1 (Lib.hid fun W => Seg.Byte m a W hm h0 h1) (Lib.hid fun W => Seg.Out m a n W hm h0 h1 n0 n1) (Lib.hid fun W => Seg.Load m a W hm h0 h1) ?_ ?_ rfl ?_
  · unfold Sg.byteE Sg.has
    by_cases h : a < (m.size : Int)
    · rw [if_pos (by simp; omega)]; simp [h]
    · rw [if_neg (by simp; omega)]; simp [h]
  · unfold Sg.outE Sg.has
    by_cases h : a + n ≤ (m.size : Int)
    · rw [if_pos (by simpa using h)]; simp [h]
    · rw [if_neg (by simpa using h)]; simp [h]
  · unfold Sg.loadE Sg.isWord Sg.has
    by_cases h : a % 4 = 0
    · by_cases h' : a + 4 ≤ (m.size : Int)
      · simp [h, h']
      · simp [h, h']
    · simp [h]
end LawBounds

namespace LawBack
set_option maxHeartbeats 2000000 in
theorem no (m : ByteArray) (a v o : Int) (w : World) (hm : m.size ≤ 140737488355328) (h0 : 0 ≤ a) (h1 : a < 4294967296) (hw : Sg.isWord m a = false) :
    Calls Try.prog 5 #[.agg #[.string m, .int .u32 a, .int .u32 v, .int .u32 o]] w (Gives (.bool true) w) := by
  have HS := Lib.hid (fun W => Seg.Store_no m a v W hm h0 h1 hw)
  go_enter Try.func5, Try.ntmps5
  repeat' (first | (go_at_call 10; refine (shown _).mono ?_; rintro e w1 ⟨rfl, hb1⟩; dsimp only) | (go_at_call 14; refine (HS.out _).mono ?_; rintro e w2 ⟨rfl, hb2⟩; dsimp only) | go_values | go_skip | go_guarded | (with_reducible (first | refine ex_then_ret ?_ | refine ex_then_exit ?_ | refine ex_then_normal ?_ | refine ex_block_ret ?_ | refine ex_block_normal ?_ | refine ex_block_same ?_ | refine ex_block_other (by decide) ?_)) | go_step | go_upon)
  all_goals go_ret
  all_goals exact gives_bool (by simp) (by repeat (with_reducible (first | exact Below.refl _ _ | assumption | refine Below.to ?_ (by assumption) | refine below_drewN ?_ _ | refine Below.alloc ?_ (by first | (simp; done) | omega | (simp; omega) | (simp at *; omega)) _ | refine Below.setCell ?_ (by first | (simp; done) | omega | (simp; omega) | (simp at *; omega)) _ | refine Below.drew ?_)))
set_option maxHeartbeats 2000000 in
theorem core (m k : ByteArray) (a v o x y g : Int) (w : World) (hz : k.size = m.size) (hd : (o == a) = true ∨ x = y)
    (HS : Hid (∀ W, Calls Try.prog 14 #[.string m, .int .u32 a, .int .u32 v] W (Gives (.tuple #[.string k, .int .i64 0]) W)))
    (H1 : Hid (∀ W, Calls Try.prog 11 #[.string k, .int .u32 a] W (Is (.tuple #[.int .u32 v, .int .i64 0]) W)))
    (H2 : Hid (∀ W, Calls Try.prog 11 #[.string m, .int .u32 o] W (Is (.tuple #[.int .u32 x, .int .i64 g]) W)))
    (H3 : Hid (∀ W, Calls Try.prog 11 #[.string k, .int .u32 o] W (Is (.tuple #[.int .u32 y, .int .i64 g]) W))) :
    Calls Try.prog 5 #[.agg #[.string m, .int .u32 a, .int .u32 v, .int .u32 o]] w (Gives (.bool true) w) := by
  rcases hd with hd | rfl
  all_goals
    go_enter Try.func5, Try.ntmps5
    repeat' (first | (go_at_call 10; refine (shown _).mono ?_; rintro e w1 ⟨rfl, hb1⟩; dsimp only) | (go_at_call 14; refine (HS.out _).mono ?_; rintro e w2 ⟨rfl, hb2⟩; dsimp only) | go_values | go_skip | go_guarded | (with_reducible (first | refine ex_then_ret ?_ | refine ex_then_exit ?_ | refine ex_then_normal ?_ | refine ex_block_ret ?_ | refine ex_block_normal ?_ | refine ex_block_same ?_ | refine ex_block_other (by decide) ?_)) | go_step | go_upon)
    refine (H1.out _).mono ?_
    rintro e w' ⟨rfl, rfl⟩
    dsimp only
    repeat' (first | go_values | go_skip | go_guarded | (with_reducible (first | refine ex_then_ret ?_ | refine ex_then_exit ?_ | refine ex_then_normal ?_ | refine ex_block_ret ?_ | refine ex_block_normal ?_ | refine ex_block_same ?_ | refine ex_block_other (by decide) ?_)) | go_step | go_upon)
    refine (H2.out _).mono ?_
    rintro e w' ⟨rfl, rfl⟩
    dsimp only
    repeat' (first | go_values | go_skip | go_guarded | (with_reducible (first | refine ex_then_ret ?_ | refine ex_then_exit ?_ | refine ex_then_normal ?_ | refine ex_block_ret ?_ | refine ex_block_normal ?_ | refine ex_block_same ?_ | refine ex_block_other (by decide) ?_)) | go_step | go_upon)
    refine (H3.out _).mono ?_
    rintro e w' ⟨rfl, rfl⟩
    dsimp only
    repeat' (first | go_values | go_skip | go_guarded | (with_reducible (first | refine ex_then_ret ?_ | refine ex_then_exit ?_ | refine ex_then_normal ?_ | refine ex_block_ret ?_ | refine ex_block_normal ?_ | refine ex_block_same ?_ | refine ex_block_other (by decide) ?_)) | go_step | go_upon)
    all_goals go_ret
    all_goals exact gives_bool (by first | rfl | simp) (by repeat (with_reducible (first | exact Below.refl _ _ | assumption | refine Below.to ?_ (by assumption) | refine below_drewN ?_ _ | refine Below.alloc ?_ (by first | (simp; done) | omega | (simp; omega) | (simp at *; omega)) _ | refine Below.setCell ?_ (by first | (simp; done) | omega | (simp; omega) | (simp at *; omega)) _ | refine Below.drew ?_)))
theorem walk (m : ByteArray) (a v o : Int) (w : World) (hm : m.size ≤ 140737488355328) (h0 : 0 ≤ a) (h1 : a < 4294967296) (v0 : 0 ≤ v) (v1 : v < 4294967296) (o0 : 0 ≤ o) (o1 : o < 4294967296) :
    Calls Try.prog 5 #[.agg #[.string m, .int .u32 a, .int .u32 v, .int .u32 o]] w (Gives (.bool true) w) := by
  by_cases hw : Sg.isWord m a = true
  · have hb := hw
    simp only [Sg.isWord, Sg.has, Bool.and_eq_true, decide_eq_true_eq] at hb
    have hl : a.toNat + (Sg.bytes4 v).length ≤ m.size := by show _ + 4 ≤ _; omega
    have hz := Sg.put_size hl
    have hS := fun W => Seg.Store m a v W hm h0 h1 v0 v1
    unfold Sg.storeM Sg.loadE at hS
    rw [if_pos hw, if_pos hw] at hS
    have hwk : Sg.isWord (Sg.put m a.toNat (Sg.bytes4 v)) a = true := (Sg.isWord_size hz a).trans hw
    have hL1 := fun W => Seg.Load (Sg.put m a.toNat (Sg.bytes4 v)) a W (by omega) h0 h1
    unfold Sg.loadV Sg.loadE at hL1
    rw [if_pos hwk, if_pos hwk, Sg.word_put_same v0 v1 (by omega)] at hL1
    have hL3 := fun W => Seg.Load (Sg.put m a.toNat (Sg.bytes4 v)) o W (by omega) o0 o1
    have hg : Sg.loadE (Sg.put m a.toNat (Sg.bytes4 v)) o = Sg.loadE m o := by unfold Sg.loadE; rw [Sg.isWord_size hz]
    rw [hg] at hL3
    refine core m _ a v o _ _ _ w hz ?_ (Lib.hid hS) (Lib.hid hL1) (Lib.hid fun W => Seg.Load m o W hm o0 o1) (Lib.hid hL3)
    by_cases ho : o = a
    · exact .inl (by simp [ho])
    · right
      unfold Sg.loadV
      rw [Sg.isWord_size hz]
      by_cases hwo : Sg.isWord m o = true
      · rw [if_pos hwo, if_pos hwo]
        simp only [Sg.isWord, Sg.has, Bool.and_eq_true, decide_eq_true_eq] at hwo
        exact (Sg.word_put_other hl (show _ ∨ _ + 4 ≤ _ by omega)).symm
      · rw [if_neg hwo, if_neg hwo]
  · exact no m a v o w hm h0 h1 (by simpa using hw)
end LawBack

namespace LawOne
set_option maxHeartbeats 2000000 in
theorem no (m : ByteArray) (a v o : Int) (w : World) (hm : m.size ≤ 140737488355328) (h0 : 0 ≤ a) (h1 : a < 4294967296) (v0 : 0 ≤ v) (v1 : v < 4294967296) (hw : Sg.has m a 1 = false) :
    Calls Try.prog 8 #[.agg #[.string m, .int .u32 a, .int .u32 v, .int .u32 o]] w (Gives (.bool true) w) := by
  have hS := fun W => Seg.Put m a v W hm h0 h1 v0 v1
  unfold Sg.putM Sg.byteE at hS
  rw [if_neg (by simp [hw]), if_neg (by simp [hw])] at hS
  have HS := Lib.hid hS
  clear hS
  go_enter Try.func8, Try.ntmps8
  repeat' (first | (go_at_call 10; refine (shown _).mono ?_; rintro e w1 ⟨rfl, hb1⟩; dsimp only) | (go_at_call 20; refine (HS.out _).mono ?_; rintro e w2 ⟨rfl, hb2⟩; dsimp only) | go_values | go_skip | go_guarded | (with_reducible (first | refine ex_then_ret ?_ | refine ex_then_exit ?_ | refine ex_then_normal ?_ | refine ex_block_ret ?_ | refine ex_block_normal ?_ | refine ex_block_same ?_ | refine ex_block_other (by decide) ?_)) | go_step | go_upon)
  all_goals go_ret
  all_goals exact gives_bool (by simp) (by repeat (with_reducible (first | exact Below.refl _ _ | assumption | refine Below.to ?_ (by assumption) | refine below_drewN ?_ _ | refine Below.alloc ?_ (by first | (simp; done) | omega | (simp; omega) | (simp at *; omega)) _ | refine Below.setCell ?_ (by first | (simp; done) | omega | (simp; omega) | (simp at *; omega)) _ | refine Below.drew ?_)))
set_option maxHeartbeats 2000000 in
theorem core (m k : ByteArray) (a v o x y g : Int) (w : World) (v0 : 0 ≤ v) (v1 : v < 4294967296) (hz : k.size = m.size) (hd : (o == a) = true ∨ x = y)
    (HS : Hid (∀ W, Calls Try.prog 20 #[.string m, .int .u32 a, .int .u32 v] W (Gives (.tuple #[.string k, .int .i64 0]) W)))
    (H1 : Hid (∀ W, Calls Try.prog 12 #[.string k, .int .u32 a] W (Is (.tuple #[.int .u32 (v % 256), .int .i64 0]) W)))
    (H2 : Hid (∀ W, Calls Try.prog 12 #[.string m, .int .u32 o] W (Is (.tuple #[.int .u32 x, .int .i64 g]) W)))
    (H3 : Hid (∀ W, Calls Try.prog 12 #[.string k, .int .u32 o] W (Is (.tuple #[.int .u32 y, .int .i64 g]) W))) :
    Calls Try.prog 8 #[.agg #[.string m, .int .u32 a, .int .u32 v, .int .u32 o]] w (Gives (.bool true) w) := by
  rcases hd with hd | rfl
  all_goals
    go_enter Try.func8, Try.ntmps8
    repeat' (first | (go_at_call 10; refine (shown _).mono ?_; rintro e w1 ⟨rfl, hb1⟩; dsimp only) | (go_at_call 20; refine (HS.out _).mono ?_; rintro e w2 ⟨rfl, hb2⟩; dsimp only) | go_values | go_skip | go_guarded | (with_reducible (first | refine ex_then_ret ?_ | refine ex_then_exit ?_ | refine ex_then_normal ?_ | refine ex_block_ret ?_ | refine ex_block_normal ?_ | refine ex_block_same ?_ | refine ex_block_other (by decide) ?_)) | go_step | go_upon)
    refine (H1.out _).mono ?_
    rintro e w' ⟨rfl, rfl⟩
    dsimp only
    repeat' (first | go_values | go_skip | go_guarded | (with_reducible (first | refine ex_then_ret ?_ | refine ex_then_exit ?_ | refine ex_then_normal ?_ | refine ex_block_ret ?_ | refine ex_block_normal ?_ | refine ex_block_same ?_ | refine ex_block_other (by decide) ?_)) | go_step | go_upon)
    refine (H2.out _).mono ?_
    rintro e w' ⟨rfl, rfl⟩
    dsimp only
    repeat' (first | go_values | go_skip | go_guarded | (with_reducible (first | refine ex_then_ret ?_ | refine ex_then_exit ?_ | refine ex_then_normal ?_ | refine ex_block_ret ?_ | refine ex_block_normal ?_ | refine ex_block_same ?_ | refine ex_block_other (by decide) ?_)) | go_step | go_upon)
    refine (H3.out _).mono ?_
    rintro e w' ⟨rfl, rfl⟩
    dsimp only
    repeat' (first | go_values | go_skip | go_guarded | (with_reducible (first | refine ex_then_ret ?_ | refine ex_then_exit ?_ | refine ex_then_normal ?_ | refine ex_block_ret ?_ | refine ex_block_normal ?_ | refine ex_block_same ?_ | refine ex_block_other (by decide) ?_)) | go_step | go_upon)
    all_goals go_ret
    all_goals exact gives_bool (by first | rfl | simp) (by repeat (with_reducible (first | exact Below.refl _ _ | assumption | refine Below.to ?_ (by assumption) | refine below_drewN ?_ _ | refine Below.alloc ?_ (by first | (simp; done) | omega | (simp; omega) | (simp at *; omega)) _ | refine Below.setCell ?_ (by first | (simp; done) | omega | (simp; omega) | (simp at *; omega)) _ | refine Below.drew ?_)))
theorem walk (m : ByteArray) (a v o : Int) (w : World) (hm : m.size ≤ 140737488355328) (h0 : 0 ≤ a) (h1 : a < 4294967296) (v0 : 0 ≤ v) (v1 : v < 4294967296) (o0 : 0 ≤ o) (o1 : o < 4294967296) :
    Calls Try.prog 8 #[.agg #[.string m, .int .u32 a, .int .u32 v, .int .u32 o]] w (Gives (.bool true) w) := by
  by_cases hw : Sg.has m a 1 = true
  · have hb := hw
    simp only [Sg.has, decide_eq_true_eq] at hb
    have hl : a.toNat + [UInt8.ofNat (v % 256).toNat].length ≤ m.size := by show _ + 1 ≤ _; omega
    have hz := Sg.put_size hl
    have hS := fun W => Seg.Put m a v W hm h0 h1 v0 v1
    unfold Sg.putM Sg.byteE at hS
    rw [if_pos hw, if_pos hw] at hS
    have hwk : Sg.has (Sg.put m a.toNat [UInt8.ofNat (v % 256).toNat]) a 1 = true := (Sg.has_size hz a 1).trans hw
    have hL1 := fun W => Seg.Byte (Sg.put m a.toNat [UInt8.ofNat (v % 256).toNat]) a W (by omega) h0 h1
    unfold Sg.byteV Sg.byteE at hL1
    have e1 : Sg.byte (Sg.put m a.toNat [UInt8.ofNat (v % 256).toNat]) a.toNat = v % 256 := by
      rw [Sg.byte_put_in hl (Nat.le_refl _) (show _ < _ + 1 by omega), Nat.sub_self]
      exact Sg.ofNat_toNat (v % 256) (by omega) (by omega)
    rw [if_pos hwk, if_pos hwk, e1] at hL1
    have hL3 := fun W => Seg.Byte (Sg.put m a.toNat [UInt8.ofNat (v % 256).toNat]) o W (by omega) o0 o1
    have hg : Sg.byteE (Sg.put m a.toNat [UInt8.ofNat (v % 256).toNat]) o = Sg.byteE m o := by unfold Sg.byteE; rw [Sg.has_size hz]
    rw [hg] at hL3
    refine core m _ a v o _ _ _ w v0 v1 hz ?_ (Lib.hid hS) (Lib.hid hL1) (Lib.hid fun W => Seg.Byte m o W hm o0 o1) (Lib.hid hL3)
    by_cases ho : o = a
    · exact .inl (by simp [ho])
    · right
      unfold Sg.byteV
      rw [Sg.has_size hz]
      by_cases hwo : Sg.has m o 1 = true
      · rw [if_pos hwo, if_pos hwo]
        exact (Sg.byte_put_out hl (show _ ∨ _ + 1 ≤ _ by omega)).symm
      · rw [if_neg hwo, if_neg hwo]
  · exact no m a v o w hm h0 h1 v0 v1 (by simpa using hw)
end LawOne
end Go.Proofs.Ytbneagebeacofaa
