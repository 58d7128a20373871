/- The law LoadCut, walked. Condition: errors.errorType is the handle of 'error'. -/
import Derived.Test.YtonhphdoieojfaaDoorLoadUnpack
import Derived.Test.YtonhphdoieojfaaDoorLoadShown
import Derived.WalkKit
import Derived.WalkSpells
import Derived.WalkLawsBesides
import Derived.Lib.Hide
import Derived.BigQuiet
import Derived.Deep.QuietTactic

set_option linter.unusedVariables false
set_option linter.unusedSimpArgs false
namespace Go.Proofs.YtonhphdoieojfaaDoor
open Go.RowKit
namespace Ld
theorem packS_list {l : List (List ByteArray)} (h : fits (of l) = true) : (packS l).data.toList = pack (of l) := by
  rw [packS, h]
  simp
theorem packS_size (l : List (List ByteArray)) : (packS l).size ≤ 2085 := by
  cases h : fits (of l) with
  | false =>
    rw [packS, h]
    show (0 : Nat) ≤ 2085
    omega
  | true =>
    obtain ⟨h4, hr⟩ := (fits_iff l).1 h
    have hk := rowsK_length (k := l.length) h4 (by rw [List.take_length]; exact hr)
    rw [rowsK_end] at hk
    rw [← bl, packS_list h]
    exact hk
theorem cut_no {l : List (List ByteArray)} {k : Nat} {q : List (List ByteArray)} (h : fits (of l) = true) (hk : k < (packS l).size) : unpack ((packS l).extract 0 k).data.toList = .error 2 := by
  rw [← bl, packS_list h] at hk
  rw [ByteArray.data_extract, Array.toList_extract, List.extract_eq_take_drop, packS_list h, List.drop_zero, Nat.sub_zero]
  exact unpack_cut h hk
theorem more_no {l : List (List ByteArray)} {z : ByteArray} {x : UInt8} (h : fits (of l) = true) (hz : z.data.toList = [x]) : unpack (packS l ++ z).data.toList = .error 3 := by
  rw [ByteArray.data_append, Array.toList_append, packS_list h, hz]
  exact unpack_more h
theorem more_c {l : List (List ByteArray)} {z : ByteArray} {x : UInt8} {c : Nat} (h : fits (of l) = true) (hz : z.data.toList = [x]) (hu : unpack (packS l ++ z).data.toList = .error c) : c = 3 := by
  rw [more_no h hz] at hu
  injection hu with hu
  exact hu.symm
theorem more_ok {l : List (List ByteArray)} {z : ByteArray} {x : UInt8} {q : List (List (List UInt8))} (h : fits (of l) = true) (hz : z.data.toList = [x]) (hu : unpack (packS l ++ z).data.toList = .ok q) : False := by
  rw [more_no h hz] at hu
  cases hu
theorem cut_c {l : List (List ByteArray)} {k c : Nat} (h : fits (of l) = true) (hk : k < (packS l).size) (hu : unpack ((packS l).extract 0 k).data.toList = .error c) : c = 2 := by
  rw [cut_no (q := l) h hk] at hu
  injection hu with hu
  exact hu.symm
theorem cut_ok {l : List (List ByteArray)} {k : Nat} {q : List (List (List UInt8))} (h : fits (of l) = true) (hk : k < (packS l).size) (hu : unpack ((packS l).extract 0 k).data.toList = .ok q) : False := by
  rw [cut_no (q := l) h hk] at hu
  cases hu
theorem cut_size (l : List (List ByteArray)) (k : Nat) : ((packS l).extract 0 k).size ≤ 140737488355328 := by
  have := packS_size l
  rw [ByteArray.size_extract]
  omega
theorem more_size {l : List (List ByteArray)} {z : ByteArray} {x : UInt8} (hz : z.data.toList = [x]) : (packS l ++ z).size ≤ 140737488355328 := by
  have := packS_size l
  have h1 := bl z
  rw [hz] at h1
  rw [ByteArray.size_append, ← h1]
  simp
  omega
end Ld
namespace LawCut
set_option maxHeartbeats 4000000 in
set_option maxRecDepth 100000 in
theorem walk (v : Value) (l : List (List ByteArray)) (n : Int) (w : World) (h : ImgsAt w v l) (hn : (Lit.int .i64 n).wf = true) (hh : Unp.Handle w) : Calls Tryd.prog 4 #[v, .int .i64 n] w (Gives (.bool true) w) := by
  have HH := Lib.hid hh
  have HV := Lib.hid h
  obtain ⟨a, c, rfl, _⟩ := h
  have hz := Ld.packS_size l
  clear hh
  by_cases hf : Ld.fits (Ld.of l) = true
  · have HE := Lib.hid (Ld.packE_yes' hf)
    by_cases hlo : n < 0
    · go_enter Tryd.func4, Tryd.ntmps4
      repeat' (first | (go_at_call 7; refine (Load.shown _).mono ?_; rintro e w1 ⟨rfl, hb1⟩; dsimp only) | go_values | go_skip | go_guarded | (with_reducible (first | refine ex_then_ret ?_ | refine ex_then_exit ?_ | refine ex_then_normal ?_ | refine ex_block_ret ?_ | refine ex_block_normal ?_ | refine ex_block_same ?_ | refine ex_block_other (by decide) ?_)) | go_step | go_upon)
      refine (Load.Pack _ l _ (HV.out.below hb1)).mono ?_
      rintro ev w2 ⟨rfl, hb2⟩
      rw [HE.out]
      dsimp only
      repeat' (first | go_values | go_skip | go_guarded | (with_reducible (first | refine ex_then_ret ?_ | refine ex_then_exit ?_ | refine ex_then_normal ?_ | refine ex_block_ret ?_ | refine ex_block_normal ?_ | refine ex_block_same ?_ | refine ex_block_other (by decide) ?_)) | go_step | go_upon)
      all_goals go_ret
      all_goals exact gives_bool rfl (by repeat (with_reducible (first | exact Below.refl _ _ | assumption | refine Below.to ?_ (by assumption) | refine below_drewN ?_ _ | refine Below.alloc ?_ (by first | (simp; done) | omega | (simp; omega) | (simp at *; omega)) _ | refine Below.setCell ?_ (by first | (simp; done) | omega | (simp; omega) | (simp at *; omega)) _ | refine Below.drew ?_)))
    · obtain ⟨k, rfl⟩ := Int.eq_ofNat_of_zero_le (Int.not_lt.mp hlo)
      by_cases hk : k < (Ld.packS l).size
      · have HK := Lib.hid hk
        have HF := Lib.hid hf
        have hkI : ¬ ((Ld.packS l).size : Int) ≤ k := by omega
        clear hf hn
        go_enter Tryd.func4, Tryd.ntmps4
        repeat' (first | (go_at_call 7; refine (Load.shown _).mono ?_; rintro e w1 ⟨rfl, hb1⟩; dsimp only) | go_values | go_skip | go_guarded | (with_reducible (first | refine ex_then_ret ?_ | refine ex_then_exit ?_ | refine ex_then_normal ?_ | refine ex_block_ret ?_ | refine ex_block_normal ?_ | refine ex_block_same ?_ | refine ex_block_other (by decide) ?_)) | go_step | go_upon)
        refine (Load.Pack _ l _ (HV.out.below hb1)).mono ?_
        rintro ev w2 ⟨rfl, hb2⟩
        rw [HE.out]
        dsimp only
        repeat' (first | go_values | go_skip | go_guarded | (with_reducible (first | refine ex_then_ret ?_ | refine ex_then_exit ?_ | refine ex_then_normal ?_ | refine ex_block_ret ?_ | refine ex_block_normal ?_ | refine ex_block_same ?_ | refine ex_block_other (by decide) ?_)) | go_step | go_upon)
        refine (Unp.Unpack _ _ (Ld.cut_size _ _) ((HH.out.below hb1).below hb2)).mono ?_
        rintro ev w3 ⟨lv, e, rfl, hb3, hor⟩
        obtain ⟨c3, hu3, rfl, rfl⟩ := hor.resolve_right (fun ⟨q, hq, _⟩ => Ld.cut_ok HF.out HK.out hq)
        obtain rfl := Ld.cut_c HF.out HK.out hu3
        clear hor hu3
        dsimp only
        repeat' (first | go_values | go_skip | go_guarded | (with_reducible (first | refine ex_then_ret ?_ | refine ex_then_exit ?_ | refine ex_then_normal ?_ | refine ex_block_ret ?_ | refine ex_block_normal ?_ | refine ex_block_same ?_ | refine ex_block_other (by decide) ?_)) | go_step | go_upon)
        refine (Unp.Unpack _ _ (Ld.more_size rfl) (((HH.out.below hb1).below hb2).below hb3)).mono ?_
        rintro ev w4 ⟨lv4, e4, rfl, hb4, hor⟩
        obtain ⟨c4, hu4, rfl, rfl⟩ := hor.resolve_right (fun ⟨q, hq, _⟩ => Ld.more_ok HF.out rfl hq)
        obtain rfl := Ld.more_c HF.out rfl hu4
        clear hor hu4
        dsimp only
        repeat' (first | go_values | go_skip | go_guarded | (with_reducible (first | refine ex_then_ret ?_ | refine ex_then_exit ?_ | refine ex_then_normal ?_ | refine ex_block_ret ?_ | refine ex_block_normal ?_ | refine ex_block_same ?_ | refine ex_block_other (by decide) ?_)) | go_step | go_upon)
        go_ret
        exact gives_bool rfl (by repeat (with_reducible (first | exact Below.refl _ _ | assumption | refine Below.to ?_ (by assumption) | refine below_drewN ?_ _ | refine Below.alloc ?_ (by first | (simp; done) | omega | (simp; omega) | (simp at *; omega)) _ | refine Below.setCell ?_ (by first | (simp; done) | omega | (simp; omega) | (simp at *; omega)) _ | refine Below.drew ?_)))
      · have hkI : ((Ld.packS l).size : Int) ≤ k := by omega
        go_enter Tryd.func4, Tryd.ntmps4
        repeat' (first | (go_at_call 7; refine (Load.shown _).mono ?_; rintro e w1 ⟨rfl, hb1⟩; dsimp only) | go_values | go_skip | go_guarded | (with_reducible (first | refine ex_then_ret ?_ | refine ex_then_exit ?_ | refine ex_then_normal ?_ | refine ex_block_ret ?_ | refine ex_block_normal ?_ | refine ex_block_same ?_ | refine ex_block_other (by decide) ?_)) | go_step | go_upon)
        refine (Load.Pack _ l _ (HV.out.below hb1)).mono ?_
        rintro ev w2 ⟨rfl, hb2⟩
        rw [HE.out]
        dsimp only
        repeat' (first | go_values | go_skip | go_guarded | (with_reducible (first | refine ex_then_ret ?_ | refine ex_then_exit ?_ | refine ex_then_normal ?_ | refine ex_block_ret ?_ | refine ex_block_normal ?_ | refine ex_block_same ?_ | refine ex_block_other (by decide) ?_)) | go_step | go_upon)
        all_goals go_ret
        all_goals exact gives_bool rfl (by repeat (with_reducible (first | exact Below.refl _ _ | assumption | refine Below.to ?_ (by assumption) | refine below_drewN ?_ _ | refine Below.alloc ?_ (by first | (simp; done) | omega | (simp; omega) | (simp at *; omega)) _ | refine Below.setCell ?_ (by first | (simp; done) | omega | (simp; omega) | (simp at *; omega)) _ | refine Below.drew ?_)))
  · have HE := Lib.hid (Ld.packE_no' (by simpa using hf))
    go_enter Tryd.func4, Tryd.ntmps4
    repeat' (first | (go_at_call 7; refine (Load.shown _).mono ?_; rintro e w1 ⟨rfl, hb1⟩; dsimp only) | go_values | go_skip | go_guarded | (with_reducible (first | refine ex_then_ret ?_ | refine ex_then_exit ?_ | refine ex_then_normal ?_ | refine ex_block_ret ?_ | refine ex_block_normal ?_ | refine ex_block_same ?_ | refine ex_block_other (by decide) ?_)) | go_step | go_upon)
    refine (Load.Pack _ l _ (HV.out.below hb1)).mono ?_
    rintro ev w2 ⟨rfl, hb2⟩
    rw [HE.out]
    dsimp only
    repeat' (first | go_values | go_skip | go_guarded | (with_reducible (first | refine ex_then_ret ?_ | refine ex_then_exit ?_ | refine ex_then_normal ?_ | refine ex_block_ret ?_ | refine ex_block_normal ?_ | refine ex_block_same ?_ | refine ex_block_other (by decide) ?_)) | go_step | go_upon)
    all_goals go_ret
    all_goals exact gives_bool rfl (by repeat (with_reducible (first | exact Below.refl _ _ | assumption | refine Below.to ?_ (by assumption) | refine below_drewN ?_ _ | refine Below.alloc ?_ (by first | (simp; done) | omega | (simp; omega) | (simp at *; omega)) _ | refine Below.setCell ?_ (by first | (simp; done) | omega | (simp; omega) | (simp at *; omega)) _ | refine Below.drew ?_)))
end LawCut
end Go.Proofs.YtonhphdoieojfaaDoor
