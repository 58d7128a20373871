/- The law LoadBack, walked. Conditions: errors.errorType is the handle of 'error'; bytes are as many as a string can have. -/
import Derived.Test.YtonhphdoieojfaaDoorLoadLawCut
import Derived.Test.YtonhphdoieojfaaDoorLoadRefSame
import Derived.WalkKit
import Derived.WalkSpells
import Derived.WalkLawsBesides
import Derived.Lib.Hide
import Derived.BigQuiet
import Derived.Deep.QuietTactic

set_option linter.unusedVariables false
set_option linter.unusedSimpArgs false
namespace Go.Proofs.YtonhphdoieojfaaDoor
open Go.RowKit
namespace Ld
theorem packS_bytes {l : List (List ByteArray)} {s : ByteArray} (h : fits (of l) = true) (hs : s.data.toList = pack (of l)) : packS l = s := by
  apply ByteArray.ext
  apply Array.ext'
  rw [packS_list h, hs]
theorem back_ok {l q : List (List ByteArray)} (h : fits (of l) = true) (hq : unpack (packS l).data.toList = .ok (of q)) : l = q := by
  rw [packS_list h, unpack_pack h] at hq
  injection hq with hq
  exact of_inj hq
theorem back_no {l : List (List ByteArray)} {c : Nat} (h : fits (of l) = true) (hq : unpack (packS l).data.toList = .error c) : False := by
  rw [packS_list h, unpack_pack h] at hq
  cases hq
theorem packS_size2 (l : List (List ByteArray)) : (packS l).size ≤ 140737488355328 := Nat.le_trans (packS_size l) (by decide)
end Ld
namespace LawBack
theorem nil_imgs (W : World) : ImgsAt W (.slice none 0 0) [] := ⟨none, 0, rfl, by simp, .inl rfl⟩
set_option maxHeartbeats 4000000 in
set_option maxRecDepth 100000 in
theorem walk (v : Value) (l : List (List ByteArray)) (s : ByteArray) (w : World) (h : ImgsAt w v l) (hs : s.size ≤ 140737488355328) (hh : Unp.Handle w) : Calls Tryd.prog 3 #[v, .string s] w (Gives (.bool true) w) := by
  have HH := Lib.hid hh
  have HV := Lib.hid h
  obtain ⟨a, c, rfl, _⟩ := h
  clear hh
  by_cases hf : Ld.fits (Ld.of l) = true
  · have HE := Lib.hid (Ld.packE_yes' hf)
    have HF := Lib.hid hf
    clear hf
    go_enter Tryd.func3, Tryd.ntmps3
    repeat' (first | (go_at_call 7; refine (Load.shown _).mono ?_; rintro e w1 ⟨rfl, hb1⟩; dsimp only) | go_values | go_skip | go_guarded | (with_reducible (first | refine ex_then_ret ?_ | refine ex_then_exit ?_ | refine ex_then_normal ?_ | refine ex_block_ret ?_ | refine ex_block_normal ?_ | refine ex_block_same ?_ | refine ex_block_other (by decide) ?_)) | go_step | go_upon)
    refine (Load.Pack _ l _ (HV.out.below hb1)).mono ?_
    rintro ev w2 ⟨rfl, hb2⟩
    rw [HE.out]
    dsimp only
    repeat' (first | go_values | go_skip | go_guarded | (with_reducible (first | refine ex_then_ret ?_ | refine ex_then_exit ?_ | refine ex_then_normal ?_ | refine ex_block_ret ?_ | refine ex_block_normal ?_ | refine ex_block_same ?_ | refine ex_block_other (by decide) ?_)) | go_step | go_upon)
    refine (Unp.Unpack _ _ (Ld.packS_size2 l) ((HH.out.below hb1).below hb2)).mono ?_
    rintro ev w3 ⟨lv, e, rfl, hb3, hor⟩
    obtain ⟨q, hq, rfl, hI⟩ := hor.resolve_left (fun ⟨c, hc, _⟩ => Ld.back_no HF.out hc)
    obtain rfl := Ld.back_ok HF.out hq
    have HI := Lib.hid hI
    obtain ⟨a3, c3, rfl, _⟩ := hI
    clear hor hq
    dsimp only
    have HD := Lib.hid (show decide (l = l) = true by simp)
    repeat' (first | (go_at_call 10; refine (Load.refSame _ _ l l _ (((HV.out.below hb1).below hb2).below hb3) HI.out).mono ?_; rintro e w4 ⟨rfl, hb4⟩; rw [HD.out]; dsimp only) | go_values | go_skip | go_guarded | (with_reducible (first | refine ex_then_ret ?_ | refine ex_then_exit ?_ | refine ex_then_normal ?_ | refine ex_block_ret ?_ | refine ex_block_normal ?_ | refine ex_block_same ?_ | refine ex_block_other (by decide) ?_)) | go_step | go_upon | go_quiet (fail))
    have hbel : Below w.heap.size w w4 := Below.to (Below.to (Below.to hb1 hb2) hb3) hb4
    clear hb1 hb2 hb3 hb4 HI
    generalize w4 = wz at *
    refine (Unp.Unpack s _ hs (HH.out.below hbel)).mono ?_
    rintro ev w5 ⟨lv5, e5, rfl, hb5, ⟨c5, hu5, rfl, rfl⟩ | ⟨q5, hu5, rfl, hI5⟩⟩
    · have hne := Ld.error_ne hu5
      have hneI : ¬ (c5 : Int) = 0 := by omega
      dsimp only
      repeat' (first | go_values | go_skip | go_guarded | (with_reducible (first | refine ex_then_ret ?_ | refine ex_then_exit ?_ | refine ex_then_normal ?_ | refine ex_block_ret ?_ | refine ex_block_normal ?_ | refine ex_block_same ?_ | refine ex_block_other (by decide) ?_)) | go_step | go_upon)
      refine (Load.Pack _ [] _ (nil_imgs _)).mono ?_
      rintro ev w6 ⟨rfl, hb6⟩
      dsimp only
      repeat' (first | go_values | go_skip | go_guarded | (with_reducible (first | refine ex_then_ret ?_ | refine ex_then_exit ?_ | refine ex_then_normal ?_ | refine ex_block_ret ?_ | refine ex_block_normal ?_ | refine ex_block_same ?_ | refine ex_block_other (by decide) ?_)) | go_step | go_upon | go_quiet (fail))
      go_ret
      exact gives_bool rfl (Below.to (Below.to hbel hb5) hb6)
    · obtain ⟨hf5, hs5⟩ := Ld.unpack_ok hu5
      have HE5 := Lib.hid (Ld.packE_yes' hf5)
      have HS5 := Lib.hid (Ld.packS_bytes hf5 hs5)
      have HI5 := Lib.hid hI5
      obtain ⟨a5, c5, rfl, _⟩ := hI5
      clear hu5 hf5 hs5
      dsimp only
      repeat' (first | go_values | go_skip | go_guarded | (with_reducible (first | refine ex_then_ret ?_ | refine ex_then_exit ?_ | refine ex_then_normal ?_ | refine ex_block_ret ?_ | refine ex_block_normal ?_ | refine ex_block_same ?_ | refine ex_block_other (by decide) ?_)) | go_step | go_upon)
      refine (Load.Pack _ q5 _ HI5.out).mono ?_
      rintro ev w6 ⟨rfl, hb6⟩
      rw [HE5.out, HS5.out]
      dsimp only
      repeat' (first | go_values | go_skip | go_guarded | (with_reducible (first | refine ex_then_ret ?_ | refine ex_then_exit ?_ | refine ex_then_normal ?_ | refine ex_block_ret ?_ | refine ex_block_normal ?_ | refine ex_block_same ?_ | refine ex_block_other (by decide) ?_)) | go_step | go_upon | go_quiet (fail))
      go_ret
      exact gives_bool rfl (Below.to (Below.to hbel hb5) hb6)
  · have HE := Lib.hid (Ld.packE_no' (by simpa using hf))
    go_enter Tryd.func3, Tryd.ntmps3
    repeat' (first | (go_at_call 7; refine (Load.shown _).mono ?_; rintro e w1 ⟨rfl, hb1⟩; dsimp only) | go_values | go_skip | go_guarded | (with_reducible (first | refine ex_then_ret ?_ | refine ex_then_exit ?_ | refine ex_then_normal ?_ | refine ex_block_ret ?_ | refine ex_block_normal ?_ | refine ex_block_same ?_ | refine ex_block_other (by decide) ?_)) | go_step | go_upon)
    refine (Load.Pack _ l _ (HV.out.below hb1)).mono ?_
    rintro ev w2 ⟨rfl, hb2⟩
    rw [HE.out]
    dsimp only
    repeat' (first | go_values | go_skip | go_guarded | (with_reducible (first | refine ex_then_ret ?_ | refine ex_then_exit ?_ | refine ex_then_normal ?_ | refine ex_block_ret ?_ | refine ex_block_normal ?_ | refine ex_block_same ?_ | refine ex_block_other (by decide) ?_)) | go_step | go_upon)
    have hbel : Below w.heap.size w w2 := Below.to hb1 hb2
    clear hb1 hb2
    generalize w2 = wz at *
    refine (Unp.Unpack s _ hs (HH.out.below hbel)).mono ?_
    rintro ev w5 ⟨lv5, e5, rfl, hb5, ⟨c5, hu5, rfl, rfl⟩ | ⟨q5, hu5, rfl, hI5⟩⟩
    · have hne := Ld.error_ne hu5
      have hneI : ¬ (c5 : Int) = 0 := by omega
      dsimp only
      repeat' (first | go_values | go_skip | go_guarded | (with_reducible (first | refine ex_then_ret ?_ | refine ex_then_exit ?_ | refine ex_then_normal ?_ | refine ex_block_ret ?_ | refine ex_block_normal ?_ | refine ex_block_same ?_ | refine ex_block_other (by decide) ?_)) | go_step | go_upon)
      refine (Load.Pack _ [] _ (nil_imgs _)).mono ?_
      rintro ev w6 ⟨rfl, hb6⟩
      dsimp only
      repeat' (first | go_values | go_skip | go_guarded | (with_reducible (first | refine ex_then_ret ?_ | refine ex_then_exit ?_ | refine ex_then_normal ?_ | refine ex_block_ret ?_ | refine ex_block_normal ?_ | refine ex_block_same ?_ | refine ex_block_other (by decide) ?_)) | go_step | go_upon | go_quiet (fail))
      go_ret
      exact gives_bool rfl (Below.to (Below.to hbel hb5) hb6)
    · obtain ⟨hf5, hs5⟩ := Ld.unpack_ok hu5
      have HE5 := Lib.hid (Ld.packE_yes' hf5)
      have HS5 := Lib.hid (Ld.packS_bytes hf5 hs5)
      have HI5 := Lib.hid hI5
      obtain ⟨a5, c5, rfl, _⟩ := hI5
      clear hu5 hf5 hs5
      dsimp only
      repeat' (first | go_values | go_skip | go_guarded | (with_reducible (first | refine ex_then_ret ?_ | refine ex_then_exit ?_ | refine ex_then_normal ?_ | refine ex_block_ret ?_ | refine ex_block_normal ?_ | refine ex_block_same ?_ | refine ex_block_other (by decide) ?_)) | go_step | go_upon)
      refine (Load.Pack _ q5 _ HI5.out).mono ?_
      rintro ev w6 ⟨rfl, hb6⟩
      rw [HE5.out, HS5.out]
      dsimp only
      repeat' (first | go_values | go_skip | go_guarded | (with_reducible (first | refine ex_then_ret ?_ | refine ex_then_exit ?_ | refine ex_then_normal ?_ | refine ex_block_ret ?_ | refine ex_block_normal ?_ | refine ex_block_same ?_ | refine ex_block_other (by decide) ?_)) | go_step | go_upon | go_quiet (fail))
      go_ret
      exact gives_bool rfl (Below.to (Below.to hbel hb5) hb6)
end LawBack
end Go.Proofs.YtonhphdoieojfaaDoor
