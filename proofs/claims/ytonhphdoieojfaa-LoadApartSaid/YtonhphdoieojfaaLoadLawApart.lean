/- The law LoadApart, walked. No condition. -/
import Derived.Test.YtonhphdoieojfaaLoadPack
import Derived.Test.YtonhphdoieojfaaLoadWalkC
import Derived.WalkKit
import Derived.WalkSpells
import Derived.WalkLawsBesides
import Derived.Lib.Hide
import Derived.BigQuiet
import Derived.Deep.QuietTactic

set_option linter.unusedVariables false
set_option linter.unusedSimpArgs false
namespace Go.Proofs.Ytonhphdoieojfaa
open Go.RowKit
namespace Ld
theorem row_inj {r s : List ByteArray} (h : row r = row s) : r = s := by
  have hinj : Function.Injective (fun b : ByteArray => b.data.toList) := fun a b h => ByteArray.ext (Array.ext' h)
  exact (List.map_inj_right (fun a b h => hinj h)).1 h
theorem of_inj {l m : List (List ByteArray)} (h : of l = of m) : l = m := (List.map_inj_right (fun _ _ h => row_inj h)).1 h
theorem packS_inj {l m : List (List ByteArray)} (hl : fits (of l) = true) (hm : fits (of m) = true) (h : packS l = packS m) : l = m := by
  rw [packS, packS, hl, hm] at h
  simp only [if_true, ByteArray.mk.injEq] at h
  exact of_inj ((pack_inj hl hm).1 (by simpa using h))
theorem packE_no' {l : List (List ByteArray)} (h : fits (of l) = false) : packE l = 4 := (packE_no h).symm
theorem packE_yes' {l : List (List ByteArray)} (h : fits (of l) = true) : packE l = 0 := (packE_yes h).symm
end Ld
namespace Load
theorem shownE : Ld.packE [[⟨#[97, 98]⟩]] = 0 := by decide +kernel
theorem shownS : Ld.packS [[⟨#[97, 98]⟩]] = ⟨#[1, 1, 2, 97, 98]⟩ := by decide +kernel
theorem imgs_ab (w : World) : ImgsAt ((w.alloc (.cells #[.string ⟨#[97, 98]⟩] 9)).alloc (.cells #[.slice (some ⟨w.heap.size, 0, none⟩) 1 1] 28)) (.slice (some ⟨w.heap.size + 1, 0, none⟩) 1 1) [[⟨#[97, 98]⟩]] := by
  refine ⟨_, _, rfl, by decide, .inr ⟨_, _, rfl, by simp, fun i hi => ?_⟩⟩
  obtain rfl : i = 0 := by simp at hi; omega
  refine ⟨.slice (some ⟨w.heap.size, 0, none⟩) 1 1, by go_simp, _, _, rfl, by decide, ?_, .inr ⟨_, _, rfl, by simp; omega, fun i hi => ?_⟩⟩
  · intro s hs
    obtain rfl : s = ⟨#[97, 98]⟩ := by simpa using hs
    decide
  · obtain rfl : i = 0 := by simp at hi; omega
    go_simp
set_option maxHeartbeats 1000000 in
theorem shown (w : World) : Calls Try.prog 4 #[] w (Gives (.bool true) w) := by
  have HE := Lib.hid shownE
  have HS := Lib.hid shownS
  go_enter Try.func4, Try.ntmps4
  repeat' (first | go_values | go_skip | go_guarded | (with_reducible (first | refine ex_then_ret ?_ | refine ex_then_exit ?_ | refine ex_then_normal ?_ | refine ex_block_ret ?_ | refine ex_block_normal ?_ | refine ex_block_same ?_ | refine ex_block_other (by decide) ?_)) | go_step | go_upon | go_quiet (fail))
  refine (Pack _ _ _ (imgs_ab w)).mono ?_
  rintro e w2 ⟨rfl, hb2⟩
  rw [HE.out, HS.out]
  dsimp only
  repeat' (first | go_values | go_skip | go_guarded | (with_reducible (first | refine ex_then_ret ?_ | refine ex_then_exit ?_ | refine ex_then_normal ?_ | refine ex_block_ret ?_ | refine ex_block_normal ?_ | refine ex_block_same ?_ | refine ex_block_other (by decide) ?_)) | go_step | go_upon | go_quiet (fail))
  go_ret
  exact gives_bool rfl (by repeat (with_reducible (first | exact Below.refl _ _ | assumption | refine Below.to ?_ (by assumption) | refine below_drewN ?_ _ | refine Below.alloc ?_ (by first | (simp; done) | omega | (simp; omega) | (simp at *; omega)) _ | refine Below.setCell ?_ (by first | (simp; done) | omega | (simp; omega) | (simp at *; omega)) _ | refine Below.drew ?_)))
set_option maxHeartbeats 1000000 in
theorem apart (u v : Value) (l m : List (List ByteArray)) (w : World) (hu : ImgsAt w u l) (hv : ImgsAt w v m) :
    Calls Try.prog 3 #[u, v] w (Gives (.bool true) w) := by
  have HU := Lib.hid hu
  have HV := Lib.hid hv
  obtain ⟨a, c, rfl, _⟩ := hu
  obtain ⟨a', c', rfl, _⟩ := hv
  by_cases hl : Ld.fits (Ld.of l) = true
  · have HE := Lib.hid (Ld.packE_yes' hl)
    by_cases hm : Ld.fits (Ld.of m) = true
    · have HE2 := Lib.hid (Ld.packE_yes' hm)
      by_cases he : l = m
      · have HD := Lib.hid (decide_eq_true he)
        have HP := Lib.hid (congrArg Ld.packS he)
        clear he
        go_enter Try.func3, Try.ntmps3
        repeat' (first | (go_at_call 4; refine (shown _).mono ?_; rintro e w1 ⟨rfl, hb1⟩; dsimp only) | go_values | go_skip | go_guarded | (with_reducible (first | refine ex_then_ret ?_ | refine ex_then_exit ?_ | refine ex_then_normal ?_ | refine ex_block_ret ?_ | refine ex_block_normal ?_ | refine ex_block_same ?_ | refine ex_block_other (by decide) ?_)) | go_step | go_upon)
        refine (Pack _ l _ (HU.out.below (by repeat (with_reducible (first | exact Below.refl _ _ | assumption | refine Below.to ?_ (by assumption) | refine below_drewN ?_ _ | refine Below.alloc ?_ (by first | (simp; done) | omega | (simp; omega) | (simp at *; omega)) _ | refine Below.setCell ?_ (by first | (simp; done) | omega | (simp; omega) | (simp at *; omega)) _ | refine Below.drew ?_))))).mono ?_
        rintro e w2 ⟨rfl, hb2⟩
        rw [HE.out, HP.out]
        dsimp only
        repeat' (first | go_values | go_skip | go_guarded | (with_reducible (first | refine ex_then_ret ?_ | refine ex_then_exit ?_ | refine ex_then_normal ?_ | refine ex_block_ret ?_ | refine ex_block_normal ?_ | refine ex_block_same ?_ | refine ex_block_other (by decide) ?_)) | go_step | go_upon | go_quiet (fail))
        refine (Pack _ m _ (HV.out.below (by repeat (with_reducible (first | exact Below.refl _ _ | assumption | refine Below.to ?_ (by assumption) | refine below_drewN ?_ _ | refine Below.alloc ?_ (by first | (simp; done) | omega | (simp; omega) | (simp at *; omega)) _ | refine Below.setCell ?_ (by first | (simp; done) | omega | (simp; omega) | (simp at *; omega)) _ | refine Below.drew ?_))))).mono ?_
        rintro e w3 ⟨rfl, hb3⟩
        rw [HE2.out]
        dsimp only
        generalize Ld.packS m = t
        repeat' (first | (go_at_call 6; refine (Same _ _ l m _ (HU.out.below (by repeat (with_reducible (first | exact Below.refl _ _ | assumption | refine Below.to ?_ (by assumption) | refine below_drewN ?_ _ | refine Below.alloc ?_ (by first | (simp; done) | omega | (simp; omega) | (simp at *; omega)) _ | refine Below.setCell ?_ (by first | (simp; done) | omega | (simp; omega) | (simp at *; omega)) _ | refine Below.drew ?_)))) (HV.out.below (by repeat (with_reducible (first | exact Below.refl _ _ | assumption | refine Below.to ?_ (by assumption) | refine below_drewN ?_ _ | refine Below.alloc ?_ (by first | (simp; done) | omega | (simp; omega) | (simp at *; omega)) _ | refine Below.setCell ?_ (by first | (simp; done) | omega | (simp; omega) | (simp at *; omega)) _ | refine Below.drew ?_))))).mono ?_; rintro e w4 ⟨rfl, hb4⟩; rw [HD.out]; dsimp only) | go_values | go_skip | go_guarded | (with_reducible (first | refine ex_then_ret ?_ | refine ex_then_exit ?_ | refine ex_then_normal ?_ | refine ex_block_ret ?_ | refine ex_block_normal ?_ | refine ex_block_same ?_ | refine ex_block_other (by decide) ?_)) | go_step | go_upon | go_quiet (fail))
        go_ret
        exact gives_bool rfl (by repeat (with_reducible (first | exact Below.refl _ _ | assumption | refine Below.to ?_ (by assumption) | refine below_drewN ?_ _ | refine Below.alloc ?_ (by first | (simp; done) | omega | (simp; omega) | (simp at *; omega)) _ | refine Below.setCell ?_ (by first | (simp; done) | omega | (simp; omega) | (simp at *; omega)) _ | refine Below.drew ?_)))
      · have HD := Lib.hid (decide_eq_false he)
        have HP := Lib.hid (toList_ne (fun h => he (Ld.packS_inj hl hm h)))
        clear he
        go_enter Try.func3, Try.ntmps3
        repeat' (first | (go_at_call 4; refine (shown _).mono ?_; rintro e w1 ⟨rfl, hb1⟩; dsimp only) | go_values | go_skip | go_guarded | (with_reducible (first | refine ex_then_ret ?_ | refine ex_then_exit ?_ | refine ex_then_normal ?_ | refine ex_block_ret ?_ | refine ex_block_normal ?_ | refine ex_block_same ?_ | refine ex_block_other (by decide) ?_)) | go_step | go_upon)
        refine (Pack _ l _ (HU.out.below (by repeat (with_reducible (first | exact Below.refl _ _ | assumption | refine Below.to ?_ (by assumption) | refine below_drewN ?_ _ | refine Below.alloc ?_ (by first | (simp; done) | omega | (simp; omega) | (simp at *; omega)) _ | refine Below.setCell ?_ (by first | (simp; done) | omega | (simp; omega) | (simp at *; omega)) _ | refine Below.drew ?_))))).mono ?_
        rintro e w2 ⟨rfl, hb2⟩
        rw [HE.out]
        dsimp only
        repeat' (first | go_values | go_skip | go_guarded | (with_reducible (first | refine ex_then_ret ?_ | refine ex_then_exit ?_ | refine ex_then_normal ?_ | refine ex_block_ret ?_ | refine ex_block_normal ?_ | refine ex_block_same ?_ | refine ex_block_other (by decide) ?_)) | go_step | go_upon | go_quiet (fail))
        refine (Pack _ m _ (HV.out.below (by repeat (with_reducible (first | exact Below.refl _ _ | assumption | refine Below.to ?_ (by assumption) | refine below_drewN ?_ _ | refine Below.alloc ?_ (by first | (simp; done) | omega | (simp; omega) | (simp at *; omega)) _ | refine Below.setCell ?_ (by first | (simp; done) | omega | (simp; omega) | (simp at *; omega)) _ | refine Below.drew ?_))))).mono ?_
        rintro e w3 ⟨rfl, hb3⟩
        rw [HE2.out]
        dsimp only
        have hp := HP.out
        generalize Ld.packS m = t at *
        generalize Ld.packS l = s at *
        repeat' (first | (go_at_call 6; refine (Same _ _ l m _ (HU.out.below (by repeat (with_reducible (first | exact Below.refl _ _ | assumption | refine Below.to ?_ (by assumption) | refine below_drewN ?_ _ | refine Below.alloc ?_ (by first | (simp; done) | omega | (simp; omega) | (simp at *; omega)) _ | refine Below.setCell ?_ (by first | (simp; done) | omega | (simp; omega) | (simp at *; omega)) _ | refine Below.drew ?_)))) (HV.out.below (by repeat (with_reducible (first | exact Below.refl _ _ | assumption | refine Below.to ?_ (by assumption) | refine below_drewN ?_ _ | refine Below.alloc ?_ (by first | (simp; done) | omega | (simp; omega) | (simp at *; omega)) _ | refine Below.setCell ?_ (by first | (simp; done) | omega | (simp; omega) | (simp at *; omega)) _ | refine Below.drew ?_))))).mono ?_; rintro e w4 ⟨rfl, hb4⟩; rw [HD.out]; dsimp only) | go_values | go_skip | go_guarded | (with_reducible (first | refine ex_then_ret ?_ | refine ex_then_exit ?_ | refine ex_then_normal ?_ | refine ex_block_ret ?_ | refine ex_block_normal ?_ | refine ex_block_same ?_ | refine ex_block_other (by decide) ?_)) | go_step | go_upon | go_quiet (fail))
        go_ret
        exact gives_bool rfl (by repeat (with_reducible (first | exact Below.refl _ _ | assumption | refine Below.to ?_ (by assumption) | refine below_drewN ?_ _ | refine Below.alloc ?_ (by first | (simp; done) | omega | (simp; omega) | (simp at *; omega)) _ | refine Below.setCell ?_ (by first | (simp; done) | omega | (simp; omega) | (simp at *; omega)) _ | refine Below.drew ?_)))
    · have HE2 := Lib.hid (Ld.packE_no' (by simpa using hm))
      go_enter Try.func3, Try.ntmps3
      repeat' (first | (go_at_call 4; refine (shown _).mono ?_; rintro e w1 ⟨rfl, hb1⟩; dsimp only) | go_values | go_skip | go_guarded | (with_reducible (first | refine ex_then_ret ?_ | refine ex_then_exit ?_ | refine ex_then_normal ?_ | refine ex_block_ret ?_ | refine ex_block_normal ?_ | refine ex_block_same ?_ | refine ex_block_other (by decide) ?_)) | go_step | go_upon)
      refine (Pack _ l _ (HU.out.below (by repeat (with_reducible (first | exact Below.refl _ _ | assumption | refine Below.to ?_ (by assumption) | refine below_drewN ?_ _ | refine Below.alloc ?_ (by first | (simp; done) | omega | (simp; omega) | (simp at *; omega)) _ | refine Below.setCell ?_ (by first | (simp; done) | omega | (simp; omega) | (simp at *; omega)) _ | refine Below.drew ?_))))).mono ?_
      rintro e w2 ⟨rfl, hb2⟩
      rw [HE.out]
      dsimp only
      repeat' (first | go_values | go_skip | go_guarded | (with_reducible (first | refine ex_then_ret ?_ | refine ex_then_exit ?_ | refine ex_then_normal ?_ | refine ex_block_ret ?_ | refine ex_block_normal ?_ | refine ex_block_same ?_ | refine ex_block_other (by decide) ?_)) | go_step | go_upon | go_quiet (fail))
      refine (Pack _ m _ (HV.out.below (by repeat (with_reducible (first | exact Below.refl _ _ | assumption | refine Below.to ?_ (by assumption) | refine below_drewN ?_ _ | refine Below.alloc ?_ (by first | (simp; done) | omega | (simp; omega) | (simp at *; omega)) _ | refine Below.setCell ?_ (by first | (simp; done) | omega | (simp; omega) | (simp at *; omega)) _ | refine Below.drew ?_))))).mono ?_
      rintro e w3 ⟨rfl, hb3⟩
      rw [HE2.out]
      dsimp only
      repeat' (first | go_values | go_skip | go_guarded | (with_reducible (first | refine ex_then_ret ?_ | refine ex_then_exit ?_ | refine ex_then_normal ?_ | refine ex_block_ret ?_ | refine ex_block_normal ?_ | refine ex_block_same ?_ | refine ex_block_other (by decide) ?_)) | go_step | go_upon | go_quiet (fail))
      go_ret
      exact gives_bool rfl (by repeat (with_reducible (first | exact Below.refl _ _ | assumption | refine Below.to ?_ (by assumption) | refine below_drewN ?_ _ | refine Below.alloc ?_ (by first | (simp; done) | omega | (simp; omega) | (simp at *; omega)) _ | refine Below.setCell ?_ (by first | (simp; done) | omega | (simp; omega) | (simp at *; omega)) _ | refine Below.drew ?_)))
  · have hl' : Ld.fits (Ld.of l) = false := by simpa using hl
    have HE := Lib.hid (Ld.packE_no' hl')
    go_enter Try.func3, Try.ntmps3
    repeat' (first | (go_at_call 4; refine (shown _).mono ?_; rintro e w1 ⟨rfl, hb1⟩; dsimp only) | go_values | go_skip | go_guarded | (with_reducible (first | refine ex_then_ret ?_ | refine ex_then_exit ?_ | refine ex_then_normal ?_ | refine ex_block_ret ?_ | refine ex_block_normal ?_ | refine ex_block_same ?_ | refine ex_block_other (by decide) ?_)) | go_step | go_upon)
    refine (Pack _ l _ (HU.out.below (by repeat (with_reducible (first | exact Below.refl _ _ | assumption | refine Below.to ?_ (by assumption) | refine below_drewN ?_ _ | refine Below.alloc ?_ (by first | (simp; done) | omega | (simp; omega) | (simp at *; omega)) _ | refine Below.setCell ?_ (by first | (simp; done) | omega | (simp; omega) | (simp at *; omega)) _ | refine Below.drew ?_))))).mono ?_
    rintro e w2 ⟨rfl, hb2⟩
    rw [HE.out]
    dsimp only
    repeat' (first | go_values | go_skip | go_guarded | (with_reducible (first | refine ex_then_ret ?_ | refine ex_then_exit ?_ | refine ex_then_normal ?_ | refine ex_block_ret ?_ | refine ex_block_normal ?_ | refine ex_block_same ?_ | refine ex_block_other (by decide) ?_)) | go_step | go_upon | go_quiet (fail))
    refine (Pack _ m _ (HV.out.below (by repeat (with_reducible (first | exact Below.refl _ _ | assumption | refine Below.to ?_ (by assumption) | refine below_drewN ?_ _ | refine Below.alloc ?_ (by first | (simp; done) | omega | (simp; omega) | (simp at *; omega)) _ | refine Below.setCell ?_ (by first | (simp; done) | omega | (simp; omega) | (simp at *; omega)) _ | refine Below.drew ?_))))).mono ?_
    rintro e w3 ⟨rfl, hb3⟩
    dsimp only
    repeat' (first | go_values | go_skip | go_guarded | (with_reducible (first | refine ex_then_ret ?_ | refine ex_then_exit ?_ | refine ex_then_normal ?_ | refine ex_block_ret ?_ | refine ex_block_normal ?_ | refine ex_block_same ?_ | refine ex_block_other (by decide) ?_)) | go_step | go_upon | go_quiet (fail))
    go_ret
    exact gives_bool rfl (by repeat (with_reducible (first | exact Below.refl _ _ | assumption | refine Below.to ?_ (by assumption) | refine below_drewN ?_ _ | refine Below.alloc ?_ (by first | (simp; done) | omega | (simp; omega) | (simp at *; omega)) _ | refine Below.setCell ?_ (by first | (simp; done) | omega | (simp; omega) | (simp at *; omega)) _ | refine Below.drew ?_)))
end Load
end Go.Proofs.Ytonhphdoieojfaa
