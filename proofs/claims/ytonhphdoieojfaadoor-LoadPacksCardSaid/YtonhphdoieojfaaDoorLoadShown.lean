/- The document's example of layer 20, walked. No condition. -/
import Derived.Test.YtonhphdoieojfaaDoorLoadPack
import Derived.Test.YtonhphdoieojfaaDoorLoadParse
import Derived.WalkKit
import Derived.WalkSpells
import Derived.WalkLawsBesides
import Derived.Lib.Hide
import Derived.BigQuiet
import Derived.Deep.QuietTactic

set_option linter.unusedVariables false
set_option linter.unusedSimpArgs false
namespace Go.Proofs.YtonhphdoieojfaaDoor
open Go.RowKit
namespace Ld
theorem row_inj {r s : List ByteArray} (h : row r = row s) : r = s := by
  have hinj : Function.Injective (fun b : ByteArray => b.data.toList) := fun a b h => ByteArray.ext (Array.ext' h)
  exact (List.map_inj_right (fun a b h => hinj h)).1 h
theorem of_inj {l m : List (List ByteArray)} (h : of l = of m) : l = m := (List.map_inj_right (fun _ _ h => row_inj h)).1 h
theorem packS_inj {l m : List (List ByteArray)} (hl : fits (of l) = true) (hm : fits (of m) = true) (h : packS l = packS m) : l = m := by
  rw [packS, packS, hl, hm] at h
  simp only [if_true, ByteArray.mk.injEq] at h
  exact of_inj ((pack_inj hl hm).1 (by simpa using h))
theorem packE_no' {l : List (List ByteArray)} (h : fits (of l) = false) : packE l = 4 := (packE_no h).symm
theorem packE_yes' {l : List (List ByteArray)} (h : fits (of l) = true) : packE l = 0 := (packE_yes h).symm
theorem strs_ne : ∀ (n : Nat) (s : List UInt8) (c : Nat), strs n s = .error c → c ≠ 0
  | 0, s, c, h => by simp [strs] at h
  | n + 1, [], c, h => by simp only [strs, Except.error.injEq] at h; omega
  | n + 1, x :: t, c, h => by
    simp only [strs] at h
    split at h
    · simp only [Except.error.injEq] at h; omega
    · split at h
      · simp only [Except.error.injEq] at h; omega
      · split at h
        · rename_i e he
          simp only [Except.error.injEq] at h
          subst h
          exact strs_ne n _ _ he
        · cases h
theorem rows_ne : ∀ (n : Nat) (s : List UInt8) (c : Nat), rows n s = .error c → c ≠ 0
  | 0, s, c, h => by simp [rows] at h
  | n + 1, [], c, h => by simp only [rows, Except.error.injEq] at h; omega
  | n + 1, x :: t, c, h => by
    simp only [rows] at h
    split at h
    · simp only [Except.error.injEq] at h; omega
    · split at h
      · rename_i e he
        simp only [Except.error.injEq] at h
        subst h
        exact strs_ne _ _ _ he
      · split at h
        · rename_i e he
          simp only [Except.error.injEq] at h
          subst h
          exact rows_ne n _ _ he
        · cases h
theorem error_ne {s : List UInt8} {c : Nat} (h : unpack s = .error c) : c ≠ 0 := by
  match s, h with
  | [], h => simp only [unpack, Except.error.injEq] at h; omega
  | x :: t, h =>
    simp only [unpack] at h
    split at h
    · simp only [Except.error.injEq] at h; omega
    · match hr : rows x.toNat t, h with
      | .error e, h =>
        simp only [finish, Except.error.injEq] at h
        subst h
        exact rows_ne _ _ _ hr
      | .ok (q, v), h =>
        simp only [finish] at h
        split at h
        · cases h
        · simp only [Except.error.injEq] at h; omega
end Ld
namespace Load
theorem shownE : Ld.packE [[⟨#[97, 98]⟩]] = 0 := by decide +kernel
theorem shownS : Ld.packS [[⟨#[97, 98]⟩]] = ⟨#[1, 1, 2, 97, 98]⟩ := by decide +kernel
theorem imgs_ab (w : World) : ImgsAt ((w.alloc (.cells #[.string ⟨#[97, 98]⟩] 9)).alloc (.cells #[.slice (some ⟨w.heap.size, 0, none⟩) 1 1] 32)) (.slice (some ⟨w.heap.size + 1, 0, none⟩) 1 1) [[⟨#[97, 98]⟩]] := by
  refine ⟨_, _, rfl, by decide, .inr ⟨_, _, rfl, by simp, fun i hi => ?_⟩⟩
  obtain rfl : i = 0 := by simp at hi; omega
  refine ⟨.slice (some ⟨w.heap.size, 0, none⟩) 1 1, by go_simp, _, _, rfl, by decide, ?_, .inr ⟨_, _, rfl, by simp; omega, fun i hi => ?_⟩⟩
  · intro s hs
    obtain rfl : s = ⟨#[97, 98]⟩ := by simpa using hs
    decide
  · obtain rfl : i = 0 := by simp at hi; omega
    go_simp
set_option maxHeartbeats 1000000 in
theorem shown (w : World) : Calls Tryd.prog 7 #[] w (Gives (.bool true) w) := by
  have HE := Lib.hid shownE
  have HS := Lib.hid shownS
  go_enter Tryd.func7, Tryd.ntmps7
  repeat' (first | go_values | go_skip | go_guarded | (with_reducible (first | refine ex_then_ret ?_ | refine ex_then_exit ?_ | refine ex_then_normal ?_ | refine ex_block_ret ?_ | refine ex_block_normal ?_ | refine ex_block_same ?_ | refine ex_block_other (by decide) ?_)) | go_step | go_upon | go_quiet (fail))
  refine (Pack _ _ _ (imgs_ab w)).mono ?_
  rintro e w2 ⟨rfl, hb2⟩
  rw [HE.out, HS.out]
  dsimp only
  repeat' (first | go_values | go_skip | go_guarded | (with_reducible (first | refine ex_then_ret ?_ | refine ex_then_exit ?_ | refine ex_then_normal ?_ | refine ex_block_ret ?_ | refine ex_block_normal ?_ | refine ex_block_same ?_ | refine ex_block_other (by decide) ?_)) | go_step | go_upon | go_quiet (fail))
  go_ret
  exact gives_bool rfl (by repeat (with_reducible (first | exact Below.refl _ _ | assumption | refine Below.to ?_ (by assumption) | refine below_drewN ?_ _ | refine Below.alloc ?_ (by first | (simp; done) | omega | (simp; omega) | (simp at *; omega)) _ | refine Below.setCell ?_ (by first | (simp; done) | omega | (simp; omega) | (simp at *; omega)) _ | refine Below.drew ?_)))
end Load
end Go.Proofs.YtonhphdoieojfaaDoor
