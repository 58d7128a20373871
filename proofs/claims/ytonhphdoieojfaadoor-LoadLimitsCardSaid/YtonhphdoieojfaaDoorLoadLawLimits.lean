/- The law LoadLimits, walked. Conditions: errors.errorType is the handle of 'error'; bytes are as many as a string can have. -/
import Derived.Test.YtonhphdoieojfaaDoorLoadUnpack
import Derived.Test.YtonhphdoieojfaaDoorLoadShown
import Derived.WalkKit
import Derived.WalkSpells
import Derived.WalkLawsBesides
import Derived.Lib.Hide
import Derived.BigQuiet
import Derived.Deep.QuietTactic

set_option linter.unusedVariables false
set_option linter.unusedSimpArgs false
namespace Go.Proofs.YtonhphdoieojfaaDoor
open Go.RowKit
namespace LawLimits
/-- the heads of the loops -/
def Outer (w w0 : World) (l : List (List ByteArray)) (v : Value) (wr : World) : Prop := ∃ k : Nat, k ≤ l.length ∧ v = .int .i64 k ∧ Below w0.heap.size w0 wr
def Inner (w0 : World) (r : List ByteArray) (v : Value) (wr : World) : Prop := ∃ k : Nat, k ≤ r.length ∧ v = .int .i64 k ∧ Below w0.heap.size w0 wr
set_option maxHeartbeats 4000000 in
set_option maxRecDepth 100000 in
theorem walk (s : ByteArray) (w : World) (hs : s.size ≤ 140737488355328) (hh : Unp.Handle w) : Calls Tryd.prog 5 #[.string s] w (Gives (.bool true) w) := by
  have HH := Lib.hid hh
  clear hh
  go_enter Tryd.func5, Tryd.ntmps5
  repeat' (first | (go_at_call 7; refine (Load.shown _).mono ?_; rintro e w1 ⟨rfl, hb1⟩; dsimp only) | go_values | go_skip | go_guarded | (with_reducible (first | refine ex_then_ret ?_ | refine ex_then_exit ?_ | refine ex_then_normal ?_ | refine ex_block_ret ?_ | refine ex_block_normal ?_ | refine ex_block_same ?_ | refine ex_block_other (by decide) ?_)) | go_step | go_upon)
  refine (Unp.Unpack s _ hs (HH.out.below hb1)).mono ?_
  rintro ev w2 ⟨lv, e, rfl, hb2, ⟨c, hu, rfl, rfl⟩ | ⟨l, hu, rfl, hI⟩⟩
  · have hc := Ld.error_ne hu
    have hcI : ¬ (c : Int) = 0 := by omega
    dsimp only
    repeat' (first | go_values | go_skip | go_guarded | (with_reducible (first | refine ex_then_ret ?_ | refine ex_then_exit ?_ | refine ex_then_normal ?_ | refine ex_block_ret ?_ | refine ex_block_normal ?_ | refine ex_block_same ?_ | refine ex_block_other (by decide) ?_)) | go_step | go_upon)
    go_ret
    exact gives_bool rfl (by repeat (with_reducible (first | exact Below.refl _ _ | assumption | refine Below.to ?_ (by assumption) | refine below_drewN ?_ _ | refine Below.alloc ?_ (by first | (simp; done) | omega | (simp; omega) | (simp at *; omega)) _ | refine Below.setCell ?_ (by first | (simp; done) | omega | (simp; omega) | (simp at *; omega)) _ | refine Below.drew ?_)))
  · have HI := Lib.hid hI
    obtain ⟨hl4, hrow⟩ := (Ld.fits_iff _).1 (Ld.unpack_ok hu).1
    have HR := Lib.hid hrow
    have hb02 : Below w.heap.size w w2 := (by repeat (with_reducible (first | exact Below.refl _ _ | assumption | refine Below.to ?_ (by assumption) | refine below_drewN ?_ _ | refine Below.alloc ?_ (by first | (simp; done) | omega | (simp; omega) | (simp at *; omega)) _ | refine Below.setCell ?_ (by first | (simp; done) | omega | (simp; omega) | (simp at *; omega)) _ | refine Below.drew ?_)))
    obtain ⟨a, c, rfl, hn, hc⟩ := hI
    have HC := Lib.hid hc
    clear hc hu hrow hb1 hb2
    dsimp only
    repeat' (first | go_values | go_skip | go_guarded | (with_reducible (first | refine ex_then_ret ?_ | refine ex_then_exit ?_ | refine ex_then_normal ?_ | refine ex_block_ret ?_ | refine ex_block_normal ?_ | refine ex_block_same ?_ | refine ex_block_other (by decide) ?_)) | go_step | go_upon)
    obtain ⟨wo, rfl⟩ : ∃ wo : World, wo = w2 := ⟨_, rfl⟩
    go_loopw [6] (fun v wr => Outer w wo l v wr) (fun v _ => l.length - (intOf v).toNat)
    case atStart => exact ⟨0, Nat.zero_le _, rfl, Below.refl _ _⟩
    case round =>
      obtain ⟨k, hk, rfl, hb⟩ := hrel
      by_cases hlt : k < l.length
      · obtain hnil | ⟨b, off, rfl, hbl, hcell⟩ := HC.out
        · rw [hnil] at hlt; exact absurd hlt (Nat.not_lt_zero _)
        obtain ⟨u, hu, hs1⟩ := hcell k hlt
        have c0 := (hb.cell (p := ⟨b, off + k, none⟩) hbl).trans hu
        obtain ⟨a1, n1, rfl, hn1, hz1, hd1⟩ := hs1
        have hok := (Ld.okRow_iff _).1 (HR.out (l.getD k []) (by rw [List.getD_eq_getElem?_getD, List.getElem?_eq_getElem hlt]; exact List.getElem_mem hlt))
        have h8 : (l.getD k []).length ≤ 8 := by have := hok.1; rw [Ld.row, List.length_map] at this; exact this
        have H64 : Hid (∀ j, j < (l.getD k []).length → ((l.getD k []).getD j ByteArray.empty).size ≤ 64) := Lib.hid (fun j hj => Ld.okRow_size ((Ld.okRow_iff _).2 hok) hj)
        have HD := Lib.hid hd1
        clear hcell hu hok hd1 hz1
        generalize l.getD k [] = r at *
        repeat' (first | go_values | go_skip | go_guarded | (with_reducible (first | refine ex_then_ret ?_ | refine ex_then_exit ?_ | refine ex_then_normal ?_ | refine ex_block_ret ?_ | refine ex_block_normal ?_ | refine ex_block_same ?_ | refine ex_block_other (by decide) ?_)) | go_step | go_upon)
        obtain ⟨wi, rfl⟩ : ∃ wi : World, wi = wr := ⟨_, rfl⟩
        go_loopw [7] (fun v wr => Inner wi r v wr) (fun v _ => r.length - (intOf v).toNat)
        case atStart => exact ⟨0, Nat.zero_le _, rfl, Below.refl _ _⟩
        case round =>
          obtain ⟨j, hj, rfl, hbi⟩ := hrel
          have d0 := (hbi.cell (p := ⟨b, off + k, none⟩) (Nat.lt_of_lt_of_le hbl hb.size)).trans c0
          by_cases hjt : j < r.length
          · obtain hnil | ⟨b2, off2, rfl, hbl2, hcell2⟩ := HD.out
            · rw [hnil] at hjt; exact absurd hjt (Nat.not_lt_zero _)
            have hx := H64.out j hjt
            have d1 := (hbi.cell (p := ⟨b2, off2 + j, none⟩) (Nat.lt_of_lt_of_le hbl2 hb.size)).trans ((hb.cell (p := ⟨b2, off2 + j, none⟩) hbl2).trans (hcell2 j hjt))
            clear hcell2
            generalize r.getD j ByteArray.empty = x at *
            repeat' (first | go_values | go_skip | go_guarded | (with_reducible (first | refine ex_then_ret ?_ | refine ex_then_exit ?_ | refine ex_then_normal ?_ | refine ex_block_ret ?_ | refine ex_block_normal ?_ | refine ex_block_same ?_ | refine ex_block_other (by decide) ?_)) | go_step | go_upon | go_quiet (fail))
            exact ⟨⟨j + 1, by omega, by go_num, (by repeat (with_reducible (first | exact Below.refl _ _ | assumption | refine Below.to ?_ (by assumption) | refine below_drewN ?_ _ | refine Below.alloc ?_ (by first | (simp; done) | omega | (simp; omega) | (simp at *; omega)) _ | refine Below.setCell ?_ (by first | (simp; done) | omega | (simp; omega) | (simp at *; omega)) _ | refine Below.drew ?_)))⟩, by simp [intOf]; omega⟩
          · repeat' (first | go_values | go_skip | go_guarded | (with_reducible (first | refine ex_then_ret ?_ | refine ex_then_exit ?_ | refine ex_then_normal ?_ | refine ex_block_ret ?_ | refine ex_block_normal ?_ | refine ex_block_same ?_ | refine ex_block_other (by decide) ?_)) | go_step | go_upon | go_quiet (fail))
            exact ⟨⟨k + 1, by omega, by go_num, Below.to hb hbi⟩, by simp [intOf]; omega⟩
      · repeat' (first | go_values | go_skip | go_guarded | (with_reducible (first | refine ex_then_ret ?_ | refine ex_then_exit ?_ | refine ex_then_normal ?_ | refine ex_block_ret ?_ | refine ex_block_normal ?_ | refine ex_block_same ?_ | refine ex_block_other (by decide) ?_)) | go_step | go_upon | go_quiet (fail))
        go_ret
        exact gives_bool (by rw [decide_eq_true_eq]; omega) (Below.to hb02 hb)
end LawLimits
end Go.Proofs.YtonhphdoieojfaaDoor
