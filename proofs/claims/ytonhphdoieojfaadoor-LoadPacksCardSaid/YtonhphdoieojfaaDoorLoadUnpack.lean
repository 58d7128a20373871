/- load.Unpack: the images of bytes, or why there are none. Conditions: errors.errorType is the handle of 'error'; bytes are as many as a string can have. -/
import Derived.Test.YtonhphdoieojfaaDoorLoadUnp
import Derived.Test.YtonhphdoieojfaaDoorLoadErrAsW
import Derived.WalkKit
import Derived.WalkSpells
import Derived.WalkLawsBesides
import Derived.Lib.Hide
import Derived.BigQuiet
import Derived.Deep.QuietTactic

set_option linter.unusedVariables false
set_option linter.unusedSimpArgs false
namespace Go.Proofs.YtonhphdoieojfaaDoor
open Go.RowKit
namespace Unp
/-- the variable errors.errorType is the handle of the type error -/
def Handle (W : World) : Prop := W.cell? ⟨0, 0, none⟩ = some (.iface 80 (.agg #[Err.hE]))
theorem Handle.below {W W' : World} (h : Handle W) (hb : Below W.heap.size W W') : Handle W' := by
  have hlt : 0 < W.heap.size := by
    rcases Nat.eq_zero_or_pos W.heap.size with h0 | h'
    · unfold Handle at h
      simp [World.cell?, h0] at h
    · exact h'
  exact (hb.cell (p := ⟨0, 0, none⟩) hlt).trans h
/-- what load.Unpack hands back -/
def Gets (w : World) (s : ByteArray) (ev : Ending) (w' : World) : Prop :=
  ∃ lv e, ev = .returned (.tuple #[lv, .int .i64 e]) ∧ Below w.heap.size w w' ∧
    ((∃ c : Nat, Ld.unpack s.data.toList = .error c ∧ e = c ∧ lv = .slice none 0 0) ∨ ∃ l, Ld.unpack s.data.toList = .ok (Ld.of l) ∧ e = 0 ∧ ImgsAt w' lv l)
set_option maxHeartbeats 4000000 in
theorem Unpack (s : ByteArray) (w : World) (hs : s.size ≤ 140737488355328) (hh : Handle w) : Calls Tryd.prog 9 #[.string s] w (Gets w s) := by
  have HH := Lib.hid hh
  clear hh
  go_enter Tryd.func9, Tryd.ntmps9
  repeat' (first | go_values | go_skip | go_guarded | (with_reducible (first | refine ex_then_ret ?_ | refine ex_then_exit ?_ | refine ex_then_normal ?_ | refine ex_block_ret ?_ | refine ex_block_normal ?_ | refine ex_block_same ?_ | refine ex_block_other (by decide) ?_)) | go_step | go_upon)
  refine (unpack s _ hs).mono ?_
  rintro ev w1 ⟨lv, errv, rfl, hb1, ⟨c, hu, ⟨q, x, rfl, hx⟩, a, n, k, rfl⟩ | ⟨l, hu, rfl, hI⟩⟩
  · have HU := Lib.hid hu
    have hxl := heap_lt hx
    have cx : w1.cell? ⟨x, 0, none⟩ = some (.int .i64 (c : Int)) := heap_cell hx 0
    clear hu hx
    dsimp only
    repeat' (first | go_values | go_skip | go_guarded | (with_reducible (first | refine ex_then_ret ?_ | refine ex_then_exit ?_ | refine ex_then_normal ?_ | refine ex_block_ret ?_ | refine ex_block_normal ?_ | refine ex_block_same ?_ | refine ex_block_other (by decide) ?_)) | go_step | go_upon)
    refine (Err.As_at q ⟨x, 0, none⟩ w1.heap.size (.pointer none) _ ((HH.out.below hb1).below (by repeat (with_reducible (first | exact Below.refl _ _ | assumption | refine Below.to ?_ (by assumption) | refine below_drewN ?_ _ | refine Below.alloc ?_ (by first | (simp; done) | omega | (simp; omega) | (simp at *; omega)) _ | refine Below.setCell ?_ (by first | (simp; done) | omega | (simp; omega) | (simp at *; omega)) _ | refine Below.drew ?_)))) (by go_simp) (by go_simp)).mono ?_
    rintro ev w2 ⟨rfl, hc2, hb2⟩
    have c2 : w2.cell? ⟨x, 0, none⟩ = some (.int .i64 (c : Int)) := (hb2.cell (p := ⟨x, 0, none⟩) hxl).trans (by go_simp)
    have hbel : Below w.heap.size w w2 := (hb1.alloc hb1.size _).trans (hb2.mono hb1.size)
    clear cx hb2
    dsimp only
    repeat' (first | go_values | go_skip | go_guarded | (with_reducible (first | refine ex_then_ret ?_ | refine ex_then_exit ?_ | refine ex_then_normal ?_ | refine ex_block_ret ?_ | refine ex_block_normal ?_ | refine ex_block_same ?_ | refine ex_block_other (by decide) ?_)) | go_step | go_upon | go_quiet (fail))
    go_ret2
    exact ⟨_, _, rfl, (by repeat (with_reducible (first | exact Below.refl _ _ | assumption | refine Below.to ?_ (by assumption) | refine below_drewN ?_ _ | refine Below.alloc ?_ (by first | (simp; done) | omega | (simp; omega) | (simp at *; omega)) _ | refine Below.setCell ?_ (by first | (simp; done) | omega | (simp; omega) | (simp at *; omega)) _ | refine Below.drew ?_))), .inl ⟨c, HU.out, rfl, rfl⟩⟩
  · have HU := Lib.hid hu
    have HI := Lib.hid hI
    clear hu hI
    dsimp only
    repeat' (first | go_values | go_skip | go_guarded | (with_reducible (first | refine ex_then_ret ?_ | refine ex_then_exit ?_ | refine ex_then_normal ?_ | refine ex_block_ret ?_ | refine ex_block_normal ?_ | refine ex_block_same ?_ | refine ex_block_other (by decide) ?_)) | go_step | go_upon)
    refine (Err.as_nil _ _).mono ?_
    rintro ev w2 ⟨rfl, rfl⟩
    dsimp only
    repeat' (first | go_values | go_skip | go_guarded | (with_reducible (first | refine ex_then_ret ?_ | refine ex_then_exit ?_ | refine ex_then_normal ?_ | refine ex_block_ret ?_ | refine ex_block_normal ?_ | refine ex_block_same ?_ | refine ex_block_other (by decide) ?_)) | go_step | go_upon)
    obtain ⟨la, lc, rfl, _⟩ := HI.out
    go_ret2
    exact ⟨_, _, rfl, hb1.alloc hb1.size _, .inr ⟨l, HU.out, rfl, HI.out.below (by repeat (with_reducible (first | exact Below.refl _ _ | assumption | refine Below.to ?_ (by assumption) | refine below_drewN ?_ _ | refine Below.alloc ?_ (by first | (simp; done) | omega | (simp; omega) | (simp at *; omega)) _ | refine Below.setCell ?_ (by first | (simp; done) | omega | (simp; omega) | (simp at *; omega)) _ | refine Below.drew ?_)))⟩⟩
end Unp
end Go.Proofs.YtonhphdoieojfaaDoor
