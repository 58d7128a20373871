/- The search of load.Pack for a string that is too long. No condition. -/
import Derived.Test.YtonhphdoieojfaaDoorProg
import Derived.Test.YtonhphdoieojfaaDoorLoadAt
import Derived.Handy
import Derived.WalkKit
import Derived.WalkSpells
import Derived.WalkLawsBesides
import Derived.Lib.Hide
import Derived.BigQuiet
import Derived.Deep.QuietTactic

set_option linter.unusedVariables false
set_option linter.unusedSimpArgs false
namespace Go.Proofs.YtonhphdoieojfaaDoor
open Go.RowKit
namespace Load
theorem long (s : ByteArray) (w : World) (hn : s.size ≤ 9223372036854775807) : Calls Tryd.prog 16 #[.string s] w (Is (.bool (decide (64 < s.size))) w) := by
  go_enter Tryd.func16, Tryd.ntmps16
  go_wp2
  all_goals (go_ret; refine is_bool ?_)
  all_goals (simp; try omega)
set_option maxHeartbeats 1000000 in
theorem idxS (v : Value) (ws : List ByteArray) (w : World) (h : StrsAt w v ws) :
    Calls Tryd.prog 25 #[v, .func (.func 16) #[] #[]] w (Found (ws.any (fun s => decide (64 < s.size))) w) := by
  obtain ⟨a, c, rfl, hn, hsz, hc⟩ := h
  have HC := Lib.hid hc
  clear hc
  go_enter Tryd.func25, Tryd.ntmps25
  repeat' (first | go_values | go_skip | go_guarded | (with_reducible (first | refine ex_then_ret ?_ | refine ex_then_exit ?_ | refine ex_then_normal ?_ | refine ex_block_ret ?_ | refine ex_block_normal ?_ | refine ex_block_same ?_ | refine ex_block_other (by decide) ?_)) | go_step | go_upon)
  go_loopw [8] (fun v wr => Seek ByteArray w ws (fun s => decide (64 < s.size)) v wr) (fun v _ => ws.length - (intOf v).toNat)
  case atStart => exact ⟨0, Nat.zero_le _, rfl, Below.refl _ _, by rw [List.drop_zero]⟩
  case round =>
    obtain ⟨k, hk, rfl, hb, hany⟩ := hrel
    have HB := Lib.hid hb
    have HA := Lib.hid hany
    clear hb hany
    by_cases hlt : k < ws.length
    · obtain hnil | ⟨b, off, rfl, hbl, hcell⟩ := HC.out
      · rw [hnil] at hlt; exact absurd hlt (Nat.not_lt_zero _)
      have hx := Lib.hid (getD_some (d := ByteArray.empty) hlt)
      have hn' : (ws.getD k ByteArray.empty).size ≤ 9223372036854775807 := hsz _ (List.mem_of_getElem? hx.out)
      have c0 := (HB.out.cell (p := ⟨b, off + k, none⟩) hbl).trans (hcell k hlt)
      generalize ws.getD k ByteArray.empty = r at c0 hx hn'
      clear hcell
      by_cases hp : 64 < r.size
      all_goals
        have HP := Lib.hid hp
        repeat' (first | go_values | go_skip | go_guarded | (with_reducible (first | refine ex_then_ret ?_ | refine ex_then_exit ?_ | refine ex_then_normal ?_ | refine ex_block_ret ?_ | refine ex_block_normal ?_ | refine ex_block_same ?_ | refine ex_block_other (by decide) ?_)) | go_step | go_upon)
        refine (long r _ hn').mono ?_
        rintro e w1 ⟨rfl, rfl⟩
        dsimp only
        repeat' (first | go_values | go_skip | go_guarded | (with_reducible (first | refine ex_then_ret ?_ | refine ex_then_exit ?_ | refine ex_then_normal ?_ | refine ex_block_ret ?_ | refine ex_block_normal ?_ | refine ex_block_same ?_ | refine ex_block_other (by decide) ?_)) | go_step | go_upon)
      · go_ret
        have hB := HB.out
        exact ⟨_, rfl, by rw [seek_hit hlt hx.out HA.out (by simpa using HP.out)]; simp, (by repeat (with_reducible (first | exact Below.refl _ _ | assumption | refine Below.to ?_ (by assumption) | refine below_drewN ?_ _ | refine Below.alloc ?_ (by first | (simp; done) | omega | (simp; omega) | (simp at *; omega)) _ | refine Below.setCell ?_ (by first | (simp; done) | omega | (simp; omega) | (simp at *; omega)) _ | refine Below.drew ?_)))⟩
      · have hB := HB.out
        exact ⟨⟨k + 1, by omega, by go_num, (by repeat (with_reducible (first | exact Below.refl _ _ | assumption | refine Below.to ?_ (by assumption) | refine below_drewN ?_ _ | refine Below.alloc ?_ (by first | (simp; done) | omega | (simp; omega) | (simp at *; omega)) _ | refine Below.setCell ?_ (by first | (simp; done) | omega | (simp; omega) | (simp at *; omega)) _ | refine Below.drew ?_))), seek_miss hlt hx.out HA.out (by simpa using HP.out)⟩, by simp [intOf]; omega⟩
    · repeat' (first | go_values | go_skip | go_guarded | (with_reducible (first | refine ex_then_ret ?_ | refine ex_then_exit ?_ | refine ex_then_normal ?_ | refine ex_block_ret ?_ | refine ex_block_normal ?_ | refine ex_block_same ?_ | refine ex_block_other (by decide) ?_)) | go_step | go_upon)
      go_ret
      have hB := HB.out
      exact ⟨_, rfl, by rw [seek_end hlt HA.out]; rfl, (by repeat (with_reducible (first | exact Below.refl _ _ | assumption | refine Below.to ?_ (by assumption) | refine below_drewN ?_ _ | refine Below.alloc ?_ (by first | (simp; done) | omega | (simp; omega) | (simp at *; omega)) _ | refine Below.setCell ?_ (by first | (simp; done) | omega | (simp; omega) | (simp at *; omega)) _ | refine Below.drew ?_)))⟩
theorem contS (v : Value) (ws : List ByteArray) (w : World) (h : StrsAt w v ws) :
    Calls Tryd.prog 15 #[v, .func (.func 16) #[] #[]] w (Gives (.bool (ws.any (fun s => decide (64 < s.size)))) w) := by
  go_enter Tryd.func15, Tryd.ntmps15
  repeat' (first | go_values | go_skip | go_guarded | (with_reducible (first | refine ex_then_ret ?_ | refine ex_then_exit ?_ | refine ex_then_normal ?_ | refine ex_block_ret ?_ | refine ex_block_normal ?_ | refine ex_block_same ?_ | refine ex_block_other (by decide) ?_)) | go_step | go_upon)
  refine (idxS v ws w h).mono ?_
  rintro e w1 ⟨r, rfl, hr, hb⟩
  have HR := Lib.hid hr
  clear hr
  dsimp only
  repeat' (first | go_values | go_skip | go_guarded | (with_reducible (first | refine ex_then_ret ?_ | refine ex_then_exit ?_ | refine ex_then_normal ?_ | refine ex_block_ret ?_ | refine ex_block_normal ?_ | refine ex_block_same ?_ | refine ex_block_other (by decide) ?_)) | go_step | go_upon)
  all_goals go_ret
  all_goals exact gives_bool HR.out (by repeat (with_reducible (first | exact Below.refl _ _ | assumption | refine Below.to ?_ (by assumption) | refine below_drewN ?_ _ | refine Below.alloc ?_ (by first | (simp; done) | omega | (simp; omega) | (simp at *; omega)) _ | refine Below.setCell ?_ (by first | (simp; done) | omega | (simp; omega) | (simp at *; omega)) _ | refine Below.drew ?_)))

end Load
end Go.Proofs.YtonhphdoieojfaaDoor
