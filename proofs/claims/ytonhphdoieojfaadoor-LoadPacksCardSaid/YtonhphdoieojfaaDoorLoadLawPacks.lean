/- The law LoadPacks, walked. Conditions: errors.errorType is the handle of 'error'; bytes are as many as a string can have. -/
import Derived.Test.YtonhphdoieojfaaDoorLoadRefPack
import Derived.Test.YtonhphdoieojfaaDoorLoadRefUnpack
import Derived.Test.YtonhphdoieojfaaDoorLoadRefSame
import Derived.Test.YtonhphdoieojfaaDoorLoadWalkC
import Derived.Test.YtonhphdoieojfaaDoorLoadUnpack
import Derived.Test.YtonhphdoieojfaaDoorLoadShown
import Derived.WalkKit
import Derived.WalkSpells
import Derived.WalkLawsBesides
import Derived.Lib.Hide
import Derived.BigQuiet
import Derived.Deep.QuietTactic

set_option linter.unusedVariables false
set_option linter.unusedSimpArgs false
namespace Go.Proofs.YtonhphdoieojfaaDoor
open Go.RowKit
namespace LawPacks
theorem nil_imgs (W : World) : ImgsAt W (.slice none 0 0) [] := ⟨none, 0, rfl, by simp, .inl rfl⟩
/-- both answers are the same -/
theorem agree {w w1 w' w1' : World} {s : ByteArray} {lv lv' : Value} {e e' : Int}
    (h : (∃ c : Nat, Ld.unpack s.data.toList = .error c ∧ e = c ∧ lv = .slice none 0 0) ∨ ∃ l, Ld.unpack s.data.toList = .ok (Ld.of l) ∧ e = 0 ∧ ImgsAt w1 lv l)
    (h' : (∃ c : Nat, Ld.unpack s.data.toList = .error c ∧ e' = c ∧ lv' = .slice none 0 0) ∨ ∃ l, Ld.unpack s.data.toList = .ok (Ld.of l) ∧ e' = 0 ∧ ImgsAt w1' lv' l) : e = e' ∧ ∃ l, ImgsAt w1 lv l ∧ ImgsAt w1' lv' l := by
  rcases h with ⟨c, hu, rfl, rfl⟩ | ⟨l, hu, rfl, hI⟩
  · rcases h' with ⟨c', hu', rfl, rfl⟩ | ⟨l', hu', rfl, hI'⟩
    · rw [hu] at hu'
      injection hu' with hu'
      exact ⟨by rw [hu'], [], nil_imgs _, nil_imgs _⟩
    · rw [hu] at hu'
      cases hu'
  · rcases h' with ⟨c', hu', rfl, rfl⟩ | ⟨l', hu', rfl, hI'⟩
    · rw [hu] at hu'
      cases hu'
    · rw [hu] at hu'
      injection hu' with hu'
      obtain rfl := Ld.of_inj hu'
      exact ⟨rfl, l, hI, hI'⟩
set_option maxHeartbeats 4000000 in
set_option maxRecDepth 100000 in
theorem walk (v u : Value) (l m : List (List ByteArray)) (s : ByteArray) (w : World) (h : ImgsAt w v l) (hm : ImgsAt w u m) (hs : s.size ≤ 140737488355328) (hh : Unp.Handle w) : Calls Tryd.prog 6 #[v, .string s, u] w (Gives (.bool true) w) := by
  have HH := Lib.hid hh
  have HP := Lib.hid (fun W (hb : Below w.heap.size w W) => Load.Pack v l W (h.below hb))
  have HPR := Lib.hid (fun W (hb : Below w.heap.size w W) => Rf.Pack v l W (h.below hb))
  have HS := Lib.hid (fun W (hb : Below w.heap.size w W) => Load.Same v u l m W (h.below hb) (hm.below hb))
  have HSR := Lib.hid (fun W (hb : Below w.heap.size w W) => Load.refSame v u l m W (h.below hb) (hm.below hb))
  obtain ⟨a, c, rfl, _⟩ := h
  obtain ⟨a', c', rfl, _⟩ := hm
  clear hh
  go_enter Tryd.func6, Tryd.ntmps6
  repeat' (first | (go_at_call 7; refine (Load.shown _).mono ?_; rintro e w1 ⟨rfl, hb1⟩; dsimp only) | go_values | go_skip | go_guarded | (with_reducible (first | refine ex_then_ret ?_ | refine ex_then_exit ?_ | refine ex_then_normal ?_ | refine ex_block_ret ?_ | refine ex_block_normal ?_ | refine ex_block_same ?_ | refine ex_block_other (by decide) ?_)) | go_step | go_upon)
  refine (HP.out _ hb1).mono ?_
  rintro ev w2 ⟨rfl, hb2⟩
  have hB2 := Below.to hb1 hb2
  clear hb1 hb2 HP
  dsimp only
  repeat' (first | go_values | go_skip | go_guarded | (with_reducible (first | refine ex_then_ret ?_ | refine ex_then_exit ?_ | refine ex_then_normal ?_ | refine ex_block_ret ?_ | refine ex_block_normal ?_ | refine ex_block_same ?_ | refine ex_block_other (by decide) ?_)) | go_step | go_upon)
  refine (HPR.out _ hB2).mono ?_
  rintro ev w3 ⟨rfl, hb3⟩
  have hB3 := Below.to hB2 hb3
  clear hB2 hb3 HPR
  generalize Ld.packS l = ps
  generalize Ld.packE l = pe
  dsimp only
  repeat' (first | go_values | go_skip | go_guarded | (with_reducible (first | refine ex_then_ret ?_ | refine ex_then_exit ?_ | refine ex_then_normal ?_ | refine ex_block_ret ?_ | refine ex_block_normal ?_ | refine ex_block_same ?_ | refine ex_block_other (by decide) ?_)) | go_step | go_upon)
  refine (Unp.Unpack s _ hs (HH.out.below hB3)).mono ?_
  rintro ev w4 ⟨lv, e, rfl, hb4, hor⟩
  have hB4 := Below.to hB3 hb4
  clear hB3 hb4
  dsimp only
  repeat' (first | go_values | go_skip | go_guarded | (with_reducible (first | refine ex_then_ret ?_ | refine ex_then_exit ?_ | refine ex_then_normal ?_ | refine ex_block_ret ?_ | refine ex_block_normal ?_ | refine ex_block_same ?_ | refine ex_block_other (by decide) ?_)) | go_step | go_upon)
  refine (Rf.Unpack s _ hs).mono ?_
  rintro ev w5 ⟨lv', e', rfl, hb5, hor'⟩
  obtain ⟨rfl, q, hq1, hq2⟩ := agree (w := w) (w' := w) hor hor'
  have hB5 := Below.to hB4 hb5
  have HQ1 := Lib.hid (hq1.below hb5)
  have HQ2 := Lib.hid hq2
  obtain ⟨a5, c5, rfl, _⟩ := hq1
  obtain ⟨a6, c6, rfl, _⟩ := hq2
  clear hor hor' hB4 hb5
  have HD := Lib.hid (show decide (q = q) = true by simp)
  dsimp only
  repeat' (first | (go_at_call 10; refine (Load.refSame _ _ q q _ HQ1.out HQ2.out).mono ?_; rintro ev w6 ⟨rfl, hb6⟩; rw [HD.out]; clear HQ1 HQ2; have hB6 := Below.to hB5 hb6; clear hB5 hb6; dsimp only) | go_values | go_skip | go_guarded | (with_reducible (first | refine ex_then_ret ?_ | refine ex_then_exit ?_ | refine ex_then_normal ?_ | refine ex_block_ret ?_ | refine ex_block_normal ?_ | refine ex_block_same ?_ | refine ex_block_other (by decide) ?_)) | go_step | go_upon | go_quiet (fail))
  refine (HS.out _ hB6).mono ?_
  rintro ev w7 ⟨rfl, hb7⟩
  have hB7 := Below.to hB6 hb7
  clear hB6 hb7 HS
  generalize decide (l = m) = dd at *
  dsimp only
  repeat' (first | go_values | go_skip | go_guarded | (with_reducible (first | refine ex_then_ret ?_ | refine ex_then_exit ?_ | refine ex_then_normal ?_ | refine ex_block_ret ?_ | refine ex_block_normal ?_ | refine ex_block_same ?_ | refine ex_block_other (by decide) ?_)) | go_step | go_upon | go_quiet (fail))
  refine (HSR.out _ hB7).mono ?_
  rintro ev w8 ⟨rfl, hb8⟩
  have hB8 := Below.to hB7 hb8
  clear hB7 hb8 HSR
  dsimp only
  repeat' (first | go_values | go_skip | go_guarded | (with_reducible (first | refine ex_then_ret ?_ | refine ex_then_exit ?_ | refine ex_then_normal ?_ | refine ex_block_ret ?_ | refine ex_block_normal ?_ | refine ex_block_same ?_ | refine ex_block_other (by decide) ?_)) | go_step | go_upon | go_quiet (fail))
  all_goals go_ret
  all_goals exact gives_bool (by first | rfl | simp) hB8
end LawPacks
end Go.Proofs.YtonhphdoieojfaaDoor
