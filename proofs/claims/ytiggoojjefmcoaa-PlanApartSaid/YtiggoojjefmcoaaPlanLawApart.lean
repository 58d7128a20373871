/- The law PlanApart, walked. Condition: frames are integers. -/
import Derived.Test.YtiggoojjefmcoaaPlanShown
import Derived.Test.YtiggoojjefmcoaaPlanBytes
import Derived.Test.YtiggoojjefmcoaaPlanEq
import Derived.Test.YtiggoojjefmcoaaPlanInj
import Derived.WalkKit
import Derived.WalkSpells
import Derived.WalkLawsBesides
import Derived.Lib.Hide
import Derived.BigQuiet
import Derived.Deep.QuietTactic

set_option linter.unusedVariables false
set_option linter.unusedSimpArgs false
namespace Go.Proofs.Ytiggoojjefmcoaa
open Go.RowKit
namespace LawApart
theorem toList_ne {a b : ByteArray} (h : ¬ a = b) : (a.toList == b.toList) = false := by
  rw [beq_eq_false_iff_ne]
  intro he
  rw [ByteArray.toList_eq, ByteArray.toList_eq] at he
  exact h (ByteArray.ext (Array.ext' he))
theorem bytes_same {P Q : Pl.Plan} (hp : Pl.check P = 0) (hq : Pl.check Q = 0) (h : Plan.sameB P Q = true) : Pl.bytesS P = Pl.bytesS Q := by
  simp only [Plan.sameB, Bool.and_eq_true, decide_eq_true_eq] at h
  rw [Pl.bytesS, Pl.bytesS, if_pos hp, if_pos hq, Pl.nums_same h.1 h.2.1 h.2.2.1 h.2.2.2]
theorem bytes_apart {P Q : Pl.Plan} (hp : Pl.check P = 0) (hq : Pl.check Q = 0) (h : Plan.sameB P Q = false) : ¬ Pl.bytesS P = Pl.bytesS Q := by
  intro he
  rw [Pl.bytesS, Pl.bytesS, if_pos hp, if_pos hq, ByteArray.mk.injEq] at he
  obtain ⟨h1, h2, h3, h4⟩ := Pl.nums_inj (Pl.enc_inj hp hq (by simpa using he))
  have : Plan.sameB P Q = true := by
    simp only [Plan.sameB, Bool.and_eq_true, decide_eq_true_eq]
    exact ⟨h1, h2, h3, h4⟩
  rw [this] at h
  cases h
set_option maxHeartbeats 4000000 in
set_option maxRecDepth 100000 in
theorem walk (u v : Value) (P Q : Pl.Plan) (w : World) (hu : PlanAt w u P) (hv : PlanAt w v Q) (hp : P.fr ≤ 9223372036854775807) (hq : Q.fr ≤ 9223372036854775807) :
    Calls Try.prog 6 #[u, v] w (Gives (.bool true) w) := by
  have HU := Lib.hid hu
  have HV := Lib.hid hv
  have HB1 := Lib.hid (fun W (hb : Below w.heap.size w W) => Plan.Bytes u P W (hu.below hb) hp)
  have HB2 := Lib.hid (fun W (hb : Below w.heap.size w W) => Plan.Bytes v Q W (hv.below hb) hq)
  have HS := Lib.hid (fun W (hb : Below w.heap.size w W) => Plan.Same u v P Q W (hu.below hb) (hv.below hb))
  obtain ⟨up, uw, uc, rfl, hup, huw, huc⟩ := hu
  obtain ⟨vp, vw, vc, rfl, hvp, hvw, hvc⟩ := hv
  clear hup huw huc hvp hvw hvc
  by_cases h1 : Pl.check P = 0
  · have H1 := Lib.hid h1
    by_cases h2 : Pl.check Q = 0
    · have H2 := Lib.hid h2
      by_cases hs : Plan.sameB P Q = true
      · have HP := Lib.hid (bytes_same h1 h2 hs)
        have HSS := Lib.hid hs
        clear h1 h2 hs
        go_enter Try.func6, Try.ntmps6
        repeat' (first
          | (go_at_call 7; refine (Plan.shown _).mono ?_; rintro e w1 ⟨rfl, hb1⟩; obtain ⟨hc1, hf1, hz1⟩ := bfacts hb1; try (simp at hz1); have y0 : w.heap.size < w1.heap.size := (by omega); have y1 : w.heap.size + 1 < w1.heap.size := (by omega); dsimp only)
          | (go_at_call 9; refine (HB1.out _ (by repeat (with_reducible (first | exact Below.refl _ _ | assumption | refine Below.to ?_ (by assumption) | refine below_drewN ?_ _ | refine Below.alloc ?_ (by first | (simp; done) | omega | (simp; omega) | (simp at *; omega)) _ | refine Below.setCell ?_ (by first | (simp; done) | omega | (simp; omega) | (simp at *; omega)) _ | refine Below.drew ?_)))).mono ?_; rintro e w2 ⟨rfl, hb2⟩; clear HB1; obtain ⟨hc2, hf2, hz2⟩ := bfacts hb2; have y2 : w.heap.size < w2.heap.size := (by omega); have y3 : w.heap.size + 1 < w2.heap.size := (by omega); rw [H1.out, HP.out]; dsimp only)
          | (go_at_call 9; refine (HB2.out _ (by repeat (with_reducible (first | exact Below.refl _ _ | assumption | refine Below.to ?_ (by assumption) | refine below_drewN ?_ _ | refine Below.alloc ?_ (by first | (simp; done) | omega | (simp; omega) | (simp at *; omega)) _ | refine Below.setCell ?_ (by first | (simp; done) | omega | (simp; omega) | (simp at *; omega)) _ | refine Below.drew ?_)))).mono ?_; rintro e w3 ⟨rfl, hb3⟩; obtain ⟨hc3, hf3, hz3⟩ := bfacts hb3; have y4 : w.heap.size < w3.heap.size := (by omega); have y5 : w.heap.size + 1 < w3.heap.size := (by omega); rw [H2.out]; dsimp only)
          | (go_at_call 10; refine (HS.out _ (by repeat (with_reducible (first | exact Below.refl _ _ | assumption | refine Below.to ?_ (by assumption) | refine below_drewN ?_ _ | refine Below.alloc ?_ (by first | (simp; done) | omega | (simp; omega) | (simp at *; omega)) _ | refine Below.setCell ?_ (by first | (simp; done) | omega | (simp; omega) | (simp at *; omega)) _ | refine Below.drew ?_)))).mono ?_; rintro e w4 ⟨rfl, hb4⟩; rw [HSS.out]; dsimp only)
          | go_values | go_skip | go_guarded | (with_reducible (first | refine ex_then_ret ?_ | refine ex_then_exit ?_ | refine ex_then_normal ?_ | refine ex_block_ret ?_ | refine ex_block_normal ?_ | refine ex_block_same ?_ | refine ex_block_other (by decide) ?_)) | go_step | go_upon | go_quiet (fail))
        all_goals go_ret
        all_goals exact gives_bool rfl (by repeat (with_reducible (first | exact Below.refl _ _ | assumption | refine Below.to ?_ (by assumption) | refine below_drewN ?_ _ | refine Below.alloc ?_ (by first | (simp; done) | omega | (simp; omega) | (simp at *; omega)) _ | refine Below.setCell ?_ (by first | (simp; done) | omega | (simp; omega) | (simp at *; omega)) _ | refine Below.drew ?_)))
      · have hs' : Plan.sameB P Q = false := by simpa using hs
        have hne := toList_ne (bytes_apart h1 h2 hs')
        have HSS := Lib.hid hs'
        clear h1 h2 hs hs'
        go_enter Try.func6, Try.ntmps6
        repeat' (first
          | (go_at_call 7; refine (Plan.shown _).mono ?_; rintro e w1 ⟨rfl, hb1⟩; obtain ⟨hc1, hf1, hz1⟩ := bfacts hb1; try (simp at hz1); have y0 : w.heap.size < w1.heap.size := (by omega); have y1 : w.heap.size + 1 < w1.heap.size := (by omega); dsimp only)
          | (go_at_call 9; refine (HB1.out _ (by repeat (with_reducible (first | exact Below.refl _ _ | assumption | refine Below.to ?_ (by assumption) | refine below_drewN ?_ _ | refine Below.alloc ?_ (by first | (simp; done) | omega | (simp; omega) | (simp at *; omega)) _ | refine Below.setCell ?_ (by first | (simp; done) | omega | (simp; omega) | (simp at *; omega)) _ | refine Below.drew ?_)))).mono ?_; rintro e w2 ⟨rfl, hb2⟩; clear HB1; obtain ⟨hc2, hf2, hz2⟩ := bfacts hb2; have y2 : w.heap.size < w2.heap.size := (by omega); have y3 : w.heap.size + 1 < w2.heap.size := (by omega); rw [H1.out]; dsimp only)
          | (go_at_call 9; refine (HB2.out _ (by repeat (with_reducible (first | exact Below.refl _ _ | assumption | refine Below.to ?_ (by assumption) | refine below_drewN ?_ _ | refine Below.alloc ?_ (by first | (simp; done) | omega | (simp; omega) | (simp at *; omega)) _ | refine Below.setCell ?_ (by first | (simp; done) | omega | (simp; omega) | (simp at *; omega)) _ | refine Below.drew ?_)))).mono ?_; rintro e w3 ⟨rfl, hb3⟩; obtain ⟨hc3, hf3, hz3⟩ := bfacts hb3; have y4 : w.heap.size < w3.heap.size := (by omega); have y5 : w.heap.size + 1 < w3.heap.size := (by omega); rw [H2.out]; dsimp only)
          | (go_at_call 10; refine (HS.out _ (by repeat (with_reducible (first | exact Below.refl _ _ | assumption | refine Below.to ?_ (by assumption) | refine below_drewN ?_ _ | refine Below.alloc ?_ (by first | (simp; done) | omega | (simp; omega) | (simp at *; omega)) _ | refine Below.setCell ?_ (by first | (simp; done) | omega | (simp; omega) | (simp at *; omega)) _ | refine Below.drew ?_)))).mono ?_; rintro e w4 ⟨rfl, hb4⟩; rw [HSS.out]; dsimp only)
          | go_values | go_skip | go_guarded | (with_reducible (first | refine ex_then_ret ?_ | refine ex_then_exit ?_ | refine ex_then_normal ?_ | refine ex_block_ret ?_ | refine ex_block_normal ?_ | refine ex_block_same ?_ | refine ex_block_other (by decide) ?_)) | go_step | go_upon | go_quiet (fail))
        all_goals go_ret
        all_goals exact gives_bool rfl (by repeat (with_reducible (first | exact Below.refl _ _ | assumption | refine Below.to ?_ (by assumption) | refine below_drewN ?_ _ | refine Below.alloc ?_ (by first | (simp; done) | omega | (simp; omega) | (simp at *; omega)) _ | refine Below.setCell ?_ (by first | (simp; done) | omega | (simp; omega) | (simp at *; omega)) _ | refine Below.drew ?_)))
    · have hne : ¬ Pl.check Q = 0 := h2
      clear h1
      go_enter Try.func6, Try.ntmps6
      repeat' (first
        | (go_at_call 7; refine (Plan.shown _).mono ?_; rintro e w1 ⟨rfl, hb1⟩; obtain ⟨hc1, hf1, hz1⟩ := bfacts hb1; try (simp at hz1); have y0 : w.heap.size < w1.heap.size := (by omega); have y1 : w.heap.size + 1 < w1.heap.size := (by omega); dsimp only)
        | (go_at_call 9; refine (HB1.out _ (by repeat (with_reducible (first | exact Below.refl _ _ | assumption | refine Below.to ?_ (by assumption) | refine below_drewN ?_ _ | refine Below.alloc ?_ (by first | (simp; done) | omega | (simp; omega) | (simp at *; omega)) _ | refine Below.setCell ?_ (by first | (simp; done) | omega | (simp; omega) | (simp at *; omega)) _ | refine Below.drew ?_)))).mono ?_; rintro e w2 ⟨rfl, hb2⟩; clear HB1; obtain ⟨hc2, hf2, hz2⟩ := bfacts hb2; have y2 : w.heap.size < w2.heap.size := (by omega); have y3 : w.heap.size + 1 < w2.heap.size := (by omega); rw [H1.out]; dsimp only)
        | (go_at_call 9; refine (HB2.out _ (by repeat (with_reducible (first | exact Below.refl _ _ | assumption | refine Below.to ?_ (by assumption) | refine below_drewN ?_ _ | refine Below.alloc ?_ (by first | (simp; done) | omega | (simp; omega) | (simp at *; omega)) _ | refine Below.setCell ?_ (by first | (simp; done) | omega | (simp; omega) | (simp at *; omega)) _ | refine Below.drew ?_)))).mono ?_; rintro e w3 ⟨rfl, hb3⟩; obtain ⟨hc3, hf3, hz3⟩ := bfacts hb3; have y4 : w.heap.size < w3.heap.size := (by omega); have y5 : w.heap.size + 1 < w3.heap.size := (by omega); dsimp only)
        | go_values | go_skip | go_guarded | (with_reducible (first | refine ex_then_ret ?_ | refine ex_then_exit ?_ | refine ex_then_normal ?_ | refine ex_block_ret ?_ | refine ex_block_normal ?_ | refine ex_block_same ?_ | refine ex_block_other (by decide) ?_)) | go_step | go_upon | go_quiet (fail))
      all_goals go_ret
      all_goals exact gives_bool rfl (by repeat (with_reducible (first | exact Below.refl _ _ | assumption | refine Below.to ?_ (by assumption) | refine below_drewN ?_ _ | refine Below.alloc ?_ (by first | (simp; done) | omega | (simp; omega) | (simp at *; omega)) _ | refine Below.setCell ?_ (by first | (simp; done) | omega | (simp; omega) | (simp at *; omega)) _ | refine Below.drew ?_)))
  · have hne : ¬ Pl.check P = 0 := h1
    go_enter Try.func6, Try.ntmps6
    repeat' (first
      | (go_at_call 7; refine (Plan.shown _).mono ?_; rintro e w1 ⟨rfl, hb1⟩; obtain ⟨hc1, hf1, hz1⟩ := bfacts hb1; try (simp at hz1); have y0 : w.heap.size < w1.heap.size := (by omega); have y1 : w.heap.size + 1 < w1.heap.size := (by omega); dsimp only)
      | (go_at_call 9; refine (HB1.out _ (by repeat (with_reducible (first | exact Below.refl _ _ | assumption | refine Below.to ?_ (by assumption) | refine below_drewN ?_ _ | refine Below.alloc ?_ (by first | (simp; done) | omega | (simp; omega) | (simp at *; omega)) _ | refine Below.setCell ?_ (by first | (simp; done) | omega | (simp; omega) | (simp at *; omega)) _ | refine Below.drew ?_)))).mono ?_; rintro e w2 ⟨rfl, hb2⟩; clear HB1; obtain ⟨hc2, hf2, hz2⟩ := bfacts hb2; have y2 : w.heap.size < w2.heap.size := (by omega); have y3 : w.heap.size + 1 < w2.heap.size := (by omega); dsimp only)
      | (go_at_call 9; refine (HB2.out _ (by repeat (with_reducible (first | exact Below.refl _ _ | assumption | refine Below.to ?_ (by assumption) | refine below_drewN ?_ _ | refine Below.alloc ?_ (by first | (simp; done) | omega | (simp; omega) | (simp at *; omega)) _ | refine Below.setCell ?_ (by first | (simp; done) | omega | (simp; omega) | (simp at *; omega)) _ | refine Below.drew ?_)))).mono ?_; rintro e w3 ⟨rfl, hb3⟩; obtain ⟨hc3, hf3, hz3⟩ := bfacts hb3; have y4 : w.heap.size < w3.heap.size := (by omega); have y5 : w.heap.size + 1 < w3.heap.size := (by omega); dsimp only)
      | go_values | go_skip | go_guarded | (with_reducible (first | refine ex_then_ret ?_ | refine ex_then_exit ?_ | refine ex_then_normal ?_ | refine ex_block_ret ?_ | refine ex_block_normal ?_ | refine ex_block_same ?_ | refine ex_block_other (by decide) ?_)) | go_step | go_upon | go_quiet (fail))
    all_goals go_ret
    all_goals exact gives_bool rfl (by repeat (with_reducible (first | exact Below.refl _ _ | assumption | refine Below.to ?_ (by assumption) | refine below_drewN ?_ _ | refine Below.alloc ?_ (by first | (simp; done) | omega | (simp; omega) | (simp at *; omega)) _ | refine Below.setCell ?_ (by first | (simp; done) | omega | (simp; omega) | (simp at *; omega)) _ | refine Below.drew ?_)))
end LawApart
end Go.Proofs.Ytiggoojjefmcoaa
