/- The law PlanBack, walked. Conditions: frames are integers; bytes are as many as a string can have; errors.errorType is the handle of 'error'. -/
import Derived.Test.YtiggoojjefmcoaaDoorPlanShown
import Derived.Test.YtiggoojjefmcoaaDoorPlanBackPlain
import Derived.Test.YtiggoojjefmcoaaDoorPlanTake
import Derived.Test.YtiggoojjefmcoaaDoorPlanOpen
import Derived.WalkKit
import Derived.WalkSpells
import Derived.WalkLawsBesides
import Derived.Lib.Hide
import Derived.BigQuiet
import Derived.Deep.QuietTactic

set_option linter.unusedVariables false
set_option linter.unusedSimpArgs false
namespace Go.Proofs.YtiggoojjefmcoaaDoor
open Go.RowKit
namespace LawBack
abbrev zero : Pl.Plan := ⟨[], 0, [], []⟩
theorem at_zero (W : World) : PlanAt W (.agg #[.slice none 0 0, .int .i64 0, .slice none 0 0, .slice none 0 0]) zero :=
  ⟨_, _, _, rfl, ⟨none, 0, rfl, by decide, .inl rfl⟩, ⟨none, 0, rfl, by decide, .inl rfl⟩, ⟨none, 0, rfl, by decide, .inl rfl⟩⟩
theorem toList_beq (s : ByteArray) : (s.toList == s.toList) = true := by simp
theorem bytes_took {v : Value} {Q : Pl.Plan} {s : ByteArray} {W : World} (h : PlanAt W v Q) (hq : Pl.take s.data.toList = .ok Q) :
    Calls Tryd.prog 7 #[v] W (Gives (.tuple #[.string s, .int .i64 0]) W) := by
  obtain ⟨h1, h2, h3⟩ := Pl.take_back hq
  have := Plan.Bytes v Q W h h3
  rw [h1, h2] at this
  exact this
set_option maxHeartbeats 4000000 in
set_option maxRecDepth 100000 in
theorem walk (u : Value) (P : Pl.Plan) (s : ByteArray) (w : World) (hu : PlanAt w u P) (hp : P.fr ≤ 9223372036854775807) (hs : s.size ≤ 140737488355328) (hh : w.cell? ⟨0, 0, none⟩ = some (.iface 126 (.agg #[Err.hE]))) :
    Calls Tryd.prog 5 #[u, .string s] w (Gives (.bool true) w) := by
  have HU := Lib.hid hu
  have HB1 := Lib.hid (fun W (hb : Below w.heap.size w W) => Plan.Bytes u P W (hu.below hb) hp)
  have HC := Lib.hid (fun W (hb : Below w.heap.size w W) => Plan.Check u P W (hu.below hb) hp)
  have HT1 := Lib.hid (fun W (hb : Below w.heap.size w W) => Tk.Take (Pl.bytesS P) W (Nat.le_trans (Pl.bytesS_size P) (by omega)) ((hb.cell (p := ⟨0, 0, none⟩) (cell_lt hh)).trans hh))
  have HT2 := Lib.hid (fun W (hb : Below w.heap.size w W) => Tk.Take s W hs ((hb.cell (p := ⟨0, 0, none⟩) (cell_lt hh)).trans hh))
  have HS := Lib.hid (fun v W (hb : Below w.heap.size w W) (hv : PlanAt W v (Pl.norm P)) => Plan.Same u v P (Pl.norm P) W (hu.below hb) hv)
  obtain ⟨up, uw, uc, rfl, hup, huw, huc⟩ := hu
  clear hup huw huc hh
  by_cases h1 : Pl.check P = 0
  · have H1 := Lib.hid h1
    clear h1
    go_enter Tryd.func5, Tryd.ntmps5
    repeat' (first
      | (go_at_call 6; refine (Plan.shown _).mono ?_; rintro e w1 ⟨rfl, hb1⟩; obtain ⟨hc1, hf1, hz1⟩ := bfacts hb1; try (simp at hz1); have y0 : w.heap.size < w1.heap.size := (by omega); dsimp only)
      | (go_at_call 7; refine (HB1.out _ (by repeat (with_reducible (first | exact Below.refl _ _ | assumption | refine Below.to ?_ (by assumption) | refine below_drewN ?_ _ | refine Below.alloc ?_ (by first | (simp; done) | omega | (simp; omega) | (simp at *; omega)) _ | refine Below.setCell ?_ (by first | (simp; done) | omega | (simp; omega) | (simp at *; omega)) _ | refine Below.drew ?_)))).mono ?_; rintro e w2 ⟨rfl, hb2⟩; clear HB1; obtain ⟨hc2, hf2, hz2⟩ := bfacts hb2; have y2 : w.heap.size < w2.heap.size := (by omega); rw [H1.out]; dsimp only)
      | (go_at_call 12; refine (HC.out _ (by repeat (with_reducible (first | exact Below.refl _ _ | assumption | refine Below.to ?_ (by assumption) | refine below_drewN ?_ _ | refine Below.alloc ?_ (by first | (simp; done) | omega | (simp; omega) | (simp at *; omega)) _ | refine Below.setCell ?_ (by first | (simp; done) | omega | (simp; omega) | (simp at *; omega)) _ | refine Below.drew ?_)))).mono ?_; rintro e w3 ⟨rfl, hb3⟩; clear HC; obtain ⟨hc3, hf3, hz3⟩ := bfacts hb3; have y3 : w.heap.size < w3.heap.size := (by omega); rw [H1.out]; dsimp only)
      | go_values | go_skip | go_guarded | (with_reducible (first | refine ex_then_ret ?_ | refine ex_then_exit ?_ | refine ex_then_normal ?_ | refine ex_block_ret ?_ | refine ex_block_normal ?_ | refine ex_block_same ?_ | refine ex_block_other (by decide) ?_)) | go_step | go_upon | go_quiet (fail))
    refine (HT1.out _ (by repeat (with_reducible (first | exact Below.refl _ _ | assumption | refine Below.to ?_ (by assumption) | refine below_drewN ?_ _ | refine Below.alloc ?_ (by first | (simp; done) | omega | (simp; omega) | (simp at *; omega)) _ | refine Below.setCell ?_ (by first | (simp; done) | omega | (simp; omega) | (simp at *; omega)) _ | refine Below.drew ?_)))).mono ?_
    rintro ev w4 ⟨v4, c4, rfl, hb4, hor⟩
    obtain ⟨rfl, Q, hq, hat⟩ := hor.resolve_right (fun ⟨_, _, hq⟩ => Pl.err_no hq (Pl.take_bytes H1.out))
    clear hor
    obtain rfl := Pl.ok_of hq (Pl.take_bytes H1.out)
    clear hq
    have HAT := Lib.hid hat
    obtain ⟨_, _, _, rfl, ⟨qa0, qc0, rfl, _⟩, ⟨qa1, qc1, rfl, _⟩, ⟨qa2, qc2, rfl, _⟩⟩ := hat
    obtain ⟨hc4, hf4, hz4⟩ := bfacts hb4
    try (simp at hz4)
    have y4 : w.heap.size < w4.heap.size := by omega
    dsimp only
    repeat' (first | go_values | go_skip | go_guarded | (with_reducible (first | refine ex_then_ret ?_ | refine ex_then_exit ?_ | refine ex_then_normal ?_ | refine ex_block_ret ?_ | refine ex_block_normal ?_ | refine ex_block_same ?_ | refine ex_block_other (by decide) ?_)) | go_step | go_upon | go_quiet (fail))
    refine (HS.out _ _ (by repeat (with_reducible (first | exact Below.refl _ _ | assumption | refine Below.to ?_ (by assumption) | refine below_drewN ?_ _ | refine Below.alloc ?_ (by first | (simp; done) | omega | (simp; omega) | (simp at *; omega)) _ | refine Below.setCell ?_ (by first | (simp; done) | omega | (simp; omega) | (simp at *; omega)) _ | refine Below.drew ?_))) (HAT.out.below ((Below.refl _ _).alloc (Nat.le_refl _) _))).mono ?_
    rintro ev w5 ⟨rfl, hb5⟩
    clear HAT
    obtain ⟨hc5, hf5, hz5⟩ := bfacts hb5
    try (simp at hz5)
    have y5 : w.heap.size < w5.heap.size := by omega
    rw [Pl.same_norm]
    dsimp only
    repeat' (first | go_values | go_skip | go_guarded | (with_reducible (first | refine ex_then_ret ?_ | refine ex_then_exit ?_ | refine ex_then_normal ?_ | refine ex_block_ret ?_ | refine ex_block_normal ?_ | refine ex_block_same ?_ | refine ex_block_other (by decide) ?_)) | go_step | go_upon | go_quiet (fail))
    refine (HT2.out _ (by repeat (with_reducible (first | exact Below.refl _ _ | assumption | refine Below.to ?_ (by assumption) | refine below_drewN ?_ _ | refine Below.alloc ?_ (by first | (simp; done) | omega | (simp; omega) | (simp at *; omega)) _ | refine Below.setCell ?_ (by first | (simp; done) | omega | (simp; omega) | (simp at *; omega)) _ | refine Below.drew ?_)))).mono ?_
    rintro ev w6 ⟨v6, c6, rfl, hb6, hor⟩
    obtain ⟨hc6, hf6, hz6⟩ := bfacts hb6
    try (simp at hz6)
    have y6 : w.heap.size < w6.heap.size := by omega
    rcases hor with ⟨rfl, Q, hq, hat⟩ | ⟨hc6n, rfl, _⟩
    · have HAT := Lib.hid hat
      have HQ := Lib.hid hq
      clear hq
      obtain ⟨_, _, _, rfl, ⟨ra0, rc0, rfl, _⟩, ⟨ra1, rc1, rfl, _⟩, ⟨ra2, rc2, rfl, _⟩⟩ := hat
      dsimp only
      repeat' (first | go_values | go_skip | go_guarded | (with_reducible (first | refine ex_then_ret ?_ | refine ex_then_exit ?_ | refine ex_then_normal ?_ | refine ex_block_ret ?_ | refine ex_block_normal ?_ | refine ex_block_same ?_ | refine ex_block_other (by decide) ?_)) | go_step | go_upon | go_quiet (fail))
      refine (bytes_took (HAT.out.below ((Below.refl _ _).alloc (Nat.le_refl _) _)) HQ.out).mono ?_
      rintro ev w7 ⟨rfl, hb7⟩
      have hbeq := toList_beq s
      dsimp only
      repeat' (first | go_values | go_skip | go_guarded | (with_reducible (first | refine ex_then_ret ?_ | refine ex_then_exit ?_ | refine ex_then_normal ?_ | refine ex_block_ret ?_ | refine ex_block_normal ?_ | refine ex_block_same ?_ | refine ex_block_other (by decide) ?_)) | go_step | go_upon | go_quiet (fail))
      all_goals go_ret
      all_goals exact gives_bool rfl (by repeat (with_reducible (first | exact Below.refl _ _ | assumption | refine Below.to ?_ (by assumption) | refine below_drewN ?_ _ | refine Below.alloc ?_ (by first | (simp; done) | omega | (simp; omega) | (simp at *; omega)) _ | refine Below.setCell ?_ (by first | (simp; done) | omega | (simp; omega) | (simp at *; omega)) _ | refine Below.drew ?_)))
    · dsimp only
      repeat' (first | go_values | go_skip | go_guarded | (with_reducible (first | refine ex_then_ret ?_ | refine ex_then_exit ?_ | refine ex_then_normal ?_ | refine ex_block_ret ?_ | refine ex_block_normal ?_ | refine ex_block_same ?_ | refine ex_block_other (by decide) ?_)) | go_step | go_upon | go_quiet (fail))
      refine (Plan.Bytes _ zero _ (at_zero _) (by decide)).mono ?_
      rintro ev w7 ⟨rfl, hb7⟩
      dsimp only
      repeat' (first | go_values | go_skip | go_guarded | (with_reducible (first | refine ex_then_ret ?_ | refine ex_then_exit ?_ | refine ex_then_normal ?_ | refine ex_block_ret ?_ | refine ex_block_normal ?_ | refine ex_block_same ?_ | refine ex_block_other (by decide) ?_)) | go_step | go_upon | go_quiet (fail))
      all_goals go_ret
      all_goals exact gives_bool rfl (by repeat (with_reducible (first | exact Below.refl _ _ | assumption | refine Below.to ?_ (by assumption) | refine below_drewN ?_ _ | refine Below.alloc ?_ (by first | (simp; done) | omega | (simp; omega) | (simp at *; omega)) _ | refine Below.setCell ?_ (by first | (simp; done) | omega | (simp; omega) | (simp at *; omega)) _ | refine Below.drew ?_)))
  · have hne : ¬ Pl.check P = 0 := h1
    have hself : (Pl.check P == Pl.check P) = true := by simp
    go_enter Tryd.func5, Tryd.ntmps5
    repeat' (first
      | (go_at_call 6; refine (Plan.shown _).mono ?_; rintro e w1 ⟨rfl, hb1⟩; obtain ⟨hc1, hf1, hz1⟩ := bfacts hb1; try (simp at hz1); have y0 : w.heap.size < w1.heap.size := (by omega); dsimp only)
      | (go_at_call 7; refine (HB1.out _ (by repeat (with_reducible (first | exact Below.refl _ _ | assumption | refine Below.to ?_ (by assumption) | refine below_drewN ?_ _ | refine Below.alloc ?_ (by first | (simp; done) | omega | (simp; omega) | (simp at *; omega)) _ | refine Below.setCell ?_ (by first | (simp; done) | omega | (simp; omega) | (simp at *; omega)) _ | refine Below.drew ?_)))).mono ?_; rintro e w2 ⟨rfl, hb2⟩; clear HB1; obtain ⟨hc2, hf2, hz2⟩ := bfacts hb2; have y2 : w.heap.size < w2.heap.size := (by omega); dsimp only)
      | (go_at_call 12; refine (HC.out _ (by repeat (with_reducible (first | exact Below.refl _ _ | assumption | refine Below.to ?_ (by assumption) | refine below_drewN ?_ _ | refine Below.alloc ?_ (by first | (simp; done) | omega | (simp; omega) | (simp at *; omega)) _ | refine Below.setCell ?_ (by first | (simp; done) | omega | (simp; omega) | (simp at *; omega)) _ | refine Below.drew ?_)))).mono ?_; rintro e w3 ⟨rfl, hb3⟩; clear HC; obtain ⟨hc3, hf3, hz3⟩ := bfacts hb3; have y3 : w.heap.size < w3.heap.size := (by omega); dsimp only)
      | go_values | go_skip | go_guarded | (with_reducible (first | refine ex_then_ret ?_ | refine ex_then_exit ?_ | refine ex_then_normal ?_ | refine ex_block_ret ?_ | refine ex_block_normal ?_ | refine ex_block_same ?_ | refine ex_block_other (by decide) ?_)) | go_step | go_upon | go_quiet (fail))
    refine (HT2.out _ (by repeat (with_reducible (first | exact Below.refl _ _ | assumption | refine Below.to ?_ (by assumption) | refine below_drewN ?_ _ | refine Below.alloc ?_ (by first | (simp; done) | omega | (simp; omega) | (simp at *; omega)) _ | refine Below.setCell ?_ (by first | (simp; done) | omega | (simp; omega) | (simp at *; omega)) _ | refine Below.drew ?_)))).mono ?_
    rintro ev w6 ⟨v6, c6, rfl, hb6, hor⟩
    obtain ⟨hc6, hf6, hz6⟩ := bfacts hb6
    try (simp at hz6)
    have y6 : w.heap.size < w6.heap.size := by omega
    rcases hor with ⟨rfl, Q, hq, hat⟩ | ⟨hc6n, rfl, _⟩
    · have HAT := Lib.hid hat
      have HQ := Lib.hid hq
      clear hq
      obtain ⟨_, _, _, rfl, ⟨ra0, rc0, rfl, _⟩, ⟨ra1, rc1, rfl, _⟩, ⟨ra2, rc2, rfl, _⟩⟩ := hat
      dsimp only
      repeat' (first | go_values | go_skip | go_guarded | (with_reducible (first | refine ex_then_ret ?_ | refine ex_then_exit ?_ | refine ex_then_normal ?_ | refine ex_block_ret ?_ | refine ex_block_normal ?_ | refine ex_block_same ?_ | refine ex_block_other (by decide) ?_)) | go_step | go_upon | go_quiet (fail))
      refine (bytes_took (HAT.out.below ((Below.refl _ _).alloc (Nat.le_refl _) _)) HQ.out).mono ?_
      rintro ev w7 ⟨rfl, hb7⟩
      have hbeq := toList_beq s
      dsimp only
      repeat' (first | go_values | go_skip | go_guarded | (with_reducible (first | refine ex_then_ret ?_ | refine ex_then_exit ?_ | refine ex_then_normal ?_ | refine ex_block_ret ?_ | refine ex_block_normal ?_ | refine ex_block_same ?_ | refine ex_block_other (by decide) ?_)) | go_step | go_upon | go_quiet (fail))
      all_goals go_ret
      all_goals exact gives_bool rfl (by repeat (with_reducible (first | exact Below.refl _ _ | assumption | refine Below.to ?_ (by assumption) | refine below_drewN ?_ _ | refine Below.alloc ?_ (by first | (simp; done) | omega | (simp; omega) | (simp at *; omega)) _ | refine Below.setCell ?_ (by first | (simp; done) | omega | (simp; omega) | (simp at *; omega)) _ | refine Below.drew ?_)))
    · dsimp only
      repeat' (first | go_values | go_skip | go_guarded | (with_reducible (first | refine ex_then_ret ?_ | refine ex_then_exit ?_ | refine ex_then_normal ?_ | refine ex_block_ret ?_ | refine ex_block_normal ?_ | refine ex_block_same ?_ | refine ex_block_other (by decide) ?_)) | go_step | go_upon | go_quiet (fail))
      refine (Plan.Bytes _ zero _ (at_zero _) (by decide)).mono ?_
      rintro ev w7 ⟨rfl, hb7⟩
      dsimp only
      repeat' (first | go_values | go_skip | go_guarded | (with_reducible (first | refine ex_then_ret ?_ | refine ex_then_exit ?_ | refine ex_then_normal ?_ | refine ex_block_ret ?_ | refine ex_block_normal ?_ | refine ex_block_same ?_ | refine ex_block_other (by decide) ?_)) | go_step | go_upon | go_quiet (fail))
      all_goals go_ret
      all_goals exact gives_bool rfl (by repeat (with_reducible (first | exact Below.refl _ _ | assumption | refine Below.to ?_ (by assumption) | refine below_drewN ?_ _ | refine Below.alloc ?_ (by first | (simp; done) | omega | (simp; omega) | (simp at *; omega)) _ | refine Below.setCell ?_ (by first | (simp; done) | omega | (simp; omega) | (simp at *; omega)) _ | refine Below.drew ?_)))
end LawBack
end Go.Proofs.YtiggoojjefmcoaaDoor
