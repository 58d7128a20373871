/- The law PlanCut, walked. Conditions: frames are integers; errors.errorType is the handle of 'error'. -/
import Derived.Test.YtiggoojjefmcoaaDoorPlanShown
import Derived.Test.YtiggoojjefmcoaaDoorPlanBackPlain
import Derived.Test.YtiggoojjefmcoaaDoorPlanTake
import Derived.Test.YtiggoojjefmcoaaDoorPlanOpen
import Derived.WalkKit
import Derived.WalkSpells
import Derived.WalkLawsBesides
import Derived.Lib.Hide
import Derived.BigQuiet
import Derived.Deep.QuietTactic

set_option linter.unusedVariables false
set_option linter.unusedSimpArgs false
namespace Go.Proofs.YtiggoojjefmcoaaDoor
open Go.RowKit
namespace LawCut
set_option maxHeartbeats 4000000 in
set_option maxRecDepth 100000 in
theorem walk (u : Value) (P : Pl.Plan) (n : Int) (w : World) (hu : PlanAt w u P) (hp : P.fr ≤ 9223372036854775807) (hn : (Lit.int .i64 n).wf = true) (hh : w.cell? ⟨0, 0, none⟩ = some (.iface 126 (.agg #[Err.hE]))) :
    Calls Tryd.prog 3 #[u, .int .i64 n] w (Gives (.bool true) w) := by
  have HU := Lib.hid hu
  have HB1 := Lib.hid (fun W (hb : Below w.heap.size w W) => Plan.Bytes u P W (hu.below hb) hp)
  have HT := Lib.hid (fun (s : ByteArray) W (hs : s.size ≤ 140737488355328) (hb : Below w.heap.size w W) => Tk.Take s W hs ((hb.cell (p := ⟨0, 0, none⟩) (cell_lt hh)).trans hh))
  obtain ⟨up, uw, uc, rfl, hup, huw, huc⟩ := hu
  clear hup huw huc hh
  by_cases h1 : Pl.check P = 0
  · have H1 := Lib.hid h1
    by_cases hlo : n < 0
    · clear h1
      go_enter Tryd.func3, Tryd.ntmps3
      repeat' (first
        | (go_at_call 6; refine (Plan.shown _).mono ?_; rintro e w1 ⟨rfl, hb1⟩; obtain ⟨hc1, hf1, hz1⟩ := bfacts hb1; try (simp at hz1); have y0 : w.heap.size < w1.heap.size := (by omega); dsimp only)
        | (go_at_call 7; refine (HB1.out _ (by repeat (with_reducible (first | exact Below.refl _ _ | assumption | refine Below.to ?_ (by assumption) | refine below_drewN ?_ _ | refine Below.alloc ?_ (by first | (simp; done) | omega | (simp; omega) | (simp at *; omega)) _ | refine Below.setCell ?_ (by first | (simp; done) | omega | (simp; omega) | (simp at *; omega)) _ | refine Below.drew ?_)))).mono ?_; rintro e w2 ⟨rfl, hb2⟩; clear HB1; obtain ⟨hc2, hf2, hz2⟩ := bfacts hb2; have y2 : w.heap.size < w2.heap.size := (by omega); rw [H1.out]; dsimp only)
        | go_values | go_skip | go_guarded | (with_reducible (first | refine ex_then_ret ?_ | refine ex_then_exit ?_ | refine ex_then_normal ?_ | refine ex_block_ret ?_ | refine ex_block_normal ?_ | refine ex_block_same ?_ | refine ex_block_other (by decide) ?_)) | go_step | go_upon | go_quiet (fail))
      all_goals go_ret
      all_goals exact gives_bool rfl (by repeat (with_reducible (first | exact Below.refl _ _ | assumption | refine Below.to ?_ (by assumption) | refine below_drewN ?_ _ | refine Below.alloc ?_ (by first | (simp; done) | omega | (simp; omega) | (simp at *; omega)) _ | refine Below.setCell ?_ (by first | (simp; done) | omega | (simp; omega) | (simp at *; omega)) _ | refine Below.drew ?_)))
    · obtain ⟨k, rfl⟩ := Int.eq_ofNat_of_zero_le (Int.not_lt.mp hlo)
      by_cases hk : k < (Pl.bytesS P).size
      · have HK := Lib.hid hk
        have hkI : ¬ ((Pl.bytesS P).size : Int) ≤ k := by omega
        have hz := Pl.bytesS_size P
        clear h1 hn
        go_enter Tryd.func3, Tryd.ntmps3
        repeat' (first
          | (go_at_call 6; refine (Plan.shown _).mono ?_; rintro e w1 ⟨rfl, hb1⟩; obtain ⟨hc1, hf1, hz1⟩ := bfacts hb1; try (simp at hz1); have y0 : w.heap.size < w1.heap.size := (by omega); dsimp only)
          | (go_at_call 7; refine (HB1.out _ (by repeat (with_reducible (first | exact Below.refl _ _ | assumption | refine Below.to ?_ (by assumption) | refine below_drewN ?_ _ | refine Below.alloc ?_ (by first | (simp; done) | omega | (simp; omega) | (simp at *; omega)) _ | refine Below.setCell ?_ (by first | (simp; done) | omega | (simp; omega) | (simp at *; omega)) _ | refine Below.drew ?_)))).mono ?_; rintro e w2 ⟨rfl, hb2⟩; clear HB1; obtain ⟨hc2, hf2, hz2⟩ := bfacts hb2; have y2 : w.heap.size < w2.heap.size := (by omega); rw [H1.out]; dsimp only)
          | go_values | go_skip | go_guarded | (with_reducible (first | refine ex_then_ret ?_ | refine ex_then_exit ?_ | refine ex_then_normal ?_ | refine ex_block_ret ?_ | refine ex_block_normal ?_ | refine ex_block_same ?_ | refine ex_block_other (by decide) ?_)) | go_step | go_upon | go_quiet (fail))
        refine (HT.out _ _ (Pl.cut_size _ _) (by repeat (with_reducible (first | exact Below.refl _ _ | assumption | refine Below.to ?_ (by assumption) | refine below_drewN ?_ _ | refine Below.alloc ?_ (by first | (simp; done) | omega | (simp; omega) | (simp at *; omega)) _ | refine Below.setCell ?_ (by first | (simp; done) | omega | (simp; omega) | (simp at *; omega)) _ | refine Below.drew ?_)))).mono ?_
        rintro ev w3 ⟨v3, c3, rfl, hb3, hor⟩
        obtain ⟨hc3n, rfl, hu3⟩ := hor.resolve_left (fun ⟨_, q, hq, _⟩ => Pl.ok_no hq (Pl.take_cut H1.out HK.out))
        clear hor
        obtain ⟨hc3, hf3, hz3⟩ := bfacts hb3
        have y3 : w.heap.size < w3.heap.size := by omega
        by_cases h2 : k < 2
        · obtain rfl := Pl.cut3 H1.out HK.out h2 hu3
          clear hu3 hc3n
          dsimp only
          repeat' (first | go_values | go_skip | go_guarded | (with_reducible (first | refine ex_then_ret ?_ | refine ex_then_exit ?_ | refine ex_then_normal ?_ | refine ex_block_ret ?_ | refine ex_block_normal ?_ | refine ex_block_same ?_ | refine ex_block_other (by decide) ?_)) | go_step | go_upon | go_quiet (fail))
          refine (HT.out _ _ (Pl.more_size rfl) (by repeat (with_reducible (first | exact Below.refl _ _ | assumption | refine Below.to ?_ (by assumption) | refine below_drewN ?_ _ | refine Below.alloc ?_ (by first | (simp; done) | omega | (simp; omega) | (simp at *; omega)) _ | refine Below.setCell ?_ (by first | (simp; done) | omega | (simp; omega) | (simp at *; omega)) _ | refine Below.drew ?_)))).mono ?_
          rintro ev w4 ⟨v4, c4, rfl, hb4, hor⟩
          obtain ⟨hc4n, rfl, hu4⟩ := hor.resolve_left (fun ⟨_, q, hq, _⟩ => Pl.ok_no hq (Pl.take_more H1.out rfl))
          clear hor
          obtain rfl := Pl.more3 H1.out rfl hu4
          obtain ⟨hc4, hf4, hz4⟩ := bfacts hb4
          try (simp at hz4)
          have y4 : w.heap.size < w4.heap.size := by omega
          clear hu4 hc4n
          dsimp only
          repeat' (first | go_values | go_skip | go_guarded | (with_reducible (first | refine ex_then_ret ?_ | refine ex_then_exit ?_ | refine ex_then_normal ?_ | refine ex_block_ret ?_ | refine ex_block_normal ?_ | refine ex_block_same ?_ | refine ex_block_other (by decide) ?_)) | go_step | go_upon | go_quiet (fail))
          go_ret
          exact gives_bool rfl (by repeat (with_reducible (first | exact Below.refl _ _ | assumption | refine Below.to ?_ (by assumption) | refine below_drewN ?_ _ | refine Below.alloc ?_ (by first | (simp; done) | omega | (simp; omega) | (simp at *; omega)) _ | refine Below.setCell ?_ (by first | (simp; done) | omega | (simp; omega) | (simp at *; omega)) _ | refine Below.drew ?_)))
        · obtain rfl := Pl.cut2 H1.out HK.out h2 hu3
          clear hu3 hc3n
          dsimp only
          repeat' (first | go_values | go_skip | go_guarded | (with_reducible (first | refine ex_then_ret ?_ | refine ex_then_exit ?_ | refine ex_then_normal ?_ | refine ex_block_ret ?_ | refine ex_block_normal ?_ | refine ex_block_same ?_ | refine ex_block_other (by decide) ?_)) | go_step | go_upon | go_quiet (fail))
          refine (HT.out _ _ (Pl.more_size rfl) (by repeat (with_reducible (first | exact Below.refl _ _ | assumption | refine Below.to ?_ (by assumption) | refine below_drewN ?_ _ | refine Below.alloc ?_ (by first | (simp; done) | omega | (simp; omega) | (simp at *; omega)) _ | refine Below.setCell ?_ (by first | (simp; done) | omega | (simp; omega) | (simp at *; omega)) _ | refine Below.drew ?_)))).mono ?_
          rintro ev w4 ⟨v4, c4, rfl, hb4, hor⟩
          obtain ⟨hc4n, rfl, hu4⟩ := hor.resolve_left (fun ⟨_, q, hq, _⟩ => Pl.ok_no hq (Pl.take_more H1.out rfl))
          clear hor
          obtain rfl := Pl.more3 H1.out rfl hu4
          obtain ⟨hc4, hf4, hz4⟩ := bfacts hb4
          try (simp at hz4)
          have y4 : w.heap.size < w4.heap.size := by omega
          clear hu4 hc4n
          dsimp only
          repeat' (first | go_values | go_skip | go_guarded | (with_reducible (first | refine ex_then_ret ?_ | refine ex_then_exit ?_ | refine ex_then_normal ?_ | refine ex_block_ret ?_ | refine ex_block_normal ?_ | refine ex_block_same ?_ | refine ex_block_other (by decide) ?_)) | go_step | go_upon | go_quiet (fail))
          go_ret
          exact gives_bool rfl (by repeat (with_reducible (first | exact Below.refl _ _ | assumption | refine Below.to ?_ (by assumption) | refine below_drewN ?_ _ | refine Below.alloc ?_ (by first | (simp; done) | omega | (simp; omega) | (simp at *; omega)) _ | refine Below.setCell ?_ (by first | (simp; done) | omega | (simp; omega) | (simp at *; omega)) _ | refine Below.drew ?_)))
      · have hkI : ((Pl.bytesS P).size : Int) ≤ k := by omega
        clear h1 hn
        go_enter Tryd.func3, Tryd.ntmps3
        repeat' (first
          | (go_at_call 6; refine (Plan.shown _).mono ?_; rintro e w1 ⟨rfl, hb1⟩; obtain ⟨hc1, hf1, hz1⟩ := bfacts hb1; try (simp at hz1); have y0 : w.heap.size < w1.heap.size := (by omega); dsimp only)
          | (go_at_call 7; refine (HB1.out _ (by repeat (with_reducible (first | exact Below.refl _ _ | assumption | refine Below.to ?_ (by assumption) | refine below_drewN ?_ _ | refine Below.alloc ?_ (by first | (simp; done) | omega | (simp; omega) | (simp at *; omega)) _ | refine Below.setCell ?_ (by first | (simp; done) | omega | (simp; omega) | (simp at *; omega)) _ | refine Below.drew ?_)))).mono ?_; rintro e w2 ⟨rfl, hb2⟩; clear HB1; obtain ⟨hc2, hf2, hz2⟩ := bfacts hb2; have y2 : w.heap.size < w2.heap.size := (by omega); rw [H1.out]; dsimp only)
          | go_values | go_skip | go_guarded | (with_reducible (first | refine ex_then_ret ?_ | refine ex_then_exit ?_ | refine ex_then_normal ?_ | refine ex_block_ret ?_ | refine ex_block_normal ?_ | refine ex_block_same ?_ | refine ex_block_other (by decide) ?_)) | go_step | go_upon | go_quiet (fail))
        all_goals go_ret
        all_goals exact gives_bool rfl (by repeat (with_reducible (first | exact Below.refl _ _ | assumption | refine Below.to ?_ (by assumption) | refine below_drewN ?_ _ | refine Below.alloc ?_ (by first | (simp; done) | omega | (simp; omega) | (simp at *; omega)) _ | refine Below.setCell ?_ (by first | (simp; done) | omega | (simp; omega) | (simp at *; omega)) _ | refine Below.drew ?_)))
  · have hne : ¬ Pl.check P = 0 := h1
    go_enter Tryd.func3, Tryd.ntmps3
    repeat' (first
      | (go_at_call 6; refine (Plan.shown _).mono ?_; rintro e w1 ⟨rfl, hb1⟩; obtain ⟨hc1, hf1, hz1⟩ := bfacts hb1; try (simp at hz1); have y0 : w.heap.size < w1.heap.size := (by omega); dsimp only)
      | (go_at_call 7; refine (HB1.out _ (by repeat (with_reducible (first | exact Below.refl _ _ | assumption | refine Below.to ?_ (by assumption) | refine below_drewN ?_ _ | refine Below.alloc ?_ (by first | (simp; done) | omega | (simp; omega) | (simp at *; omega)) _ | refine Below.setCell ?_ (by first | (simp; done) | omega | (simp; omega) | (simp at *; omega)) _ | refine Below.drew ?_)))).mono ?_; rintro e w2 ⟨rfl, hb2⟩; clear HB1; obtain ⟨hc2, hf2, hz2⟩ := bfacts hb2; have y2 : w.heap.size < w2.heap.size := (by omega); dsimp only)
      | go_values | go_skip | go_guarded | (with_reducible (first | refine ex_then_ret ?_ | refine ex_then_exit ?_ | refine ex_then_normal ?_ | refine ex_block_ret ?_ | refine ex_block_normal ?_ | refine ex_block_same ?_ | refine ex_block_other (by decide) ?_)) | go_step | go_upon | go_quiet (fail))
    all_goals go_ret
    all_goals exact gives_bool rfl (by repeat (with_reducible (first | exact Below.refl _ _ | assumption | refine Below.to ?_ (by assumption) | refine below_drewN ?_ _ | refine Below.alloc ?_ (by first | (simp; done) | omega | (simp; omega) | (simp at *; omega)) _ | refine Below.setCell ?_ (by first | (simp; done) | omega | (simp; omega) | (simp at *; omega)) _ | refine Below.drew ?_)))
end LawCut
end Go.Proofs.YtiggoojjefmcoaaDoor
