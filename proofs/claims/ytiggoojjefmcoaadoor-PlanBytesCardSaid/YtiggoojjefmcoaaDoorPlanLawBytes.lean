/- The law PlanBytes, walked. Conditions: frames are integers; bytes are as many as a string can have; errors.errorType is the handle of 'error'. -/
import Derived.Test.YtiggoojjefmcoaaDoorPlanShown
import Derived.Test.YtiggoojjefmcoaaDoorPlanLawBack
import Derived.Test.YtiggoojjefmcoaaDoorPlanBackPlain
import Derived.Test.YtiggoojjefmcoaaDoorPlanTake
import Derived.Test.YtiggoojjefmcoaaDoorPlanRefSame
import Derived.Test.YtiggoojjefmcoaaDoorPlanRefCheck
import Derived.Test.YtiggoojjefmcoaaDoorPlanRefBytes
import Derived.Test.YtiggoojjefmcoaaDoorPlanOpen
import Derived.Test.YtiggoojjefmcoaaDoorPlanRefTake
import Derived.Deep.RegionHeld3
import Derived.WalkKit
import Derived.WalkSpells
import Derived.WalkLawsBesides
import Derived.Lib.Hide
import Derived.BigQuiet
import Derived.Deep.QuietTactic

set_option linter.unusedVariables false
set_option linter.unusedSimpArgs false
namespace Go.Proofs.YtiggoojjefmcoaaDoor
open Go.RowKit
namespace Pl
/-- an error's number is not nought -/
def Pos {α : Type} (x : Except Nat α) : Prop := ∀ n, x = .error n → n ≠ 0
theorem pos_ok {α : Type} (a : α) : Pos (.ok a : Except Nat α) := fun n h => nomatch h
theorem pos_err {α : Type} {n : Nat} (h : n ≠ 0) : Pos (.error n : Except Nat α) := fun m hm => by injection hm with hm; omega
theorem pos_bnd {α β : Type} {x : Except Nat α} {f : α → Except Nat β} (hx : Pos x) (hf : ∀ a, Pos (f a)) : Pos (bnd x f) := by
  cases x with
  | error n => exact pos_err (hx n rfl)
  | ok a => exact hf a
theorem pos_num (m : Nat) : ∀ l, Pos (num m l)
  | [] => pos_err (by decide)
  | [_] => pos_err (by decide)
  | a :: b :: t => by
    simp only [num]
    split
    · exact pos_err (by decide)
    · exact pos_ok _
theorem pos_anys : ∀ n l, Pos (anys n l)
  | 0, l => pos_ok _
  | n + 1, l => by
    simp only [anys]
    cases h : num 65536 l with
    | error e => exact pos_err (pos_num _ _ e h)
    | ok x =>
      obtain ⟨x, t⟩ := x
      dsimp only
      cases h2 : anys n t with
      | error e => exact pos_err (pos_anys n t e h2)
      | ok y => exact pos_ok _
theorem pos_rows {sz : Nat} : ∀ n l, Pos (rowsN sz n l)
  | 0, l => pos_ok _
  | n + 1, l => by
    simp only [rowsN]
    cases h : anys sz l with
    | error e => exact pos_err (pos_anys _ _ e h)
    | ok x =>
      obtain ⟨x, t⟩ := x
      dsimp only
      cases h2 : rowsN sz n t with
      | error e => exact pos_err (pos_rows n t e h2)
      | ok y => exact pos_ok _
theorem pos_wins : ∀ n l, Pos (winsN n l)
  | 0, l => pos_ok _
  | n + 1, l => by
    simp only [winsN]
    cases h : num 8 l with
    | error e => exact pos_err (pos_num _ _ e h)
    | ok x =>
      obtain ⟨x, t⟩ := x
      dsimp only
      cases h1 : rowsN 3 x.toNat t with
      | error e => exact pos_err (pos_rows _ _ e h1)
      | ok y =>
        obtain ⟨y, u⟩ := y
        dsimp only
        cases h2 : winsN n u with
        | error e => exact pos_err (pos_wins n u e h2)
        | ok z => exact pos_ok _
theorem pos_parse (l : List UInt8) : Pos (parse l) := by
  unfold parse
  refine pos_bnd (pos_num _ _) (fun x => pos_bnd (pos_rows _ _) (fun y => ?_))
  unfold fin0
  refine pos_bnd (pos_num _ _) (fun z => ?_)
  unfold fin1
  refine pos_bnd (pos_num _ _) (fun q => ?_)
  unfold fin2
  refine pos_bnd (pos_wins _ _) (fun r => ?_)
  unfold fin3
  refine pos_bnd (pos_num _ _) (fun t => ?_)
  unfold fin4
  refine pos_bnd (pos_rows _ _) (fun u => ?_)
  unfold fin5
  dsimp only
  split
  · exact pos_ok _
  · exact pos_err (by decide)
theorem rowE_nn (np fr : Int) : ∀ (l : List (List Int)) (b : Int), 0 ≤ rowE np fr l b
  | [], _ => Int.le_refl _
  | r :: l, b => by
    rw [rowE]
    split
    · exact rowE_nn np fr l _
    · unfold winE
      split
      · decide
      · split <;> decide
theorem winsE_nn (np fr : Int) : ∀ ws : List (List (List Int)), 0 ≤ winsE np fr ws
  | [] => Int.le_refl _
  | l :: ws => by
    rw [winsE]
    split
    · exact winsE_nn np fr ws
    · exact rowE_nn _ _ _ _
theorem check_nn (P : Plan) : 0 ≤ check P := by
  unfold check
  have := winsE_nn P.ps.length P.fr P.ws
  split
  · decide
  · split
    · decide
    · split
      · decide
      · split
        · exact this
        · split <;> decide
theorem pos_take (s : List UInt8) : Pos (take s) := by
  unfold take
  split
  · refine pos_bnd (pos_parse _) (fun P => ?_)
    split
    · exact pos_ok _
    · exact pos_err (by have := check_nn P; omega)
  · exact pos_err (by decide)
theorem same_err {s : List UInt8} {c d : Int} (h1 : take s = .error c.toNat) (h2 : take s = .error d.toNat) : d = c := by
  have hp := pos_take s _ h1
  rw [h1] at h2
  injection h2 with h2
  omega
theorem sameB_refl (P : Plan) : Go.Proofs.YtiggoojjefmcoaaDoor.Plan.sameB P P = true := by simp [Go.Proofs.YtiggoojjefmcoaaDoor.Plan.sameB]
end Pl
namespace LawBytes
abbrev zero : Pl.Plan := ⟨[], 0, [], []⟩
theorem at_zero (W : World) : PlanAt W (.agg #[.slice none 0 0, .int .i64 0, .slice none 0 0, .slice none 0 0]) zero :=
  ⟨_, _, _, rfl, ⟨none, 0, rfl, by decide, .inl rfl⟩, ⟨none, 0, rfl, by decide, .inl rfl⟩, ⟨none, 0, rfl, by decide, .inl rfl⟩⟩
/-- both readings answer the same -/
theorem meet {s : ByteArray} {w4 w5 : World} {vx vy : Value} {c d : Int}
    (h1 : (c = 0 ∧ ∃ P, Pl.take s.data.toList = .ok P ∧ PlanAt w4 vx P) ∨ (c ≠ 0 ∧ vx = .agg #[.slice none 0 0, .int .i64 0, .slice none 0 0, .slice none 0 0] ∧ Pl.take s.data.toList = .error c.toNat))
    (h2 : (d = 0 ∧ ∃ P, Pl.take s.data.toList = .ok P ∧ PlanAt w5 vy P) ∨ (d ≠ 0 ∧ vy = .agg #[.slice none 0 0, .int .i64 0, .slice none 0 0, .slice none 0 0] ∧ Pl.take s.data.toList = .error d.toNat))
    (hb : Below w4.heap.size w4 w5) : d = c ∧ ∃ R, PlanAt w5 vx R ∧ PlanAt w5 vy R := by
  rcases h1 with ⟨rfl, R, hR, hx⟩ | ⟨_, rfl, he⟩
  · rcases h2 with ⟨rfl, R', hR', hy⟩ | ⟨_, _, he⟩
    · obtain rfl := Pl.ok_of hR' hR
      exact ⟨rfl, R', hx.below hb, hy⟩
    · exact (Pl.ok_no hR he).elim
  · rcases h2 with ⟨_, R', hR', hy⟩ | ⟨_, rfl, he'⟩
    · exact (Pl.ok_no hR' he).elim
    · exact ⟨Pl.same_err he he', zero, at_zero _, at_zero _⟩
/-- what reading answers is a plan's value -/
theorem took_shape {s : List UInt8} {W : World} {v : Value} {c : Int} (h : (c = 0 ∧ ∃ P, Pl.take s = .ok P ∧ PlanAt W v P) ∨ (c ≠ 0 ∧ v = .agg #[.slice none 0 0, .int .i64 0, .slice none 0 0, .slice none 0 0] ∧ Pl.take s = .error c.toNat)) : ∃ R, PlanAt W v R := by
  rcases h with ⟨_, R, _, h⟩ | ⟨_, rfl, _⟩
  · exact ⟨R, h⟩
  · exact ⟨zero, at_zero _⟩
/-- what the last region reads -/
abbrev Eight (w : World) (b : Nat) (x0 x1 x2 x3 x4 x5 x6 x7 : Value) (W : World) : Prop := Below w.heap.size w W ∧ b + 1 < W.heap.size ∧ W.cell? ⟨b, 0, none⟩ = some x0 ∧ W.cell? ⟨b, 1, none⟩ = some x1 ∧ W.cell? ⟨b, 2, none⟩ = some x2 ∧ W.cell? ⟨b, 3, none⟩ = some x3 ∧ W.cell? ⟨b + 1, 0, none⟩ = some x4 ∧ W.cell? ⟨b + 1, 1, none⟩ = some x5 ∧ W.cell? ⟨b + 1, 2, none⟩ = some x6 ∧ W.cell? ⟨b + 1, 3, none⟩ = some x7
theorem bel8 {w W : World} {b : Nat} {x0 x1 x2 x3 x4 x5 x6 x7 : Value} (h : Eight w b x0 x1 x2 x3 x4 x5 x6 x7 W) : Below w.heap.size w W := h.1
theorem kept8 {w W W' : World} {b : Nat} {x0 x1 x2 x3 x4 x5 x6 x7 : Value} (h : Eight w b x0 x1 x2 x3 x4 x5 x6 x7 W) (hb : Below W.heap.size W W') : Eight w b x0 x1 x2 x3 x4 x5 x6 x7 W' := by
  obtain ⟨h, hz, k0, k1, k2, k3, k4, k5, k6, k7⟩ := h
  obtain ⟨hc, _, hs⟩ := bfacts hb
  have h0 : b < W.heap.size := by omega
  exact ⟨Below.to h hb, by omega, (hc _ _ h0).trans k0, (hc _ _ h0).trans k1, (hc _ _ h0).trans k2, (hc _ _ h0).trans k3, (hc _ _ hz).trans k4, (hc _ _ hz).trans k5, (hc _ _ hz).trans k6, (hc _ _ hz).trans k7⟩
set_option maxHeartbeats 4000000 in
set_option maxRecDepth 100000 in
theorem walk (u z : Value) (P Q : Pl.Plan) (s : ByteArray) (w : World) (hu : PlanAt w u P) (hp : P.fr ≤ 9223372036854775807) (hz : PlanAt w z Q) (hq : Q.fr ≤ 9223372036854775807) (hs : s.size ≤ 140737488355328) (hh : w.cell? ⟨0, 0, none⟩ = some (.iface 126 (.agg #[Err.hE]))) :
    Calls Tryd.prog 4 #[u, .string s, z] w (Gives (.bool true) w) := by
  have HB1 := Lib.hid (fun W (hb : Below w.heap.size w W) => Plan.Bytes u P W (hu.below hb) hp)
  have HC := Lib.hid (fun W (hb : Below w.heap.size w W) => Plan.Check u P W (hu.below hb) hp)
  have HRC := Lib.hid (fun W (hb : Below w.heap.size w W) => RfP.Check u P W (hu.below hb) hp)
  have HB2 := Lib.hid (fun W (hb : Below w.heap.size w W) => RfB.Bytes u P W (hu.below hb) hp (Lib.hid (fun W' hb' => HRC.out W' (Below.to hb hb'))))
  have HT1 := Lib.hid (fun W (hb : Below w.heap.size w W) => Tk.Take s W hs ((hb.cell (p := ⟨0, 0, none⟩) (cell_lt hh)).trans hh))
  have HT2 := Lib.hid (fun W => RfT.Take s W hs)
  have HS2 := Lib.hid (fun W (hb : Below w.heap.size w W) => RfP.Same u z P Q W (hu.below hb) (hz.below hb))
  have HS1 : Hid (∀ v R W, ((v = z ∧ R = Plan.sameB P Q) ∨ (v = u ∧ R = true)) → Below w.heap.size w W → Calls Tryd.prog 14 #[u, v] W (Gives (.bool R) W)) := Lib.hid (fun v R W hor hb => by
    rcases hor with ⟨rfl, rfl⟩ | ⟨rfl, rfl⟩
    · exact Plan.Same u _ P Q W (hu.below hb) (hz.below hb)
    · have h := Plan.Same _ _ P P W (hu.below hb) (hu.below hb)
      rw [Pl.sameB_refl] at h
      exact h)
  obtain ⟨_, _, _, rfl, ⟨pa0, pc0, rfl, _⟩, ⟨pa1, pc1, rfl, _⟩, ⟨pa2, pc2, rfl, _⟩⟩ := hu
  obtain ⟨_, _, _, rfl, ⟨qa0, qc0, rfl, _⟩, ⟨qa1, qc1, rfl, _⟩, ⟨qa2, qc2, rfl, _⟩⟩ := hz
  clear hh hs
  have hbb := LawBack.toList_beq (Pl.bytesS P)
  have hcc : (Pl.check P == Pl.check P) = true := by simp
  have hss : (Plan.sameB P Q == Plan.sameB P Q) = true := by simp
  go_enter Tryd.func4, Tryd.ntmps4
  repeat' (first
    | (go_at_call 6; refine (Plan.shown _).mono ?_; rintro e w1 ⟨rfl, hb1⟩; obtain ⟨hc1, hf1, hz1⟩ := bfacts hb1; try (simp at hz1); have y0 : w.heap.size < w1.heap.size := (by omega); have y1 : w.heap.size + 1 < w1.heap.size := (by omega); dsimp only)
    | (go_at_call 7; refine (HB1.out _ (by repeat (with_reducible (first | exact Below.refl _ _ | assumption | refine Below.to ?_ (by assumption) | refine below_drewN ?_ _ | refine Below.alloc ?_ (by first | (simp; done) | omega | (simp; omega) | (simp at *; omega)) _ | refine Below.setCell ?_ (by first | (simp; done) | omega | (simp; omega) | (simp at *; omega)) _ | refine Below.drew ?_)))).mono ?_; rintro e w2 ⟨rfl, hb2⟩; clear HB1; obtain ⟨hc2, hf2, hz2⟩ := bfacts hb2; have y2 : w.heap.size < w2.heap.size := (by omega); have y2' : w.heap.size + 1 < w2.heap.size := (by omega); dsimp only)
    | (go_at_call 9; refine (HB2.out _ (by repeat (with_reducible (first | exact Below.refl _ _ | assumption | refine Below.to ?_ (by assumption) | refine below_drewN ?_ _ | refine Below.alloc ?_ (by first | (simp; done) | omega | (simp; omega) | (simp at *; omega)) _ | refine Below.setCell ?_ (by first | (simp; done) | omega | (simp; omega) | (simp at *; omega)) _ | refine Below.drew ?_)))).mono ?_; rintro e w3 ⟨rfl, hb3⟩; clear HB2; obtain ⟨hc3, hf3, hz3⟩ := bfacts hb3; have y3 : w.heap.size < w3.heap.size := (by omega); have y3' : w.heap.size + 1 < w3.heap.size := (by omega); dsimp only)
    | go_values | go_skip | go_guarded | (with_reducible (first | refine ex_then_ret ?_ | refine ex_then_exit ?_ | refine ex_then_normal ?_ | refine ex_block_ret ?_ | refine ex_block_normal ?_ | refine ex_block_same ?_ | refine ex_block_other (by decide) ?_)) | go_step | go_upon | go_quiet (fail))
  refine (HT1.out _ (by repeat (with_reducible (first | exact Below.refl _ _ | assumption | refine Below.to ?_ (by assumption) | refine below_drewN ?_ _ | refine Below.alloc ?_ (by first | (simp; done) | omega | (simp; omega) | (simp at *; omega)) _ | refine Below.setCell ?_ (by first | (simp; done) | omega | (simp; omega) | (simp at *; omega)) _ | refine Below.drew ?_)))).mono ?_
  rintro ev w4 ⟨vx, c4, rfl, hb4, hor4⟩
  obtain ⟨hc4, hf4, hz4⟩ := bfacts hb4
  have y4 : w.heap.size < w4.heap.size := by omega
  have y4' : w.heap.size + 1 < w4.heap.size := by omega
  have HOR4 := Lib.hid hor4
  obtain ⟨R4, _, _, _, rfl, ⟨ra0, rc0, rfl, _⟩, ⟨ra1, rc1, rfl, _⟩, ⟨ra2, rc2, rfl, _⟩⟩ := took_shape hor4
  clear hor4
  dsimp only
  repeat' (first | go_values | go_skip | go_guarded | (with_reducible (first | refine ex_then_ret ?_ | refine ex_then_exit ?_ | refine ex_then_normal ?_ | refine ex_block_ret ?_ | refine ex_block_normal ?_ | refine ex_block_same ?_ | refine ex_block_other (by decide) ?_)) | go_step | go_upon | go_quiet (fail))
  refine (HT2.out _).mono ?_
  rintro ev w5 ⟨vy, c5, rfl, hb5, hor5⟩
  have hb45 : Below w4.heap.size w4 w5 := Below.to ((Below.refl _ _).alloc (Nat.le_refl _) _) hb5
  obtain ⟨hc5, hf5, hz5⟩ := bfacts hb5
  try simp at hz5
  have y5 : w.heap.size < w5.heap.size := by omega
  have y5' : w.heap.size + 1 < w5.heap.size := by omega
  have y5'' : w4.heap.size < w5.heap.size := by omega
  obtain ⟨rfl, R, hx, hy⟩ := meet HOR4.out hor5 hb45
  obtain ⟨R5, _, _, _, rfl, ⟨sa0, sc0, rfl, _⟩, ⟨sa1, sc1, rfl, _⟩, ⟨sa2, sc2, rfl, _⟩⟩ := took_shape hor5
  have HS := Lib.hid (fun W (hb : Below w5.heap.size w5 W) => RfP.Same _ _ R R W (hx.below hb) (hy.below hb))
  rw [Pl.sameB_refl] at HS
  clear hor5 hx hy HOR4 HT1 HT2
  dsimp only
  repeat' (first | go_values | go_skip | go_guarded | (with_reducible (first | refine ex_then_ret ?_ | refine ex_then_exit ?_ | refine ex_then_normal ?_ | refine ex_block_ret ?_ | refine ex_block_normal ?_ | refine ex_block_same ?_ | refine ex_block_other (by decide) ?_)) | go_step | go_upon | go_quiet (fail))
  refine (HS.out _ (by repeat (with_reducible (first | exact Below.refl _ _ | assumption | refine Below.to ?_ (by assumption) | refine below_drewN ?_ _ | refine Below.alloc ?_ (by first | (simp; done) | omega | (simp; omega) | (simp at *; omega)) _ | refine Below.setCell ?_ (by first | (simp; done) | omega | (simp; omega) | (simp at *; omega)) _ | refine Below.drew ?_)))).mono ?_
  rintro ev w6 ⟨rfl, hb6⟩
  clear HS
  obtain ⟨hc6, hf6, hz6⟩ := bfacts hb6
  try simp at hz6
  have y6 : w.heap.size < w6.heap.size := by omega
  have y6' : w.heap.size + 1 < w6.heap.size := by omega
  dsimp only
  repeat' (first | go_values | go_skip | go_guarded | (with_reducible (first | refine ex_then_ret ?_ | refine ex_then_exit ?_ | refine ex_then_normal ?_ | refine ex_block_ret ?_ | refine ex_block_normal ?_ | refine ex_block_same ?_ | refine ex_block_other (by decide) ?_)) | go_step | go_upon)
  have HB6 : Below w.heap.size w w6 := (by repeat (with_reducible (first | exact Below.refl _ _ | assumption | refine Below.to ?_ (by assumption) | refine below_drewN ?_ _ | refine Below.alloc ?_ (by first | (simp; done) | omega | (simp; omega) | (simp at *; omega)) _ | refine Below.setCell ?_ (by first | (simp; done) | omega | (simp; omega) | (simp at *; omega)) _ | refine Below.drew ?_)))
  have k0 : w6.cell? ⟨w.heap.size, 0, none⟩ = some (.slice pa0 P.ps.length pc0) := by go_simp
  have k1 : w6.cell? ⟨w.heap.size, 1, none⟩ = some (.int .i64 P.fr) := by go_simp
  have k2 : w6.cell? ⟨w.heap.size, 2, none⟩ = some (.slice pa1 P.ws.length pc1) := by go_simp
  have k3 : w6.cell? ⟨w.heap.size, 3, none⟩ = some (.slice pa2 P.cs.length pc2) := by go_simp
  have k4 : w6.cell? ⟨w.heap.size + 1, 0, none⟩ = some (.slice qa0 Q.ps.length qc0) := by go_simp
  have k5 : w6.cell? ⟨w.heap.size + 1, 1, none⟩ = some (.int .i64 Q.fr) := by go_simp
  have k6 : w6.cell? ⟨w.heap.size + 1, 2, none⟩ = some (.slice qa1 Q.ws.length qc1) := by go_simp
  have k7 : w6.cell? ⟨w.heap.size + 1, 3, none⟩ = some (.slice qa2 Q.cs.length qc2) := by go_simp
  clear hb1 hc1 hf1 hz1 hb2 hc2 hf2 hz2 hb3 hc3 hf3 hz3 hb4 hc4 hf4 hz4 hb5 hc5 hf5 hz5 hb45 hb6 hc6 hf6 hz6
  go_region_held3 (fun W => Below w.heap.size w W ∧ w.heap.size + 1 < W.heap.size ∧ W.cell? ⟨w.heap.size, 0, none⟩ = some (.slice pa0 P.ps.length pc0) ∧ W.cell? ⟨w.heap.size, 1, none⟩ = some (.int .i64 P.fr) ∧ W.cell? ⟨w.heap.size, 2, none⟩ = some (.slice pa1 P.ws.length pc1) ∧ W.cell? ⟨w.heap.size, 3, none⟩ = some (.slice pa2 P.cs.length pc2) ∧ W.cell? ⟨w.heap.size + 1, 0, none⟩ = some (.slice qa0 Q.ps.length qc0) ∧ W.cell? ⟨w.heap.size + 1, 1, none⟩ = some (.int .i64 Q.fr) ∧ W.cell? ⟨w.heap.size + 1, 2, none⟩ = some (.slice qa1 Q.ws.length qc1) ∧ W.cell? ⟨w.heap.size + 1, 3, none⟩ = some (.slice qa2 Q.cs.length qc2)) ((first | exact ⟨Below.drew HB6, y6', k0, k1, k2, k3, k4, k5, k6, k7⟩ | exact kept8 (by assumption) hb7 | exact kept8 (W := w6.drew) ⟨Below.drew HB6, y6', k0, k1, k2, k3, k4, k5, k6, k7⟩ hb7))
    (first
      | (go_at_call 12; refine (HC.out _ (by first | exact bel8 (by assumption) | exact Below.drew HB6)).mono ?_; rintro e w7 ⟨rfl, hb7⟩)
      | (go_at_call 13; refine (HRC.out _ (by first | exact bel8 (by assumption) | exact Below.drew HB6)).mono ?_; rintro e w7 ⟨rfl, hb7⟩)
      | (go_at_call 14; refine (HS1.out _ _ _ (by first | exact .inl ⟨rfl, rfl⟩ | exact .inr ⟨rfl, rfl⟩) (by first | exact bel8 (by assumption) | exact Below.drew HB6)).mono ?_; rintro e w7 ⟨rfl, hb7⟩)
      | (go_at_call 11; refine (HS2.out _ (by first | exact bel8 (by assumption) | exact Below.drew HB6)).mono ?_; rintro e w7 ⟨rfl, hb7⟩))
  repeat' (first | go_values | go_skip | go_guarded | (with_reducible (first | refine ex_then_ret ?_ | refine ex_then_exit ?_ | refine ex_then_normal ?_ | refine ex_block_ret ?_ | refine ex_block_normal ?_ | refine ex_block_same ?_ | refine ex_block_other (by decide) ?_)) | go_step | go_upon)
  go_ret
  exact gives_bool rfl (by first | exact bel8 (by assumption) | exact (by repeat (with_reducible (first | exact Below.refl _ _ | assumption | refine Below.to ?_ (by assumption) | refine below_drewN ?_ _ | refine Below.alloc ?_ (by first | (simp; done) | omega | (simp; omega) | (simp at *; omega)) _ | refine Below.setCell ?_ (by first | (simp; done) | omega | (simp; omega) | (simp at *; omega)) _ | refine Below.drew ?_))))
end LawBytes
end Go.Proofs.YtiggoojjefmcoaaDoor
