/- plan.Bytes: a plan's bytes, or why there are none. Condition: a frame is an integer. -/
import Derived.Test.YtiggoojjefmcoaaDoorPlanPut
import Derived.Test.YtiggoojjefmcoaaDoorPlanWalkE
import Derived.WalkKit
import Derived.WalkSpells
import Derived.WalkLawsBesides
import Derived.Lib.Hide
import Derived.BigQuiet
import Derived.Deep.QuietTactic

set_option linter.unusedVariables false
set_option linter.unusedSimpArgs false
namespace Go.Proofs.YtiggoojjefmcoaaDoor
open Go.RowKit
namespace Pl
def bytesS (P : Plan) : ByteArray := if check P = 0 then ⟨(enc (nums P)).toArray⟩ else ByteArray.empty
theorem bytesS_no {P : Plan} (h : ¬ check P = 0) : ByteArray.empty = bytesS P := by rw [bytesS, if_neg h]
theorem bytesS_yes {P : Plan} (h : check P = 0) : (⟨(enc (nums5 P P.cs.length)).toArray⟩ : ByteArray) = bytesS P := by rw [bytesS, if_pos h]; rfl
end Pl
namespace Plan
def L1 (w : World) (P : Pl.Plan) (v : Value) (wr : World) : Prop := ∃ k : Nat, k ≤ P.ps.length ∧ v = .int .i64 k ∧ Holds w (Pl.enc (Pl.nums1 P k)) wr
def L2 (w : World) (P : Pl.Plan) (v : Value) (wr : World) : Prop := ∃ k : Nat, k ≤ P.ws.length ∧ v = .int .i64 k ∧ Holds w (Pl.enc (Pl.nums3 P k)) wr
def L3 (w : World) (P : Pl.Plan) (k : Nat) (l : List (List Int)) (v : Value) (wr : World) : Prop := ∃ j : Nat, j ≤ l.length ∧ v = .int .i64 j ∧ Holds w (Pl.enc (Pl.nums3' P k l j)) wr
def L4 (w : World) (P : Pl.Plan) (v : Value) (wr : World) : Prop := ∃ k : Nat, k ≤ P.cs.length ∧ v = .int .i64 k ∧ Holds w (Pl.enc (Pl.nums5 P k)) wr
theorem one_small {n : Nat} (h : n ≤ 1000) : Pl.small [(n : Int)] := by
  intro x hx
  simp only [List.mem_cons, List.not_mem_nil, or_false] at hx
  subst hx
  omega
theorem cells1 (x : Int) : ∀ i, i < [x].length → (#[Value.int .i64 x] : Array Value)[i]? = some (.int .i64 ([x].getD i 0)) := by
  intro i hi
  match i, hi with
  | 0, _ => rfl
theorem cells2 (x y : Int) : ∀ i, i < [x, y].length → (#[Value.int .i64 x, .int .i64 y] : Array Value)[i]? = some (.int .i64 ([x, y].getD i 0)) := by
  intro i hi
  match i, hi with
  | 0, _ => rfl
  | 1, _ => rfl
theorem cells3 (x y z : Int) : ∀ i, i < [x, y, z].length → (#[Value.int .i64 x, .int .i64 y, .int .i64 z] : Array Value)[i]? = some (.int .i64 ([x, y, z].getD i 0)) := by
  intro i hi
  match i, hi with
  | 0, _ => rfl
  | 1, _ => rfl
  | 2, _ => rfl
theorem cells4 (x y z u : Int) : ∀ i, i < [x, y, z, u].length → (#[Value.int .i64 x, .int .i64 y, .int .i64 z, .int .i64 u] : Array Value)[i]? = some (.int .i64 ([x, y, z, u].getD i 0)) := by
  intro i hi
  match i, hi with
  | 0, _ => rfl
  | 1, _ => rfl
  | 2, _ => rfl
  | 3, _ => rfl
theorem cells5 (x y z u t : Int) : ∀ i, i < [x, y, z, u, t].length → (#[Value.int .i64 x, .int .i64 y, .int .i64 z, .int .i64 u, .int .i64 t] : Array Value)[i]? = some (.int .i64 ([x, y, z, u, t].getD i 0)) := by
  intro i hi
  match i, hi with
  | 0, _ => rfl
  | 1, _ => rfl
  | 2, _ => rfl
  | 3, _ => rfl
  | 4, _ => rfl
theorem two_small {n : Nat} {x : Int} (h : n ≤ 1000) (h0 : 0 ≤ x) (h1 : x ≤ 10000) : Pl.small [x, (n : Int)] := by
  intro y hy
  simp only [List.mem_cons, List.not_mem_nil, or_false] at hy
  rcases hy with rfl | rfl <;> omega
set_option maxHeartbeats 4000000 in
set_option maxRecDepth 100000 in
theorem Bytes (v : Value) (P : Pl.Plan) (w : World) (h : PlanAt w v P) (hfr : P.fr ≤ 9223372036854775807) :
    Calls Tryd.prog 7 #[v] w (Gives (.tuple #[.string (Pl.bytesS P), .int .i64 (Pl.check P)]) w) := by
  have HCK := Lib.hid (fun W (hb : Below w.heap.size w W) => Check v P W (h.below hb) hfr)
  obtain ⟨vp, vw, vc, rfl, hp, hw, hc⟩ := h
  have HP := Lib.hid hp
  have HW := Lib.hid hw
  have HC := Lib.hid hc
  obtain ⟨ap, cp, rfl, np, _⟩ := hp
  obtain ⟨aw, cw, rfl, nw, _⟩ := hw
  obtain ⟨ac, cc, rfl, nc, _⟩ := hc
  by_cases h0 : Pl.check P = 0
  · obtain ⟨f1, f2, f3, f4, f5, f6, f7, _⟩ := Pl.check_zero h0
    have H0 := Lib.hid h0
    clear h0
    go_enter Tryd.func7, Tryd.ntmps7
    repeat' (first | (go_at_call 12; refine (HCK.out _ (by repeat (with_reducible (first | exact Below.refl _ _ | assumption | refine Below.to ?_ (by assumption) | refine below_drewN ?_ _ | refine Below.alloc ?_ (by first | (simp; done) | omega | (simp; omega) | (simp at *; omega)) _ | refine Below.setCell ?_ (by first | (simp; done) | omega | (simp; omega) | (simp at *; omega)) _ | refine Below.drew ?_)))).mono ?_; rintro e w2 ⟨rfl, hb2⟩; obtain ⟨hc2, hf2, hz2⟩ := bfacts hb2; try (have y1 : w.heap.size < w2.heap.size := (by have := hb2.size; simp at this; omega)); rw [H0.out]; dsimp only) | go_values | go_skip | go_guarded | (with_reducible (first | refine ex_then_ret ?_ | refine ex_then_exit ?_ | refine ex_then_normal ?_ | refine ex_block_ret ?_ | refine ex_block_normal ?_ | refine ex_block_same ?_ | refine ex_block_other (by decide) ?_)) | go_step | go_upon | go_quiet (fail))
    have hpc : Plan.PlanCell w2 w.heap.size (.slice ap P.ps.length cp) P.fr (.slice aw P.ws.length cw) (.slice ac P.cs.length cc) := ⟨by omega, by go_simp, by go_simp, by go_simp, by go_simp⟩
    have hbw : Below w.heap.size w w2 := (by repeat (with_reducible (first | exact Below.refl _ _ | assumption | refine Below.to ?_ (by assumption) | refine below_drewN ?_ _ | refine Below.alloc ?_ (by first | (simp; done) | omega | (simp; omega) | (simp at *; omega)) _ | refine Below.setCell ?_ (by first | (simp; done) | omega | (simp; omega) | (simp at *; omega)) _ | refine Below.drew ?_)))
    have HPC := Lib.hid hpc
    have HBW := Lib.hid hbw
    clear hc2 hf2 hz2 hb2 hpc hbw HCK
    refine (wr_str w2 _ [] ⟨#[84, 80]⟩ (holds_fresh w2) (by decide) (by simp)).mono ?_
    rintro e w3 ⟨rfl, h3, _⟩
    have H3 := Lib.hid (show Holds w2 [84, 80] w3 from h3)
    clear h3
    dsimp only
    obtain ⟨hl3, q0, q1, q2, q3⟩ := HPC.out.below H3.out.2.1
    repeat' (first | go_values | go_skip | go_guarded | (with_reducible (first | refine ex_then_ret ?_ | refine ex_then_exit ?_ | refine ex_then_normal ?_ | refine ex_block_ret ?_ | refine ex_block_normal ?_ | refine ex_block_same ?_ | refine ex_block_other (by decide) ?_)) | go_step | go_upon | go_quiet (fail))
    refine (put_new w2 _ _ [(P.ps.length : Int)] _ 1 1 _ H3.out rfl rfl (cells1 _) (one_small (by omega)) (by simp) (by simp)).mono ?_
    rintro e w4 ⟨rfl, h4⟩
    have H4 := Lib.hid (show Holds w2 (Pl.enc (Pl.nums1 P 0)) w4 by rw [← Pl.enc1_zero]; exact h4)
    clear h4 hl3 q0 q1 q2 q3 H3
    dsimp only
    obtain ⟨hl4, q0, q1, q2, q3⟩ := HPC.out.below H4.out.2.1
    repeat' (first | go_values | go_skip | go_guarded | (with_reducible (first | refine ex_then_ret ?_ | refine ex_then_exit ?_ | refine ex_then_normal ?_ | refine ex_block_ret ?_ | refine ex_block_normal ?_ | refine ex_block_same ?_ | refine ex_block_other (by decide) ?_)) | go_step | go_upon | go_quiet (fail))
    clear hl4 q0 q1 q2 q3
    go_loopw [31] (fun v wr => L1 w2 P v wr) (fun v _ => P.ps.length - (intOf v).toNat)
    case atStart => exact ⟨0, Nat.zero_le _, rfl, H4.out⟩
    case round =>
      clear H4
      obtain ⟨k, hk, rfl, hh⟩ := hrel
      have HH := Lib.hid hh
      clear hh
      have hbl := HBW.out.trans (HH.out.2.1.mono (Nat.le_of_lt HPC.out.1))
      by_cases hlt : k < P.ps.length
      · obtain ⟨a', c', hav, hn', hnil | ⟨b, off, rfl, hblk, hcell⟩⟩ := HP.out
        · rw [hnil] at hlt; exact absurd hlt (Nat.not_lt_zero _)
        cases hav
        have at_ := fun i hi => (hbl.cell (p := ⟨b, off + k * 4 + i, none⟩) hblk).trans (hcell k i hlt hi)
        have d0 := at_ 0 (by omega)
        have d1 := at_ 1 (by omega)
        have d2 := at_ 2 (by omega)
        have d3 := at_ 3 (by omega)
        rw [Nat.add_zero] at d0
        have HS := Lib.hid (Pl.small4 H0.out hlt)
        have HE := Lib.hid (Pl.enc1_next hlt)
        have hlen := Pl.nums1_length H0.out k
        have hen := Pl.enc_length (Pl.nums1 P k)
        clear at_ hcell hbl hn'
        generalize P.ps.getD k [] = r at *
        have HEN := Lib.hid hen
        clear hen
        repeat' (first | go_values | go_skip | go_guarded | (with_reducible (first | refine ex_then_ret ?_ | refine ex_then_exit ?_ | refine ex_then_normal ?_ | refine ex_block_ret ?_ | refine ex_block_normal ?_ | refine ex_block_same ?_ | refine ex_block_other (by decide) ?_)) | go_step | go_upon | go_quiet (fail))
        refine (put_new w2 (wr.alloc _) _ [Pl.g r 0, Pl.g r 1, Pl.g r 2, Pl.g r 3] _ 4 4 _ (HH.out.below ((Below.refl _ _).alloc (Nat.le_refl _) _)) (by simp) rfl (cells4 _ _ _ _) HS.out (by simp) (by rw [HEN.out]; omega)).mono ?_
        rintro e w5 ⟨rfl, h5⟩
        have H5 := Lib.hid h5
        clear h5
        dsimp only
        repeat' (first | go_values | go_skip | go_guarded | (with_reducible (first | refine ex_then_ret ?_ | refine ex_then_exit ?_ | refine ex_then_normal ?_ | refine ex_block_ret ?_ | refine ex_block_normal ?_ | refine ex_block_same ?_ | refine ex_block_other (by decide) ?_)) | go_step | go_upon | go_quiet (fail))
        exact ⟨⟨k + 1, by omega, by go_num, by rw [← HE.out]; exact H5.out⟩, by simp [intOf]; omega⟩
      · obtain rfl : k = P.ps.length := by omega
        have hen := Pl.enc_length (Pl.nums1 P P.ps.length)
        have hlen := Pl.nums1_length H0.out P.ps.length
        have HEN := Lib.hid hen
        clear hen hbl
        obtain ⟨hl3, q0, q1, q2, q3⟩ := HPC.out.below HH.out.2.1
        repeat' (first | go_values | go_skip | go_guarded | (with_reducible (first | refine ex_then_ret ?_ | refine ex_then_exit ?_ | refine ex_then_normal ?_ | refine ex_block_ret ?_ | refine ex_block_normal ?_ | refine ex_block_same ?_ | refine ex_block_other (by decide) ?_)) | go_step | go_upon | go_quiet (fail))
        refine (put_new w2 _ _ [P.fr, (P.ws.length : Int)] _ 2 2 _ HH.out rfl rfl (cells2 _ _) (two_small (by omega) (by omega) (by omega)) (by simp) (by rw [HEN.out]; omega)).mono ?_
        rintro e w6 ⟨rfl, h6⟩
        have H6 := Lib.hid (show Holds w2 (Pl.enc (Pl.nums3 P 0)) w6 by rw [← Pl.enc3_zero, ← Pl.enc2_of]; exact h6)
        clear h6 hl3 q0 q1 q2 q3
        dsimp only
        obtain ⟨hl6, q0, q1, q2, q3⟩ := HPC.out.below H6.out.2.1
        repeat' (first | go_values | go_skip | go_guarded | (with_reducible (first | refine ex_then_ret ?_ | refine ex_then_exit ?_ | refine ex_then_normal ?_ | refine ex_block_ret ?_ | refine ex_block_normal ?_ | refine ex_block_same ?_ | refine ex_block_other (by decide) ?_)) | go_step | go_upon | go_quiet (fail))
        clear hl6 q0 q1 q2 q3 HH HEN
        obtain ⟨wo, rfl⟩ : ∃ wo : World, wo = w6 := ⟨_, rfl⟩
        go_loopw [61] (fun v wr => L2 w2 P v wr) (fun v _ => P.ws.length - (intOf v).toNat)
        case atStart => exact ⟨0, Nat.zero_le _, rfl, H6.out⟩
        case round =>
          clear H6
          obtain ⟨k, hk, rfl, hh⟩ := hrel
          have HH := Lib.hid hh
          clear hh
          have hbl := HBW.out.trans (HH.out.2.1.mono (Nat.le_of_lt HPC.out.1))
          by_cases hlt : k < P.ws.length
          · obtain ⟨a', c', hav, hn', hnil | ⟨b, off, rfl, hblk, hcell⟩⟩ := HW.out
            · rw [hnil] at hlt; exact absurd hlt (Nat.not_lt_zero _)
            cases hav
            obtain ⟨u, hu, hrow⟩ := hcell k hlt
            have HROW := Lib.hid hrow
            obtain ⟨a3, c3, rfl, hn3, _⟩ := hrow
            have c0 := (hbl.cell (p := ⟨b, off + k, none⟩) hblk).trans hu
            have HS := Lib.hid (fun j hj => Pl.small3 (j := j) H0.out hlt hj)
            have HE := Lib.hid (Pl.enc3_next hlt)
            have hlen := Pl.nums3_length H0.out k
            have hlen8 := Pl.len8 H0.out hlt
            have HEN := Lib.hid (Pl.enc_length (Pl.nums3 P k))
            clear hcell hbl hn' hu
            generalize P.ws.getD k [] = l at *
            repeat' (first | go_values | go_skip | go_guarded | (with_reducible (first | refine ex_then_ret ?_ | refine ex_then_exit ?_ | refine ex_then_normal ?_ | refine ex_block_ret ?_ | refine ex_block_normal ?_ | refine ex_block_same ?_ | refine ex_block_other (by decide) ?_)) | go_step | go_upon | go_quiet (fail))
            refine (put_new w2 _ _ [(l.length : Int)] _ 1 1 _ HH.out rfl rfl (cells1 _) (one_small (by omega)) (by simp) (by rw [HEN.out]; omega)).mono ?_
            rintro e w7 ⟨rfl, h7⟩
            have H7 := Lib.hid (show Holds w2 (Pl.enc (Pl.nums3' P k l 0)) w7 by rw [← Pl.enc3'_zero]; exact h7)
            clear h7 c0
            dsimp only
            repeat' (first | go_values | go_skip | go_guarded | (with_reducible (first | refine ex_then_ret ?_ | refine ex_then_exit ?_ | refine ex_then_normal ?_ | refine ex_block_ret ?_ | refine ex_block_normal ?_ | refine ex_block_same ?_ | refine ex_block_other (by decide) ?_)) | go_step | go_upon | go_quiet (fail))
            obtain ⟨wi, rfl⟩ : ∃ wi : World, wi = w7 := ⟨_, rfl⟩
            go_loopw [72] (fun v wr => L3 w2 P k l v wr) (fun v _ => l.length - (intOf v).toNat)
            case atStart => exact ⟨0, Nat.zero_le _, rfl, H7.out⟩
            case round =>
              clear H7 HH
              obtain ⟨j, hj, rfl, hh⟩ := hrel
              have HH := Lib.hid hh
              clear hh
              have hbl := HBW.out.trans (HH.out.2.1.mono (Nat.le_of_lt HPC.out.1))
              by_cases hjt : j < l.length
              · obtain ⟨a4, c4, hav, hn4, hnil | ⟨b3, off3, rfl, hbl3, hcell3⟩⟩ := HROW.out
                · rw [hnil] at hjt; exact absurd hjt (Nat.not_lt_zero _)
                cases hav
                have at_ := fun i hi => (hbl.cell (p := ⟨b3, off3 + j * 3 + i, none⟩) hbl3).trans (hcell3 j i hjt hi)
                have d0 := at_ 0 (by omega)
                have d1 := at_ 1 (by omega)
                have d2 := at_ 2 (by omega)
                rw [Nat.add_zero] at d0
                have HSJ := Lib.hid (HS.out j hjt)
                have HEJ := Lib.hid (Pl.enc3'_next (P := P) (k := k) hjt)
                have hlenj := Pl.nums3'_length H0.out k hlen8 j
                have HENJ := Lib.hid (Pl.enc_length (Pl.nums3' P k l j))
                clear at_ hcell3 hbl hn4
                generalize l.getD j [] = r at *
                repeat' (first | go_values | go_skip | go_guarded | (with_reducible (first | refine ex_then_ret ?_ | refine ex_then_exit ?_ | refine ex_then_normal ?_ | refine ex_block_ret ?_ | refine ex_block_normal ?_ | refine ex_block_same ?_ | refine ex_block_other (by decide) ?_)) | go_step | go_upon | go_quiet (fail))
                refine (put_new w2 (wr.alloc _) _ [Pl.g r 0, Pl.g r 1, Pl.g r 2] _ 3 3 _ (HH.out.below ((Below.refl _ _).alloc (Nat.le_refl _) _)) (by simp) rfl (cells3 _ _ _) HSJ.out (by simp) (by rw [HENJ.out]; omega)).mono ?_
                rintro e w8 ⟨rfl, h8⟩
                have H8 := Lib.hid h8
                clear h8
                dsimp only
                repeat' (first | go_values | go_skip | go_guarded | (with_reducible (first | refine ex_then_ret ?_ | refine ex_then_exit ?_ | refine ex_then_normal ?_ | refine ex_block_ret ?_ | refine ex_block_normal ?_ | refine ex_block_same ?_ | refine ex_block_other (by decide) ?_)) | go_step | go_upon | go_quiet (fail))
                exact ⟨⟨j + 1, by omega, by go_num, by rw [← HEJ.out]; exact H8.out⟩, by simp [intOf]; omega⟩
              · obtain rfl : j = l.length := by omega
                clear hbl
                repeat' (first | go_values | go_skip | go_guarded | (with_reducible (first | refine ex_then_ret ?_ | refine ex_then_exit ?_ | refine ex_then_normal ?_ | refine ex_block_ret ?_ | refine ex_block_normal ?_ | refine ex_block_same ?_ | refine ex_block_other (by decide) ?_)) | go_step | go_upon | go_quiet (fail))
                exact ⟨⟨k + 1, by omega, by go_num, by rw [← HE.out]; exact HH.out⟩, by simp [intOf]; omega⟩
          · obtain rfl : k = P.ws.length := by omega
            have hlen := Pl.nums3_length H0.out P.ws.length
            have HEN := Lib.hid (Pl.enc_length (Pl.nums3 P P.ws.length))
            clear hbl
            obtain ⟨hl3, q0, q1, q2, q3⟩ := HPC.out.below HH.out.2.1
            repeat' (first | go_values | go_skip | go_guarded | (with_reducible (first | refine ex_then_ret ?_ | refine ex_then_exit ?_ | refine ex_then_normal ?_ | refine ex_block_ret ?_ | refine ex_block_normal ?_ | refine ex_block_same ?_ | refine ex_block_other (by decide) ?_)) | go_step | go_upon | go_quiet (fail))
            refine (put_new w2 _ _ [(P.cs.length : Int)] _ 1 1 _ HH.out rfl rfl (cells1 _) (one_small (by omega)) (by simp) (by rw [HEN.out]; omega)).mono ?_
            rintro e w9 ⟨rfl, h9⟩
            have H9 := Lib.hid (show Holds w2 (Pl.enc (Pl.nums5 P 0)) w9 by rw [← Pl.enc5_zero, ← Pl.enc4_of]; exact h9)
            clear h9 hl3 q0 q1 q2 q3
            dsimp only
            obtain ⟨hl9, q0, q1, q2, q3⟩ := HPC.out.below H9.out.2.1
            repeat' (first | go_values | go_skip | go_guarded | (with_reducible (first | refine ex_then_ret ?_ | refine ex_then_exit ?_ | refine ex_then_normal ?_ | refine ex_block_ret ?_ | refine ex_block_normal ?_ | refine ex_block_same ?_ | refine ex_block_other (by decide) ?_)) | go_step | go_upon | go_quiet (fail))
            clear hl9 q0 q1 q2 q3 HH HEN
            obtain ⟨wc, rfl⟩ : ∃ wc : World, wc = w9 := ⟨_, rfl⟩
            go_loopw [96] (fun v wr => L4 w2 P v wr) (fun v _ => P.cs.length - (intOf v).toNat)
            case atStart => exact ⟨0, Nat.zero_le _, rfl, H9.out⟩
            case round =>
              clear H9
              obtain ⟨k, hk, rfl, hh⟩ := hrel
              have HH := Lib.hid hh
              clear hh
              have hbl := HBW.out.trans (HH.out.2.1.mono (Nat.le_of_lt HPC.out.1))
              by_cases hlt : k < P.cs.length
              · obtain ⟨a', c', hav, hn', hnil | ⟨b, off, rfl, hblk, hcell⟩⟩ := HC.out
                · rw [hnil] at hlt; exact absurd hlt (Nat.not_lt_zero _)
                cases hav
                have at_ := fun i hi => (hbl.cell (p := ⟨b, off + k * 5 + i, none⟩) hblk).trans (hcell k i hlt hi)
                have d0 := at_ 0 (by omega)
                have d1 := at_ 1 (by omega)
                have d2 := at_ 2 (by omega)
                have d3 := at_ 3 (by omega)
                have d4 := at_ 4 (by omega)
                rw [Nat.add_zero] at d0
                have HS := Lib.hid (Pl.small5 H0.out hlt)
                have HE := Lib.hid (Pl.enc5_next hlt)
                have hlen := Pl.nums5_length H0.out k
                have HEN := Lib.hid (Pl.enc_length (Pl.nums5 P k))
                clear at_ hcell hbl hn'
                generalize P.cs.getD k [] = r at *
                repeat' (first | go_values | go_skip | go_guarded | (with_reducible (first | refine ex_then_ret ?_ | refine ex_then_exit ?_ | refine ex_then_normal ?_ | refine ex_block_ret ?_ | refine ex_block_normal ?_ | refine ex_block_same ?_ | refine ex_block_other (by decide) ?_)) | go_step | go_upon | go_quiet (fail))
                refine (put_new w2 (wr.alloc _) _ [Pl.g r 0, Pl.g r 1, Pl.g r 2, Pl.g r 3, Pl.g r 4] _ 5 5 _ (HH.out.below ((Below.refl _ _).alloc (Nat.le_refl _) _)) (by simp) rfl (cells5 _ _ _ _ _) HS.out (by simp) (by rw [HEN.out]; omega)).mono ?_
                rintro e w5 ⟨rfl, h5⟩
                have H5 := Lib.hid h5
                clear h5
                dsimp only
                repeat' (first | go_values | go_skip | go_guarded | (with_reducible (first | refine ex_then_ret ?_ | refine ex_then_exit ?_ | refine ex_then_normal ?_ | refine ex_block_ret ?_ | refine ex_block_normal ?_ | refine ex_block_same ?_ | refine ex_block_other (by decide) ?_)) | go_step | go_upon | go_quiet (fail))
                exact ⟨⟨k + 1, by omega, by go_num, by rw [← HE.out]; exact H5.out⟩, by simp [intOf]; omega⟩
              · obtain rfl : k = P.cs.length := by omega
                clear hbl
                have HY := Lib.hid (Pl.bytesS_yes H0.out)
                repeat' (first | go_values | go_skip | go_guarded | (with_reducible (first | refine ex_then_ret ?_ | refine ex_then_exit ?_ | refine ex_then_normal ?_ | refine ex_block_ret ?_ | refine ex_block_normal ?_ | refine ex_block_same ?_ | refine ex_block_other (by decide) ?_)) | go_step | go_upon | go_quiet (fail))
                refine (to_str w2 _ _ HH.out (by simp [Pl.enc])).mono ?_
                rintro e w5 ⟨rfl, hb5⟩
                have hb := HBW.out.trans (hb5.mono (Nat.le_of_lt HPC.out.1))
                dsimp only
                repeat' (first | go_values | go_skip | go_guarded | (with_reducible (first | refine ex_then_ret ?_ | refine ex_then_exit ?_ | refine ex_then_normal ?_ | refine ex_block_ret ?_ | refine ex_block_normal ?_ | refine ex_block_same ?_ | refine ex_block_other (by decide) ?_)) | go_step | go_upon | go_quiet (fail))
                go_ret2
                exact gives_of (two_str HY.out H0.out.symm) hb
  · have HN := Lib.hid (Pl.bytesS_no h0)
    have hne : ¬ Pl.check P = 0 := h0
    go_enter Tryd.func7, Tryd.ntmps7
    repeat' (first | (go_at_call 12; refine (HCK.out _ (by repeat (with_reducible (first | exact Below.refl _ _ | assumption | refine Below.to ?_ (by assumption) | refine below_drewN ?_ _ | refine Below.alloc ?_ (by first | (simp; done) | omega | (simp; omega) | (simp at *; omega)) _ | refine Below.setCell ?_ (by first | (simp; done) | omega | (simp; omega) | (simp at *; omega)) _ | refine Below.drew ?_)))).mono ?_; rintro e w2 ⟨rfl, hb2⟩; dsimp only) | go_values | go_skip | go_guarded | (with_reducible (first | refine ex_then_ret ?_ | refine ex_then_exit ?_ | refine ex_then_normal ?_ | refine ex_block_ret ?_ | refine ex_block_normal ?_ | refine ex_block_same ?_ | refine ex_block_other (by decide) ?_)) | go_step | go_upon | go_quiet (fail))
    go_ret2
    exact gives_of (two_str HN.out rfl) (by repeat (with_reducible (first | exact Below.refl _ _ | assumption | refine Below.to ?_ (by assumption) | refine below_drewN ?_ _ | refine Below.alloc ?_ (by first | (simp; done) | omega | (simp; omega) | (simp at *; omega)) _ | refine Below.setCell ?_ (by first | (simp; done) | omega | (simp; omega) | (simp at *; omega)) _ | refine Below.drew ?_)))
end Plan
end Go.Proofs.YtiggoojjefmcoaaDoor
