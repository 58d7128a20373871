/- load.Pack: images as bytes. No condition. -/
import Derived.Test.YtonhphdoieojfaaDoorLoadWalkA
import Derived.Test.YtonhphdoieojfaaDoorLoadPackPlain
import Derived.Test.YtonhphdoieojfaaDoorBuildWalk
import Derived.WalkKit
import Derived.WalkSpells
import Derived.WalkLawsBesides
import Derived.Lib.Hide
import Derived.BigQuiet
import Derived.Deep.QuietTactic

set_option linter.unusedVariables false
set_option linter.unusedSimpArgs false
namespace Go.Proofs.YtonhphdoieojfaaDoor
open Go.RowKit
namespace Load
/-- the builder of a call that began in w, with what it holds -/
def Holds (w : World) (bs : List UInt8) (W : World) : Prop := Lib.IsBuilder 42 5 w.heap.size w.heap.size (Lib.byteCells bs) W ∧ Below w.heap.size w W ∧ w.heap.size < W.heap.size
theorem Holds.below {w W W' : World} {bs : List UInt8} (h : Holds w bs W) (hb : Below W.heap.size W W') : Holds w bs W' := by
  refine ⟨?_, Below.to h.2.1 hb, Nat.lt_of_lt_of_le h.2.2 hb.size⟩
  rcases h.1 with h1 | h1
  · exact .inl (builder_below h1 hb)
  · exact .inr (builder_below h1 hb)
theorem wr_byte (w W : World) (bs : List UInt8) (c : Int) (n : Nat) (h : Holds w bs W) (hn : n < 256) (hc : c = n) (hl : bs.length ≤ 1000000) :
    Calls Tryd.prog 14 #[.pointer (some ⟨w.heap.size, 0, none⟩), .int .u8 c] W fun e W' => e = .returned .nilIface ∧ Holds w (bs ++ [Ld.byte n]) W' := by
  subst hc
  refine (Bld.WriteByte w.heap.size w.heap.size _ n W h.1 (by rw [byteCells_length]; omega) h.2.1.size).mono ?_
  rintro e W' ⟨rfl, h1, hb⟩
  refine ⟨rfl, ?_, h.2.1.trans hb, Nat.lt_of_lt_of_le h.2.2 hb.size⟩
  rw [byteCells_append, Ld.cells_byte n hn]
  exact .inr h1
theorem wr_str (w W : World) (bs : List UInt8) (s : ByteArray) (h : Holds w bs W) (hs : s.size ≤ 1000000) (hl : bs.length ≤ 1000000) :
    Calls Tryd.prog 17 #[.pointer (some ⟨w.heap.size, 0, none⟩), .string s] W fun e W' => e = .returned (.tuple #[.int .i64 s.size, .nilIface]) ∧ Holds w (bs ++ s.data.toList) W' := by
  refine (Bld.WriteString w.heap.size w.heap.size _ s W h.1 (by rw [byteCells_length]; omega) h.2.1.size).mono ?_
  rintro e W' ⟨rfl, h1, hb⟩
  refine ⟨rfl, ?_, h.2.1.trans hb, Nat.lt_of_lt_of_le h.2.2 hb.size⟩
  rw [byteCells_append, ← Lib.strCells_eq]
  exact .inr h1
theorem to_str (w W : World) (bs : List UInt8) (h : Holds w bs W) (h0 : bs ≠ []) :
    Calls Tryd.prog 18 #[.pointer (some ⟨w.heap.size, 0, none⟩)] W fun e W' => e = .returned (.string ⟨bs.toArray⟩) ∧ Below w.heap.size w W' := by
  refine (Bld.String w.heap.size w.heap.size bs W h.1 h0).mono ?_
  rintro e W' ⟨rfl, hb⟩
  exact ⟨rfl, h.2.1.trans hb⟩
theorem holds_fresh (w : World) : Holds w [] (w.alloc (.cells #[.pointer none, .slice none 0 0] 42)) :=
  ⟨Lib.fresh_isBuilder _ _ w, (by repeat (with_reducible (first | exact Below.refl _ _ | assumption | refine Below.to ?_ (by assumption) | refine below_drewN ?_ _ | refine Below.alloc ?_ (by first | (simp; done) | omega | (simp; omega) | (simp at *; omega)) _ | refine Below.setCell ?_ (by first | (simp; done) | omega | (simp; omega) | (simp at *; omega)) _ | refine Below.drew ?_))), by simp⟩
/-- the heads of the loops -/
def Rows (w : World) (l : List (List ByteArray)) (v : Value) (wr : World) : Prop := ∃ k : Nat, k ≤ l.length ∧ v = .int .i64 k ∧ Holds w (Ld.rowsK l k) wr ∧ ∀ r ∈ l.take k, Ld.okRow r = true
def Strs (w : World) (l : List (List ByteArray)) (k : Nat) (r : List ByteArray) (v : Value) (wr : World) : Prop := ∃ j : Nat, j ≤ r.length ∧ v = .int .i64 j ∧ Holds w (Ld.rowsKJ l k r j) wr
set_option maxHeartbeats 4000000 in
theorem Pack (v : Value) (l : List (List ByteArray)) (w : World) (h : ImgsAt w v l) :
    Calls Tryd.prog 8 #[v] w (Gives (.tuple #[.string (Ld.packS l), .int .i64 (Ld.packE l)]) w) := by
  obtain ⟨a, c, rfl, hn, hc⟩ := h
  have HC := Lib.hid hc
  clear hc
  by_cases hl : l.length ≤ 4
  · have hlI : ¬ (4 : Int) < l.length := by omega
    go_enter Tryd.func8, Tryd.ntmps8
    repeat' (first | go_values | go_skip | go_guarded | (with_reducible (first | refine ex_then_ret ?_ | refine ex_then_exit ?_ | refine ex_then_normal ?_ | refine ex_block_ret ?_ | refine ex_block_normal ?_ | refine ex_block_same ?_ | refine ex_block_other (by decide) ?_)) | go_step | go_upon)
    refine (wr_byte w _ [] _ l.length (holds_fresh w) (by omega) rfl (by simp)).mono ?_
    rintro e w1 ⟨rfl, hw1⟩
    have H1 := Lib.hid hw1
    clear hw1
    dsimp only
    repeat' (first | go_values | go_skip | go_guarded | (with_reducible (first | refine ex_then_ret ?_ | refine ex_then_exit ?_ | refine ex_then_normal ?_ | refine ex_block_ret ?_ | refine ex_block_normal ?_ | refine ex_block_same ?_ | refine ex_block_other (by decide) ?_)) | go_step | go_upon)
    go_loopw [18] (fun v wr => Rows w l v wr) (fun v _ => l.length - (intOf v).toNat)
    case atStart => exact ⟨0, Nat.zero_le _, rfl, H1.out, by simp⟩
    case round =>
      clear H1
      obtain ⟨k, hk, rfl, hw, hok⟩ := hrel
      have HW := Lib.hid hw
      have OK := Lib.hid hok
      clear hw hok
      by_cases hlt : k < l.length
      · obtain hnil | ⟨b, off, rfl, hbl, hcell⟩ := HC.out
        · rw [hnil] at hlt; exact absurd hlt (Nat.not_lt_zero _)
        obtain ⟨u, hu, hs⟩ := hcell k hlt
        have c0 := (HW.out.2.1.cell (p := ⟨b, off + k, none⟩) hbl).trans hu
        have HS := Lib.hid (hs.below HW.out.2.1)
        have HS0 := Lib.hid hs
        obtain ⟨a1, n1, rfl, hn1, hz1, _⟩ := hs
        clear hcell hu
        have HR : Hid (∀ r, l.getD k [] = r → l.getD k [] = r) := Lib.hid (fun _ h => h)
        generalize hr : l.getD k [] = r at *
        have HRR := Lib.hid hr
        clear hr HR
        by_cases h8 : r.length ≤ 8
        · have h8I : ¬ (8 : Int) < r.length := by omega
          have h8b : decide ((8 : Int) < r.length) = false := by simpa using h8I
          have hwb := HW.out.2.1
          by_cases hlong : r.any (fun s => decide (64 < s.size)) = true
          · have HF := Lib.hid (Ld.not_fits_row hlt (by rw [HRR.out]; exact Ld.okRow_any hlong))
            repeat' (first | (go_at_call 15; refine (contS _ r _ HS.out).mono ?_; rintro e w2 ⟨rfl, hb2⟩; rw [hlong]; dsimp only) | go_values | go_skip | go_guarded | (with_reducible (first | refine ex_then_ret ?_ | refine ex_then_exit ?_ | refine ex_then_normal ?_ | refine ex_block_ret ?_ | refine ex_block_normal ?_ | refine ex_block_same ?_ | refine ex_block_other (by decide) ?_)) | go_step | go_upon)
            go_ret2
            exact gives_of (two_str (Ld.packS_no HF.out) (Ld.packE_no HF.out)) (by repeat (with_reducible (first | exact Below.refl _ _ | assumption | refine Below.to ?_ (by assumption) | refine below_drewN ?_ _ | refine Below.alloc ?_ (by first | (simp; done) | omega | (simp; omega) | (simp at *; omega)) _ | refine Below.setCell ?_ (by first | (simp; done) | omega | (simp; omega) | (simp at *; omega)) _ | refine Below.drew ?_)))
          · have hlong' : r.any (fun s => decide (64 < s.size)) = false := by simpa using hlong
            have HO := Lib.hid (Ld.okRow_yes h8 hlong')
            clear hlong
            repeat' (first | (go_at_call 15; refine (contS _ r _ HS.out).mono ?_; rintro e w2 ⟨rfl, hb2⟩; rw [hlong']; dsimp only) | go_values | go_skip | go_guarded | (with_reducible (first | refine ex_then_ret ?_ | refine ex_then_exit ?_ | refine ex_then_normal ?_ | refine ex_block_ret ?_ | refine ex_block_normal ?_ | refine ex_block_same ?_ | refine ex_block_other (by decide) ?_)) | go_step | go_upon)
            refine (wr_byte w _ (Ld.rowsK l k) _ r.length (HW.out.below hb2) (by omega) rfl (by have := Ld.rowsK_length hl OK.out; omega)).mono ?_
            rintro e w3 ⟨rfl, hw3⟩
            have H3 := Lib.hid (show Holds w (Ld.rowsKJ l k r 0) w3 from hw3)
            clear hw3 hlong' h8b
            dsimp only
            repeat' (first | go_values | go_skip | go_guarded | (with_reducible (first | refine ex_then_ret ?_ | refine ex_then_exit ?_ | refine ex_then_normal ?_ | refine ex_block_ret ?_ | refine ex_block_normal ?_ | refine ex_block_same ?_ | refine ex_block_other (by decide) ?_)) | go_step | go_upon)
            obtain ⟨wo, rfl⟩ : ∃ wo : World, wo = w3 := ⟨_, rfl⟩
            go_loopw [35] (fun v wr => Strs w l k r v wr) (fun v _ => r.length - (intOf v).toNat)
            case atStart => exact ⟨0, Nat.zero_le _, rfl, H3.out⟩
            case round =>
              clear H3 hb2 hwb c0
              obtain ⟨j, hj, rfl, hwj⟩ := hrel
              have HJ := Lib.hid hwj
              clear hwj
              have HLE := Ld.rowsKJ_length (j := j) hl OK.out HO.out
              by_cases hjt : j < r.length
              · obtain ⟨a2, c2, he, _, _, hd2⟩ := HS0.out
                injection he with he1 _ _
                subst he1
                obtain hnil | ⟨b2, off2, rfl, hbl2, hcell2⟩ := hd2
                · rw [hnil] at hjt; exact absurd hjt (Nat.not_lt_zero _)
                have d0 := (HJ.out.2.1.cell (p := ⟨b2, off2 + j, none⟩) hbl2).trans (hcell2 j hjt)
                have h64 := Ld.okRow_size HO.out hjt
                have HN := Lib.hid (Ld.rowsKJ_next l k r j hjt)
                clear hcell2
                generalize hsv : r.getD j ByteArray.empty = sv at *
                have HSV := Lib.hid hsv
                clear hsv
                repeat' (first | go_values | go_skip | go_guarded | (with_reducible (first | refine ex_then_ret ?_ | refine ex_then_exit ?_ | refine ex_then_normal ?_ | refine ex_block_ret ?_ | refine ex_block_normal ?_ | refine ex_block_same ?_ | refine ex_block_other (by decide) ?_)) | go_step | go_upon)
                refine (wr_byte w _ _ _ sv.size HJ.out (by omega) rfl (by omega)).mono ?_
                rintro e w4 ⟨rfl, hw4⟩
                have H4 := Lib.hid hw4
                clear hw4
                dsimp only
                repeat' (first | go_values | go_skip | go_guarded | (with_reducible (first | refine ex_then_ret ?_ | refine ex_then_exit ?_ | refine ex_then_normal ?_ | refine ex_block_ret ?_ | refine ex_block_normal ?_ | refine ex_block_same ?_ | refine ex_block_other (by decide) ?_)) | go_step | go_upon)
                refine (wr_str w _ _ sv H4.out (by omega) (by simp; omega)).mono ?_
                rintro e w5 ⟨rfl, hw5⟩
                have H5 := Lib.hid hw5
                clear hw5
                dsimp only
                repeat' (first | go_values | go_skip | go_guarded | (with_reducible (first | refine ex_then_ret ?_ | refine ex_then_exit ?_ | refine ex_then_normal ?_ | refine ex_block_ret ?_ | refine ex_block_normal ?_ | refine ex_block_same ?_ | refine ex_block_other (by decide) ?_)) | go_step | go_upon)
                exact ⟨⟨j + 1, by omega, by go_num, by rw [← HN.out]; exact H5.out⟩, by simp [intOf]; omega⟩
              · obtain rfl : j = r.length := by omega
                repeat' (first | go_values | go_skip | go_guarded | (with_reducible (first | refine ex_then_ret ?_ | refine ex_then_exit ?_ | refine ex_then_normal ?_ | refine ex_block_ret ?_ | refine ex_block_normal ?_ | refine ex_block_same ?_ | refine ex_block_other (by decide) ?_)) | go_step | go_upon)
                have HE := Lib.hid (Ld.rowsKJ_end l k hlt)
                have HT := Lib.hid (Ld.take_ok hlt OK.out (by rw [HRR.out]; exact HO.out))
                exact ⟨⟨k + 1, by omega, by go_num, by rw [← HE.out, HRR.out]; exact HJ.out, HT.out⟩, by simp [intOf]; omega⟩
        · have h8I : (8 : Int) < r.length := by omega
          have h8b : decide ((8 : Int) < r.length) = true := by simpa using h8I
          have HF := Lib.hid (Ld.not_fits_row hlt (by rw [HRR.out]; exact Ld.okRow_big h8))
          have hwb := HW.out.2.1
          repeat' (first | go_values | go_skip | go_guarded | (with_reducible (first | refine ex_then_ret ?_ | refine ex_then_exit ?_ | refine ex_then_normal ?_ | refine ex_block_ret ?_ | refine ex_block_normal ?_ | refine ex_block_same ?_ | refine ex_block_other (by decide) ?_)) | go_step | go_upon)
          go_ret2
          exact gives_of (two_str (Ld.packS_no HF.out) (Ld.packE_no HF.out)) hwb
      · have hkl : k = l.length := by omega
        have HF := Lib.hid (Ld.fits_end hl (by rw [hkl] at OK; exact OK.out))
        repeat' (first | go_values | go_skip | go_guarded | (with_reducible (first | refine ex_then_ret ?_ | refine ex_then_exit ?_ | refine ex_then_normal ?_ | refine ex_block_ret ?_ | refine ex_block_normal ?_ | refine ex_block_same ?_ | refine ex_block_other (by decide) ?_)) | go_step | go_upon)
        refine (to_str w _ (Ld.rowsK l k) HW.out (by simp [Ld.rowsK])).mono ?_
        rintro e w2 ⟨rfl, hb2⟩
        dsimp only
        repeat' (first | go_values | go_skip | go_guarded | (with_reducible (first | refine ex_then_ret ?_ | refine ex_then_exit ?_ | refine ex_then_normal ?_ | refine ex_block_ret ?_ | refine ex_block_normal ?_ | refine ex_block_same ?_ | refine ex_block_other (by decide) ?_)) | go_step | go_upon)
        go_ret2
        exact gives_of (two_str (by rw [hkl]; exact Ld.packS_yes HF.out) (Ld.packE_yes HF.out)) hb2
  · have hf := Lib.hid (Ld.not_fits_long hl)
    have hlI : (4 : Int) < l.length := by omega
    go_enter Tryd.func8, Tryd.ntmps8
    repeat' (first | go_values | go_skip | go_guarded | (with_reducible (first | refine ex_then_ret ?_ | refine ex_then_exit ?_ | refine ex_then_normal ?_ | refine ex_block_ret ?_ | refine ex_block_normal ?_ | refine ex_block_same ?_ | refine ex_block_other (by decide) ?_)) | go_step | go_upon)
    all_goals go_ret2
    all_goals exact gives_of (two_str (Ld.packS_no hf.out) (Ld.packE_no hf.out)) (by repeat (with_reducible (first | exact Below.refl _ _ | assumption | refine Below.to ?_ (by assumption) | refine below_drewN ?_ _ | refine Below.alloc ?_ (by first | (simp; done) | omega | (simp; omega) | (simp at *; omega)) _ | refine Below.setCell ?_ (by first | (simp; done) | omega | (simp; omega) | (simp at *; omega)) _ | refine Below.drew ?_)))
end Load
end Go.Proofs.YtonhphdoieojfaaDoor
