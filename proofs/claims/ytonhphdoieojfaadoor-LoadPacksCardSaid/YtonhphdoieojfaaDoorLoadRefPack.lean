/- transomref20.Pack: images as bytes. No condition. -/
import Derived.Test.YtonhphdoieojfaaDoorLoadPackPlain
import Derived.Test.YtonhphdoieojfaaDoorLoadAt
import Derived.Test.YtonhphdoieojfaaDoorSegCopy
import Derived.Test.YtonhphdoieojfaaDoorProg
import Derived.Handy
import Derived.RegionTactic
import Derived.WalkKit
import Derived.WalkSpells
import Derived.WalkLawsBesides
import Derived.Lib.Hide
import Derived.BigQuiet
import Derived.Deep.QuietTactic

set_option linter.unusedVariables false
set_option linter.unusedSimpArgs false
namespace Go.Proofs.YtonhphdoieojfaaDoor
open Go.RowKit
namespace Rf
/-- the heads of the loops -/
def PRows (w : World) (l : List (List ByteArray)) (sv v : Value) (wr : World) : Prop := ∃ (k : Nat) (t : ByteArray), k ≤ l.length ∧ v = .int .i64 k ∧ sv = .string t ∧ t.data.toList = Ld.rowsK l k ∧ Below w.heap.size w wr ∧ ∀ r ∈ l.take k, Ld.okRow r = true
def PStrs (w : World) (l : List (List ByteArray)) (k : Nat) (r : List ByteArray) (sv v : Value) (wr : World) : Prop := ∃ (j : Nat) (t : ByteArray), j ≤ r.length ∧ v = .int .i64 j ∧ sv = .string t ∧ t.data.toList = Ld.rowsKJ l k r j ∧ Below w.heap.size w wr ∧ ∀ i, i < j → (r.getD i ByteArray.empty).size ≤ 64
theorem cat_byte {t : ByteArray} {bs : List UInt8} (n : Nat) (h : t.data.toList = bs) : (t ++ ⟨#[UInt8.ofNat ((n : Int)).toNat]⟩).data.toList = bs ++ [Ld.byte n] := by
  rw [ByteArray.data_append, Array.toList_append, h]
  rfl
theorem cat_str {t s : ByteArray} {bs : List UInt8} (h : t.data.toList = bs) : (t ++ s).data.toList = bs ++ s.data.toList := by
  rw [ByteArray.data_append, Array.toList_append, h]
theorem any_long {r : List ByteArray} {j : Nat} (hj : j < r.length) (h : ¬ (r.getD j ByteArray.empty).size ≤ 64) : r.any (fun s => decide (64 < s.size)) = true := by
  rw [List.any_eq_true]
  refine ⟨r[j], List.getElem_mem hj, ?_⟩
  rw [List.getD_eq_getElem?_getD, List.getElem?_eq_getElem hj] at h
  rw [decide_eq_true_eq]
  exact Nat.lt_of_not_le h
theorem none_long {r : List ByteArray} (h : ∀ i, i < r.length → (r.getD i ByteArray.empty).size ≤ 64) : r.any (fun s => decide (64 < s.size)) = false := by
  rw [List.any_eq_false]
  intro x hx
  obtain ⟨i, hi, rfl⟩ := List.mem_iff_getElem.1 hx
  have := h i hi
  rw [List.getD_eq_getElem?_getD, List.getElem?_eq_getElem hi] at this
  rw [decide_eq_true_eq]
  exact Nat.not_lt.2 this
theorem kj_length {l : List (List ByteArray)} {k j : Nat} {r : List ByteArray} (hl : l.length ≤ 4) (h : ∀ r ∈ l.take k, Ld.okRow r = true) (h8 : r.length ≤ 8) (hj : ∀ i, i < j → (r.getD i ByteArray.empty).size ≤ 64) (hjr : j ≤ r.length) : (Ld.rowsKJ l k r j).length ≤ 2606 := by
  have h1 := Ld.rowsK_length hl h
  have h4 : (Ld.packRow (Ld.row (r.take j))).length ≤ 65 * (Ld.row (r.take j)).length := Ld.packRow_length _ (fun s hs => by
    obtain ⟨x, hx, rfl⟩ := List.mem_map.mp hs
    obtain ⟨i, hi, rfl⟩ := List.mem_iff_getElem.1 hx
    rw [List.length_take] at hi
    have := hj i (by omega)
    rw [List.getD_eq_getElem?_getD, List.getElem?_eq_getElem (by omega)] at this
    rw [Ld.bl, List.getElem_take]
    exact this)
  have h5 : (Ld.row (r.take j)).length ≤ 8 := by
    rw [Ld.row, List.length_map]
    exact Nat.le_trans (List.length_take_le' _ _) h8
  simp only [Ld.rowsKJ, List.length_append, List.length_cons]
  omega
set_option maxHeartbeats 4000000 in
set_option maxRecDepth 100000 in
theorem Pack (v : Value) (l : List (List ByteArray)) (w : World) (h : ImgsAt w v l) :
    Calls Tryd.prog 11 #[v] w (Gives (.tuple #[.string (Ld.packS l), .int .i64 (Ld.packE l)]) w) := by
  have HB1 := Lib.hid (fun W c h0 h1 => Sg.back1 (P := Tryd.prog) W 40 9 5 5 1 Tryd.underlying40 Tryd.underlying5 Tryd.underlying9 c h0 h1)
  obtain ⟨a, c, rfl, hn, hc⟩ := h
  have HC := Lib.hid hc
  clear hc
  by_cases hl : l.length ≤ 4
  · have hlI : ¬ (4 : Int) < l.length := by omega
    have hb0 := HB1.out w l.length (by omega) (by omega)
    go_enter Tryd.func11, Tryd.ntmps11
    repeat' (first | go_values | go_skip | go_guarded | (with_reducible (first | refine ex_then_ret ?_ | refine ex_then_exit ?_ | refine ex_then_normal ?_ | refine ex_block_ret ?_ | refine ex_block_normal ?_ | refine ex_block_same ?_ | refine ex_block_other (by decide) ?_)) | go_step | go_upon)
    have hwb : Below w.heap.size w (w.alloc (.cells #[.int .u8 l.length] 5)) := (by repeat (with_reducible (first | exact Below.refl _ _ | assumption | refine Below.to ?_ (by assumption) | refine below_drewN ?_ _ | refine Below.alloc ?_ (by first | (simp; done) | omega | (simp; omega) | (simp at *; omega)) _ | refine Below.setCell ?_ (by first | (simp; done) | omega | (simp; omega) | (simp at *; omega)) _ | refine Below.drew ?_)))
    clear hb0
    go_loopw [4, 5] (fun sv v wr => PRows w l sv v wr) (fun _ v _ => l.length - (intOf v).toNat)
    case atStart => exact ⟨0, _, Nat.zero_le _, rfl, rfl, by simp [Ld.rowsK, Ld.of, Ld.packRows, Ld.byte], hwb, by simp⟩
    case round =>
      clear hwb
      obtain ⟨k, t, hk, rfl, rfl, ht, hb, hok⟩ := hrel
      have HT := Lib.hid ht
      have HB := Lib.hid hb
      have OK := Lib.hid hok
      have htz : t.size ≤ 2085 := by rw [← Ld.bl, ht]; exact Ld.rowsK_length hl hok
      clear ht hb hok
      by_cases hlt : k < l.length
      · obtain hnil | ⟨b, off, rfl, hbl, hcell⟩ := HC.out
        · rw [hnil] at hlt; exact absurd hlt (Nat.not_lt_zero _)
        obtain ⟨u, hu, hs⟩ := hcell k hlt
        have HU := Lib.hid hu
        have c0 := (HB.out.cell (p := ⟨b, off + k, none⟩) hbl).trans hu
        obtain ⟨a1, n1, rfl, hn1, hz1, hd1⟩ := hs
        have HD := Lib.hid hd1
        have HE := Lib.hid (Ld.rowsKJ_end l k hlt)
        have HNF := Lib.hid (fun h => Ld.not_fits_row (l := l) hlt h)
        have HTK := Lib.hid (fun h => Ld.take_ok (l := l) hlt OK.out h)
        clear hcell hu hd1 hz1
        generalize l.getD k [] = r at *
        by_cases h8 : r.length ≤ 8
        · have h8I : ¬ (8 : Int) < r.length := by omega
          have hb0 := HB1.out wr r.length (by omega) (by omega)
          have hz0 : (⟨#[UInt8.ofNat ((r.length : Nat) : Int).toNat]⟩ : ByteArray).size = 1 := rfl
          generalize hz : (⟨#[UInt8.ofNat ((r.length : Nat) : Int).toNat]⟩ : ByteArray) = z at *
          have HZ := Lib.hid hz
          clear hz
          repeat' (first | go_values | go_skip | go_guarded | (with_reducible (first | refine ex_then_ret ?_ | refine ex_then_exit ?_ | refine ex_then_normal ?_ | refine ex_block_ret ?_ | refine ex_block_normal ?_ | refine ex_block_same ?_ | refine ex_block_other (by decide) ?_)) | go_step | go_upon | go_quiet (fail))
          have hbw : Below w.heap.size w (wr.alloc (.cells #[.int .u8 r.length] 5)) := HB.out.alloc HB.out.size _
          have h0 : (t ++ z).data.toList = Ld.rowsKJ l k r 0 := by
            rw [← HZ.out, cat_byte r.length HT.out]
            rfl
          have HT0 := Lib.hid h0
          have HBW := Lib.hid hbw
          clear hb0 h0 hbw
          generalize hwi : wr.alloc (.cells #[.int .u8 r.length] 5) = wi0 at *
          clear hwi
          go_loopw [4, 6] (fun sv v wi => PStrs w l k r sv v wi) (fun _ v _ => r.length - (intOf v).toNat)
          case atStart => exact ⟨0, _, Nat.zero_le _, rfl, rfl, HT0.out, HBW.out, fun i hi => absurd hi (Nat.not_lt_zero _)⟩
          case round =>
            clear HT0 HBW c0 HT HZ htz hz0
            obtain ⟨j, x, hj, rfl, rfl, hx, hbi, h64⟩ := hrel
            have HX := Lib.hid hx
            have HBI := Lib.hid hbi
            have H64 := Lib.hid h64
            have hxz : x.size ≤ 2606 := by rw [← Ld.bl, hx]; exact kj_length hl OK.out h8 h64 hj
            clear hx hbi h64
            have c0 := (HBI.out.cell (p := ⟨b, off + k, none⟩) hbl).trans HU.out
            by_cases hjt : j < r.length
            · obtain hnil | ⟨b2, off2, rfl, hbl2, hcell2⟩ := HD.out
              · rw [hnil] at hjt; exact absurd hjt (Nat.not_lt_zero _)
              have d0 := (HBI.out.cell (p := ⟨b2, off2 + j, none⟩) hbl2).trans (hcell2 j hjt)
              by_cases hs64 : (r.getD j ByteArray.empty).size ≤ 64
              · have HN := Lib.hid (Ld.rowsKJ_next l k r j hjt)
                have HNX := Lib.hid (show ∀ i, i < j + 1 → (r.getD i ByteArray.empty).size ≤ 64 from fun i hi => by
                  rcases Nat.lt_or_ge i j with h | h
                  · exact H64.out i h
                  · obtain rfl : i = j := by omega
                    exact hs64)
                clear hcell2
                generalize r.getD j ByteArray.empty = y at *
                have hyI : ¬ (64 : Int) < y.size := by omega
                have hb0 : (convert 40 9 (.slice (some ⟨wr.heap.size, 0, none⟩) 1 1)).run Tryd.prog (wr.alloc (.cells #[.int .u8 (y.size : Int)] 5)).drew = .ok (.string ⟨#[UInt8.ofNat ((y.size : Nat) : Int).toNat]⟩) (wr.alloc (.cells #[.int .u8 (y.size : Int)] 5)).drew := Sg.back1_drew (P := Tryd.prog) wr 40 9 5 5 1 Tryd.underlying40 Tryd.underlying5 Tryd.underlying9 y.size (by omega) (by omega)
                have hz0 : (⟨#[UInt8.ofNat ((y.size : Nat) : Int).toNat]⟩ : ByteArray).size = 1 := rfl
                generalize hz : (⟨#[UInt8.ofNat ((y.size : Nat) : Int).toNat]⟩ : ByteArray) = z at *
                have HZ := Lib.hid hz
                clear hz
                have hbl1 : b < wr.heap.size := Nat.lt_of_lt_of_le hbl HBI.out.size
                have hbl3 : b2 < wr.heap.size := Nat.lt_of_lt_of_le hbl2 HBI.out.size
                repeat' (first | go_values | go_skip | go_guarded | (with_reducible (first | refine ex_then_ret ?_ | refine ex_then_exit ?_ | refine ex_then_normal ?_ | refine ex_block_ret ?_ | refine ex_block_normal ?_ | refine ex_block_same ?_ | refine ex_block_other (by decide) ?_)) | go_step | go_upon | go_quiet (fail))
                have HNW := Lib.hid (show (x ++ z ++ y).data.toList = Ld.rowsKJ l k r (j + 1) by
                  rw [← HZ.out, ← HN.out]
                  exact cat_str (cat_byte y.size HX.out))
                have HBN := Lib.hid (show Below w.heap.size w (wr.alloc (.cells #[.int .u8 (y.size : Int)] 5)).drew from (HBI.out.alloc HBI.out.size _).drew)
                go_region
                all_goals repeat' (first | go_values | go_skip | go_guarded | (with_reducible (first | refine ex_then_ret ?_ | refine ex_then_exit ?_ | refine ex_then_normal ?_ | refine ex_block_ret ?_ | refine ex_block_normal ?_ | refine ex_block_same ?_ | refine ex_block_other (by decide) ?_)) | go_step | go_upon)
                all_goals exact ⟨⟨j + 1, _, by omega, by go_num, rfl, HNW.out, HBN.out, HNX.out⟩, by simp [intOf]; omega⟩
              · have HF := Lib.hid (HNF.out (Ld.okRow_any (any_long hjt hs64)))
                clear hcell2
                generalize r.getD j ByteArray.empty = y at *
                have hyI : (64 : Int) < y.size := by omega
                repeat' (first | go_values | go_skip | go_guarded | (with_reducible (first | refine ex_then_ret ?_ | refine ex_then_exit ?_ | refine ex_then_normal ?_ | refine ex_block_ret ?_ | refine ex_block_normal ?_ | refine ex_block_same ?_ | refine ex_block_other (by decide) ?_)) | go_step | go_upon | go_quiet (fail))
                go_ret2
                have hB := HBI.out
                exact gives_of (two_str (Ld.packS_no HF.out) (Ld.packE_no HF.out)) (by repeat (with_reducible (first | exact Below.refl _ _ | assumption | refine Below.to ?_ (by assumption) | refine below_drewN ?_ _ | refine Below.alloc ?_ (by first | (simp; done) | omega | (simp; omega) | (simp at *; omega)) _ | refine Below.setCell ?_ (by first | (simp; done) | omega | (simp; omega) | (simp at *; omega)) _ | refine Below.drew ?_)))
            · obtain rfl : j = r.length := by omega
              have hok := Ld.okRow_yes h8 (none_long H64.out)
              have HOK := Lib.hid (HTK.out hok)
              clear hok
              repeat' (first | go_values | go_skip | go_guarded | (with_reducible (first | refine ex_then_ret ?_ | refine ex_then_exit ?_ | refine ex_then_normal ?_ | refine ex_block_ret ?_ | refine ex_block_normal ?_ | refine ex_block_same ?_ | refine ex_block_other (by decide) ?_)) | go_step | go_upon | go_quiet (fail))
              exact ⟨⟨k + 1, x, by omega, by go_num, rfl, by rw [← HE.out]; exact HX.out, HBI.out, HOK.out⟩, by simp [intOf]; omega⟩
        · have h8I : (8 : Int) < r.length := by omega
          have HF := Lib.hid (HNF.out (Ld.okRow_big h8))
          repeat' (first | go_values | go_skip | go_guarded | (with_reducible (first | refine ex_then_ret ?_ | refine ex_then_exit ?_ | refine ex_then_normal ?_ | refine ex_block_ret ?_ | refine ex_block_normal ?_ | refine ex_block_same ?_ | refine ex_block_other (by decide) ?_)) | go_step | go_upon | go_quiet (fail))
          go_ret2
          have hB := HB.out
          exact gives_of (two_str (Ld.packS_no HF.out) (Ld.packE_no HF.out)) (by repeat (with_reducible (first | exact Below.refl _ _ | assumption | refine Below.to ?_ (by assumption) | refine below_drewN ?_ _ | refine Below.alloc ?_ (by first | (simp; done) | omega | (simp; omega) | (simp at *; omega)) _ | refine Below.setCell ?_ (by first | (simp; done) | omega | (simp; omega) | (simp at *; omega)) _ | refine Below.drew ?_)))
      · have hkl : k = l.length := by omega
        have hf := Ld.fits_end hl (by rw [hkl] at OK; exact OK.out)
        have HF := Lib.hid hf
        have HS := Lib.hid (show t = Ld.packS l by rw [← Ld.packS_yes hf, ← hkl]; apply ByteArray.ext; apply Array.ext'; rw [HT.out])
        clear hf
        repeat' (first | go_values | go_skip | go_guarded | (with_reducible (first | refine ex_then_ret ?_ | refine ex_then_exit ?_ | refine ex_then_normal ?_ | refine ex_block_ret ?_ | refine ex_block_normal ?_ | refine ex_block_same ?_ | refine ex_block_other (by decide) ?_)) | go_step | go_upon | go_quiet (fail))
        go_ret2
        have hB := HB.out
        exact gives_of (two_str HS.out (Ld.packE_yes HF.out)) (by repeat (with_reducible (first | exact Below.refl _ _ | assumption | refine Below.to ?_ (by assumption) | refine below_drewN ?_ _ | refine Below.alloc ?_ (by first | (simp; done) | omega | (simp; omega) | (simp at *; omega)) _ | refine Below.setCell ?_ (by first | (simp; done) | omega | (simp; omega) | (simp at *; omega)) _ | refine Below.drew ?_)))
  · have hf := Lib.hid (Ld.not_fits_long hl)
    have hlI : (4 : Int) < l.length := by omega
    go_enter Tryd.func11, Tryd.ntmps11
    repeat' (first | go_values | go_skip | go_guarded | (with_reducible (first | refine ex_then_ret ?_ | refine ex_then_exit ?_ | refine ex_then_normal ?_ | refine ex_block_ret ?_ | refine ex_block_normal ?_ | refine ex_block_same ?_ | refine ex_block_other (by decide) ?_)) | go_step | go_upon)
    all_goals go_ret2
    all_goals exact gives_of (two_str (Ld.packS_no hf.out) (Ld.packE_no hf.out)) (by repeat (with_reducible (first | exact Below.refl _ _ | assumption | refine Below.to ?_ (by assumption) | refine below_drewN ?_ _ | refine Below.alloc ?_ (by first | (simp; done) | omega | (simp; omega) | (simp at *; omega)) _ | refine Below.setCell ?_ (by first | (simp; done) | omega | (simp; omega) | (simp at *; omega)) _ | refine Below.drew ?_)))
end Rf
end Go.Proofs.YtonhphdoieojfaaDoor
