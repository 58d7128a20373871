/- plan.Bytes' put: numbers into a builder, two bytes each. Condition: the builder is one of the call's own; each number is below 65536. -/
import Derived.Test.YtiggoojjefmcoaaDoorBuildKept
import Derived.Test.YtiggoojjefmcoaaDoorPlanBytesPlain
import Derived.Handy
import Derived.WalkKit
import Derived.WalkSpells
import Derived.WalkLawsBesides
import Derived.Lib.Hide
import Derived.BigQuiet
import Derived.Deep.QuietTactic

set_option linter.unusedVariables false
set_option linter.unusedSimpArgs false
namespace Go.Proofs.YtiggoojjefmcoaaDoor
open Go.RowKit
namespace Plan
/-- the builder of a call that was laid in w, with what it holds -/
def Holds (w : World) (bs : List UInt8) (W : World) : Prop := Lib.IsBuilder 52 5 w.heap.size w.heap.size (Lib.byteCells bs) W ∧ Below w.heap.size w W ∧ w.heap.size < W.heap.size
theorem Holds.below {w W W' : World} {bs : List UInt8} (h : Holds w bs W) (hb : Below W.heap.size W W') : Holds w bs W' := by
  refine ⟨?_, Below.to h.2.1 hb, Nat.lt_of_lt_of_le h.2.2 hb.size⟩
  rcases h.1 with h1 | h1
  · exact .inl (builder_below h1 hb)
  · exact .inr (builder_below h1 hb)
theorem cell_byte (n : Int) (h0 : 0 ≤ n) (hn : n < 256) : Lib.byteCells [UInt8.ofNat n.toNat] = [Value.int .u8 n] := by
  simp only [Lib.byteCells, List.map_cons, List.map_nil, UInt8.toNat_ofNat']
  congr 2
  omega
theorem wr_byte (w W : World) (bs : List UInt8) (c : Int) (h : Holds w bs W) (h0 : 0 ≤ c) (hc : c < 256) (hl : bs.length ≤ 1000000) :
    Calls Tryd.prog 17 #[.pointer (some ⟨w.heap.size, 0, none⟩), .int .u8 c] W fun e W' => e = .returned .nilIface ∧ Holds w (bs ++ [UInt8.ofNat c.toNat]) W' ∧ Others 5 w.heap.size W W' := by
  refine (Bld.WriteByte w.heap.size w.heap.size _ c W h.1 (by rw [byteCells_length]; omega) h.2.1.size).mono ?_
  rintro e W' ⟨rfl, h1, hb, hot⟩
  refine ⟨rfl, ⟨?_, h.2.1.trans hb, Nat.lt_of_lt_of_le h.2.2 hb.size⟩, hot⟩
  rw [byteCells_append, cell_byte c h0 hc]
  exact .inr h1
theorem wr_str (w W : World) (bs : List UInt8) (s : ByteArray) (h : Holds w bs W) (hs : s.size ≤ 1000000) (hl : bs.length ≤ 1000000) :
    Calls Tryd.prog 15 #[.pointer (some ⟨w.heap.size, 0, none⟩), .string s] W fun e W' => e = .returned (.tuple #[.int .i64 s.size, .nilIface]) ∧ Holds w (bs ++ s.data.toList) W' ∧ Others 5 w.heap.size W W' := by
  refine (Bld.WriteString w.heap.size w.heap.size _ s W h.1 (by rw [byteCells_length]; omega) h.2.1.size).mono ?_
  rintro e W' ⟨rfl, h1, hb, hot⟩
  refine ⟨rfl, ⟨?_, h.2.1.trans hb, Nat.lt_of_lt_of_le h.2.2 hb.size⟩, hot⟩
  rw [byteCells_append, ← Lib.strCells_eq]
  exact .inr h1
theorem to_str (w W : World) (bs : List UInt8) (h : Holds w bs W) (h0 : bs ≠ []) :
    Calls Tryd.prog 18 #[.pointer (some ⟨w.heap.size, 0, none⟩)] W fun e W' => e = .returned (.string ⟨bs.toArray⟩) ∧ Below w.heap.size w W' := by
  refine (Bld.String w.heap.size w.heap.size bs W h.1 h0).mono ?_
  rintro e W' ⟨rfl, hb⟩
  exact ⟨rfl, h.2.1.trans hb⟩
theorem holds_fresh (w : World) : Holds w [] (w.alloc (.cells #[.pointer none, .slice none 0 0] 52)) :=
  ⟨Lib.fresh_isBuilder _ _ w, (by repeat (with_reducible (first | exact Below.refl _ _ | assumption | refine Below.to ?_ (by assumption) | refine below_drewN ?_ _ | refine Below.alloc ?_ (by first | (simp; done) | omega | (simp; omega) | (simp at *; omega)) _ | refine Below.setCell ?_ (by first | (simp; done) | omega | (simp; omega) | (simp at *; omega)) _ | refine Below.drew ?_))), by simp⟩
/-- the head of put's loop -/
def Putting (w W : World) (bs : List UInt8) (xs : List Int) (v : Value) (wr : World) : Prop := ∃ k : Nat, k ≤ xs.length ∧ v = .int .i64 k ∧ Holds w (bs ++ (xs.take k).flatMap Pl.b2) wr ∧ Others 5 w.heap.size W wr
theorem put_step {bs : List UInt8} {xs : List Int} {k : Nat} (h : k < xs.length) : bs ++ (xs.take k).flatMap Pl.b2 ++ [UInt8.ofNat (xs.getD k 0 / 256).toNat] ++ [UInt8.ofNat (xs.getD k 0 % 256).toNat] = bs ++ (xs.take (k + 1)).flatMap Pl.b2 := by
  rw [List.take_succ_eq_append_getElem h, List.flatMap_append, List.getD_eq_getElem?_getD, List.getElem?_eq_getElem h]
  simp [Pl.b2]
theorem put_len {xs : List Int} (k : Nat) : ((xs.take k).flatMap Pl.b2).length ≤ 2 * xs.length := by
  have h : ∀ m : List Int, (m.flatMap Pl.b2).length = 2 * m.length := by
    intro m
    induction m with
    | nil => rfl
    | cons x m ih => rw [List.flatMap_cons, List.length_append, ih, List.length_cons]; simp [Pl.b2]; omega
  rw [h]
  have := Pl.take_len xs k
  omega
set_option maxHeartbeats 4000000 in
set_option maxRecDepth 100000 in
theorem put (w W : World) (bs : List UInt8) (xs : List Int) (g c : Nat) (cs : Array Value) (fr : Nat × Nat) (h : Holds w bs W) (hg : W.heap[g]? = some (.cells cs 3 fr)) (hcs : ∀ i, i < xs.length → cs[i]? = some (.int .i64 (xs.getD i 0))) (hsm : Pl.small xs) (hn : xs.length ≤ 1000) (hl : bs.length ≤ 10000) (hgb : g ≠ w.heap.size) :
    Calls Tryd.prog 16 #[.slice (some ⟨g, 0, none⟩) xs.length c, .pointer (some ⟨w.heap.size, 0, none⟩)] W fun e W' => e = .returned (.tuple #[]) ∧ Holds w (bs ++ xs.flatMap Pl.b2) W' ∧ Others 5 w.heap.size W W' := by
  have HH := Lib.hid h
  have HG := Lib.hid hg
  have HCS := Lib.hid hcs
  have HSM := Lib.hid hsm
  clear h hg hcs hsm
  go_enter Tryd.func16, Tryd.ntmps16
  repeat' (first | go_values | go_skip | go_guarded | (with_reducible (first | refine ex_then_ret ?_ | refine ex_then_exit ?_ | refine ex_then_normal ?_ | refine ex_block_ret ?_ | refine ex_block_normal ?_ | refine ex_block_same ?_ | refine ex_block_other (by decide) ?_)) | go_step | go_upon)
  go_loopw [7] (fun v wr => Putting w W bs xs v wr) (fun v _ => xs.length - (intOf v).toNat)
  case atStart => exact ⟨0, Nat.zero_le _, rfl, by simpa using HH.out, Others.refl _ _ _⟩
  case round =>
    obtain ⟨k, hk, rfl, hh, hot⟩ := hrel
    have HK := Lib.hid hh
    have HOT := Lib.hid hot
    clear hh hot
    have hpl := put_len (xs := xs) k
    by_cases hlt : k < xs.length
    · have hx := HSM.out (xs.getD k 0) (by rw [List.getD_eq_getElem?_getD, List.getElem?_eq_getElem hlt]; exact List.getElem_mem hlt)
      have hgk : wr.heap[g]? = some (.cells cs 3 fr) := (HOT.out g cs _ fr HG.out hgb (by decide)).trans HG.out
      have c0 : wr.cell? ⟨g, 0 + k, none⟩ = some (.int .i64 (xs.getD k 0)) := by rw [Nat.zero_add, Lib.cell_of_heap hgk]; exact HCS.out k hlt
      have HST := Lib.hid (put_step (bs := bs) hlt)
      rw [Nat.zero_add] at c0
      clear hgk
      generalize xs.getD k 0 = x at *
      obtain ⟨hx0, hx1⟩ := hx
      repeat' (first | go_values | go_skip | go_guarded | (with_reducible (first | refine ex_then_ret ?_ | refine ex_then_exit ?_ | refine ex_then_normal ?_ | refine ex_block_ret ?_ | refine ex_block_normal ?_ | refine ex_block_same ?_ | refine ex_block_other (by decide) ?_)) | go_step | go_upon)
      refine (wr_byte w _ _ (x / 256) HK.out (by omega) (by omega) (by rw [List.length_append]; omega)).mono ?_
      rintro e w1 ⟨rfl, h1, ho1⟩
      have H1 := Lib.hid h1
      have HO1 := Lib.hid ho1
      clear h1 ho1
      dsimp only
      repeat' (first | go_values | go_skip | go_guarded | (with_reducible (first | refine ex_then_ret ?_ | refine ex_then_exit ?_ | refine ex_then_normal ?_ | refine ex_block_ret ?_ | refine ex_block_normal ?_ | refine ex_block_same ?_ | refine ex_block_other (by decide) ?_)) | go_step | go_upon)
      refine (wr_byte w _ _ (x % 256) H1.out (by omega) (by omega) (by rw [List.length_append, List.length_append, List.length_singleton]; omega)).mono ?_
      rintro e w2 ⟨rfl, h2, ho2⟩
      have H2 := Lib.hid h2
      have HO2 := Lib.hid ho2
      clear h2 ho2
      dsimp only
      repeat' (first | go_values | go_skip | go_guarded | (with_reducible (first | refine ex_then_ret ?_ | refine ex_then_exit ?_ | refine ex_then_normal ?_ | refine ex_block_ret ?_ | refine ex_block_normal ?_ | refine ex_block_same ?_ | refine ex_block_other (by decide) ?_)) | go_step | go_upon)
      exact ⟨⟨k + 1, by omega, by go_num, by rw [← HST.out]; exact H2.out, (HOT.out.trans HO1.out).trans HO2.out⟩, by simp [intOf]; omega⟩
    · obtain rfl : k = xs.length := by omega
      repeat' (first | go_values | go_skip | go_guarded | (with_reducible (first | refine ex_then_ret ?_ | refine ex_then_exit ?_ | refine ex_then_normal ?_ | refine ex_block_ret ?_ | refine ex_block_normal ?_ | refine ex_block_same ?_ | refine ex_block_other (by decide) ?_)) | go_step | go_upon)
      go_end0
      exact ⟨rfl, by have := HK.out; rw [List.take_length] at this; exact this, HOT.out⟩
/-- the same, the numbers in a slice that has just been laid -/
theorem put_new (w W : World) (bs : List UInt8) (xs : List Int) (g n c : Nat) (cs : Array Value) (h : Holds w bs W) (hg : g = W.heap.size) (hn : n = xs.length) (hcs : ∀ i, i < xs.length → cs[i]? = some (.int .i64 (xs.getD i 0))) (hsm : Pl.small xs) (hn' : xs.length ≤ 1000) (hl : bs.length ≤ 10000) :
    Calls Tryd.prog 16 #[.slice (some ⟨g, 0, none⟩) n c, .pointer (some ⟨w.heap.size, 0, none⟩)] (W.alloc (.cells cs 3)) fun e W' => e = .returned (.tuple #[]) ∧ Holds w (bs ++ xs.flatMap Pl.b2) W' := by
  subst hg hn
  refine (put w (W.alloc (.cells cs 3)) bs xs W.heap.size c cs (0, 0) (h.below ((Below.refl _ _).alloc (Nat.le_refl _) _)) (heap_alloc_new W _) hcs hsm hn' hl (by have := h.2.2; omega)).mono ?_
  rintro e W' ⟨rfl, h1, _⟩
  exact ⟨rfl, h1⟩
end Plan
end Go.Proofs.YtiggoojjefmcoaaDoor
