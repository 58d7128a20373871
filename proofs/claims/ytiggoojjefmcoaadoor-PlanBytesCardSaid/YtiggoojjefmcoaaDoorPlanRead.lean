/- plan's reader: num, any, errno. Condition: bytes are as many as a string can have. -/
import Derived.Test.YtiggoojjefmcoaaDoorPlanErrW
import Derived.Test.YtiggoojjefmcoaaDoorPlanSticky
import Derived.Test.YtiggoojjefmcoaaDoorOwn
import Derived.Handy
import Derived.IntWalk
import Derived.Laws.BitsAllLaws
import Derived.WalkKit
import Derived.WalkSpells
import Derived.WalkLawsBesides
import Derived.Lib.Hide
import Derived.BigQuiet
import Derived.Deep.QuietTactic

set_option linter.unusedVariables false
set_option linter.unusedSimpArgs false
namespace Go.Proofs.YtiggoojjefmcoaaDoor
open Go.RowKit
namespace Rdr
theorem heap_cell {W : World} {b : Nat} {cs : Array Value} {T : TypeId} {fr : Nat × Nat} (h : W.heap[b]? = some (.cells cs T fr)) (j : Nat) : W.cell? ⟨b, j, none⟩ = cs[j]? := Lib.cell_of_heap h j
theorem heap_lt {W : World} {b : Nat} {o : Obj} (h : W.heap[b]? = some o) : b < W.heap.size := (Array.getElem?_eq_some_iff.1 h).1
theorem heap_new (W : World) (o : Obj) : (W.alloc o).heap[W.heap.size]? = some o := heap_alloc_new W o
theorem heap_old {W : World} {o : Obj} {k : Nat} {u : Obj} (h : W.heap[k]? = some u) : (W.alloc o).heap[k]? = some u := by
  rw [Lib.alloc_old W o k (heap_lt h)]
  exact h
theorem heap_set_ne {W : World} {b k j : Nat} {x : Value} (h : k ≠ b) : (W.setCell ⟨b, j, none⟩ x).heap[k]? = W.heap[k]? := Below.heap_setCell _ _ _ _ (fun e => h (by simp [e]))
theorem heap_set0 {W : World} {b : Nat} {u v x : Value} {T : TypeId} (h : W.heap[b]? = some (.cells #[u, v] T (0, 0))) : (W.setCell ⟨b, 0, none⟩ x).heap[b]? = some (.cells #[x, v] T (0, 0)) := by
  simp [World.setCell, Array.getElem?_modify, h]
theorem heap_set1 {W : World} {b : Nat} {u v x : Value} {T : TypeId} (h : W.heap[b]? = some (.cells #[u, v] T (0, 0))) : (W.setCell ⟨b, 1, none⟩ x).heap[b]? = some (.cells #[u, x] T (0, 0)) := by
  simp [World.setCell, Array.getElem?_modify, h]
/-- why the bytes are none, as r.err holds it -/
def ErrV (W : World) (c : Nat) (v : Value) : Prop :=
  (c = 2 ∧ ∃ p, v = .iface 99 (.agg #[.pointer p, Err.shortV])) ∨ (c = 4 ∧ ∃ x : Nat, v = .iface 93 (.pointer (some ⟨x, 0, none⟩)) ∧ W.heap[x]? = some (.cells #[.int .i64 4] 95 (0, 0)))
/-- the reader at b: what is left to read, or what went wrong -/
def Rd (b : Nat) (st : Pl.St) (W : World) : Prop :=
  ∃ (s : ByteArray) (v : Value), s.size ≤ 140737488355328 ∧ W.heap[b]? = some (.cells #[.string s, v] 68 (0, 0)) ∧
    match st with
    | .ok l => s.data.toList = l ∧ v = .nilIface
    | .error c => ErrV W c v
/-- all blocks but b stand -/
structure Kept (b : Nat) (W W' : World) : Prop where
  os : W'.os = W.os
  tape : W'.tape = W.tape
  output : W'.output = W.output
  size : W.heap.size ≤ W'.heap.size
  block : ∀ k, k < W.heap.size → k ≠ b → W'.heap[k]? = W.heap[k]?
theorem Kept.refl (b : Nat) (W : World) : Kept b W W := ⟨rfl, rfl, rfl, Nat.le_refl _, fun _ _ _ => rfl⟩
theorem Kept.trans {b : Nat} {W W1 W2 : World} (h : Kept b W W1) (k : Kept b W1 W2) : Kept b W W2 :=
  ⟨k.os.trans h.os, k.tape.trans h.tape, k.output.trans h.output, Nat.le_trans h.size k.size, fun i h1 h2 => (k.block i (Nat.lt_of_lt_of_le h1 h.size) h2).trans (h.block i h1 h2)⟩
theorem Kept.of {b : Nat} {W W' : World} (h : Below W.heap.size W W') : Kept b W W' := ⟨h.os, h.tape, h.output, h.size, fun i h1 _ => h.block i h1⟩
theorem Rd.same {b : Nat} {st : Pl.St} {W W' : World} (h : Rd b st W) (hb : ∀ k : Nat, (k = b ∨ ∃ c, W.heap[k]? = some (.cells c 95 (0, 0))) → W'.heap[k]? = W.heap[k]?) : Rd b st W' := by
  obtain ⟨s, v, hs, h0, h1⟩ := h
  refine ⟨s, v, hs, by rw [hb b (.inl rfl)]; exact h0, ?_⟩
  match st, h1 with
  | .ok l, h1 => exact h1
  | .error c, h1 =>
    rcases h1 with h1 | ⟨hc, x, hv, hx⟩
    · exact .inl h1
    · exact .inr ⟨hc, x, hv, by rw [hb x (.inr ⟨_, hx⟩)]; exact hx⟩
theorem Rd.below {b : Nat} {st : Pl.St} {W W' : World} (h : Rd b st W) (hb : Below W.heap.size W W') : Rd b st W' := by
  have hl : b < W.heap.size := by obtain ⟨s, v, hs, h0, _⟩ := h; exact heap_lt h0
  refine h.same (fun k hk => hb.block k ?_)
  rcases hk with rfl | ⟨c, hk⟩
  · exact hl
  · exact heap_lt hk
/-- what num does -/
def Num (b m : Nat) (st : Pl.St) (W : World) (ev : Ending) (W' : World) : Prop := ev = .returned (.int .i64 (Pl.numS m st).1) ∧ Rd b (Pl.numS m st).2 W' ∧ Kept b W W'
theorem i64_or_nat (a b : Nat) (ha : a < 4611686018427387904) (hb : b < 4611686018427387904) : bits .or .i64 (a : Int) (b : Int) = ((a ||| b : Nat) : Int) := by
  have hx : a ||| b < 2 ^ 62 := Nat.or_lt_two_pow (by omega) (by omega)
  show IntKind.i64.wrap ((BitVec.ofInt 64 (a : Int) ||| BitVec.ofInt 64 (b : Int)).toNat : Int) = _
  rw [BitVec.toNat_or, ofInt_u64 a (by omega), ofInt_u64 b (by omega)]
  exact IntWalk.i64_in _ (by omega)
theorem or_byte (a b : Nat) (ha : a < 256) (hb : b < 256) : bits .or .i64 ((a : Int) * 256) (b : Int) = (a : Int) * 256 + b := by
  have h := i64_or_nat (a * 256) b (by omega) (by omega)
  rw [nat_join 8 _ _ (by omega) (by omega)] at h
  simpa using h
theorem set_alloc {b : Nat} {W : World} {u v x : Value} {o : Obj} (h : W.heap[b]? = some (.cells #[u, v] 68 (0, 0))) : ((W.setCell ⟨b, 1, none⟩ x).alloc o).heap[b]? = some (.cells #[u, x] 68 (0, 0)) ∧ Kept b W ((W.setCell ⟨b, 1, none⟩ x).alloc o) ∧ ((W.setCell ⟨b, 1, none⟩ x).alloc o).heap[W.heap.size]? = some o := by
  have hsz : (W.setCell ⟨b, 1, none⟩ x).heap.size = W.heap.size := by simp [World.setCell]
  refine ⟨heap_old (heap_set1 h), ⟨rfl, rfl, rfl, by simp [World.setCell], fun k hk hkb => (Lib.alloc_old _ _ k (by rw [hsz]; exact hk)).trans (heap_set_ne hkb)⟩, ?_⟩
  have := heap_new (W.setCell ⟨b, 1, none⟩ x) o
  rw [hsz] at this
  exact this
set_option maxHeartbeats 1000000 in
set_option maxRecDepth 100000 in
theorem num_err (b : Nat) (c m : Nat) (W : World) (h : Rd b (.error c) W) (hm : m ≤ 65536) : Calls Tryd.prog 20 #[.pointer (some ⟨b, 0, none⟩), .int .i64 (m : Int)] W (Num b m (.error c) W) := by
  have HH := Lib.hid h
  obtain ⟨s, v, hs, h0, hv⟩ := h
  have c0 : W.cell? ⟨b, 0, none⟩ = some (.string s) := heap_cell h0 0
  have c1 : W.cell? ⟨b, 1, none⟩ = some v := heap_cell h0 1
  rcases hv with ⟨_, p, rfl⟩ | ⟨_, x, rfl, _⟩
  all_goals
    clear h0
    go_enter Tryd.func20, Tryd.ntmps20
    repeat' (first | go_values | go_skip | go_guarded | (with_reducible (first | refine ex_then_ret ?_ | refine ex_then_exit ?_ | refine ex_then_normal ?_ | refine ex_block_ret ?_ | refine ex_block_normal ?_ | refine ex_block_same ?_ | refine ex_block_other (by decide) ?_)) | go_step | go_upon | go_quiet (fail))
    go_ret
    exact ⟨rfl, HH.out, Kept.refl _ _⟩
theorem numS_more {m : Nat} {l : List UInt8} (h : l.length < 2) : Pl.numS m (.ok l) = (0, .error 2) := by
  match l, h with
  | [], _ => rfl
  | [a], _ => rfl
set_option maxHeartbeats 1000000 in
set_option maxRecDepth 100000 in
theorem num_more (b : Nat) (s : ByteArray) (m : Nat) (W : World) (h : Rd b (.ok s.data.toList) W) (hm : m ≤ 65536) (h2 : s.size < 2) : Calls Tryd.prog 20 #[.pointer (some ⟨b, 0, none⟩), .int .i64 (m : Int)] W (Num b m (.ok s.data.toList) W) := by
  obtain ⟨s', v, hs, h0, he, rfl⟩ := h
  obtain rfl : s' = s := ByteArray.ext (Array.ext' he)
  have c0 : W.cell? ⟨b, 0, none⟩ = some (.string s') := heap_cell h0 0
  have c1 : W.cell? ⟨b, 1, none⟩ = some .nilIface := heap_cell h0 1
  have f1 : W.frozen? ⟨b, 1, none⟩ = false := Lib.frozen_of_heap h0 1
  have hl := heap_lt h0
  have HS := Lib.hid (numS_more (m := m) (l := s'.data.toList) (by rw [Array.length_toList]; exact h2))
  have H0 := Lib.hid h0
  clear h0
  have h2I : (s'.size : Int) < 2 := by omega
  go_enter Tryd.func20, Tryd.ntmps20
  repeat' (first | go_values | go_skip | go_guarded | (with_reducible (first | refine ex_then_ret ?_ | refine ex_then_exit ?_ | refine ex_then_normal ?_ | refine ex_block_ret ?_ | refine ex_block_normal ?_ | refine ex_block_same ?_ | refine ex_block_other (by decide) ?_)) | go_step | go_upon | go_quiet (fail))
  go_ret
  unfold Num
  rw [HS.out]
  exact ⟨rfl, ⟨s', _, hs, heap_old (heap_set1 H0.out), .inl ⟨rfl, _, rfl⟩⟩, rfl, rfl, rfl, by simp [World.setCell], fun k hk hkb => (Lib.alloc_old _ _ k (by simpa [World.setCell] using hk)).trans (heap_set_ne hkb)⟩
theorem numS_two {m : Nat} (s : ByteArray) (h : 2 ≤ s.size) : Pl.numS m (.ok s.data.toList) = (if m < s[0].toNat * 256 + s[1].toNat then ((0 : Int), (Except.error 4 : Pl.St)) else (((s[0].toNat * 256 + s[1].toNat : Nat) : Int), (Except.ok (s.extract 2 s.size).data.toList : Pl.St))) := by
  have e : (s.extract 2 s.size).data.toList = s.data.toList.drop 2 := by
    rw [ByteArray.data_extract, Array.toList_extract, List.extract_eq_take_drop, List.take_of_length_le]
    rw [List.length_drop, Array.length_toList]
    show s.data.size - 2 ≤ s.data.size - 2
    exact Nat.le_refl _
  rw [e]
  have hl : 2 ≤ s.data.toList.length := by rw [Array.length_toList]; exact h
  have h0 : s.data.toList[0]? = some s[0] := List.getElem?_eq_getElem (by omega)
  have h1 : s.data.toList[1]? = some s[1] := List.getElem?_eq_getElem (by omega)
  generalize s[0] = a at *
  generalize s[1] = b at *
  match hm : s.data.toList, hl, h0, h1 with
  | a' :: b' :: t, _, h0, h1 =>
    simp only [List.getElem?_cons_zero, List.getElem?_cons_succ, Option.some.injEq] at h0 h1
    subst h0 h1
    simp only [Pl.numS, Pl.num, List.drop_succ_cons, List.drop_zero]
    by_cases h3 : m < a'.toNat * 256 + b'.toNat
    · rw [if_pos h3, if_pos h3]
    · rw [if_neg h3, if_neg h3]
set_option maxHeartbeats 1000000 in
set_option maxRecDepth 100000 in
theorem num_two (b : Nat) (s : ByteArray) (m : Nat) (W : World) (h : Rd b (.ok s.data.toList) W) (hm : m ≤ 65536) (h2 : 2 ≤ s.size) : Calls Tryd.prog 20 #[.pointer (some ⟨b, 0, none⟩), .int .i64 (m : Int)] W (Num b m (.ok s.data.toList) W) := by
  obtain ⟨s', v, hs, h0, he, rfl⟩ := h
  obtain rfl : s' = s := ByteArray.ext (Array.ext' he)
  have c0 : W.cell? ⟨b, 0, none⟩ = some (.string s') := heap_cell h0 0
  have c1 : W.cell? ⟨b, 1, none⟩ = some .nilIface := heap_cell h0 1
  have f1 : W.frozen? ⟨b, 1, none⟩ = false := Lib.frozen_of_heap h0 1
  have f0 : W.frozen? ⟨b, 0, none⟩ = false := Lib.frozen_of_heap h0 0
  have hl := heap_lt h0
  have HS := Lib.hid (numS_two (m := m) s' h2)
  have H0 := Lib.hid h0
  clear h0 he
  have h2I : ¬ (s'.size : Int) < 2 := by omega
  have l0 : 0 < s'.size := by omega
  have l1 : 1 < s'.size := by omega
  have l1I : (1 : Int) < (s'.size : Int) := by omega
  have l2I : (2 : Int) ≤ (s'.size : Int) := by omega
  have x0 : (s'[0].toNat : Int) ≤ 255 := by have := s'[0].toNat_lt; omega
  have x1 : (s'[1].toNat : Int) ≤ 255 := by have := s'[1].toNat_lt; omega
  have hor := or_byte s'[0].toNat s'[1].toNat (by omega) (by omega)
  by_cases hbig : m < s'[0].toNat * 256 + s'[1].toNat
  · have hbI : (m : Int) < (s'[0].toNat : Int) * 256 + (s'[1].toNat : Int) := by omega
    have HS2 := Lib.hid (HS.out.trans (if_pos hbig))
    clear HS
    go_enter Tryd.func20, Tryd.ntmps20
    repeat' (first | go_values | go_skip | go_guarded | (with_reducible (first | refine ex_then_ret ?_ | refine ex_then_exit ?_ | refine ex_then_normal ?_ | refine ex_block_ret ?_ | refine ex_block_normal ?_ | refine ex_block_same ?_ | refine ex_block_other (by decide) ?_)) | go_step | go_upon | go_quiet (fail))
    go_ret
    have h1 : ((W.drewN nq).setCell ⟨b, 0, none⟩ (.string (s'.extract 2 s'.size))).heap[b]? = some (.cells #[.string (s'.extract 2 s'.size), .nilIface] 68 (0, 0)) := heap_set0 (W := W.drewN nq) H0.out
    obtain ⟨h2, h3, h4⟩ := set_alloc (x := .iface 93 (.pointer (some ⟨W.heap.size, 0, none⟩))) (o := .cells #[.int .i64 4] 95) h1
    have hsz : ((W.drewN nq).setCell ⟨b, 0, none⟩ (.string (s'.extract 2 s'.size))).heap.size = W.heap.size := by simp [World.setCell]
    rw [hsz] at h4
    have hK0 : Kept b W ((W.drewN nq).setCell ⟨b, 0, none⟩ (.string (s'.extract 2 s'.size))) := ⟨rfl, rfl, rfl, by simp [World.setCell], fun k hk hkb => heap_set_ne (W := W.drewN nq) hkb⟩
    unfold Num
    rw [HS2.out]
    exact ⟨rfl, ⟨_, _, by rw [ByteArray.size_extract]; omega, h2, .inr ⟨rfl, _, rfl, h4⟩⟩, hK0.trans h3⟩
  · have hbI : ¬ (m : Int) < (s'[0].toNat : Int) * 256 + (s'[1].toNat : Int) := by omega
    have HS2 := Lib.hid (HS.out.trans (if_neg hbig))
    clear HS
    go_enter Tryd.func20, Tryd.ntmps20
    repeat' (first | go_values | go_skip | go_guarded | (with_reducible (first | refine ex_then_ret ?_ | refine ex_then_exit ?_ | refine ex_then_normal ?_ | refine ex_block_ret ?_ | refine ex_block_normal ?_ | refine ex_block_same ?_ | refine ex_block_other (by decide) ?_)) | go_step | go_upon | go_quiet (fail))
    go_ret
    have h1 : ((W.drewN nq).setCell ⟨b, 0, none⟩ (.string (s'.extract 2 s'.size))).heap[b]? = some (.cells #[.string (s'.extract 2 s'.size), .nilIface] 68 (0, 0)) := heap_set0 (W := W.drewN nq) H0.out
    unfold Num
    rw [HS2.out]
    exact ⟨by congr 2, ⟨_, _, by rw [ByteArray.size_extract]; omega, h1, rfl, rfl⟩, ⟨rfl, rfl, rfl, by simp [World.setCell], fun k hk hkb => heap_set_ne (W := W.drewN nq) hkb⟩⟩
/-- num, whatever is left -/
theorem num (b m : Nat) (st : Pl.St) (W : World) (h : Rd b st W) (hm : m ≤ 65536) : Calls Tryd.prog 20 #[.pointer (some ⟨b, 0, none⟩), .int .i64 (m : Int)] W (Num b m st W) := by
  match st, h with
  | .error c, h => exact num_err b c m W h hm
  | .ok l, h =>
    obtain ⟨s, v, hs, h0, he, hv⟩ := id h
    subst he
    by_cases h2 : s.size < 2
    · exact num_more b s m W h hm h2
    · exact num_two b s m W h hm (by omega)
theorem any (b : Nat) (st : Pl.St) (W : World) (h : Rd b st W) : Calls Tryd.prog 21 #[.pointer (some ⟨b, 0, none⟩)] W (Num b 65536 st W) := by
  have HN := Lib.hid (num b 65536 st W h (Nat.le_refl _))
  go_enter Tryd.func21, Tryd.ntmps21
  repeat' (first | go_values | go_skip | go_guarded | (with_reducible (first | refine ex_then_ret ?_ | refine ex_then_exit ?_ | refine ex_then_normal ?_ | refine ex_block_ret ?_ | refine ex_block_normal ?_ | refine ex_block_same ?_ | refine ex_block_other (by decide) ?_)) | go_step | go_upon)
  refine HN.out.mono ?_
  rintro ev w1 ⟨rfl, h1, h2⟩
  dsimp only
  repeat' (first | go_values | go_skip | go_guarded | (with_reducible (first | refine ex_then_ret ?_ | refine ex_then_exit ?_ | refine ex_then_normal ?_ | refine ex_block_ret ?_ | refine ex_block_normal ?_ | refine ex_block_same ?_ | refine ex_block_other (by decide) ?_)) | go_step | go_upon)
  go_ret
  exact ⟨rfl, h1, h2⟩
/-- what errno answers -/
def errnoV : Pl.St → Int
  | .error c => c
  | .ok l => if l = [] then 0 else 3
theorem toList_nil {s : ByteArray} (h : s.data.toList = []) : s.toList = [] := by rw [ByteArray.toList_eq]; exact h
theorem toList_ne_nil {s : ByteArray} (h : ¬ s.data.toList = []) : ¬ s.toList = [] := by rw [ByteArray.toList_eq]; exact h
set_option maxHeartbeats 4000000 in
set_option maxRecDepth 100000 in
theorem errno (b : Nat) (st : Pl.St) (W : World) (h : Rd b st W) (hg : W.cell? ⟨0, 0, none⟩ = some (.iface 126 (.agg #[Err.hE]))) : Calls Tryd.prog 22 #[.pointer (some ⟨b, 0, none⟩)] W (Gives (.int .i64 (errnoV st)) W) := by
  have hl0 : 0 < W.heap.size := by
    rcases Nat.eq_zero_or_pos W.heap.size with h0 | h'
    · simp [World.cell?, h0] at hg
    · exact h'
  obtain ⟨s, v, hs, h0, hv⟩ := h
  have c0 : W.cell? ⟨b, 0, none⟩ = some (.string s) := heap_cell h0 0
  have c1 : W.cell? ⟨b, 1, none⟩ = some v := heap_cell h0 1
  have hl := heap_lt h0
  match st, hv with
  | .error c, hv =>
    rcases hv with ⟨rfl, p, rfl⟩ | ⟨rfl, x, rfl, hx⟩
    · clear h0
      go_enter Tryd.func22, Tryd.ntmps22
      repeat' (first | go_values | go_skip | go_guarded | (with_reducible (first | refine ex_then_ret ?_ | refine ex_then_exit ?_ | refine ex_then_normal ?_ | refine ex_block_ret ?_ | refine ex_block_normal ?_ | refine ex_block_same ?_ | refine ex_block_other (by decide) ?_)) | go_step | go_upon | go_quiet (fail))
      refine (Err.Is_at p _).mono ?_
      rintro ev w1 ⟨rfl, hb1⟩
      dsimp only
      repeat' (first | go_values | go_skip | go_guarded | (with_reducible (first | refine ex_then_ret ?_ | refine ex_then_exit ?_ | refine ex_then_normal ?_ | refine ex_block_ret ?_ | refine ex_block_normal ?_ | refine ex_block_same ?_ | refine ex_block_other (by decide) ?_)) | go_step | go_upon | go_quiet (fail))
      go_ret
      exact gives_int rfl (by repeat (with_reducible (first | exact Below.refl _ _ | assumption | refine Below.to ?_ (by assumption) | refine below_drewN ?_ _ | refine Below.alloc ?_ (by first | (simp; done) | omega | (simp; omega) | (simp at *; omega)) _ | refine Below.setCell ?_ (by first | (simp; done) | omega | (simp; omega) | (simp at *; omega)) _ | refine Below.drew ?_)))
    · have cx : W.cell? ⟨x, 0, none⟩ = some (.int .i64 4) := heap_cell hx 0
      have hxl := heap_lt hx
      have HG := Lib.hid hg
      clear h0 hx hg
      go_enter Tryd.func22, Tryd.ntmps22
      repeat' (first | go_values | go_skip | go_guarded | (with_reducible (first | refine ex_then_ret ?_ | refine ex_then_exit ?_ | refine ex_then_normal ?_ | refine ex_block_ret ?_ | refine ex_block_normal ?_ | refine ex_block_same ?_ | refine ex_block_other (by decide) ?_)) | go_step | go_upon | go_quiet (fail))
      refine (Err.Is_bad _ _).mono ?_
      rintro ev w1 ⟨rfl, rfl⟩
      dsimp only
      repeat' (first | go_values | go_skip | go_guarded | (with_reducible (first | refine ex_then_ret ?_ | refine ex_then_exit ?_ | refine ex_then_normal ?_ | refine ex_block_ret ?_ | refine ex_block_normal ?_ | refine ex_block_same ?_ | refine ex_block_other (by decide) ?_)) | go_step | go_upon | go_quiet (fail))
      refine (Err.As_bad ⟨x, 0, none⟩ W.heap.size (.pointer none) _ (by go_simp; exact HG.out) (by go_simp) (by go_simp)).mono ?_
      rintro ev w2 ⟨rfl, hc2, hb2⟩
      have c2 : w2.cell? ⟨x, 0, none⟩ = some (.int .i64 4) := (hb2.cell (p := ⟨x, 0, none⟩) hxl).trans (by go_simp)
      have hbel : Below W.heap.size W w2 := ((Below.refl _ _).alloc (Nat.le_refl _) _).trans hb2
      dsimp only
      repeat' (first | go_values | go_skip | go_guarded | (with_reducible (first | refine ex_then_ret ?_ | refine ex_then_exit ?_ | refine ex_then_normal ?_ | refine ex_block_ret ?_ | refine ex_block_normal ?_ | refine ex_block_same ?_ | refine ex_block_other (by decide) ?_)) | go_step | go_upon | go_quiet (fail))
      go_ret
      exact gives_int rfl (by repeat (with_reducible (first | exact Below.refl _ _ | assumption | refine Below.to ?_ (by assumption) | refine below_drewN ?_ _ | refine Below.alloc ?_ (by first | (simp; done) | omega | (simp; omega) | (simp at *; omega)) _ | refine Below.setCell ?_ (by first | (simp; done) | omega | (simp; omega) | (simp at *; omega)) _ | refine Below.drew ?_)))
  | .ok l, ⟨he, hv⟩ =>
    subst he hv
    clear h0
    by_cases hn : s.data.toList = []
    · have hn' := toList_nil hn
      have hn2 : (!s.toList.isEmpty) = false := by rw [hn']; rfl
      have HE := Lib.hid (show (0 : Int) = errnoV (.ok s.data.toList) by rw [hn]; rfl)
      clear hn
      go_enter Tryd.func22, Tryd.ntmps22
      repeat' (first | go_values | go_skip | go_guarded | (with_reducible (first | refine ex_then_ret ?_ | refine ex_then_exit ?_ | refine ex_then_normal ?_ | refine ex_block_ret ?_ | refine ex_block_normal ?_ | refine ex_block_same ?_ | refine ex_block_other (by decide) ?_)) | go_step | go_upon | go_quiet (fail))
      refine (Err.Is_nil _ _ _ _ rfl).mono ?_
      rintro ev w1 ⟨rfl, rfl⟩
      dsimp only
      repeat' (first | go_values | go_skip | go_guarded | (with_reducible (first | refine ex_then_ret ?_ | refine ex_then_exit ?_ | refine ex_then_normal ?_ | refine ex_block_ret ?_ | refine ex_block_normal ?_ | refine ex_block_same ?_ | refine ex_block_other (by decide) ?_)) | go_step | go_upon | go_quiet (fail))
      refine (Err.as_nil _ _).mono ?_
      rintro ev w1 ⟨rfl, rfl⟩
      dsimp only
      repeat' (first | go_values | go_skip | go_guarded | (with_reducible (first | refine ex_then_ret ?_ | refine ex_then_exit ?_ | refine ex_then_normal ?_ | refine ex_block_ret ?_ | refine ex_block_normal ?_ | refine ex_block_same ?_ | refine ex_block_other (by decide) ?_)) | go_step | go_upon | go_quiet (fail))
      go_ret
      exact gives_int HE.out (by repeat (with_reducible (first | exact Below.refl _ _ | assumption | refine Below.to ?_ (by assumption) | refine below_drewN ?_ _ | refine Below.alloc ?_ (by first | (simp; done) | omega | (simp; omega) | (simp at *; omega)) _ | refine Below.setCell ?_ (by first | (simp; done) | omega | (simp; omega) | (simp at *; omega)) _ | refine Below.drew ?_)))
    · have hn' := toList_ne_nil hn
      have hn2 : (!s.toList.isEmpty) = true := by simpa using hn'
      have HE := Lib.hid (show (3 : Int) = errnoV (.ok s.data.toList) by simp only [errnoV, if_neg hn])
      clear hn
      go_enter Tryd.func22, Tryd.ntmps22
      repeat' (first | go_values | go_skip | go_guarded | (with_reducible (first | refine ex_then_ret ?_ | refine ex_then_exit ?_ | refine ex_then_normal ?_ | refine ex_block_ret ?_ | refine ex_block_normal ?_ | refine ex_block_same ?_ | refine ex_block_other (by decide) ?_)) | go_step | go_upon | go_quiet (fail))
      refine (Err.Is_nil _ _ _ _ rfl).mono ?_
      rintro ev w1 ⟨rfl, rfl⟩
      dsimp only
      repeat' (first | go_values | go_skip | go_guarded | (with_reducible (first | refine ex_then_ret ?_ | refine ex_then_exit ?_ | refine ex_then_normal ?_ | refine ex_block_ret ?_ | refine ex_block_normal ?_ | refine ex_block_same ?_ | refine ex_block_other (by decide) ?_)) | go_step | go_upon | go_quiet (fail))
      refine (Err.as_nil _ _).mono ?_
      rintro ev w1 ⟨rfl, rfl⟩
      dsimp only
      repeat' (first | go_values | go_skip | go_guarded | (with_reducible (first | refine ex_then_ret ?_ | refine ex_then_exit ?_ | refine ex_then_normal ?_ | refine ex_block_ret ?_ | refine ex_block_normal ?_ | refine ex_block_same ?_ | refine ex_block_other (by decide) ?_)) | go_step | go_upon | go_quiet (fail))
      go_ret
      exact gives_int HE.out (by repeat (with_reducible (first | exact Below.refl _ _ | assumption | refine Below.to ?_ (by assumption) | refine below_drewN ?_ _ | refine Below.alloc ?_ (by first | (simp; done) | omega | (simp; omega) | (simp at *; omega)) _ | refine Below.setCell ?_ (by first | (simp; done) | omega | (simp; omega) | (simp at *; omega)) _ | refine Below.drew ?_)))
end Rdr
end Go.Proofs.YtiggoojjefmcoaaDoor
