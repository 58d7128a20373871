/- load.unpack's num: a number off bytes, or why not, told once. No condition. -/
import Derived.Test.YtonhphdoieojfaaDoorProg
import Derived.Test.YtonhphdoieojfaaDoorBase2
import Derived.Test.YtonhphdoieojfaaDoorBuild
import Derived.Handy
import Derived.WalkKit
import Derived.WalkSpells
import Derived.WalkLawsBesides
import Derived.Lib.Hide
import Derived.BigQuiet
import Derived.Deep.QuietTactic

set_option linter.unusedVariables false
set_option linter.unusedSimpArgs false
namespace Go.Proofs.YtonhphdoieojfaaDoor
open Go.RowKit
namespace Unp
/-- what 'err' holds: nothing, or why the bytes are none -/
def ErrV (W : World) (e : Option Nat) (v : Value) : Prop :=
  match e with
  | none => v = .nilIface
  | some c => ∃ (q : Int) (x : Nat), v = .iface 64 (.agg #[.int .i64 q, .iface 52 (.pointer (some ⟨x, 0, none⟩))]) ∧ W.heap[x]? = some (.cells #[.int .i64 (c : Int)] 56 (0, 0))
/-- the variables that num shares with unpack -/
def Cl (b : Nat) (s : ByteArray) (p : Nat) (e : Option Nat) (W : World) : Prop :=
  W.heap[b]? = some (.cells #[.string s] 9 (0, 0)) ∧ (∃ v, W.heap[b + 1]? = some (.cells #[v] 44 (0, 0)) ∧ ErrV W e v) ∧ W.heap[b + 2]? = some (.cells #[.int .i64 (p : Int)] 3 (0, 0))
/-- below B all is as it was, but for 'err' and 'place' -/
structure Kept (b B : Nat) (W W' : World) : Prop where
  os : W'.os = W.os
  tape : W'.tape = W.tape
  output : W'.output = W.output
  size : W.heap.size ≤ W'.heap.size
  block : ∀ k, k < B → k ≠ b + 1 → k ≠ b + 2 → W'.heap[k]? = W.heap[k]?
theorem Kept.refl (b B : Nat) (W : World) : Kept b B W W := ⟨rfl, rfl, rfl, Nat.le_refl _, fun _ _ _ _ => rfl⟩
theorem Kept.trans {b B : Nat} {W W1 W2 : World} (h : Kept b B W W1) (k : Kept b B W1 W2) : Kept b B W W2 :=
  ⟨k.os.trans h.os, k.tape.trans h.tape, k.output.trans h.output, Nat.le_trans h.size k.size, fun i h1 h2 h3 => (k.block i h1 h2 h3).trans (h.block i h1 h2 h3)⟩
theorem Kept.mono {b B B' : Nat} {W W' : World} (h : Kept b B W W') (hB : B' ≤ B) : Kept b B' W W' := ⟨h.os, h.tape, h.output, h.size, fun i h1 h2 h3 => h.block i (by omega) h2 h3⟩
theorem Kept.of {b B : Nat} {W W' : World} (h : Below B W W') : Kept b B W W' := ⟨h.os, h.tape, h.output, h.size, fun i h1 _ _ => h.block i h1⟩
theorem Kept.below {b B : Nat} {W W' : World} (h : Kept b B W W') (hB : b ≤ B) : Below b W W' := ⟨h.os, h.tape, h.output, h.size, fun i h1 => h.block i (by omega) (by omega) (by omega)⟩
theorem heap_cell {W : World} {b : Nat} {cs : Array Value} {T : TypeId} {fr : Nat × Nat} (h : W.heap[b]? = some (.cells cs T fr)) (j : Nat) : W.cell? ⟨b, j, none⟩ = cs[j]? := Lib.cell_of_heap h j
theorem heap_lt {W : World} {b : Nat} {o : Obj} (h : W.heap[b]? = some o) : b < W.heap.size := (Array.getElem?_eq_some_iff.1 h).1
theorem heap_set {W : World} {b : Nat} {v x : Value} {T : TypeId} (h : W.heap[b]? = some (.cells #[v] T (0, 0))) : (W.setCell ⟨b, 0, none⟩ x).heap[b]? = some (.cells #[x] T (0, 0)) := by
  simp [World.setCell, Array.getElem?_modify, h]
theorem heap_set_ne {W : World} {b k : Nat} {x : Value} (h : k ≠ b) : (W.setCell ⟨b, 0, none⟩ x).heap[k]? = W.heap[k]? := Below.heap_setCell _ _ _ _ (fun e => h (by simp [e]))
theorem heap_new (W : World) (o : Obj) : (W.alloc o).heap[W.heap.size]? = some o := heap_alloc_new W o
theorem heap_old {W : World} {o : Obj} {k : Nat} {u : Obj} (h : W.heap[k]? = some u) : (W.alloc o).heap[k]? = some u := by
  rw [Lib.alloc_old W o k (heap_lt h)]
  exact h
/-- num fails: why is told -/
theorem cl_fail {b : Nat} {s : ByteArray} {p : Nat} {W : World} (h : Cl b s p none W) (c : Nat) (q C : Int) (hC : C = c) :
    Cl b s p (some c) ((W.setCell ⟨b + 1, 0, none⟩ (.iface 64 (.agg #[.int .i64 q, .iface 52 (.pointer (some ⟨W.heap.size, 0, none⟩))]))).alloc (.cells #[.int .i64 C] 56)) ∧
    Kept b W.heap.size W ((W.setCell ⟨b + 1, 0, none⟩ (.iface 64 (.agg #[.int .i64 q, .iface 52 (.pointer (some ⟨W.heap.size, 0, none⟩))]))).alloc (.cells #[.int .i64 C] 56)) := by
  obtain ⟨h0, ⟨v, h1, _⟩, h2⟩ := h
  subst hC
  have hl := heap_lt h1
  have hl2 := heap_lt h2
  have hsz : ∀ x, (W.setCell ⟨b + 1, 0, none⟩ x).heap.size = W.heap.size := fun x => by simp [World.setCell]
  refine ⟨⟨?_, ⟨_, heap_old (heap_set h1), q, W.heap.size, rfl, ?_⟩, ?_⟩, ?_⟩
  · exact heap_old (by rw [heap_set_ne (by omega)]; exact h0)
  · have := heap_new (W.setCell ⟨b + 1, 0, none⟩ (.iface 64 (.agg #[.int .i64 q, .iface 52 (.pointer (some ⟨W.heap.size, 0, none⟩))]))) (.cells #[.int .i64 (c : Int)] 56)
    rw [hsz] at this
    exact this
  · exact heap_old (by rw [heap_set_ne (by omega)]; exact h2)
  · refine ⟨rfl, rfl, rfl, by simp [World.setCell], fun k hk hk1 hk2 => ?_⟩
    rw [Lib.alloc_old _ _ k (by rw [hsz]; exact hk), heap_set_ne hk1]
theorem cl_next {b : Nat} {s : ByteArray} {p : Nat} {e : Option Nat} {W : World} (h : Cl b s p none W) (p' : Nat) :
    Cl b s p' none (W.setCell ⟨b + 2, 0, none⟩ (.int .i64 (p' : Int))) ∧ Kept b W.heap.size W (W.setCell ⟨b + 2, 0, none⟩ (.int .i64 (p' : Int))) := by
  obtain ⟨h0, ⟨v, h1, hv⟩, h2⟩ := h
  refine ⟨⟨?_, ⟨v, ?_, hv⟩, heap_set h2⟩, ?_⟩
  · rw [heap_set_ne (by omega)]; exact h0
  · rw [heap_set_ne (by omega)]; exact h1
  · exact ⟨rfl, rfl, rfl, by simp [World.setCell], fun k hk hk1 hk2 => heap_set_ne hk2⟩
abbrev cap (b : Nat) (m : Int) : Array Value := #[.int .i64 m, .pointer (some ⟨b + 1, 0, none⟩), .pointer (some ⟨b + 1 + 1, 0, none⟩), .pointer (some ⟨b, 0, none⟩)]
/-- num said why -/
def Fails (b : Nat) (s : ByteArray) (p c : Nat) (W : World) (ev : Ending) (W' : World) : Prop := ev = .returned (.int .i64 0) ∧ Cl b s p (some c) W' ∧ Kept b W.heap.size W W'
def Takes (b : Nat) (s : ByteArray) (p : Nat) (n : Int) (W : World) (ev : Ending) (W' : World) : Prop := ev = .returned (.int .i64 n) ∧ Cl b s (p + 1) none W' ∧ Kept b W.heap.size W W'
set_option maxHeartbeats 1000000 in
theorem num_err (b : Nat) (s : ByteArray) (p c : Nat) (m : Int) (W : World) (h : Cl b s p (some c) W) : Calls Tryd.prog 26 (cap b m) W (Is (.int .i64 0) W) := by
  obtain ⟨h0, ⟨v, h1, q, x, rfl, hx⟩, h2⟩ := h
  have c1 : W.cell? ⟨b + 1, 0, none⟩ = some (.iface 64 (.agg #[.int .i64 q, .iface 52 (.pointer (some ⟨x, 0, none⟩))])) := heap_cell h1 0
  clear h0 h1 h2 hx
  go_enter Tryd.func26, Tryd.ntmps26
  repeat' (first | go_values | go_skip | go_guarded | (with_reducible (first | refine ex_then_ret ?_ | refine ex_then_exit ?_ | refine ex_then_normal ?_ | refine ex_block_ret ?_ | refine ex_block_normal ?_ | refine ex_block_same ?_ | refine ex_block_other (by decide) ?_)) | go_step | go_upon | go_quiet (fail))
  all_goals go_ret
  all_goals exact is_int rfl
set_option maxHeartbeats 1000000 in
theorem num_more (b : Nat) (s : ByteArray) (p : Nat) (m : Int) (W : World) (h : Cl b s p none W) (hs : s.size ≤ 140737488355328) (hp : s.size ≤ p) (hp' : p ≤ 140737488355328) : Calls Tryd.prog 26 (cap b m) W (Fails b s p 2 W) := by
  have HF := Lib.hid (cl_fail h 2 p 2 rfl)
  obtain ⟨h0, ⟨v, h1, rfl⟩, h2⟩ := h
  have c1 : W.cell? ⟨b + 1, 0, none⟩ = some .nilIface := heap_cell h1 0
  have c0 : W.cell? ⟨b, 0, none⟩ = some (.string s) := heap_cell h0 0
  have c2 : W.cell? ⟨b + 2, 0, none⟩ = some (.int .i64 (p : Int)) := heap_cell h2 0
  have hl := heap_lt h2
  have hl0 : b < W.heap.size := by omega
  have hl1 : b + 1 < W.heap.size := by omega
  have f1 : W.frozen? ⟨b + 1, 0, none⟩ = false := Lib.frozen_of_heap h1 0
  have f2 : W.frozen? ⟨b + 2, 0, none⟩ = false := Lib.frozen_of_heap h2 0
  clear h0 h1 h2
  have hpI : ¬ (p : Int) < s.size := by omega
  go_enter Tryd.func26, Tryd.ntmps26
  repeat' (first | go_values | go_skip | go_guarded | (with_reducible (first | refine ex_then_ret ?_ | refine ex_then_exit ?_ | refine ex_then_normal ?_ | refine ex_block_ret ?_ | refine ex_block_normal ?_ | refine ex_block_same ?_ | refine ex_block_other (by decide) ?_)) | go_step | go_upon | go_quiet (fail))
  go_ret
  exact ⟨rfl, HF.out⟩
set_option maxHeartbeats 1000000 in
theorem num_big (b : Nat) (s : ByteArray) (p : Nat) (m : Int) (W : World) (h : Cl b s p none W) (hs : s.size ≤ 140737488355328) (hp : p < s.size) (hm : m < (s[p].toNat : Int)) : Calls Tryd.prog 26 (cap b m) W (Fails b s p 4 W) := by
  have HF := Lib.hid (cl_fail h 4 p 4 rfl)
  obtain ⟨h0, ⟨v, h1, rfl⟩, h2⟩ := h
  have c1 : W.cell? ⟨b + 1, 0, none⟩ = some .nilIface := heap_cell h1 0
  have c0 : W.cell? ⟨b, 0, none⟩ = some (.string s) := heap_cell h0 0
  have c2 : W.cell? ⟨b + 2, 0, none⟩ = some (.int .i64 (p : Int)) := heap_cell h2 0
  have hl := heap_lt h2
  have hl0 : b < W.heap.size := by omega
  have hl1 : b + 1 < W.heap.size := by omega
  have f1 : W.frozen? ⟨b + 1, 0, none⟩ = false := Lib.frozen_of_heap h1 0
  have f2 : W.frozen? ⟨b + 2, 0, none⟩ = false := Lib.frozen_of_heap h2 0
  clear h0 h1 h2
  have hpI : (p : Int) < s.size := by omega
  have hp0 : (0 : Int) ≤ p := by omega
  have hx1 : (s[p].toNat : Int) ≤ 255 := by have := s[p].toNat_lt; omega
  go_enter Tryd.func26, Tryd.ntmps26
  repeat' (first | go_values | go_skip | go_guarded | (with_reducible (first | refine ex_then_ret ?_ | refine ex_then_exit ?_ | refine ex_then_normal ?_ | refine ex_block_ret ?_ | refine ex_block_normal ?_ | refine ex_block_same ?_ | refine ex_block_other (by decide) ?_)) | go_step | go_upon | go_quiet (fail))
  go_ret
  exact ⟨rfl, HF.out⟩
set_option maxHeartbeats 1000000 in
theorem num_ok (b : Nat) (s : ByteArray) (p : Nat) (m : Int) (W : World) (h : Cl b s p none W) (hs : s.size ≤ 140737488355328) (hp : p < s.size) (hm : ¬ m < (s[p].toNat : Int)) : Calls Tryd.prog 26 (cap b m) W (Takes b s p s[p].toNat W) := by
  have HF := Lib.hid (cl_next (e := none) h (p + 1))
  obtain ⟨h0, ⟨v, h1, rfl⟩, h2⟩ := h
  have c1 : W.cell? ⟨b + 1, 0, none⟩ = some .nilIface := heap_cell h1 0
  have c0 : W.cell? ⟨b, 0, none⟩ = some (.string s) := heap_cell h0 0
  have c2 : W.cell? ⟨b + 2, 0, none⟩ = some (.int .i64 (p : Int)) := heap_cell h2 0
  have hl := heap_lt h2
  have hl0 : b < W.heap.size := by omega
  have hl1 : b + 1 < W.heap.size := by omega
  have f1 : W.frozen? ⟨b + 1, 0, none⟩ = false := Lib.frozen_of_heap h1 0
  have f2 : W.frozen? ⟨b + 2, 0, none⟩ = false := Lib.frozen_of_heap h2 0
  clear h0 h1 h2
  have hpI : (p : Int) < s.size := by omega
  have hp0 : (0 : Int) ≤ p := by omega
  have hx1 : (s[p].toNat : Int) ≤ 255 := by have := s[p].toNat_lt; omega
  go_enter Tryd.func26, Tryd.ntmps26
  repeat' (first | go_values | go_skip | go_guarded | (with_reducible (first | refine ex_then_ret ?_ | refine ex_then_exit ?_ | refine ex_then_normal ?_ | refine ex_block_ret ?_ | refine ex_block_normal ?_ | refine ex_block_same ?_ | refine ex_block_other (by decide) ?_)) | go_step | go_upon | go_quiet (fail))
  go_ret
  exact ⟨rfl, HF.out⟩
end Unp
end Go.Proofs.YtonhphdoieojfaaDoor
