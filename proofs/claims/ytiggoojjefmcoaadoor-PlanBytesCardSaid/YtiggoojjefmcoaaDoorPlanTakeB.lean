/- plan.Take: what the call has made, and how it stays while it reads on. No condition. -/
import Derived.Test.YtiggoojjefmcoaaDoorPlanTakeA
import Derived.WalkKit
import Derived.WalkSpells
import Derived.WalkLawsBesides
import Derived.Lib.Hide
import Derived.BigQuiet
import Derived.Deep.QuietTactic

set_option linter.unusedVariables false
set_option linter.unusedSimpArgs false
namespace Go.Proofs.YtiggoojjefmcoaaDoor
open Go.RowKit
namespace Tk
open Rdr
/-- rows of numbers that the call made -/
def OwnI (W : World) (B : Nat) (T : TypeId) (sz : Nat) (v : Value) (l : List (List Int)) : Prop := W.ownsRow B T sz v l.length (l.flatMap intCells) ∧ ∀ r ∈ l, r.length = sz
theorem own_nil (W : World) (B : Nat) (T : TypeId) (sz : Nat) : OwnI W B T sz (.slice none 0 0) [] := ⟨World.ownsRow_nil _ _ _ _, fun r hr => by cases hr⟩
theorem own_stay {W W' : World} {B sz : Nat} {T : TypeId} {v : Value} {l : List (List Int)} (h : OwnI W B T sz v l) (hs : ∀ (k : Nat) (c : Array Value), W.heap[k]? = some (.cells c T (0, 0)) → W'.heap[k]? = W.heap[k]?) : OwnI W' B T sz v l :=
  ⟨ownsRow_same h.1 (fun g hg => by obtain ⟨_, _, cur, hc⟩ := ownBlock_lt h.1 hg; exact hs g cur hc), h.2⟩
theorem ne_of_types {W : World} {g k : Nat} {c c' : Array Value} {T T' : TypeId} (h : W.heap[g]? = some (.cells c T (0, 0))) (h' : W.heap[k]? = some (.cells c' T' (0, 0))) (hT : T ≠ T') : g ≠ k := by
  rintro rfl
  rw [h] at h'
  simp only [Option.some.injEq, Obj.cells.injEq] at h'
  exact hT h'.2.1
abbrev Res (w W : World) : Prop := W.heap[w.heap.size]? = some (.cells #[.slice none 0 0, .int .i64 0, .slice none 0 0, .slice none 0 0] 26 (0, 0))
abbrev Pln (w : World) (v1 : Value) (fr : Int) (v3 v4 : Value) (W : World) : Prop := W.heap[w.heap.size + 1 + 1]? = some (.cells #[v1, .int .i64 fr, v3, v4] 26 (0, 0))
/-- all that the call holds -/
structure Full (w : World) (st : Pl.St) (v1 v3 v4 : Value) (ps : List (List Int)) (fr : Int) (rs : List (Value × List (List Int))) (cs : List (List Int)) (W : World) : Prop where
  rd : Rd (w.heap.size + 1) st W
  res : Res w W
  pln : Pln w v1 fr v3 v4 W
  bel : Below w.heap.size w W
  parts : OwnI W w.heap.size 45 4 v1 ps
  wins : W.ownsRow w.heap.size 48 1 v3 rs.length (rs.map (·.1))
  rows : ∀ x ∈ rs, ∃ B, OwnI W B 47 3 x.1 x.2
  chans : OwnI W w.heap.size 62 5 v4 cs
/-- below B all is as it was, but for the reader -/
structure KU (b B : Nat) (W W' : World) : Prop where
  os : W'.os = W.os
  tape : W'.tape = W.tape
  output : W'.output = W.output
  size : W.heap.size ≤ W'.heap.size
  block : ∀ k, k < B → k ≠ b → W'.heap[k]? = W.heap[k]?
theorem KU.refl (b B : Nat) (W : World) : KU b B W W := ⟨rfl, rfl, rfl, Nat.le_refl _, fun _ _ _ => rfl⟩
theorem KU.trans {b B : Nat} {W W1 W2 : World} (h : KU b B W W1) (k : KU b B W1 W2) : KU b B W W2 :=
  ⟨k.os.trans h.os, k.tape.trans h.tape, k.output.trans h.output, Nat.le_trans h.size k.size, fun i h1 h2 => (k.block i h1 h2).trans (h.block i h1 h2)⟩
theorem KU.of {b B : Nat} {W W' : World} (h : Rdr.Kept b W W') (hB : B ≤ W.heap.size) : KU b B W W' := ⟨h.os, h.tape, h.output, h.size, fun i h1 h2 => h.block i (by omega) h2⟩
theorem KU.alloc {b B : Nat} {W0 W : World} (h : KU b B W0 W) (hB : B ≤ W.heap.size) (o : Obj) : KU b B W0 (W.alloc o) := h.trans ⟨rfl, rfl, rfl, by simp, fun i h1 _ => Lib.alloc_old W o i (by omega)⟩
theorem KU.set {b B : Nat} {W0 W : World} (h : KU b B W0 W) {k : Nat} (hB : B ≤ k) (j : Nat) (v : Value) : KU b B W0 (W.setCell ⟨k, j, none⟩ v) := h.trans ⟨rfl, rfl, rfl, by simp [World.setCell], fun i h1 _ => heap_set_ne (by omega)⟩
theorem rd_set {b k j : Nat} {st : Pl.St} {W : World} {v : Value} {c : Array Value} {T : TypeId} (h : Rd b st W) (hk : W.heap[k]? = some (.cells c T (0, 0))) (h1 : T ≠ 68) (h2 : T ≠ 95) : Rd b st (W.setCell ⟨k, j, none⟩ v) := by
  have hb : ∃ c, W.heap[b]? = some (.cells c 68 (0, 0)) := by obtain ⟨s, v, _, h0, _⟩ := h; exact ⟨_, h0⟩
  obtain ⟨cb, hb⟩ := hb
  refine h.same (fun i hi => heap_set_ne ?_)
  rcases hi with rfl | ⟨c', hi⟩
  · exact (ne_of_types hk hb h1).symm
  · exact (ne_of_types hk hi h2).symm
/-- what stands but for the reader stands whole -/
theorem full_keep {w W W' : World} {st st' : Pl.St} {v1 v3 v4 : Value} {ps cs : List (List Int)} {fr : Int} {rs : List (Value × List (List Int))} (h : Full w st v1 v3 v4 ps fr rs cs W) (hk : KU (w.heap.size + 1) W.heap.size W W') (hr : Rd (w.heap.size + 1) st' W') : Full w st' v1 v3 v4 ps fr rs cs W' := by
  have hb : ∃ c, W.heap[w.heap.size + 1]? = some (.cells c 68 (0, 0)) := by obtain ⟨s, v, _, h0, _⟩ := h.rd; exact ⟨_, h0⟩
  obtain ⟨cb, hb⟩ := hb
  have hst : ∀ (k : Nat) (c : Array Value) (T : TypeId), W.heap[k]? = some (.cells c T (0, 0)) → T ≠ 68 → W'.heap[k]? = W.heap[k]? := fun k c T hc hT => hk.block k (heap_lt hc) (ne_of_types hc hb hT)
  refine ⟨hr, (hst _ _ _ h.res (by decide)).trans h.res, (hst _ _ _ h.pln (by decide)).trans h.pln, h.bel.trans ⟨hk.os, hk.tape, hk.output, hk.size, fun k hkl => hk.block k (by have := h.bel.size; omega) (by omega)⟩, own_stay h.parts (fun k c hc => hst k c _ hc (by decide)), ?_, fun x hx => ?_, own_stay h.chans (fun k c hc => hst k c _ hc (by decide))⟩
  · exact ownsRow_same h.wins (fun g hg => by obtain ⟨_, _, cur, hc⟩ := ownBlock_lt h.wins hg; exact hst g cur _ hc (by decide))
  · obtain ⟨B, hx⟩ := h.rows x hx
    exact ⟨B, own_stay hx (fun k c hc => hst k c _ hc (by decide))⟩
theorem res_ne (w : World) : w.heap.size ≠ w.heap.size + 1 + 1 := by omega
/-- what an append to a row of type E, and a store into the plan, leave -/
theorem grow_store {w W W' : World} {st : Pl.St} {v1 v3 v4 : Value} {ps cs : List (List Int)} {fr : Int} {rs : List (Value × List (List Int))} {E : TypeId} {sz n : Nat} {v x : Value} {xs : List Value} {o : Obj} {j : Nat}
    (h : Full w st v1 v3 v4 ps fr rs cs W) (hown : W.ownsRow w.heap.size E sz v n xs) (hg : (W.alloc o).grownBy W' v.ownBlock) :
    (∀ (k : Nat) (c : Array Value) (T : TypeId), W.heap[k]? = some (.cells c T (0, 0)) → T ≠ E → k ≠ w.heap.size + 1 + 1 → (W'.setCell ⟨w.heap.size + 1 + 1, j, none⟩ x).heap[k]? = W.heap[k]?) ∧
    (∀ (k : Nat) (c : Array Value) (T : TypeId), W.heap[k]? = some (.cells c T (0, 0)) → T ≠ E → W'.heap[k]? = W.heap[k]?) ∧ Below w.heap.size w (W'.setCell ⟨w.heap.size + 1 + 1, j, none⟩ x) := by
  have h1 : ∀ (k : Nat) (c : Array Value) (T : TypeId), W.heap[k]? = some (.cells c T (0, 0)) → T ≠ E → W'.heap[k]? = W.heap[k]? := by
    intro k c T hk hT
    have hlt := heap_lt hk
    rw [hg.block k (by simp; omega) (by
      intro hh
      obtain ⟨_, _, cur, hcur⟩ := ownBlock_lt hown hh.symm
      exact ne_of_types hk hcur hT rfl), Lib.alloc_old W _ k hlt]
  have hgs := hg.size
  simp at hgs
  have hz := h.bel.size
  refine ⟨fun k c T hk hT hne => (heap_set_ne hne).trans (h1 k c T hk hT), h1, h.bel.trans ⟨hg.os, hg.tape, hg.output, by simp [World.setCell]; omega, fun k hk => ?_⟩⟩
  rw [heap_set_ne (by omega), hg.block k (by simp; omega) (by
    intro hh
    obtain ⟨hge, _⟩ := ownBlock_lt hown hh.symm
    omega), Lib.alloc_old W _ k (by omega)]
theorem rd_stay {b : Nat} {st : Pl.St} {W W' : World} (h : Rd b st W) (hs : ∀ (k : Nat) (c : Array Value) (T : TypeId), W.heap[k]? = some (.cells c T (0, 0)) → (T = 68 ∨ T = 95) → W'.heap[k]? = W.heap[k]?) : Rd b st W' := by
  have hb : ∃ c, W.heap[b]? = some (.cells c 68 (0, 0)) := by obtain ⟨s, v, _, h0, _⟩ := h; exact ⟨_, h0⟩
  obtain ⟨cb, hb⟩ := hb
  refine h.same (fun i hi => ?_)
  rcases hi with rfl | ⟨c', hi⟩
  · exact hs _ _ _ hb (.inl rfl)
  · exact hs _ _ _ hi (.inr rfl)
theorem pln_set {w W' : World} {v1 v3 v4 x : Value} {fr : Int} (h : Pln w v1 fr v3 v4 W') :
    Pln w x fr v3 v4 (W'.setCell ⟨w.heap.size + 1 + 1, 0, none⟩ x) ∧ Pln w v1 fr x v4 (W'.setCell ⟨w.heap.size + 1 + 1, 2, none⟩ x) ∧ Pln w v1 fr v3 x (W'.setCell ⟨w.heap.size + 1 + 1, 3, none⟩ x) := by
  refine ⟨?_, ?_, ?_⟩ <;> simp [Pln, World.setCell, Array.getElem?_modify, h]
theorem full_part {w W W' : World} {st : Pl.St} {v1 v3 v4 x : Value} {ps cs : List (List Int)} {fr : Int} {rs : List (Value × List (List Int))} {r : List Int} {o : Obj} (h : Full w st v1 v3 v4 ps fr rs cs W) (hg : (W.alloc o).grownBy W' v1.ownBlock) (hr : r.length = 4)
    (ho : W'.ownsRow w.heap.size 45 4 x (ps.length + 1) (ps.flatMap intCells ++ intCells r)) : Full w st x v3 v4 (ps ++ [r]) fr rs cs (W'.setCell ⟨w.heap.size + 1 + 1, 0, none⟩ x) := by
  obtain ⟨h1, h2, h3⟩ := grow_store (x := x) (j := 0) h h.parts.1 hg
  have hp : Pln w v1 fr v3 v4 W' := (h2 _ _ _ h.pln (by decide)).trans h.pln
  have hne : ∀ (k : Nat) (c : Array Value) (T : TypeId), W.heap[k]? = some (.cells c T (0, 0)) → T ≠ 45 → T ≠ 26 → (W'.setCell ⟨w.heap.size + 1 + 1, 0, none⟩ x).heap[k]? = W.heap[k]? := fun k c T hc hT hP => h1 k c T hc hT (ne_of_types hc h.pln hP)
  refine ⟨rd_stay h.rd (fun k c T hc hT => hne k c T hc (by rcases hT with rfl | rfl <;> decide) (by rcases hT with rfl | rfl <;> decide)), (h1 _ _ _ h.res (by decide) (res_ne w)).trans h.res, (pln_set hp).1, h3, ⟨?_, ?_⟩, ?_, fun y hy => ?_, own_stay h.chans (fun k c hc => hne k c _ hc (by decide) (by decide))⟩
  · have ho' : W'.ownsRow w.heap.size 45 4 x (ps ++ [r]).length ((ps ++ [r]).flatMap intCells) := by simpa using ho
    refine ownsRow_same ho' (fun g hgo => heap_set_ne ?_)
    obtain ⟨_, _, cur, hc⟩ := ownBlock_lt ho' hgo
    exact ne_of_types hc hp (by decide)
  · intro y hy
    rcases List.mem_append.mp hy with hy | hy
    · exact h.parts.2 y hy
    · obtain rfl : y = r := by simpa using hy
      exact hr
  · exact ownsRow_same h.wins (fun g hgo => by obtain ⟨_, _, cur, hc⟩ := ownBlock_lt h.wins hgo; exact hne g cur _ hc (by decide) (by decide))
  · obtain ⟨B, hx⟩ := h.rows y hy
    exact ⟨B, own_stay hx (fun k c hc => hne k c _ hc (by decide) (by decide))⟩
theorem full_chan {w W W' : World} {st : Pl.St} {v1 v3 v4 x : Value} {ps cs : List (List Int)} {fr : Int} {rs : List (Value × List (List Int))} {r : List Int} {o : Obj} (h : Full w st v1 v3 v4 ps fr rs cs W) (hg : (W.alloc o).grownBy W' v4.ownBlock) (hr : r.length = 5)
    (ho : W'.ownsRow w.heap.size 62 5 x (cs.length + 1) (cs.flatMap intCells ++ intCells r)) : Full w st v1 v3 x ps fr rs (cs ++ [r]) (W'.setCell ⟨w.heap.size + 1 + 1, 3, none⟩ x) := by
  obtain ⟨h1, h2, h3⟩ := grow_store (x := x) (j := 3) h h.chans.1 hg
  have hp : Pln w v1 fr v3 v4 W' := (h2 _ _ _ h.pln (by decide)).trans h.pln
  have hne : ∀ (k : Nat) (c : Array Value) (T : TypeId), W.heap[k]? = some (.cells c T (0, 0)) → T ≠ 62 → T ≠ 26 → (W'.setCell ⟨w.heap.size + 1 + 1, 3, none⟩ x).heap[k]? = W.heap[k]? := fun k c T hc hT hP => h1 k c T hc hT (ne_of_types hc h.pln hP)
  refine ⟨rd_stay h.rd (fun k c T hc hT => hne k c T hc (by rcases hT with rfl | rfl <;> decide) (by rcases hT with rfl | rfl <;> decide)), (h1 _ _ _ h.res (by decide) (res_ne w)).trans h.res, (pln_set hp).2.2, h3, own_stay h.parts (fun k c hc => hne k c _ hc (by decide) (by decide)), ?_, fun y hy => ?_, ?_, ?_⟩
  · exact ownsRow_same h.wins (fun g hgo => by obtain ⟨_, _, cur, hc⟩ := ownBlock_lt h.wins hgo; exact hne g cur _ hc (by decide) (by decide))
  · obtain ⟨B, hx⟩ := h.rows y hy
    exact ⟨B, own_stay hx (fun k c hc => hne k c _ hc (by decide) (by decide))⟩
  · have ho' : W'.ownsRow w.heap.size 62 5 x (cs ++ [r]).length ((cs ++ [r]).flatMap intCells) := by simpa using ho
    refine ownsRow_same ho' (fun g hgo => heap_set_ne ?_)
    obtain ⟨_, _, cur, hc⟩ := ownBlock_lt ho' hgo
    exact ne_of_types hc hp (by decide)
  · intro y hy
    rcases List.mem_append.mp hy with hy | hy
    · exact h.chans.2 y hy
    · obtain rfl : y = r := by simpa using hy
      exact hr
theorem full_win {w W W' : World} {st : Pl.St} {v1 v3 v4 x u : Value} {ps cs : List (List Int)} {fr : Int} {rs : List (Value × List (List Int))} {l : List (List Int)} {B : Nat} {o : Obj} (h : Full w st v1 v3 v4 ps fr rs cs W) (hg : (W.alloc o).grownBy W' v3.ownBlock) (hr : OwnI W B 47 3 u l)
    (ho : W'.ownsRow w.heap.size 48 1 x (rs.length + 1) (rs.map (·.1) ++ [u])) : Full w st v1 x v4 ps fr (rs ++ [(u, l)]) cs (W'.setCell ⟨w.heap.size + 1 + 1, 2, none⟩ x) := by
  obtain ⟨h1, h2, h3⟩ := grow_store (x := x) (j := 2) h h.wins hg
  have hp : Pln w v1 fr v3 v4 W' := (h2 _ _ _ h.pln (by decide)).trans h.pln
  have hne : ∀ (k : Nat) (c : Array Value) (T : TypeId), W.heap[k]? = some (.cells c T (0, 0)) → T ≠ 48 → T ≠ 26 → (W'.setCell ⟨w.heap.size + 1 + 1, 2, none⟩ x).heap[k]? = W.heap[k]? := fun k c T hc hT hP => h1 k c T hc hT (ne_of_types hc h.pln hP)
  refine ⟨rd_stay h.rd (fun k c T hc hT => hne k c T hc (by rcases hT with rfl | rfl <;> decide) (by rcases hT with rfl | rfl <;> decide)), (h1 _ _ _ h.res (by decide) (res_ne w)).trans h.res, (pln_set hp).2.1, h3, own_stay h.parts (fun k c hc => hne k c _ hc (by decide) (by decide)), ?_, fun y hy => ?_, own_stay h.chans (fun k c hc => hne k c _ hc (by decide) (by decide))⟩
  · have ho' : W'.ownsRow w.heap.size 48 1 x (rs ++ [(u, l)]).length ((rs ++ [(u, l)]).map (·.1)) := by simpa using ho
    refine ownsRow_same ho' (fun g hgo => heap_set_ne ?_)
    obtain ⟨_, _, cur, hc⟩ := ownBlock_lt ho' hgo
    exact ne_of_types hc hp (by decide)
  · rcases List.mem_append.mp hy with hy | hy
    · obtain ⟨B, hx⟩ := h.rows y hy
      exact ⟨B, own_stay hx (fun k c hc => hne k c _ hc (by decide) (by decide))⟩
    · obtain rfl : y = (u, l) := by simpa using hy
      exact ⟨B, own_stay hr (fun k c hc => hne k c _ hc (by decide) (by decide))⟩
theorem full_frame {w W : World} {st : Pl.St} {v1 v3 v4 : Value} {ps cs : List (List Int)} {fr fr' : Int} {rs : List (Value × List (List Int))} (h : Full w st v1 v3 v4 ps fr rs cs W) : Full w st v1 v3 v4 ps fr' rs cs (W.setCell ⟨w.heap.size + 1 + 1, 1, none⟩ (.int .i64 fr')) := by
  have hne : ∀ (k : Nat) (c : Array Value) (T : TypeId), W.heap[k]? = some (.cells c T (0, 0)) → T ≠ 26 → (W.setCell ⟨w.heap.size + 1 + 1, 1, none⟩ (.int .i64 fr')).heap[k]? = W.heap[k]? := fun k c T hc hP => heap_set_ne (ne_of_types hc h.pln hP)
  refine ⟨rd_stay h.rd (fun k c T hc hT => hne k c T hc (by rcases hT with rfl | rfl <;> decide)), (heap_set_ne (res_ne w)).trans h.res, ?_, h.bel.trans ⟨rfl, rfl, rfl, by simp [World.setCell], fun k hk => heap_set_ne (by omega)⟩, own_stay h.parts (fun k c hc => hne k c _ hc (by decide)), ?_, fun y hy => ?_, own_stay h.chans (fun k c hc => hne k c _ hc (by decide))⟩
  · have := h.pln
    simp [Pln, World.setCell, Array.getElem?_modify, this]
  · exact ownsRow_same h.wins (fun g hgo => by obtain ⟨_, _, cur, hc⟩ := ownBlock_lt h.wins hgo; exact hne g cur _ hc (by decide))
  · obtain ⟨B, hx⟩ := h.rows y hy
    exact ⟨B, own_stay hx (fun k c hc => hne k c _ hc (by decide))⟩
theorem numS_le (m : Nat) (st : Pl.St) : 0 ≤ (Pl.numS m st).1 ∧ (Pl.numS m st).1 ≤ m ∧ (Pl.numS m st).1 < 65536 := by
  match st with
  | .error c => exact ⟨Int.le_refl _, Int.natCast_nonneg _, by show (0 : Int) < 65536; omega⟩
  | .ok l =>
    simp only [Pl.numS]
    match h : Pl.num m l with
    | .error c => exact ⟨Int.le_refl _, Int.natCast_nonneg _, by show (0 : Int) < 65536; omega⟩
    | .ok (x, t) =>
      obtain ⟨h1, h2, h3, _⟩ := Pl.num_ok h
      exact ⟨h1, h3, h2⟩
theorem step4 {st st1 st2 st3 st4 : Pl.St} {x0 x1 x2 x3 : Int} (k : Nat) (h0 : Pl.numS 65536 st = (x0, st1)) (h1 : Pl.numS 65536 st1 = (x1, st2)) (h2 : Pl.numS 65536 st2 = (x2, st3)) (h3 : Pl.numS 65536 st3 = (x3, st4)) :
    Pl.rowsS 4 (k + 1) st = ([x0, x1, x2, x3] :: (Pl.rowsS 4 k st4).1, (Pl.rowsS 4 k st4).2) := by simp only [Pl.rowsS, Pl.anysS, h0, h1, h2, h3]
theorem step3 {st st1 st2 st3 : Pl.St} {x0 x1 x2 : Int} (k : Nat) (h0 : Pl.numS 65536 st = (x0, st1)) (h1 : Pl.numS 65536 st1 = (x1, st2)) (h2 : Pl.numS 65536 st2 = (x2, st3)) :
    Pl.rowsS 3 (k + 1) st = ([x0, x1, x2] :: (Pl.rowsS 3 k st3).1, (Pl.rowsS 3 k st3).2) := by simp only [Pl.rowsS, Pl.anysS, h0, h1, h2]
theorem step5 {st st1 st2 st3 st4 st5 : Pl.St} {x0 x1 x2 x3 x4 : Int} (k : Nat) (h0 : Pl.numS 65536 st = (x0, st1)) (h1 : Pl.numS 65536 st1 = (x1, st2)) (h2 : Pl.numS 65536 st2 = (x2, st3)) (h3 : Pl.numS 65536 st3 = (x3, st4)) (h4 : Pl.numS 65536 st4 = (x4, st5)) :
    Pl.rowsS 5 (k + 1) st = ([x0, x1, x2, x3, x4] :: (Pl.rowsS 5 k st5).1, (Pl.rowsS 5 k st5).2) := by simp only [Pl.rowsS, Pl.anysS, h0, h1, h2, h3, h4]
/-- a block that stands but for the reader -/
theorem kept_heap {b k : Nat} {W W' : World} {o : Obj} (hk : Rdr.Kept b W W') (h : W.heap[k]? = some o) (hne : k ≠ b) : W'.heap[k]? = some o := (hk.block k (heap_lt h) hne).trans h
theorem set_heap {b j : Nat} {W : World} {cs : Array Value} {T : TypeId} {v : Value} (h : W.heap[b]? = some (.cells cs T (0, 0))) : (W.setCell ⟨b, j, none⟩ v).heap[b]? = some (.cells (cs.setIfInBounds j v) T (0, 0)) := by
  simp [World.setCell, Array.getElem?_modify, h]
end Tk
end Go.Proofs.YtiggoojjefmcoaaDoor
