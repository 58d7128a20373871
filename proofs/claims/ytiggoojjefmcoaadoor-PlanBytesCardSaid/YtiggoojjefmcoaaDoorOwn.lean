/- One more cell behind a row that the call owns: as an equation. Conditions: the row is the call's own; Go's own limit. -/
import Derived.Test.YtiggoojjefmcoaaDoorBuild
import Derived.Laws.AppendOwn
import Derived.OwnWalk
set_option linter.unusedVariables false
set_option linter.unusedSimpArgs false
namespace Go.Proofs.YtiggoojjefmcoaaDoor
open Go.RowKit
theorem append_one {P : Program} {base : Nat} {t ty e : TypeId} {z : Value} {bytes : Nat} (ht : P.underlying t = some (.slice e)) (hi : (P.info? e).map (fun i => (i.zero, i.size, i.bytes)) = some (some z, 1, bytes)) (hzs : z.cells.size = 1)
    {W : World} {v x : Value} {n : Nat} {xs : List Value} (hown : W.ownsRow base e 1 v n xs) (hx : x.oneCell' = true) (hb : (n + 1) * bytes ≤ 140737488355328) (hn : n + 1 ≤ 140737488355328) (hbase : base ≤ W.heap.size) :
    ∃ g cap W', (Builtin.append_ #[t, t] ty #[v, .slice (some ⟨W.heap.size, 0, none⟩) 1 1]).run P (W.alloc (.cells #[x] e)) = .ok (.slice (some ⟨g, 0, none⟩) (n + 1) cap) W' ∧ W'.ownsRow base e 1 (.slice (some ⟨g, 0, none⟩) (n + 1) cap) (n + 1) (xs ++ [x]) ∧ (W.alloc (.cells #[x] e)).grownBy W' v.ownBlock ∧ base ≤ g ∧ g < W'.heap.size := by
  obtain ⟨i, hi0, hz, hs, hby⟩ := info_parts hi
  obtain ⟨v', W', hrun, hown', hgrow, _⟩ := run_append_own (P := P) (W.alloc (.cells #[x] e)) base t ty e i z 1 bytes ht hi0 hz hs hby hzs (by decide) v n xs (hown.alloc _) ⟨W.heap.size, 0, none⟩ 1 1 [x] rfl
    (by
      intro j u hj
      match j, hj with
      | 0, hj =>
        simp at hj
        subst hj
        simp [Addr.add])
    (by intro u hu; simp at hu; subst hu; exact hx) (by unfold maxLen; omega) hb (by simp; omega)
  have hown2 := hown'
  rcases hown'.2 with ⟨_, h0⟩ | ⟨g, cap, cur, rfl, hg, hgg, _⟩
  · omega
  · exact ⟨g, cap, W', hrun, hown2, hgrow, hg, (Array.getElem?_eq_some_iff.1 hgg).1⟩
/-- an append whose run is known -/
theorem wpList_append_run {P : Program} (w : World) {ops : Array Oper} {rest : List Oper} {o : Oper} {a : Act} {Q : Exit → Act → World → Prop}
    (hg : o.guard = none) (s x : Operand) (t u : TypeId) (hop : o.op = Op.call { callee := Callee.builtin Builtin.append, args := #[s, x], argTypes := #[t, u] })
    (sv xv : Value) (hs : a.eval s = sv) (hx : a.eval x = xv) (v' : Value) (w' : World) (hrun : (Builtin.append_ #[t, u] o.type #[sv, xv]).run P w = .ok v' w') (hK : wpList P ops Q rest (a.put o.dst v') w') :
    wpList P ops Q (o :: rest) a w := by
  refine wpList_plain hg fun K hK' => ?_
  unfold Oper.wp
  simp [execOp, hop, resolve, invoke, builtin, hs, hx, hrun, Result.andThen]
  exact hK' _ _ hK
theorem ownBlock_lt {W : World} {base : Nat} {e : TypeId} {size : Nat} {v : Value} {n : Nat} {xs : List Value} (h : W.ownsRow base e size v n xs) {g : Nat} (hg : v.ownBlock = some g) : base ≤ g ∧ g < W.heap.size ∧ ∃ cur, W.heap[g]? = some (.cells cur e (0, 0)) := by
  rcases h.2 with ⟨rfl, _⟩ | ⟨g', cap, cur, rfl, hb, hgg, _⟩
  · cases hg
  · injection hg with hg
    have hg' : g' = g := hg
    subst hg'
    exact ⟨hb, (Array.getElem?_eq_some_iff.1 hgg).1, cur, hgg⟩
/-- a row that is owned stands where its own block stands -/
theorem ownsRow_same {W W' : World} {base : Nat} {e : TypeId} {size : Nat} {v : Value} {n : Nat} {xs : List Value} (h : W.ownsRow base e size v n xs) (hs : ∀ g, v.ownBlock = some g → W'.heap[g]? = W.heap[g]?) : W'.ownsRow base e size v n xs := by
  refine ⟨h.1, ?_⟩
  rcases h.2 with hn | ⟨g, cap, cur, rfl, hb', hgg, rest⟩
  · exact .inl hn
  · exact .inr ⟨g, cap, cur, rfl, hb', by rw [hs g rfl]; exact hgg, rest⟩
theorem ownsRow_mono {W : World} {base base' : Nat} {e : TypeId} {size : Nat} {v : Value} {n : Nat} {xs : List Value} (h : W.ownsRow base e size v n xs) (hb : base' ≤ base) : W.ownsRow base' e size v n xs := by
  refine ⟨h.1, ?_⟩
  rcases h.2 with hn | ⟨g, cap, cur, rfl, hb', rest⟩
  · exact .inl hn
  · exact .inr ⟨g, cap, cur, rfl, Nat.le_trans hb hb', rest⟩
theorem ownsRow_slice {W : World} {base : Nat} {e : TypeId} {size : Nat} {v : Value} {n : Nat} {xs : List Value} (h : W.ownsRow base e size v n xs) : ∃ a c, v = .slice a n c := by
  rcases h.2 with ⟨rfl, rfl⟩ | ⟨g, cap, cur, rfl, _⟩
  · exact ⟨none, 0, rfl⟩
  · exact ⟨_, _, rfl⟩
end Go.Proofs.YtiggoojjefmcoaaDoor
