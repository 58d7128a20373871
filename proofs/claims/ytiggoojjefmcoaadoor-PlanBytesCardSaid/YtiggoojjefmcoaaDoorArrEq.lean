/- '==' of two arrays, element by element: a law for the walk. No condition. -/
import Derived.WalkKit
import Derived.WalkSpells
import Derived.WalkLawsBesides
namespace Go.Proofs.YtiggoojjefmcoaaDoor
open Go

def arrOf (P : Program) (t : TypeId) : Nat × TypeId :=
  match P.underlying t with
  | some (.array n e) => (n, e)
  | _ => (0, 0)
attribute [go_sem] arrOf

def eqFrom (d : Nat) (e : TypeId) (n : Nat) (xs ys : Array Value) : Nat → Nat → Sem Bool
  | _, 0 => pure true
  | i, k + 1 => do
    let a ← part e xs (i * n)
    let b ← part e ys (i * n)
    let r ← Op.equalIn d e a b
    if (!r) = true then pure false else eqFrom d e n xs ys (i + 1) k
attribute [go_sem] eqFrom

section
variable {P : Program} (w : World)
theorem run_forIn_range (d : Nat) (e : TypeId) (n : Nat) (xs ys : Array Value) : ∀ (k i : Nat) (w : World),
    ((do
      let r ← forIn (List.range' i k) ((none, ()) : Option Bool × Unit) (fun j _ => do
        let a ← part e xs (j * n)
        let b ← part e ys (j * n)
        let r ← Op.equalIn d e a b
        if (!r) = true then pure (ForInStep.done (some false, ())) else pure (ForInStep.yield (none, ())))
      match r.fst with
      | some a => pure a
      | none => pure true) : Sem Bool).run P w = (eqFrom d e n xs ys i k).run P w := by
  intro k
  induction k with
  | zero => intro i w; simp [eqFrom]
  | succ k ih =>
    intro i w
    simp only [List.range'_succ, List.forIn_cons, eqFrom, Sem.run_bind]
    generalize (part e xs (i * n)).run P w = r1
    cases r1 with
    | ok a w1 =>
      simp only [Result.andThen_ok]
      generalize (part e ys (i * n)).run P w1 = r2
      cases r2 with
      | ok b w2 =>
        simp only [Result.andThen_ok]
        generalize (Op.equalIn d e a b).run P w2 = r3
        cases r3 with
        | ok r w3 =>
          cases r
          · simp
          · have := ih (i + 1) w3
            simp only [Sem.run_bind] at this
            simpa using this
        | halt x w3 => simp [Result.andThen]
      | halt x w2 => simp [Result.andThen]
    | halt x w1 => simp [Result.andThen]

theorem run_equalIn_array (d : Nat) (t : TypeId) (xs ys : Array Value) (i : TypeInfo) (ht : P.underlying t = some (.array (arrOf P t).1 (arrOf P t).2)) (hn : P.info? (arrOf P t).2 = some i) :
    (Op.equalIn (d + 1) t (.agg xs) (.agg ys)).run P w = (eqFrom d (arrOf P t).2 i.size xs ys 0 (arrOf P t).1).run P w := by
  rw [← run_forIn_range]
  simp [Op.equalIn, run_underlying ht, sizeOf, typeInfo, hn, Std.Legacy.Range.forIn_eq_forIn_range', Std.Legacy.Range.size]
  refine congrArg (fun f => Result.andThen _ f) ?_
  funext a w'
  rcases a with ⟨_ | _, _⟩ <;> rfl

theorem run_eql_array (t : TypeId) (xs ys : Array Value) : (binOp .eql t (.agg xs) (.agg ys)).run P w = ((Op.equalIn 10000 t (.agg xs) (.agg ys)).run P w).andThen fun b w' => .ok (.bool b) w' := run_eql_struct w t xs ys
end
end Go.Proofs.YtiggoojjefmcoaaDoor
