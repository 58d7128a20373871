/- Small lemmas on worlds and readings that the other texts of this seat use. Conditions: none of its own. -/
import Derived.WalkKit
import Derived.WalkSpells
import Derived.ChangeSame
import Derived.Lib.Hide
import Derived.ProofKit
import Derived.OpenShut
import Derived.Deep.QuietTactic
namespace Go.Proofs.YtiggoojjefmcoaaDoor
open Go.RowKit Go.WideShapes Go.ChangeShapes

theorem bcell {W w1 : World} (hb : Below W.heap.size W w1) : (∀ b o, b < W.heap.size → w1.cell? ⟨b, o, none⟩ = W.cell? ⟨b, o, none⟩) ∧ (∀ b o, b < W.heap.size → w1.frozen? ⟨b, o, none⟩ = W.frozen? ⟨b, o, none⟩) :=
  ⟨fun b o h => hb.cell (p := ⟨b, o, none⟩) h, fun b o h => hb.frozen (p := ⟨b, o, none⟩) h⟩

theorem Below.to {a b c : World} (h : Below a.heap.size a b) (k : Below b.heap.size b c) : Below a.heap.size a c := h.trans (k.mono h.size)

theorem below_drewN {B : Nat} {a w : World} (h : Below B a w) (n : Nat) : Below B a (w.drewN n) := ⟨h.os, h.tape, h.output, h.size, h.block⟩

theorem bfacts {W w1 : World} (hb : Below W.heap.size W w1) : (∀ b o, b < W.heap.size → w1.cell? ⟨b, o, none⟩ = W.cell? ⟨b, o, none⟩) ∧ (∀ b o, b < W.heap.size → w1.frozen? ⟨b, o, none⟩ = W.frozen? ⟨b, o, none⟩) ∧ W.heap.size ≤ w1.heap.size :=
  ⟨fun b o h => hb.cell (p := ⟨b, o, none⟩) h, fun b o h => hb.frozen (p := ⟨b, o, none⟩) h, hb.size⟩

/-! The way out of blocks, a lemma a layer (the kernel reckons nested layers that simp opened at great cost). -/
section
variable {K : Act → World → Prop} {Q : Exit → Act → World → Prop} {a : Act} {w : World} {j k : Nat}
theorem ex_then_ret (h : Q .ret a w) : Exit.then K Q .ret a w := h
theorem ex_then_exit (h : Q (.exit k) a w) : Exit.then K Q (.exit k) a w := h
theorem ex_then_normal (h : K a w) : Exit.then K Q .normal a w := h
theorem ex_block_ret (h : Q .ret a w) : Exit.inBlock k Q .ret a w := h
theorem ex_block_normal (h : Q .normal a w) : Exit.inBlock k Q .normal a w := h
theorem ex_block_same (h : Q .normal a w) : Exit.inBlock k Q (.exit k) a w := by simp only [Exit.inBlock, ↓reduceIte]; exact h
theorem ex_block_other (hne : j ≠ k) (h : Q (.exit j) a w) : Exit.inBlock k Q (.exit j) a w := by simp only [Exit.inBlock, if_neg hne]; exact h
end

/-- what is returned, the world as it was: the post of a function that lays nothing. -/
def Is (v : Value) (w : World) (e : Ending) (w' : World) : Prop := e = .returned v ∧ w = w'
theorem is_bool {x y : Bool} {w : World} (h : x = y) : Is (.bool y) w (.returned (.bool x)) w := ⟨by rw [h], rfl⟩
theorem is_int {k : IntKind} {x y : Int} {w : World} (h : x = y) : Is (.int k y) w (.returned (.int k x)) w := ⟨by rw [h], rfl⟩

/-- what is returned, the world old below its size: the post of most contracts. -/
def Gives (v : Value) (w : World) (e : Ending) (w' : World) : Prop := e = .returned v ∧ Below w.heap.size w w'

theorem gives_of {v v' : Value} {w w' : World} (h : v = v') (hb : Below w.heap.size w w') : Gives v' w (.returned v) w' := ⟨by rw [h], hb⟩

theorem gives_bool {x y : Bool} {w w' : World} (h : x = y) (hb : Below w.heap.size w w') : Gives (.bool y) w (.returned (.bool x)) w' := ⟨by rw [h], hb⟩
theorem gives_int {k : IntKind} {x y : Int} {w w' : World} (h : x = y) (hb : Below w.heap.size w w') : Gives (.int k y) w (.returned (.int k x)) w' := ⟨by rw [h], hb⟩
theorem gives_str {x y : ByteArray} {w w' : World} (h : x = y) (hb : Below w.heap.size w w') : Gives (.string y) w (.returned (.string x)) w' := ⟨by rw [h], hb⟩

theorem ret_int {k : IntKind} {a b : Int} (h : a = b) : Ending.returned (.int k a) = .returned (.int k b) := by rw [h]

section
variable {H : Type} {enc : TypeId × Value → H} {P : Program}
theorem post_of_below {f : Func} {s : ChangeSpec} {apart fresh handsOn again : Bool} {W W' : World} {args : Array Value} {v : Value} {ds gs : List (DataW H)} {before pa pv : List MemPlace}
    (hW : DataW.Whole enc P f.params.toList s.vars apart W args.toList ds gs before)
    (hres : ∀ (b : Nat) (sp : Nat → Bool) (hd : Bool), DataW.TrodAll enc P W' b sp hd f.resultTypes.toList (v.resultList f.resultTypes.size) (s.fn H (ds ++ gs)).results [])
    (hargs : ∀ sp : Nat → Bool, (∀ p ∈ before, sp p.block = true) → DataW.TrodAll enc P W' 0 sp true f.params.toList args.toList (s.fn H (ds ++ gs)).args pa)
    (hvars : ∀ sp : Nat → Bool, (∀ p ∈ before, sp p.block = true) → DataW.TrodVars enc P W' sp s.vars (s.fn H (ds ++ gs)).vars pv)
    (hps : before = pa ++ pv) (hb : Below W.heap.size W W')
    (hok : ∀ (j : Nat) (t : TypeId) (r : Value), f.resultTypes[j]? = some t → (v.resultList f.resultTypes.size)[j]? = some r → Value.okWide P W' .any 0 t r) :
    s.post enc P f apart fresh handsOn again W args v W' := by
  have hlt : ∀ p ∈ before, p.block < W.heap.size := fun p hp => hW.lt p hp
  have hold : ∀ p ∈ before, (fun b => decide (b < W.heap.size)) p.block = true := fun p hp => by simpa using hlt p hp
  refine ⟨ds, gs, before, [], pa, pv, hW, hres _ _ _, hargs _ hold, hvars _ hold, World.keptBut_mono (fun p hp => ⟨hp, ?_⟩) (hb.frame (· ∈ before)), fun _ => ?_⟩
  · rw [hps, List.mem_append] at hp
    exact Or.inr hp
  · obtain ⟨_, _, _, _, _, hz, hn⟩ := hW
    refine ⟨hok, _, _, ([] ++ pa) ++ pv, ⟨[] ++ pa, pv, trodAll_append (hargs _ (fun _ _ => rfl)) (hres _ _ _), hvars _ (fun _ _ => rfl), rfl, ?_, ?_⟩, ?_⟩
    · intro b off hp
      have hin : MemPlace.cell b off ∈ before := by rw [hps]; simpa using hp
      rw [hb.frozen (hlt _ hin)]
      exact hz b off hin
    · intro ha
      have := hn ha
      rw [hps] at this
      simpa using this
    · intro p hp _
      rw [hps]
      simpa using hp

/-- Arguments that were read before read the same behind: nothing below the old size has turned. -/
theorem trodAll_stays (hl : laidOutB P = true) {W W' : World} (hb : Below W.heap.size W W') :
    ∀ {ts : List TypeId} {vs : List Value} {ds : List (DataW H)} {ps : List MemPlace}, (∀ t ∈ ts, P.readableRec t = true ∧ t < P.types.size) →
      DataW.TrodAll enc P W 0 (fun _ => true) true ts vs ds ps → (∀ x ∈ ps, x.block < W.heap.size) →
      ∀ sp : Nat → Bool, (∀ p ∈ ps, sp p.block = true) → DataW.TrodAll enc P W' 0 sp true ts vs ds ps := by
  intro ts
  induction ts with
  | nil =>
    intro vs ds ps _ h _ sp _
    obtain ⟨rfl, rfl, rfl⟩ := trodAll_nil h
    exact trodAll_mk0
  | cons t ts ih =>
    intro vs ds ps hr h hlt sp hsp
    obtain ⟨v0, vs0, d0, ds0, p0, q0, rfl, rfl, rfl, h0, r0⟩ := trodAll_cons h
    refine trodAll_cons_mk ?_ ?_
    · exact WideElems.Trod_stays hl (hr t (by simp)).1 (hr t (by simp)).2 h0 (fun x hx => hb.same (hlt x (by simp [hx]))) (fun x hx => hsp x (by simp [hx]))
    · exact ih (fun t' ht' => hr t' (by simp [ht'])) r0 (fun x hx => hlt x (by simp [hx])) sp (fun x hx => hsp x (by simp [hx]))
end
end Go.Proofs.YtiggoojjefmcoaaDoor
