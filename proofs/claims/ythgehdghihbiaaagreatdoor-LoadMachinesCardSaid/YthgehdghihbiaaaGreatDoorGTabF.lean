/- Loads and stores of structs within a fence; what a round of a loop over a function keeps. No condition. table.Dead and table.Children. No condition. -/
import Derived.Test.YthgehdghihbiaaaGreatDoorGTurn
import Derived.RangeFuncNested
import Derived.RangeFuncBound
import Derived.RangeFuncCalls
import Derived.RangeFuncLeaves
import Derived.Shelf.RegionOpen
import Derived.OwnWalkIn
import Derived.TacticsInMore
import Derived.LoopNIn
import Derived.LoopIn
set_option linter.unusedVariables false
set_option linter.unusedSimpArgs false
namespace Go.Proofs.YthgehdghihbiaaaGreatDoor
open Go.RowKit
namespace KR
section
variable {F:Fence} {n:Nat} {P:Program} {ops:Array Oper} {rest:List Oper} {o:Oper} {a:Act} {Q:Exit→Act→World→Prop} {W:World}
theorem wpListIn_store (hg:o.guard=none) {t T:TypeId} {x y:Operand} (hop:o.op=.store t x y) {m g off:Nat} {v:Value} {cur new:Array Value} (hx:a.eval x=.pointer (some ⟨g,off,none⟩)) (hy:a.eval y=v)
 (ht:∀ W,(sizeOf t).run P W=.ok m W) (hh:W.heap[g]? =some (.cells cur T (0,0))) (hn:v.cells.size=m) (hfit:off + m≤cur.size) (h1:∀ u ∈ v.cells.toList,u.oneCell'=true) (hnw:splice cur off v.cells=new)
 (hK:∀ W',Put g new T W W'→wpListIn F n P ops Q rest (a.put o.dst undef) W'):wpListIn F n P ops Q (o::rest) a W:=wpListIn_plain hg fun K hk=> by
 refine ⟨fun f hf=> ?_,?_⟩
 · simp [Oper.about,hop] at hf
 · rw [Oper.semAt_eq _ _ _ (by simp [hop])]
   unfold execOp
   simp only [hop,hx,hy,Sem.run_bind,run_store ht hn hh hfit h1 hnw,Result.andThen_ok,Sem.run_pure]
   exact hk _ _ (hK _ (put_row hh))
end
def KeepsAt (K:Nat→Prop) (W W':World):Prop:=W.heap.size≤W'.heap.size∧∀ k c T,K k→W.heap[k]? =some (.cells c T (0,0))→W'.heap[k]? =some (.cells c T (0,0))
theorem keepsAt_t {K:Nat→Prop} {A B C:World} (h:KeepsAt K A B) (k:KeepsAt K B C):KeepsAt K A C:=⟨Nat.le_trans h.1 k.1,fun i c T hi hc=> k.2 i c T hi (h.2 i c T hi hc)⟩
theorem keepsAt_b {K:Nat→Prop} (W:World) (l:Nat) (o o':Obj) (hl:W.heap[l]? =some o) (ho:o.isCells=false):KeepsAt K W (W.putObj l o'):=
 ⟨by simp,fun k c T _ hc=> by
   by_cases e:k=l
   · subst e
     rw [hl] at hc
     cases hc
     cases ho
   · exact (World.putObj_heap_other e).trans hc⟩
theorem KeepsAt.refl (K:Nat→Prop) (W:World):KeepsAt K W W:=⟨Nat.le_refl _,fun _ _ _ _ h=> h⟩
theorem KeepsAt.of_below {K:Nat→Prop} {W W':World} (h:Below W.heap.size W W'):KeepsAt K W W':=⟨h.size,fun k c T _ hc=> (h.block k (hlt hc)).trans hc⟩
theorem KeepsAt.put {K:Nat→Prop} {W W':World} {g:Nat} {cs:Array Value} {T:TypeId} (h:Put g cs T W W') (hg:¬ K g):KeepsAt K W W':=
 ⟨Nat.le_of_eq h.size.symm,fun k c T hk hc=> (h.oth k (fun e=> hg (e ▸ hk))).trans hc⟩
theorem abides_below {β:Type} {B:Nat} {J:β→World→Prop} (hJ:AbidesFrom B J) {s:β} {W W':World} (h:J s W) (hb:Below W.heap.size W W'):J s W':=
 hJ s W W' none h ⟨hb.os,hb.tape,hb.output,hb.size,fun k hk _=> hb.block k hk⟩ (fun r e=> by cases e)
end KR
end Go.Proofs.YthgehdghihbiaaaGreatDoor
namespace Go.Proofs.YthgehdghihbiaaaGreatDoor
open Go.RowKit KR
attribute [local go_sem] Oper.semAt_some
namespace KR
theorem block_own {β:Type} (B:Nat) (cs:β→Array Value) (T:TypeId):Go.Own (fun (s:β) (W:World)=> W.heap[B]? =some (.cells (cs s) T (0,0))):=fun s X Y row hs hg hrow=>
 (hg.block B (hlt hs) (fun e=> by obtain ⟨o,ho,hc⟩:=hrow B e.symm;rw [hs] at ho;cases ho;cases hc)).trans hs
theorem keepsFrom_below {B:Nat} {W W':World} (h:Below W.heap.size W W'):KeepsFrom B W W':=⟨h.size,fun k o _ hk _=> (h.block k (Array.getElem?_eq_some_iff.1 hk).1).trans hk⟩
theorem keepsFrom_put {B g:Nat} {W W':World} {cs cur:Array Value} {T T2:TypeId} (hh:W.heap[g]? =some (.cells cur T2 (0,0))) (h:Put g cs T W W'):KeepsFrom B W W':=⟨Nat.le_of_eq h.size.symm,fun k o _ hk ho=> (h.oth k (fun e=> by subst e;rw [hh] at hk;cases hk;cases ho)).trans hk⟩
end KR
namespace Kn
end Kn
end Go.Proofs.YthgehdghihbiaaaGreatDoor
