/- One element appended to a slice that is full: a new row, all else as it was. Conditions: the slice's length is its capacity; no longer than Go can hold. port.Peek: the first message that waits. Condition: the box lies there. -/
import Derived.ArgAppend
import Derived.Test.YthgehdghihbiaaaGreatDoorGTurn
set_option linter.unusedVariables false
set_option linter.unusedSimpArgs false
namespace Go.Proofs.YthgehdghihbiaaaGreatDoor
open Go.RowKit
namespace KR
variable {α:Type}
theorem append_full {P:Program} {t ty E:TypeId} {sz bytes:Nat} {f:α→Array Value} (hf:∀ x,(f x).size=sz) (hsz:0<sz) (hu:P.underlying t=some (.slice E))
 (hi:(P.info? E).map (fun i=> (i.zero.map (·.cells.size),i.size,i.bytes))=some (some sz,sz,bytes)) (hones:∀ x,∀ u ∈ (f x).toList,u.oneCell'=true) {w:World} {a:Option Addr} {n c:Nat} {l:List α} (h:Sl E sz f w (.slice a n n) l)
 {x:α} {xb:Nat} {fr:Nat × Nat} {T:TypeId} (hx:w.heap[xb]? =some (.cells (f x) T fr)) (hn:n + 1≤maxLen) (hb:(n + 1) * bytes≤140737488355328):
 ∃ v' W',(Builtin.append_ #[t,t] ty #[.slice a n n,.slice (some ⟨xb,0,none⟩) 1 c]).run P w=.ok v' W'∧Own E sz f w.heap.size W' v' (l ++ [x])∧Below w.heap.size w W':=by
 cases hq:P.info? E with
 |none=> rw [hq] at hi;cases hi
 |some i=>
  rw [hq] at hi
  simp only [Option.map_some,Option.some.injEq,Prod.mk.injEq] at hi
  obtain ⟨h1,h2,h3⟩:=hi
  cases hz:i.zero with
  |none=> rw [hz] at h1;cases h1
  |some z=>
   rw [hz] at h1
   have hzs:z.cells.size=sz:=by simpa using h1
   have hnews:∀ j u,(f x).toList[j]? =some u→w.cell? ((⟨xb,0,none⟩:Addr).add j)=some u:=fun j u hj=> by
    rw [add0,Nat.zero_add,hcell hx]
    simpa using hj
   have hnl:(f x).toList.length=1 * sz:=by rw [Array.length_toList,hf,Nat.one_mul]
   have hnn:n=l.length:=h.elem.1
   have hgb:∀ W' v',w.grownBy W' v'→(∀ k,k<w.heap.size→some k ≠ v')→Below w.heap.size w W':=fun W' v' hg hv=> ⟨hg.os,hg.tape,hg.output,hg.size,fun k hk=> hg.block k hk (hv k hk)⟩
   cases a with
   |none=>
    have hl0:l=[]:=by
     obtain ⟨_,_,he,_,_,h|⟨b,off,cur,ha,_⟩⟩:=h
     · exact h
     · injection he with he
       subst he
       cases ha
    subst hl0
    have hn0:n=0:=hnn
    subst hn0
    obtain ⟨v',W',hr,ho,hg,_⟩:=run_append_own (P:=P) w w.heap.size t ty E i z sz bytes hu hq hz h2 h3 hzs hsz (.slice none 0 0) 0 [] (World.ownsRow_nil w _ E sz) ⟨xb,0,none⟩ 1 c (f x).toList hnl hnews (hones x) (by omega) (by omega) (Nat.le_refl _)
    exact ⟨v',W',hr,by simpa [Own,flat] using ho,hgb W' _ hg (fun k hk e=> by cases e)⟩
   |some b=>
    have holds:∀ j u,(flat f l)[j]? =some u→w.cell? (b.add j)=some u:=by
     obtain ⟨_,_,he,_,_,h'|⟨b',off,cur,ha,_⟩⟩:=id h
     · subst h'
       intro j u hj
       simp [flat] at hj
     · injection he with he
       subst he
       injection ha with ha
       subst ha
       intro j u hj
       rw [add0]
       exact h.flat_cells hf j u hj
    obtain ⟨v',W',hr,ho,hg⟩:=run_append_arg_grows (P:=P) (w:=w) t ty E i z sz bytes hu hq hz h2 h3 hzs hsz b n n (flat f l) (by rw [flat_length hf,hnn]) holds ⟨xb,0,none⟩ 1 c (f x).toList hnl hnews (by omega) hn hb
    refine ⟨v',W',hr,?_,hgb W' _ hg (fun k hk e=> by cases e)⟩
    unfold Own
    rw [flat_append,List.length_append,← hnn]
    simpa [flat] using ho
end KR
end Go.Proofs.YthgehdghihbiaaaGreatDoor
namespace Go.Proofs.YthgehdghihbiaaaGreatDoor
open Go.RowKit KR
namespace Kn
def BoxOk (W:World) (x:BoxV):Prop:=Sl 239 2 Msg.cells W (.slice x.a x.b.l.length x.c) x.b.l
end Kn
end Go.Proofs.YthgehdghihbiaaaGreatDoor
