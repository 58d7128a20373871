/- A region that draws its order, whose last operations (the tail) wait for all others, or for one another, and store what the others have read: until they come up a fact on worlds holds, and what yields under that fact may be taken first. No condition. Step rules for structs: loads and stores whose cells are told by a block, the worlds behind them named alone. No condition. Slices of things that are told by their cells, as they lie in memory: what reads as one, what the call owns. No condition. The types of what the rows of a guest are of: how many cells; places in rows. No condition. Rows that a call owns and turns in place: one element set, the end cleared; what DeleteFunc's loop keeps. No condition. Copies of elements of several cells; what Insert leaves. No condition. A slice of one thing that is written out. No condition. Regions that draw their order: where two operations are ready, both ways. No condition. -/
import Derived.Deep.RegionHeld3
import Derived.WalkLawsBesides
import Derived.BigQuiet
import Derived.Test.YthgehdghihbiaaaGreatDoorG0
import Derived.Laws.CopyRow
import Derived.Laws.Rows
import Derived.Laws.ResultCell
import Derived.Lib.Builder
import Derived.Laws.AppendOwn
import Derived.Test.YthgehdghihbiaaaGreatDoorProg
import Derived.Shelf.Abstract
import Derived.Lib.AppendZerosOnto
import Derived.Lib.Overlaps
import Derived.Laws.Externs
set_option linter.unusedVariables false
set_option linter.unusedSimpArgs false
namespace Go.Proofs.YthgehdghihbiaaaGreatDoor.RegTail
open Go
section
variable {P:Program} {ops:Array Oper} {Q:Exit→Act→World→Prop} {md:Region.Mode} {S:World→Prop}
def wpL (P:Program) (md:Region.Mode) (ops:Array Oper) (Q:Exit→Act→World→Prop) (S:World→Prop) (st:List Nat):Nat→Array Bool→Act→World→Prop
 |0,listed,a,w=> Region.ready md ops listed=[]∧Q .normal a w
 |fuel + 1,listed,a,w=>
  (Region.ready md ops listed=[]→Q .normal a w)∧
  ∀ i ∈ Region.ready md ops listed,wpOp P ops Q i (fun a' w'=> (st.contains i=false→S w')∧wpL P md ops Q S st fuel (listed.setIfInBounds i true) a' w') a w
theorem wpAny_of:∀ (st:List Nat) (fuel:Nat) (listed:Array Bool) (a:Act) (w:World),wpL P md ops Q S st fuel listed a w→wpAny P md ops Q fuel listed a w
 |_,0,_,_,_,h=> h
 |st,fuel + 1,_,_,_,h=> ⟨h.1,fun i hi=> wpOp_mono (fun a' w' h'=> wpAny_of st fuel _ a' w' h'.2) (h.2 i hi)⟩
def reach (md:Region.Mode) (ops:Array Oper) (st:List Nat) (i:Nat):Nat→Nat→Bool
 |0,_=> false
 |n + 1,t=> match ops[t]? with
  |some ot=> ot.after.any fun e=> Region.binds md e && (e.on==i||st.contains e.on||reach md ops st i n e.on)
  |none=> false
def Closed (md:Region.Mode) (ops:Array Oper) (listed:Array Bool):Prop:=∀ (j:Nat) (oj:Oper),listed[j]? =some true→ops[j]? =some oj→∀ e ∈ oj.after,Region.binds md e=true→listed[e.on]? =some true
theorem reach_spec {st:List Nat} {i:Nat} {listed:Array Bool} (hc:Closed md ops listed) (hi:listed[i]? ≠ some true) (hst:∀ t ∈ st,listed[t]? ≠ some true):
 ∀ (n t:Nat) (ot:Oper),ops[t]? =some ot→reach md ops st i n t=true→∃ e ∈ ot.after,Region.binds md e=true∧listed[e.on]? ≠ some true
 |0,_,_,_,h=> by cases h
 |n + 1,t,ot,ho,h=> by
  simp only [reach,ho] at h
  obtain ⟨e,he,h⟩:=Array.any_eq_true'.1 h
  rw [Bool.and_eq_true,Bool.or_eq_true,Bool.or_eq_true,beq_iff_eq] at h
  obtain ⟨hb,h⟩:=h
  refine ⟨e,he,hb,?_⟩
  rcases h with (h|h)|h
  · rw [h];exact hi
  · exact hst _ (by simpa using h)
  · intro hl
    cases hoe:ops[e.on]? with
    |none=> cases n with
     |zero=> cases h
     |succ n=> simp [reach,hoe] at h
    |some oe=>
     obtain ⟨e',he',hb',hn'⟩:=reach_spec hc hi hst n e.on oe hoe h
     exact hn' (hc _ _ hl hoe e' he' hb')
theorem listed_some {listed:Array Bool} {k:Nat} (h:listed.getD k false=true):listed[k]? =some true:=by
 rw [Array.getD_eq_getD_getElem?] at h
 cases hk:listed[k]? with
 |none=> rw [hk] at h;cases h
 |some b=> rw [hk] at h;cases b <;> simp_all
theorem firstL {i:Nat} {st:List Nat} {oi:Oper} {v:Value} (hi:ops[i]? =some oi) (hit:st.contains i=false)
 (hwait:∀ t ∈ st,∃ n,reach md ops st i n t=true)
 (hsel:∀ (j:Nat) (o:Oper) cs b,ops[j]? =some o→o.op ≠ .select cs b)
 (hQ:∀ c a w,Q (.panic c) (a.put oi.dst v) w→Q (.panic c) a w):
 ∀ (fuel:Nat) (listed:Array Bool) (a:Act) (w:World),
   Closed md ops listed→(∀ t ∈ st,listed[t]? ≠ some true)→
   (∀ j oj,ops[j]? =some oj→j ≠ i→listed.getD j true=false→(∀ e ∈ oj.after,Region.binds md e=true→e.on ≠ i)→oi.apart ops oj=true)→
   i ∈ Region.ready md ops listed→YieldsIf P ops S oi v a→S w→
   wpL P md ops Q S st fuel (listed.setIfInBounds i true) (a.put oi.dst v) w→wpL P md ops Q S st (fuel + 1) listed a w:=by
 intro fuel
 have hnotst:∀ (listed:Array Bool) (j:Nat),Closed md ops listed→(∀ t ∈ st,listed[t]? ≠ some true)→i ∈ Region.ready md ops listed→j ∈ Region.ready md ops listed→st.contains j=false:=by
  intro listed j hcl hun hr hj
  refine Bool.eq_false_iff.2 fun hjs=> ?_
  have hjs:j ∈ st:=by simpa using hjs
  obtain ⟨_,oj,hoj,hall⟩:=mem_ready.1 hj
  obtain ⟨n,hn⟩:=hwait j hjs
  have h0:=(mem_ready.1 hr).1
  have hi':listed[i]? ≠ some true:=by
   intro h
   rw [Array.getD_eq_getD_getElem?,h] at h0
   cases h0
  obtain ⟨e,he,hb,hno⟩:=reach_spec hcl hi' hun n j oj hoj hn
  have h1:=hall e he hb
  exact hno (listed_some h1)
 induction fuel with
 |zero=>
  intro listed a w hcl hun _ hr hy hS H
  refine ⟨fun h=> (by rw [h] at hr;cases hr),fun j hj=> ?_⟩
  by_cases hji:j=i
  · subst hji;exact hy.wpOp hi hS ⟨fun _=> hS,H⟩
  · have:=ready_mono hj hji
    rw [H.1] at this
    cases this
 |succ fuel ih=>
  intro listed a w hcl hun hfree hr hy hS H
  refine ⟨fun h=> (by rw [h] at hr;cases hr),fun j hj=> ?_⟩
  by_cases hji:j=i
  · subst hji;exact hy.wpOp hi hS ⟨fun _=> hS,H⟩
  · have hjst:=hnotst listed j hcl hun hr hj
    have h1:=H.2 j (ready_mono hj hji)
    obtain ⟨hjun,oj,hoj,hall⟩:=mem_ready.1 hj
    have hnot:∀ e ∈ oj.after,Region.binds md e=true→e.on ≠ i:=fun e he hb heq=> by
     have h1:=hall e he hb
     have h0:=(mem_ready.1 hr).1
     rw [heq] at h1
     rcases Nat.lt_or_ge i listed.size with h'|h'
     · simp [h'] at h0 h1;rw [h0] at h1;cases h1
     · simp [Array.getElem?_eq_none h'] at h1
    have h2:=wpOp_putIf hoj (hfree j oj hoj hji hjun hnot) (fun cs b=> hsel i oi cs b hi) (fun cs b=> hsel j oj cs b hoj) hQ hy h1
    have hfree':∀ k ok,ops[k]? =some ok→k ≠ i→(listed.setIfInBounds j true).getD k true=false→
     (∀ e ∈ ok.after,Region.binds md e=true→e.on ≠ i)→oi.apart ops ok=true:=fun k ok hk hki hun hno=> by
     refine hfree k ok hk hki ?_ hno
     by_cases hjk:j=k
     · subst hjk;exact hjun
     · rw [getD_set_ne true hjk] at hun;exact hun
    have hcl':Closed md ops (listed.setIfInBounds j true):=by
     intro k ok hk hok e he hb
     have hget:∀ m:Nat,listed[m]? =some true→(listed.setIfInBounds j true)[m]? =some true:=by
      intro m hm
      rw [Array.getElem?_setIfInBounds]
      split
      · rename_i h
        subst h
        have:=(Array.getElem?_eq_some_iff.1 hm).1
        simp [this]
      · exact hm
     by_cases hkj:k=j
     · subst hkj
       rw [hoj] at hok
       injection hok with hok
       subst hok
       exact hget _ (listed_some (hall e he hb))
     · rw [Array.getElem?_setIfInBounds_ne (Ne.symm hkj)] at hk
       exact hget _ (hcl k ok hk hok e he hb)
    have hun':∀ t ∈ st,(listed.setIfInBounds j true)[t]? ≠ some true:=fun t ht=> by
     have hne:j ≠ t:=fun e=> by
      subst e
      rw [List.contains_eq_mem] at hjst
      simp [ht] at hjst
     rw [Array.getElem?_setIfInBounds_ne hne]
     exact hun t ht
    refine wpOp_mono (fun a' w' h3=> ⟨fun _=> h3.2.1 hjst,ih (listed.setIfInBounds j true) a' w' hcl' hun' hfree' (ready_mono hr (Ne.symm hji)) h3.1 (h3.2.1 hjst) ?_⟩) h2
    rw [Array.setIfInBounds_comm _ _ hji]
    exact h3.2.2
def waits (md:Region.Mode) (ops:Array Oper) (st:List Nat) (listed:Array Bool) (i:Nat):Bool:=
 !st.contains i && st.all (fun t=> reach md ops st i ops.size t && !(listed.getD t false)) && (List.range ops.size).all (fun j=> !(listed.getD j false)||(match ops[j]? with|some oj=> oj.after.all fun e=> !Region.binds md e||listed.getD e.on false|none=> true)) && decide (listed.size≤ops.size)
theorem takeL {i:Nat} {st:List Nat} {oi:Oper} {v:Value} {fuel:Nat} {listed:Array Bool} {a:Act} {w:World} (hi:ops[i]? =some oi) (hwait:waits md ops st listed i=true)
 (hs:Region.noSelect ops=true) (hf:Region.free md ops listed i=true) (hr:(Region.ready md ops listed).contains i=true)
 (hQ:∀ c a w,Q (.panic c) (a.put oi.dst v) w→Q (.panic c) a w) (hy:YieldsIf P ops S oi v a) (hS:S w)
 (h:wpL P md ops Q S st fuel (listed.setIfInBounds i true) (a.put oi.dst v) w):wpL P md ops Q S st (fuel + 1) listed a w:=by
 rw [waits,Bool.and_eq_true,Bool.and_eq_true,Bool.and_eq_true] at hwait
 obtain ⟨⟨⟨hw1,hw2⟩,hw3⟩,hw4⟩:=hwait
 have hall:=List.all_eq_true.1 hw2
 have hcl:=List.all_eq_true.1 hw3
 have hsz:=of_decide_eq_true hw4
 refine firstL hi (by simpa using hw1) (fun t ht=> ⟨ops.size,?_⟩) (Region.noSelect_spec hs) hQ fuel listed a w ?_ (fun t ht=> ?_) (Region.free_spec hi hf) (by simpa using hr) hy hS h
 · have h1:=hall t ht
   rw [Bool.and_eq_true] at h1
   exact h1.1
 · intro j oj hj hoj e he hb
   have hjs:j<ops.size:=(Array.getElem?_eq_some_iff.1 hoj).1
   have h1:=hcl j (by simpa using hjs)
   rw [hoj,Array.getD_eq_getD_getElem?,hj] at h1
   simp only [Option.getD_some,Bool.not_true,Bool.false_or] at h1
   have h2:=Array.all_eq_true'.1 h1 e he
   rw [hb] at h2
   exact listed_some (by simpa using h2)
 · have h1:=hall t ht
   rw [Bool.and_eq_true] at h1
   have h2:=h1.2
   intro h3
   rw [Array.getD_eq_getD_getElem?,h3] at h2
   cases h2
theorem oneL {i:Nat} {st:List Nat} {o:Oper} {fuel:Nat} {listed:Array Bool} {a:Act} {w:World} (hr:Region.ready md ops listed=[i]) (ho:ops[i]? =some o)
 (h:∀ K:Act→World→Prop,Shut (∀ a w,(st.contains i=false→S w)→wpL P md ops Q S st fuel (listed.setIfInBounds i true) a w→K a w)→if Region.wanted o (yielded ops a.tmps)=true then Oper.wp P o a w K Q else K (a.put o.dst undef) w):
 wpL P md ops Q S st (fuel + 1) listed a w:=
 ⟨fun h0=> absurd (hr ▸ h0) (by simp),fun j hj=> by
   rw [hr] at hj
   obtain rfl:j=i:=by simpa using hj
   exact wpOp_step ho (fun K' hK=> h K' (fun a w hS hW=> hK a w ⟨hS,hW⟩))⟩
theorem tl (i:Nat) {st:List Nat} {oi:Oper} {v:Value} {fuel:Nat} {listed:Array Bool} {a:Act} {w:World} (h:wpL P md ops Q S st fuel (listed.setIfInBounds i true) (a.put oi.dst v) w) (hi:ops[i]? =some oi:=by rfl) (hwait:waits md ops st listed i=true:=by kernel_rfl)
 (hs:Region.noSelect ops=true:=by kernel_rfl) (hf:Region.free md ops listed i=true:=by kernel_rfl) (hr:(Region.ready md ops listed).contains i=true:=by kernel_rfl)
 (hy:YieldsIf P ops S oi v a:=by (refine Or.inl ⟨by rfl,?_⟩;intro w hSw;(try dsimp only at hSw);go_simp;try with_reducible rfl))
 (hQ:∀ c a w,Q (.panic c) (a.put oi.dst v) w→Q (.panic c) a w:=by exact fun _ _ _ h=> h)
 (hS:S w:=by first|trivial|assumption):wpL P md ops Q S st (fuel + 1) listed a w:=takeL hi hwait hs hf hr hQ hy hS h
theorem ro (i:Nat) {st:List Nat} {o:Oper} {fuel:Nat} {listed:Array Bool} {a:Act} {w:World}
 (h:∀ K:Act→World→Prop,Shut (∀ a w,(st.contains i=false→S w)→wpL P md ops Q S st fuel (listed.setIfInBounds i true) a w→K a w)→if Region.wanted o (yielded ops a.tmps)=true then Oper.wp P o a w K Q else K (a.put o.dst undef) w)
 (hr:Region.ready md ops listed=[i]:=by kernel_rfl) (ho:ops[i]? =some o:=by rfl):wpL P md ops Q S st (fuel + 1) listed a w:=oneL hr ho h
theorem doneL {st:List Nat} {listed:Array Bool} {a:Act} {w:World} (hr:Region.ready md ops listed=[]) (h:Q .normal a w):
 ∀ fuel,wpL P md ops Q S st fuel listed a w
 |0=> ⟨hr,h⟩
 |_ + 1=> ⟨fun _=> h,by rw [hr];simp⟩
theorem startL {st:List Nat} {id:Nat} {a:Act} {w:World} (hm:P.follows .mixedOrders=true)
 (h:wpL P .any ops Q S st ops.size (Array.replicate ops.size false) a w.drew):(Code.region id ops true).wp P Q a w:=
 wp_region_any hm (wpAny_of st _ _ _ _ h)
end
end Go.Proofs.YthgehdghihbiaaaGreatDoor.RegTail
namespace Go.Proofs.YthgehdghihbiaaaGreatDoor.RegT3
open Go
theorem acts:(∀ (a:Act) (t:Tmp) (v:Value),a.put (some t) v={a with tmps:=a.tmps.setIfInBounds t v})∧(∀ (a:Act) (v:Value),a.put none v=a)∧
 (∀ (l:List Oper) (i:Nat) (h:i<l.toArray.size),l.toArray[i]=l[i]'(by simpa using h))∧(∀ (x:Oper) (l:List Oper) (h:0<(x::l).length),(x::l)[0]=x)∧(∀ (x:Oper) (l:List Oper) (n:Nat) (h:n + 1<(x::l).length),(x::l)[n + 1]=l[n]'(by simpa using h))∧
 (∀ (l:List Value) (i:Nat) (v:Value),l.toArray.setIfInBounds i v=(l.set i v).toArray)∧(∀ (l:List Value) (x v:Value),(x::l).set 0 v=v::l)∧(∀ (l:List Value) (x v:Value) (n:Nat),(x::l).set (n + 1) v=x::l.set n v):=
 ⟨fun a t v=> rfl,fun a v=> rfl,fun l i h=> List.getElem_toArray h,fun x l h=> rfl,fun x l n h=> rfl,fun l i v=> List.setIfInBounds_toArray l i v,fun l x v=> rfl,fun l x v n=> rfl⟩
end Go.Proofs.YthgehdghihbiaaaGreatDoor.RegT3
namespace Go.Proofs.YthgehdghihbiaaaGreatDoor
open Go.RowKit
namespace KR
theorem add0 (g o j:Nat):(⟨g,o,none⟩:Addr).add j=⟨g,o + j,none⟩:=by
 unfold Addr.add
 split <;> simp_all
theorem hcell {W:World} {b:Nat} {cs:Array Value} {T:TypeId} {fr:Nat × Nat} (h:W.heap[b]? =some (.cells cs T fr)) (j:Nat):W.cell? ⟨b,j,none⟩=cs[j]? :=Lib.cell_of_heap h j
theorem hlt {W:World} {b:Nat} {o:Obj} (h:W.heap[b]? =some o):b<W.heap.size:=(Array.getElem?_eq_some_iff.1 h).1
theorem hnew (W:World) (o:Obj):(W.alloc o).heap[W.heap.size]? =some o:=heap_alloc_new W o
theorem hold {W:World} {o:Obj} {k:Nat} {u:Obj} (h:W.heap[k]? =some u):(W.alloc o).heap[k]? =some u:=by
 rw [Lib.alloc_old W o k (hlt h)]
 exact h
structure Agg (P:Program) (t:TypeId) (n:Nat):Prop where
 agg:∀ W,(isAgg t).run P W=.ok true W
 size:∀ W,(sizeOf t).run P W=.ok n W
theorem agg_of {P:Program} {t:TypeId} {n:Nat} {d:TypeDesc} (hu:P.underlying t=some d) (hd:(match d with| .struct _| .array _ _=> true|_=> false)=true) (hi:(P.info? t).map (·.size)=some n):Agg P t n:=by
 refine ⟨fun W=> ?_,fun W=> ?_⟩
 · unfold isAgg
   rw [Sem.run_bind,run_underlying hu W]
   cases d <;> simp_all
 · cases hq:P.info? t with
   |none=> simp [hq] at hi
   |some i=>
    have hs:i.size=n:=by simpa [hq] using hi
    simp [sizeOf,typeInfo,hq,hs]
structure One (P:Program) (t:TypeId):Prop where
 agg:∀ W,(isAgg t).run P W=.ok false W
 size:∀ W,(sizeOf t).run P W=.ok 1 W
theorem one_of {P:Program} {t:TypeId} {d:TypeDesc} (hu:P.underlying t=some d) (hd:(match d with| .struct _| .array _ _=> true|_=> false)=false) (hi:(P.info? t).map (·.size)=some 1):One P t:=by
 refine ⟨fun W=> ?_,fun W=> ?_⟩
 · unfold isAgg
   rw [Sem.run_bind,run_underlying hu W]
   cases d <;> simp_all
 · cases hq:P.info? t with
   |none=> simp [hq] at hi
   |some i=>
    have hs:i.size=1:=by simpa [hq] using hi
    simp [sizeOf,typeInfo,hq,hs]
section
variable {P:Program} {t:TypeId} {W:World}
theorem run_load_list {n g o:Nat} (ht:Agg P t n) {vs:List Value} (hl:vs.length=n) (hv:∀ j u,vs[j]? =some u→W.cell? ⟨g,o + j,none⟩=some u):
 (Instr.loadAt t (.pointer (some ⟨g,o,none⟩))).run P W=.ok (.agg vs.toArray) W:=by
 have h:=run_loadCells_list (P:=P) (w:=W) ⟨g,o,none⟩ vs (fun j u hj=> by rw [add0];exact hv j u hj)
 rw [hl] at h
 simp only [Instr.loadAt,Instr.sureAddr,Sem.run_bind,Sem.run_pure,Result.andThen_ok,loadVar,ht.agg,ht.size,if_true,h]
theorem run_load_arr {n g o:Nat} (ht:Agg P t n) {vs:Array Value} (hl:vs.size=n) (hv:∀ j u,vs[j]? =some u→W.cell? ⟨g,o + j,none⟩=some u):
 (Instr.loadAt t (.pointer (some ⟨g,o,none⟩))).run P W=.ok (.agg vs) W:=by
 have h:=run_load_list (W:=W) (g:=g) (o:=o) ht (vs:=vs.toList) (by rw [Array.length_toList];exact hl) (fun j u hj=> hv j u (by simpa using hj))
 rwa [Array.toArray_toList] at h
theorem run_load_whole {n g:Nat} (ht:Agg P t n) {cs:Array Value} {T:TypeId} {fr:Nat × Nat} (hh:W.heap[g]? =some (.cells cs T fr)) (hl:cs.size=n):
 (Instr.loadAt t (.pointer (some ⟨g,0,none⟩))).run P W=.ok (.agg cs) W:=
 run_load_arr ht hl (fun j u hj=> by rw [Nat.zero_add,hcell hh];exact hj)
theorem run_load_part {n g o:Nat} (ht:Agg P t n) {cs vs:Array Value} {T:TypeId} {fr:Nat × Nat} (hh:W.heap[g]? =some (.cells cs T fr)) (hv:cs.extract o (o + n)=vs) (hl:vs.size=n):
 (Instr.loadAt t (.pointer (some ⟨g,o,none⟩))).run P W=.ok (.agg vs) W:=
 run_load_arr ht hl (fun j u hj=> by
  rw [hcell hh]
  subst hv
  have hj':=(Array.getElem?_eq_some_iff.1 hj).1
  rw [Array.size_extract] at hj'
  rw [Array.getElem?_extract] at hj
  by_cases hlt':j<min (o + n) cs.size - o
  · rw [if_pos hlt'] at hj
    exact hj
  · rw [if_neg hlt'] at hj
    cases hj)
theorem run_load_one {g o:Nat} (ht:One P t) {v:Value} (hv:W.cell? ⟨g,o,none⟩=some v):
 (Instr.loadAt t (.pointer (some ⟨g,o,none⟩))).run P W=.ok v W:=by
 have hl:(load ⟨g,o,none⟩:Sem Value).run P W=.ok v W:=by simp [load,Sem.run,hv]
 simp only [Instr.loadAt,Instr.sureAddr,Sem.run_bind,Sem.run_pure,Result.andThen_ok,loadVar,ht.agg,if_false,Bool.false_eq_true,hl]
end
structure Put (g:Nat) (cs:Array Value) (T:TypeId) (W W':World):Prop where
 at_:W'.heap[g]? =some (.cells cs T (0,0))
 oth:∀ k,k ≠ g→W'.heap[k]? =W.heap[k]?
 size:W'.heap.size=W.heap.size
 os:W'.os=W.os
 tape:W'.tape=W.tape
 output:W'.output=W.output
theorem put_row {W:World} {g:Nat} {cur cs:Array Value} {T:TypeId} (hh:W.heap[g]? =some (.cells cur T (0,0))):Put g cs T W (W.setRow g cs):=
 ⟨setRow_heap W g cur cs T (0,0) hh,fun k hk=> by simp [World.setRow,Array.getElem?_modify,Ne.symm hk],by simp [World.setRow],rfl,rfl,rfl⟩
theorem Put.of_drew {W W':World} {g:Nat} {cs:Array Value} {T:TypeId} (h:Put g cs T W.drew W'):Put g cs T W W':=⟨h.at_,h.oth,h.size,h.os,h.tape,h.output⟩
def splice (cur:Array Value) (o:Nat) (vs:Array Value):Array Value:=(cur.toList.take o ++ vs.toList ++ cur.toList.drop (o + vs.size)).toArray
theorem run_store {P:Program} {t T:TypeId} {W:World} {n g o:Nat} {v:Value} {cur new:Array Value} (ht:∀ W,(sizeOf t).run P W=.ok n W) (hn:v.cells.size=n) (hh:W.heap[g]? =some (.cells cur T (0,0))) (hfit:o + n≤cur.size)
 (h1:∀ u ∈ v.cells.toList,u.oneCell'=true) (hnw:splice cur o v.cells=new):
 (Instr.storeAt t (.pointer (some ⟨g,o,none⟩)) v).run P W=.ok () (W.setRow g new):=by
 have h:=run_storeCells_at P g o T v.cells.toList 0 cur W hh (by rw [Array.length_toList,hn];omega) h1
 simp only [Instr.storeAt,Instr.sureAddr,Sem.run_bind,Sem.run_pure,Result.andThen_ok,storeVar,ht,hn,ne_eq,not_true,if_false,h]
 rw [← hnw]
 simp [splice,hn]
section
variable {P:Program} {ops:Array Oper} {rest:List Oper} {o:Oper} {a:Act} {Q:Exit→Act→World→Prop} {W:World}
theorem wp_load {K:Act→World→Prop} {t:TypeId} {x:Operand} (hop:o.op=.load t x) {ad:Addr} {v:Value} (hx:a.eval x=.pointer (some ad)) (hr:(Instr.loadAt t (.pointer (some ad))).run P W=.ok v W) (hK:K (a.put o.dst v) W):o.wp P a W K Q:=by
 unfold Oper.wp execOp
 simp only [hop,hx,Sem.run_bind,hr,Result.andThen_ok,Sem.run_pure]
 exact hK
theorem wpList_load (hg:o.guard=none) {t:TypeId} {x:Operand} (hop:o.op=.load t x) {ad:Addr} {v:Value} (hx:a.eval x=.pointer (some ad)) (hr:(Instr.loadAt t (.pointer (some ad))).run P W=.ok v W) (hK:wpList P ops Q rest (a.put o.dst v) W):
 wpList P ops Q (o::rest) a W:=wpList_plain hg fun _ hk=> wp_load hop hx hr (hk _ _ hK)
theorem wp_store {K:Act→World→Prop} {t T:TypeId} {x y:Operand} (hop:o.op=.store t x y) {n g off:Nat} {v:Value} {cur new:Array Value} (hx:a.eval x=.pointer (some ⟨g,off,none⟩)) (hy:a.eval y=v)
 (ht:∀ W,(sizeOf t).run P W=.ok n W) (hh:W.heap[g]? =some (.cells cur T (0,0))) (hn:v.cells.size=n) (hfit:off + n≤cur.size) (h1:∀ u ∈ v.cells.toList,u.oneCell'=true) (hnw:splice cur off v.cells=new)
 (hK:∀ W',Put g new T W W'→K (a.put o.dst undef) W'):o.wp P a W K Q:=by
 unfold Oper.wp execOp
 simp only [hop,hx,hy,Sem.run_bind,run_store ht hn hh hfit h1 hnw,Result.andThen_ok,Sem.run_pure]
 exact hK _ (put_row hh)
theorem wpList_store (hg:o.guard=none) {t T:TypeId} {x y:Operand} (hop:o.op=.store t x y) {n g off:Nat} {v:Value} {cur new:Array Value} (hx:a.eval x=.pointer (some ⟨g,off,none⟩)) (hy:a.eval y=v)
 (ht:∀ W,(sizeOf t).run P W=.ok n W) (hh:W.heap[g]? =some (.cells cur T (0,0))) (hn:v.cells.size=n) (hfit:off + n≤cur.size) (h1:∀ u ∈ v.cells.toList,u.oneCell'=true) (hnw:splice cur off v.cells=new)
 (hK:∀ W',Put g new T W W'→wpList P ops Q rest (a.put o.dst undef) W'):wpList P ops Q (o::rest) a W:=
 wpList_plain hg fun _ hk=> wp_store hop hx hy ht hh hn hfit h1 hnw (fun W' hp=> hk _ _ (hK W' hp))
end
theorem wpList_append_run {P:Program} (w:World) {ops:Array Oper} {rest:List Oper} {o:Oper} {a:Act} {Q:Exit→Act→World→Prop}
 (hg:o.guard=none) (s x:Operand) (t u:TypeId) (hop:o.op=Op.call {callee:=Callee.builtin Builtin.append,args:=#[s,x],argTypes:=#[t,u]})
 (sv xv:Value) (hs:a.eval s=sv) (hx:a.eval x=xv) (v':Value) (w':World) (hrun:(Builtin.append_ #[t,u] o.type #[sv,xv]).run P w=.ok v' w') (hK:wpList P ops Q rest (a.put o.dst v') w'):
 wpList P ops Q (o::rest) a w:=by
 refine wpList_plain hg fun K hK'=> ?_
 unfold Oper.wp
 simp [execOp,hop,resolve,invoke,builtin,hs,hx,hrun,Result.andThen]
 exact hK' _ _ hK
theorem load_whole_var {P:Program} {t:TypeId} {W:World} {n g:Nat} (ht:Agg P t n) {cs:Array Value} {T:TypeId} {fr:Nat × Nat} (hh:W.heap[g]? =some (.cells cs T fr)) (hl:cs.size=n):(loadVar t ⟨g,0,none⟩).run P W=.ok (.agg cs) W:=by
 have h:=run_load_whole ht hh hl
 simpa only [Instr.loadAt,Instr.sureAddr,Sem.run_bind,Sem.run_pure,Result.andThen_ok] using h
theorem res_cell_tmp {P:Program} {fn:Func} {p u:Tmp} {ty:TypeId} {n:Nat} (h:fn.results=#[.cell p ty,.tmp u]) (ht:Agg P ty n) {tmps:Array Value} {W:World} {b:Nat} {cs:Array Value} {T:TypeId} {fr:Nat × Nat} (hp:tmps.getD p undef=.pointer (some ⟨b,0,none⟩)) (hh:W.heap[b]? =some (.cells cs T fr)) (hl:cs.size=n):
 (results fn tmps).run P W=.ok (.tuple #[.agg cs,tmps.getD u undef]) W:=by
 rw [results_cell_tmp h,hp]
 simp [asAddr,load_whole_var ht hh hl,Result.andThen]
theorem res_cell {P:Program} {fn:Func} {p:Tmp} {ty:TypeId} {n:Nat} (h:fn.results=#[.cell p ty]) (ht:Agg P ty n) {tmps:Array Value} {W:World} {b:Nat} {cs:Array Value} {T:TypeId} {fr:Nat × Nat} (hp:tmps.getD p undef=.pointer (some ⟨b,0,none⟩)) (hh:W.heap[b]? =some (.cells cs T fr)) (hl:cs.size=n):
 (results fn tmps).run P W=.ok (.agg cs) W:=by
 have hp':tmps[p]?.getD undef=.pointer (some ⟨b,0,none⟩):=by simpa using hp
 simp [results,h,hp',asAddr,load_whole_var ht hh hl]
theorem res_cell_tmp2 {P:Program} {fn:Func} {p u v:Tmp} {ty:TypeId} {n:Nat} (h:fn.results=#[.cell p ty,.tmp u,.tmp v]) (ht:Agg P ty n) {tmps:Array Value} {W:World} {b:Nat} {cs:Array Value} {T:TypeId} {fr:Nat × Nat} (hp:tmps.getD p undef=.pointer (some ⟨b,0,none⟩)) (hh:W.heap[b]? =some (.cells cs T fr)) (hl:cs.size=n):
 (results fn tmps).run P W=.ok (.tuple #[.agg cs,tmps.getD u undef,tmps.getD v undef]) W:=by
 have hp':tmps[p]?.getD undef=.pointer (some ⟨b,0,none⟩):=by simpa using hp
 simp [results,h,hp',asAddr,load_whole_var ht hh hl]
structure Kept (b:Nat) (W W':World):Prop where
 os:W'.os=W.os
 tape:W'.tape=W.tape
 output:W'.output=W.output
 size:W.heap.size≤W'.heap.size
 block:∀ k,k<W.heap.size→k ≠ b→W'.heap[k]? =W.heap[k]?
theorem Kept.refl (b:Nat) (W:World):Kept b W W:=⟨rfl,rfl,rfl,Nat.le_refl _,fun _ _ _=> rfl⟩
theorem Kept.trans {b:Nat} {W W1 W2:World} (h:Kept b W W1) (k:Kept b W1 W2):Kept b W W2:=
 ⟨k.os.trans h.os,k.tape.trans h.tape,k.output.trans h.output,Nat.le_trans h.size k.size,fun i h1 h2=> (k.block i (Nat.lt_of_lt_of_le h1 h.size) h2).trans (h.block i h1 h2)⟩
theorem Kept.of {b:Nat} {W W':World} (h:Below W.heap.size W W'):Kept b W W':=⟨h.os,h.tape,h.output,h.size,fun i h1 _=> h.block i h1⟩
theorem Kept.put {b:Nat} {cs:Array Value} {T:TypeId} {W W':World} (h:Put b cs T W W'):Kept b W W':=⟨h.os,h.tape,h.output,Nat.le_of_eq h.size.symm,fun i _ h2=> h.oth i h2⟩
theorem Kept.drew {b:Nat} {W W':World} (h:Kept b W W'):Kept b W W'.drew:=⟨h.os,h.tape,h.output,h.size,h.block⟩
theorem Below.put {B g:Nat} {cs:Array Value} {T:TypeId} {w W W':World} (h:Below B w W) (hp:Put g cs T W W') (hg:B≤g):Below B w W':=
 ⟨hp.os.trans h.os,hp.tape.trans h.tape,hp.output.trans h.output,by rw [hp.size];exact h.size,fun k hk=> (hp.oth k (by omega)).trans (h.block k hk)⟩
end KR
end Go.Proofs.YthgehdghihbiaaaGreatDoor
namespace Go.Proofs.YthgehdghihbiaaaGreatDoor
open Go.RowKit
namespace KR
variable {α:Type}
def Sl (E:TypeId) (sz:Nat) (f:α→Array Value) (W:World) (v:Value) (l:List α):Prop:=
 ∃ a c,v=.slice a l.length c∧l.length≤c∧c≤9223372036854775807∧
   (l=[]∨∃ b off cur,a=some ⟨b,off,none⟩∧W.heap[b]? =some (.cells cur E (0,0))∧∀ i x,l[i]? =some x→∀ j u,(f x)[j]? =some u→cur[off + i * sz + j]? =some u)
theorem Sl.nil {E:TypeId} {sz:Nat} {f:α→Array Value} {W:World}:Sl E sz f W (.slice none 0 0) []:=⟨none,0,rfl,Nat.le_refl _,by omega,.inl rfl⟩
theorem Sl.stay {E:TypeId} {sz:Nat} {f:α→Array Value} {W W':World} {v:Value} {l:List α} (h:Sl E sz f W v l) (hs:∀ (k:Nat) (c:Array Value),W.heap[k]? =some (.cells c E (0,0))→W'.heap[k]? =W.heap[k]?):Sl E sz f W' v l:=by
 obtain ⟨a,c,rfl,h1,h2,h|⟨b,off,cur,rfl,hb,hc⟩⟩:=h
 · exact ⟨a,c,rfl,h1,h2,.inl h⟩
 · exact ⟨_,c,rfl,h1,h2,.inr ⟨b,off,cur,rfl,(hs b cur hb).trans hb,hc⟩⟩
theorem Sl.below {E:TypeId} {sz:Nat} {f:α→Array Value} {W W':World} {v:Value} {l:List α} (h:Sl E sz f W v l) (hb:Below W.heap.size W W'):Sl E sz f W' v l:=
 h.stay (fun k c hk=> hb.block k (hlt hk))
theorem ne_of_types {W:World} {g k:Nat} {c c':Array Value} {T T':TypeId} (h:W.heap[g]? =some (.cells c T (0,0))) (h':W.heap[k]? =some (.cells c' T' (0,0))) (hT:T ≠ T'):g ≠ k:=by
 intro e
 subst e
 rw [h] at h'
 injection h' with h'
 injection h' with _ h' _
 exact hT h'
theorem Sl.kept {E T:TypeId} {sz b:Nat} {f:α→Array Value} {W W':World} {v:Value} {l:List α} {cs:Array Value} (h:Sl E sz f W v l) (hh:W.heap[b]? =some (.cells cs T (0,0))) (hk:Kept b W W') (hT:E ≠ T):Sl E sz f W' v l:=
 h.stay (fun k c hc=> hk.block k (hlt hc) (ne_of_types hc hh hT))
theorem Sl.put {E T:TypeId} {sz b:Nat} {f:α→Array Value} {W W':World} {v:Value} {l:List α} {cs cs':Array Value} (h:Sl E sz f W v l) (hh:W.heap[b]? =some (.cells cs T (0,0))) (hk:Put b cs' T W W') (hT:E ≠ T):Sl E sz f W' v l:=
 h.stay (fun k c hc=> hk.oth k (ne_of_types hc hh hT))
theorem Sl.shape {E:TypeId} {sz:Nat} {f:α→Array Value} {W:World} {v:Value} {l:List α} (h:Sl E sz f W v l):∃ a c,v=.slice a l.length c∧l.length≤c∧c≤9223372036854775807:=by
 obtain ⟨a,c,rfl,h1,h2,_⟩:=h
 exact ⟨a,c,rfl,h1,h2⟩
theorem Sl.elem {E:TypeId} {sz:Nat} {f:α→Array Value} {W:World} {a:Option Addr} {n c:Nat} {l:List α} (h:Sl E sz f W (.slice a n c) l):n=l.length∧n≤c∧c≤9223372036854775807∧
 ∀ (i:Nat) (x:α),l[i]? =some x→∃ b off,a=some ⟨b,off,none⟩∧b<W.heap.size∧∀ W',Below W.heap.size W W'→∀ j u,(f x)[j]? =some u→W'.cell? ⟨b,off + i * sz + j,none⟩=some u:=by
 obtain ⟨a',c',he,h1,h2,h⟩:=h
 injection he with ha hn hc
 subst ha hn hc
 refine ⟨rfl,h1,h2,fun i x hx=> ?_⟩
 rcases h with rfl|⟨b,off,cur,rfl,hb,hcell⟩
 · simp at hx
 · exact ⟨b,off,rfl,hlt hb,fun W' hb' j u hj=> by rw [hcell_of (hb'.block b (hlt hb)) hb];exact hcell i x hx j u hj⟩
where hcell_of {W W':World} {b:Nat} {cur:Array Value} {T:TypeId} {fr:Nat × Nat} {j:Nat} (h:W'.heap[b]? =W.heap[b]?) (hb:W.heap[b]? =some (.cells cur T fr)):W'.cell? ⟨b,j,none⟩=cur[j]? :=hcell (h.trans hb) j
def flat (f:α→Array Value) (l:List α):List Value:=l.flatMap (fun x=> (f x).toList)
theorem flat_length {f:α→Array Value} {sz:Nat} (hf:∀ x,(f x).size=sz):∀ l:List α,(flat f l).length=l.length * sz
 |[]=> by simp [flat]
 |x::l=> by
  have ih:=flat_length hf l
  unfold flat at *
  rw [List.flatMap_cons,List.length_append,Array.length_toList,hf,ih,List.length_cons,Nat.add_mul]
  omega
theorem flat_append {f:α→Array Value} (l k:List α):flat f (l ++ k)=flat f l ++ flat f k:=by simp [flat]
theorem flat_get {f:α→Array Value} {sz:Nat} (hf:∀ x,(f x).size=sz):∀ (l:List α) (i:Nat) (x:α),l[i]? =some x→∀ (j:Nat) (u:Value),(f x)[j]? =some u→(flat f l)[i * sz + j]? =some u
 |[],i,x,h,j,u,hj=> by simp at h
 |y::l,0,x,h,j,u,hj=> by
  simp at h
  subst h
  have hlt:=(Array.getElem?_eq_some_iff.1 hj).1
  unfold flat
  rw [List.flatMap_cons,Nat.zero_mul,Nat.zero_add,List.getElem?_append_left (by rw [Array.length_toList];exact hlt)]
  simpa using hj
 |y::l,i + 1,x,h,j,u,hj=> by
  have ih:=flat_get hf l i x (by simpa using h) j u hj
  unfold flat at *
  rw [List.flatMap_cons,List.getElem?_append_right (by rw [Array.length_toList,hf,Nat.add_mul];omega),Array.length_toList,hf]
  rw [← ih]
  congr 1
  rw [Nat.add_mul]
  omega
def Own (E:TypeId) (sz:Nat) (f:α→Array Value) (B:Nat) (W:World) (v:Value) (l:List α):Prop:=W.ownsRow B E sz v l.length (flat f l)
theorem Own.sl {E:TypeId} {sz B:Nat} {f:α→Array Value} (hf:∀ x,(f x).size=sz) {W:World} {v:Value} {l:List α} (h:Own E sz f B W v l):Sl E sz f W v l:=by
 obtain ⟨h0,⟨rfl,hn⟩|⟨g,cap,cur,rfl,hb,hg,hc,hm,hs,ht⟩⟩:=h
 · obtain rfl:=List.eq_nil_of_length_eq_zero hn
   exact Sl.nil
 · refine ⟨_,cap,rfl,hc,hm,.inr ⟨g,0,cur,rfl,hg,fun i x hx j u hj=> ?_⟩⟩
   have hil:i<l.length:=(List.getElem?_eq_some_iff.1 hx).1
   have hj':=(Array.getElem?_eq_some_iff.1 hj).1
   rw [hf] at hj'
   have h1:=flat_get hf l i x hx j u hj
   rw [← ht,List.getElem?_take] at h1
   split at h1
   · rw [Nat.zero_add]
     simpa using h1
   · cases h1
theorem Own.nil (E:TypeId) (sz:Nat) (f:α→Array Value) (B:Nat) (W:World):Own E sz f B W (.slice none 0 0) []:=World.ownsRow_nil W B E sz
theorem Sl.flat_cells {E:TypeId} {sz:Nat} {f:α→Array Value} (hf:∀ x,(f x).size=sz) {W:World} {b off n c:Nat} {l:List α} (h:Sl E sz f W (.slice (some ⟨b,off,none⟩) n c) l):∀ j u,(flat f l)[j]? =some u→W.cell? ⟨b,off + j,none⟩=some u:=by
 obtain ⟨a',c',he,h1,h2,h⟩:=h
 injection he with ha hn hc
 subst ha hn hc
 intro j u hj
 rcases h with rfl|⟨b',off',cur,he,hb,hc⟩
 · simp [flat] at hj
 · injection he with he
   injection he with hb1 ho1 _
   subst hb1 ho1
   rw [hcell hb]
   have hjl:=(List.getElem?_eq_some_iff.1 hj).1
   rw [flat_length hf] at hjl
   have hsz:0<sz:=Nat.pos_of_ne_zero (fun e=> by subst e;simp at hjl)
   have hi:j / sz<l.length:=Nat.div_lt_of_lt_mul (by rw [Nat.mul_comm];exact hjl)
   have hr:j % sz<sz:=Nat.mod_lt _ hsz
   have hx:=List.getElem?_eq_getElem hi
   have hu:(f l[j / sz])[j % sz]? =some ((f l[j / sz])[j % sz]'(by rw [hf];exact hr)):=Array.getElem?_eq_getElem _
   have h3:=flat_get hf l _ _ hx _ _ hu
   have hdm:j / sz * sz + j % sz=j:=by rw [Nat.mul_comm];exact Nat.div_add_mod j sz
   rw [hdm,hj] at h3
   injection h3 with h3
   rw [h3]
   have h4:=hc _ _ hx _ _ hu
   rw [Nat.add_assoc,hdm] at h4
   exact h4
end KR
end Go.Proofs.YthgehdghihbiaaaGreatDoor
namespace Go.Proofs.YthgehdghihbiaaaGreatDoor
open Go.RowKit KR
namespace Kn
structure BoxV where
 a:Option Addr
 c:Nat
 b:Box
def boxCells (x:BoxV):Array Value:=#[.slice x.a x.b.l.length x.c,.int .i64 x.b.lost]
def strCells (s:ByteArray):Array Value:=#[.string s]
def intCells (n:Int):Array Value:=#[.int .i64 n]
theorem szProc:∀ x:Proc,(Proc.cells x).size=26:=fun _=> rfl
theorem szAlarm:∀ x:Alarm,(Alarm.cells x).size=2:=fun _=> rfl
theorem szSpan:∀ x:Span,(Span.cells x).size=3:=fun _=> rfl
theorem szPipe:∀ x:Pipe,(Pipe.cells x).size=3:=fun _=> rfl
theorem szBox:∀ x:BoxV,(boxCells x).size=2:=fun _=> rfl
theorem szChan:∀ x:Chan,(Chan.cells x).size=5:=fun _=> rfl
theorem szEv:∀ x:Ev,(Ev.cells x).size=4:=fun _=> rfl
theorem szOut:∀ x:Out,(Out.cells x).size=2:=fun _=> rfl
theorem szMsg:∀ x:Msg,(Msg.cells x).size=2:=fun _=> rfl
theorem szStr:∀ x:ByteArray,(strCells x).size=1:=fun _=> rfl
theorem szInt:∀ x:Int,(intCells x).size=1:=fun _=> rfl
theorem aggProc:Agg Tryz.prog 220 26:=agg_of Tryz.underlying220 rfl (by kernel_rfl)
theorem aggAlarm:Agg Tryz.prog 230 2:=agg_of Tryz.underlying230 rfl (by kernel_rfl)
theorem aggSpan:Agg Tryz.prog 256 3:=agg_of Tryz.underlying256 rfl (by kernel_rfl)
theorem aggPipe:Agg Tryz.prog 232 3:=agg_of Tryz.underlying232 rfl (by kernel_rfl)
theorem aggBox:Agg Tryz.prog 178 2:=agg_of Tryz.underlying178 rfl (by kernel_rfl)
theorem aggChan:Agg Tryz.prog 101 5:=agg_of Tryz.underlying101 rfl (by kernel_rfl)
theorem aggEv:Agg Tryz.prog 235 4:=agg_of Tryz.underlying235 rfl (by kernel_rfl)
theorem aggOut:Agg Tryz.prog 237 2:=agg_of Tryz.underlying237 rfl (by kernel_rfl)
theorem aggMsg:Agg Tryz.prog 239 2:=agg_of Tryz.underlying239 rfl (by kernel_rfl)
theorem aggCall:Agg Tryz.prog 218 4:=agg_of Tryz.underlying218 rfl (by kernel_rfl)
theorem aggCpu:Agg Tryz.prog 213 9:=agg_of Tryz.underlying213 rfl (by kernel_rfl)
theorem aggEnd:Agg Tryz.prog 215 2:=agg_of Tryz.underlying215 rfl (by kernel_rfl)
theorem aggFds:Agg Tryz.prog 216 8:=agg_of Tryz.underlying216 rfl (by kernel_rfl)
theorem aggTurn:Agg Tryz.prog 60 2:=agg_of Tryz.underlying60 rfl (by kernel_rfl)
theorem aggHeap:Agg Tryz.prog 65 2:=agg_of Tryz.underlying65 rfl (by kernel_rfl)
theorem aggKern:Agg Tryz.prog 70 17:=agg_of Tryz.underlying70 rfl (by kernel_rfl)
theorem oneInt:One Tryz.prog 3:=one_of Tryz.underlying3 rfl (by kernel_rfl)
theorem oneStr:One Tryz.prog 9:=one_of Tryz.underlying9 rfl (by kernel_rfl)
theorem oneU64:One Tryz.prog 29:=one_of Tryz.underlying29 rfl (by kernel_rfl)
theorem oneU32:One Tryz.prog 208:=one_of Tryz.underlying208 rfl (by kernel_rfl)
theorem oneBool:One Tryz.prog 4:=one_of Tryz.underlying4 rfl (by kernel_rfl)
theorem oneSProc:One Tryz.prog 57:=one_of Tryz.underlying57 rfl (by kernel_rfl)
theorem oneSInt:One Tryz.prog 58:=one_of Tryz.underlying58 rfl (by kernel_rfl)
theorem oneSAlarm:One Tryz.prog 61:=one_of Tryz.underlying61 rfl (by kernel_rfl)
theorem oneSPipe:One Tryz.prog 62:=one_of Tryz.underlying62 rfl (by kernel_rfl)
theorem oneSSpan:One Tryz.prog 63:=one_of Tryz.underlying63 rfl (by kernel_rfl)
theorem oneSStr:One Tryz.prog 43:=one_of Tryz.underlying43 rfl (by kernel_rfl)
theorem oneSChan:One Tryz.prog 25:=one_of Tryz.underlying25 rfl (by kernel_rfl)
theorem oneSBox:One Tryz.prog 66:=one_of Tryz.underlying66 rfl (by kernel_rfl)
theorem oneSEv:One Tryz.prog 67:=one_of Tryz.underlying67 rfl (by kernel_rfl)
theorem oneSOut:One Tryz.prog 68:=one_of Tryz.underlying68 rfl (by kernel_rfl)
theorem oneSMsg:One Tryz.prog 176:=one_of Tryz.underlying176 rfl (by kernel_rfl)
theorem info_cells {P:Program} {t:TypeId} {n b:Nat} (hi:(P.info? t).map (fun i=> (i.zero.map (·.cells.size),i.size,i.bytes))=some (some n,n,b)):∃ i z,P.info? t=some i∧i.zero=some z∧z.cells.size=n∧i.size=n∧i.bytes=b:=by
 cases hq:P.info? t with
 |none=> rw [hq] at hi;cases hi
 |some i=>
  rw [hq] at hi
  simp only [Option.map_some,Option.some.injEq,Prod.mk.injEq] at hi
  obtain ⟨h1,h2,h3⟩:=hi
  cases hz:i.zero with
  |none=> rw [hz] at h1;cases h1
  |some z=>
   rw [hz] at h1
   exact ⟨i,z,rfl,hz,by simpa using h1,h2,h3⟩
theorem zero_of {P:Program} {t:TypeId} {z:Value} (h:(P.info? t).bind (·.zero)=some z):∀ W,(zeroValue t).run P W=.ok z W:=by
 intro W
 cases hq:P.info? t with
 |none=> rw [hq] at h;cases h
 |some i=>
  rw [hq] at h
  have h:i.zero=some z:=h
  simp [zeroValue,typeInfo,hq,h]
theorem zeroProc:∀ W,(zeroValue 220).run Tryz.prog W=.ok (.agg Proc.zero.cells) W:=zero_of (by kernel_rfl)
theorem zeroAlarm:∀ W,(zeroValue 230).run Tryz.prog W=.ok (.agg (Alarm.cells ⟨0,0⟩)) W:=zero_of (by kernel_rfl)
theorem zeroSpan:∀ W,(zeroValue 256).run Tryz.prog W=.ok (.agg (Span.cells ⟨0,0,0⟩)) W:=zero_of (by kernel_rfl)
theorem zeroInt:∀ W,(zeroValue 3).run Tryz.prog W=.ok (.int .i64 0) W:=zero_of (by kernel_rfl)
theorem zeroEv:∀ W,(zeroValue 235).run Tryz.prog W=.ok (.agg (Ev.cells ⟨0,0,0,0⟩)) W:=zero_of (by kernel_rfl)
theorem zeroChan:∀ W,(zeroValue 101).run Tryz.prog W=.ok (.agg (Chan.cells ⟨0,0,0,0,0⟩)) W:=zero_of (by kernel_rfl)
theorem onesProc (x:Proc):∀ u ∈ (Proc.cells x).toList,u.oneCell'=true:=by
 intro u hu
 simp [Proc.cells] at hu
 rcases hu with rfl|rfl|rfl|rfl|rfl|rfl|rfl|rfl|rfl|rfl|rfl|rfl|rfl|rfl|rfl|rfl|rfl|rfl|rfl|rfl|rfl|rfl|rfl|rfl|rfl|rfl <;> rfl
theorem onesAlarm (x:Alarm):∀ u ∈ (Alarm.cells x).toList,u.oneCell'=true:=by
 intro u hu
 simp [Alarm.cells] at hu
 rcases hu with rfl|rfl <;> rfl
theorem onesSpan (x:Span):∀ u ∈ (Span.cells x).toList,u.oneCell'=true:=by
 intro u hu
 simp [Span.cells] at hu
 rcases hu with rfl|rfl|rfl <;> rfl
theorem onesPipe (x:Pipe):∀ u ∈ (Pipe.cells x).toList,u.oneCell'=true:=by
 intro u hu
 simp [Pipe.cells] at hu
 rcases hu with rfl|rfl|rfl <;> rfl
theorem onesChan (x:Chan):∀ u ∈ (Chan.cells x).toList,u.oneCell'=true:=by
 intro u hu
 simp [Chan.cells] at hu
 rcases hu with rfl|rfl|rfl|rfl|rfl <;> rfl
theorem onesEv (x:Ev):∀ u ∈ (Ev.cells x).toList,u.oneCell'=true:=by
 intro u hu
 simp [Ev.cells] at hu
 rcases hu with rfl|rfl|rfl|rfl <;> rfl
theorem onesOut (x:Out):∀ u ∈ (Out.cells x).toList,u.oneCell'=true:=by
 intro u hu
 simp [Out.cells] at hu
 rcases hu with rfl|rfl <;> rfl
theorem onesMsg (x:Msg):∀ u ∈ (Msg.cells x).toList,u.oneCell'=true:=by
 intro u hu
 simp [Msg.cells] at hu
 rcases hu with rfl|rfl <;> rfl
theorem onesStr (x:ByteArray):∀ u ∈ (strCells x).toList,u.oneCell'=true:=by
 intro u hu
 simp [strCells] at hu
 rcases hu with rfl <;> rfl
theorem onesInt (x:Int):∀ u ∈ (intCells x).toList,u.oneCell'=true:=by
 intro u hu
 simp [intCells] at hu
 rcases hu with rfl <;> rfl
theorem idx_hit {α:Type} {l:List α} {pr:α→Bool} {k:Nat} {x:α} (hx:l[k]? =some x) (hno:∀ j y,j<k→l[j]? =some y→pr y=false) (h:pr x=true):idx l pr=(k:Int):=by
 have:l.findIdx? pr=some k:=by
  rw [List.findIdx?_eq_some_iff_getElem]
  obtain ⟨hk,hx⟩:=List.getElem?_eq_some_iff.1 hx
  refine ⟨hk,by rw [hx];exact h,fun j hj=> ?_⟩
  have:=hno j _ hj (List.getElem?_eq_getElem (Nat.lt_trans hj hk))
  simp [this]
 rw [idx,this]
theorem idx_miss {α:Type} {l:List α} {pr:α→Bool} (hno:∀ j y,j<l.length→l[j]? =some y→pr y=false):idx l pr= -1:=by
 have:l.findIdx? pr=none:=by
  rw [List.findIdx?_eq_none_iff]
  intro x hx
  obtain ⟨j,hj,hx⟩:=List.getElem_of_mem hx
  exact hno j x hj (by rw [← hx];exact List.getElem?_eq_getElem hj)
 rw [idx,this]
def Seek {α:Type} (w:World) (l:List α) (pr:α→Bool) (v:Value) (wr:World):Prop:=∃ k:Nat,k≤l.length∧v=.int .i64 k∧Below w.heap.size w wr∧∀ j y,j<k→l[j]? =some y→pr y=false
end Kn
end Go.Proofs.YthgehdghihbiaaaGreatDoor
namespace Go.Proofs.YthgehdghihbiaaaGreatDoor
open Go.RowKit KR
namespace KR
variable {α:Type}
def Row (E:TypeId) (sz:Nat) (f:α→Array Value) (W:World) (g cap:Nat) (l:List α) (cur:Array Value):Prop:=
 W.heap[g]? =some (.cells cur E (0,0))∧l.length≤cap∧cap≤maxLen∧cur.size=cap * sz∧cur.toList.take (l.length * sz)=flat f l
theorem Own.row {E:TypeId} {sz B:Nat} {f:α→Array Value} {W:World} {v:Value} {l:List α} (h:Own E sz f B W v l) (hl:l ≠ []):∃ g cap cur,v=.slice (some ⟨g,0,none⟩) l.length cap∧B≤g∧Row E sz f W g cap l cur:=by
 obtain ⟨h0,⟨rfl,hn⟩|⟨g,cap,cur,rfl,hb,hg,hc,hm,hs,ht⟩⟩:=h
 · exact absurd (List.eq_nil_of_length_eq_zero hn) hl
 · exact ⟨g,cap,cur,rfl,hb,hg,hc,hm,hs,ht⟩
theorem Row.own {E:TypeId} {sz B g cap:Nat} {f:α→Array Value} (hf:∀ x,(f x).size=sz) {W:World} {l:List α} {cur:Array Value} (h:Row E sz f W g cap l cur) (hb:B≤g):Own E sz f B W (.slice (some ⟨g,0,none⟩) l.length cap) l:=
 ⟨flat_length hf l,.inr ⟨g,cap,cur,rfl,hb,h.1,h.2.1,h.2.2.1,h.2.2.2.1,h.2.2.2.2⟩⟩
theorem Row.same {E:TypeId} {sz g cap:Nat} {f:α→Array Value} {W W':World} {l:List α} {cur:Array Value} (h:Row E sz f W g cap l cur) (hs:W'.heap[g]? =W.heap[g]?):Row E sz f W' g cap l cur:=
 ⟨hs.trans h.1,h.2⟩
theorem Row.get {E:TypeId} {sz g cap:Nat} {f:α→Array Value} (hf:∀ x,(f x).size=sz) {W:World} {l:List α} {cur:Array Value} (h:Row E sz f W g cap l cur) {i:Nat} {x:α} (hx:l[i]? =some x):∀ j u,(f x)[j]? =some u→W.cell? ⟨g,i * sz + j,none⟩=some u:=by
 intro j u hj
 rw [hcell h.1]
 have h1:=flat_get hf l i x hx j u hj
 rw [← h.2.2.2.2,List.getElem?_take] at h1
 split at h1
 · simpa using h1
 · cases h1
theorem flat_take {f:α→Array Value} {sz:Nat} (hf:∀ x,(f x).size=sz) (l:List α) (i:Nat) (hi:i≤l.length):(flat f l).take (i * sz)=flat f (l.take i):=by
 conv=> lhs;rw [← List.take_append_drop i l,flat_append]
 rw [List.take_left' (by rw [flat_length hf,List.length_take,Nat.min_eq_left hi])]
theorem flat_drop {f:α→Array Value} {sz:Nat} (hf:∀ x,(f x).size=sz) (l:List α) (i:Nat) (hi:i≤l.length):(flat f l).drop (i * sz)=flat f (l.drop i):=by
 conv=> lhs;rw [← List.take_append_drop i l,flat_append]
 rw [List.drop_left' (by rw [flat_length hf,List.length_take,Nat.min_eq_left hi])]
theorem flat_cons {f:α→Array Value} (x:α) (l:List α):flat f (x::l)=(f x).toList ++ flat f l:=by simp [flat]
theorem set_cut (l:List α) (i:Nat) (x:α) (hi:i<l.length):l.set i x=l.take i ++ x::l.drop (i + 1):=by
 induction l generalizing i with
 |nil=> simp at hi
 |cons y l ih=>
  cases i with
  |zero=> rfl
  |succ i=> simp only [List.set_cons_succ,List.take_succ_cons,List.drop_succ_cons,List.cons_append];rw [ih i (by simpa using hi)]
theorem splice_size {cur vs:Array Value} {o:Nat} (h:o + vs.size≤cur.size):(splice cur o vs).size=cur.size:=by
 simp only [splice,List.size_toArray,List.length_append,List.length_take,List.length_drop,Array.length_toList]
 omega
theorem splice_whole {cur vs:Array Value} (h:cur.size=vs.size):splice cur 0 vs=vs:=by
 unfold splice
 rw [List.take_zero,List.nil_append,List.drop_of_length_le (by rw [Array.length_toList];omega),List.append_nil,Array.toArray_toList]
theorem splice_take {cur vs:Array Value} {o:Nat} (h:o≤cur.size):(splice cur o vs).toList.take o=cur.toList.take o:=by
 unfold splice
 rw [List.toList_toArray,List.append_assoc,List.take_append_of_le_length (by rw [List.length_take,Array.length_toList];omega),List.take_take,Nat.min_self]
theorem Row.set {E:TypeId} {sz g cap:Nat} {f:α→Array Value} (hf:∀ x,(f x).size=sz) {W W':World} {l:List α} {cur new:Array Value} (h:Row E sz f W g cap l cur) {i:Nat} {x:α} (hi:i<l.length) (hn:splice cur (i * sz) (f x)=new) (hp:Put g new E W W'):Row E sz f W' g cap (l.set i x) new:=by
 subst hn
 have him:(i + 1) * sz≤l.length * sz:=Nat.mul_le_mul_right _ hi
 rw [Nat.add_mul,Nat.one_mul] at him
 have hlc:l.length * sz≤cap * sz:=Nat.mul_le_mul_right _ h.2.1
 have hcur:=h.2.2.2.1
 refine ⟨hp.at_,by rw [List.length_set];exact h.2.1,h.2.2.1,by rw [splice_size (by rw [hf];omega)];exact hcur,?_⟩
 have hfl:=h.2.2.2.2
 rw [List.length_set,set_cut l i x hi,flat_append,flat_cons]
 rw [← flat_take hf l i (by omega),← flat_drop hf l (i + 1) (by omega),← hfl]
 unfold splice
 rw [List.take_take,Nat.min_eq_left (by omega),Nat.add_mul,Nat.one_mul,hf,List.toList_toArray]
 have hxl:(f x).toList.length=sz:=(Array.length_toList (xs:=f x)).trans (hf x)
 have hcl:cur.toList.length=cap * sz:=(Array.length_toList (xs:=cur)).trans hcur
 have hpre:(cur.toList.take (i * sz) ++ (f x).toList).length=i * sz + sz:=by rw [List.length_append,List.length_take,hxl,hcl];omega
 rw [show l.length * sz=(cur.toList.take (i * sz) ++ (f x).toList).length + (l.length * sz - (i * sz + sz)) by rw [hpre];omega]
 rw [List.take_length_add_append,List.append_assoc]
 congr 2
 rw [hpre,List.drop_take]
 congr 1
 omega
theorem ownsRow_below {E:TypeId} {sz B:Nat} {f:α→Array Value} {W W':World} {v:Value} {l:List α} (h:Own E sz f B W v l) (hb:Below W.heap.size W W'):Own E sz f B W' v l:=by
 obtain ⟨h0,h1|⟨g,cap,cur,hv,hB,hg,hc,hm,hs,ht⟩⟩:=h
 · exact ⟨h0,.inl h1⟩
 · exact ⟨h0,.inr ⟨g,cap,cur,hv,hB,(hb.block g (hlt hg)).trans hg,hc,hm,hs,ht⟩⟩
def DelInv (E:TypeId) (sz:Nat) (f:α→Array Value) (B:Nat) (w:World) (l:List α) (pr:α→Bool) (g cap:Nat) (iv jv:Value) (W:World):Prop:=
 ∃ (j:Nat) (m:List α) (cur:Array Value),j≤l.length∧iv=.int .i64 (((l.take j).filter (fun x=> !pr x)).length:Nat)∧jv=.int .i64 (j:Nat)∧((l.take j).filter (fun x=> !pr x)).length + m.length=j∧0<m.length∧
   Row E sz f W g cap ((l.take j).filter (fun x=> !pr x) ++ m ++ l.drop j) cur∧Below B w W
theorem take_succ_get {l:List α} {j:Nat} {x:α} (hx:l[j]? =some x):l.take (j + 1)=l.take j ++ [x]∧l.drop j=x::l.drop (j + 1):=by
 obtain ⟨hj,hx⟩:=List.getElem?_eq_some_iff.1 hx
 refine ⟨?_,?_⟩
 · rw [List.take_succ_eq_append_getElem hj,hx]
 · rw [List.drop_eq_getElem_cons hj,hx]
theorem del_hit {l m:List α} {pr:α→Bool} {j:Nat} {x:α} (hx:l[j]? =some x) (hp:pr x=true):(l.take (j + 1)).filter (fun x=> !pr x)=(l.take j).filter (fun x=> !pr x)∧(l.take j).filter (fun x=> !pr x) ++ m ++ l.drop j=(l.take j).filter (fun x=> !pr x) ++ (m ++ [x]) ++ l.drop (j + 1):=by
 obtain ⟨h1,h2⟩:=take_succ_get hx
 refine ⟨?_,?_⟩
 · rw [h1,List.filter_append]
   simp [hp]
 · rw [h2]
   simp
theorem del_miss {l m:List α} {pr:α→Bool} {j:Nat} {x:α} (hx:l[j]? =some x) (hp:pr x=false) (hm:0<m.length):
 (l.take (j + 1)).filter (fun x=> !pr x)=(l.take j).filter (fun x=> !pr x) ++ [x]∧((l.take j).filter (fun x=> !pr x) ++ m ++ l.drop j).set ((l.take j).filter (fun x=> !pr x)).length x=((l.take j).filter (fun x=> !pr x) ++ [x]) ++ (m.tail ++ [x]) ++ l.drop (j + 1):=by
 obtain ⟨h1,h2⟩:=take_succ_get hx
 refine ⟨?_,?_⟩
 · rw [h1,List.filter_append]
   simp [hp]
 · match m,hm with
   |y::m,_=>
    rw [h2]
    simp [List.set_append]
theorem filter_all {l:List α} {pr:α→Bool} (h:∀ j y,j<l.length→l[j]? =some y→pr y=false):l.filter (fun x=> !pr x)=l:=by
 rw [List.filter_eq_self]
 intro x hx
 obtain ⟨j,hj,hx⟩:=List.getElem_of_mem hx
 rw [h j x hj (by rw [← hx];exact List.getElem?_eq_getElem hj)]
 rfl
theorem filter_first {l:List α} {pr:α→Bool} {k:Nat} {x:α} (hx:l[k]? =some x) (hp:pr x=true) (h:∀ j y,j<k→l[j]? =some y→pr y=false):(l.take (k + 1)).filter (fun x=> !pr x)=l.take k:=by
 rw [(take_succ_get hx).1,List.filter_append]
 have:(l.take k).filter (fun x=> !pr x)=l.take k:=by
  have hk:=(List.getElem?_eq_some_iff.1 hx).1
  refine filter_all (fun j y hj hy=> ?_)
  rw [List.length_take] at hj
  rw [List.getElem?_take] at hy
  split at hy
  · exact h j y (by omega) hy
  · cases hy
 rw [this]
 simp [hp]
theorem Row.cut {E:TypeId} {sz g cap:Nat} {f:α→Array Value} (hf:∀ x,(f x).size=sz) {W:World} {l m:List α} {cur:Array Value} (h:Row E sz f W g cap (l ++ m) cur):Row E sz f W g cap l cur:=by
 obtain ⟨h1,h2,h3,h4,h5⟩:=h
 refine ⟨h1,by rw [List.length_append] at h2;omega,h3,h4,?_⟩
 have:=congrArg (List.take (l.length * sz)) h5
 rw [List.take_take,List.length_append,Nat.min_eq_left (Nat.mul_le_mul_right _ (by omega)),flat_take hf _ _ (by simp),List.take_left' rfl] at this
 exact this
theorem Row.past {E:TypeId} {sz g cap:Nat} {f:α→Array Value} {W W':World} {l:List α} {cur new:Array Value} (h:Row E sz f W g cap l cur) (hs:new.size=cur.size) (ht:new.toList.take (l.length * sz)=cur.toList.take (l.length * sz)) (hp:Put g new E W W'):Row E sz f W' g cap l new:=
 ⟨hp.at_,h.2.1,h.2.2.1,hs.trans h.2.2.2.1,ht.trans h.2.2.2.2⟩
theorem zeros_ones {z:Array Value} {n:Nat} (h:z.toList.all (·.oneCell')=true):∀ u ∈ (Builtin.zeroCells z n).toList,u.oneCell'=true:=by
 intro u hu
 rw [List.all_eq_true] at h
 unfold Builtin.zeroCells at hu
 simp at hu
 obtain ⟨k,hk,hu⟩:=hu
 have hz:0<z.size:=Nat.pos_of_ne_zero (fun e=> by rw [e] at hk;simp at hk)
 have hm:=Nat.mod_lt k hz
 rw [getElem!_pos z _ hm] at hu
 subst hu
 exact h _ (by rw [Array.mem_toList_iff];exact Array.getElem_mem hm)
theorem run_clear {P:Program} {S E ty:TypeId} {W:World} {g o n c:Nat} {z:Value} {cur:Array Value} (hu:P.underlying S=some (.slice E)) (hz:(zeroValue E).run P W=.ok z W) (hn:0<n) (hh:W.heap[g]? =some (.cells cur E (0,0))) (hfit:o + n * z.cells.size≤cur.size) (h1:∀ u ∈ (Builtin.zeroCells z.cells n).toList,u.oneCell'=true):
 (Builtin.clear_ #[S] ty #[.slice (some ⟨g,o,none⟩) n c]).run P W=.ok (.tuple #[]) (W.setRow g (splice cur o (Builtin.zeroCells z.cells n))):=by
 have h:=run_storeCells_at P g o E (Builtin.zeroCells z.cells n).toList 0 cur W hh (by rw [Array.length_toList,size_zeroCells];omega) h1
 obtain ⟨k,rfl⟩:∃ k,n=k + 1:=⟨n - 1,by omega⟩
 simp [Builtin.clear_,run_underlying hu,hz,h,splice]
theorem wpList_clear {P:Program} {W:World} {ops:Array Oper} {rest:List Oper} {o:Oper} {a:Act} {Q:Exit→Act→World→Prop} (hg:o.guard=none) (x:Operand) (t:TypeId) (hop:o.op=Op.call {callee:=Callee.builtin Builtin.clear,args:=#[x],argTypes:=#[t]})
 (xv:Value) (hx:a.eval x=xv) (W':World) (hrun:(Builtin.clear_ #[t] o.type #[xv]).run P W=.ok (.tuple #[]) W') (hK:wpList P ops Q rest (a.put o.dst (.tuple #[])) W'):wpList P ops Q (o::rest) a W:=by
 refine wpList_plain hg fun K hK'=> ?_
 unfold Oper.wp
 simp [execOp,hop,resolve,invoke,builtin,hx,hrun,Result.andThen]
 exact hK' _ _ hK
end KR
end Go.Proofs.YthgehdghihbiaaaGreatDoor
namespace Go.Proofs.YthgehdghihbiaaaGreatDoor
open Go.RowKit KR
namespace KR
variable {α:Type}
theorem run_copyN {P:Program} (w:World) (dT sT ty elem:TypeId) (g o dLen dCap:Nat) (a:Addr) (sLen sCap size k:Nat) (cur:Array Value) (t:TypeId) (cs:List Value)
 (hu:P.underlying dT=some (.slice elem)) (hs:∀ w,(sizeOf elem).run P w=.ok size w)
 (hg:w.heap[g]? =some (.cells cur t (0,0))) (hk:Nat.min sLen dLen=k) (hn:cs.length=k * size)
 (hsrc:∀ j v,cs[j]? =some v→w.cell? (a.add j)=some v) (hfit:o + cs.length≤cur.size) (h1:∀ v ∈ cs,v.oneCell'=true):
 (Builtin.copy_ #[dT,sT] ty #[.slice (some ⟨g,o,none⟩) dLen dCap,.slice (some a) sLen sCap]).run P w=.ok (goInt k) (w.setRow g (splice cur o cs.toArray)):=by
 have hl:=run_loadCells_list (P:=P) w a cs hsrc
 have hst:=run_storeCells_at P g o t cs 0 cur w hg (by simpa using hfit) h1
 rw [hn] at hl
 simp [Builtin.copy_,run_underlying hu,Builtin.lenOf,Builtin.firstCells,hs,hk,hl,hst,splice]
theorem splice_list {cur vs:Array Value} {o:Nat}:(splice cur o vs).toList=cur.toList.take o ++ vs.toList ++ cur.toList.drop (o + vs.size):=by simp [splice]
theorem splice_drop {cur vs:Array Value} {o k:Nat} (h:o + vs.size≤k) (hk:o≤cur.size):(splice cur o vs).toList.drop k=cur.toList.drop k:=by
 have hl:cur.toList.length=cur.size:=Array.length_toList
 have hv:vs.toList.length=vs.size:=Array.length_toList
 rw [splice_list,List.drop_append,List.drop_of_length_le (by rw [List.length_append,List.length_take,hl,hv];omega),List.nil_append,List.length_append,List.length_take,hl,hv,List.drop_drop]
 congr 1
 omega
theorem splice_take_ge {cur vs:Array Value} {o:Nat} (hk:o + vs.size≤cur.size):(splice cur o vs).toList.take (o + vs.size)=cur.toList.take o ++ vs.toList:=by
 have hl:cur.toList.length=cur.size:=Array.length_toList
 have hv:vs.toList.length=vs.size:=Array.length_toList
 rw [splice_list,List.take_left' (by rw [List.length_append,List.length_take,hl,hv];omega)]
theorem splice_take_lt {cur vs:Array Value} {o k:Nat} (h:k≤o) (hk:o≤cur.size):(splice cur o vs).toList.take k=cur.toList.take k:=by
 have hl:cur.toList.length=cur.size:=Array.length_toList
 rw [splice_list,List.append_assoc,List.take_append_of_le_length (by rw [List.length_take,hl];omega),List.take_take,Nat.min_eq_left h]
theorem ins_cells1 {cur X D:Array Value} {a:Nat} (h:a + X.size + D.size≤cur.size):(splice (splice cur a X) (a + X.size) D).toList.take (a + X.size + D.size)=cur.toList.take a ++ X.toList ++ D.toList:=by
 have hs:(splice cur a X).size=cur.size:=splice_size (by omega)
 rw [splice_take_ge (by rw [hs];exact h),splice_take_ge (by omega)]
theorem ins_cells2 {cur X D:Array Value} {a:Nat} (h:a + X.size + D.size≤cur.size):(splice (splice cur (a + X.size) D) a X).toList.take (a + X.size + D.size)=cur.toList.take a ++ X.toList ++ D.toList:=by
 have hs:(splice cur (a + X.size) D).size=cur.size:=splice_size (by omega)
 have h1:((splice (splice cur (a + X.size) D) a X).toList.take (a + X.size + D.size)).take (a + X.size)=cur.toList.take a ++ X.toList:=by
  rw [List.take_take,Nat.min_eq_left (by omega),splice_take_ge (by omega),splice_take_lt (by omega) (by omega)]
 have h2:((splice (splice cur (a + X.size) D) a X).toList.take (a + X.size + D.size)).drop (a + X.size)=D.toList:=by
  rw [List.drop_take,splice_drop (Nat.le_refl _) (by omega)]
  have hl:cur.toList.length=cur.size:=Array.length_toList
  have hv:D.toList.length=D.size:=Array.length_toList
  rw [splice_list,List.append_assoc,List.drop_left' (by rw [List.length_take,hl];omega),List.take_left' (by omega)]
 have h3:=List.take_append_drop (a + X.size) ((splice (splice cur (a + X.size) D) a X).toList.take (a + X.size + D.size))
 rw [h1,h2] at h3
 rw [← h3]
theorem flat_ins {f:α→Array Value} {sz:Nat} (hf:∀ x,(f x).size=sz) (l:List α) (i:Nat) (x:α) (hi:i≤l.length):flat f (l.take i ++ x::l.drop i)=(flat f l).take (i * sz) ++ (f x).toList ++ (flat f l).drop (i * sz):=by
 rw [flat_append,flat_cons,flat_take hf l i hi,flat_drop hf l i hi,List.append_assoc]
theorem flat_ones {f:α→Array Value} (h:∀ x,∀ u ∈ (f x).toList,u.oneCell'=true) (l:List α):∀ u ∈ flat f l,u.oneCell'=true:=by
 intro u hu
 unfold flat at hu
 rw [List.mem_flatMap] at hu
 obtain ⟨x,_,hx⟩:=hu
 exact h x u hx
theorem row_ins {E:TypeId} {sz g cap:Nat} {f:α→Array Value} (hf:∀ x,(f x).size=sz) {W:World} {l:List α} {new:Array Value} {i:Nat} {x:α} (hi:i≤l.length) (hh:W.heap[g]? =some (.cells new E (0,0))) (hc:l.length + 1≤cap) (hm:cap≤maxLen) (hs:new.size=cap * sz)
 (ht:new.toList.take (i * sz + sz + (l.length - i) * sz)=(flat f l).take (i * sz) ++ (f x).toList ++ (flat f l).drop (i * sz)):Row E sz f W g cap (l.take i ++ x::l.drop i) new:=by
 have hlen:(l.take i ++ x::l.drop i).length=l.length + 1:=by rw [List.length_append,List.length_cons,List.length_take,List.length_drop];omega
 refine ⟨hh,by rw [hlen];exact hc,hm,hs,?_⟩
 rw [flat_ins hf l i x hi,← ht,hlen]
 congr 1
 have:l.length * sz=i * sz + (l.length - i) * sz:=by rw [← Nat.add_mul];congr 1;omega
 rw [Nat.add_mul,Nat.one_mul,this]
 omega
theorem step_copy_run {P:Program} {ops:Array Oper} {o:Oper} {a:Act} {w:World} {K:Act→World→Prop} {Q:Exit→Act→World→Prop} {E:Prop}
 (hg:o.guard=none) (d x:Operand) (dT sT:TypeId) (hop:o.op=Op.call {callee:=Callee.builtin Builtin.copy,args:=#[d,x],argTypes:=#[dT,sT]})
 (v u:Value) (hd:a.eval d=v) (hx:a.eval x=u) {v':Value} {w':World} (hr:(Builtin.copy_ #[dT,sT] o.type #[v,u]).run P w=.ok v' w') (hK:K (a.put o.dst v') w'):
 if Region.wanted o (yielded ops a.tmps)=true then Oper.wp P o a w K Q else E:=by
 have hw:Region.wanted o (yielded ops a.tmps)=true:=by simp [Region.wanted,hg]
 rw [if_pos hw]
 unfold Oper.wp
 simp [execOp,hop,resolve,invoke,builtin,hd,hx,hr,Result.andThen]
 exact hK
end KR
end Go.Proofs.YthgehdghihbiaaaGreatDoor
namespace Go.Proofs.YthgehdghihbiaaaGreatDoor
open Go.RowKit KR
namespace KR
variable {α:Type}
theorem fold_fill (o:Nat):∀ (l:List Value) (k:Nat) (acc:Array Value),o + k + l.length≤acc.size→(l.zipIdx k).foldl (fun cs (x:Value × Nat)=> cs.setIfInBounds (o + x.2) x.1) acc=(acc.toList.take (o + k) ++ l ++ acc.toList.drop (o + k + l.length)).toArray
 |[],k,acc,_=> by simp
 |c::l,k,acc,h=> by
  have ih:=fold_fill o l (k + 1) (acc.setIfInBounds (o + k) c) (by simp at h ⊢;omega)
  rw [List.zipIdx_cons,List.foldl_cons,ih]
  congr 1
  have e:=list_seg_step acc.toList (o + k) c l (by simp at h ⊢;omega)
  simpa [Array.toList_setIfInBounds,Nat.add_assoc] using e
theorem run_buildSlice_one {P:Program} {S E:TypeId} {W:World} {n:Nat} {z v:Value} (hu:P.underlying S=some (.slice E)) (hs:∀ W,(sizeOf E).run P W=.ok n W) (hz:∀ W,(zeroValue E).run P W=.ok z W) (hzn:z.cells.size=n) (hn0:0<n) (hnb:n≤1000) (hv:v.cells.size=n):
 (Instr.buildSlice S 1 #[(0,v)]).run P W=.ok (.slice (some ⟨W.heap.size,0,none⟩) 1 1) (W.alloc (.cells v.cells E)):=by
 have h1:¬ (1 * n > 2 ^ 24):=by omega
 have h2:¬ (1 * n=0):=by omega
 have hf:Instr.fill (fun i=> some (i * n,n)) ((Array.range (1 * n)).map (z.cells[· % z.cells.size]!)) [(0,v)]=some v.cells:=by
  have hc:¬ (v.cells.size ≠ n∨0 + v.cells.size > 1 * n):=by omega
  have:=fold_fill 0 v.cells.toList 0 ((Array.range (1 * n)).map (z.cells[· % z.cells.size]!)) (by simp;omega)
  simp only [Instr.fill,Nat.zero_mul,Array.size_map,Array.size_range,hv,ne_eq,not_true,decide_false,Bool.false_or,decide_eq_true_eq]
  rw [if_neg (by simp)]
  rw [← Array.foldl_toList,Array.toList_zipIdx]
  refine congrArg some ?_
  refine Eq.trans this ?_
  have hd:((Array.range (1 * n)).map (z.cells[· % z.cells.size]!)).toList.drop (0 + 0 + v.cells.toList.length)=[]:=List.drop_of_length_le (by simp;omega)
  rw [hd]
  simp
 rw [Nat.one_mul] at hf
 have h3:¬ 16777216<n:=by omega
 have h4:¬ n=0:=by omega
 simp [Instr.buildSlice,run_underlying hu,hs,hz,h3,h4,hf,newRow]
theorem wp_buildSlice_one {P:Program} {W:World} {o:Oper} {a:Act} {K:Act→World→Prop} {Q:Exit→Act→World→Prop} {S E:TypeId} {n:Nat} {z v:Value} (x:Operand) (hop:o.op=Op.buildSlice S 1 #[(0,x)]) (hx:a.eval x=v)
 (hu:P.underlying S=some (.slice E)) (hs:∀ W,(sizeOf E).run P W=.ok n W) (hz:∀ W,(zeroValue E).run P W=.ok z W) (hzn:z.cells.size=n) (hn0:0<n) (hnb:n≤1000) (hv:v.cells.size=n)
 (hK:K (a.put o.dst (.slice (some ⟨W.heap.size,0,none⟩) 1 1)) (W.alloc (.cells v.cells E))):o.wp P a W K Q:=by
 unfold Oper.wp execOp
 simp only [hop,Sem.run_bind,List.map_toArray,List.map_cons,List.map_nil,hx,run_buildSlice_one hu hs hz hzn hn0 hnb hv,Result.andThen_ok,Sem.run_pure]
 exact hK
theorem wpList_buildSlice_one {P:Program} {W:World} {ops:Array Oper} {rest:List Oper} {o:Oper} {a:Act} {Q:Exit→Act→World→Prop} {S E:TypeId} {n:Nat} {z v:Value} (hg:o.guard=none) (x:Operand) (hop:o.op=Op.buildSlice S 1 #[(0,x)]) (hx:a.eval x=v)
 (hu:P.underlying S=some (.slice E)) (hs:∀ W,(sizeOf E).run P W=.ok n W) (hz:∀ W,(zeroValue E).run P W=.ok z W) (hzn:z.cells.size=n) (hn0:0<n) (hnb:n≤1000) (hv:v.cells.size=n)
 (hK:wpList P ops Q rest (a.put o.dst (.slice (some ⟨W.heap.size,0,none⟩) 1 1)) (W.alloc (.cells v.cells E))):wpList P ops Q (o::rest) a W:=
 wpList_plain hg fun _ hk=> wp_buildSlice_one x hop hx hu hs hz hzn hn0 hnb hv (hk _ _ hK)
theorem splice_field {f:α→Array Value} {x y:α} {W:World} {E:TypeId} {g o j:Nat} {cur:Array Value} {u:Value} (hfit:o + (f x).size≤cur.size) (hj:j<(f x).size) (hget:∀ j u,(f x)[j]? =some u→W.cell? ⟨g,o + j,none⟩=some u) (hh:W.heap[g]? =some (.cells cur E (0,0)))
 (hy:f y=(f x).setIfInBounds j u):splice cur (o + j) #[u]=splice cur o (f y):=by
 have hlc:cur.toList.length=cur.size:=Array.length_toList
 have hlf:(f x).toList.length=(f x).size:=Array.length_toList
 have hseg:(cur.toList.drop o).take (f x).size=(f x).toList:=by
  apply List.ext_getElem?
  intro i
  by_cases hi:i<(f x).size
  · rw [List.getElem?_take,if_pos hi,List.getElem?_drop]
    have h1:(f x)[i]? =some (f x)[i]:=Array.getElem?_eq_getElem hi
    have h2:=hget i _ h1
    rw [hcell hh] at h2
    rw [← Array.getElem?_toList] at h1 h2
    rw [h1,h2]
  · rw [List.getElem?_eq_none (by rw [List.length_take];omega),List.getElem?_eq_none (by omega)]
 have hcut:cur.toList=cur.toList.take o ++ ((f x).toList ++ cur.toList.drop (o + (f x).size)):=by
  rw [← hseg,← List.drop_drop,List.take_append_drop,List.take_append_drop]
 have hP:(cur.toList.take o).length=o:=by rw [List.length_take];omega
 generalize cur.toList.take o=P at hcut hP
 generalize cur.toList.drop (o + (f x).size)=S at hcut
 have hF:((f x).toList.set j u)=(f x).toList.take j ++ u::(f x).toList.drop (j + 1):=set_cut _ _ _ (by omega)
 have h1:cur.toList.take (o + j)=P ++ (f x).toList.take j:=by
  rw [hcut,List.take_append,List.take_of_length_le (by omega),hP,show o + j - o=j by omega,List.take_append_of_le_length (by omega)]
 have h2:cur.toList.drop (o + j + (#[u]:Array Value).size)=(f x).toList.drop (j + 1) ++ S:=by
  show cur.toList.drop (o + j + 1)=_
  rw [hcut,List.drop_append,List.drop_of_length_le (by omega),List.nil_append,hP,show o + j + 1 - o=j + 1 by omega,List.drop_append_of_le_length (by omega)]
 have h3:cur.toList.take o=P:=by rw [hcut,List.take_left' hP]
 have hsz:((f x).setIfInBounds j u).size=(f x).size:=by simp
 have h4:cur.toList.drop (o + ((f x).setIfInBounds j u).size)=S:=by
  rw [hsz,hcut,← List.append_assoc,List.drop_left' (by rw [List.length_append,hP,hlf])]
 unfold splice
 rw [hy,h1,h2,h3,h4,Array.toList_setIfInBounds,hF]
 simp
theorem ownsRow_mono {W:World} {base base':Nat} {e:TypeId} {size:Nat} {v:Value} {n:Nat} {xs:List Value} (h:W.ownsRow base e size v n xs) (hb:base'≤base):W.ownsRow base' e size v n xs:=by
 refine ⟨h.1,?_⟩
 rcases h.2 with hn|⟨g,cap,cur,rfl,hb',rest⟩
 · exact .inl hn
 · exact .inr ⟨g,cap,cur,rfl,Nat.le_trans hb hb',rest⟩
theorem Own.mono {E:TypeId} {sz B B':Nat} {f:α→Array Value} {W:World} {v:Value} {l:List α} (h:Own E sz f B W v l) (hb:B'≤B):Own E sz f B' W v l:=ownsRow_mono h hb
end KR
end Go.Proofs.YthgehdghihbiaaaGreatDoor
namespace Go.Proofs.YthgehdghihbiaaaGreatDoor.RegTail
open Go
section
variable {P:Program} {ops:Array Oper} {Q:Exit→Act→World→Prop} {md:Region.Mode} {S:World→Prop}
theorem twoL {i j:Nat} {st:List Nat} {oi oj:Oper} {fuel:Nat} {listed:Array Bool} {a:Act} {w:World} (hr:Region.ready md ops listed=[i,j]) (hoi:ops[i]? =some oi) (hoj:ops[j]? =some oj)
 (h1:∀ K:Act→World→Prop,Shut (∀ a w,(st.contains i=false→S w)→wpL P md ops Q S st fuel (listed.setIfInBounds i true) a w→K a w)→if Region.wanted oi (yielded ops a.tmps)=true then Oper.wp P oi a w K Q else K (a.put oi.dst undef) w)
 (h2:∀ K:Act→World→Prop,Shut (∀ a w,(st.contains j=false→S w)→wpL P md ops Q S st fuel (listed.setIfInBounds j true) a w→K a w)→if Region.wanted oj (yielded ops a.tmps)=true then Oper.wp P oj a w K Q else K (a.put oj.dst undef) w):
 wpL P md ops Q S st (fuel + 1) listed a w:=
 ⟨fun h0=> absurd (hr ▸ h0) (by simp),fun k hk=> by
   rw [hr] at hk
   rcases (by simpa using hk:k=i∨k=j) with rfl|rfl
   · exact wpOp_step hoi (fun K' hK=> h1 K' (fun a w hS hW=> hK a w ⟨hS,hW⟩))
   · exact wpOp_step hoj (fun K' hK=> h2 K' (fun a w hS hW=> hK a w ⟨hS,hW⟩))⟩
theorem _root_.Go.Proofs.YthgehdghihbiaaaGreatDoor.KR.run_val_load {o:Oper} {a:Act} {w:World} {t:TypeId} {x:Operand} {ad:Addr} {v:Value} (hop:o.op=.load t x) (hx:a.eval x=.pointer (some ad)) (hr:(Instr.loadAt t (.pointer (some ad))).run P w=.ok v w):(execOp a.eval o).run P w=.ok (.value v) w:=by
 unfold execOp
 simp only [hop,hx,Sem.run_bind,hr,Result.andThen_ok,Sem.run_pure]
theorem want {o:Oper} {a:Act} {w:World} {K:Act→World→Prop} {E:Prop} (hg:o.guard=none) (h:Oper.wp P o a w K Q):if Region.wanted o (yielded ops a.tmps)=true then Oper.wp P o a w K Q else E:=by
 rw [if_pos (by simp [Region.wanted,hg])]
 exact h
end
end Go.Proofs.YthgehdghihbiaaaGreatDoor.RegTail
