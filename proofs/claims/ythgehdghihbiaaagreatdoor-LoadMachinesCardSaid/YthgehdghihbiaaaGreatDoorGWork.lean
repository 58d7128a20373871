/- A guest that goes on, as it lies in memory: the block of its fields, its rows. No condition. An end out of four. No condition. A region that draws its order (as RegTail has it): the fact on worlds need hold only until one of the tail has come up; what reads nothing may be taken first wherever it stands. No condition. Short forms of the rules for drawn regions, and of what stands from world to world. No condition. A guest as it is handed on, and what answers one. No condition. A row and a block that is none of it. A pipe in a block turns: what the guest's fields say then. A region that draws its order: three operations are ready. No condition. Several ways come together again. No condition. Stores into the guest's block and into boxes, what is carried from world to world, and operations that come first in a row: short forms. No condition. -/
import Derived.Test.YthgehdghihbiaaaGreatDoorGHeapD
set_option linter.unusedVariables false
set_option linter.unusedSimpArgs false
namespace Go.Proofs.YthgehdghihbiaaaGreatDoor
open Go.RowKit KR
namespace KR
variable {α:Type}
theorem Sl.vcells {E:TypeId} {sz:Nat} {f:α→Array Value} {W:World} {v:Value} {l:List α} (h:Sl E sz f W v l):v.cells=#[v]:=by
 obtain ⟨a,c,rfl,_⟩:=h.shape
 rfl
theorem Sl.vone {E:TypeId} {sz:Nat} {f:α→Array Value} {W:World} {v:Value} {l:List α} (h:Sl E sz f W v l):v.oneCell'=true:=by
 obtain ⟨a,c,rfl,_⟩:=h.shape
 rfl
section
variable {P:Program} {ops:Array Oper} {rest:List Oper} {o:Oper} {a:Act} {Q:Exit→Act→World→Prop} {W:World}
theorem wp_store1 {K:Act→World→Prop} {t T:TypeId} {x y:Operand} (hop:o.op=.store t x y) {g off:Nat} {v:Value} {cur new:Array Value} (hx:a.eval x=.pointer (some ⟨g,off,none⟩)) (hy:a.eval y=v)
 (ht:One P t) (hh:W.heap[g]? =some (.cells cur T (0,0))) (hv:v.cells=#[v]) (h1:v.oneCell'=true) (hfit:off + 1≤cur.size) (hnw:splice cur off #[v]=new)
 (hK:∀ W',Put g new T W W'→K (a.put o.dst undef) W'):o.wp P a W K Q:=
 wp_store hop hx hy ht.size hh (by rw [hv];rfl) hfit (by rw [hv];intro u hu;simp at hu;subst hu;exact h1) (by rw [hv];exact hnw) hK
theorem wpList_store1 (hg:o.guard=none) {t T:TypeId} {x y:Operand} (hop:o.op=.store t x y) {g off:Nat} {v:Value} {cur new:Array Value} (hx:a.eval x=.pointer (some ⟨g,off,none⟩)) (hy:a.eval y=v)
 (ht:One P t) (hh:W.heap[g]? =some (.cells cur T (0,0))) (hv:v.cells=#[v]) (h1:v.oneCell'=true) (hfit:off + 1≤cur.size) (hnw:splice cur off #[v]=new)
 (hK:∀ W',Put g new T W W'→wpList P ops Q rest (a.put o.dst undef) W'):wpList P ops Q (o::rest) a W:=
 wpList_store hg hop hx hy ht.size hh (by rw [hv];rfl) hfit (by rw [hv];intro u hu;simp at hu;subst hu;exact h1) (by rw [hv];exact hnw) hK
end
theorem Kept.putNew {b g:Nat} {cs:Array Value} {T:TypeId} {w W W':World} (h:Kept b w W) (hp:Put g cs T W W') (hg:w.heap.size≤g):Kept b w W':=
 ⟨hp.os.trans h.os,hp.tape.trans h.tape,hp.output.trans h.output,by rw [hp.size];exact h.size,fun k h1 h2=> (hp.oth k (by omega)).trans (h.block k h1 h2)⟩
theorem Kept.below {b:Nat} {w W W':World} (h:Kept b w W) (hb:Below W.heap.size W W'):Kept b w W':=h.trans (Kept.of hb)
end KR
namespace Kn
abbrev SlStr (W:World) (v:Value) (l:List ByteArray):Prop:=Sl 9 1 strCells W v l
abbrev SlCh (W:World) (v:Value) (l:List Chan):Prop:=Sl 101 5 Chan.cells W v l
abbrev SlBx (W:World) (v:Value) (l:List BoxV):Prop:=Sl 178 2 boxCells W v l
abbrev SlEv (W:World) (v:Value) (l:List Ev):Prop:=Sl 235 4 Ev.cells W v l
abbrev SlOut (W:World) (v:Value) (l:List Out):Prop:=Sl 237 2 Out.cells W v l
structure Lay where
 p:Value
 t:Value
 s:Value
 pi:Value
 h:Value
 im:Value
 ou:Value
 ins_:Value
 bx:Value
 tr:Value
 se:Value
def kcells (y:Lay) (k:Kern):Array Value:=#[y.p,y.t,.int .i64 k.t.left,y.s,y.pi,.int .i64 k.hs,y.h,.int .u64 k.now,y.im,y.ou,y.ins_,y.bx,.string k.cons,y.tr,y.se,.int .i64 k.want,.int .i64 k.gone]
structure LayAt (W:World) (y:Lay) (bs:List BoxV) (k:Kern):Prop where
 p:SlP W y.p k.p
 t:SlI W y.t k.t.l
 s:SlA W y.s k.s
 pi:SlPp W y.pi k.pipes
 h:SlS W y.h k.h
 im:SlStr W y.im k.images
 ou:SlCh W y.ou k.outs
 ins_:SlCh W y.ins_ k.ins_
 bx:SlBx W y.bx bs
 bse:bs.map (·.b)=k.box
 ok:∀ x ∈ bs,BoxOk W x
 tr:SlEv W y.tr k.trace
 se:SlOut W y.se k.sent
theorem LayAt.below {W W':World} {y:Lay} {bs:List BoxV} {k:Kern} (h:LayAt W y bs k) (hb:Below W.heap.size W W'):LayAt W' y bs k:=
 ⟨h.p.below hb,h.t.below hb,h.s.below hb,h.pi.below hb,h.h.below hb,h.im.below hb,h.ou.below hb,h.ins_.below hb,h.bx.below hb,h.bse,fun x hx=> (h.ok x hx).below hb,h.tr.below hb,h.se.below hb⟩
def noRow (T:TypeId):Prop:=220 ≠ T∧3 ≠ T∧230 ≠ T∧232 ≠ T∧256 ≠ T∧9 ≠ T∧101 ≠ T∧178 ≠ T∧239 ≠ T∧235 ≠ T∧237 ≠ T
instance (T:TypeId):Decidable (noRow T):=by unfold noRow;infer_instance
theorem LayAt.stay {W W':World} {y:Lay} {bs:List BoxV} {k:Kern} (h:LayAt W y bs k) {b:Nat} {cs:Array Value} {T:TypeId} (hh:W.heap[b]? =some (.cells cs T (0,0))) (hT:noRow T) (hs:∀ j,j<W.heap.size→j ≠ b→W'.heap[j]? =W.heap[j]?):LayAt W' y bs k:=by
 obtain ⟨t1,t2,t3,t4,t5,t6,t7,t8,t9,t10,t11⟩:=hT
 have st:∀ {E:TypeId},E ≠ T→∀ (j:Nat) (c:Array Value),W.heap[j]? =some (.cells c E (0,0))→W'.heap[j]? =W.heap[j]? :=fun hE j c hj=> hs j (hlt hj) (ne_of_types hj hh hE)
 exact ⟨h.p.stay (st t1),h.t.stay (st t2),h.s.stay (st t3),h.pi.stay (st t4),h.h.stay (st t5),h.im.stay (st t6),h.ou.stay (st t7),h.ins_.stay (st t7),h.bx.stay (st t8),h.bse,fun x hx=> (h.ok x hx).stay (st t9),h.tr.stay (st t10),h.se.stay (st t11)⟩
theorem LayAt.put {W W':World} {y:Lay} {bs:List BoxV} {k:Kern} (h:LayAt W y bs k) {b:Nat} {cs cs':Array Value} {T:TypeId} (hh:W.heap[b]? =some (.cells cs T (0,0))) (hT:noRow T) (hp:Put b cs' T W W'):LayAt W' y bs k:=h.stay hh hT (fun j _ hj=> hp.oth j hj)
theorem LayAt.kept {W W':World} {y:Lay} {bs:List BoxV} {k:Kern} (h:LayAt W y bs k) {b:Nat} {cs:Array Value} {T:TypeId} (hh:W.heap[b]? =some (.cells cs T (0,0))) (hT:noRow T) (hk:Kept b W W'):LayAt W' y bs k:=h.stay hh hT (fun j h1 h2=> hk.block j h1 h2)
theorem noWork:noRow 204:=by decide
section
variable {W:World} {y:Lay} {bs:List BoxV} {k:Kern}
theorem LayAt.setP (h:LayAt W y bs k) {v:Value} {l:List Proc} (hv:SlP W v l):LayAt W {y with p:=v} bs {k with p:=l}:=⟨hv,h.t,h.s,h.pi,h.h,h.im,h.ou,h.ins_,h.bx,h.bse,h.ok,h.tr,h.se⟩
theorem LayAt.setT (h:LayAt W y bs k) {v:Value} {t:Turn} (hv:SlI W v t.l):LayAt W {y with t:=v} bs {k with t:=t}:=⟨h.p,hv,h.s,h.pi,h.h,h.im,h.ou,h.ins_,h.bx,h.bse,h.ok,h.tr,h.se⟩
theorem LayAt.setS (h:LayAt W y bs k) {v:Value} {l:List Alarm} (hv:SlA W v l):LayAt W {y with s:=v} bs {k with s:=l}:=⟨h.p,h.t,hv,h.pi,h.h,h.im,h.ou,h.ins_,h.bx,h.bse,h.ok,h.tr,h.se⟩
theorem LayAt.setPi (h:LayAt W y bs k) {v:Value} {l:List Pipe} (hv:SlPp W v l):LayAt W {y with pi:=v} bs {k with pipes:=l}:=⟨h.p,h.t,h.s,hv,h.h,h.im,h.ou,h.ins_,h.bx,h.bse,h.ok,h.tr,h.se⟩
theorem LayAt.setH (h:LayAt W y bs k) {v:Value} {l:List Span} (hv:SlS W v l):LayAt W {y with h:=v} bs {k with h:=l}:=⟨h.p,h.t,h.s,h.pi,hv,h.im,h.ou,h.ins_,h.bx,h.bse,h.ok,h.tr,h.se⟩
theorem LayAt.setBx (h:LayAt W y bs k) {v:Value} {l:List BoxV} (hv:SlBx W v l) (ho:∀ x ∈ l,BoxOk W x):LayAt W {y with bx:=v} l {k with box:=l.map (·.b)}:=⟨h.p,h.t,h.s,h.pi,h.h,h.im,h.ou,h.ins_,hv,rfl,ho,h.tr,h.se⟩
theorem LayAt.setTr (h:LayAt W y bs k) {v:Value} {l:List Ev} (hv:SlEv W v l):LayAt W {y with tr:=v} bs {k with trace:=l}:=⟨h.p,h.t,h.s,h.pi,h.h,h.im,h.ou,h.ins_,h.bx,h.bse,h.ok,hv,h.se⟩
theorem LayAt.setSe (h:LayAt W y bs k) {v:Value} {l:List Out} (hv:SlOut W v l):LayAt W {y with se:=v} bs {k with sent:=l}:=⟨h.p,h.t,h.s,h.pi,h.h,h.im,h.ou,h.ins_,h.bx,h.bse,h.ok,h.tr,hv⟩
end
theorem onesT {W:World} {u:Value} {l:List Int} {n:Int} (h:SlI W u l):∀ x ∈ (Value.agg #[u,.int .i64 n]).cells.toList,x.oneCell'=true:=by
 intro x hx
 simp [Value.cells] at hx
 rcases hx with rfl|rfl
 · exact h.vone
 · rfl
theorem onesH {W:World} {u:Value} {l:List Span} {n:Int} (h:SlS W u l):∀ x ∈ (Value.agg #[.int .i64 n,u]).cells.toList,x.oneCell'=true:=by
 intro x hx
 simp [Value.cells] at hx
 rcases hx with rfl|rfl
 · rfl
 · exact h.vone
theorem onesC (x:Call):∀ u ∈ (Value.agg x.cells).cells.toList,u.oneCell'=true:=by
 intro u hu
 simp [Value.cells,Call.cells] at hu
 rcases hu with rfl|rfl|rfl|rfl <;> rfl
def WorkAt (W:World) (b:Nat) (k:Kern):Prop:=∃ y bs,W.heap[b]? =some (.cells (kcells y k) 204 (0,0))∧LayAt W y bs k
def GivesW (b:Nat) (v:Value) (k:Kern) (w:World) (e:Ending) (w':World):Prop:=e=.returned v∧WorkAt w' b k∧Kept b w w'
def GivesU (b:Nat) (k:Kern) (w:World) (e:Ending) (w':World):Prop:=(∃ v,e=.returned v)∧WorkAt w' b k∧Kept b w w'
end Kn
end Go.Proofs.YthgehdghihbiaaaGreatDoor
namespace Go.Proofs.YthgehdghihbiaaaGreatDoor
open Go.RowKit KR
namespace Kn
section
variable {W W':World} {y:Lay} {bs:List BoxV} {k:Kern}
theorem LayAt.setGone (h:LayAt W y bs k) (x:Int):LayAt W y bs {k with gone:=x}:=⟨h.p,h.t,h.s,h.pi,h.h,h.im,h.ou,h.ins_,h.bx,h.bse,h.ok,h.tr,h.se⟩
theorem LayAt.setWant (h:LayAt W y bs k) (x:Int):LayAt W y bs {k with want:=x}:=⟨h.p,h.t,h.s,h.pi,h.h,h.im,h.ou,h.ins_,h.bx,h.bse,h.ok,h.tr,h.se⟩
theorem LayAt.setNow (h:LayAt W y bs k) (x:Int):LayAt W y bs {k with now:=x}:=⟨h.p,h.t,h.s,h.pi,h.h,h.im,h.ou,h.ins_,h.bx,h.bse,h.ok,h.tr,h.se⟩
theorem LayAt.setCons (h:LayAt W y bs k) (x:ByteArray):LayAt W y bs {k with cons:=x}:=⟨h.p,h.t,h.s,h.pi,h.h,h.im,h.ou,h.ins_,h.bx,h.bse,h.ok,h.tr,h.se⟩
theorem LayAt.putProc (h:LayAt W y bs k) (hp:SlP W' y.p k.p) {g:Nat} {cs cs':Array Value} (hh:W.heap[g]? =some (.cells cs 220 (0,0))) (hq:Put g cs' 220 W W'):LayAt W' y bs k:=
 ⟨hp,h.t.put hh hq (by decide),h.s.put hh hq (by decide),h.pi.put hh hq (by decide),h.h.put hh hq (by decide),h.im.put hh hq (by decide),h.ou.put hh hq (by decide),h.ins_.put hh hq (by decide),h.bx.put hh hq (by decide),h.bse,
   fun x hx=> Sl.put (h.ok x hx) hh hq (by decide),h.tr.put hh hq (by decide),h.se.put hh hq (by decide)⟩
end
theorem onesF:∀ u ∈ (Value.agg (fdCells 0 false 0 false 0 false 0 false)).cells.toList,u.oneCell'=true:=
 List.all_eq_true.1 (show ((Value.agg (fdCells 0 false 0 false 0 false 0 false)).cells.toList.all (·.oneCell'))=true from rfl)
section
variable (d0:Int) (e0:Bool) (d1:Int) (e1:Bool) (d2:Int) (e2:Bool) (d3:Int) (e3:Bool) (W:World)
theorem idxFd0:(Instr.index 216 (.agg #[.int .i64 d0,.bool e0,.int .i64 d1,.bool e1,.int .i64 d2,.bool e2,.int .i64 d3,.bool e3]) (.int .i64 0)).run Tryz.prog W=.ok (.agg #[.int .i64 d0,.bool e0]) W:=by
 simp [Instr.index,run_underlying Tryz.underlying216,asIntOf,go_sem,part,aggEnd.size,aggEnd.agg,Result.andThen]
theorem idxFd1:(Instr.index 216 (.agg #[.int .i64 d0,.bool e0,.int .i64 d1,.bool e1,.int .i64 d2,.bool e2,.int .i64 d3,.bool e3]) (.int .i64 1)).run Tryz.prog W=.ok (.agg #[.int .i64 d1,.bool e1]) W:=by
 simp [Instr.index,run_underlying Tryz.underlying216,asIntOf,go_sem,part,aggEnd.size,aggEnd.agg,Result.andThen]
theorem idxFd2:(Instr.index 216 (.agg #[.int .i64 d0,.bool e0,.int .i64 d1,.bool e1,.int .i64 d2,.bool e2,.int .i64 d3,.bool e3]) (.int .i64 2)).run Tryz.prog W=.ok (.agg #[.int .i64 d2,.bool e2]) W:=by
 simp [Instr.index,run_underlying Tryz.underlying216,asIntOf,go_sem,part,aggEnd.size,aggEnd.agg,Result.andThen]
theorem idxFd3:(Instr.index 216 (.agg #[.int .i64 d0,.bool e0,.int .i64 d1,.bool e1,.int .i64 d2,.bool e2,.int .i64 d3,.bool e3]) (.int .i64 3)).run Tryz.prog W=.ok (.agg #[.int .i64 d3,.bool e3]) W:=by
 simp [Instr.index,run_underlying Tryz.underlying216,asIntOf,go_sem,part,aggEnd.size,aggEnd.agg,Result.andThen]
end
end Kn
end Go.Proofs.YthgehdghihbiaaaGreatDoor
namespace Go.Proofs.YthgehdghihbiaaaGreatDoor.RegT3
open Go
section
variable {P:Program} {ops:Array Oper} {Q:Exit→Act→World→Prop} {md:Region.Mode} {S:World→Prop}
def unl (st:List Nat) (listed:Array Bool):Bool:=st.all (fun t=> !(listed.getD t false))
def wpL (P:Program) (md:Region.Mode) (ops:Array Oper) (Q:Exit→Act→World→Prop) (S:World→Prop) (st:List Nat):Nat→Array Bool→Act→World→Prop
 |0,listed,a,w=> Region.ready md ops listed=[]∧Q .normal a w
 |fuel + 1,listed,a,w=>
  (Region.ready md ops listed=[]→Q .normal a w)∧
  ∀ i ∈ Region.ready md ops listed,wpOp P ops Q i (fun a' w'=> (st.contains i=false→unl st listed=true→S w')∧wpL P md ops Q S st fuel (listed.setIfInBounds i true) a' w') a w
theorem wpAny_of:∀ (st:List Nat) (fuel:Nat) (listed:Array Bool) (a:Act) (w:World),wpL P md ops Q S st fuel listed a w→wpAny P md ops Q fuel listed a w
 |_,0,_,_,_,h=> h
 |st,fuel + 1,_,_,_,h=> ⟨h.1,fun i hi=> wpOp_mono (fun a' w' h'=> wpAny_of st fuel _ a' w' h'.2) (h.2 i hi)⟩
def reach (md:Region.Mode) (ops:Array Oper) (st:List Nat) (i:Nat):Nat→Nat→Bool
 |0,_=> false
 |n + 1,t=> match ops[t]? with
  |some ot=> ot.after.any fun e=> Region.binds md e && (e.on==i||st.contains e.on||reach md ops st i n e.on)
  |none=> false
def Closed (md:Region.Mode) (ops:Array Oper) (listed:Array Bool):Prop:=∀ (j:Nat) (oj:Oper),listed[j]? =some true→ops[j]? =some oj→∀ e ∈ oj.after,Region.binds md e=true→listed[e.on]? =some true
theorem reach_spec {st:List Nat} {i:Nat} {listed:Array Bool} (hc:Closed md ops listed) (hi:listed[i]? ≠ some true) (hst:∀ t ∈ st,listed[t]? ≠ some true):
 ∀ (n t:Nat) (ot:Oper),ops[t]? =some ot→reach md ops st i n t=true→∃ e ∈ ot.after,Region.binds md e=true∧listed[e.on]? ≠ some true
 |0,_,_,_,h=> by cases h
 |n + 1,t,ot,ho,h=> by
  simp only [reach,ho] at h
  obtain ⟨e,he,h⟩:=Array.any_eq_true'.1 h
  rw [Bool.and_eq_true,Bool.or_eq_true,Bool.or_eq_true,beq_iff_eq] at h
  obtain ⟨hb,h⟩:=h
  refine ⟨e,he,hb,?_⟩
  rcases h with (h|h)|h
  · rw [h];exact hi
  · exact hst _ (by simpa using h)
  · intro hl
    cases hoe:ops[e.on]? with
    |none=> cases n with
     |zero=> cases h
     |succ n=> simp [reach,hoe] at h
    |some oe=>
     obtain ⟨e',he',hb',hn'⟩:=reach_spec hc hi hst n e.on oe hoe h
     exact hn' (hc _ _ hl hoe e' he' hb')
theorem listed_some {listed:Array Bool} {k:Nat} (h:listed.getD k false=true):listed[k]? =some true:=by
 rw [Array.getD_eq_getD_getElem?] at h
 cases hk:listed[k]? with
 |none=> rw [hk] at h;cases h
 |some b=> rw [hk] at h;cases b <;> simp_all
theorem unl_of {st:List Nat} {listed:Array Bool} (h:∀ t ∈ st,listed[t]? ≠ some true):unl st listed=true:=by
 unfold unl
 rw [List.all_eq_true]
 intro t ht
 have:=h t ht
 rw [Array.getD_eq_getD_getElem?]
 cases hl:listed[t]? with
 |none=> rfl
 |some b=> cases b <;> simp_all
theorem unl_set {st:List Nat} {listed:Array Bool} {i:Nat} (hit:st.contains i=false):unl st (listed.setIfInBounds i true)=unl st listed:=by
 unfold unl
 apply Bool.eq_iff_iff.2
 rw [List.all_eq_true,List.all_eq_true]
 have hg:∀ t ∈ st,(listed.setIfInBounds i true).getD t false=listed.getD t false:=fun t ht=> by
  have hne:i ≠ t:=fun e=> by
   subst e
   rw [List.contains_eq_mem] at hit
   simp [ht] at hit
  rw [Array.getD_eq_getD_getElem?,Array.getD_eq_getD_getElem?,Array.getElem?_setIfInBounds_ne hne]
 exact ⟨fun h t ht=> by rw [← hg t ht];exact h t ht,fun h t ht=> by rw [hg t ht];exact h t ht⟩
theorem unl_in {st:List Nat} {listed:Array Bool} {j:Nat} (hj:st.contains j=true) (hlt:j<listed.size):unl st (listed.setIfInBounds j true)=false:=by
 unfold unl
 rw [Bool.eq_false_iff]
 intro h
 rw [List.all_eq_true] at h
 have:=h j (by simpa using hj)
 simp [Array.getD_eq_getD_getElem?,hlt] at this
theorem firstP {i:Nat} {st:List Nat} {oi:Oper} {v:Value} (hi:ops[i]? =some oi) (hit:st.contains i=false)
 (hsel:∀ (j:Nat) (o:Oper) cs b,ops[j]? =some o→o.op ≠ .select cs b)
 (hQ:∀ c a w,Q (.panic c) (a.put oi.dst v) w→Q (.panic c) a w):
 ∀ (fuel:Nat) (listed:Array Bool) (a:Act) (w:World),
   listed.size=ops.size→
   (∀ j oj,ops[j]? =some oj→j ≠ i→listed.getD j true=false→(∀ e ∈ oj.after,Region.binds md e=true→e.on ≠ i)→oi.apart ops oj=true)→
   i ∈ Region.ready md ops listed→YieldsIf P ops (fun _=> True) oi v a→(unl st listed=true→S w)→
   wpL P md ops Q S st fuel (listed.setIfInBounds i true) (a.put oi.dst v) w→wpL P md ops Q S st (fuel + 1) listed a w:=by
 intro fuel
 induction fuel with
 |zero=>
  intro listed a w hsz _ hr hy hS H
  refine ⟨fun h=> (by rw [h] at hr;cases hr),fun j hj=> ?_⟩
  by_cases hji:j=i
  · subst hji;exact hy.wpOp hi trivial ⟨fun _ h=> hS h,H⟩
  · have:=ready_mono hj hji
    rw [H.1] at this
    cases this
 |succ fuel ih=>
  intro listed a w hsz hfree hr hy hS H
  refine ⟨fun h=> (by rw [h] at hr;cases hr),fun j hj=> ?_⟩
  by_cases hji:j=i
  · subst hji;exact hy.wpOp hi trivial ⟨fun _ h=> hS h,H⟩
  · have h1:=H.2 j (ready_mono hj hji)
    obtain ⟨hjun,oj,hoj,hall⟩:=mem_ready.1 hj
    have hnot:∀ e ∈ oj.after,Region.binds md e=true→e.on ≠ i:=fun e he hb heq=> by
     have h1:=hall e he hb
     have h0:=(mem_ready.1 hr).1
     rw [heq] at h1
     rcases Nat.lt_or_ge i listed.size with h'|h'
     · simp [h'] at h0 h1;rw [h0] at h1;cases h1
     · simp [Array.getElem?_eq_none h'] at h1
    have h2:=wpOp_putIf hoj (hfree j oj hoj hji hjun hnot) (fun cs b=> hsel i oi cs b hi) (fun cs b=> hsel j oj cs b hoj) hQ hy h1
    have hfree':∀ k ok,ops[k]? =some ok→k ≠ i→(listed.setIfInBounds j true).getD k true=false→
     (∀ e ∈ ok.after,Region.binds md e=true→e.on ≠ i)→oi.apart ops ok=true:=fun k ok hk hki hun hno=> by
     refine hfree k ok hk hki ?_ hno
     by_cases hjk:j=k
     · subst hjk;exact hjun
     · rw [getD_set_ne true hjk] at hun;exact hun
    have hjl:j<listed.size:=by rw [hsz];exact (Array.getElem?_eq_some_iff.1 hoj).1
    refine wpOp_mono (fun a' w' h3=> ⟨fun hjst hu=> h3.2.1 hjst (by rw [unl_set hit];exact hu),ih (listed.setIfInBounds j true) a' w' (by simpa using hsz) hfree' (ready_mono hr (Ne.symm hji)) h3.1 (fun hu=> ?_) ?_⟩) h2
    · cases hjst:st.contains j with
      |true=> rw [unl_in hjst hjl] at hu;cases hu
      |false=> exact h3.2.1 hjst (by rw [unl_set hit];rw [unl_set hjst] at hu;exact hu)
    · rw [Array.setIfInBounds_comm _ _ hji]
      exact h3.2.2
theorem takeP {i:Nat} {st:List Nat} {oi:Oper} {v:Value} {fuel:Nat} {listed:Array Bool} {a:Act} {w:World} (hi:ops[i]? =some oi) (hit:st.contains i=false) (hsz:decide (listed.size=ops.size)=true)
 (hs:Region.noSelect ops=true) (hf:Region.free md ops listed i=true) (hr:(Region.ready md ops listed).contains i=true)
 (hQ:∀ c a w,Q (.panic c) (a.put oi.dst v) w→Q (.panic c) a w) (hy:YieldsIf P ops (fun _=> True) oi v a) (hS:unl st listed=true→S w)
 (h:wpL P md ops Q S st fuel (listed.setIfInBounds i true) (a.put oi.dst v) w):wpL P md ops Q S st (fuel + 1) listed a w:=
 firstP hi hit (Region.noSelect_spec hs) hQ fuel listed a w (of_decide_eq_true hsz) (Region.free_spec hi hf) (by simpa using hr) hy hS h
theorem firstL {i:Nat} {st:List Nat} {oi:Oper} {v:Value} (hi:ops[i]? =some oi) (hit:st.contains i=false)
 (hwait:∀ t ∈ st,∃ n,reach md ops st i n t=true)
 (hsel:∀ (j:Nat) (o:Oper) cs b,ops[j]? =some o→o.op ≠ .select cs b)
 (hQ:∀ c a w,Q (.panic c) (a.put oi.dst v) w→Q (.panic c) a w):
 ∀ (fuel:Nat) (listed:Array Bool) (a:Act) (w:World),
   Closed md ops listed→(∀ t ∈ st,listed[t]? ≠ some true)→
   (∀ j oj,ops[j]? =some oj→j ≠ i→listed.getD j true=false→(∀ e ∈ oj.after,Region.binds md e=true→e.on ≠ i)→oi.apart ops oj=true)→
   i ∈ Region.ready md ops listed→YieldsIf P ops S oi v a→S w→
   wpL P md ops Q S st fuel (listed.setIfInBounds i true) (a.put oi.dst v) w→wpL P md ops Q S st (fuel + 1) listed a w:=by
 intro fuel
 have hnotst:∀ (listed:Array Bool) (j:Nat),Closed md ops listed→(∀ t ∈ st,listed[t]? ≠ some true)→i ∈ Region.ready md ops listed→j ∈ Region.ready md ops listed→st.contains j=false:=by
  intro listed j hcl hun hr hj
  refine Bool.eq_false_iff.2 fun hjs=> ?_
  have hjs:j ∈ st:=by simpa using hjs
  obtain ⟨_,oj,hoj,hall⟩:=mem_ready.1 hj
  obtain ⟨n,hn⟩:=hwait j hjs
  have h0:=(mem_ready.1 hr).1
  have hi':listed[i]? ≠ some true:=by
   intro h
   rw [Array.getD_eq_getD_getElem?,h] at h0
   cases h0
  obtain ⟨e,he,hb,hno⟩:=reach_spec hcl hi' hun n j oj hoj hn
  have h1:=hall e he hb
  exact hno (listed_some h1)
 induction fuel with
 |zero=>
  intro listed a w hcl hun _ hr hy hS H
  refine ⟨fun h=> (by rw [h] at hr;cases hr),fun j hj=> ?_⟩
  by_cases hji:j=i
  · subst hji;exact hy.wpOp hi hS ⟨fun _ _=> hS,H⟩
  · have:=ready_mono hj hji
    rw [H.1] at this
    cases this
 |succ fuel ih=>
  intro listed a w hcl hun hfree hr hy hS H
  refine ⟨fun h=> (by rw [h] at hr;cases hr),fun j hj=> ?_⟩
  by_cases hji:j=i
  · subst hji;exact hy.wpOp hi hS ⟨fun _ _=> hS,H⟩
  · have hjst:=hnotst listed j hcl hun hr hj
    have h1:=H.2 j (ready_mono hj hji)
    obtain ⟨hjun,oj,hoj,hall⟩:=mem_ready.1 hj
    have hnot:∀ e ∈ oj.after,Region.binds md e=true→e.on ≠ i:=fun e he hb heq=> by
     have h1:=hall e he hb
     have h0:=(mem_ready.1 hr).1
     rw [heq] at h1
     rcases Nat.lt_or_ge i listed.size with h'|h'
     · simp [h'] at h0 h1;rw [h0] at h1;cases h1
     · simp [Array.getElem?_eq_none h'] at h1
    have h2:=wpOp_putIf hoj (hfree j oj hoj hji hjun hnot) (fun cs b=> hsel i oi cs b hi) (fun cs b=> hsel j oj cs b hoj) hQ hy h1
    have hfree':∀ k ok,ops[k]? =some ok→k ≠ i→(listed.setIfInBounds j true).getD k true=false→
     (∀ e ∈ ok.after,Region.binds md e=true→e.on ≠ i)→oi.apart ops ok=true:=fun k ok hk hki hun hno=> by
     refine hfree k ok hk hki ?_ hno
     by_cases hjk:j=k
     · subst hjk;exact hjun
     · rw [getD_set_ne true hjk] at hun;exact hun
    have hcl':Closed md ops (listed.setIfInBounds j true):=by
     intro k ok hk hok e he hb
     have hget:∀ m:Nat,listed[m]? =some true→(listed.setIfInBounds j true)[m]? =some true:=by
      intro m hm
      rw [Array.getElem?_setIfInBounds]
      split
      · rename_i h
        subst h
        have:=(Array.getElem?_eq_some_iff.1 hm).1
        simp [this]
      · exact hm
     by_cases hkj:k=j
     · subst hkj
       rw [hoj] at hok
       injection hok with hok
       subst hok
       exact hget _ (listed_some (hall e he hb))
     · rw [Array.getElem?_setIfInBounds_ne (Ne.symm hkj)] at hk
       exact hget _ (hcl k ok hk hok e he hb)
    have hun':∀ t ∈ st,(listed.setIfInBounds j true)[t]? ≠ some true:=fun t ht=> by
     have hne:j ≠ t:=fun e=> by
      subst e
      rw [List.contains_eq_mem] at hjst
      simp [ht] at hjst
     rw [Array.getElem?_setIfInBounds_ne hne]
     exact hun t ht
    have hul:unl st (listed.setIfInBounds i true)=true:=unl_of fun t ht=> by
     have hne:i ≠ t:=fun e=> by
      subst e
      rw [List.contains_eq_mem] at hit
      simp [ht] at hit
     rw [Array.getElem?_setIfInBounds_ne hne]
     exact hun t ht
    refine wpOp_mono (fun a' w' h3=> ⟨fun _ _=> h3.2.1 hjst hul,ih (listed.setIfInBounds j true) a' w' hcl' hun' hfree' (ready_mono hr (Ne.symm hji)) h3.1 (h3.2.1 hjst hul) ?_⟩) h2
    rw [Array.setIfInBounds_comm _ _ hji]
    exact h3.2.2
def waits (md:Region.Mode) (ops:Array Oper) (st:List Nat) (listed:Array Bool) (i:Nat):Bool:=
 !st.contains i && st.all (fun t=> reach md ops st i ops.size t && !(listed.getD t false)) && (List.range ops.size).all (fun j=> !(listed.getD j false)||(match ops[j]? with|some oj=> oj.after.all fun e=> !Region.binds md e||listed.getD e.on false|none=> true)) && decide (listed.size≤ops.size)
theorem takeL {i:Nat} {st:List Nat} {oi:Oper} {v:Value} {fuel:Nat} {listed:Array Bool} {a:Act} {w:World} (hi:ops[i]? =some oi) (hwait:waits md ops st listed i=true)
 (hs:Region.noSelect ops=true) (hf:Region.free md ops listed i=true) (hr:(Region.ready md ops listed).contains i=true)
 (hQ:∀ c a w,Q (.panic c) (a.put oi.dst v) w→Q (.panic c) a w) (hy:YieldsIf P ops S oi v a) (hS:S w)
 (h:wpL P md ops Q S st fuel (listed.setIfInBounds i true) (a.put oi.dst v) w):wpL P md ops Q S st (fuel + 1) listed a w:=by
 rw [waits,Bool.and_eq_true,Bool.and_eq_true,Bool.and_eq_true] at hwait
 obtain ⟨⟨⟨hw1,hw2⟩,hw3⟩,hw4⟩:=hwait
 have hall:=List.all_eq_true.1 hw2
 have hcl:=List.all_eq_true.1 hw3
 have hsz:=of_decide_eq_true hw4
 refine firstL hi (by simpa using hw1) (fun t ht=> ⟨ops.size,?_⟩) (Region.noSelect_spec hs) hQ fuel listed a w ?_ (fun t ht=> ?_) (Region.free_spec hi hf) (by simpa using hr) hy hS h
 · have h1:=hall t ht
   rw [Bool.and_eq_true] at h1
   exact h1.1
 · intro j oj hj hoj e he hb
   have hjs:j<ops.size:=(Array.getElem?_eq_some_iff.1 hoj).1
   have h1:=hcl j (by simpa using hjs)
   rw [hoj,Array.getD_eq_getD_getElem?,hj] at h1
   simp only [Option.getD_some,Bool.not_true,Bool.false_or] at h1
   have h2:=Array.all_eq_true'.1 h1 e he
   rw [hb] at h2
   exact listed_some (by simpa using h2)
 · have h1:=hall t ht
   rw [Bool.and_eq_true] at h1
   have h2:=h1.2
   intro h3
   rw [Array.getD_eq_getD_getElem?,h3] at h2
   cases h2
theorem oneL {i:Nat} {st:List Nat} {o:Oper} {fuel:Nat} {listed:Array Bool} {a:Act} {w:World} (hr:Region.ready md ops listed=[i]) (ho:ops[i]? =some o)
 (h:∀ K:Act→World→Prop,Shut (∀ a w,(st.contains i=false→unl st listed=true→S w)→wpL P md ops Q S st fuel (listed.setIfInBounds i true) a w→K a w)→if Region.wanted o (yielded ops a.tmps)=true then Oper.wp P o a w K Q else K (a.put o.dst undef) w):
 wpL P md ops Q S st (fuel + 1) listed a w:=
 ⟨fun h0=> absurd (hr ▸ h0) (by simp),fun j hj=> by
   rw [hr] at hj
   obtain rfl:j=i:=by simpa using hj
   exact wpOp_step ho (fun K' hK=> h K' (fun a w hS hW=> hK a w ⟨hS,hW⟩))⟩
theorem doneL {st:List Nat} {listed:Array Bool} {a:Act} {w:World} (hr:Region.ready md ops listed=[]) (h:Q .normal a w):
 ∀ fuel,wpL P md ops Q S st fuel listed a w
 |0=> ⟨hr,h⟩
 |_ + 1=> ⟨fun _=> h,by rw [hr];simp⟩
theorem startL {st:List Nat} {id:Nat} {a:Act} {w:World} (hm:P.follows .mixedOrders=true)
 (h:wpL P .any ops Q S st ops.size (Array.replicate ops.size false) a w.drew):(Code.region id ops true).wp P Q a w:=
 wp_region_any hm (wpAny_of st _ _ _ _ h)
theorem twoL {i j:Nat} {st:List Nat} {oi oj:Oper} {fuel:Nat} {listed:Array Bool} {a:Act} {w:World} (hr:Region.ready md ops listed=[i,j]) (hoi:ops[i]? =some oi) (hoj:ops[j]? =some oj)
 (h1:∀ K:Act→World→Prop,Shut (∀ a w,(st.contains i=false→unl st listed=true→S w)→wpL P md ops Q S st fuel (listed.setIfInBounds i true) a w→K a w)→if Region.wanted oi (yielded ops a.tmps)=true then Oper.wp P oi a w K Q else K (a.put oi.dst undef) w)
 (h2:∀ K:Act→World→Prop,Shut (∀ a w,(st.contains j=false→unl st listed=true→S w)→wpL P md ops Q S st fuel (listed.setIfInBounds j true) a w→K a w)→if Region.wanted oj (yielded ops a.tmps)=true then Oper.wp P oj a w K Q else K (a.put oj.dst undef) w):
 wpL P md ops Q S st (fuel + 1) listed a w:=
 ⟨fun h0=> absurd (hr ▸ h0) (by simp),fun k hk=> by
   rw [hr] at hk
   rcases (by simpa using hk:k=i∨k=j) with rfl|rfl
   · exact wpOp_step hoi (fun K' hK=> h1 K' (fun a w hS hW=> hK a w ⟨hS,hW⟩))
   · exact wpOp_step hoj (fun K' hK=> h2 K' (fun a w hS hW=> hK a w ⟨hS,hW⟩))⟩
theorem want {o:Oper} {a:Act} {w:World} {K:Act→World→Prop} {E:Prop} (hg:o.guard=none) (h:Oper.wp P o a w K Q):if Region.wanted o (yielded ops a.tmps)=true then Oper.wp P o a w K Q else E:=by
 rw [if_pos (by simp [Region.wanted,hg])]
 exact h
end
end Go.Proofs.YthgehdghihbiaaaGreatDoor.RegT3
namespace Go.Proofs.YthgehdghihbiaaaGreatDoor
open Go.RowKit KR
namespace RegT3
open Go
section
variable {P:Program} {ops:Array Oper} {Q:Exit→Act→World→Prop} {md:Region.Mode} {S:World→Prop} {st:List Nat} {fuel:Nat} {listed:Array Bool} {a:Act} {w:World}
theorem tp (i:Nat) {oi:Oper} {v:Value} (h:wpL P md ops Q S st fuel (listed.setIfInBounds i true) (a.put oi.dst v) w) (hi:ops[i]? =some oi:=by rfl) (hit:st.contains i=false:=by kernel_rfl) (hsz:decide (listed.size=ops.size)=true:=by kernel_rfl)
 (hs:Region.noSelect ops=true:=by kernel_rfl) (hf:Region.free md ops listed i=true:=by kernel_rfl) (hr:(Region.ready md ops listed).contains i=true:=by kernel_rfl)
 (hy:YieldsIf P ops (fun _=> True) oi v a:=by (refine Or.inl ⟨by rfl,?_⟩;intro w hSw;go_simp;try with_reducible rfl))
 (hQ:∀ c a w,Q (.panic c) (a.put oi.dst v) w→Q (.panic c) a w:=by exact fun _ _ _ h=> h)
 (hS:unl st listed=true→S w:=by first|exact fun _=> by assumption|exact fun _=> trivial|(intro h;exact Bool.noConfusion (h.symm.trans (show RegT3.unl _ _=false by kernel_rfl)))):wpL P md ops Q S st (fuel + 1) listed a w:=takeP hi hit hsz hs hf hr hQ hy hS h
theorem tn (i:Nat) {oi:Oper} (h:wpL P md ops Q S st fuel (listed.setIfInBounds i true) (a.put oi.dst undef) w) (hi:ops[i]? =some oi:=by rfl) (hit:st.contains i=false:=by kernel_rfl) (hsz:decide (listed.size=ops.size)=true:=by kernel_rfl)
 (hs:Region.noSelect ops=true:=by kernel_rfl) (hf:Region.free md ops listed i=true:=by kernel_rfl) (hr:(Region.ready md ops listed).contains i=true:=by kernel_rfl)
 (hy:YieldsIf P ops (fun _=> True) oi undef a:=by exact Or.inr ⟨by rfl,rfl⟩)
 (hQ:∀ c a w,Q (.panic c) (a.put oi.dst undef) w→Q (.panic c) a w:=by exact fun _ _ _ h=> h)
 (hS:unl st listed=true→S w:=by first|exact fun _=> by assumption|exact fun _=> trivial|(intro h;exact Bool.noConfusion (h.symm.trans (show RegT3.unl _ _=false by kernel_rfl)))):wpL P md ops Q S st (fuel + 1) listed a w:=takeP hi hit hsz hs hf hr hQ hy hS h
theorem tl (i:Nat) {oi:Oper} {v:Value} (h:wpL P md ops Q S st fuel (listed.setIfInBounds i true) (a.put oi.dst v) w) (hi:ops[i]? =some oi:=by rfl) (hwait:waits md ops st listed i=true:=by kernel_rfl)
 (hs:Region.noSelect ops=true:=by kernel_rfl) (hf:Region.free md ops listed i=true:=by kernel_rfl) (hr:(Region.ready md ops listed).contains i=true:=by kernel_rfl)
 (hy:YieldsIf P ops S oi v a:=by (refine Or.inl ⟨by rfl,?_⟩;intro w hSw;(try dsimp only at hSw);go_simp;try with_reducible rfl))
 (hQ:∀ c a w,Q (.panic c) (a.put oi.dst v) w→Q (.panic c) a w:=by exact fun _ _ _ h=> h)
 (hS:S w:=by first|assumption|trivial):wpL P md ops Q S st (fuel + 1) listed a w:=takeL hi hwait hs hf hr hQ hy hS h
theorem tv (i:Nat) (v:Value) {oi:Oper} (hl:∀ W,S W→(execOp a.eval oi).run P W=.ok (.value v) W) (h:wpL P md ops Q S st fuel (listed.setIfInBounds i true) (a.put oi.dst v) w) (hi:ops[i]? =some oi:=by rfl) (hwait:waits md ops st listed i=true:=by kernel_rfl)
 (hs:Region.noSelect ops=true:=by kernel_rfl) (hf:Region.free md ops listed i=true:=by kernel_rfl) (hr:(Region.ready md ops listed).contains i=true:=by kernel_rfl)
 (hw:Region.wanted oi (yielded ops a.tmps)=true:=by rfl)
 (hQ:∀ c a w,Q (.panic c) (a.put oi.dst v) w→Q (.panic c) a w:=by exact fun _ _ _ h=> h)
 (hS:S w:=by first|assumption|trivial):wpL P md ops Q S st (fuel + 1) listed a w:=takeL hi hwait hs hf hr hQ (.inl ⟨hw,hl⟩) hS h
theorem ro (i:Nat) {o:Oper} (h:∀ K:Act→World→Prop,Shut (∀ a w,(st.contains i=false→unl st listed=true→S w)→wpL P md ops Q S st fuel (listed.setIfInBounds i true) a w→K a w)→if Region.wanted o (yielded ops a.tmps)=true then Oper.wp P o a w K Q else K (a.put o.dst undef) w)
 (hr:Region.ready md ops listed=[i]:=by kernel_rfl) (ho:ops[i]? =some o:=by rfl):wpL P md ops Q S st (fuel + 1) listed a w:=oneL hr ho h
theorem nx {i:Nat} {K:Act→World→Prop} {a':Act} {w':World} (hK:Shut (∀ a w,(st.contains i=false→unl st listed=true→S w)→wpL P md ops Q S st fuel (listed.setIfInBounds i true) a w→K a w)) (hS:S w')
 (h:S w'→wpL P md ops Q S st fuel (listed.setIfInBounds i true) a' w'):K a' w':=hK.out _ _ (fun _ _=> hS) (h hS)
theorem nt {i:Nat} {K:Act→World→Prop} {a':Act} {w':World} (hK:Shut (∀ a w,(st.contains i=false→unl st listed=true→S w)→wpL P md ops Q S st fuel (listed.setIfInBounds i true) a w→K a w))
 (h:wpL P md ops Q S st fuel (listed.setIfInBounds i true) a' w') (ht:st.contains i=true:=by kernel_rfl):K a' w':=hK.out _ _ (fun h=> absurd ht (by rw [h];decide)) h
theorem nb {i:Nat} {K:Act→World→Prop} {a':Act} {w':World} (hK:Shut (∀ a w,(st.contains i=false→unl st listed=true→S w)→wpL P md ops Q S st fuel (listed.setIfInBounds i true) a w→K a w))
 (h:wpL P md ops Q S st fuel (listed.setIfInBounds i true) a' w') (hu:unl st listed=false:=by kernel_rfl):K a' w':=hK.out _ _ (fun _ h=> Bool.noConfusion (h.symm.trans hu)) h
theorem go0 {S:World→Prop} (st:List Nat) {id:Nat} (h0:S w.drew) (h:S w.drew→wpL P .any ops Q S st ops.size (Array.replicate ops.size false) a w.drew) (hm:P.follows .mixedOrders=true:=by kernel_rfl):(Code.region id ops true).wp P Q a w:=startL hm (h h0)
end
end RegT3
namespace Kn
section
variable {W W' w:World} {b g g':Nat} {c c' cs:Array Value} {T T':TypeId} {y:Lay} {bs:List BoxV} {k:Kern}
theorem dB (hd:W.drew=W') (h:Hid (W.heap[g]? =some (.cells c T (0,0)))):Hid (W'.heap[g]? =some (.cells c T (0,0))):=hU (by rw [← hd];exact h.out)
theorem dE (hd:W.drew=W') (h:Hid (Kept b w W)):Hid (Kept b w W'):=hU (by rw [← hd];exact h.out.drew)
theorem dL (hd:W.drew=W') (h:Hid (LayAt W y bs k)):Hid (LayAt W' y bs k):=hU (by rw [← hd];exact h.out.below (Below.drew (Below.refl _ _)))
theorem dS {α:Type} {E:TypeId} {sz:Nat} {f:α→Array Value} {v:Value} {l:List α} (hd:W.drew=W') (h:Hid (Sl E sz f W v l)):Hid (Sl E sz f W' v l):=hU (by rw [← hd];exact h.out.below (Below.drew (Below.refl _ _)))
theorem nB (hb:Below W.heap.size W W') (h:Hid (W.heap[g]? =some (.cells c T (0,0)))):Hid (W'.heap[g]? =some (.cells c T (0,0))):=hU ((hb.block _ (hlt h.out)).trans h.out)
theorem nE (hb:Below W.heap.size W W') (h:Hid (Kept b w W)):Hid (Kept b w W'):=hU (Kept.below h.out hb)
theorem nL (hb:Below W.heap.size W W') (h:Hid (LayAt W y bs k)):Hid (LayAt W' y bs k):=hU (h.out.below hb)
theorem pT (hp:Put b cs T' W W') (hb:Hid (W.heap[b]? =some (.cells c' T' (0,0)))) (h:Hid (W.heap[g]? =some (.cells c T (0,0)))) (hT:T ≠ T':=by decide):Hid (W'.heap[g]? =some (.cells c T (0,0))):=hU ((hp.oth g (ne_of_types h.out hb.out hT)).trans h.out)
theorem pO (hp:Put b cs T' W W') (h:Hid (W.heap[g]? =some (.cells c T (0,0)))) (hne:g ≠ b:=by omega):Hid (W'.heap[g]? =some (.cells c T (0,0))):=hU ((hp.oth g hne).trans h.out)
theorem pE (hp:Put g cs T W W') (h:Hid (Kept b w W)) (hg:w.heap.size≤g:=by omega):Hid (Kept b w W'):=hU (Kept.putNew h.out hp hg)
theorem pK (hp:Put b cs T W W') (h:Hid (Kept b w W)):Hid (Kept b w W'):=hU (h.out.trans (Kept.put hp))
theorem pA (hp:Put g cs T W W'):Hid (W'.heap[g]? =some (.cells cs T (0,0))):=hU hp.at_
theorem pL (hp:Put g cs T W W') (hb:Hid (W.heap[g]? =some (.cells c T (0,0)))) (h:Hid (LayAt W y bs k)) (hT:noRow T:=by decide):Hid (LayAt W' y bs k):=hU (h.out.put hb.out hT hp)
theorem st1 (a1:Array Value) (T1:TypeId) (hk0:w.heap[b]? =some (.cells c T (0,0))) (hl:LayAt w y bs k):∃ W0,w.alloc (.cells a1 T1)=W0∧Hid (W0.heap[b]? =some (.cells c T (0,0)))∧Hid (W0.heap[w.heap.size]? =some (.cells a1 T1 (0,0)))∧
 Hid (Kept b w W0)∧Hid (LayAt W0 y bs k)∧w.heap.size≤W0.heap.size∧b<W0.heap.size∧w.heap.size<W0.heap.size:=
 have hb:Below w.heap.size w (w.alloc (.cells a1 T1)):=(Below.refl _ _).alloc (Nat.le_refl _) _
 have h1:=hnew w (.cells a1 T1)
 ⟨_,rfl,hU (hold hk0),hU h1,hU (Kept.of hb),hU (hl.below hb),hb.size,hlt (hold hk0),hlt h1⟩
theorem st2 (a1:Array Value) (T1:TypeId) (a2:Array Value) (T2:TypeId) (hk0:w.heap[b]? =some (.cells c T (0,0))) (hl:LayAt w y bs k):∃ W0,(w.alloc (.cells a1 T1)).alloc (.cells a2 T2)=W0∧Hid (W0.heap[b]? =some (.cells c T (0,0)))∧
 Hid (W0.heap[w.heap.size]? =some (.cells a1 T1 (0,0)))∧Hid (W0.heap[w.heap.size + 1]? =some (.cells a2 T2 (0,0)))∧
 Hid (Kept b w W0)∧Hid (LayAt W0 y bs k)∧w.heap.size≤W0.heap.size∧b<W0.heap.size∧w.heap.size<W0.heap.size∧w.heap.size + 1<W0.heap.size:=
 have hb:Below w.heap.size w ((w.alloc (.cells a1 T1)).alloc (.cells a2 T2)):=((Below.refl _ _).alloc (Nat.le_refl _) _).alloc (by simp) _
 have h1:=two_new w w.heap.size (.cells a1 T1) (.cells a2 T2) rfl
 ⟨_,rfl,hU (hold (hold hk0)),hU h1.1,hU h1.2,hU (Kept.of hb),hU (hl.below hb),hb.size,hlt (hold (hold hk0)),hlt h1.1,hlt h1.2⟩
theorem nb0 (hE:Hid (Kept b w W)):∃ n,W.heap.size=n∧w.heap.size≤n:=⟨_,rfl,hE.out.size⟩
theorem nlt {n:Nat} (h:Hid (W.heap[g]? =some (.cells c T (0,0)))) (hn:W.heap.size=n):g<n:=by rw [← hn];exact hlt h.out
theorem nb1 {n:Nat} (o:Obj) (hn:W.heap.size=n):∃ W',W.alloc o=W'∧Below W.heap.size W W'∧Hid (W'.heap[n]? =some o):=
 ⟨_,rfl,(Below.refl _ _).alloc (Nat.le_refl _) _,hU (by rw [← hn];exact hnew W o)⟩
theorem nb2 (W:World) (o:Obj):∃ W',W.alloc o=W'∧Below W.heap.size W W'∧W'.heap[W.heap.size]? =some o:=⟨_,rfl,(Below.refl _ _).alloc (Nat.le_refl _) _,hnew W o⟩
theorem exW (W:World):∃ W',W=W':=⟨_,rfl⟩
theorem mB (hk:Kept b W W') (h:Hid (W.heap[g]? =some (.cells c T (0,0)))) (hne:g ≠ b:=by omega):Hid (W'.heap[g]? =some (.cells c T (0,0))):=hU ((hk.block _ (hlt h.out) hne).trans h.out)
theorem mE (hk:Kept b W W') (h:Hid (Kept b w W)):Hid (Kept b w W'):=hU (h.out.trans hk)
end
end Kn
end Go.Proofs.YthgehdghihbiaaaGreatDoor
namespace Go.Proofs.YthgehdghihbiaaaGreatDoor
open Go.RowKit KR
namespace Kn
def KernV (W:World) (v:Value) (k:Kern):Prop:=∃ y bs,v=.agg (kcells y k)∧LayAt W y bs k
def GivesK (k:Kern) (w:World) (e:Ending) (w':World):Prop:=∃ v,e=.returned v∧KernV w' v k∧Below w.heap.size w w'
theorem noKern:noRow 70:=by decide
theorem KernV.below {W W':World} {v:Value} {k:Kern} (h:KernV W v k) (hb:Below W.heap.size W W'):KernV W' v k:=by
 obtain ⟨y,bs,rfl,hl⟩:=h
 exact ⟨y,bs,rfl,hl.below hb⟩
theorem Kept.low {b:Nat} {w W:World} (h:Kept b w W) (hb:w.heap.size≤b):Below w.heap.size w W:=⟨h.os,h.tape,h.output,h.size,fun k hk=> h.block k hk (by omega)⟩
theorem onesK {W:World} {y:Lay} {bs:List BoxV} {k:Kern} (h:LayAt W y bs k):∀ u ∈ (Value.agg (kcells y k)).cells.toList,u.oneCell'=true:=by
 intro u hu
 simp only [Value.cells,kcells,List.mem_cons,List.not_mem_nil,or_false] at hu
 rcases hu with rfl|rfl|rfl|rfl|rfl|rfl|rfl|rfl|rfl|rfl|rfl|rfl|rfl|rfl|rfl|rfl|rfl
 · exact h.p.vone
 · exact h.t.vone
 · rfl
 · exact h.s.vone
 · exact h.pi.vone
 · rfl
 · exact h.h.vone
 · rfl
 · exact h.im.vone
 · exact h.ou.vone
 · exact h.ins_.vone
 · exact h.bx.vone
 · rfl
 · exact h.tr.vone
 · exact h.se.vone
 · rfl
 · rfl
end Kn
end Go.Proofs.YthgehdghihbiaaaGreatDoor
namespace Go.Proofs.YthgehdghihbiaaaGreatDoor
open Go.RowKit KR
namespace KR
variable {α:Type} {E T:TypeId} {sz B b:Nat} {f:α→Array Value} {W W':World} {v:Value} {l:List α} {cs:Array Value}
def OffRow (v:Value) (n b:Nat):Prop:=n=0∨∀ a m c,v=.slice (some a) m c→a.block ≠ b
theorem Sl.offNew (h:Sl E sz f W v l) (hz:W.heap.size≤b):OffRow v l.length b:=by
 obtain ⟨a,c,rfl,h1,h2,h3|⟨g,o,cur,rfl,hg,_⟩⟩:=h
 · exact .inl (by rw [h3];rfl)
 · refine .inr fun a m c ha=> ?_
   injection ha with ha _ _
   injection ha with ha
   subst ha
   have:=hlt hg
   show g ≠ b
   omega
theorem Own.off (h:Own E sz f B W v l) (hb:b<B):OffRow v l.length b:=by
 obtain ⟨h0,⟨rfl,hn⟩|⟨g,cap,cur,rfl,hB,_⟩⟩:=h
 · exact .inl hn
 · refine .inr fun a m c ha=> ?_
   injection ha with ha _ _
   injection ha with ha
   subst ha
   show g ≠ b
   omega
theorem Sl.putOff (h:Sl E sz f W v l) (ho:OffRow v l.length b) (hp:Put b cs T W W'):Sl E sz f W' v l:=by
 obtain ⟨a,c,rfl,h1,h2,h3|⟨g,o,cur,rfl,hg,hi⟩⟩:=h
 · exact ⟨a,c,rfl,h1,h2,.inl h3⟩
 · rcases ho with ho|ho
   · exact ⟨_,c,rfl,h1,h2,.inl (List.eq_nil_of_length_eq_zero ho)⟩
   · exact ⟨_,c,rfl,h1,h2,.inr ⟨g,o,cur,rfl,(hp.oth g (ho _ _ _ rfl)).trans hg,hi⟩⟩
end KR
end Go.Proofs.YthgehdghihbiaaaGreatDoor
namespace Go.Proofs.YthgehdghihbiaaaGreatDoor
open Go.RowKit KR
namespace Kn
theorem LayAt.putPipe {W W':World} {y:Lay} {bs:List BoxV} {k:Kern} {l:List Pipe} (h:LayAt W y bs k) (hp:SlPp W' y.pi l) {g:Nat} {cs cs':Array Value} (hh:W.heap[g]? =some (.cells cs 232 (0,0))) (hq:Put g cs' 232 W W'):LayAt W' y bs {k with pipes:=l}:=
 ⟨h.p.put hh hq (by decide),h.t.put hh hq (by decide),h.s.put hh hq (by decide),hp,h.h.put hh hq (by decide),h.im.put hh hq (by decide),h.ou.put hh hq (by decide),h.ins_.put hh hq (by decide),h.bx.put hh hq (by decide),h.bse,
   fun x hx=> Sl.put (h.ok x hx) hh hq (by decide),h.tr.put hh hq (by decide),h.se.put hh hq (by decide)⟩
theorem row_set {W W':World} {g cap j:Nat} {l:List Pipe} {cur:Array Value} {x:Pipe} (h:W.heap[g]? =some (.cells cur 232 (0,0))) (hr:l.length≤cap∧cap≤maxLen∧cur.size=cap * 3∧cur.toList.take (l.length * 3)=flat Pipe.cells l) (hj:j<l.length) (hp:Put g (splice cur (j * 3) x.cells) 232 W W'):
 SlPp W' (.slice (some ⟨g,0,none⟩) l.length cap) (l.set j x):=by
 have:=KR.Own.sl szPipe ((Row.set szPipe ⟨h,hr⟩ hj rfl hp).own szPipe (Nat.zero_le g))
 rwa [List.length_set] at this
theorem onesPp (x:Pipe):∀ u ∈ (Value.agg x.cells).cells.toList,u.oneCell'=true:=
 List.all_eq_true.1 (show ((Value.agg x.cells).cells.toList.all (·.oneCell'))=true from rfl)
end Kn
end Go.Proofs.YthgehdghihbiaaaGreatDoor
namespace Go.Proofs.YthgehdghihbiaaaGreatDoor.RegT3
open Go
section
variable {P:Program} {ops:Array Oper} {Q:Exit→Act→World→Prop} {md:Region.Mode} {S:World→Prop}
theorem threeL {i j l:Nat} {st:List Nat} {oi oj ol:Oper} {fuel:Nat} {listed:Array Bool} {a:Act} {w:World} (hr:Region.ready md ops listed=[i,j,l]) (hoi:ops[i]? =some oi) (hoj:ops[j]? =some oj) (hol:ops[l]? =some ol)
 (h1:∀ K:Act→World→Prop,Shut (∀ a w,(st.contains i=false→unl st listed=true→S w)→wpL P md ops Q S st fuel (listed.setIfInBounds i true) a w→K a w)→if Region.wanted oi (yielded ops a.tmps)=true then Oper.wp P oi a w K Q else K (a.put oi.dst undef) w)
 (h2:∀ K:Act→World→Prop,Shut (∀ a w,(st.contains j=false→unl st listed=true→S w)→wpL P md ops Q S st fuel (listed.setIfInBounds j true) a w→K a w)→if Region.wanted oj (yielded ops a.tmps)=true then Oper.wp P oj a w K Q else K (a.put oj.dst undef) w)
 (h3:∀ K:Act→World→Prop,Shut (∀ a w,(st.contains l=false→unl st listed=true→S w)→wpL P md ops Q S st fuel (listed.setIfInBounds l true) a w→K a w)→if Region.wanted ol (yielded ops a.tmps)=true then Oper.wp P ol a w K Q else K (a.put ol.dst undef) w):
 wpL P md ops Q S st (fuel + 1) listed a w:=
 ⟨fun h0=> absurd (hr ▸ h0) (by simp),fun k hk=> by
   rw [hr] at hk
   rcases (by simpa using hk:k=i∨k=j∨k=l) with rfl|rfl|rfl
   · exact wpOp_step hoi (fun K' hK=> h1 K' (fun a w hS hW=> hK a w ⟨hS,hW⟩))
   · exact wpOp_step hoj (fun K' hK=> h2 K' (fun a w hS hW=> hK a w ⟨hS,hW⟩))
   · exact wpOp_step hol (fun K' hK=> h3 K' (fun a w hS hW=> hK a w ⟨hS,hW⟩))⟩
end
end Go.Proofs.YthgehdghihbiaaaGreatDoor.RegT3
namespace Go.Proofs.YthgehdghihbiaaaGreatDoor
namespace KR
theorem join1 {A:Type} {G:Prop} {T F:A→Prop} (h1:∀ a,F a→T a) (h2:(∀ a,F a→T a)→G):G:=h2 h1
theorem join2 {A B:Type} {G:Prop} {T F:A→B→Prop} (h1:∀ a b,F a b→T a b) (h2:(∀ a b,F a b→T a b)→G):G:=h2 h1
theorem join3 {A B C:Type} {G:Prop} {T F:A→B→C→Prop} (h1:∀ a b c,F a b c→T a b c) (h2:(∀ a b c,F a b c→T a b c)→G):G:=h2 h1
theorem join4 {A B C D:Type} {G:Prop} {T F:A→B→C→D→Prop} (h1:∀ a b c d,F a b c d→T a b c d) (h2:(∀ a b c d,F a b c d→T a b c d)→G):G:=h2 h1
end KR
end Go.Proofs.YthgehdghihbiaaaGreatDoor
namespace Go.Proofs.YthgehdghihbiaaaGreatDoor
open Go.RowKit KR
namespace RegT3
open Go
inductive Tk where
 |p (n:Nat)
 |l (n:Nat)
 |n (n:Nat)
section
variable {P:Program} {ops:Array Oper} {Q:Exit→Act→World→Prop} {md:Region.Mode} {S:World→Prop} {st:List Nat} {fuel:Nat} {listed:Array Bool} {a:Act} {w:World}
structure TS (l:List Tk) (G:Prop):Prop where
 out:G
theorem tsp {i:Nat} {l:List Tk} {oi:Oper} {v:Value} (h:TS l (wpL P md ops Q S st fuel (listed.setIfInBounds i true) (a.put oi.dst v) w)) (hi:ops[i]? =some oi:=by rfl) (hit:st.contains i=false:=by kernel_rfl) (hsz:decide (listed.size=ops.size)=true:=by kernel_rfl)
 (hs:Region.noSelect ops=true:=by kernel_rfl) (hf:Region.free md ops listed i=true:=by kernel_rfl) (hr:(Region.ready md ops listed).contains i=true:=by kernel_rfl)
 (hy:YieldsIf P ops (fun _=> True) oi v a:=by (refine Or.inl ⟨by rfl,?_⟩;intro w hSw;go_simp;try with_reducible rfl))
 (hQ:∀ c a w,Q (.panic c) (a.put oi.dst v) w→Q (.panic c) a w:=by exact fun _ _ _ h=> h)
 (hS:unl st listed=true→S w:=by first|exact fun _=> by assumption|exact fun _=> trivial|(intro h;exact Bool.noConfusion (h.symm.trans (show RegT3.unl _ _=false by kernel_rfl)))):TS (.p i::l) (wpL P md ops Q S st (fuel + 1) listed a w):=⟨tp i h.out hi hit hsz hs hf hr hy hQ hS⟩
theorem tsn {i:Nat} {l:List Tk} {oi:Oper} (h:TS l (wpL P md ops Q S st fuel (listed.setIfInBounds i true) (a.put oi.dst undef) w)) (hi:ops[i]? =some oi:=by rfl) (hit:st.contains i=false:=by kernel_rfl) (hsz:decide (listed.size=ops.size)=true:=by kernel_rfl)
 (hs:Region.noSelect ops=true:=by kernel_rfl) (hf:Region.free md ops listed i=true:=by kernel_rfl) (hr:(Region.ready md ops listed).contains i=true:=by kernel_rfl)
 (hy:YieldsIf P ops (fun _=> True) oi undef a:=by exact Or.inr ⟨by rfl,rfl⟩)
 (hQ:∀ c a w,Q (.panic c) (a.put oi.dst undef) w→Q (.panic c) a w:=by exact fun _ _ _ h=> h)
 (hS:unl st listed=true→S w:=by first|exact fun _=> by assumption|exact fun _=> trivial|(intro h;exact Bool.noConfusion (h.symm.trans (show RegT3.unl _ _=false by kernel_rfl)))):TS (.n i::l) (wpL P md ops Q S st (fuel + 1) listed a w):=⟨tn i h.out hi hit hsz hs hf hr hy hQ hS⟩
theorem tsl {i:Nat} {l:List Tk} {oi:Oper} {v:Value} (h:TS l (wpL P md ops Q S st fuel (listed.setIfInBounds i true) (a.put oi.dst v) w)) (hi:ops[i]? =some oi:=by rfl) (hwait:waits md ops st listed i=true:=by kernel_rfl)
 (hs:Region.noSelect ops=true:=by kernel_rfl) (hf:Region.free md ops listed i=true:=by kernel_rfl) (hr:(Region.ready md ops listed).contains i=true:=by kernel_rfl)
 (hy:YieldsIf P ops S oi v a:=by (refine Or.inl ⟨by rfl,?_⟩;intro w hSw;(try dsimp only at hSw);go_simp;try with_reducible rfl))
 (hQ:∀ c a w,Q (.panic c) (a.put oi.dst v) w→Q (.panic c) a w:=by exact fun _ _ _ h=> h)
 (hS:S w:=by first|assumption|trivial):TS (.l i::l) (wpL P md ops Q S st (fuel + 1) listed a w):=⟨tl i h.out hi hwait hs hf hr hy hQ hS⟩
theorem ts0 {G:Prop} (h:G):TS [] G:=⟨h⟩
theorem ts (l:List Tk) {G R:Prop} (k:R) (h:Kp R→TS l G:=by intro k;(repeat ((first|refine tsn ?_|refine tsl ?_|refine tsp ?_);(try simp only [acts])));exact ts0 k.out):G:=(h ⟨k⟩).out
end
end RegT3
namespace Kn
section
variable {W W' w:World} {b g:Nat} {c c1 c2 c3 c4 c5 cs:Array Value} {T T1 T2 T3 T4 T5:TypeId} {g1 g2 g3 g4 g5:Nat} {y:Lay} {bs:List BoxV} {k:Kern}
theorem n3 (hb:Below W.heap.size W W') (h0:Hid (W.heap[g]? =some (.cells c T (0,0)))) (hE:Hid (Kept b w W)) (hL:Hid (LayAt W y bs k)):Hid (W'.heap[g]? =some (.cells c T (0,0)))∧Hid (Kept b w W')∧Hid (LayAt W' y bs k):=⟨nB hb h0,nE hb hE,nL hb hL⟩
theorem n4 (hb:Below W.heap.size W W') (h0:Hid (W.heap[g]? =some (.cells c T (0,0)))) (h1:Hid (W.heap[g1]? =some (.cells c1 T1 (0,0)))) (hE:Hid (Kept b w W)) (hL:Hid (LayAt W y bs k)):Hid (W'.heap[g]? =some (.cells c T (0,0)))∧Hid (W'.heap[g1]? =some (.cells c1 T1 (0,0)))∧Hid (Kept b w W')∧Hid (LayAt W' y bs k):=⟨nB hb h0,nB hb h1,nE hb hE,nL hb hL⟩
theorem n5 (hb:Below W.heap.size W W') (h0:Hid (W.heap[g]? =some (.cells c T (0,0)))) (h1:Hid (W.heap[g1]? =some (.cells c1 T1 (0,0)))) (h2:Hid (W.heap[g2]? =some (.cells c2 T2 (0,0)))) (hE:Hid (Kept b w W)) (hL:Hid (LayAt W y bs k)):Hid (W'.heap[g]? =some (.cells c T (0,0)))∧Hid (W'.heap[g1]? =some (.cells c1 T1 (0,0)))∧Hid (W'.heap[g2]? =some (.cells c2 T2 (0,0)))∧Hid (Kept b w W')∧Hid (LayAt W' y bs k):=⟨nB hb h0,nB hb h1,nB hb h2,nE hb hE,nL hb hL⟩
theorem n6 (hb:Below W.heap.size W W') (h0:Hid (W.heap[g]? =some (.cells c T (0,0)))) (h1:Hid (W.heap[g1]? =some (.cells c1 T1 (0,0)))) (h2:Hid (W.heap[g2]? =some (.cells c2 T2 (0,0)))) (h3:Hid (W.heap[g3]? =some (.cells c3 T3 (0,0)))) (hE:Hid (Kept b w W)) (hL:Hid (LayAt W y bs k)):Hid (W'.heap[g]? =some (.cells c T (0,0)))∧Hid (W'.heap[g1]? =some (.cells c1 T1 (0,0)))∧Hid (W'.heap[g2]? =some (.cells c2 T2 (0,0)))∧Hid (W'.heap[g3]? =some (.cells c3 T3 (0,0)))∧Hid (Kept b w W')∧Hid (LayAt W' y bs k):=⟨nB hb h0,nB hb h1,nB hb h2,nB hb h3,nE hb hE,nL hb hL⟩
theorem dW (hd:W.drew=W'):Below W.heap.size W W':=by rw [← hd];exact Below.drew (Below.refl _ _)
end
section
variable {P:Program} {ops:Array Oper} {rest:List Oper} {o:Oper} {a:Act} {Q:Exit→Act→World→Prop} {W w:World} {b:Nat} {y0:Lay} {k0:Kern} {bs:List BoxV} {x y:Operand} {T:TypeId}
theorem kS (t:TypeId) (v:Value) (off:Nat) (Y:Lay) (K:Kern) (ht:One P t) (hk:Hid (W.heap[b]? =some (.cells (kcells y0 k0) T (0,0)))) (hE:Hid (Kept b w W)) (hl:LayAt W Y bs K)
 (hK:∀ W',Put b (kcells Y K) T W W'→Hid (LayAt W' Y bs K)→Hid (Kept b w W')→Hid (W'.heap[b]? =some (.cells (kcells Y K) T (0,0)))→wpList P ops Q rest (a.put o.dst undef) W')
 (hg:o.guard=none:=by exact rfl) (hop:o.op=.store t x y:=by exact rfl) (hx:a.eval x=.pointer (some ⟨b,off,none⟩):=by exact rfl) (hy:a.eval y=v:=by exact rfl) (hv:v.cells=#[v]:=by exact rfl) (h1:v.oneCell'=true:=by exact rfl)
 (hfit:off + 1≤17:=by decide) (hnw:splice (kcells y0 k0) off #[v]=kcells Y K:=by exact rfl) (hT:noRow T:=by first|exact noWork|exact noSWork):wpList P ops Q (o::rest) a W:=
 wpList_store1 hg hop hx hy ht hk.out hv h1 hfit hnw fun W' hp=> hK W' hp (hU (hl.put hk.out hT hp)) (pK hp hE) (pA hp)
theorem kSs (t:TypeId) (v:Value) (off:Nat) (Y:Lay) (K:Kern) (ht:One P t) (hk:Hid (W.heap[b]? =some (.cells (kcells y0 k0) T (0,0)))) (hE:Hid (Kept b w W)) {α:Type} {E:TypeId} {sz:Nat} {f:α→Array Value} {U:World} {l:List α} (hs:Hid (Sl E sz f U v l)) (hl:LayAt W Y bs K)
 (hK:∀ W',Put b (kcells Y K) T W W'→Hid (LayAt W' Y bs K)→Hid (Kept b w W')→Hid (W'.heap[b]? =some (.cells (kcells Y K) T (0,0)))→wpList P ops Q rest (a.put o.dst undef) W')
 (hg:o.guard=none:=by exact rfl) (hop:o.op=.store t x y:=by exact rfl) (hx:a.eval x=.pointer (some ⟨b,off,none⟩):=by exact rfl) (hy:a.eval y=v:=by exact rfl)
 (hfit:off + 1≤17:=by decide) (hnw:splice (kcells y0 k0) off #[v]=kcells Y K:=by exact rfl) (hT:noRow T:=by first|exact noWork|exact noSWork):wpList P ops Q (o::rest) a W:=
 wpList_store1 hg hop hx hy ht hk.out hs.out.vcells hs.out.vone hfit hnw fun W' hp=> hK W' hp (hU (hl.put hk.out hT hp)) (pK hp hE) (pA hp)
theorem kR {Kc:Act→World→Prop} (v:Value) (off:Nat) (Y:Lay) (K:Kern) {t:TypeId} (ht:One P t) (hk:Hid (W.heap[b]? =some (.cells (kcells y0 k0) T (0,0)))) (hE:Hid (Kept b w W)) (hl:LayAt W Y bs K)
 (hK:∀ W',Put b (kcells Y K) T W W'→Hid (LayAt W' Y bs K)→Hid (Kept b w W')→Hid (W'.heap[b]? =some (.cells (kcells Y K) T (0,0)))→Kc (a.put o.dst undef) W')
 (hop:o.op=.store t x y:=by exact rfl) (hx:a.eval x=.pointer (some ⟨b,off,none⟩):=by exact rfl) (hy:a.eval y=v:=by exact rfl) (hv:v.cells=#[v]:=by exact rfl) (h1:v.oneCell'=true:=by exact rfl)
 (hfit:off + 1≤17:=by decide) (hnw:splice (kcells y0 k0) off #[v]=kcells Y K:=by exact rfl) (hT:noRow T:=by first|exact noWork|exact noSWork) (hg:o.guard=none:=by exact rfl) {E:Prop}:if Region.wanted o (yielded ops a.tmps)=true then Oper.wp P o a W Kc Q else E:=
 RegT3.want hg (wp_store1 hop hx hy ht hk.out hv h1 hfit hnw fun W' hp=> hK W' hp (hU (hl.put hk.out hT hp)) (pK hp hE) (pA hp))
theorem kRs {Kc:Act→World→Prop} (v:Value) (off:Nat) (Y:Lay) (K:Kern) {t:TypeId} (ht:One P t) (hk:Hid (W.heap[b]? =some (.cells (kcells y0 k0) T (0,0)))) (hE:Hid (Kept b w W)) {α:Type} {E:TypeId} {sz:Nat} {f:α→Array Value} {U:World} {l:List α} (hs:Hid (Sl E sz f U v l)) (hl:LayAt W Y bs K)
 (hK:∀ W',Put b (kcells Y K) T W W'→Hid (LayAt W' Y bs K)→Hid (Kept b w W')→Hid (W'.heap[b]? =some (.cells (kcells Y K) T (0,0)))→Kc (a.put o.dst undef) W')
 (hop:o.op=.store t x y:=by exact rfl) (hx:a.eval x=.pointer (some ⟨b,off,none⟩):=by exact rfl) (hy:a.eval y=v:=by exact rfl)
 (hfit:off + 1≤17:=by decide) (hnw:splice (kcells y0 k0) off #[v]=kcells Y K:=by exact rfl) (hT:noRow T:=by first|exact noWork|exact noSWork) (hg:o.guard=none:=by exact rfl) {F:Prop}:if Region.wanted o (yielded ops a.tmps)=true then Oper.wp P o a W Kc Q else F:=
 RegT3.want hg (wp_store1 hop hx hy ht hk.out hs.out.vcells hs.out.vone hfit hnw fun W' hp=> hK W' hp (hU (hl.put hk.out hT hp)) (pK hp hE) (pA hp))
end
section
variable {P:Program} {ops:Array Oper} {rest:List Oper} {o:Oper} {a:Act} {Q:Exit→Act→World→Prop} {W:World} {g n:Nat} {x y:Operand} {T:TypeId} {cur:Array Value}
theorem sN (t:TypeId) (v:Value) (off:Nat) (new:Array Value) (ht:∀ W,(sizeOf t).run P W=.ok n W) (hh:W.heap[g]? =some (.cells cur T (0,0))) (h1:∀ u ∈ v.cells.toList,u.oneCell'=true)
 (hK:∀ W',Put g new T W W'→wpList P ops Q rest (a.put o.dst undef) W')
 (hg:o.guard=none:=by exact rfl) (hop:o.op=.store t x y:=by exact rfl) (hx:a.eval x=.pointer (some ⟨g,off,none⟩):=by exact rfl) (hy:a.eval y=v:=by exact rfl) (hn:v.cells.size=n:=by exact rfl)
 (hfit:off + n≤cur.size:=by first|exact Nat.le_of_ble_eq_true rfl|simp) (hnw:splice cur off v.cells=new:=by exact rfl):wpList P ops Q (o::rest) a W:=wpList_store hg hop hx hy ht hh hn hfit h1 hnw hK
end
end Kn
end Go.Proofs.YthgehdghihbiaaaGreatDoor
