/- transomref05.Take: the plan of bytes, or why there is none. Condition: bytes are as many as a string can have. -/
import Derived.Test.YthgehdghihbiaaaGreatDoorPlanRefTakeB
import Derived.Test.YthgehdghihbiaaaGreatDoorRegLast
import Derived.Test.YthgehdghihbiaaaGreatDoorPlanRefCheck
import Derived.Deep.Cut
set_option linter.unusedVariables false
set_option maxRecDepth 100000
set_option maxHeartbeats 8000000
set_option linter.unusedSimpArgs false
namespace Go.Proofs.YthgehdghihbiaaaGreatDoor
open Go.RowKit
namespace RfT
open Tk
theorem far3 {W:World} {b g j:Nat} {v a c:Value} {b':Value} (h:W.cell? ⟨g,j,none⟩=some v) (hne:g ≠ b):(((W.setCell ⟨b,0,none⟩ a).setCell ⟨b,1,none⟩ b').setCell ⟨b,2,none⟩ c).cell? ⟨g,j,none⟩=some v:=by
 have h':b ≠ g:=fun e=> hne e.symm
 rw [World.cell?_setCell_far _ _ _ _ h',World.cell?_setCell_far _ _ _ _ h',World.cell?_setCell_far _ _ _ _ h']
 exact h
theorem staysT {W W':World} {B k n sz:Nat} {v:Value} {xs:List Value} {c:Array Value} {T E:TypeId} {o:Obj} (hh:W.heap[k]? =some (.cells c T (0,0))) (hown:W.ownsRow B E sz v n xs) (hg:(W.drew.alloc o).grownBy W' v.ownBlock) (hT:T ≠ E):W'.heap[k]? =some (.cells c T (0,0)):=by
 have hlt:=Rdr.heap_lt hh
 have h1:W.drew.heap[k]? =some (.cells c T (0,0)):=hh
 have hlt':k<W.drew.heap.size:=hlt
 rw [hg.block k (by simp;omega) (by
  intro hx
  obtain ⟨_,_,cur,hc⟩:=ownBlock_lt hown hx.symm
  exact Tk.ne_of_types hh hc hT rfl),Lib.alloc_old W.drew _ k hlt',h1]
theorem undrew {W W':World} {o:Obj} {b:Option Nat} (h:(W.drew.alloc o).grownBy W' b):(W.alloc o).grownBy W' b:=⟨h.os,h.tape,h.output,h.size,h.block⟩
theorem far3h {W:World} {b g:Nat} {c:Array Value} {T:TypeId} {x0 x1 x2:Value} (h:W.heap[g]? =some (.cells c T (0,0))) (hne:g ≠ b):(((W.setCell ⟨b,0,none⟩ x0).setCell ⟨b,1,none⟩ x1).setCell ⟨b,2,none⟩ x2).heap[g]? =some (.cells c T (0,0)):=by
 rw [Rdr.heap_set_ne hne,Rdr.heap_set_ne hne,Rdr.heap_set_ne hne]
 exact h
theorem keeps_cell {W W':World} {g:Nat} {c:Array Value} {T:TypeId} {j:Nat} {v:Value} (h:W.heap[g]? =some (.cells c T (0,0))) (h':W'.heap[g]? =some (.cells c T (0,0))) (hv:W.cell? ⟨g,j,none⟩=some v):W'.cell? ⟨g,j,none⟩=some v:=
 (Rdr.heap_cell h' j).trans ((Rdr.heap_cell h j).symm.trans hv)
def Tie (sz N:Nat) (st0:Pl.St) (i:Nat) (st:Pl.St) (l:List (List Int)):Prop:=
 (∃ c,st=.error c∧(Pl.rowsS sz N st0).2=.error c)∨Pl.rowsS sz N st0=(l ++ (Pl.rowsS sz (N - i) st).1,(Pl.rowsS sz (N - i) st).2)
theorem tie_start (sz N:Nat) (st:Pl.St):Tie sz N st 0 st []:=.inr (by simp)
theorem rows_step (sz k:Nat) (st:Pl.St):Pl.rowsS sz (k + 1) st=((Pl.anysS sz st).1::(Pl.rowsS sz k (Pl.anysS sz st).2).1,(Pl.rowsS sz k (Pl.anysS sz st).2).2):=rfl
theorem tie_err {sz N i:Nat} {st0 st:Pl.St} {l:List (List Int)} {c:Nat} (h:Tie sz N st0 i st l) (hi:i<N) (hc:(Pl.anysS sz st).2=.error c):Tie sz N st0 (i + 1) (.error c) l:=by
 rcases h with ⟨c0,rfl,h⟩|h
 · rw [Pl.anysS_err] at hc
   injection hc with hc
   subst hc
   exact .inl ⟨_,rfl,h⟩
 · refine .inl ⟨c,rfl,?_⟩
   rw [h,show N - i=(N - (i + 1)) + 1 by omega,rows_step,hc,Pl.rowsS_err]
theorem tie_ok {sz N i:Nat} {st0 st:Pl.St} {l:List (List Int)} {t:List UInt8} (h:Tie sz N st0 i st l) (hi:i<N) (hc:(Pl.anysS sz st).2=.ok t):Tie sz N st0 (i + 1) (.ok t) (l ++ [(Pl.anysS sz st).1]):=by
 rcases h with ⟨c0,rfl,h⟩|h
 · rw [Pl.anysS_err] at hc
   cases hc
 · refine .inr ?_
   rw [h,show N - i=(N - (i + 1)) + 1 by omega,rows_step,hc]
   simp
theorem ps_bad {st:Pl.St} {rest:ByteArray} {bad:Int} (h:PS st rest bad) (hb:bad ≠ 0):∃ c,st=.error c:=by
 match st,h with
 | .error c,_=> exact ⟨c,rfl⟩
 | .ok l,h=> exact absurd h.1 hb
theorem ps_good {st:Pl.St} {rest:ByteArray} (h:PS st rest 0):∃ t,st=.ok t:=by
 match st,h with
 | .error c,h=> exact absurd h.1.symm (by have:=h.2;omega)
 | .ok l,_=> exact ⟨l,rfl⟩
def Stage2 (A:List (List Int) × Pl.St) (st:Pl.St) (ps:List (List Int)) (fr:Int):Prop:=st=(Pl.numS 65536 A.2).2∧∀ t,st=.ok t→A=(ps,A.2)∧fr=(Pl.numS 65536 A.2).1
theorem took_slice {W:World} {B n:Nat} {nv:Value} {bad:Int} {xs:List Value} (h:(bad ≠ 0∧nv=.slice none 0 0)∨(bad=0∧W.ownsRow B 3 1 nv n xs)):∃ a m c,nv=.slice a m c:=by
 rcases h with ⟨_,rfl⟩|⟨_,h⟩
 · exact ⟨_,_,_,rfl⟩
 · obtain ⟨a,c,rfl⟩:=ownsRow_slice h
   exact ⟨_,_,_,rfl⟩
theorem back {w W W2:World} {b:Nat} {st:Pl.St} {v1 v3 v4 x0 x1 x2:Value} {ps cs:List (List Int)} {fr:Int} {rs:List (Value × List (List Int))} (h:Fr w b st v1 v3 v4 ps fr rs cs W) (hb:Below W.heap.size W W2) (hr:W.heap[b]? =some (.cells #[x0,x1,x2] 117 (0,0))):
 Fr w b st v1 v3 v4 ps fr rs cs W2∧W2.heap[b]? =some (.cells #[x0,x1,x2] 117 (0,0))∧W2.cell? ⟨b,0,none⟩=some x0∧W2.cell? ⟨b,1,none⟩=some x1∧W2.cell? ⟨b,2,none⟩=some x2∧W2.frozen? ⟨b,0,none⟩=false∧W2.frozen? ⟨b,1,none⟩=false∧W2.frozen? ⟨b,2,none⟩=false:=by
 have h2:=(hb.block _ (Rdr.heap_lt hr)).trans hr
 exact ⟨fr_below h hb,h2,Rdr.heap_cell h2 0,Rdr.heap_cell h2 1,Rdr.heap_cell h2 2,Lib.frozen_of_heap h2 0,Lib.frozen_of_heap h2 1,Lib.frozen_of_heap h2 2⟩
def Sofar {α:Type} (x:α × Pl.St) (st:Pl.St) (l:α):Prop:=st=x.2∧∀ t,st=.ok t→l=x.1
theorem stage2_err {A:List (List Int) × Pl.St} {st:Pl.St} {ps:List (List Int)} {fr:Int} (h:Sofar A st ps) (he:∃ c,(Pl.anysS 1 st).2=.error c):Stage2 A (Pl.anysS 1 st).2 ps fr:=by
 obtain ⟨c,hc⟩:=he
 refine ⟨by rw [← h.1];rfl,fun t ht=> ?_⟩
 rw [hc] at ht
 cases ht
theorem stage2_ok {A:List (List Int) × Pl.St} {st:Pl.St} {ps:List (List Int)} (h:Sofar A st ps):Stage2 A (Pl.anysS 1 st).2 ps (Pl.numS 65536 st).1:=by
 refine ⟨by rw [← h.1];rfl,fun t ht=> ⟨?_,by rw [h.1]⟩⟩
 match st,h with
 | .error c,_=> rw [Pl.anysS_err] at ht;cases ht
 | .ok l,h=> rw [h.2 l rfl]
def Stage3 (A:List (List Int) × Pl.St) (x:Int × Pl.St) (ps:List (List Int)) (fr:Int):Prop:=x=Pl.numS 3 (Pl.numS 65536 A.2).2∧∀ t,x.2=.ok t→A=(ps,A.2)∧fr=(Pl.numS 65536 A.2).1
theorem stage3 {A:List (List Int) × Pl.St} {st:Pl.St} {ps:List (List Int)} {fr:Int} (h:Stage2 A st ps fr):Stage3 A (Pl.numS 3 st) ps fr:=by
 refine ⟨by rw [h.1],fun t ht=> ?_⟩
 match st,h with
 | .error c,_=> rw [Pl.numS_err] at ht;cases ht
 | .ok l,h=> exact h.2 l rfl
def TieW (N:Nat) (st0:Pl.St) (i:Nat) (st:Pl.St) (l:List (List (List Int))):Prop:=
 (∃ c,st=.error c∧(Pl.winsS N st0).2=.error c)∨Pl.winsS N st0=(l ++ (Pl.winsS (N - i) st).1,(Pl.winsS (N - i) st).2)
def L3 (w:World) (b:Nat) (v1:Value) (ps:List (List Int)) (fr:Int) (N:Nat) (st0:Pl.St) (iv:Value) (W:World):Prop:=
 ∃ (i:Nat) (st:Pl.St) (v3:Value) (rs:List (Value × List (List Int))),i≤N∧iv=.int .i64 (i:Int)∧rs.length≤i∧Fr w b st v1 v3 (.slice none 0 0) ps fr rs [] W∧TieW N st0 i st (rs.map (·.2))
def LI (b:Nat) (wo:World) (N:Nat) (st0:Pl.St) (av jv:Value) (W:World):Prop:=
 ∃ (j:Nat) (st:Pl.St) (l:List (List Int)),j≤N∧jv=.int .i64 (j:Int)∧l.length≤j∧RC b st W∧KU b wo.heap.size wo W∧OwnI W wo.heap.size 99 3 av l∧Tie 3 N st0 j st l
theorem ku_set3 {b B:Nat} {W0 W:World} {x0 x1 x2:Value} (h:KU b B W0 W):KU b B W0 (((W.setCell ⟨b,0,none⟩ x0).setCell ⟨b,1,none⟩ x1).setCell ⟨b,2,none⟩ x2):=
 h.trans ⟨rfl,rfl,rfl,by simp [World.setCell],fun k _ h2=> by rw [Rdr.heap_set_ne h2,Rdr.heap_set_ne h2,Rdr.heap_set_ne h2]⟩
theorem own_set3 {W:World} {B b sz:Nat} {T T':TypeId} {v x0 x1 x2:Value} {l:List (List Int)} {c:Array Value} (h:OwnI W B T sz v l) (hh:W.heap[b]? =some (.cells c T' (0,0))) (hT:T ≠ T'):OwnI (((W.setCell ⟨b,0,none⟩ x0).setCell ⟨b,1,none⟩ x1).setCell ⟨b,2,none⟩ x2) B T sz v l:=
 own_stay h (fun k c' hc=> by
  have hne:=ne_of_types hc hh hT
  rw [Rdr.heap_set_ne hne,Rdr.heap_set_ne hne,Rdr.heap_set_ne hne])
theorem tie_end {sz N:Nat} {st0 st:Pl.St} {l:List (List Int)} (h:Tie sz N st0 N st l):Sofar (Pl.rowsS sz N st0) st l:=by
 rcases h with ⟨c,rfl,h⟩|h
 · exact ⟨h.symm,fun t ht=> by cases ht⟩
 · rw [Nat.sub_self] at h
   have h':Pl.rowsS sz N st0=(l,st):=by rw [h];simp [Pl.rowsS]
   rw [h']
   exact ⟨rfl,fun _ _=> rfl⟩
theorem tiew_next {N i K:Nat} {st0 st st5 sr:Pl.St} {L:List (List (List Int))} {l:List (List Int)} (h:TieW N st0 i st L) (hi:i<N) (hq:Pl.numS 8 st=((K:Int),st5)) (hs:Sofar (Pl.rowsS 3 K st5) sr l):TieW N st0 (i + 1) sr (L ++ [l]):=by
 have hstep:∀ k,Pl.winsS (k + 1) st=((Pl.rowsS 3 K st5).1::(Pl.winsS k (Pl.rowsS 3 K st5).2).1,(Pl.winsS k (Pl.rowsS 3 K st5).2).2):=fun k=> by simp only [Pl.winsS,hq,Int.toNat_natCast]
 rcases h with ⟨c0,rfl,h⟩|h
 · rw [Pl.numS_err] at hq
   injection hq with _ hq
   subst hq
   have h1:=hs.1
   rw [Pl.rowsS_err] at h1
   subst h1
   exact .inl ⟨c0,rfl,h⟩
 · rw [show N - i=(N - (i + 1)) + 1 by omega,hstep,← hs.1] at h
   match sr,hs with
   | .error c,hs=>
     refine .inl ⟨c,rfl,?_⟩
     rw [h,Pl.winsS_err]
   | .ok t,hs=>
     refine .inr ?_
     rw [h,← hs.2 t rfl]
     simp
theorem tiew_end {N:Nat} {st0 st:Pl.St} {l:List (List (List Int))} (h:TieW N st0 N st l):Sofar (Pl.winsS N st0) st l:=by
 rcases h with ⟨c,rfl,h⟩|h
 · exact ⟨h.symm,fun t ht=> by cases ht⟩
 · rw [Nat.sub_self] at h
   have h':Pl.winsS N st0=(l,st):=by rw [h];simp [Pl.winsS]
   rw [h']
   exact ⟨rfl,fun _ _=> rfl⟩
def LC (w:World) (b:Nat) (v1 v3:Value) (ps:List (List Int)) (fr:Int) (rs:List (Value × List (List Int))) (N:Nat) (st0:Pl.St) (iv:Value) (W:World):Prop:=
 ∃ (i:Nat) (st:Pl.St) (v4:Value) (cs:List (List Int)),i≤N∧iv=.int .i64 (i:Int)∧cs.length≤i∧Fr w b st v1 v3 v4 ps fr rs cs W∧Tie 5 N st0 i st cs
theorem chain {l:List UInt8} {n m o:Nat} {st2 st4 sw st5 st:Pl.St} {ps cs:List (List Int)} {fr:Int} {L:List (List (List Int))} (h1:Pl.numS 4 (.ok l)=((n:Int),st2)) (h3:Stage3 (Pl.rowsS 4 n st2) ((m:Int),st4) ps fr) (h4:Sofar (Pl.winsS m st4) sw L) (h6:Pl.numS 6 sw=((o:Int),st5)) (h5:Sofar (Pl.rowsS 5 o st5) st cs):
 (∀ c,st=.error c→Pl.parse l=.error c)∧∀ t,st=.ok t→Pl.parse l=if t=[] then .ok ⟨ps,fr,L,cs⟩ else .error 3:=by
 have he:=ends (st:=st) h1 (ps:=(Pl.rowsS 4 n st2).1) (sta:=(Pl.rowsS 4 n st2).2) rfl (fr:=(Pl.numS 65536 (Pl.rowsS 4 n st2).2).1) (st3:=(Pl.numS 65536 (Pl.rowsS 4 n st2).2).2) rfl h3.1.symm (ws:=(Pl.winsS m st4).1) (stb:=sw) (by rw [h4.1]) h6 (cs:=(Pl.rowsS 5 o st5).1) (by rw [h5.1])
 refine ⟨fun c hc=> by rw [he,hc];rfl,fun t ht=> ?_⟩
 have k5:=h5.2 t ht
 match sw,h4,h6 with
 | .error c,_,h6=>
   rw [Pl.numS_err] at h6
   injection h6 with _ h6
   subst h6
   have:=h5.1
   rw [Pl.rowsS_err,ht] at this
   cases this
 | .ok tw,h4,h6=>
   have k4:=h4.2 tw rfl
   match st4,h3,h4 with
   | .error c,_,h4=>
     have:=h4.1
     rw [Pl.winsS_err] at this
     cases this
   | .ok t4,h3,_=>
     obtain ⟨ka,kf⟩:=h3.2 t4 rfl
     rw [he,ht,← k5,← k4,← kf]
     have kp:(Pl.rowsS 4 n st2).1=ps:=by rw [ka]
     rw [kp]
     rfl
theorem resH {W:World} {b:Nat} {tmps:Array Value} {e x0 x1 x2 x3:Value} (hh:W.heap[b]? =some (.cells #[x0,x1,x2,x3] 27 (0,0))) (h2:tmps.getD 2 undef=.pointer (some ⟨b,0,none⟩)) (h3:tmps.getD 3 undef=e):
 (results Tryz.f12 tmps).run Tryz.prog W=.ok (.tuple #[.agg #[x0,x1,x2,x3],e]) W:=by
 have d0:W.cell? ⟨b,0,none⟩=some x0:=Rdr.heap_cell hh 0
 have d1:W.cell? ⟨b,1,none⟩=some x1:=Rdr.heap_cell hh 1
 have d2:W.cell? ⟨b,2,none⟩=some x2:=Rdr.heap_cell hh 2
 have d3:W.cell? ⟨b,3,none⟩=some x3:=Rdr.heap_cell hh 3
 clear hh
 rw [results_cell_tmp Tryz.results12,h2,h3]
 go_simp
theorem set4 {W:World} {b:Nat} {c0 c1 c2 c3 x0 x1 x2 x3:Value} {T:TypeId} (hh:W.heap[b]? =some (.cells #[c0,c1,c2,c3] T (0,0))):((((W.setCell ⟨b,0,none⟩ x0).setCell ⟨b,1,none⟩ x1).setCell ⟨b,2,none⟩ x2).setCell ⟨b,3,none⟩ x3).heap[b]? =some (.cells #[x0,x1,x2,x3] T (0,0)):=
 set_heap (set_heap (set_heap (set_heap hh)))
theorem resT {w W:World} {tmps:Array Value} {e:Value} (h:Res w W) (h2:tmps.getD 2 undef=.pointer (some ⟨w.heap.size,0,none⟩)) (h3:tmps.getD 3 undef=e) (x0 x1 x2 x3:Value):
 (results Tryz.f12 tmps).run Tryz.prog ((((W.setCell ⟨w.heap.size,0,none⟩ x0).setCell ⟨w.heap.size,1,none⟩ x1).setCell ⟨w.heap.size,2,none⟩ x2).setCell ⟨w.heap.size,3,none⟩ x3)=.ok (.tuple #[.agg #[x0,x1,x2,x3],e]) ((((W.setCell ⟨w.heap.size,0,none⟩ x0).setCell ⟨w.heap.size,1,none⟩ x1).setCell ⟨w.heap.size,2,none⟩ x2).setCell ⟨w.heap.size,3,none⟩ x3):=by
 have hh:=set_heap (j:=3) (v:=x3) (set_heap (j:=2) (v:=x2) (set_heap (j:=1) (v:=x1) (set_heap (j:=0) (v:=x0) h)))
 have c0:=Rdr.heap_cell hh 0
 have c1:=Rdr.heap_cell hh 1
 have c2:=Rdr.heap_cell hh 2
 have c3:=Rdr.heap_cell hh 3
 generalize ((((W.setCell ⟨w.heap.size,0,none⟩ x0).setCell ⟨w.heap.size,1,none⟩ x1).setCell ⟨w.heap.size,2,none⟩ x2).setCell ⟨w.heap.size,3,none⟩ x3)=W' at *
 have d0:W'.cell? ⟨w.heap.size,0,none⟩=some x0:=c0
 have d1:W'.cell? ⟨w.heap.size,1,none⟩=some x1:=c1
 have d2:W'.cell? ⟨w.heap.size,2,none⟩=some x2:=c2
 have d3:W'.cell? ⟨w.heap.size,3,none⟩=some x3:=c3
 clear c0 c1 c2 c3 hh
 rw [results_cell_tmp Tryz.results12,h2,h3]
 go_simp
theorem fr_plan {w W:World} {b:Nat} {st:Pl.St} {v1 v3 v4:Value} {ps cs:List (List Int)} {fr:Int} {rs:List (Value × List (List Int))} (h:Fr w b st v1 v3 v4 ps fr rs cs W):PlanAt W (.agg #[v1,.int .i64 fr,v3,v4]) ⟨ps,fr,rs.map (·.2),cs⟩:=
 ⟨v1,v3,v4,rfl,rowsAt_own h.parts.1 h.parts.2 rfl (own_max h.parts.1),winsAt_own h.wins (fun x hx=> by obtain ⟨B,hB⟩:=h.rows x hx;exact rowsAt_own hB.1 hB.2 rfl (own_max hB.1)),rowsAt_own h.chans.1 h.chans.2 rfl (own_max h.chans.1)⟩
theorem fr_plan_set {w W W9:World} {b:Nat} {st:Pl.St} {v1 v3 v4:Value} {ps cs:List (List Int)} {fr:Int} {rs:List (Value × List (List Int))} (h:Fr w b st v1 v3 v4 ps fr rs cs W) (h9:Below W.heap.size W W9) (x0 x1 x2 x3:Value):Tk.PlanC ((((W9.setCell ⟨w.heap.size,0,none⟩ x0).setCell ⟨w.heap.size,1,none⟩ x1).setCell ⟨w.heap.size,2,none⟩ x2).setCell ⟨w.heap.size,3,none⟩ x3) (.agg #[v1,.int .i64 fr,v3,v4]) ⟨ps,fr,rs.map (·.2),cs⟩:=by
 have hst:∀ W',(∀ (k:Nat) (c:Array Value) (T:TypeId),W.heap[k]? =some (.cells c T (0,0))→T ≠ 27→T ≠ 33→W'.heap[k]? =W.heap[k]?)→PlanAt W' (.agg #[v1,.int .i64 fr,v3,v4]) ⟨ps,fr,rs.map (·.2),cs⟩:=fun W' hk=> by
  have k1:=own_stay h.parts (fun k c hc=> hk k c _ hc (by decide) (by decide))
  have k2:=ownsRow_same h.wins (fun g hg=> by obtain ⟨_,_,cur,hc⟩:=ownBlock_lt h.wins hg;exact hk g cur _ hc (by decide) (by decide))
  have k3:=own_stay h.chans (fun k c hc=> hk k c _ hc (by decide) (by decide))
  exact ⟨v1,v3,v4,rfl,rowsAt_own k1.1 k1.2 rfl (own_max k1.1),winsAt_own k2 (fun x hx=> by
   obtain ⟨B,hB⟩:=h.rows x hx
   have k4:=own_stay hB (fun k c hc=> hk k c _ hc (by decide) (by decide))
   exact rowsAt_own k4.1 k4.2 rfl (own_max k4.1)),rowsAt_own k3.1 k3.2 rfl (own_max k3.1)⟩
 refine ⟨fun W' hs'=> hst W' (fun k c T hc hT hT2=> ?_),v1,v3,v4,rfl,Tk.capV_own h.parts.1,Tk.capV_own h.chans.1⟩
 have hne:=ne_of_types hc h.res hT
 have e:((((W9.setCell ⟨w.heap.size,0,none⟩ x0).setCell ⟨w.heap.size,1,none⟩ x1).setCell ⟨w.heap.size,2,none⟩ x2).setCell ⟨w.heap.size,3,none⟩ x3).heap[k]? =W.heap[k]? :=by
  rw [Rdr.heap_set_ne hne,Rdr.heap_set_ne hne,Rdr.heap_set_ne hne,Rdr.heap_set_ne hne,h9.block k (Rdr.heap_lt hc)]
 exact (hs' k c T (e.trans hc) hT hT2).trans e
def L1 (w:World) (b N:Nat) (st0:Pl.St) (iv:Value) (W:World):Prop:=
 ∃ (i:Nat) (st:Pl.St) (v1:Value) (ps:List (List Int)),i≤N∧iv=.int .i64 (i:Int)∧ps.length≤i∧Fr w b st v1 (.slice none 0 0) (.slice none 0 0) ps 0 [] [] W∧Tie 4 N st0 i st ps
theorem Take (s:ByteArray) (w:World) (hs:s.size≤140737488355328):Calls Tryz.prog 12 #[.string s] w (Tk.Took s w):=by
 by_cases hp:s.data.toList.take 2=[84,80]
 · have h2:2≤s.size:=by
    have:=congrArg List.length hp
    rw [List.length_take,Array.length_toList] at this
    simp at this
    omega
   have hq:=Tk.tp_toList s h2
   rw [decide_eq_true hp] at hq
   have h2I:¬ (s.size:Int)<2:=by omega
   have hsz:(s.extract 2 s.size).size≤140737488355328:=by rw [ByteArray.size_extract];omega
   have HSZ:=hU hsz
   clear hsz
   go_enter Tryz.func12,Tryz.ntmps12
   repeat' (first|go_values|go_skip|go_guarded|(with_reducible refine wg ?_)|go_step|go_upon|go_quiet (fail))
   generalize hrest:s.extract 2 s.size=rest at *
   refine (counted 4 none 0 0 rest 0 (.ok rest.data.toList) _ (by omega) ⟨rfl,rfl,HSZ.out⟩).mono ?_
   rintro ev w1 ⟨ra,rn,rc,rr,rbad,rfl,hb1,hps⟩
   have HP:=hU hps
   have hres:w1.heap[w.heap.size]? =some (.cells #[.slice none 0 0,.int .i64 0,.slice none 0 0,.slice none 0 0] 27 (0,0)):=(hb1.block _ (by simp;omega)).trans (Rdr.heap_old (Rdr.heap_new w _))
   have hpln:w1.heap[w.heap.size + 1]? =some (.cells #[.slice none 0 0,.int .i64 0,.slice none 0 0,.slice none 0 0] 27 (0,0)):=(hb1.block _ (by simp)).trans (by
    have:=Rdr.heap_new (w.alloc (.cells #[.slice none 0 0,.int .i64 0,.slice none 0 0,.slice none 0 0] 27)) (.cells #[.slice none 0 0,.int .i64 0,.slice none 0 0,.slice none 0 0] 27)
    rw [Tk.alloc_size1'] at this
    exact this)
   obtain ⟨hc1,hf1,hz1⟩:=bfacts hb1
   simp at hz1
   have y0:w.heap.size + 1<w1.heap.size:=by omega
   have hF0:Fr w w1.heap.size (Pl.numS 4 (.ok rest.data.toList)).2 (.slice none 0 0) (.slice none 0 0) (.slice none 0 0) [] 0 [] [] (w1.alloc (.cells #[.slice ra rn rc,.string rr,.int .i64 rbad] 117)):=⟨⟨ra,rn,rc,rr,rbad,Rdr.heap_new _ _,hps⟩,Rdr.heap_old hres,Rdr.heap_old hpln,bel,own_nil _ _ _ _,World.ownsRow_nil _ _ _ _,(fun x hx=> nomatch hx),own_nil _ _ _ _⟩
   have HF0:=hU hF0
   have hnl:=numS_le 4 (.ok rest.data.toList)
   clear hF0 hps HP hres hpln
   generalize hq1:Pl.numS 4 (.ok rest.data.toList)=q1 at *
   obtain ⟨N,st2⟩:=q1
   have HQ1:=hU hq1
   clear hq1
   dsimp only at *
   obtain ⟨Nn,rfl⟩:=Int.eq_ofNat_of_zero_le hnl.1
   repeat' (first|go_values|go_skip|go_guarded|(with_reducible refine wg ?_)|go_step|go_upon|go_quiet (fail))
   go_loopw [7] (fun iv wr=> L1 w w1.heap.size Nn st2 iv wr) (fun v _=> Nn - (intOf v).toNat)
   case atStart=> exact ⟨0,st2,_,[],Nat.zero_le _,rfl,Nat.le_refl _,HF0.out,tie_start _ _ _⟩
   case round=>
    clear HF0
    obtain ⟨i,st,v1,ps,hi,rfl,hpl,hF,htie⟩:=hrel
    have HF:=hU hF
    have HTIE:=hU htie
    have hzb:=hF.bel.size
    obtain ⟨ra',rn',rc',rest',bad',hrb,hps⟩:=hF.rd
    have hrl:=Rdr.heap_lt hrb
    have e0:wr.cell? ⟨w1.heap.size,0,none⟩=some (.slice ra' rn' rc'):=Rdr.heap_cell hrb 0
    have e1:wr.cell? ⟨w1.heap.size,1,none⟩=some (.string rest'):=Rdr.heap_cell hrb 1
    have e2:wr.cell? ⟨w1.heap.size,2,none⟩=some (.int .i64 bad'):=Rdr.heap_cell hrb 2
    clear hF htie
    by_cases hlt:i<Nn
    · repeat' (first|go_values|go_skip|go_guarded|(with_reducible refine wg ?_)|go_step|go_upon|go_quiet (fail))
      refine (takes 4 _ rest' bad' st _ (by omega) hps ra' rn' rc' rfl).mono ?_
      rintro ev w2 ⟨nv,rest2,bad2,rfl,hb2,hps2,hor⟩
      have HPS2:=hU hps2
      have hF2:=fr_below HF.out hb2
      have hrb2:=(hb2.block _ hrl).trans hrb
      have hz2:=hb2.size
      have f0:w2.cell? ⟨w1.heap.size,0,none⟩=some (.slice ra' rn' rc'):=Rdr.heap_cell hrb2 0
      have f1:w2.cell? ⟨w1.heap.size,1,none⟩=some (.string rest'):=Rdr.heap_cell hrb2 1
      have f2:w2.cell? ⟨w1.heap.size,2,none⟩=some (.int .i64 bad'):=Rdr.heap_cell hrb2 2
      have g0:=Lib.frozen_of_heap hrb2 0
      have g1:=Lib.frozen_of_heap hrb2 1
      have g2:=Lib.frozen_of_heap hrb2 2
      rcases hor with ⟨hbad,rfl⟩|⟨rfl,hown⟩
      · obtain ⟨c,hc⟩:∃ c,(Pl.anysS 4 st).2=.error c:=by
         match hst:(Pl.anysS 4 st).2,hps2 with
         | .error c,_=> exact ⟨c,rfl⟩
         | .ok l,h=> exact absurd h.1 hbad
        have HN:=hU (fr_set (a:=none) (n:=0) (c:=0) hF2 (by omega) hps2)
        have HT:=hU (tie_err HTIE.out hlt hc)
        rw [hc] at HN
        have hbI:(bad2==0)=false:=by simpa using hbad
        clear hF2 hps2 hc HPS2
        dsimp only
        repeat' (first|go_values|go_skip|go_guarded|(with_reducible refine wg ?_)|go_step|go_upon|go_quiet (fail))
        exact ⟨⟨i + 1,_,v1,ps,by omega,by go_num,by omega,HN.out,HT.out⟩,by simp [intOf];omega⟩
      · obtain ⟨t,hc⟩:∃ t,(Pl.anysS 4 st).2=.ok t:=by
         match hst:(Pl.anysS 4 st).2,hps2 with
         | .error c,h=> exact absurd h.1.symm (by have:=h.2;omega)
         | .ok l,_=> exact ⟨l,rfl⟩
        obtain ⟨x0,x1,x2,x3,hx⟩:∃ x0 x1 x2 x3,(Pl.anysS 4 st).1=[x0,x1,x2,x3]:=⟨_,_,_,_,rfl⟩
        rw [hx] at hown
        obtain ⟨g,cap,rfl,hg0,hgl,hcell⟩:=own_cells hown rfl (by omega)
        have hF3:=fr_set (a:=some ⟨g,0,none⟩) (n:=4) (c:=cap) hF2 (by omega) hps2
        have HT:=hU (tie_ok HTIE.out hlt hc)
        rw [hc] at hF3
        rw [hx] at HT
        have n0:w2.cell? ⟨g,0,none⟩=some (.int .i64 x0):=hcell 0 (by omega)
        have n1:w2.cell? ⟨g,1,none⟩=some (.int .i64 x1):=hcell 1 (by omega)
        have n2:w2.cell? ⟨g,2,none⟩=some (.int .i64 x2):=hcell 2 (by omega)
        have n3:w2.cell? ⟨g,3,none⟩=some (.int .i64 x3):=hcell 3 (by omega)
        have hne:g ≠ w1.heap.size:=by omega
        obtain ⟨_,_,cur,hgc⟩:=ownBlock_lt hown (g:=g) rfl
        have hgc3:=far3h (x0:=.slice (some ⟨g,0,none⟩) 4 cap) (x1:=.string rest2) (x2:=.int .i64 0) hgc hne
        have hrc3:=set3 (x0:=.slice (some ⟨g,0,none⟩) 4 cap) (x1:=.string rest2) (x2:=.int .i64 0) hrb2
        have HF3:=hU hF3
        have k0:=far3 (b:=w1.heap.size) (a:=(.slice (some ⟨g,0,none⟩) 4 cap)) (b':=(.string rest2)) (c:=(.int .i64 0)) n0 hne
        have k1:=far3 (b:=w1.heap.size) (a:=(.slice (some ⟨g,0,none⟩) 4 cap)) (b':=(.string rest2)) (c:=(.int .i64 0)) n1 hne
        have k2:=far3 (b:=w1.heap.size) (a:=(.slice (some ⟨g,0,none⟩) 4 cap)) (b':=(.string rest2)) (c:=(.int .i64 0)) n2 hne
        have k3:=far3 (b:=w1.heap.size) (a:=(.slice (some ⟨g,0,none⟩) 4 cap)) (b':=(.string rest2)) (c:=(.int .i64 0)) n3 hne
        have r0:=Rdr.heap_cell (set3 (x0:=.slice (some ⟨g,0,none⟩) 4 cap) (x1:=.string rest2) (x2:=.int .i64 0) hrb2) 0
        have hgz:g<((((w2.setCell ⟨w1.heap.size,0,none⟩ (.slice (some ⟨g,0,none⟩) 4 cap)).setCell ⟨w1.heap.size,1,none⟩ (.string rest2)).setCell ⟨w1.heap.size,2,none⟩ (.int .i64 0))).heap.size:=by simp [World.setCell];omega
        clear hcell hown hF2 hF3 hc hx hps2 HPS2 HTIE
        dsimp only
        repeat' (first|go_values|go_skip|go_guarded|(with_reducible refine wg ?_)|go_step|go_upon|go_quiet (fail))
        generalize hW3:(((w2.setCell ⟨w1.heap.size,0,none⟩ (.slice (some ⟨g,0,none⟩) 4 cap)).setCell ⟨w1.heap.size,1,none⟩ (.string rest2)).setCell ⟨w1.heap.size,2,none⟩ (.int .i64 0))=W3 at *
        clear n0 n1 n2 n3 f0 f1 f2 g0 g1 g2 e0 e1 e2 hrb2 hrb hb2 hz2 hW3
        have hp0:W3.cell? ⟨w.heap.size + 1,0,none⟩=some v1:=Rdr.heap_cell HF3.out.pln 0
        have hpf:W3.frozen? ⟨w.heap.size + 1,0,none⟩=false:=Lib.frozen_of_heap HF3.out.pln 0
        have hr0:W3.cell? ⟨w1.heap.size,0,none⟩=some (.slice (some ⟨g,0,none⟩) 4 cap):=r0
        have hps3:=HF3.out.parts
        obtain ⟨va,vc,rfl⟩:=ownsRow_slice hps3.1
        have hz3:=HF3.out.bel.size
        obtain ⟨g',cap',W',hrun,ho',hg',hgg,hgl'⟩:=append_cells (P:=Tryz.prog) (t:=23) (ty:=23) Tryz.underlying23 infoPart rfl (by decide) (W:=W3.drew) (x:=#[.int .i64 x0,.int .i64 x1,.int .i64 x2,.int .i64 x3]) (show W3.drew.ownsRow w.heap.size 96 4 _ ps.length _ from hps3.1) (by intro u hu;simp at hu;rcases hu with rfl|rfl|rfl|rfl <;> rfl) rfl (by omega) (by omega) (show w.heap.size≤W3.heap.size from hz3)
        have HRUN:Hid ((Builtin.append_ #[23,23] 23 #[.slice va ps.length vc,.slice (some ⟨W3.heap.size,0,none⟩) 1 1]).run Tryz.prog ((W3.alloc (.cells #[.int .i64 x0,.int .i64 x1,.int .i64 x2,.int .i64 x3] 96)).drew)=.ok (.slice (some ⟨g',0,none⟩) (ps.length + 1) cap') W'):=hU hrun
        have hl3:w.heap.size + 1<W3.heap.size:=Rdr.heap_lt HF3.out.pln
        have hpl':=staysT HF3.out.pln hps3.1 hg' (by decide)
        have hp1:W'.cell? ⟨w.heap.size + 1,0,none⟩=some (.slice va ps.length vc):=Rdr.heap_cell hpl' 0
        have hp1f:W'.frozen? ⟨w.heap.size + 1,0,none⟩=false:=Lib.frozen_of_heap hpl' 0
        have hgc':=staysT hgc3 hps3.1 hg' (by decide)
        have hrc':=staysT hrc3 hps3.1 hg' (by decide)
        have hw1z:=Rdr.heap_lt hrc3
        have HN:=hU (fr_part (r:=[x0,x1,x2,x3]) HF3.out (undrew hg') rfl ho')
        clear hrun
        have hS0:(fun W=> W.cell? ⟨w.heap.size + 1,0,none⟩=some (.slice va ps.length vc)∧W.cell? ⟨w1.heap.size,0,none⟩=some (.slice (some ⟨g,0,none⟩) 4 cap)∧W.cell? ⟨g,0,none⟩=some (.int .i64 x0)∧W.cell? ⟨g,1,none⟩=some (.int .i64 x1)∧W.cell? ⟨g,2,none⟩=some (.int .i64 x2)∧W.cell? ⟨g,3,none⟩=some (.int .i64 x3)) W3.drew:=⟨hp0,hr0,k0,k1,k2,k3⟩
        have hS1:(fun W=> W.cell? ⟨w.heap.size + 1,0,none⟩=some (.slice va ps.length vc)∧W.cell? ⟨w1.heap.size,0,none⟩=some (.slice (some ⟨g,0,none⟩) 4 cap)∧W.cell? ⟨g,0,none⟩=some (.int .i64 x0)∧W.cell? ⟨g,1,none⟩=some (.int .i64 x1)∧W.cell? ⟨g,2,none⟩=some (.int .i64 x2)∧W.cell? ⟨g,3,none⟩=some (.int .i64 x3)) ((W3.alloc (.cells #[.int .i64 x0,.int .i64 x1,.int .i64 x2,.int .i64 x3] 96)).drew):=⟨by go_simp,by go_simp,by go_simp,by go_simp,by go_simp,by go_simp⟩
        have hS2:(fun W=> W.cell? ⟨w.heap.size + 1,0,none⟩=some (.slice va ps.length vc)∧W.cell? ⟨w1.heap.size,0,none⟩=some (.slice (some ⟨g,0,none⟩) 4 cap)∧W.cell? ⟨g,0,none⟩=some (.int .i64 x0)∧W.cell? ⟨g,1,none⟩=some (.int .i64 x1)∧W.cell? ⟨g,2,none⟩=some (.int .i64 x2)∧W.cell? ⟨g,3,none⟩=some (.int .i64 x3)) W':=⟨hp1,keeps_cell hrc3 hrc' hr0,keeps_cell hgc3 hgc' k0,keeps_cell hgc3 hgc' k1,keeps_cell hgc3 hgc' k2,keeps_cell hgc3 hgc' k3⟩
        refine wp_region_noPanic ?_
        refine RegLast.startL (st:=23) (S:=fun W=> W.cell? ⟨w.heap.size + 1,0,none⟩=some (.slice va ps.length vc)∧W.cell? ⟨w1.heap.size,0,none⟩=some (.slice (some ⟨g,0,none⟩) 4 cap)∧W.cell? ⟨g,0,none⟩=some (.int .i64 x0)∧W.cell? ⟨g,1,none⟩=some (.int .i64 x1)∧W.cell? ⟨g,2,none⟩=some (.int .i64 x2)∧W.cell? ⟨g,3,none⟩=some (.int .i64 x3)) (by kernel_rfl) ?_
        (refine RegLast.takeL (i:=0) (v:=?_) rfl rfl (by kernel_rfl) (by kernel_rfl) (by kernel_rfl) (by kernel_rfl) (fun _ _ _ h=> h) (Or.inl ⟨by rfl,?_⟩) (by assumption) ?_;rotate_left; · (intro w hSw;(try dsimp only at hSw);go_simp;try with_reducible rfl));(try simp only [Act.put,List.setIfInBounds_toArray,List.set_cons_zero,List.set_cons_succ])
        (refine RegLast.takeL (i:=1) (v:=?_) rfl rfl (by kernel_rfl) (by kernel_rfl) (by kernel_rfl) (by kernel_rfl) (fun _ _ _ h=> h) (Or.inl ⟨by rfl,?_⟩) (by assumption) ?_;rotate_left; · (intro w hSw;(try dsimp only at hSw);go_simp;try with_reducible rfl));(try simp only [Act.put,List.setIfInBounds_toArray,List.set_cons_zero,List.set_cons_succ])
        (refine RegLast.takeL (i:=2) (v:=?_) rfl rfl (by kernel_rfl) (by kernel_rfl) (by kernel_rfl) (by kernel_rfl) (fun _ _ _ h=> h) (Or.inl ⟨by rfl,?_⟩) (by assumption) ?_;rotate_left; · (intro w hSw;(try dsimp only at hSw);go_simp;try with_reducible rfl));(try simp only [Act.put,List.setIfInBounds_toArray,List.set_cons_zero,List.set_cons_succ])
        (refine RegLast.takeL (i:=3) (v:=?_) rfl rfl (by kernel_rfl) (by kernel_rfl) (by kernel_rfl) (by kernel_rfl) (fun _ _ _ h=> h) (Or.inl ⟨by rfl,?_⟩) (by assumption) ?_;rotate_left; · (intro w hSw;(try dsimp only at hSw);go_simp;try with_reducible rfl));(try simp only [Act.put,List.setIfInBounds_toArray,List.set_cons_zero,List.set_cons_succ])
        (refine RegLast.takeL (i:=4) (v:=?_) rfl rfl (by kernel_rfl) (by kernel_rfl) (by kernel_rfl) (by kernel_rfl) (fun _ _ _ h=> h) (Or.inl ⟨by rfl,?_⟩) (by assumption) ?_;rotate_left; · (intro w hSw;(try dsimp only at hSw);go_simp;try with_reducible rfl));(try simp only [Act.put,List.setIfInBounds_toArray,List.set_cons_zero,List.set_cons_succ])
        (refine RegLast.takeL (i:=5) (v:=?_) rfl rfl (by kernel_rfl) (by kernel_rfl) (by kernel_rfl) (by kernel_rfl) (fun _ _ _ h=> h) (Or.inl ⟨by rfl,?_⟩) (by assumption) ?_;rotate_left; · (intro w hSw;(try dsimp only at hSw);go_simp;try with_reducible rfl));(try simp only [Act.put,List.setIfInBounds_toArray,List.set_cons_zero,List.set_cons_succ])
        (refine RegLast.takeL (i:=6) (v:=?_) rfl rfl (by kernel_rfl) (by kernel_rfl) (by kernel_rfl) (by kernel_rfl) (fun _ _ _ h=> h) (Or.inl ⟨by rfl,?_⟩) (by assumption) ?_;rotate_left; · (intro w hSw;(try dsimp only at hSw);go_simp;try with_reducible rfl));(try simp only [Act.put,List.setIfInBounds_toArray,List.set_cons_zero,List.set_cons_succ])
        (refine RegLast.takeL (i:=7) (v:=?_) rfl rfl (by kernel_rfl) (by kernel_rfl) (by kernel_rfl) (by kernel_rfl) (fun _ _ _ h=> h) (Or.inl ⟨by rfl,?_⟩) (by assumption) ?_;rotate_left; · (intro w hSw;(try dsimp only at hSw);go_simp;try with_reducible rfl));(try simp only [Act.put,List.setIfInBounds_toArray,List.set_cons_zero,List.set_cons_succ])
        (refine RegLast.takeL (i:=8) (v:=?_) rfl rfl (by kernel_rfl) (by kernel_rfl) (by kernel_rfl) (by kernel_rfl) (fun _ _ _ h=> h) (Or.inl ⟨by rfl,?_⟩) (by assumption) ?_;rotate_left; · (intro w hSw;(try dsimp only at hSw);go_simp;try with_reducible rfl));(try simp only [Act.put,List.setIfInBounds_toArray,List.set_cons_zero,List.set_cons_succ])
        (refine RegLast.takeL (i:=9) (v:=?_) rfl rfl (by kernel_rfl) (by kernel_rfl) (by kernel_rfl) (by kernel_rfl) (fun _ _ _ h=> h) (Or.inl ⟨by rfl,?_⟩) (by assumption) ?_;rotate_left; · (intro w hSw;(try dsimp only at hSw);go_simp;try with_reducible rfl));(try simp only [Act.put,List.setIfInBounds_toArray,List.set_cons_zero,List.set_cons_succ])
        (refine RegLast.takeL (i:=10) (v:=?_) rfl rfl (by kernel_rfl) (by kernel_rfl) (by kernel_rfl) (by kernel_rfl) (fun _ _ _ h=> h) (Or.inl ⟨by rfl,?_⟩) (by assumption) ?_;rotate_left; · (intro w hSw;(try dsimp only at hSw);go_simp;try with_reducible rfl));(try simp only [Act.put,List.setIfInBounds_toArray,List.set_cons_zero,List.set_cons_succ])
        (refine RegLast.takeL (i:=11) (v:=?_) rfl rfl (by kernel_rfl) (by kernel_rfl) (by kernel_rfl) (by kernel_rfl) (fun _ _ _ h=> h) (Or.inl ⟨by rfl,?_⟩) (by assumption) ?_;rotate_left; · (intro w hSw;(try dsimp only at hSw);go_simp;try with_reducible rfl));(try simp only [Act.put,List.setIfInBounds_toArray,List.set_cons_zero,List.set_cons_succ])
        (refine RegLast.takeL (i:=12) (v:=?_) rfl rfl (by kernel_rfl) (by kernel_rfl) (by kernel_rfl) (by kernel_rfl) (fun _ _ _ h=> h) (Or.inl ⟨by rfl,?_⟩) (by assumption) ?_;rotate_left; · (intro w hSw;(try dsimp only at hSw);go_simp;try with_reducible rfl));(try simp only [Act.put,List.setIfInBounds_toArray,List.set_cons_zero,List.set_cons_succ])
        (refine RegLast.takeL (i:=13) (v:=?_) rfl rfl (by kernel_rfl) (by kernel_rfl) (by kernel_rfl) (by kernel_rfl) (fun _ _ _ h=> h) (Or.inl ⟨by rfl,?_⟩) (by assumption) ?_;rotate_left; · (intro w hSw;(try dsimp only at hSw);go_simp;try with_reducible rfl));(try simp only [Act.put,List.setIfInBounds_toArray,List.set_cons_zero,List.set_cons_succ])
        (refine RegLast.takeL (i:=14) (v:=?_) rfl rfl (by kernel_rfl) (by kernel_rfl) (by kernel_rfl) (by kernel_rfl) (fun _ _ _ h=> h) (Or.inl ⟨by rfl,?_⟩) (by assumption) ?_;rotate_left; · (intro w hSw;(try dsimp only at hSw);go_simp;try with_reducible rfl));(try simp only [Act.put,List.setIfInBounds_toArray,List.set_cons_zero,List.set_cons_succ])
        (refine RegLast.takeL (i:=15) (v:=?_) rfl rfl (by kernel_rfl) (by kernel_rfl) (by kernel_rfl) (by kernel_rfl) (fun _ _ _ h=> h) (Or.inl ⟨by rfl,?_⟩) (by assumption) ?_;rotate_left; · (intro w hSw;(try dsimp only at hSw);go_simp;try with_reducible rfl));(try simp only [Act.put,List.setIfInBounds_toArray,List.set_cons_zero,List.set_cons_succ])
        (refine RegLast.takeL (i:=16) (v:=?_) rfl rfl (by kernel_rfl) (by kernel_rfl) (by kernel_rfl) (by kernel_rfl) (fun _ _ _ h=> h) (Or.inl ⟨by rfl,?_⟩) (by assumption) ?_;rotate_left; · (intro w hSw;(try dsimp only at hSw);go_simp;try with_reducible rfl));(try simp only [Act.put,List.setIfInBounds_toArray,List.set_cons_zero,List.set_cons_succ])
        (refine RegLast.takeL (i:=17) (v:=?_) rfl rfl (by kernel_rfl) (by kernel_rfl) (by kernel_rfl) (by kernel_rfl) (fun _ _ _ h=> h) (Or.inl ⟨by rfl,?_⟩) (by assumption) ?_;rotate_left; · (intro w hSw;(try dsimp only at hSw);go_simp;try with_reducible rfl));(try simp only [Act.put,List.setIfInBounds_toArray,List.set_cons_zero,List.set_cons_succ])
        (refine RegLast.takeL (i:=18) (v:=?_) rfl rfl (by kernel_rfl) (by kernel_rfl) (by kernel_rfl) (by kernel_rfl) (fun _ _ _ h=> h) (Or.inl ⟨by rfl,?_⟩) (by assumption) ?_;rotate_left; · (intro w hSw;(try dsimp only at hSw);go_simp;try with_reducible rfl));(try simp only [Act.put,List.setIfInBounds_toArray,List.set_cons_zero,List.set_cons_succ])
        (refine RegLast.takeL (i:=19) (v:=?_) rfl rfl (by kernel_rfl) (by kernel_rfl) (by kernel_rfl) (by kernel_rfl) (fun _ _ _ h=> h) (Or.inl ⟨by rfl,?_⟩) (by assumption) ?_;rotate_left; · (intro w hSw;(try dsimp only at hSw);go_simp;try with_reducible rfl));(try simp only [Act.put,List.setIfInBounds_toArray,List.set_cons_zero,List.set_cons_succ])
        (refine RegLast.oneL (i:=20) (by kernel_rfl) rfl (fun K hK=> ?_))
        go_simp
        refine hK.out _ _ (fun _=> hS1) ?_
        clear hK K
        (refine RegLast.oneL (i:=21) (by kernel_rfl) rfl (fun K hK=> ?_))
        refine step_append_run rfl _ _ _ _ rfl _ _ rfl rfl _ _ HRUN.out ?_
        refine hK.out _ _ (fun _=> hS2) ?_
        clear hK K
        (refine RegLast.takeL (i:=22) (v:=?_) rfl rfl (by kernel_rfl) (by kernel_rfl) (by kernel_rfl) (by kernel_rfl) (fun _ _ _ h=> h) (Or.inl ⟨by rfl,?_⟩) (by assumption) ?_;rotate_left; · (intro w hSw;(try dsimp only at hSw);go_simp;try with_reducible rfl));(try simp only [Act.put,List.setIfInBounds_toArray,List.set_cons_zero,List.set_cons_succ])
        (refine RegLast.oneL (i:=23) (by kernel_rfl) rfl (fun K hK=> ?_))
        go_simp
        refine hK.out _ _ (fun h=> absurd rfl h) ?_
        clear hK K
        refine RegLast.doneL (by kernel_rfl) (NoPanic.normal ?_) _
        repeat' (first|go_values|go_skip|go_guarded|(with_reducible refine wg ?_)|go_step|go_upon|go_quiet (fail))
        exact ⟨⟨i + 1,_,_,ps ++ [[x0,x1,x2,x3]],by omega,by go_num,by simp;omega,HN.out,HT.out⟩,by simp [intOf];omega⟩
    · obtain rfl:i=Nn:=by omega
      have HS1:=hU (tie_end HTIE.out)
      clear HTIE hlt hi
      go_upto_if 71 with (go_at_call 36;refine (takes 1 _ rest' bad' st _ (by omega) hps ra' rn' rc' rfl).mono ?_;rintro ev w2 ⟨nv,rest2,bad2,rfl,hb2,hps2,hor⟩;obtain ⟨na,nn,nc,rfl⟩:=took_slice hor;obtain ⟨hF2,hrb2,f0,f1,f2,g0,g1,g2⟩:=back HF.out hb2 hrb)
      have HH2:=hU hrb2
      have HF2:=hU hF2
      have HPS2:=hU hps2
      have HOR:=hU hor
      clear hF2 hps2 hor
      go_cut [] from 17 (fun wc=> ∃ st3 fr,Fr w w1.heap.size st3 v1 (.slice none 0 0) (.slice none 0 0) ps fr [] [] wc∧Stage2 (Pl.rowsS 4 i st2) st3 ps fr)
      case first=>
       rcases HOR.out with ⟨hbad,hnv⟩|⟨rfl,hown⟩
       · cases hnv
         have hbI:(bad2==0)=false:=by simpa using hbad
         have HN:=hU (fr_set (a:=none) (n:=0) (c:=0) HF2.out (by omega) HPS2.out)
         repeat' (first|go_values|go_skip|go_guarded|(with_reducible refine wg ?_)|go_step|go_upon|go_quiet (fail))
         go_meet
         case rel=> exact ⟨_,_,HN.out,stage2_err HS1.out (by have:=HPS2.out;exact ps_bad this hbad)⟩
       · obtain ⟨g,cap,heq,hg0,hgl,hcell⟩:=own_cells hown rfl (by omega)
         cases heq
         have n0:w2.cell? ⟨g,0,none⟩=some (.int .i64 (Pl.numS 65536 st).1):=hcell 0 (by omega)
         have hne:g ≠ w1.heap.size:=by omega
         have HF3:=hU (fr_set (a:=some ⟨g,0,none⟩) (n:=1) (c:=nc) HF2.out (by omega) HPS2.out)
         have k0:=far3 (b:=w1.heap.size) (a:=(.slice (some ⟨g,0,none⟩) 1 nc)) (b':=(.string rest2)) (c:=(.int .i64 0)) n0 hne
         have r0:=Rdr.heap_cell (set3 (x0:=.slice (some ⟨g,0,none⟩) 1 nc) (x1:=.string rest2) (x2:=.int .i64 0) HH2.out) 0
         have HS2:=hU (stage2_ok HS1.out)
         generalize (Pl.numS 65536 st).1=x at *
         generalize hW3:(((w2.setCell ⟨w1.heap.size,0,none⟩ (.slice (some ⟨g,0,none⟩) 1 nc)).setCell ⟨w1.heap.size,1,none⟩ (.string rest2)).setCell ⟨w1.heap.size,2,none⟩ (.int .i64 0))=W3 at *
         clear n0 f0 f1 f2 g0 g1 g2 hcell hown hW3
         have hr0:W3.cell? ⟨w1.heap.size,0,none⟩=some (.slice (some ⟨g,0,none⟩) 1 nc):=r0
         have hp1:W3.cell? ⟨w.heap.size + 1,1,none⟩=some (.int .i64 0):=Rdr.heap_cell HF3.out.pln 1
         have hpf:W3.frozen? ⟨w.heap.size + 1,1,none⟩=false:=Lib.frozen_of_heap HF3.out.pln 1
         have HN:=hU (fr_frame (fr':=x) HF3.out)
         repeat' (first|go_values|go_skip|go_guarded|(with_reducible refine wg ?_)|go_step|go_upon|go_quiet (fail))
         go_meet
         case rel=> exact ⟨_,_,HN.out,HS2.out⟩
      case rest=>
       obtain ⟨st3,fr,hF3,hS2⟩:=hcut
       have HS2:=hU hS2
       have HF3:=hU hF3
       clear hS2 HH2 HF2 HPS2 HOR HF HS1 f0 f1 f2 g0 g1 g2 hrb2 hb2 hps hrb e0 e1 e2 hrl
       obtain ⟨ra3,rn3,rc3,rr3,bad3,hr3,hps3⟩:=hF3.rd
       have hz3:=hF3.bel.size
       have hl3:=Rdr.heap_lt hr3
       have e0:wc.cell? ⟨w1.heap.size,0,none⟩=some (.slice ra3 rn3 rc3):=Rdr.heap_cell hr3 0
       have e1:wc.cell? ⟨w1.heap.size,1,none⟩=some (.string rr3):=Rdr.heap_cell hr3 1
       have e2:wc.cell? ⟨w1.heap.size,2,none⟩=some (.int .i64 bad3):=Rdr.heap_cell hr3 2
       clear hF3
       repeat' (first|go_values|go_skip|go_guarded|(with_reducible refine wg ?_)|go_step|go_upon|go_quiet (fail))
       refine (counted 3 ra3 rn3 rc3 rr3 bad3 st3 _ (by omega) hps3).mono ?_
       rintro ev w4 ⟨a4,n4,c4,r4,b4,rfl,hb4,hps4⟩
       obtain ⟨hF4,hr4,f0,f1,f2,g0,g1,g2⟩:=back HF3.out hb4 hr3
       have HF4:=hU (fr_set (a:=a4) (n:=n4) (c:=c4) hF4 (by omega) hps4)
       have hnl3:=numS_le 3 st3
       have HS3:=hU (stage3 HS2.out)
       clear hF4 hps4 HF3 hb4 hr3 hps3 HS2
       generalize hq3:Pl.numS 3 st3=q3 at *
       obtain ⟨M,st4⟩:=q3
       clear hq3
       dsimp only at *
       obtain ⟨Mn,rfl⟩:=Int.eq_ofNat_of_zero_le hnl3.1
       repeat' (first|go_values|go_skip|go_guarded|(with_reducible refine wg ?_)|go_step|go_upon|go_quiet (fail))
       go_loopw [9] (fun iv wr=> L3 w w1.heap.size v1 ps fr Mn st4 iv wr) (fun v _=> Mn - (intOf v).toNat)
       case atStart=> exact ⟨0,st4,_,[],Nat.zero_le _,rfl,Nat.le_refl _,HF4.out,.inr (by simp)⟩
       case round=>
        clear HF4 f0 f1 f2 g0 g1 g2 e0 e1 e2 hr4
        obtain ⟨i3,st,v3,rs,hi3,rfl,hrl3,hF,htie⟩:=hrel
        have HF:=hU hF
        have HTIE:=hU htie
        have hzb:=hF.bel.size
        obtain ⟨ra',rn',rc',rest',bad',hrb,hps⟩:=hF.rd
        have hrl:=Rdr.heap_lt hrb
        have e0:wr.cell? ⟨w1.heap.size,0,none⟩=some (.slice ra' rn' rc'):=Rdr.heap_cell hrb 0
        have e1:wr.cell? ⟨w1.heap.size,1,none⟩=some (.string rest'):=Rdr.heap_cell hrb 1
        have e2:wr.cell? ⟨w1.heap.size,2,none⟩=some (.int .i64 bad'):=Rdr.heap_cell hrb 2
        clear hF htie
        by_cases hlt:i3<Mn
        · repeat' (first|go_values|go_skip|go_guarded|(with_reducible refine wg ?_)|go_step|go_upon|go_quiet (fail))
          refine (counted 8 ra' rn' rc' rest' bad' st _ (by omega) hps).mono ?_
          rintro ev w5 ⟨a5,n5,c5,r5,b5,rfl,hb5,hps5⟩
          obtain ⟨hF5,hr5,f0,f1,f2,g0,g1,g2⟩:=back HF.out hb5 hrb
          have hl5:=Rdr.heap_lt hr5
          dsimp only
          repeat' (first|go_values|go_skip|go_guarded|(with_reducible refine wg ?_)|go_step|go_upon|go_quiet (fail))
          have HF6:=hU (fr_below (fr_set (a:=a5) (n:=n5) (c:=c5) hF5 (by omega) hps5) ((Below.refl _ _).alloc (Nat.le_refl _) (.cells #[.slice a5 n5 c5,.string r5,.int .i64 b5] 117)))
          have hnl5:=numS_le 8 st
          have HQ5:Hid ((Pl.numS 8 st)=(Pl.numS 8 st)):=hU rfl
          clear hF5 hps5 e0 e1 e2 f0 f1 f2 g0 g1 g2 hr5 hb5 hrb hps HF
          generalize hq5:Pl.numS 8 st=q5 at *
          obtain ⟨K,st5⟩:=q5
          have HQ:=hU hq5
          clear hq5 HQ5
          dsimp only at *
          obtain ⟨Kn,rfl⟩:=Int.eq_ofNat_of_zero_le hnl5.1
          generalize hwo:((((w5.setCell ⟨w1.heap.size,0,none⟩ (.slice a5 n5 c5)).setCell ⟨w1.heap.size,1,none⟩ (.string r5)).setCell ⟨w1.heap.size,2,none⟩ (.int .i64 b5)).alloc (.cells #[.slice a5 n5 c5,.string r5,.int .i64 b5] 117))=wo at *
          have hzo:=HF6.out.bel.size
          go_loopw [12,13] (fun av jv wq=> LI w1.heap.size wo Kn st5 av jv wq) (fun _ jv _=> Kn - (intOf jv).toNat)
          case atStart=> exact ⟨0,st5,[],Nat.zero_le _,rfl,Nat.le_refl _,HF6.out.rd,KU.refl _ _ _,own_nil _ _ _ _,tie_start _ _ _⟩
          case round=>
           obtain ⟨j,sr,l,hj,rfl,hll,hrd,hku,hown,htj⟩:=hrel
           have HKU:=hU hku
           have HOW:=hU hown
           have HTJ:=hU htj
           have hzk:=hku.size
           obtain ⟨va,vc,rfl⟩:=ownsRow_slice hown.1
           obtain ⟨ra',rn',rc',rest',bad',hrb,hps⟩:=hrd
           have hrl:=Rdr.heap_lt hrb
           have hbo:w1.heap.size<wo.heap.size:=by obtain ⟨_,_,_,_,_,h,_⟩:=HF6.out.rd;exact Rdr.heap_lt h
           have e0:wr.cell? ⟨w1.heap.size,0,none⟩=some (.slice ra' rn' rc'):=Rdr.heap_cell hrb 0
           have e1:wr.cell? ⟨w1.heap.size,1,none⟩=some (.string rest'):=Rdr.heap_cell hrb 1
           have e2:wr.cell? ⟨w1.heap.size,2,none⟩=some (.int .i64 bad'):=Rdr.heap_cell hrb 2
           clear hku hown htj
           by_cases hjt:j<Kn
           · repeat' (first|go_values|go_skip|go_guarded|(with_reducible refine wg ?_)|go_step|go_upon|go_quiet (fail))
             refine (takes 3 _ rest' bad' sr _ (by omega) hps ra' rn' rc' rfl).mono ?_
             rintro ev w6 ⟨nv,rest2,bad2,rfl,hb6,hps2,hor⟩
             have hr6:=(hb6.block _ hrl).trans hrb
             have hz6:=hb6.size
             have f0:w6.cell? ⟨w1.heap.size,0,none⟩=some (.slice ra' rn' rc'):=Rdr.heap_cell hr6 0
             have f1:w6.cell? ⟨w1.heap.size,1,none⟩=some (.string rest'):=Rdr.heap_cell hr6 1
             have f2:w6.cell? ⟨w1.heap.size,2,none⟩=some (.int .i64 bad'):=Rdr.heap_cell hr6 2
             have g0:=Lib.frozen_of_heap hr6 0
             have g1:=Lib.frozen_of_heap hr6 1
             have g2:=Lib.frozen_of_heap hr6 2
             have HK6:=hU (HKU.out.trans (KU.of (Rdr.Kept.of hb6) hzk))
             have HO6:=hU (own_stay HOW.out (fun k c hc=> hb6.block k (Rdr.heap_lt hc)))
             rcases hor with ⟨hbad,rfl⟩|⟨rfl,hown⟩
             · obtain ⟨c,hc⟩:=ps_bad hps2 hbad
               rw [hc] at hps2
               have hbI:(bad2==0)=false:=by simpa using hbad
               have HN:Hid (LI w1.heap.size wo Kn st5 (.slice va l.length vc) (.int .i64 ((j:Int) + 1)) (((w6.setCell ⟨w1.heap.size,0,none⟩ (.slice none 0 0)).setCell ⟨w1.heap.size,1,none⟩ (.string rest2)).setCell ⟨w1.heap.size,2,none⟩ (.int .i64 bad2))):=
                hU ⟨j + 1,.error c,l,by omega,by go_num,by omega,⟨_,_,_,_,_,set3 hr6,hps2⟩,ku_set3 HK6.out,own_set3 HO6.out hr6 (by decide),tie_err HTJ.out hjt hc⟩
               clear hps2 hc
               dsimp only
               repeat' (first|go_values|go_skip|go_guarded|(with_reducible refine wg ?_)|go_step|go_upon|go_quiet (fail))
               exact ⟨HN.out,by simp [intOf];omega⟩
             · obtain ⟨t,hc⟩:=ps_good hps2
               obtain ⟨x0,x1,x2,hx⟩:∃ x0 x1 x2,(Pl.anysS 3 sr).1=[x0,x1,x2]:=⟨_,_,_,rfl⟩
               rw [hx] at hown
               rw [hc] at hps2
               obtain ⟨g,cap,rfl,hg0,hgl,hcell⟩:=own_cells hown rfl (by omega)
               have n0:w6.cell? ⟨g,0,none⟩=some (.int .i64 x0):=hcell 0 (by omega)
               have n1:w6.cell? ⟨g,1,none⟩=some (.int .i64 x1):=hcell 1 (by omega)
               have n2:w6.cell? ⟨g,2,none⟩=some (.int .i64 x2):=hcell 2 (by omega)
               have hne:g ≠ w1.heap.size:=by omega
               obtain ⟨_,_,cur,hgc⟩:=ownBlock_lt hown (g:=g) rfl
               have hgc3:=far3h (b:=w1.heap.size) (x0:=.slice (some ⟨g,0,none⟩) 3 cap) (x1:=.string rest2) (x2:=.int .i64 0) hgc hne
               have hrc3:=set3 (x0:=.slice (some ⟨g,0,none⟩) 3 cap) (x1:=.string rest2) (x2:=.int .i64 0) hr6
               have k0:=far3 (b:=w1.heap.size) (a:=(.slice (some ⟨g,0,none⟩) 3 cap)) (b':=(.string rest2)) (c:=(.int .i64 0)) n0 hne
               have k1:=far3 (b:=w1.heap.size) (a:=(.slice (some ⟨g,0,none⟩) 3 cap)) (b':=(.string rest2)) (c:=(.int .i64 0)) n1 hne
               have k2:=far3 (b:=w1.heap.size) (a:=(.slice (some ⟨g,0,none⟩) 3 cap)) (b':=(.string rest2)) (c:=(.int .i64 0)) n2 hne
               have HK3:=hU (ku_set3 (x0:=.slice (some ⟨g,0,none⟩) 3 cap) (x1:=.string rest2) (x2:=.int .i64 0) HK6.out)
               have HO3:=hU (own_set3 (x0:=.slice (some ⟨g,0,none⟩) 3 cap) (x1:=.string rest2) (x2:=.int .i64 0) HO6.out hr6 (by decide))
               have HT:=hU (tie_ok HTJ.out hjt hc)
               rw [hx] at HT
               clear hcell hown hc hx HTJ HO6 HK6
               dsimp only
               repeat' (first|go_values|go_skip|go_guarded|(with_reducible refine wg ?_)|go_step|go_upon|go_quiet (fail))
               generalize hW3:(((w6.setCell ⟨w1.heap.size,0,none⟩ (.slice (some ⟨g,0,none⟩) 3 cap)).setCell ⟨w1.heap.size,1,none⟩ (.string rest2)).setCell ⟨w1.heap.size,2,none⟩ (.int .i64 0))=W3 at *
               clear n0 n1 n2 f0 f1 f2 g0 g1 g2 e0 e1 e2 hr6 hrb hb6 hz6 hgc hgl hW3
               have hr0:W3.cell? ⟨w1.heap.size,0,none⟩=some (.slice (some ⟨g,0,none⟩) 3 cap):=Rdr.heap_cell hrc3 0
               have hz3':=HK3.out.size
               obtain ⟨g',cap',W',hrun,ho',hg',hgg,hgl'⟩:=append_cells (P:=Tryz.prog) (t:=97) (ty:=97) Tryz.underlying97 infoWin rfl (by decide) (W:=W3.drew) (x:=#[.int .i64 x0,.int .i64 x1,.int .i64 x2]) (show W3.drew.ownsRow wo.heap.size 99 3 _ l.length _ from HO3.out.1) (by intro u hu;simp at hu;rcases hu with rfl|rfl|rfl <;> rfl) rfl (by omega) (by omega) (show wo.heap.size≤W3.heap.size from hz3')
               have HRUN:Hid ((Builtin.append_ #[97,97] 97 #[.slice va l.length vc,.slice (some ⟨W3.heap.size,0,none⟩) 1 1]).run Tryz.prog ((W3.alloc (.cells #[.int .i64 x0,.int .i64 x1,.int .i64 x2] 99)).drew)=.ok (.slice (some ⟨g',0,none⟩) (l.length + 1) cap') W'):=hU hrun
               have hgc':=staysT hgc3 HO3.out.1 hg' (by decide)
               have hrc':=staysT hrc3 HO3.out.1 hg' (by decide)
               have hw1z:=Rdr.heap_lt hrc3
               have hgz:=Rdr.heap_lt hgc3
               have HN:Hid (LI w1.heap.size wo Kn st5 (.slice (some ⟨g',0,none⟩) (l.length + 1) cap') (.int .i64 ((j:Int) + 1)) W'):=
                hU ⟨j + 1,_,l ++ [[x0,x1,x2]],by omega,by go_num,by simp;omega,⟨_,_,_,_,_,hrc',hps2⟩,KU.grow HK3.out HO3.out.1 (undrew hg') hz3',own_app HO3.out rfl ho',HT.out⟩
               clear hrun
               have hS0:(fun W=> W.cell? ⟨w1.heap.size,0,none⟩=some (.slice (some ⟨g,0,none⟩) 3 cap)∧W.cell? ⟨g,0,none⟩=some (.int .i64 x0)∧W.cell? ⟨g,1,none⟩=some (.int .i64 x1)∧W.cell? ⟨g,2,none⟩=some (.int .i64 x2)) W3.drew:=⟨hr0,k0,k1,k2⟩
               have hS1:(fun W=> W.cell? ⟨w1.heap.size,0,none⟩=some (.slice (some ⟨g,0,none⟩) 3 cap)∧W.cell? ⟨g,0,none⟩=some (.int .i64 x0)∧W.cell? ⟨g,1,none⟩=some (.int .i64 x1)∧W.cell? ⟨g,2,none⟩=some (.int .i64 x2)) ((W3.alloc (.cells #[.int .i64 x0,.int .i64 x1,.int .i64 x2] 99)).drew):=⟨by go_simp,by go_simp,by go_simp,by go_simp⟩
               have hS2:(fun W=> W.cell? ⟨w1.heap.size,0,none⟩=some (.slice (some ⟨g,0,none⟩) 3 cap)∧W.cell? ⟨g,0,none⟩=some (.int .i64 x0)∧W.cell? ⟨g,1,none⟩=some (.int .i64 x1)∧W.cell? ⟨g,2,none⟩=some (.int .i64 x2)) W':=⟨keeps_cell hrc3 hrc' hr0,keeps_cell hgc3 hgc' k0,keeps_cell hgc3 hgc' k1,keeps_cell hgc3 hgc' k2⟩
               refine wp_region_noPanic ?_
               refine RegLast.startL (st:=16) (S:=fun W=> W.cell? ⟨w1.heap.size,0,none⟩=some (.slice (some ⟨g,0,none⟩) 3 cap)∧W.cell? ⟨g,0,none⟩=some (.int .i64 x0)∧W.cell? ⟨g,1,none⟩=some (.int .i64 x1)∧W.cell? ⟨g,2,none⟩=some (.int .i64 x2)) (by kernel_rfl) ?_
               (refine RegLast.takeL (i:=0) (v:=?_) rfl rfl (by kernel_rfl) (by kernel_rfl) (by kernel_rfl) (by kernel_rfl) (fun _ _ _ h=> h) (Or.inl ⟨by rfl,?_⟩) (by assumption) ?_;rotate_left; · (intro w hSw;(try dsimp only at hSw);go_simp;try with_reducible rfl));(try simp only [Act.put,List.setIfInBounds_toArray,List.set_cons_zero,List.set_cons_succ])
               (refine RegLast.takeL (i:=1) (v:=?_) rfl rfl (by kernel_rfl) (by kernel_rfl) (by kernel_rfl) (by kernel_rfl) (fun _ _ _ h=> h) (Or.inl ⟨by rfl,?_⟩) (by assumption) ?_;rotate_left; · (intro w hSw;(try dsimp only at hSw);go_simp;try with_reducible rfl));(try simp only [Act.put,List.setIfInBounds_toArray,List.set_cons_zero,List.set_cons_succ])
               (refine RegLast.takeL (i:=2) (v:=?_) rfl rfl (by kernel_rfl) (by kernel_rfl) (by kernel_rfl) (by kernel_rfl) (fun _ _ _ h=> h) (Or.inl ⟨by rfl,?_⟩) (by assumption) ?_;rotate_left; · (intro w hSw;(try dsimp only at hSw);go_simp;try with_reducible rfl));(try simp only [Act.put,List.setIfInBounds_toArray,List.set_cons_zero,List.set_cons_succ])
               (refine RegLast.takeL (i:=3) (v:=?_) rfl rfl (by kernel_rfl) (by kernel_rfl) (by kernel_rfl) (by kernel_rfl) (fun _ _ _ h=> h) (Or.inl ⟨by rfl,?_⟩) (by assumption) ?_;rotate_left; · (intro w hSw;(try dsimp only at hSw);go_simp;try with_reducible rfl));(try simp only [Act.put,List.setIfInBounds_toArray,List.set_cons_zero,List.set_cons_succ])
               (refine RegLast.takeL (i:=4) (v:=?_) rfl rfl (by kernel_rfl) (by kernel_rfl) (by kernel_rfl) (by kernel_rfl) (fun _ _ _ h=> h) (Or.inl ⟨by rfl,?_⟩) (by assumption) ?_;rotate_left; · (intro w hSw;(try dsimp only at hSw);go_simp;try with_reducible rfl));(try simp only [Act.put,List.setIfInBounds_toArray,List.set_cons_zero,List.set_cons_succ])
               (refine RegLast.takeL (i:=5) (v:=?_) rfl rfl (by kernel_rfl) (by kernel_rfl) (by kernel_rfl) (by kernel_rfl) (fun _ _ _ h=> h) (Or.inl ⟨by rfl,?_⟩) (by assumption) ?_;rotate_left; · (intro w hSw;(try dsimp only at hSw);go_simp;try with_reducible rfl));(try simp only [Act.put,List.setIfInBounds_toArray,List.set_cons_zero,List.set_cons_succ])
               (refine RegLast.takeL (i:=6) (v:=?_) rfl rfl (by kernel_rfl) (by kernel_rfl) (by kernel_rfl) (by kernel_rfl) (fun _ _ _ h=> h) (Or.inl ⟨by rfl,?_⟩) (by assumption) ?_;rotate_left; · (intro w hSw;(try dsimp only at hSw);go_simp;try with_reducible rfl));(try simp only [Act.put,List.setIfInBounds_toArray,List.set_cons_zero,List.set_cons_succ])
               (refine RegLast.takeL (i:=7) (v:=?_) rfl rfl (by kernel_rfl) (by kernel_rfl) (by kernel_rfl) (by kernel_rfl) (fun _ _ _ h=> h) (Or.inl ⟨by rfl,?_⟩) (by assumption) ?_;rotate_left; · (intro w hSw;(try dsimp only at hSw);go_simp;try with_reducible rfl));(try simp only [Act.put,List.setIfInBounds_toArray,List.set_cons_zero,List.set_cons_succ])
               (refine RegLast.takeL (i:=8) (v:=?_) rfl rfl (by kernel_rfl) (by kernel_rfl) (by kernel_rfl) (by kernel_rfl) (fun _ _ _ h=> h) (Or.inl ⟨by rfl,?_⟩) (by assumption) ?_;rotate_left; · (intro w hSw;(try dsimp only at hSw);go_simp;try with_reducible rfl));(try simp only [Act.put,List.setIfInBounds_toArray,List.set_cons_zero,List.set_cons_succ])
               (refine RegLast.takeL (i:=9) (v:=?_) rfl rfl (by kernel_rfl) (by kernel_rfl) (by kernel_rfl) (by kernel_rfl) (fun _ _ _ h=> h) (Or.inl ⟨by rfl,?_⟩) (by assumption) ?_;rotate_left; · (intro w hSw;(try dsimp only at hSw);go_simp;try with_reducible rfl));(try simp only [Act.put,List.setIfInBounds_toArray,List.set_cons_zero,List.set_cons_succ])
               (refine RegLast.takeL (i:=10) (v:=?_) rfl rfl (by kernel_rfl) (by kernel_rfl) (by kernel_rfl) (by kernel_rfl) (fun _ _ _ h=> h) (Or.inl ⟨by rfl,?_⟩) (by assumption) ?_;rotate_left; · (intro w hSw;(try dsimp only at hSw);go_simp;try with_reducible rfl));(try simp only [Act.put,List.setIfInBounds_toArray,List.set_cons_zero,List.set_cons_succ])
               (refine RegLast.takeL (i:=11) (v:=?_) rfl rfl (by kernel_rfl) (by kernel_rfl) (by kernel_rfl) (by kernel_rfl) (fun _ _ _ h=> h) (Or.inl ⟨by rfl,?_⟩) (by assumption) ?_;rotate_left; · (intro w hSw;(try dsimp only at hSw);go_simp;try with_reducible rfl));(try simp only [Act.put,List.setIfInBounds_toArray,List.set_cons_zero,List.set_cons_succ])
               (refine RegLast.takeL (i:=12) (v:=?_) rfl rfl (by kernel_rfl) (by kernel_rfl) (by kernel_rfl) (by kernel_rfl) (fun _ _ _ h=> h) (Or.inl ⟨by rfl,?_⟩) (by assumption) ?_;rotate_left; · (intro w hSw;(try dsimp only at hSw);go_simp;try with_reducible rfl));(try simp only [Act.put,List.setIfInBounds_toArray,List.set_cons_zero,List.set_cons_succ])
               (refine RegLast.takeL (i:=13) (v:=?_) rfl rfl (by kernel_rfl) (by kernel_rfl) (by kernel_rfl) (by kernel_rfl) (fun _ _ _ h=> h) (Or.inl ⟨by rfl,?_⟩) (by assumption) ?_;rotate_left; · (intro w hSw;(try dsimp only at hSw);go_simp;try with_reducible rfl));(try simp only [Act.put,List.setIfInBounds_toArray,List.set_cons_zero,List.set_cons_succ])
               (refine RegLast.oneL (i:=14) (by kernel_rfl) rfl (fun K hK=> ?_))
               go_simp
               refine hK.out _ _ (fun _=> hS1) ?_
               clear hK K
               (refine RegLast.oneL (i:=15) (by kernel_rfl) rfl (fun K hK=> ?_))
               refine step_append_run rfl _ _ _ _ rfl _ _ rfl rfl _ _ HRUN.out ?_
               refine hK.out _ _ (fun _=> hS2) ?_
               clear hK K
               (refine RegLast.oneL (i:=16) (by kernel_rfl) rfl (fun K hK=> ?_))
               go_simp
               refine hK.out _ _ (fun h=> absurd rfl h) ?_
               clear hK K
               refine RegLast.doneL (by kernel_rfl) (NoPanic.normal ?_) _
               repeat' (first|go_values|go_skip|go_guarded|(with_reducible refine wg ?_)|go_step|go_upon|go_quiet (fail))
               exact ⟨HN.out,by simp [intOf];omega⟩
           · obtain rfl:j=Kn:=by omega
             have HF:=hU (fr_keep HF6.out (HF6.out.bel.trans ⟨HKU.out.os,HKU.out.tape,HKU.out.output,HKU.out.size,fun k hk=> HKU.out.block k (by omega) (by omega)⟩) ⟨ra',rn',rc',rest',bad',hrb,hps⟩ (fun k c T hc hT=> HKU.out.block k (Rdr.heap_lt hc) (by
              obtain ⟨_,_,_,_,_,hb,_⟩:=HF6.out.rd
              exact ne_of_types hc hb hT)))
             obtain ⟨xa,xc,rfl⟩:=ownsRow_slice HF.out.wins
             have hrs:=hrl3
             obtain ⟨g',cap',W',hrun,ho',hg',hgg,hgl'⟩:=append_one (P:=Tryz.prog) (t:=24) (ty:=24) Tryz.underlying24 infoWins rfl (W:=wr) (x:=.slice va l.length vc) HF.out.wins rfl (by omega) (by omega) (by have:=HF.out.bel.size;omega)
             have HRUN:=hU hrun
             have hp0:wr.cell? ⟨w.heap.size + 1,2,none⟩=some (.slice xa rs.length xc):=Rdr.heap_cell HF.out.pln 2
             have hp':=(fr_grow (x:=.slice xa rs.length xc) (j:=2) HF.out HF.out.wins hg').2.1 _ _ _ HF.out.pln (by decide)
             have hp2:=hp'.trans HF.out.pln
             have hpc:W'.cell? ⟨w.heap.size + 1,2,none⟩=some (.slice xa rs.length xc):=Rdr.heap_cell hp2 2
             have hpf:W'.frozen? ⟨w.heap.size + 1,2,none⟩=false:=Lib.frozen_of_heap hp2 2
             have HN:=hU (fr_win HF.out hg' HOW.out ho')
             have HT:=hU (tiew_next HTIE.out hlt HQ.out (tie_end HTJ.out))
             clear hrun hp' hp2 ho' hg'
             repeat' (first|(at_builtin;refine wpList_append_run _ rfl _ _ _ _ rfl _ _ rfl rfl _ _ HRUN.out ?_)|go_values|go_skip|go_guarded|(with_reducible refine wg ?_)|go_step|go_upon)
             exact ⟨⟨i3 + 1,_,_,rs ++ [(_,l)],by omega,by go_num,by simp;omega,HN.out,by simpa using HT.out⟩,by simp [intOf];omega⟩
        · obtain rfl:i3=Mn:=by omega
          have HS4:=hU (tiew_end HTIE.out)
          have HFW:=HF
          clear HTIE hlt hi3 HF
          repeat' (first|go_values|go_skip|go_guarded|(with_reducible refine wg ?_)|go_step|go_upon|go_quiet (fail))
          refine (counted 6 ra' rn' rc' rest' bad' st _ (by omega) hps).mono ?_
          rintro ev w5 ⟨a5,n5,c5,r5,b5,rfl,hb5,hps5⟩
          obtain ⟨hF5,hr5,f0,f1,f2,g0,g1,g2⟩:=back HFW.out hb5 hrb
          have HF5:=hU (fr_set (a:=a5) (n:=n5) (c:=c5) hF5 (by omega) hps5)
          have hnl6:=numS_le 6 st
          clear hF5 hps5 HFW hb5 hrb hps
          generalize hq6:Pl.numS 6 st=q6 at *
          obtain ⟨On,st5⟩:=q6
          have HQ6:=hU hq6
          clear hq6
          dsimp only at *
          obtain ⟨On,rfl⟩:=Int.eq_ofNat_of_zero_le hnl6.1
          repeat' (first|go_values|go_skip|go_guarded|(with_reducible refine wg ?_)|go_step|go_upon|go_quiet (fail))
          go_loopw [15] (fun iv wr=> LC w w1.heap.size v1 v3 ps fr rs On st5 iv wr) (fun v _=> On - (intOf v).toNat)
          case atStart=> exact ⟨0,st5,_,[],Nat.zero_le _,rfl,Nat.le_refl _,HF5.out,tie_start _ _ _⟩
          case round=>
           clear HF5 f0 f1 f2 g0 g1 g2 e0 e1 e2 hr5
           obtain ⟨i,st,v4,cs,hi,rfl,hpl,hF,htie⟩:=hrel
           have HF:=hU hF
           have HTIE:=hU htie
           have hzb:=hF.bel.size
           obtain ⟨ra',rn',rc',rest',bad',hrb,hps⟩:=hF.rd
           have hrl:=Rdr.heap_lt hrb
           have e0:wr.cell? ⟨w1.heap.size,0,none⟩=some (.slice ra' rn' rc'):=Rdr.heap_cell hrb 0
           have e1:wr.cell? ⟨w1.heap.size,1,none⟩=some (.string rest'):=Rdr.heap_cell hrb 1
           have e2:wr.cell? ⟨w1.heap.size,2,none⟩=some (.int .i64 bad'):=Rdr.heap_cell hrb 2
           clear hF htie
           by_cases hlt:i<On
           · repeat' (first|go_values|go_skip|go_guarded|(with_reducible refine wg ?_)|go_step|go_upon|go_quiet (fail))
             refine (takes 5 _ rest' bad' st _ (by omega) hps ra' rn' rc' rfl).mono ?_
             rintro ev w2 ⟨nv,rest2,bad2,rfl,hb2,hps2,hor⟩
             have HPS2:=hU hps2
             have hF2:=fr_below HF.out hb2
             have hrb2:=(hb2.block _ hrl).trans hrb
             have hz2:=hb2.size
             have f0:w2.cell? ⟨w1.heap.size,0,none⟩=some (.slice ra' rn' rc'):=Rdr.heap_cell hrb2 0
             have f1:w2.cell? ⟨w1.heap.size,1,none⟩=some (.string rest'):=Rdr.heap_cell hrb2 1
             have f2:w2.cell? ⟨w1.heap.size,2,none⟩=some (.int .i64 bad'):=Rdr.heap_cell hrb2 2
             have g0:=Lib.frozen_of_heap hrb2 0
             have g1:=Lib.frozen_of_heap hrb2 1
             have g2:=Lib.frozen_of_heap hrb2 2
             rcases hor with ⟨hbad,rfl⟩|⟨rfl,hown⟩
             · obtain ⟨c,hc⟩:∃ c,(Pl.anysS 5 st).2=.error c:=by
                match hst:(Pl.anysS 5 st).2,hps2 with
                | .error c,_=> exact ⟨c,rfl⟩
                | .ok l,h=> exact absurd h.1 hbad
               have HN:=hU (fr_set (a:=none) (n:=0) (c:=0) hF2 (by omega) hps2)
               have HT:=hU (tie_err HTIE.out hlt hc)
               rw [hc] at HN
               have hbI:(bad2==0)=false:=by simpa using hbad
               clear hF2 hps2 hc HPS2
               dsimp only
               repeat' (first|go_values|go_skip|go_guarded|(with_reducible refine wg ?_)|go_step|go_upon|go_quiet (fail))
               exact ⟨⟨i + 1,_,v4,cs,by omega,by go_num,by omega,HN.out,HT.out⟩,by simp [intOf];omega⟩
             · obtain ⟨t,hc⟩:∃ t,(Pl.anysS 5 st).2=.ok t:=by
                match hst:(Pl.anysS 5 st).2,hps2 with
                | .error c,h=> exact absurd h.1.symm (by have:=h.2;omega)
                | .ok l,_=> exact ⟨l,rfl⟩
               obtain ⟨x0,x1,x2,x3,x4,hx⟩:∃ x0 x1 x2 x3 x4,(Pl.anysS 5 st).1=[x0,x1,x2,x3,x4]:=⟨_,_,_,_,_,rfl⟩
               rw [hx] at hown
               obtain ⟨g,cap,rfl,hg0,hgl,hcell⟩:=own_cells hown rfl (by omega)
               have hF3:=fr_set (a:=some ⟨g,0,none⟩) (n:=5) (c:=cap) hF2 (by omega) hps2
               have HT:=hU (tie_ok HTIE.out hlt hc)
               rw [hc] at hF3
               rw [hx] at HT
               have n0:w2.cell? ⟨g,0,none⟩=some (.int .i64 x0):=hcell 0 (by omega)
               have n1:w2.cell? ⟨g,1,none⟩=some (.int .i64 x1):=hcell 1 (by omega)
               have n2:w2.cell? ⟨g,2,none⟩=some (.int .i64 x2):=hcell 2 (by omega)
               have n3:w2.cell? ⟨g,3,none⟩=some (.int .i64 x3):=hcell 3 (by omega)
               have n4:w2.cell? ⟨g,4,none⟩=some (.int .i64 x4):=hcell 4 (by omega)
               have hne:g ≠ w1.heap.size:=by omega
               obtain ⟨_,_,cur,hgc⟩:=ownBlock_lt hown (g:=g) rfl
               have hgc3:=far3h (x0:=.slice (some ⟨g,0,none⟩) 5 cap) (x1:=.string rest2) (x2:=.int .i64 0) hgc hne
               have hrc3:=set3 (x0:=.slice (some ⟨g,0,none⟩) 5 cap) (x1:=.string rest2) (x2:=.int .i64 0) hrb2
               have HF3:=hU hF3
               have k0:=far3 (b:=w1.heap.size) (a:=(.slice (some ⟨g,0,none⟩) 5 cap)) (b':=(.string rest2)) (c:=(.int .i64 0)) n0 hne
               have k1:=far3 (b:=w1.heap.size) (a:=(.slice (some ⟨g,0,none⟩) 5 cap)) (b':=(.string rest2)) (c:=(.int .i64 0)) n1 hne
               have k2:=far3 (b:=w1.heap.size) (a:=(.slice (some ⟨g,0,none⟩) 5 cap)) (b':=(.string rest2)) (c:=(.int .i64 0)) n2 hne
               have k3:=far3 (b:=w1.heap.size) (a:=(.slice (some ⟨g,0,none⟩) 5 cap)) (b':=(.string rest2)) (c:=(.int .i64 0)) n3 hne
               have k4:=far3 (b:=w1.heap.size) (a:=(.slice (some ⟨g,0,none⟩) 5 cap)) (b':=(.string rest2)) (c:=(.int .i64 0)) n4 hne
               have r0:=Rdr.heap_cell (set3 (x0:=.slice (some ⟨g,0,none⟩) 5 cap) (x1:=.string rest2) (x2:=.int .i64 0) hrb2) 0
               have hgz:g<((((w2.setCell ⟨w1.heap.size,0,none⟩ (.slice (some ⟨g,0,none⟩) 5 cap)).setCell ⟨w1.heap.size,1,none⟩ (.string rest2)).setCell ⟨w1.heap.size,2,none⟩ (.int .i64 0))).heap.size:=by simp [World.setCell];omega
               clear hcell hown hF2 hF3 hc hx hps2 HPS2 HTIE
               dsimp only
               repeat' (first|go_values|go_skip|go_guarded|(with_reducible refine wg ?_)|go_step|go_upon|go_quiet (fail))
               generalize hW3:(((w2.setCell ⟨w1.heap.size,0,none⟩ (.slice (some ⟨g,0,none⟩) 5 cap)).setCell ⟨w1.heap.size,1,none⟩ (.string rest2)).setCell ⟨w1.heap.size,2,none⟩ (.int .i64 0))=W3 at *
               clear n0 n1 n2 n3 n4 f0 f1 f2 g0 g1 g2 e0 e1 e2 hrb2 hrb hb2 hz2 hW3
               have hp0:W3.cell? ⟨w.heap.size + 1,3,none⟩=some v4:=Rdr.heap_cell HF3.out.pln 3
               have hpf:W3.frozen? ⟨w.heap.size + 1,3,none⟩=false:=Lib.frozen_of_heap HF3.out.pln 3
               have hr0:W3.cell? ⟨w1.heap.size,0,none⟩=some (.slice (some ⟨g,0,none⟩) 5 cap):=r0
               have hps3:=HF3.out.chans
               obtain ⟨va,vc,rfl⟩:=ownsRow_slice hps3.1
               have hz3:=HF3.out.bel.size
               obtain ⟨g',cap',W',hrun,ho',hg',hgg,hgl'⟩:=append_cells (P:=Tryz.prog) (t:=25) (ty:=25) Tryz.underlying25 infoChan rfl (by decide) (W:=W3.drew) (x:=#[.int .i64 x0,.int .i64 x1,.int .i64 x2,.int .i64 x3,.int .i64 x4]) (show W3.drew.ownsRow w.heap.size 101 5 _ cs.length _ from hps3.1) (by intro u hu;simp at hu;rcases hu with rfl|rfl|rfl|rfl|rfl <;> rfl) rfl (by omega) (by omega) (show w.heap.size≤W3.heap.size from hz3)
               have HRUN:Hid ((Builtin.append_ #[25,25] 25 #[.slice va cs.length vc,.slice (some ⟨W3.heap.size,0,none⟩) 1 1]).run Tryz.prog ((W3.alloc (.cells #[.int .i64 x0,.int .i64 x1,.int .i64 x2,.int .i64 x3,.int .i64 x4] 101)).drew)=.ok (.slice (some ⟨g',0,none⟩) (cs.length + 1) cap') W'):=hU hrun
               have hl3:w.heap.size + 1<W3.heap.size:=Rdr.heap_lt HF3.out.pln
               have hpl':=staysT HF3.out.pln hps3.1 hg' (by decide)
               have hp1:W'.cell? ⟨w.heap.size + 1,3,none⟩=some (.slice va cs.length vc):=Rdr.heap_cell hpl' 3
               have hp1f:W'.frozen? ⟨w.heap.size + 1,3,none⟩=false:=Lib.frozen_of_heap hpl' 3
               have hgc':=staysT hgc3 hps3.1 hg' (by decide)
               have hrc':=staysT hrc3 hps3.1 hg' (by decide)
               have hw1z:=Rdr.heap_lt hrc3
               have HN:=hU (fr_chan (r:=[x0,x1,x2,x3,x4]) HF3.out (undrew hg') rfl ho')
               clear hrun
               have hS0:(fun W=> W.cell? ⟨w.heap.size + 1,3,none⟩=some (.slice va cs.length vc)∧W.cell? ⟨w1.heap.size,0,none⟩=some (.slice (some ⟨g,0,none⟩) 5 cap)∧W.cell? ⟨g,0,none⟩=some (.int .i64 x0)∧W.cell? ⟨g,1,none⟩=some (.int .i64 x1)∧W.cell? ⟨g,2,none⟩=some (.int .i64 x2)∧W.cell? ⟨g,3,none⟩=some (.int .i64 x3)∧W.cell? ⟨g,4,none⟩=some (.int .i64 x4)) W3.drew:=⟨hp0,hr0,k0,k1,k2,k3,k4⟩
               have hS1:(fun W=> W.cell? ⟨w.heap.size + 1,3,none⟩=some (.slice va cs.length vc)∧W.cell? ⟨w1.heap.size,0,none⟩=some (.slice (some ⟨g,0,none⟩) 5 cap)∧W.cell? ⟨g,0,none⟩=some (.int .i64 x0)∧W.cell? ⟨g,1,none⟩=some (.int .i64 x1)∧W.cell? ⟨g,2,none⟩=some (.int .i64 x2)∧W.cell? ⟨g,3,none⟩=some (.int .i64 x3)∧W.cell? ⟨g,4,none⟩=some (.int .i64 x4)) ((W3.alloc (.cells #[.int .i64 x0,.int .i64 x1,.int .i64 x2,.int .i64 x3,.int .i64 x4] 101)).drew):=⟨by go_simp,by go_simp,by go_simp,by go_simp,by go_simp,by go_simp,by go_simp⟩
               have hS2:(fun W=> W.cell? ⟨w.heap.size + 1,3,none⟩=some (.slice va cs.length vc)∧W.cell? ⟨w1.heap.size,0,none⟩=some (.slice (some ⟨g,0,none⟩) 5 cap)∧W.cell? ⟨g,0,none⟩=some (.int .i64 x0)∧W.cell? ⟨g,1,none⟩=some (.int .i64 x1)∧W.cell? ⟨g,2,none⟩=some (.int .i64 x2)∧W.cell? ⟨g,3,none⟩=some (.int .i64 x3)∧W.cell? ⟨g,4,none⟩=some (.int .i64 x4)) W':=⟨hp1,keeps_cell hrc3 hrc' hr0,keeps_cell hgc3 hgc' k0,keeps_cell hgc3 hgc' k1,keeps_cell hgc3 hgc' k2,keeps_cell hgc3 hgc' k3,keeps_cell hgc3 hgc' k4⟩
               refine wp_region_noPanic ?_
               refine RegLast.startL (st:=26) (S:=fun W=> W.cell? ⟨w.heap.size + 1,3,none⟩=some (.slice va cs.length vc)∧W.cell? ⟨w1.heap.size,0,none⟩=some (.slice (some ⟨g,0,none⟩) 5 cap)∧W.cell? ⟨g,0,none⟩=some (.int .i64 x0)∧W.cell? ⟨g,1,none⟩=some (.int .i64 x1)∧W.cell? ⟨g,2,none⟩=some (.int .i64 x2)∧W.cell? ⟨g,3,none⟩=some (.int .i64 x3)∧W.cell? ⟨g,4,none⟩=some (.int .i64 x4)) (by kernel_rfl) ?_
               (refine RegLast.takeL (i:=0) (v:=?_) rfl rfl (by kernel_rfl) (by kernel_rfl) (by kernel_rfl) (by kernel_rfl) (fun _ _ _ h=> h) (Or.inl ⟨by rfl,?_⟩) (by assumption) ?_;rotate_left; · (intro w hSw;(try dsimp only at hSw);go_simp;try with_reducible rfl));(try simp only [Act.put,List.setIfInBounds_toArray,List.set_cons_zero,List.set_cons_succ])
               (refine RegLast.takeL (i:=1) (v:=?_) rfl rfl (by kernel_rfl) (by kernel_rfl) (by kernel_rfl) (by kernel_rfl) (fun _ _ _ h=> h) (Or.inl ⟨by rfl,?_⟩) (by assumption) ?_;rotate_left; · (intro w hSw;(try dsimp only at hSw);go_simp;try with_reducible rfl));(try simp only [Act.put,List.setIfInBounds_toArray,List.set_cons_zero,List.set_cons_succ])
               (refine RegLast.takeL (i:=2) (v:=?_) rfl rfl (by kernel_rfl) (by kernel_rfl) (by kernel_rfl) (by kernel_rfl) (fun _ _ _ h=> h) (Or.inl ⟨by rfl,?_⟩) (by assumption) ?_;rotate_left; · (intro w hSw;(try dsimp only at hSw);go_simp;try with_reducible rfl));(try simp only [Act.put,List.setIfInBounds_toArray,List.set_cons_zero,List.set_cons_succ])
               (refine RegLast.takeL (i:=3) (v:=?_) rfl rfl (by kernel_rfl) (by kernel_rfl) (by kernel_rfl) (by kernel_rfl) (fun _ _ _ h=> h) (Or.inl ⟨by rfl,?_⟩) (by assumption) ?_;rotate_left; · (intro w hSw;(try dsimp only at hSw);go_simp;try with_reducible rfl));(try simp only [Act.put,List.setIfInBounds_toArray,List.set_cons_zero,List.set_cons_succ])
               (refine RegLast.takeL (i:=4) (v:=?_) rfl rfl (by kernel_rfl) (by kernel_rfl) (by kernel_rfl) (by kernel_rfl) (fun _ _ _ h=> h) (Or.inl ⟨by rfl,?_⟩) (by assumption) ?_;rotate_left; · (intro w hSw;(try dsimp only at hSw);go_simp;try with_reducible rfl));(try simp only [Act.put,List.setIfInBounds_toArray,List.set_cons_zero,List.set_cons_succ])
               (refine RegLast.takeL (i:=5) (v:=?_) rfl rfl (by kernel_rfl) (by kernel_rfl) (by kernel_rfl) (by kernel_rfl) (fun _ _ _ h=> h) (Or.inl ⟨by rfl,?_⟩) (by assumption) ?_;rotate_left; · (intro w hSw;(try dsimp only at hSw);go_simp;try with_reducible rfl));(try simp only [Act.put,List.setIfInBounds_toArray,List.set_cons_zero,List.set_cons_succ])
               (refine RegLast.takeL (i:=6) (v:=?_) rfl rfl (by kernel_rfl) (by kernel_rfl) (by kernel_rfl) (by kernel_rfl) (fun _ _ _ h=> h) (Or.inl ⟨by rfl,?_⟩) (by assumption) ?_;rotate_left; · (intro w hSw;(try dsimp only at hSw);go_simp;try with_reducible rfl));(try simp only [Act.put,List.setIfInBounds_toArray,List.set_cons_zero,List.set_cons_succ])
               (refine RegLast.takeL (i:=7) (v:=?_) rfl rfl (by kernel_rfl) (by kernel_rfl) (by kernel_rfl) (by kernel_rfl) (fun _ _ _ h=> h) (Or.inl ⟨by rfl,?_⟩) (by assumption) ?_;rotate_left; · (intro w hSw;(try dsimp only at hSw);go_simp;try with_reducible rfl));(try simp only [Act.put,List.setIfInBounds_toArray,List.set_cons_zero,List.set_cons_succ])
               (refine RegLast.takeL (i:=8) (v:=?_) rfl rfl (by kernel_rfl) (by kernel_rfl) (by kernel_rfl) (by kernel_rfl) (fun _ _ _ h=> h) (Or.inl ⟨by rfl,?_⟩) (by assumption) ?_;rotate_left; · (intro w hSw;(try dsimp only at hSw);go_simp;try with_reducible rfl));(try simp only [Act.put,List.setIfInBounds_toArray,List.set_cons_zero,List.set_cons_succ])
               (refine RegLast.takeL (i:=9) (v:=?_) rfl rfl (by kernel_rfl) (by kernel_rfl) (by kernel_rfl) (by kernel_rfl) (fun _ _ _ h=> h) (Or.inl ⟨by rfl,?_⟩) (by assumption) ?_;rotate_left; · (intro w hSw;(try dsimp only at hSw);go_simp;try with_reducible rfl));(try simp only [Act.put,List.setIfInBounds_toArray,List.set_cons_zero,List.set_cons_succ])
               (refine RegLast.takeL (i:=10) (v:=?_) rfl rfl (by kernel_rfl) (by kernel_rfl) (by kernel_rfl) (by kernel_rfl) (fun _ _ _ h=> h) (Or.inl ⟨by rfl,?_⟩) (by assumption) ?_;rotate_left; · (intro w hSw;(try dsimp only at hSw);go_simp;try with_reducible rfl));(try simp only [Act.put,List.setIfInBounds_toArray,List.set_cons_zero,List.set_cons_succ])
               (refine RegLast.takeL (i:=11) (v:=?_) rfl rfl (by kernel_rfl) (by kernel_rfl) (by kernel_rfl) (by kernel_rfl) (fun _ _ _ h=> h) (Or.inl ⟨by rfl,?_⟩) (by assumption) ?_;rotate_left; · (intro w hSw;(try dsimp only at hSw);go_simp;try with_reducible rfl));(try simp only [Act.put,List.setIfInBounds_toArray,List.set_cons_zero,List.set_cons_succ])
               (refine RegLast.takeL (i:=12) (v:=?_) rfl rfl (by kernel_rfl) (by kernel_rfl) (by kernel_rfl) (by kernel_rfl) (fun _ _ _ h=> h) (Or.inl ⟨by rfl,?_⟩) (by assumption) ?_;rotate_left; · (intro w hSw;(try dsimp only at hSw);go_simp;try with_reducible rfl));(try simp only [Act.put,List.setIfInBounds_toArray,List.set_cons_zero,List.set_cons_succ])
               (refine RegLast.takeL (i:=13) (v:=?_) rfl rfl (by kernel_rfl) (by kernel_rfl) (by kernel_rfl) (by kernel_rfl) (fun _ _ _ h=> h) (Or.inl ⟨by rfl,?_⟩) (by assumption) ?_;rotate_left; · (intro w hSw;(try dsimp only at hSw);go_simp;try with_reducible rfl));(try simp only [Act.put,List.setIfInBounds_toArray,List.set_cons_zero,List.set_cons_succ])
               (refine RegLast.takeL (i:=14) (v:=?_) rfl rfl (by kernel_rfl) (by kernel_rfl) (by kernel_rfl) (by kernel_rfl) (fun _ _ _ h=> h) (Or.inl ⟨by rfl,?_⟩) (by assumption) ?_;rotate_left; · (intro w hSw;(try dsimp only at hSw);go_simp;try with_reducible rfl));(try simp only [Act.put,List.setIfInBounds_toArray,List.set_cons_zero,List.set_cons_succ])
               (refine RegLast.takeL (i:=15) (v:=?_) rfl rfl (by kernel_rfl) (by kernel_rfl) (by kernel_rfl) (by kernel_rfl) (fun _ _ _ h=> h) (Or.inl ⟨by rfl,?_⟩) (by assumption) ?_;rotate_left; · (intro w hSw;(try dsimp only at hSw);go_simp;try with_reducible rfl));(try simp only [Act.put,List.setIfInBounds_toArray,List.set_cons_zero,List.set_cons_succ])
               (refine RegLast.takeL (i:=16) (v:=?_) rfl rfl (by kernel_rfl) (by kernel_rfl) (by kernel_rfl) (by kernel_rfl) (fun _ _ _ h=> h) (Or.inl ⟨by rfl,?_⟩) (by assumption) ?_;rotate_left; · (intro w hSw;(try dsimp only at hSw);go_simp;try with_reducible rfl));(try simp only [Act.put,List.setIfInBounds_toArray,List.set_cons_zero,List.set_cons_succ])
               (refine RegLast.takeL (i:=17) (v:=?_) rfl rfl (by kernel_rfl) (by kernel_rfl) (by kernel_rfl) (by kernel_rfl) (fun _ _ _ h=> h) (Or.inl ⟨by rfl,?_⟩) (by assumption) ?_;rotate_left; · (intro w hSw;(try dsimp only at hSw);go_simp;try with_reducible rfl));(try simp only [Act.put,List.setIfInBounds_toArray,List.set_cons_zero,List.set_cons_succ])
               (refine RegLast.takeL (i:=18) (v:=?_) rfl rfl (by kernel_rfl) (by kernel_rfl) (by kernel_rfl) (by kernel_rfl) (fun _ _ _ h=> h) (Or.inl ⟨by rfl,?_⟩) (by assumption) ?_;rotate_left; · (intro w hSw;(try dsimp only at hSw);go_simp;try with_reducible rfl));(try simp only [Act.put,List.setIfInBounds_toArray,List.set_cons_zero,List.set_cons_succ])
               (refine RegLast.takeL (i:=19) (v:=?_) rfl rfl (by kernel_rfl) (by kernel_rfl) (by kernel_rfl) (by kernel_rfl) (fun _ _ _ h=> h) (Or.inl ⟨by rfl,?_⟩) (by assumption) ?_;rotate_left; · (intro w hSw;(try dsimp only at hSw);go_simp;try with_reducible rfl));(try simp only [Act.put,List.setIfInBounds_toArray,List.set_cons_zero,List.set_cons_succ])
               (refine RegLast.takeL (i:=20) (v:=?_) rfl rfl (by kernel_rfl) (by kernel_rfl) (by kernel_rfl) (by kernel_rfl) (fun _ _ _ h=> h) (Or.inl ⟨by rfl,?_⟩) (by assumption) ?_;rotate_left; · (intro w hSw;(try dsimp only at hSw);go_simp;try with_reducible rfl));(try simp only [Act.put,List.setIfInBounds_toArray,List.set_cons_zero,List.set_cons_succ])
               (refine RegLast.takeL (i:=21) (v:=?_) rfl rfl (by kernel_rfl) (by kernel_rfl) (by kernel_rfl) (by kernel_rfl) (fun _ _ _ h=> h) (Or.inl ⟨by rfl,?_⟩) (by assumption) ?_;rotate_left; · (intro w hSw;(try dsimp only at hSw);go_simp;try with_reducible rfl));(try simp only [Act.put,List.setIfInBounds_toArray,List.set_cons_zero,List.set_cons_succ])
               (refine RegLast.takeL (i:=22) (v:=?_) rfl rfl (by kernel_rfl) (by kernel_rfl) (by kernel_rfl) (by kernel_rfl) (fun _ _ _ h=> h) (Or.inl ⟨by rfl,?_⟩) (by assumption) ?_;rotate_left; · (intro w hSw;(try dsimp only at hSw);go_simp;try with_reducible rfl));(try simp only [Act.put,List.setIfInBounds_toArray,List.set_cons_zero,List.set_cons_succ])
               (refine RegLast.oneL (i:=23) (by kernel_rfl) rfl (fun K hK=> ?_))
               go_simp
               refine hK.out _ _ (fun _=> hS1) ?_
               clear hK K
               (refine RegLast.oneL (i:=24) (by kernel_rfl) rfl (fun K hK=> ?_))
               refine step_append_run rfl _ _ _ _ rfl _ _ rfl rfl _ _ HRUN.out ?_
               refine hK.out _ _ (fun _=> hS2) ?_
               clear hK K
               (refine RegLast.takeL (i:=25) (v:=?_) rfl rfl (by kernel_rfl) (by kernel_rfl) (by kernel_rfl) (by kernel_rfl) (fun _ _ _ h=> h) (Or.inl ⟨by rfl,?_⟩) (by assumption) ?_;rotate_left; · (intro w hSw;(try dsimp only at hSw);go_simp;try with_reducible rfl));(try simp only [Act.put,List.setIfInBounds_toArray,List.set_cons_zero,List.set_cons_succ])
               (refine RegLast.oneL (i:=26) (by kernel_rfl) rfl (fun K hK=> ?_))
               go_simp
               refine hK.out _ _ (fun h=> absurd rfl h) ?_
               clear hK K
               refine RegLast.doneL (by kernel_rfl) (NoPanic.normal ?_) _
               repeat' (first|go_values|go_skip|go_guarded|(with_reducible refine wg ?_)|go_step|go_upon|go_quiet (fail))
               exact ⟨⟨i + 1,_,_,cs ++ [[x0,x1,x2,x3,x4]],by omega,by go_num,by simp;omega,HN.out,HT.out⟩,by simp [intOf];omega⟩
           · obtain rfl:i=On:=by omega
             have HS5:=hU (tie_end HTIE.out)
             have HCH:=hU (chain HQ1.out HS3.out HS4.out HQ6.out HS5.out)
             have HR:=hU HF.out.res
             have HB:=hU HF.out.bel
             have hres:=HF.out.res
             have q0:wr.cell? ⟨w.heap.size,0,none⟩=some (.slice none 0 0):=Rdr.heap_cell hres 0
             have q1:wr.cell? ⟨w.heap.size,1,none⟩=some (.int .i64 0):=Rdr.heap_cell hres 1
             have q2:wr.cell? ⟨w.heap.size,2,none⟩=some (.slice none 0 0):=Rdr.heap_cell hres 2
             have q3:wr.cell? ⟨w.heap.size,3,none⟩=some (.slice none 0 0):=Rdr.heap_cell hres 3
             have z0:=Lib.frozen_of_heap hres 0
             have z1:=Lib.frozen_of_heap hres 1
             have z2:=Lib.frozen_of_heap hres 2
             have z3:=Lib.frozen_of_heap hres 3
             clear hres HTIE hlt hi
             by_cases hb:bad'=0
             · subst hb
               obtain ⟨t,hst⟩:=ps_good hps
               have htl:rest'.data.toList=t:=by rw [hst] at hps;exact hps.2.1
               have hlen:rest'.size=t.length:=by rw [← htl,Array.length_toList];rfl
               have hpr:=HCH.out.2 t hst
               by_cases hn:t=[]
               · rw [if_pos hn] at hpr
                 have hPA:PlanAt wr (.agg #[v1,.int .i64 fr,v3,v4]) ⟨ps,fr,rs.map (·.2),cs⟩:=fr_plan HF.out
                 have hfb:fr≤9223372036854775807:=by have h3:fr<65536:=(Pl.parse_ok hpr).2.2;omega
                 have HCK:=hU (RfP.Check _ _ wr hPA hfb)
                 obtain ⟨p1,p2,rfl⟩:=ownsRow_slice HF.out.parts.1
                 obtain ⟨p3,p4,rfl⟩:=ownsRow_slice HF.out.wins
                 obtain ⟨p5,p6,rfl⟩:=ownsRow_slice HF.out.chans.1
                 have hz0:rest'.size=0:=by rw [hlen,hn];rfl
                 have hz1':¬ (0:Int)<rest'.size:=by omega
                 have s0:wr.cell? ⟨w.heap.size + 1,0,none⟩=some (.slice p1 ps.length p2):=Rdr.heap_cell HF.out.pln 0
                 have s1:wr.cell? ⟨w.heap.size + 1,1,none⟩=some (.int .i64 fr):=Rdr.heap_cell HF.out.pln 1
                 have s2:wr.cell? ⟨w.heap.size + 1,2,none⟩=some (.slice p3 rs.length p4):=Rdr.heap_cell HF.out.pln 2
                 have s3:wr.cell? ⟨w.heap.size + 1,3,none⟩=some (.slice p5 cs.length p6):=Rdr.heap_cell HF.out.pln 3
                 have HPR:=hU hpr
                 clear hps hst htl hlen hpr hn hPA
                 repeat' (first|go_values|go_skip|go_guarded|(with_reducible refine wg ?_)|go_step|go_upon|go_quiet (fail))
                 refine HCK.out.mono ?_
                 rintro ev w9 ⟨rfl,hb9⟩
                 have HR9:=hU ((hb9.block _ (Rdr.heap_lt HR.out)).trans HR.out)
                 have hP9:=(hb9.block _ (Rdr.heap_lt HF.out.pln)).trans HF.out.pln
                 have HB9:=hU (Below.to HB.out hb9)
                 have HS9:=hU (fun x0 x1 x2 x3=> fr_plan_set HF.out hb9 x0 x1 x2 x3)
                 have u0:w9.cell? ⟨w.heap.size,0,none⟩=some (.slice none 0 0):=Rdr.heap_cell HR9.out 0
                 have u1:w9.cell? ⟨w.heap.size,1,none⟩=some (.int .i64 0):=Rdr.heap_cell HR9.out 1
                 have u2:w9.cell? ⟨w.heap.size,2,none⟩=some (.slice none 0 0):=Rdr.heap_cell HR9.out 2
                 have u3:w9.cell? ⟨w.heap.size,3,none⟩=some (.slice none 0 0):=Rdr.heap_cell HR9.out 3
                 have y0:=Lib.frozen_of_heap HR9.out 0
                 have y1:=Lib.frozen_of_heap HR9.out 1
                 have y2:=Lib.frozen_of_heap HR9.out 2
                 have y3:=Lib.frozen_of_heap HR9.out 3
                 have v0:w9.cell? ⟨w.heap.size + 1,0,none⟩=some (.slice p1 ps.length p2):=Rdr.heap_cell hP9 0
                 have v1':w9.cell? ⟨w.heap.size + 1,1,none⟩=some (.int .i64 fr):=Rdr.heap_cell hP9 1
                 have v2:w9.cell? ⟨w.heap.size + 1,2,none⟩=some (.slice p3 rs.length p4):=Rdr.heap_cell hP9 2
                 have v3':w9.cell? ⟨w.heap.size + 1,3,none⟩=some (.slice p5 cs.length p6):=Rdr.heap_cell hP9 3
                 clear hP9 hb9 s0 s1 s2 s3 HCK q0 q1 q2 q3 z0 z1 z2 z3
                 by_cases hck:Pl.check ⟨ps,fr,rs.map (·.2),cs⟩=0
                 · have HTK:=hU (took_ok hp hrest HPR.out hck)
                   rw [hck]
                   clear hck
                   dsimp only
                   repeat' (first|go_values|go_skip|go_guarded|(with_reducible refine wg ?_)|go_step|go_upon|go_quiet (fail))
                   (try simp only [Exit.inBlock,Exit.then]);refine bodyPost_ret (resH (b:=w.heap.size) (set4 (x0:=.slice p1 ps.length p2) (x1:=.int .i64 fr) (x2:=.slice p3 rs.length p4) (x3:=.slice p5 cs.length p6) HR9.out) rfl rfl) rfl ?_
                   exact ⟨_,_,rfl,bel_set4 HB9.out _ _ _ _,.inl ⟨rfl,_,HTK.out,HS9.out _ _ _ _⟩⟩
                 · have HTK:=hU (took_bad hp hrest HPR.out hck)
                   have hcI:(Pl.check ⟨ps,fr,rs.map (·.2),cs⟩ !=0)=true:=by simpa using hck
                   have hcJ:(Pl.check ⟨ps,fr,rs.map (·.2),cs⟩==0)=false:=by simpa using hck
                   have HNE:=hU hck
                   clear hck
                   generalize hC:Pl.check ⟨ps,fr,rs.map (·.2),cs⟩=C at *
                   dsimp only
                   repeat' (first|go_values|go_skip|go_guarded|(with_reducible refine wg ?_)|go_step|go_upon|go_quiet (fail))
                   (try simp only [Exit.inBlock,Exit.then]);refine bodyPost_ret (resH (b:=w.heap.size) (set4 (x0:=.slice none 0 0) (x1:=.int .i64 0) (x2:=.slice none 0 0) (x3:=.slice none 0 0) HR9.out) rfl rfl) rfl ?_
                   exact ⟨_,_,rfl,bel_set4 HB9.out _ _ _ _,.inr ⟨HNE.out,rfl,HTK.out⟩⟩
               · rw [if_neg hn] at hpr
                 have HTK:=hU (took_err hp hrest hpr)
                 have hpos:0<t.length:=List.length_pos_iff.2 hn
                 have hgt:(0:Int)<rest'.size:=by omega
                 have hgt':0<rest'.size:=by omega
                 clear hps hst htl hlen hpr hn hpos
                 repeat' (first|go_values|go_skip|go_guarded|(with_reducible refine wg ?_)|go_step|go_upon|go_quiet (fail))
                 (try simp only [Exit.inBlock,Exit.then]);refine bodyPost_ret (resH (b:=w.heap.size) (set4 (x0:=.slice none 0 0) (x1:=.int .i64 0) (x2:=.slice none 0 0) (x3:=.slice none 0 0) HR.out) rfl rfl) rfl ?_
                 exact ⟨_,_,rfl,bel_set4 HB.out _ _ _ _,.inr ⟨by decide,rfl,HTK.out⟩⟩
             · obtain ⟨c,hst⟩:=ps_bad hps hb
               have hcc:bad'=(c:Int):=by rw [hst] at hps;exact hps.1
               have hbI:(bad' !=0)=true:=by simpa using hb
               have hbJ:(bad'==0)=false:=by simpa using hb
               have HTK:=hU (took_err hp hrest (HCH.out.1 c hst))
               have HC:Hid (c=bad'.toNat):=hU (by omega)
               clear hps hst hcc
               repeat' (first|go_values|go_skip|go_guarded|(with_reducible refine wg ?_)|go_step|go_upon|go_quiet (fail))
               go_region
               repeat' (first|go_values|go_skip|go_guarded|(with_reducible refine wg ?_)|go_step|go_upon|go_quiet (fail))
               (try simp only [Exit.inBlock,Exit.then]);refine bodyPost_ret (resH (b:=w.heap.size) (set4 (x0:=.slice none 0 0) (x1:=.int .i64 0) (x2:=.slice none 0 0) (x3:=.slice none 0 0) HR.out) rfl rfl) rfl ?_
               exact ⟨_,_,rfl,Below.drew (bel_set4 HB.out _ _ _ _),.inr ⟨hb,rfl,by rw [← HC.out];exact HTK.out⟩⟩
 · by_cases h2:2≤s.size
   · have hq:=Tk.tp_toList s h2
     rw [decide_eq_false hp] at hq
     have h2I:¬ (s.size:Int)<2:=by omega
     go_enter Tryz.func12,Tryz.ntmps12
     repeat' (first|go_values|go_skip|go_guarded|(with_reducible refine wg ?_)|go_step|go_upon|go_quiet (fail))
     (try simp only [Exit.inBlock,Exit.then]);refine bodyPost_ret (resH (b:=w.heap.size) (Rdr.heap_new w _) rfl rfl) rfl ?_
     exact ⟨_,_,rfl,(Below.refl _ _).alloc (Nat.le_refl _) _,.inr ⟨by decide,rfl,took_no hp⟩⟩
   · have h2I:(s.size:Int)<2:=by omega
     go_enter Tryz.func12,Tryz.ntmps12
     repeat' (first|go_values|go_skip|go_guarded|(with_reducible refine wg ?_)|go_step|go_upon|go_quiet (fail))
     (try simp only [Exit.inBlock,Exit.then]);refine bodyPost_ret (resH (b:=w.heap.size) (Rdr.heap_new w _) rfl rfl) rfl ?_
     exact ⟨_,_,rfl,(Below.refl _ _).alloc (Nat.le_refl _) _,.inr ⟨by decide,rfl,took_no hp⟩⟩
end RfT
end Go.Proofs.YthgehdghihbiaaaGreatDoor
