/- Rows appended to a row that the call owns; an empty row that is written out. Conditions: no longer than Go can hold. -/
import Derived.Test.YthgehdghihbiaaaGreatDoorGTop
set_option linter.unusedVariables false
set_option linter.unusedSimpArgs false
namespace Go.Proofs.YthgehdghihbiaaaGreatDoor
open Go.RowKit KR
namespace Kn
section
variable {α:Type} {P:Program} {t ty E:TypeId} {sz bytes B:Nat} {f:α→Array Value} {w:World}
theorem append_none {i:TypeInfo} {size n c:Nat} {xs:List Value} {v:Value} (ht:P.underlying t=some (.slice E)) (hi:P.info? E=some i) (hown:w.ownsRow B E size v n xs):
 (Builtin.append_ #[t,t] ty #[v,.slice none 0 c]).run P w=.ok v w:=by
 rcases hown.2 with ⟨rfl,rfl⟩|⟨g,cap,cur,rfl,_,_,hnc,_⟩
 · simp [Builtin.append_,run_underlying ht,sizeOf,typeInfo,hi,Builtin.lenOf,Builtin.firstCells]
 · simp [Builtin.append_,run_underlying ht,sizeOf,typeInfo,hi,Builtin.lenOf,Builtin.firstCells,hnc,storeCells]
theorem Rd.cellsAt (hf:∀ x,(f x).size=sz) {u:Value} {m:List α} (hr:Rd sz f w u m):(m=[]∧∃ c,u=.slice none 0 c)∨∃ b c,u=.slice (some b) m.length c∧∀ j v,(flat f m)[j]? =some v→w.cell? (b.add j)=some v:=by
 obtain ⟨a,c,rfl,hc,hm⟩:=hr.shape
 cases a with
 |none=>
  obtain ⟨_,_,he,_,_,h|⟨b,off,ha,_⟩⟩:=hr
  · subst h
    exact .inl ⟨rfl,c,rfl⟩
  · injection he with he
    subst he
    cases ha
 |some b=>
  refine .inr ⟨b,c,rfl,?_⟩
  obtain ⟨_,_,he,_,_,h'|⟨b',off,ha,_⟩⟩:=id hr
  · subst h'
    intro j u hj
    simp [flat] at hj
  · injection he with he
    subst he
    injection ha with ha
    subst ha
    intro j u hj
    rw [add0]
    exact hr.flat_cells hf j u hj
theorem apRowM (hf:∀ x,(f x).size=sz) (hsz:0<sz) (hu:P.underlying t=some (.slice E)) (hi:(P.info? E).map (fun i=> (i.zero.map (·.cells.size),i.size,i.bytes))=some (some sz,sz,bytes))
 {v u:Value} {l m:List α} (hones:∀ x ∈ m,∀ u ∈ (f x).toList,u.oneCell'=true) (h:KR.Own E sz f B w v l) (hr:Rd sz f w u m) (hB:B≤w.heap.size) (hn:l.length + m.length≤maxLen) (hb:(l.length + m.length) * bytes≤140737488355328):
 ∃ v' W',(Builtin.append_ #[t,t] ty #[v,u]).run P w=.ok v' W'∧KR.Own E sz f B W' v' (l ++ m)∧w.grownBy W' v.ownBlock:=by
 cases hq:P.info? E with
 |none=> rw [hq] at hi;cases hi
 |some i=>
  rw [hq] at hi
  simp only [Option.map_some,Option.some.injEq,Prod.mk.injEq] at hi
  obtain ⟨h1,h2,h3⟩:=hi
  cases hz:i.zero with
  |none=> rw [hz] at h1;cases h1
  |some z=>
   rw [hz] at h1
   have hzs:z.cells.size=sz:=by simpa using h1
   rcases hr.cellsAt hf with ⟨rfl,c,rfl⟩|⟨b,c,rfl,holds⟩
   · exact ⟨v,w,append_none hu hq h,by rw [List.append_nil];exact h,⟨rfl,rfl,rfl,Nat.le_refl _,fun _ _ _=> rfl⟩⟩
   · obtain ⟨v',W',hrun,ho,hg,_⟩:=run_append_own (P:=P) w B t ty E i z sz bytes hu hq hz h2 h3 hzs hsz v l.length (flat f l) h b m.length c (flat f m) (flat_length hf m) holds (fun u hu=> by
      unfold flat at hu
      obtain ⟨x,hm,hx⟩:=List.mem_flatMap.1 hu
      exact hones x hm u hx) hn hb hB
     exact ⟨v',W',hrun,by unfold KR.Own;rw [List.length_append,flat_append];exact ho,hg⟩
theorem apRow (hf:∀ x,(f x).size=sz) (hsz:0<sz) (hu:P.underlying t=some (.slice E)) (hi:(P.info? E).map (fun i=> (i.zero.map (·.cells.size),i.size,i.bytes))=some (some sz,sz,bytes)) (hones:∀ x,∀ u ∈ (f x).toList,u.oneCell'=true)
 {v u:Value} {l m:List α} (h:KR.Own E sz f B w v l) (hr:Rd sz f w u m) (hB:B≤w.heap.size) (hn:l.length + m.length≤maxLen) (hb:(l.length + m.length) * bytes≤140737488355328):
 ∃ v' W',(Builtin.append_ #[t,t] ty #[v,u]).run P w=.ok v' W'∧KR.Own E sz f B W' v' (l ++ m)∧w.grownBy W' v.ownBlock:=apRowM hf hsz hu hi (fun x _=> hones x) h hr hB hn hb
theorem apFull (hf:∀ x,(f x).size=sz) (hsz:0<sz) (hu:P.underlying t=some (.slice E)) (hi:(P.info? E).map (fun i=> (i.zero.map (·.cells.size),i.size,i.bytes))=some (some sz,sz,bytes))
 {g:Nat} {u:Value} {m:List α} (hg:w.heap[g]? =some (.cells #[] E (0,0))) (hr:Rd sz f w u m) (hB:B≤g) (hn:m.length≤maxLen) (hb:m.length * bytes≤140737488355328):
 ∃ v' W',(Builtin.append_ #[t,t] ty #[.slice (some ⟨g,0,none⟩) 0 0,u]).run P w=.ok v' W'∧KR.Own E sz f B W' v' m∧Below w.heap.size w W':=by
 have h0:KR.Own E sz f B w (.slice (some ⟨g,0,none⟩) 0 0) []:=⟨by simp [flat],.inr ⟨g,0,#[],rfl,hB,hg,Nat.le_refl _,by unfold maxLen;omega,by simp,by simp [flat]⟩⟩
 cases hq:P.info? E with
 |none=> rw [hq] at hi;cases hi
 |some i=>
  rw [hq] at hi
  simp only [Option.map_some,Option.some.injEq,Prod.mk.injEq] at hi
  obtain ⟨h1,h2,h3⟩:=hi
  cases hz:i.zero with
  |none=> rw [hz] at h1;cases h1
  |some z=>
   rw [hz] at h1
   have hzs:z.cells.size=sz:=by simpa using h1
   rcases hr.cellsAt hf with ⟨rfl,c,rfl⟩|⟨b,c,rfl,holds⟩
   · exact ⟨_,w,append_none hu hq h0,h0,Below.refl _ _⟩
   · by_cases hm:m=[]
     · subst hm
       have hrun:=run_append_room (P:=P) w t ty E i hu hq g 0 0 #[] hg b 0 c [] (by simp) (by simp) (by simp) (by omega) (by simp)
       refine ⟨_,_,hrun,⟨by simp [flat],.inr ⟨g,0,_,rfl,hB,setRow_heap w g #[] _ E (0,0) hg,Nat.le_refl _,by unfold maxLen;omega,by simp,by simp [flat]⟩⟩,⟨rfl,rfl,rfl,by simp,fun k hk=> ?_⟩⟩
       by_cases hkg:k=g
       · subst hkg
         rw [setRow_heap w k #[] _ E (0,0) hg,hg]
         simp
       · exact setRow_other w g k _ hkg
     · have hpos:0<m.length:=List.length_pos_iff.2 hm
       obtain ⟨v',W',hrun,ho,hgr⟩:=run_append_arg_grows (P:=P) (w:=w) t ty E i z sz bytes hu hq hz h2 h3 hzs hsz ⟨g,0,none⟩ 0 0 [] (by simp) (fun j u hj=> by simp at hj) b m.length c (flat f m) (flat_length hf m) holds (by omega) (by omega) (by rw [Nat.zero_add];exact hb)
       refine ⟨v',W',hrun,?_,⟨hgr.os,hgr.tape,hgr.output,hgr.size,fun k hk=> hgr.block k hk (fun e=> by cases e)⟩⟩
       have:=hlt hg
       have ho2:KR.Own E sz f w.heap.size W' v' m:=by
        unfold KR.Own
        rw [Nat.zero_add,List.nil_append] at ho
        exact ho
       exact ho2.mono (by omega)
theorem run_buildSlice_no {S:TypeId} {n:Nat} (hu:P.underlying S=some (.slice E)) (hs:∀ W,(sizeOf E).run P W=.ok n W):(Instr.buildSlice S 0 #[]).run P w=.ok (.slice (some ⟨w.heap.size,0,none⟩) 0 0) (w.alloc (.cells #[] E)):=by
 simp [Instr.buildSlice,run_underlying hu,hs,Instr.fill,newRow]
 exact congrArg (fun c=> w.alloc (Obj.cells c E)) (Array.eq_empty_of_size_eq_zero (by simp))
theorem wp_buildSlice_no {o:Oper} {a:Act} {K:Act→World→Prop} {Q:Exit→Act→World→Prop} {S:TypeId} {n:Nat} (hop:o.op=Op.buildSlice S 0 #[]) (hu:P.underlying S=some (.slice E)) (hs:∀ W,(sizeOf E).run P W=.ok n W)
 (hK:K (a.put o.dst (.slice (some ⟨w.heap.size,0,none⟩) 0 0)) (w.alloc (.cells #[] E))):o.wp P a w K Q:=by
 unfold Oper.wp execOp
 simp only [hop,Sem.run_bind,List.map_toArray,List.map_nil,run_buildSlice_no hu hs,Result.andThen_ok,Sem.run_pure]
 exact hK
end
theorem isD (d:Option Tmp) {P:Program} {o:Oper} {a:Act} {W:World} {K:Act→World→Prop} {Q:Exit→Act→World→Prop} (hd:o.dst=d) (h:o.wp P a W K Q):o.wp P a W K Q:=h
structure Tn (E:TypeId) (W W':World):Prop where
 size:W.heap.size≤W'.heap.size
 oth:∀ (k:Nat) (c:Array Value) (T:TypeId),E ≠ T→W.heap[k]? =some (.cells c T (0,0))→W'.heap[k]? =W.heap[k]?
theorem tnB {E T:TypeId} {W W':World} {g:Nat} {c:Array Value} (ht:Tn E W W') (h:Hid (W.heap[g]? =some (.cells c T (0,0)))) (hT:E ≠ T:=by decide):Hid (W'.heap[g]? =some (.cells c T (0,0))):=hU ((ht.oth g c T hT h.out).trans h.out)
theorem tnL {E:TypeId} {W W':World} {y:Lay} {bs:List BoxV} {k:Kern} (ht:Tn E W W') (h:Hid (LayAt W y bs k)) (hT:noRow E:=by decide):Hid (LayAt W' y bs k):=by
 obtain ⟨t1,t2,t3,t4,t5,t6,t7,t8,t9,t10,t11⟩:=hT
 have st:∀ {F:TypeId},F ≠ E→∀ (j:Nat) (c:Array Value),W.heap[j]? =some (.cells c F (0,0))→W'.heap[j]? =W.heap[j]? :=fun hE j c hj=> ht.oth j c _ (Ne.symm hE) hj
 have h:=h.out
 exact hU ⟨h.p.stay (st t1),h.t.stay (st t2),h.s.stay (st t3),h.pi.stay (st t4),h.h.stay (st t5),h.im.stay (st t6),h.ou.stay (st t7),h.ins_.stay (st t7),h.bx.stay (st t8),h.bse,fun x hx=> (h.ok x hx).stay (st t9),h.tr.stay (st t10),h.se.stay (st t11)⟩
theorem tn_of {α:Type} {E:TypeId} {sz B:Nat} {f:α→Array Value} {W W':World} {v:Value} {l:List α} (h:KR.Own E sz f B W v l) (hB:B≤W.heap.size) (hg:W.grownBy W' v.ownBlock):Tn E W W'∧Below B W W':=by
 have hv:∀ k:Nat,some k=v.ownBlock→B≤k∧∃ c,W.heap[k]? =some (.cells c E (0,0)):=by
  intro k hk
  rcases h.2 with ⟨rfl,_⟩|⟨g,cap,cur,rfl,hb,hh,_⟩
  · cases hk
  · obtain rfl:k=g:=Option.some.inj hk
    exact ⟨hb,cur,hh⟩
 refine ⟨⟨hg.size,fun k c T hT hc=> hg.block k (hlt hc) (fun e=> ?_)⟩,⟨hg.os,hg.tape,hg.output,hg.size,fun k hk=> ?_⟩⟩
 · obtain ⟨_,c',hc'⟩:=hv k e
   rw [hc] at hc'
   injection hc' with hc'
   injection hc' with _ hc' _
   exact hT hc'.symm
 · exact hg.block k (Nat.lt_of_lt_of_le hk hB) (fun e=> by have:=(hv k e).1;omega)
end Kn
end Go.Proofs.YthgehdghihbiaaaGreatDoor
