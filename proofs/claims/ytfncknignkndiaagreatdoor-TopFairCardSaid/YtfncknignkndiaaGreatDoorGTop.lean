/- Rows that are handed in, as they are read: of what type their memory is, is not known. Conditions: as told. -/
import Derived.Test.YtfncknignkndiaaGreatDoorGWork
import Derived.Laws.OwnMore
set_option linter.unusedVariables false
set_option maxRecDepth 100000
set_option maxHeartbeats 8000000
set_option linter.unusedSimpArgs false
namespace Go.Proofs.YtfncknignkndiaaGreatDoor
open Tryz
open Go.RowKit KR
namespace Kn
def Rd {α:Type} (sz:Nat) (f:α→Array Value) (W:World) (v:Value) (l:List α):Prop:=
 ∃ a c,v=.slice a l.length c∧l.length≤c∧c≤9223372036854775807∧
   (l=[]∨∃ b off,a=some ⟨b,off,none⟩∧b<W.heap.size∧∀ i x,l[i]? =some x→∀ j u,(f x)[j]? =some u→W.cell? ⟨b,off + i * sz + j,none⟩=some u)
section
variable {α:Type} {sz:Nat} {f:α→Array Value} {W W':World} {v:Value} {l:List α}
theorem _root_.Go.Proofs.YtfncknignkndiaaGreatDoor.KR.Sl.rd {E:TypeId} (h:Sl E sz f W v l):Rd sz f W v l:=by
 obtain ⟨a,c,rfl,h1,h2,h|⟨b,off,cur,rfl,hb,hc⟩⟩:=h
 · exact ⟨a,c,rfl,h1,h2,.inl h⟩
 · exact ⟨_,c,rfl,h1,h2,.inr ⟨b,off,rfl,hlt hb,fun i x hx j u hj=> (aC hb _).trans (hc i x hx j u hj)⟩⟩
theorem Rd.nil:Rd sz f W (.slice none 0 0) []:=⟨none,0,rfl,Nat.le_refl _,by omega,.inl rfl⟩
theorem Rd.below (h:Rd sz f W v l) (hb:Below W.heap.size W W'):Rd sz f W' v l:=by
 obtain ⟨a,c,rfl,h1,h2,h|⟨b,off,rfl,hl,hc⟩⟩:=h
 · exact ⟨a,c,rfl,h1,h2,.inl h⟩
 · exact ⟨_,c,rfl,h1,h2,.inr ⟨b,off,rfl,Nat.lt_of_lt_of_le hl hb.size,fun i x hx j u hj=> (hb.cell (p:=⟨b,_,none⟩) hl).trans (hc i x hx j u hj)⟩⟩
theorem Rd.shape (h:Rd sz f W v l):∃ a c,v=.slice a l.length c∧l.length≤c∧c≤9223372036854775807:=by
 obtain ⟨a,c,rfl,h1,h2,_⟩:=h;exact ⟨a,c,rfl,h1,h2⟩
theorem Rd.elem {a:Option Addr} {n c:Nat} (h:Rd sz f W (.slice a n c) l):n=l.length∧n≤c∧c≤9223372036854775807∧
 ∀ (i:Nat) (x:α),l[i]? =some x→∃ b off,a=some ⟨b,off,none⟩∧b<W.heap.size∧∀ W',Below W.heap.size W W'→∀ j u,(f x)[j]? =some u→W'.cell? ⟨b,off + i * sz + j,none⟩=some u:=by
 obtain ⟨a',c',he,h1,h2,h⟩:=h;injection he with ha hn hc
 subst ha hn hc;refine ⟨rfl,h1,h2,fun i x hx=> ?_⟩;rcases h with rfl|⟨b,off,rfl,hl,aC⟩
 · simp at hx
 · exact ⟨b,off,rfl,hl,fun W' hb' j u hj=> (hb'.cell (p:=⟨b,_,none⟩) hl).trans (aC i x hx j u hj)⟩
theorem Rd.lJ (hf:∀ x,(f x).size=sz) {b off n c:Nat} (h:Rd sz f W (.slice (some ⟨b,off,none⟩) n c) l):∀ j u,(flat f l)[j]? =some u→W.cell? ⟨b,off + j,none⟩=some u:=by
 obtain ⟨a',c',he,h1,h2,h⟩:=h;injection he with ha hn hc
 subst ha hn hc;intro j u hj;rcases h with rfl|⟨b',off',he,hb,hc⟩
 · simp [flat] at hj
 · injection he with he
   injection he with hb1 ho1 _
   subst hb1 ho1;have hjl:=(List.getElem?_eq_some_iff.1 hj).1;rw [dX hf] at hjl;have hsz:0<sz:=Nat.pos_of_ne_zero (fun e=> by subst e;simp at hjl);have hi:j / sz<l.length:=Nat.div_lt_of_lt_mul (by rw [Nat.mul_comm];exact hjl);have hr:j % sz<sz:=Nat.mod_lt _ hsz;have hx:=List.getElem?_eq_getElem hi;have hu:(f l[j / sz])[j % sz]? =some ((f l[j / sz])[j % sz]'(by rw [hf];exact hr)):=Array.getElem?_eq_getElem _;have h3:=qI hf l _ _ hx _ _ hu;have hdm:j / sz * sz + j % sz=j:=by rw [Nat.mul_comm];exact Nat.div_add_mod j sz
   rw [hdm,hj] at h3;injection h3 with h3
   rw [h3];have h4:=hc _ _ hx _ _ hu;rw [Nat.add_assoc,hdm] at h4;exact h4
end
theorem clR {T S:TypeId} {n nb:Nat} {F:FuncId} (hc:Cl T S n nb F) {α:Type} {f:α→Array Value} (hsz:∀ x,(f x).size=n) {v:Value} {l:List α} {w:World} (h:Rd n f w v l) (hones:∀ x ∈ l,∀ u ∈ (f x).toList,u.oneCell'=true) (hb:l.length * nb≤140737488355328:=by omega):
 Calls prog F #[v] w fun e w'=> ∃ v',e=.returned v'∧KR.Own T n f w.heap.size w' v' l∧Below w.heap.size w w':=by
 obtain ⟨a,c,rfl,h1,h2⟩:=h.shape;refine hc α f hsz a c l w (fun ha=> ?_) (fun ad ha j u hj=> ?_) hones hb (by omega)
 · subst ha;obtain ⟨_,_,he,_,_,hl⟩:=h;injection he with ha _ _
   rcases hl with rfl|⟨b,off,hb,_⟩
   · rfl
   · rw [← ha] at hb;cases hb
 · subst ha;have h':=h;obtain ⟨_,_,he,_,_,hl⟩:=h;injection he with ha _ _
   rcases hl with rfl|⟨b,off,hb,hbl,_⟩
   · simp [flat] at hj
   · rw [hb] at ha;injection ha with ha
     subst ha;rw [oL];exact Rd.lJ hsz h' j u hj
theorem qZj:Cl 9 22 1 16 34:=by
 have hu:=underlying22;have hi:(prog.info? 9).map (fun i=> (i.zero.map (·.cells.size),i.size,i.bytes))=some (some 1,1,16):=by kernel_rfl
 exact clM
theorem qCm (v:Value) (l:List ByteArray) (w:World) (h:Rd 1 strCells w v l) (hn:l.length≤8796093022207):Calls prog 34 #[v] w fun e w'=> ∃ v',e=.returned v'∧KR.Own 9 1 strCells w.heap.size w' v' l∧Below w.heap.size w w':=
 clR qZj qKp h (fun x _=> List.all_eq_true.1 (show ((strCells x).toList.all (·.oneCell'))=true from rfl))
theorem qWk:Cl 102 36 5 40 35:=by
 have hu:=underlying36;have hi:(prog.info? 102).map (fun i=> (i.zero.map (·.cells.size),i.size,i.bytes))=some (some 5,5,40):=by kernel_rfl
 exact clM
theorem iI (v:Value) (l:List cS) (w:World) (h:Rd 5 cS.cells w v l) (hn:l.length≤68719476736):Calls prog 35 #[v] w fun e w'=> ∃ v',e=.returned v'∧KR.Own 102 5 cS.cells w.heap.size w' v' l∧Below w.heap.size w w':=
 clR qWk iO h (fun x _=> List.all_eq_true.1 (show ((cS.cells x).toList.all (·.oneCell'))=true from rfl))
section
variable {α:Type} {P:Program} {t ty E:TypeId} {sz bytes B:Nat} {f:α→Array Value} {w:World}
theorem xR {i:TypeInfo} {size n c:Nat} {xs:List Value} {v:Value} (ht:P.underlying t=some (.slice E)) (hi:P.info? E=some i) (hown:w.ownsRow B E size v n xs):
 (Builtin.append_ #[t,t] ty #[v,.slice none 0 c]).run P w=.ok v w:=by
 rcases hown.2 with ⟨rfl,rfl⟩|⟨g,cap,cur,rfl,_,_,hnc,_⟩
 · simp [Builtin.append_,run_underlying ht,sizeOf,typeInfo,hi,Builtin.lenOf,Builtin.firstCells]
 · simp [Builtin.append_,run_underlying ht,sizeOf,typeInfo,hi,Builtin.lenOf,Builtin.firstCells,hnc,storeCells]
theorem Rd.qJm (hf:∀ x,(f x).size=sz) {u:Value} {m:List α} (hr:Rd sz f w u m):(m=[]∧∃ c,u=.slice none 0 c)∨∃ b c,u=.slice (some b) m.length c∧∀ j v,(flat f m)[j]? =some v→w.cell? (b.add j)=some v:=by
 obtain ⟨a,c,rfl,hc,hm⟩:=hr.shape;cases a with
 |none=>
  obtain ⟨_,_,he,_,_,h|⟨b,off,ha,_⟩⟩:=hr
  · subst h;exact .inl ⟨rfl,c,rfl⟩
  · injection he with he
    subst he;cases ha
 |some b=>
  refine .inr ⟨b,c,rfl,?_⟩;obtain ⟨_,_,he,_,_,h'|⟨b',off,ha,_⟩⟩:=id hr
  · subst h';intro j u hj;simp [flat] at hj
  · injection he with he
    subst he;injection ha with ha
    subst ha;intro j u hj;rw [oL];exact hr.lJ hf j u hj
theorem qOm (hf:∀ x,(f x).size=sz) (hsz:0<sz) (hu:P.underlying t=some (.slice E)) (hi:(P.info? E).map (fun i=> (i.zero.map (·.cells.size),i.size,i.bytes))=some (some sz,sz,bytes))
 {v u:Value} {l m:List α} (hones:∀ x ∈ m,∀ u ∈ (f x).toList,u.oneCell'=true) (h:KR.Own E sz f B w v l) (hr:Rd sz f w u m) (hB:B≤w.heap.size) (hn:l.length + m.length≤maxLen) (hb:(l.length + m.length) * bytes≤140737488355328):
 ∃ v' W',(Builtin.append_ #[t,t] ty #[v,u]).run P w=.ok v' W'∧KR.Own E sz f B W' v' (l ++ m)∧w.grownBy W' v.ownBlock:=by
 cases hq:P.info? E with
 |none=> rw [hq] at hi;cases hi
 |some i=>
  rw [hq] at hi;simp only [Option.map_some,Option.some.injEq,Prod.mk.injEq] at hi;obtain ⟨h1,h2,h3⟩:=hi;cases hz:i.zero with
  |none=> rw [hz] at h1;cases h1
  |some z=>
   rw [hz] at h1;have hzs:z.cells.size=sz:=by simpa using h1
   rcases hr.qJm hf with ⟨rfl,c,rfl⟩|⟨b,c,rfl,holds⟩
   · exact ⟨v,w,xR hu hq h,by rw [List.append_nil];exact h,⟨rfl,rfl,rfl,Nat.le_refl _,fun _ _ _=> rfl⟩⟩
   · obtain ⟨v',W',hrun,ho,hg,_⟩:=run_append_own (P:=P) w B t ty E i z sz bytes hu hq hz h2 h3 hzs hsz v l.length (flat f l) h b m.length c (flat f m) (dX hf m) holds (fun u hu=> by
      unfold flat at hu;obtain ⟨x,hm,hx⟩:=List.mem_flatMap.1 hu;exact hones x hm u hx) hn hb hB
     exact ⟨v',W',hrun,by unfold KR.Own;rw [List.length_append,eQ];exact ho,hg⟩
theorem xAq (hf:∀ x,(f x).size=sz) (hsz:0<sz) (hu:P.underlying t=some (.slice E)) (hi:(P.info? E).map (fun i=> (i.zero.map (·.cells.size),i.size,i.bytes))=some (some sz,sz,bytes)) (hones:∀ x,∀ u ∈ (f x).toList,u.oneCell'=true)
 {v u:Value} {l m:List α} (h:KR.Own E sz f B w v l) (hr:Rd sz f w u m) (hB:B≤w.heap.size) (hn:l.length + m.length≤maxLen) (hb:(l.length + m.length) * bytes≤140737488355328):
 ∃ v' W',(Builtin.append_ #[t,t] ty #[v,u]).run P w=.ok v' W'∧KR.Own E sz f B W' v' (l ++ m)∧w.grownBy W' v.ownBlock:=qOm hf hsz hu hi (fun x _=> hones x) h hr hB hn hb
theorem xAn (hf:∀ x,(f x).size=sz) (hsz:0<sz) (hu:P.underlying t=some (.slice E)) (hi:(P.info? E).map (fun i=> (i.zero.map (·.cells.size),i.size,i.bytes))=some (some sz,sz,bytes))
 {g:Nat} {u:Value} {m:List α} (hg:w.heap[g]? =some (.cells #[] E (0,0))) (hr:Rd sz f w u m) (hB:B≤g) (hn:m.length≤maxLen) (hb:m.length * bytes≤140737488355328):
 ∃ v' W',(Builtin.append_ #[t,t] ty #[.slice (some ⟨g,0,none⟩) 0 0,u]).run P w=.ok v' W'∧KR.Own E sz f B W' v' m∧Below w.heap.size w W':=by
 have h0:KR.Own E sz f B w (.slice (some ⟨g,0,none⟩) 0 0) []:=⟨by simp [flat],.inr ⟨g,0,#[],rfl,hB,hg,Nat.le_refl _,by unfold maxLen;omega,by simp,by simp [flat]⟩⟩
 cases hq:P.info? E with
 |none=> rw [hq] at hi;cases hi
 |some i=>
  rw [hq] at hi;simp only [Option.map_some,Option.some.injEq,Prod.mk.injEq] at hi;obtain ⟨h1,h2,h3⟩:=hi;cases hz:i.zero with
  |none=> rw [hz] at h1;cases h1
  |some z=>
   rw [hz] at h1;have hzs:z.cells.size=sz:=by simpa using h1
   rcases hr.qJm hf with ⟨rfl,c,rfl⟩|⟨b,c,rfl,holds⟩
   · exact ⟨_,w,xR hu hq h0,h0,Below.refl _ _⟩
   · by_cases hm:m=[]
     · subst hm;have hrun:=run_append_room (P:=P) w t ty E i hu hq g 0 0 #[] hg b 0 c [] (by simp) (by simp) (by simp) (by omega) (by simp);refine ⟨_,_,hrun,⟨by simp [flat],.inr ⟨g,0,_,rfl,hB,setRow_heap w g #[] _ E (0,0) hg,Nat.le_refl _,by unfold maxLen;omega,by simp,by simp [flat]⟩⟩,⟨rfl,rfl,rfl,by simp,fun k hk=> ?_⟩⟩;by_cases hkg:k=g
       · subst hkg;rw [setRow_heap w k #[] _ E (0,0) hg,hg];simp
       · exact setRow_other w g k _ hkg
     · have hpos:0<m.length:=List.length_pos_iff.2 hm;obtain ⟨v',W',hrun,ho,hgr⟩:=run_append_arg_grows (P:=P) (w:=w) t ty E i z sz bytes hu hq hz h2 h3 hzs hsz ⟨g,0,none⟩ 0 0 [] (by simp) (fun j u hj=> by simp at hj) b m.length c (flat f m) (dX hf m) holds (by omega) (by omega) (by rw [Nat.zero_add];exact hb);refine ⟨v',W',hrun,?_,⟨hgr.os,hgr.tape,hgr.output,hgr.size,fun k hk=> hgr.block k hk (fun e=> by cases e)⟩⟩;have:=hlt hg
       have ho2:KR.Own E sz f w.heap.size W' v' m:=by
        unfold KR.Own;rw [Nat.zero_add,List.nil_append] at ho;exact ho
       exact ho2.mono (by omega)
theorem uO {S:TypeId} {n:Nat} (hu:P.underlying S=some (.slice E)) (hs:∀ W,(sizeOf E).run P W=.ok n W):(Instr.buildSlice S 0 #[]).run P w=.ok (.slice (some ⟨w.heap.size,0,none⟩) 0 0) (w.alloc (.cells #[] E)):=by
 simp [Instr.buildSlice,run_underlying hu,hs,Instr.fill,newRow];exact congrArg (fun c=> w.alloc (Obj.cells c E)) (Array.eq_empty_of_size_eq_zero (by simp))
theorem qMz {o:Oper} {a:Act} {K:Act→World→Prop} {Q:Exit→Act→World→Prop} {S:TypeId} {n:Nat} (hop:o.op=Op.buildSlice S 0 #[]) (hu:P.underlying S=some (.slice E)) (hs:∀ W,(sizeOf E).run P W=.ok n W)
 (hK:K (a.put o.dst (.slice (some ⟨w.heap.size,0,none⟩) 0 0)) (w.alloc (.cells #[] E))):o.wp P a w K Q:=by
 unfold Oper.wp execOp;simp only [hop,Sem.run_bind,List.map_toArray,List.map_nil,uO hu hs,Result.andThen_ok,Sem.run_pure];exact hK
end
theorem isD (d:Option Tmp) {P:Program} {o:Oper} {a:Act} {W:World} {K:Act→World→Prop} {Q:Exit→Act→World→Prop} (hd:o.dst=d) (h:o.wp P a W K Q):o.wp P a W K Q:=h
structure Tn (E:TypeId) (W W':World):Prop where
 size:W.heap.size≤W'.heap.size
 oth:∀ (k:Nat) (c:Array Value) (T:TypeId),E ≠ T→W.heap[k]? =some (.cells c T (0,0))→W'.heap[k]? =W.heap[k]?
theorem tnB {E T:TypeId} {W W':World} {g:Nat} {c:Array Value} (ht:Tn E W W') (h:Hid (W.heap[g]? =some (.cells c T (0,0)))) (hT:E ≠ T:=by decide):Hid (W'.heap[g]? =some (.cells c T (0,0))):=hU ((ht.oth g c T hT h.out).trans h.out)
theorem tnL {E:TypeId} {W W':World} {y:Lay} {bs:List fY} {k:aI} (ht:Tn E W W') (h:Hid (aH W y bs k)) (hT:lX E:=by decide):Hid (aH W' y bs k):=by
 obtain ⟨t1,t2,t3,t4,t5,t6,t7,t8,t9,t10,t11⟩:=hT;have st:∀ {F:TypeId},F ≠ E→∀ (j:Nat) (c:Array Value),W.heap[j]? =some (.cells c F (0,0))→W'.heap[j]? =W.heap[j]? :=fun hE j c hj=> ht.oth j c _ (Ne.symm hE) hj;have h:=h.out;exact hU ⟨h.p.stay (st t1),h.t.stay (st t2),h.s.stay (st t3),h.pi.stay (st t4),h.h.stay (st t5),h.im.stay (st t6),h.ou.stay (st t7),h.ins_.stay (st t7),h.bx.stay (st t8),h.bse,fun x hx=> (h.ok x hx).stay (st t9),h.tr.stay (st t10),h.se.stay (st t11)⟩
theorem xAg {α:Type} {E:TypeId} {sz B:Nat} {f:α→Array Value} {W W':World} {v:Value} {l:List α} (h:KR.Own E sz f B W v l) (hB:B≤W.heap.size) (hg:W.grownBy W' v.ownBlock):Tn E W W'∧Below B W W':=by
 have hv:∀ k:Nat,some k=v.ownBlock→B≤k∧∃ c,W.heap[k]? =some (.cells c E (0,0)):=by
  intro k hk;rcases h.2 with ⟨rfl,_⟩|⟨g,cap,cur,rfl,hb,hh,_⟩
  · cases hk
  · obtain rfl:k=g:=Option.some.inj hk;exact ⟨hb,cur,hh⟩
 refine ⟨⟨hg.size,fun k c T hT hc=> hg.block k (hlt hc) (fun e=> ?_)⟩,⟨hg.os,hg.tape,hg.output,hg.size,fun k hk=> ?_⟩⟩
 · obtain ⟨_,c',hc'⟩:=hv k e;rw [hc] at hc';injection hc' with hc'
   injection hc' with _ hc' _
   exact hT hc'.symm
 · exact hg.block k (Nat.lt_of_lt_of_le hk hB) (fun e=> by have:=(hv k e).1;omega)
def zbox:fY:=⟨none,0,⟨[],0⟩⟩
theorem qTt (W:World):lG W zbox:=Sl.nil
theorem qZr {A B C D E:Type} {G:Prop} {T F:A→B→C→D→E→Prop} (h1:∀ a b c d e,F a b c d e→T a b c d e) (h2:(∀ a b c d e,F a b c d e→T a b c d e)→G):G:=h2 h1
theorem qFy:∀ n:Nat,flat aX (List.replicate n zbox)=(List.range (n * 2)).map (fun i=> (#[Value.slice none 0 0,.int .i64 0]:Array Value)[i % 2]!)
 |0=> rfl
 |n + 1=> by
  rw [List.replicate_succ',eQ,qFy n,Nat.add_mul,Nat.one_mul,List.range_succ,List.range_succ,List.map_append,List.map_append,List.append_assoc];congr 1
  have h0:n * 2 % 2=0:=by omega
  have h1:(n * 2 + 1) % 2=1:=by omega
  simp [flat,aX,zbox,h0,h1]
theorem zV (w:World) (n:Nat) (hn:n≤1000000):∃ v W',(Instr.makeSlice 37 (.int .i64 (n:Int)) (.int .i64 (n:Int))).run prog w=.ok v W'∧Sl 145 2 aX W' v (List.replicate n zbox)∧Below w.heap.size w W':=by
 have hi:(prog.info? 145).map (fun i=> (i.zero.map (·.cells),i.size,i.bytes))=some (some #[.slice none 0 0,.int .i64 0],2,32):=by kernel_rfl
 cases hq:prog.info? 145 with
 |none=> simp [hq] at hi
 |some i=>
  rw [hq] at hi;simp only [Option.map_some,Option.some.injEq,Prod.mk.injEq] at hi;obtain ⟨hz,hs,hb⟩:=hi;cases hz0:i.zero with
  |none=> simp [hz0] at hz
  |some z=>
   rw [hz0] at hz;simp only [Option.map_some,Option.some.injEq] at hz;obtain ⟨W',hrun,hown,hg⟩:=run_makeSlice_full (P:=prog) w w.heap.size 37 145 i z 2 underlying37 hq hz0 hs .i64 .i64 n (by omega) (by rw [hb];omega) (by unfold maxLen;omega) (Nat.le_refl _);refine ⟨_,W',hrun,?_,⟨hg.os,hg.tape,hg.output,hg.size,fun k hk=> hg.block k hk (by simp)⟩⟩
   have hO:KR.Own 145 2 aX w.heap.size W' (.slice (some ⟨w.heap.size,0,none⟩) n n) (List.replicate n zbox):=by
    unfold KR.Own;rw [List.length_replicate,qFy]
    have:(madeCells z.cells (n * 2)).toList=(List.range (n * 2)).map (fun i=> (#[Value.slice none 0 0,.int .i64 0]:Array Value)[i % 2]!):=by
     rw [hz];simp [madeCells,Array.toList_map,Array.toList_range]
    rw [← this];exact hown
   exact KR.Own.sl qV hO
section
variable {P:Program} {ops:Array Oper} {o:Oper} {a:Go.Act} {Q:Exit→Go.Act→World→Prop} {W W':World}
theorem sJ {K:Go.Act→World→Prop} {t:TypeId} {x y:Operand} (hop:o.op=.makeSlice t x y) {vx vy v:Value} (hx:a.eval x=vx) (hy:a.eval y=vy) (hr:(Instr.makeSlice t vx vy).run P W=.ok v W') (hK:K (a.put o.dst v) W'):o.wp P a W K Q:=by
 unfold Oper.wp execOp;simp only [hop,hx,hy,Sem.run_bind,hr,Result.andThen_ok,Sem.run_pure];exact hK
end
end Kn
end Go.Proofs.YtfncknignkndiaaGreatDoor
namespace Go.Proofs.YtfncknignkndiaaGreatDoor
open Tryz
open Go.RowKit KR RegT3
namespace Kn
section
variable {y0:Lay} {bs:List fY} {k:aI} {w:World} {b:Nat}
theorem stA (hl:aH w y0 bs k) (hb:w.heap.size=b):∃ W0,(w.alloc (.cells (aJ y0 k) 41)).alloc (.cells zSe 41)=W0∧Hid (W0.heap[b]? =some (.cells (aJ y0 k) 41 (0,0)))∧Hid (W0.heap[b + 1]? =some (.cells zSe 41 (0,0)))∧
 Hid (KR.Kept b w W0)∧Hid (aH W0 y0 bs k)∧w.heap.size≤W0.heap.size∧b<W0.heap.size∧b + 1<W0.heap.size:=by
 obtain ⟨q0,q1⟩:=eF w w.heap.size (.cells (aJ y0 k) 41) (.cells zSe 41) rfl;have hb0:Below w.heap.size w ((w.alloc (.cells (aJ y0 k) 41)).alloc (.cells zSe 41)):=bel;rw [hb] at q0 q1;exact ⟨_,rfl,hU q0,hU q1,hU (Kept.of hb0),hU (hl.below hb0),hb0.size,hlt q0,hlt q1⟩
theorem stS (hl:aH w y0 bs k) (hb:w.heap.size + 1 + 1=b):∃ W0,((w.alloc (.cells (aJ y0 k) 41)).alloc (.cells zSe 41)).alloc (.cells #[y0.p,y0.t,.int .i64 k.t.left,y0.s,y0.pi,.int .i64 k.hs,y0.h,.int .u64 k.now,y0.im,y0.ou,y0.ins_,y0.bx,.string k.cons,y0.tr,y0.se,.int .i64 k.want,.int .i64 k.gone] 104)=W0∧Hid (W0.heap[b]? =some (.cells (aJ y0 k) 104 (0,0)))∧Hid (W0.heap[w.heap.size + 1]? =some (.cells zSe 41 (0,0)))∧
 Hid (KR.Kept b w W0)∧Hid (aH W0 y0 bs k)∧w.heap.size≤W0.heap.size∧b<W0.heap.size∧w.heap.size + 1<W0.heap.size∧Hid (((w.alloc (.cells (aJ y0 k) 41)).alloc (.cells zSe 41)).heap[w.heap.size]? =some (.cells (aJ y0 k) 41 (0,0))):=by
 obtain ⟨q0,q1,q2⟩:=gG w w.heap.size (.cells (aJ y0 k) 41) (.cells zSe 41) (.cells #[y0.p,y0.t,.int .i64 k.t.left,y0.s,y0.pi,.int .i64 k.hs,y0.h,.int .u64 k.now,y0.im,y0.ou,y0.ins_,y0.bx,.string k.cons,y0.tr,y0.se,.int .i64 k.want,.int .i64 k.gone] 104) rfl;obtain ⟨r0,r1⟩:=eF w w.heap.size (.cells (aJ y0 k) 41) (.cells zSe 41) rfl;have hb0:Below w.heap.size w (((w.alloc (.cells (aJ y0 k) 41)).alloc (.cells zSe 41)).alloc (.cells #[y0.p,y0.t,.int .i64 k.t.left,y0.s,y0.pi,.int .i64 k.hs,y0.h,.int .u64 k.now,y0.im,y0.ou,y0.ins_,y0.bx,.string k.cons,y0.tr,y0.se,.int .i64 k.want,.int .i64 k.gone] 104)):=bel;rw [hb] at q2;exact ⟨_,rfl,hU q2,hU q1,hU (Kept.of hb0),hU (hl.below hb0),hb0.size,hlt q2,hlt q1,hU r0⟩
