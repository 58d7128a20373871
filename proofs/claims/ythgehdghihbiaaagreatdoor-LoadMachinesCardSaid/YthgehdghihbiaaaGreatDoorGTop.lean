/- Rows that are handed in, as they are read: of what type their memory is, is not known. Clones of such. Condition: as many as Go can hold. How kern's functions begin: what they are handed lies in boxes. No condition. A row of boxes as make lays it; ways that come together again. Condition: a million at most. -/
import Derived.Test.YthgehdghihbiaaaGreatDoorGWork
import Derived.Laws.OwnMore
set_option linter.unusedVariables false
set_option maxRecDepth 100000
set_option maxHeartbeats 8000000
set_option linter.unusedSimpArgs false
namespace Go.Proofs.YthgehdghihbiaaaGreatDoor
open Go.RowKit KR
namespace Kn
def Rd {α:Type} (sz:Nat) (f:α→Array Value) (W:World) (v:Value) (l:List α):Prop:=
 ∃ a c,v=.slice a l.length c∧l.length≤c∧c≤9223372036854775807∧
   (l=[]∨∃ b off,a=some ⟨b,off,none⟩∧b<W.heap.size∧∀ i x,l[i]? =some x→∀ j u,(f x)[j]? =some u→W.cell? ⟨b,off + i * sz + j,none⟩=some u)
section
variable {α:Type} {sz:Nat} {f:α→Array Value} {W W':World} {v:Value} {l:List α}
theorem _root_.Go.Proofs.YthgehdghihbiaaaGreatDoor.KR.Sl.rd {E:TypeId} (h:Sl E sz f W v l):Rd sz f W v l:=by
 obtain ⟨a,c,rfl,h1,h2,h|⟨b,off,cur,rfl,hb,hc⟩⟩:=h
 · exact ⟨a,c,rfl,h1,h2,.inl h⟩
 · exact ⟨_,c,rfl,h1,h2,.inr ⟨b,off,rfl,hlt hb,fun i x hx j u hj=> (hcell hb _).trans (hc i x hx j u hj)⟩⟩
theorem Rd.nil:Rd sz f W (.slice none 0 0) []:=⟨none,0,rfl,Nat.le_refl _,by omega,.inl rfl⟩
theorem Rd.below (h:Rd sz f W v l) (hb:Below W.heap.size W W'):Rd sz f W' v l:=by
 obtain ⟨a,c,rfl,h1,h2,h|⟨b,off,rfl,hl,hc⟩⟩:=h
 · exact ⟨a,c,rfl,h1,h2,.inl h⟩
 · exact ⟨_,c,rfl,h1,h2,.inr ⟨b,off,rfl,Nat.lt_of_lt_of_le hl hb.size,fun i x hx j u hj=> (hb.cell (p:=⟨b,_,none⟩) hl).trans (hc i x hx j u hj)⟩⟩
theorem Rd.shape (h:Rd sz f W v l):∃ a c,v=.slice a l.length c∧l.length≤c∧c≤9223372036854775807:=by
 obtain ⟨a,c,rfl,h1,h2,_⟩:=h
 exact ⟨a,c,rfl,h1,h2⟩
theorem Rd.elem {a:Option Addr} {n c:Nat} (h:Rd sz f W (.slice a n c) l):n=l.length∧n≤c∧c≤9223372036854775807∧
 ∀ (i:Nat) (x:α),l[i]? =some x→∃ b off,a=some ⟨b,off,none⟩∧b<W.heap.size∧∀ W',Below W.heap.size W W'→∀ j u,(f x)[j]? =some u→W'.cell? ⟨b,off + i * sz + j,none⟩=some u:=by
 obtain ⟨a',c',he,h1,h2,h⟩:=h
 injection he with ha hn hc
 subst ha hn hc
 refine ⟨rfl,h1,h2,fun i x hx=> ?_⟩
 rcases h with rfl|⟨b,off,rfl,hl,hcell⟩
 · simp at hx
 · exact ⟨b,off,rfl,hl,fun W' hb' j u hj=> (hb'.cell (p:=⟨b,_,none⟩) hl).trans (hcell i x hx j u hj)⟩
theorem Rd.flat_cells (hf:∀ x,(f x).size=sz) {b off n c:Nat} (h:Rd sz f W (.slice (some ⟨b,off,none⟩) n c) l):∀ j u,(flat f l)[j]? =some u→W.cell? ⟨b,off + j,none⟩=some u:=by
 obtain ⟨a',c',he,h1,h2,h⟩:=h
 injection he with ha hn hc
 subst ha hn hc
 intro j u hj
 rcases h with rfl|⟨b',off',he,hb,hc⟩
 · simp [flat] at hj
 · injection he with he
   injection he with hb1 ho1 _
   subst hb1 ho1
   have hjl:=(List.getElem?_eq_some_iff.1 hj).1
   rw [flat_length hf] at hjl
   have hsz:0<sz:=Nat.pos_of_ne_zero (fun e=> by subst e;simp at hjl)
   have hi:j / sz<l.length:=Nat.div_lt_of_lt_mul (by rw [Nat.mul_comm];exact hjl)
   have hr:j % sz<sz:=Nat.mod_lt _ hsz
   have hx:=List.getElem?_eq_getElem hi
   have hu:(f l[j / sz])[j % sz]? =some ((f l[j / sz])[j % sz]'(by rw [hf];exact hr)):=Array.getElem?_eq_getElem _
   have h3:=flat_get hf l _ _ hx _ _ hu
   have hdm:j / sz * sz + j % sz=j:=by rw [Nat.mul_comm];exact Nat.div_add_mod j sz
   rw [hdm,hj] at h3
   injection h3 with h3
   rw [h3]
   have h4:=hc _ _ hx _ _ hu
   rw [Nat.add_assoc,hdm] at h4
   exact h4
end
theorem clR {T S:TypeId} {n nb:Nat} {F:FuncId} (hc:Cl T S n nb F) {α:Type} {f:α→Array Value} (hsz:∀ x,(f x).size=n) {v:Value} {l:List α} {w:World} (h:Rd n f w v l) (hones:∀ x ∈ l,∀ u ∈ (f x).toList,u.oneCell'=true) (hb:l.length * nb≤140737488355328:=by omega):
 Calls Tryz.prog F #[v] w fun e w'=> ∃ v',e=.returned v'∧KR.Own T n f w.heap.size w' v' l∧Below w.heap.size w w':=by
 obtain ⟨a,c,rfl,h1,h2⟩:=h.shape
 refine hc α f hsz a c l w (fun ha=> ?_) (fun ad ha j u hj=> ?_) hones hb (by omega)
 · subst ha
   obtain ⟨_,_,he,_,_,hl⟩:=h
   injection he with ha _ _
   rcases hl with rfl|⟨b,off,hb,_⟩
   · rfl
   · rw [← ha] at hb;cases hb
 · subst ha
   have h':=h
   obtain ⟨_,_,he,_,_,hl⟩:=h
   injection he with ha _ _
   rcases hl with rfl|⟨b,off,hb,hbl,_⟩
   · simp [flat] at hj
   · rw [hb] at ha
     injection ha with ha
     subst ha
     rw [add0]
     exact Rd.flat_cells hsz h' j u hj
theorem clStr:Cl 9 43 1 16 88:=by
 have hu:=Tryz.underlying43
 have hi:(Tryz.prog.info? 9).map (fun i=> (i.zero.map (·.cells.size),i.size,i.bytes))=some (some 1,1,16):=by kernel_rfl
 exact clM
theorem cloneStrR (v:Value) (l:List ByteArray) (w:World) (h:Rd 1 strCells w v l) (hn:l.length≤8796093022207):Calls Tryz.prog 88 #[v] w fun e w'=> ∃ v',e=.returned v'∧KR.Own 9 1 strCells w.heap.size w' v' l∧Below w.heap.size w w':=
 clR clStr szStr h (fun x _=> List.all_eq_true.1 (show ((strCells x).toList.all (·.oneCell'))=true from rfl))
theorem clChan:Cl 101 25 5 40 89:=by
 have hu:=Tryz.underlying25
 have hi:(Tryz.prog.info? 101).map (fun i=> (i.zero.map (·.cells.size),i.size,i.bytes))=some (some 5,5,40):=by kernel_rfl
 exact clM
theorem cloneChanR (v:Value) (l:List Chan) (w:World) (h:Rd 5 Chan.cells w v l) (hn:l.length≤68719476736):Calls Tryz.prog 89 #[v] w fun e w'=> ∃ v',e=.returned v'∧KR.Own 101 5 Chan.cells w.heap.size w' v' l∧Below w.heap.size w w':=
 clR clChan szChan h (fun x _=> List.all_eq_true.1 (show ((Chan.cells x).toList.all (·.oneCell'))=true from rfl))
end Kn
end Go.Proofs.YthgehdghihbiaaaGreatDoor
namespace Go.Proofs.YthgehdghihbiaaaGreatDoor
open Go.RowKit KR RegT3
namespace Kn
section
variable {y0:Lay} {bs:List BoxV} {k:Kern} {w:World} {b:Nat}
theorem stA (hl:LayAt w y0 bs k) (hb:w.heap.size=b):∃ W0,(w.alloc (.cells (kcells y0 k) 70)).alloc (.cells #[.slice none 0 0,.slice none 0 0,.int .i64 0,.slice none 0 0,.slice none 0 0,.int .i64 0,.slice none 0 0,.int .u64 0,.slice none 0 0,.slice none 0 0,.slice none 0 0,.slice none 0 0,.string ⟨#[]⟩,.slice none 0 0,.slice none 0 0,.int .i64 0,.int .i64 0] 70)=W0∧Hid (W0.heap[b]? =some (.cells (kcells y0 k) 70 (0,0)))∧Hid (W0.heap[b + 1]? =some (.cells #[.slice none 0 0,.slice none 0 0,.int .i64 0,.slice none 0 0,.slice none 0 0,.int .i64 0,.slice none 0 0,.int .u64 0,.slice none 0 0,.slice none 0 0,.slice none 0 0,.slice none 0 0,.string ⟨#[]⟩,.slice none 0 0,.slice none 0 0,.int .i64 0,.int .i64 0] 70 (0,0)))∧
 Hid (KR.Kept b w W0)∧Hid (LayAt W0 y0 bs k)∧w.heap.size≤W0.heap.size∧b<W0.heap.size∧b + 1<W0.heap.size:=by
 obtain ⟨q0,q1⟩:=two_new w w.heap.size (.cells (kcells y0 k) 70) (.cells #[.slice none 0 0,.slice none 0 0,.int .i64 0,.slice none 0 0,.slice none 0 0,.int .i64 0,.slice none 0 0,.int .u64 0,.slice none 0 0,.slice none 0 0,.slice none 0 0,.slice none 0 0,.string ⟨#[]⟩,.slice none 0 0,.slice none 0 0,.int .i64 0,.int .i64 0] 70) rfl
 have hb0:Below w.heap.size w ((w.alloc (.cells (kcells y0 k) 70)).alloc (.cells #[.slice none 0 0,.slice none 0 0,.int .i64 0,.slice none 0 0,.slice none 0 0,.int .i64 0,.slice none 0 0,.int .u64 0,.slice none 0 0,.slice none 0 0,.slice none 0 0,.slice none 0 0,.string ⟨#[]⟩,.slice none 0 0,.slice none 0 0,.int .i64 0,.int .i64 0] 70)):=bel
 rw [hb] at q0 q1
 exact ⟨_,rfl,hU q0,hU q1,hU (Kept.of hb0),hU (hl.below hb0),hb0.size,hlt q0,hlt q1⟩
theorem stS (hl:LayAt w y0 bs k) (hb:w.heap.size + 1 + 1=b):∃ W0,((w.alloc (.cells (kcells y0 k) 70)).alloc (.cells #[.slice none 0 0,.slice none 0 0,.int .i64 0,.slice none 0 0,.slice none 0 0,.int .i64 0,.slice none 0 0,.int .u64 0,.slice none 0 0,.slice none 0 0,.slice none 0 0,.slice none 0 0,.string ⟨#[]⟩,.slice none 0 0,.slice none 0 0,.int .i64 0,.int .i64 0] 70)).alloc (.cells #[y0.p,y0.t,.int .i64 k.t.left,y0.s,y0.pi,.int .i64 k.hs,y0.h,.int .u64 k.now,y0.im,y0.ou,y0.ins_,y0.bx,.string k.cons,y0.tr,y0.se,.int .i64 k.want,.int .i64 k.gone] 204)=W0∧Hid (W0.heap[b]? =some (.cells (kcells y0 k) 204 (0,0)))∧Hid (W0.heap[w.heap.size + 1]? =some (.cells #[.slice none 0 0,.slice none 0 0,.int .i64 0,.slice none 0 0,.slice none 0 0,.int .i64 0,.slice none 0 0,.int .u64 0,.slice none 0 0,.slice none 0 0,.slice none 0 0,.slice none 0 0,.string ⟨#[]⟩,.slice none 0 0,.slice none 0 0,.int .i64 0,.int .i64 0] 70 (0,0)))∧
 Hid (KR.Kept b w W0)∧Hid (LayAt W0 y0 bs k)∧w.heap.size≤W0.heap.size∧b<W0.heap.size∧w.heap.size + 1<W0.heap.size∧Hid (((w.alloc (.cells (kcells y0 k) 70)).alloc (.cells #[.slice none 0 0,.slice none 0 0,.int .i64 0,.slice none 0 0,.slice none 0 0,.int .i64 0,.slice none 0 0,.int .u64 0,.slice none 0 0,.slice none 0 0,.slice none 0 0,.slice none 0 0,.string ⟨#[]⟩,.slice none 0 0,.slice none 0 0,.int .i64 0,.int .i64 0] 70)).heap[w.heap.size]? =some (.cells (kcells y0 k) 70 (0,0))):=by
 obtain ⟨q0,q1,q2⟩:=three_new w w.heap.size (.cells (kcells y0 k) 70) (.cells #[.slice none 0 0,.slice none 0 0,.int .i64 0,.slice none 0 0,.slice none 0 0,.int .i64 0,.slice none 0 0,.int .u64 0,.slice none 0 0,.slice none 0 0,.slice none 0 0,.slice none 0 0,.string ⟨#[]⟩,.slice none 0 0,.slice none 0 0,.int .i64 0,.int .i64 0] 70) (.cells #[y0.p,y0.t,.int .i64 k.t.left,y0.s,y0.pi,.int .i64 k.hs,y0.h,.int .u64 k.now,y0.im,y0.ou,y0.ins_,y0.bx,.string k.cons,y0.tr,y0.se,.int .i64 k.want,.int .i64 k.gone] 204) rfl
 obtain ⟨r0,r1⟩:=two_new w w.heap.size (.cells (kcells y0 k) 70) (.cells #[.slice none 0 0,.slice none 0 0,.int .i64 0,.slice none 0 0,.slice none 0 0,.int .i64 0,.slice none 0 0,.int .u64 0,.slice none 0 0,.slice none 0 0,.slice none 0 0,.slice none 0 0,.string ⟨#[]⟩,.slice none 0 0,.slice none 0 0,.int .i64 0,.int .i64 0] 70) rfl
 have hb0:Below w.heap.size w (((w.alloc (.cells (kcells y0 k) 70)).alloc (.cells #[.slice none 0 0,.slice none 0 0,.int .i64 0,.slice none 0 0,.slice none 0 0,.int .i64 0,.slice none 0 0,.int .u64 0,.slice none 0 0,.slice none 0 0,.slice none 0 0,.slice none 0 0,.string ⟨#[]⟩,.slice none 0 0,.slice none 0 0,.int .i64 0,.int .i64 0] 70)).alloc (.cells #[y0.p,y0.t,.int .i64 k.t.left,y0.s,y0.pi,.int .i64 k.hs,y0.h,.int .u64 k.now,y0.im,y0.ou,y0.ins_,y0.bx,.string k.cons,y0.tr,y0.se,.int .i64 k.want,.int .i64 k.gone] 204)):=bel
 rw [hb] at q2
 exact ⟨_,rfl,hU q2,hU q1,hU (Kept.of hb0),hU (hl.below hb0),hb0.size,hlt q2,hlt q1,hU r0⟩
end
end Kn
end Go.Proofs.YthgehdghihbiaaaGreatDoor
namespace Go.Proofs.YthgehdghihbiaaaGreatDoor
open Go.RowKit KR
namespace Kn
def zbox:BoxV:=⟨none,0,⟨[],0⟩⟩
theorem zbox_ok (W:World):BoxOk W zbox:=Sl.nil
theorem join5 {A B C D E:Type} {G:Prop} {T F:A→B→C→D→E→Prop} (h1:∀ a b c d e,F a b c d e→T a b c d e) (h2:(∀ a b c d e,F a b c d e→T a b c d e)→G):G:=h2 h1
theorem flat_rep:∀ n:Nat,flat boxCells (List.replicate n zbox)=(List.range (n * 2)).map (fun i=> (#[Value.slice none 0 0,.int .i64 0]:Array Value)[i % 2]!)
 |0=> rfl
 |n + 1=> by
  rw [List.replicate_succ',flat_append,flat_rep n,Nat.add_mul,Nat.one_mul,List.range_succ,List.range_succ,List.map_append,List.map_append,List.append_assoc]
  congr 1
  have h0:n * 2 % 2=0:=by omega
  have h1:(n * 2 + 1) % 2=1:=by omega
  simp [flat,boxCells,zbox,h0,h1]
theorem mkBoxes (w:World) (n:Nat) (hn:n≤1000000):∃ v W',(Instr.makeSlice 66 (.int .i64 (n:Int)) (.int .i64 (n:Int))).run Tryz.prog w=.ok v W'∧Sl 178 2 boxCells W' v (List.replicate n zbox)∧Below w.heap.size w W':=by
 have hi:(Tryz.prog.info? 178).map (fun i=> (i.zero.map (·.cells),i.size,i.bytes))=some (some #[.slice none 0 0,.int .i64 0],2,32):=by kernel_rfl
 cases hq:Tryz.prog.info? 178 with
 |none=> simp [hq] at hi
 |some i=>
  rw [hq] at hi
  simp only [Option.map_some,Option.some.injEq,Prod.mk.injEq] at hi
  obtain ⟨hz,hs,hb⟩:=hi
  cases hz0:i.zero with
  |none=> simp [hz0] at hz
  |some z=>
   rw [hz0] at hz
   simp only [Option.map_some,Option.some.injEq] at hz
   obtain ⟨W',hrun,hown,hg⟩:=run_makeSlice_full (P:=Tryz.prog) w w.heap.size 66 178 i z 2 Tryz.underlying66 hq hz0 hs .i64 .i64 n (by omega) (by rw [hb];omega) (by unfold maxLen;omega) (Nat.le_refl _)
   refine ⟨_,W',hrun,?_,⟨hg.os,hg.tape,hg.output,hg.size,fun k hk=> hg.block k hk (by simp)⟩⟩
   have hO:KR.Own 178 2 boxCells w.heap.size W' (.slice (some ⟨w.heap.size,0,none⟩) n n) (List.replicate n zbox):=by
    unfold KR.Own
    rw [List.length_replicate,flat_rep]
    have:(madeCells z.cells (n * 2)).toList=(List.range (n * 2)).map (fun i=> (#[Value.slice none 0 0,.int .i64 0]:Array Value)[i % 2]!):=by
     rw [hz]
     simp [madeCells,Array.toList_map,Array.toList_range]
    rw [← this]
    exact hown
   exact KR.Own.sl szBox hO
section
variable {P:Program} {ops:Array Oper} {o:Oper} {a:Go.Act} {Q:Exit→Go.Act→World→Prop} {W W':World}
theorem wp_make {K:Go.Act→World→Prop} {t:TypeId} {x y:Operand} (hop:o.op=.makeSlice t x y) {vx vy v:Value} (hx:a.eval x=vx) (hy:a.eval y=vy) (hr:(Instr.makeSlice t vx vy).run P W=.ok v W') (hK:K (a.put o.dst v) W'):o.wp P a W K Q:=by
 unfold Oper.wp execOp
 simp only [hop,hx,hy,Sem.run_bind,hr,Result.andThen_ok,Sem.run_pure]
 exact hK
end
end Kn
end Go.Proofs.YthgehdghihbiaaaGreatDoor
