/- slices.Clone, one proof for every type: the same things in memory of the call's own. Condition: as many as Go can hold. -/
import Derived.Test.YthgehdghihbiaaaGreatDoorG1
set_option linter.unusedVariables false
set_option maxRecDepth 100000
set_option maxHeartbeats 8000000
set_option linter.unusedSimpArgs false
namespace Go.Proofs.YthgehdghihbiaaaGreatDoor
open Go.RowKit KR
namespace Kn
def Cl (T S:TypeId) (n nb:Nat) (F:FuncId):Prop:=∀ (α:Type) (f:α→Array Value) (hsz:∀ x,(f x).size=n) (a:Option Addr) (c:Nat) (l:List α) (w:World),(a=none→l=[])→(∀ ad,a=some ad→∀ j u,(flat f l)[j]? =some u→w.cell? (ad.add j)=some u)→(∀ x ∈ l,∀ u ∈ (f x).toList,u.oneCell'=true)→l.length * nb≤140737488355328→l.length≤9223372036854775807→
 Calls Tryz.prog F #[.slice a l.length c] w fun e w'=> ∃ v',e=.returned v'∧KR.Own T n f w.heap.size w' v' l∧Below w.heap.size w w'
theorem cell_ltC {w:World} {a:Addr} {v:Value} (h:w.cell? a=some v):a.block<w.heap.size:=by
 rcases Nat.lt_or_ge a.block w.heap.size with h'|h'
 · exact h'
 · simp [World.cell?,Array.getElem?_eq_none h'] at h
theorem clP {T S:TypeId} {n nb:Nat} (hu:Tryz.prog.underlying S=some (.slice T)) (hi:(Tryz.prog.info? T).map (fun i=> (i.zero.map (·.cells.size),i.size,i.bytes))=some (some n,n,nb)) (hn0:0<n) {α:Type} {f:α→Array Value} (hsz:∀ x,(f x).size=n) (ad:Addr) (c:Nat) (l:List α) (w:World)
 (hcells:∀ j u,(flat f l)[j]? =some u→w.cell? (ad.add j)=some u) (hones:∀ x ∈ l,∀ u ∈ (f x).toList,u.oneCell'=true) (hb:l.length * nb≤140737488355328) (hl:l.length≤9223372036854775807):
 ∃ v' W',(Builtin.append_ #[S,S] S #[.slice (some ⟨w.heap.size,0,none⟩) 0 0,.slice (some ad) l.length c]).run Tryz.prog (w.alloc (.cells #[] T))=.ok v' W'∧KR.Own T n f w.heap.size W' v' l∧Below w.heap.size w W':=by
 obtain ⟨i,z,hi0,hz,hzs,hs,hby⟩:=info_cells hi
 have hcl:∀ o j u,(flat f l)[j]? =some u→(w.alloc o).cell? (ad.add j)=some u:=fun o j u hj=> (((Below.refl w.heap.size w).alloc (Nat.le_refl _) o).cell (cell_ltC (hcells j u hj))).trans (hcells j u hj)
 obtain ⟨v',W',hrun,hown',hgrow,_⟩:=run_append_own (P:=Tryz.prog) (w.alloc (.cells #[] T)) w.heap.size S S T i z n nb hu hi0 hz hs hby hzs hn0 (.slice (some ⟨w.heap.size,0,none⟩) 0 0) 0 []
  (World.ownsRow_made w #[] 0 (Nat.le_refl _) (Nat.zero_le _) (by simp)) ad l.length c (flat f l) (flat_length hsz l) (hcl _)
  (by intro u hu;unfold flat at hu;rw [List.mem_flatMap] at hu;obtain ⟨x,hx1,hx⟩:=hu;exact hones x hx1 u hx)
  (by unfold maxLen;omega) (by rw [Nat.zero_add];exact hb) (by simp)
 refine ⟨v',W',hrun,by simpa [KR.Own] using hown',⟨hgrow.os,hgrow.tape,hgrow.output,by have:=hgrow.size;simp at this;omega,fun k hk=> by
  rw [hgrow.block k (by simp;omega) (by simp [Value.ownBlock];omega),Lib.alloc_old w _ k hk]⟩⟩
theorem clM {Q:Prop} (h:Q:=by
 intro α f hsz a c l w h0 h1 hones hb hl
 have q:=fun (w:World) (a:Option Addr) (n c n' c':Nat)=> Lib.run_eql_slice_nil (P:=Tryz.prog) w _ _ a n c n' c' hu
 cases a with
 |none=>
  obtain rfl:=h0 rfl
  clear h1 hones hb hl h0
  go_in
  repeat' (first|go_values|go_skip|go_guarded|(with_reducible refine wg ?_)|go_step|go_upon)
  go_ret
  exact ⟨_,rfl,KR.Own.nil _ _ _ _ _,Below.refl _ _⟩
 |some ad=>
  obtain ⟨v',W',hrun,hO,hB⟩:=clP hu hi (by decide) hsz ad c l w (h1 ad rfl) hones hb hl
  have HRUN:=hU hrun
  have HO:=hU hO
  have HB:=hU hB
  clear h0 h1 hones hb hl hrun hO hB
  go_in
  repeat' (first|(at_builtin;refine wpList_append_run _ rfl _ _ _ _ rfl _ _ rfl rfl _ _ HRUN.out ?_)|go_values|go_skip|go_guarded|(with_reducible refine wg ?_)|go_step|go_upon)
  go_ret
  exact ⟨_,rfl,HO.out,HB.out⟩):Q:=h
theorem clS {T S:TypeId} {n nb:Nat} {F:FuncId} (hc:Cl T S n nb F) {α:Type} {f:α→Array Value} (hsz:∀ x,(f x).size=n) {v:Value} {l:List α} {w:World} (h:Sl T n f w v l) (hones:∀ x ∈ l,∀ u ∈ (f x).toList,u.oneCell'=true) (hb:l.length * nb≤140737488355328:=by omega):
 Calls Tryz.prog F #[v] w fun e w'=> ∃ v',e=.returned v'∧KR.Own T n f w.heap.size w' v' l∧Below w.heap.size w w':=by
 obtain ⟨a,c,rfl,h1,h2⟩:=h.shape
 refine hc α f hsz a c l w (fun ha=> ?_) (fun ad ha j u hj=> ?_) hones hb (by omega)
 · subst ha
   obtain ⟨_,_,he,_,_,hl⟩:=h
   injection he with ha _ _
   rcases hl with rfl|⟨b,off,cur,hb,_⟩
   · rfl
   · rw [← ha] at hb;cases hb
 · subst ha
   have h':=h
   obtain ⟨_,_,he,_,_,hl⟩:=h
   injection he with ha _ _
   rcases hl with rfl|⟨b,off,cur,hb,hbl,_⟩
   · simp [flat] at hj
   · rw [hb] at ha
     injection ha with ha
     subst ha
     rw [add0]
     exact Sl.flat_cells hsz h' j u hj
theorem clProc:Cl 220 57 26 168 119:=by
 have hu:=Tryz.underlying57
 have hi:(Tryz.prog.info? 220).map (fun i=> (i.zero.map (·.cells.size),i.size,i.bytes))=some (some 26,26,168):=by kernel_rfl
 exact clM
theorem cloneProc (v:Value) (l:List Proc) (w:World) (h:Sl 220 26 Proc.cells w v l) (hn:l.length≤68719476736):Calls Tryz.prog 119 #[v] w fun e w'=> ∃ v',e=.returned v'∧Own 220 26 Proc.cells w.heap.size w' v' l∧Below w.heap.size w w':=
 clS clProc szProc h (fun x _=> List.all_eq_true.1 (show ((Proc.cells x).toList.all (·.oneCell'))=true from rfl))
theorem clSpan:Cl 256 63 3 24 117:=by
 have hu:=Tryz.underlying63
 have hi:(Tryz.prog.info? 256).map (fun i=> (i.zero.map (·.cells.size),i.size,i.bytes))=some (some 3,3,24):=by kernel_rfl
 exact clM
theorem cloneSpan (v:Value) (l:List Span) (w:World) (h:Sl 256 3 Span.cells w v l) (hn:l.length≤68719476736):Calls Tryz.prog 117 #[v] w fun e w'=> ∃ v',e=.returned v'∧Own 256 3 Span.cells w.heap.size w' v' l∧Below w.heap.size w w':=
 clS clSpan szSpan h (fun x _=> List.all_eq_true.1 (show ((Span.cells x).toList.all (·.oneCell'))=true from rfl))
theorem clPipe:Cl 232 62 3 32 118:=by
 have hu:=Tryz.underlying62
 have hi:(Tryz.prog.info? 232).map (fun i=> (i.zero.map (·.cells.size),i.size,i.bytes))=some (some 3,3,32):=by kernel_rfl
 exact clM
theorem clonePipe (v:Value) (l:List Pipe) (w:World) (h:Sl 232 3 Pipe.cells w v l) (hn:l.length≤68719476736):Calls Tryz.prog 118 #[v] w fun e w'=> ∃ v',e=.returned v'∧Own 232 3 Pipe.cells w.heap.size w' v' l∧Below w.heap.size w w':=
 clS clPipe szPipe h (fun x _=> List.all_eq_true.1 (show ((Pipe.cells x).toList.all (·.oneCell'))=true from rfl))
end Kn
end Go.Proofs.YthgehdghihbiaaaGreatDoor
