/- A thing is not other than itself, as Go compares structs. No condition. -/
import Derived.Test.YthgehdghihbiaaaGreatDoorGCp
import Derived.Laws.StructEq
set_option linter.unusedVariables false
set_option maxRecDepth 100000
set_option maxHeartbeats 8000000
set_option linter.unusedSimpArgs false
namespace Go.Proofs.YthgehdghihbiaaaGreatDoor
open Go.RowKit KR RegT3
namespace Kn
def SameR (w:World) (n:Nat) (iv:Value) (wr:World):Prop:=∃ k:Nat,k≤n∧iv=.int .i64 k∧Below w.heap.size w wr
theorem info_end:(Tryz.prog.info? 215).map (fun i=> i.size)=some 2:=by kernel_rfl
theorem arr_fds (d:Nat) (W:World) (xs ys:Array Value):(Op.equalIn (d + 1) 216 (.agg xs) (.agg ys)).run Tryz.prog W=(eqFrom d 215 2 xs ys 0 4).run Tryz.prog W:=by
 obtain ⟨i,hi,hs⟩:=Option.map_eq_some_iff.1 info_end
 have e:arrOf Tryz.prog 216=(4,215):=by unfold arrOf;rw [Tryz.underlying216]
 have h:=run_equalIn_array (P:=Tryz.prog) W d 216 xs ys i (by rw [e];exact Tryz.underlying216) (by rw [e];exact hi)
 rw [e,hs] at h
 exact h
theorem neqProc (x:Proc) (W:World):(binOp .neq 220 (.agg (Proc.cells x)) (.agg (Proc.cells x))).run Tryz.prog W=.ok (.bool false) W:=by
 have hA:=arr_regs
 have hF:=arr_fds
 unfold Proc.cells
 go_simp
theorem neqAlarm (x:Alarm) (W:World):(binOp .neq 230 (.agg (Alarm.cells x)) (.agg (Alarm.cells x))).run Tryz.prog W=.ok (.bool false) W:=by
 unfold Alarm.cells
 go_simp
theorem neqPipe (x:Pipe) (W:World):(binOp .neq 232 (.agg (Pipe.cells x)) (.agg (Pipe.cells x))).run Tryz.prog W=.ok (.bool false) W:=by
 unfold Pipe.cells
 go_simp
theorem neqSpan (x:Span) (W:World):(binOp .neq 256 (.agg (Span.cells x)) (.agg (Span.cells x))).run Tryz.prog W=.ok (.bool false) W:=by
 unfold Span.cells
 go_simp
theorem neqEv (x:Ev) (W:World):(binOp .neq 235 (.agg (Ev.cells x)) (.agg (Ev.cells x))).run Tryz.prog W=.ok (.bool false) W:=by
 unfold Ev.cells
 go_simp
theorem neqOut (x:Out) (W:World):(binOp .neq 237 (.agg (Out.cells x)) (.agg (Out.cells x))).run Tryz.prog W=.ok (.bool false) W:=by
 unfold Out.cells
 go_simp
theorem neqChan (x:Chan) (W:World):(binOp .neq 101 (.agg (Chan.cells x)) (.agg (Chan.cells x))).run Tryz.prog W=.ok (.bool false) W:=by
 unfold Chan.cells
 go_simp
theorem neqMsg (x:Msg) (W:World):(binOp .neq 239 (.agg (Msg.cells x)) (.agg (Msg.cells x))).run Tryz.prog W=.ok (.bool false) W:=by
 unfold Msg.cells
 go_simp
abbrev El (E:TypeId) (sz:Nat) (w:World) (a1 a2:Option Addr) (n:Nat):Prop:=∀ k,k<n→∃ g1 o1 g2 o2,∃ cs:Array Value,∃ S:World→Prop,a1=some ⟨g1,o1,none⟩∧a2=some ⟨g2,o2,none⟩∧(∀ W,Below w.heap.size w W→S W)∧(∀ W,S W→(Instr.loadAt E (.pointer (some ⟨g1,o1 + k * sz,none⟩))).run Tryz.prog W=.ok (.agg cs) W)∧
 (∀ W,S W→(Instr.loadAt E (.pointer (some ⟨g2,o2 + k * sz,none⟩))).run Tryz.prog W=.ok (.agg cs) W)∧∀ W:World,(binOp .neq E (.agg cs) (.agg cs)).run Tryz.prog W=.ok (.bool false) W
theorem elem2 {α:Type} {E:TypeId} {sz:Nat} {f:α→Array Value} {w:World} {a1 a2:Option Addr} {n c1 c2:Nat} {l:List α} (ha:Agg Tryz.prog E sz) (hf:∀ x,(f x).size=sz) (hq:∀ (x:α) (W:World),(binOp .neq E (.agg (f x)) (.agg (f x))).run Tryz.prog W=.ok (.bool false) W)
 (h1:Sl E sz f w (.slice a1 n c1) l) (h2:Sl E sz f w (.slice a2 n c2) l):El E sz w a1 a2 n:=fun k hk=> by
 obtain ⟨hn,_,_,e1⟩:=h1.elem
 obtain ⟨x,hx⟩:∃ x,l[k]? =some x:=⟨_,List.getElem?_eq_getElem (by omega)⟩
 obtain ⟨g1,o1,he1,_,q1⟩:=e1 k x hx
 obtain ⟨g2,o2,he2,_,q2⟩:=h2.elem.2.2.2 k x hx
 exact ⟨g1,o1,g2,o2,f x,fun W=> (∀ j u,(f x)[j]? =some u→W.cell? ⟨g1,o1 + k * sz + j,none⟩=some u)∧∀ j u,(f x)[j]? =some u→W.cell? ⟨g2,o2 + k * sz + j,none⟩=some u,he1,he2,fun W h=> ⟨q1 W h,q2 W h⟩,fun W h=> run_load_arr ha (hf x) h.1,fun W h=> run_load_arr ha (hf x) h.2,hq x⟩
abbrev EqSt (F:FuncId) (E:TypeId) (sz:Nat):Prop:=∀ (w:World) (a1 a2:Option Addr) (n c1 c2:Nat),n≤9223372036854775807→El E sz w a1 a2 n→Calls Tryz.prog F #[.slice a1 n c1,.slice a2 n c2] w (Gives (.bool true) w)
theorem eq_of {α:Type} {F:FuncId} {E:TypeId} {sz:Nat} {f:α→Array Value} {w:World} {u v:Value} {l:List α} (h:EqSt F E sz) (ha:Agg Tryz.prog E sz) (hf:∀ x,(f x).size=sz) (hq:∀ (x:α) (W:World),(binOp .neq E (.agg (f x)) (.agg (f x))).run Tryz.prog W=.ok (.bool false) W)
 (h1:Sl E sz f w u l) (h2:Sl E sz f w v l):Calls Tryz.prog F #[u,v] w (Gives (.bool true) w):=by
 obtain ⟨a1,c1,rfl,hm1,hm2⟩:=h1.shape
 obtain ⟨a2,c2,rfl,_,_⟩:=h2.shape
 exact h w a1 a2 _ c1 c2 (Nat.le_trans hm1 hm2) (elem2 ha hf hq h1 h2)
end Kn
end Go.Proofs.YthgehdghihbiaaaGreatDoor
