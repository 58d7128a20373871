/- A thing is not other than itself, as Go compares structs. No condition. -/
import Derived.Test.YtalapfkfdhpomaaGreatDoorGWork
import Derived.Test.YtalapfkfdhpomaaGreatDoorGPort
import Derived.Test.YtalapfkfdhpomaaGreatDoorGRo
import Derived.Laws.StructEq
import Derived.Test.YtalapfkfdhpomaaGreatDoorGCpuA
set_option linter.unusedVariables false
set_option linter.unusedSimpArgs false
namespace Go.Proofs.YtalapfkfdhpomaaGreatDoor
open Go.RowKit KR RegT3
namespace Kn
def SameR (w:World) (n:Nat) (iv:Value) (wr:World):Prop:=∃ k:Nat,k≤n∧iv=.int .i64 k∧Below w.heap.size w wr
theorem info_end:(Tryz.prog.info? 57).map (fun i=> i.size)=some 2:=by kernel_rfl
theorem arr_fds (d:Nat) (W:World) (xs ys:Array Value):(Op.equalIn (d + 1) 58 (.agg xs) (.agg ys)).run Tryz.prog W=(eqFrom d 57 2 xs ys 0 4).run Tryz.prog W:=by
 obtain ⟨i,hi,hs⟩:=Option.map_eq_some_iff.1 info_end
 have e:arrOf Tryz.prog 58=(4,57):=by unfold arrOf;rw [Tryz.underlying58]
 have h:=run_equalIn_array (P:=Tryz.prog) W d 58 xs ys i (by rw [e];exact Tryz.underlying58) (by rw [e];exact hi)
 rw [e,hs] at h
 exact h
set_option maxRecDepth 100000 in
theorem neqProc (x:Proc) (W:World):(binOp .neq 62 (.agg (Proc.cells x)) (.agg (Proc.cells x))).run Tryz.prog W=.ok (.bool false) W:=by
 have hA:=arr_regs
 have hF:=arr_fds
 unfold Proc.cells
 go_simp
set_option maxRecDepth 100000 in
theorem neqAlarm (x:Alarm) (W:World):(binOp .neq 64 (.agg (Alarm.cells x)) (.agg (Alarm.cells x))).run Tryz.prog W=.ok (.bool false) W:=by
 unfold Alarm.cells
 go_simp
set_option maxRecDepth 100000 in
theorem neqPipe (x:Pipe) (W:World):(binOp .neq 68 (.agg (Pipe.cells x)) (.agg (Pipe.cells x))).run Tryz.prog W=.ok (.bool false) W:=by
 unfold Pipe.cells
 go_simp
set_option maxRecDepth 100000 in
theorem neqSpan (x:Span) (W:World):(binOp .neq 66 (.agg (Span.cells x)) (.agg (Span.cells x))).run Tryz.prog W=.ok (.bool false) W:=by
 unfold Span.cells
 go_simp
set_option maxRecDepth 100000 in
theorem neqEv (x:Ev) (W:World):(binOp .neq 72 (.agg (Ev.cells x)) (.agg (Ev.cells x))).run Tryz.prog W=.ok (.bool false) W:=by
 unfold Ev.cells
 go_simp
set_option maxRecDepth 100000 in
theorem neqOut (x:Out) (W:World):(binOp .neq 112 (.agg (Out.cells x)) (.agg (Out.cells x))).run Tryz.prog W=.ok (.bool false) W:=by
 unfold Out.cells
 go_simp
set_option maxRecDepth 100000 in
theorem neqChan (x:Chan) (W:World):(binOp .neq 106 (.agg (Chan.cells x)) (.agg (Chan.cells x))).run Tryz.prog W=.ok (.bool false) W:=by
 unfold Chan.cells
 go_simp
set_option maxRecDepth 100000 in
theorem neqMsg (x:Msg) (W:World):(binOp .neq 142 (.agg (Msg.cells x)) (.agg (Msg.cells x))).run Tryz.prog W=.ok (.bool false) W:=by
 unfold Msg.cells
 go_simp
end Kn
end Go.Proofs.YtalapfkfdhpomaaGreatDoor
