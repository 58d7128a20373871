/- hyper.Step, three of its ways. Conditions: a machine that may be; few messages, small ones. -/
import Derived.Test.YtbeakngieodlhaaGreatDoorGHd
set_option linter.unusedVariables false
set_option linter.unusedSimpArgs false
set_option maxRecDepth 100000
set_option maxHeartbeats 8000000
namespace Go.Proofs.YtbeakngieodlhaaGreatDoor
open Go.Proofs.Tryz
open Go.RowKit KR Kn RegT3
namespace Hy
theorem HStepD (y:YL) (m:Mach) (n:Nat) (w:World) (h:SysAt w y m) (hg:MGood n m) (hn:n≤50000) (hc:CycOk n (wAt m.p m.sched m.now).1.toNat (mwin m)) (hT:Tab w) (hws:wStarts m.p m.sched m.now=false) (hph0:(wAt m.p m.sched m.now).2=2) (hst0:∀ s,(mwin m).seats[(wAt m.p m.sched m.now).1.toNat]? =some s→s.st=1):
 Calls prog 32 #[.agg (ycells y m)] w (GivesZ y (mstep m) w):=mS
theorem HStepE (y:YL) (m:Mach) (n:Nat) (w:World) (h:SysAt w y m) (hg:MGood n m) (hn:n≤50000) (hc:CycOk n (wAt m.p m.sched m.now).1.toNat (mwin m)) (hT:Tab w) (hws:wStarts m.p m.sched m.now=false) (hph0:(wAt m.p m.sched m.now).2=2) (hst0:∀ s,(mwin m).seats[(wAt m.p m.sched m.now).1.toNat]? =some s→s.st ≠ 1):
 Calls prog 32 #[.agg (ycells y m)] w (GivesZ y (mstep m) w):=mS
theorem HStepF (y:YL) (m:Mach) (n:Nat) (w:World) (h:SysAt w y m) (hg:MGood n m) (hn:n≤50000) (hc:CycOk n (wAt m.p m.sched m.now).1.toNat (mwin m)) (hT:Tab w) (hws:wStarts m.p m.sched m.now=false) (hph0:(wAt m.p m.sched m.now).2 ≠ 2) (hst0:∀ s,(mwin m).seats[(wAt m.p m.sched m.now).1.toNat]? =some s→True):
 Calls prog 32 #[.agg (ycells y m)] w (GivesZ y (mstep m) w):=mS
end Hy
end Go.Proofs.YtbeakngieodlhaaGreatDoor
