/- hyper.Step, three of its ways. Conditions: as told. -/
import Derived.Test.YtfncknignkndiaaGreatDoorGHd
set_option linter.unusedVariables false
set_option linter.unusedSimpArgs false
set_option maxRecDepth 100000
set_option maxHeartbeats 8000000
namespace Go.Proofs.YtfncknignkndiaaGreatDoor
open Tryz
open Go.RowKit KR Kn RegT3
namespace Hy
theorem qVe (y:YL) (m:cX) (n:Nat) (w:World) (h:cW w y m) (hg:dP n m) (hn:n≤50000) (hc:xO n (wAt m.p m.sched m.now).1.toNat (gA m)) (hT:Tab w) (hws:fQ m.p m.sched m.now=false) (hph0:(wAt m.p m.sched m.now).2=2) (hst0:∀ s,(gA m).seats[(wAt m.p m.sched m.now).1.toNat]? =some s→s.st=1):
 Calls prog 29 #[.agg (aS y m)] w (oD y (gY m) w):=mS
theorem qVf (y:YL) (m:cX) (n:Nat) (w:World) (h:cW w y m) (hg:dP n m) (hn:n≤50000) (hc:xO n (wAt m.p m.sched m.now).1.toNat (gA m)) (hT:Tab w) (hws:fQ m.p m.sched m.now=false) (hph0:(wAt m.p m.sched m.now).2=2) (hst0:∀ s,(gA m).seats[(wAt m.p m.sched m.now).1.toNat]? =some s→s.st ≠ 1):
 Calls prog 29 #[.agg (aS y m)] w (oD y (gY m) w):=mS
theorem qVg (y:YL) (m:cX) (n:Nat) (w:World) (h:cW w y m) (hg:dP n m) (hn:n≤50000) (hc:xO n (wAt m.p m.sched m.now).1.toNat (gA m)) (hT:Tab w) (hws:fQ m.p m.sched m.now=false) (hph0:(wAt m.p m.sched m.now).2 ≠ 2) (hst0:∀ s,(gA m).seats[(wAt m.p m.sched m.now).1.toNat]? =some s→True):
 Calls prog 29 #[.agg (aS y m)] w (oD y (gY m) w):=mS
theorem qVb (y:YL) (m:cX) (n:Nat) (w:World) (h:cW w y m) (hg:dP n m) (hn:n≤50000) (hc:xO n (wAt m.p m.sched m.now).1.toNat (gA m)) (hT:Tab w) (hws:fQ m.p m.sched m.now=true) (hph0:(wAt m.p m.sched m.now).2=2) (hst0:∀ s,(gA m).seats[(wAt m.p m.sched m.now).1.toNat]? =some s→s.st=1):
 Calls prog 29 #[.agg (aS y m)] w (oD y (gY m) w):=mS
theorem qVc (y:YL) (m:cX) (n:Nat) (w:World) (h:cW w y m) (hg:dP n m) (hn:n≤50000) (hc:xO n (wAt m.p m.sched m.now).1.toNat (gA m)) (hT:Tab w) (hws:fQ m.p m.sched m.now=true) (hph0:(wAt m.p m.sched m.now).2=2) (hst0:∀ s,(gA m).seats[(wAt m.p m.sched m.now).1.toNat]? =some s→s.st ≠ 1):
 Calls prog 29 #[.agg (aS y m)] w (oD y (gY m) w):=mS
theorem qVd (y:YL) (m:cX) (n:Nat) (w:World) (h:cW w y m) (hg:dP n m) (hn:n≤50000) (hc:xO n (wAt m.p m.sched m.now).1.toNat (gA m)) (hT:Tab w) (hws:fQ m.p m.sched m.now=true) (hph0:(wAt m.p m.sched m.now).2 ≠ 2) (hst0:∀ s,(gA m).seats[(wAt m.p m.sched m.now).1.toNat]? =some s→True):
 Calls prog 29 #[.agg (aS y m)] w (oD y (gY m) w):=mS
