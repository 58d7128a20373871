/-
  DERIVED. GIVEN WITH THE SEED: THE CARDS: each row of YtllemloicianmaaDoorRows.lean that lists a variable, with what it lists TIED to the program's text (the seventh form; the later family's looks); each row that meets fmt, with fmt's text TOLD by the authors' own Lean function (tested against real Go, not proved from fmt's source: count such statements apart). THE CARD IS WHAT COUNTS. Prove the row's statement (the work); the ties are given (YtllemloicianmaaDoorTie.lean); close each card by the builder's one call (the guide's Derived/Test/ToyasCard.lean, 'card_holds'). Laid BY PROGRAM, IN A SANDBOX (cutbox-door.mjs). By AI agents, Wed Nov 11 2026. No macro, syntax, notation, axiom, sorry.
-/
import Derived.Test.YtllemloicianmaaDoorRows
import GoSem.ClaimSeven
namespace Go.Proofs.YtllemloicianmaaDoor
namespace Rows

/-- THE TIED CARD OF 'transomlaw03.CpuDoes'. -/
def cpuDoesCard : Claim7 := { stood := { row := cpuDoesRow, standIns := [], harness := (true, "5b4cf198f3faa9c5abd0582d838641b863fb45cd607f6216b10553c372241d36"), looks := false }, kinds := [], alts := [], laidByText := true, laidKinds := [.data], laidTests := true, laidLooks := .later }
def CpuDoesCardSaid : Prop := Claim7.holds Tryd.pinned (.plain (OpenSpec.ofChange cpuDoesSpec)) cpuDoesCard

/-- THE TIED CARD OF 'transomlaw03.CpuGoes'. -/
def cpuGoesCard : Claim7 := { stood := { row := cpuGoesRow, standIns := [], harness := (true, "5b4cf198f3faa9c5abd0582d838641b863fb45cd607f6216b10553c372241d36"), looks := false }, kinds := [], alts := [], laidByText := true, laidKinds := [.data], laidTests := true, laidLooks := .later }
def CpuGoesCardSaid : Prop := Claim7.holds Tryd.pinned (.plain (OpenSpec.ofChange cpuGoesSpec)) cpuGoesCard

/-- THE TIED CARD OF 'transomlaw03.CpuUndoes'. -/
def cpuUndoesCard : Claim7 := { stood := { row := cpuUndoesRow, standIns := [], harness := (true, "5b4cf198f3faa9c5abd0582d838641b863fb45cd607f6216b10553c372241d36"), looks := false }, kinds := [], alts := [], laidByText := true, laidKinds := [.data], laidTests := true, laidLooks := .later }
def CpuUndoesCardSaid : Prop := Claim7.holds Tryd.pinned (.plain (OpenSpec.ofChange cpuUndoesSpec)) cpuUndoesCard

/-- THE TIED CARD OF 'transomlaw03.CpuSteps'. -/
def cpuStepsCard : Claim7 := { stood := { row := cpuStepsRow, standIns := [], harness := (true, "5b4cf198f3faa9c5abd0582d838641b863fb45cd607f6216b10553c372241d36"), looks := false }, kinds := [], alts := [], laidByText := true, laidKinds := [.data], laidTests := true, laidLooks := .later }
def CpuStepsCardSaid : Prop := Claim7.holds Tryd.pinned (.plain (OpenSpec.ofChange cpuStepsSpec)) cpuStepsCard

/-- THE TIED CARD OF 'transomlaw03.CpuStays'. -/
def cpuStaysCard : Claim7 := { stood := { row := cpuStaysRow, standIns := [], harness := (true, "5b4cf198f3faa9c5abd0582d838641b863fb45cd607f6216b10553c372241d36"), looks := false }, kinds := [], alts := [], laidByText := true, laidKinds := [.data], laidTests := true, laidLooks := .later }
def CpuStaysCardSaid : Prop := Claim7.holds Tryd.pinned (.plain (OpenSpec.ofChange cpuStaysSpec)) cpuStaysCard

/-- THE TIED CARD OF 'transomlaw03.CpuOwn'. -/
def cpuOwnCard : Claim7 := { stood := { row := cpuOwnRow, standIns := [], harness := (true, "5b4cf198f3faa9c5abd0582d838641b863fb45cd607f6216b10553c372241d36"), looks := false }, kinds := [], alts := [], laidByText := true, laidKinds := [.data], laidTests := true, laidLooks := .later }
def CpuOwnCardSaid : Prop := Claim7.holds Tryd.pinned (.plain (OpenSpec.ofChange cpuOwnSpec)) cpuOwnCard

/-- THE TIED CARD OF 'transomlaw03.CpuPlain'. -/
def cpuPlainCard : Claim7 := { stood := { row := cpuPlainRow, standIns := [], harness := (true, "5b4cf198f3faa9c5abd0582d838641b863fb45cd607f6216b10553c372241d36"), looks := false }, kinds := [], alts := [], laidByText := true, laidKinds := [.data], laidTests := true, laidLooks := .later }
def CpuPlainCardSaid : Prop := Claim7.holds Tryd.pinned (.plain (OpenSpec.ofChange cpuPlainSpec)) cpuPlainCard

/-- THE TIED CARD OF 'transomlaw03.CpuRuns'. -/
def cpuRunsCard : Claim7 := { stood := { row := cpuRunsRow, standIns := [], harness := (true, "5b4cf198f3faa9c5abd0582d838641b863fb45cd607f6216b10553c372241d36"), looks := false }, kinds := [], alts := [], laidByText := true, laidKinds := [.data], laidTests := true, laidLooks := .later }
def CpuRunsCardSaid : Prop := Claim7.holds Tryd.pinned (.plain (OpenSpec.ofChange cpuRunsSpec)) cpuRunsCard

/-- THE TIED CARD OF 'transomlaw03.CpuParts'. -/
def cpuPartsCard : Claim7 := { stood := { row := cpuPartsRow, standIns := [], harness := (true, "5b4cf198f3faa9c5abd0582d838641b863fb45cd607f6216b10553c372241d36"), looks := false }, kinds := [], alts := [], laidByText := true, laidKinds := [.data], laidTests := true, laidLooks := .later }
def CpuPartsCardSaid : Prop := Claim7.holds Tryd.pinned (.plain (OpenSpec.ofChange cpuPartsSpec)) cpuPartsCard

/-- THE SECOND FORM's CARD OF 'transomlaw03.CpuDoes'. -/
def cpuDoesUptoCard : Claim7 := { stood := { row := cpuDoesUptoRow, standIns := [], harness := (true, "5b4cf198f3faa9c5abd0582d838641b863fb45cd607f6216b10553c372241d36"), looks := false }, kinds := [], alts := [], laidByText := true, laidKinds := [.data], laidTests := true, laidLooks := .later }
def CpuDoesUptoCardSaid : Prop := Claim7.holds Tryd.pinned (.plain (OpenSpec.upto cpuDoesSpec)) cpuDoesUptoCard

/-- THE SECOND FORM's CARD OF 'transomlaw03.CpuGoes'. -/
def cpuGoesUptoCard : Claim7 := { stood := { row := cpuGoesUptoRow, standIns := [], harness := (true, "5b4cf198f3faa9c5abd0582d838641b863fb45cd607f6216b10553c372241d36"), looks := false }, kinds := [], alts := [], laidByText := true, laidKinds := [.data], laidTests := true, laidLooks := .later }
def CpuGoesUptoCardSaid : Prop := Claim7.holds Tryd.pinned (.plain (OpenSpec.upto cpuGoesSpec)) cpuGoesUptoCard

/-- THE SECOND FORM's CARD OF 'transomlaw03.CpuUndoes'. -/
def cpuUndoesUptoCard : Claim7 := { stood := { row := cpuUndoesUptoRow, standIns := [], harness := (true, "5b4cf198f3faa9c5abd0582d838641b863fb45cd607f6216b10553c372241d36"), looks := false }, kinds := [], alts := [], laidByText := true, laidKinds := [.data], laidTests := true, laidLooks := .later }
def CpuUndoesUptoCardSaid : Prop := Claim7.holds Tryd.pinned (.plain (OpenSpec.upto cpuUndoesSpec)) cpuUndoesUptoCard

/-- THE SECOND FORM's CARD OF 'transomlaw03.CpuSteps'. -/
def cpuStepsUptoCard : Claim7 := { stood := { row := cpuStepsUptoRow, standIns := [], harness := (true, "5b4cf198f3faa9c5abd0582d838641b863fb45cd607f6216b10553c372241d36"), looks := false }, kinds := [], alts := [], laidByText := true, laidKinds := [.data], laidTests := true, laidLooks := .later }
def CpuStepsUptoCardSaid : Prop := Claim7.holds Tryd.pinned (.plain (OpenSpec.upto cpuStepsSpec)) cpuStepsUptoCard

/-- THE SECOND FORM's CARD OF 'transomlaw03.CpuStays'. -/
def cpuStaysUptoCard : Claim7 := { stood := { row := cpuStaysUptoRow, standIns := [], harness := (true, "5b4cf198f3faa9c5abd0582d838641b863fb45cd607f6216b10553c372241d36"), looks := false }, kinds := [], alts := [], laidByText := true, laidKinds := [.data], laidTests := true, laidLooks := .later }
def CpuStaysUptoCardSaid : Prop := Claim7.holds Tryd.pinned (.plain (OpenSpec.upto cpuStaysSpec)) cpuStaysUptoCard

/-- THE SECOND FORM's CARD OF 'transomlaw03.CpuOwn'. -/
def cpuOwnUptoCard : Claim7 := { stood := { row := cpuOwnUptoRow, standIns := [], harness := (true, "5b4cf198f3faa9c5abd0582d838641b863fb45cd607f6216b10553c372241d36"), looks := false }, kinds := [], alts := [], laidByText := true, laidKinds := [.data], laidTests := true, laidLooks := .later }
def CpuOwnUptoCardSaid : Prop := Claim7.holds Tryd.pinned (.plain (OpenSpec.upto cpuOwnSpec)) cpuOwnUptoCard

/-- THE SECOND FORM's CARD OF 'transomlaw03.CpuPlain'. -/
def cpuPlainUptoCard : Claim7 := { stood := { row := cpuPlainUptoRow, standIns := [], harness := (true, "5b4cf198f3faa9c5abd0582d838641b863fb45cd607f6216b10553c372241d36"), looks := false }, kinds := [], alts := [], laidByText := true, laidKinds := [.data], laidTests := true, laidLooks := .later }
def CpuPlainUptoCardSaid : Prop := Claim7.holds Tryd.pinned (.plain (OpenSpec.upto cpuPlainSpec)) cpuPlainUptoCard

/-- THE SECOND FORM's CARD OF 'transomlaw03.CpuRuns'. -/
def cpuRunsUptoCard : Claim7 := { stood := { row := cpuRunsUptoRow, standIns := [], harness := (true, "5b4cf198f3faa9c5abd0582d838641b863fb45cd607f6216b10553c372241d36"), looks := false }, kinds := [], alts := [], laidByText := true, laidKinds := [.data], laidTests := true, laidLooks := .later }
def CpuRunsUptoCardSaid : Prop := Claim7.holds Tryd.pinned (.plain (OpenSpec.upto cpuRunsSpec)) cpuRunsUptoCard

/-- THE SECOND FORM's CARD OF 'transomlaw03.CpuParts'. -/
def cpuPartsUptoCard : Claim7 := { stood := { row := cpuPartsUptoRow, standIns := [], harness := (true, "5b4cf198f3faa9c5abd0582d838641b863fb45cd607f6216b10553c372241d36"), looks := false }, kinds := [], alts := [], laidByText := true, laidKinds := [.data], laidTests := true, laidLooks := .later }
def CpuPartsUptoCardSaid : Prop := Claim7.holds Tryd.pinned (.plain (OpenSpec.upto cpuPartsSpec)) cpuPartsUptoCard
end Rows
end Go.Proofs.YtllemloicianmaaDoor
