/-
  DERIVED. GIVEN WITH THE SEED: THE CARDS: each row of YtiggoojjefmcoaaDoorRows.lean that lists a variable, with what it lists TIED to the program's text (the seventh form; the later family's looks); each row that meets fmt, with fmt's text TOLD by the authors' own Lean function (tested against real Go, not proved from fmt's source: count such statements apart). THE CARD IS WHAT COUNTS. Prove the row's statement (the work); the ties are given (YtiggoojjefmcoaaDoorTie.lean); close each card by the builder's one call (the guide's Derived/Test/ToyasCard.lean, 'card_holds'). Laid BY PROGRAM, IN A SANDBOX (cutbox-door.mjs). By AI agents, Wed Nov 11 2026. No macro, syntax, notation, axiom, sorry.
-/
import Derived.Test.YtiggoojjefmcoaaDoorRows
import GoSem.ClaimSeven
namespace Go.Proofs.YtiggoojjefmcoaaDoor
namespace Rows

/-- THE TIED CARD OF 'transomlaw05.PlanCut'. -/
def planCutCard : Claim7 := { stood := { row := planCutRow, standIns := [], harness := (true, "3c64a212c39aca537c8653cab9546e4b361ed2e8c6efc3324b8c7623440fb04b"), looks := true }, kinds := [], alts := [], laidByText := true, laidKinds := [.handle], laidTests := true, laidLooks := .later }
def PlanCutCardSaid : Prop := Claim7.holds Tryd.pinned (.plain (OpenSpec.ofChange planCutSpec)) planCutCard

/-- THE TIED CARD OF 'transomlaw05.PlanBytes'. -/
def planBytesCard : Claim7 := { stood := { row := planBytesRow, standIns := [], harness := (true, "3c64a212c39aca537c8653cab9546e4b361ed2e8c6efc3324b8c7623440fb04b"), looks := true }, kinds := [], alts := [], laidByText := true, laidKinds := [.handle], laidTests := true, laidLooks := .later }
def PlanBytesCardSaid : Prop := Claim7.holds Tryd.pinned (.plain (OpenSpec.ofChange planBytesSpec)) planBytesCard

/-- THE TIED CARD OF 'transomlaw05.PlanBack'. -/
def planBackCard : Claim7 := { stood := { row := planBackRow, standIns := [], harness := (true, "3c64a212c39aca537c8653cab9546e4b361ed2e8c6efc3324b8c7623440fb04b"), looks := true }, kinds := [], alts := [], laidByText := true, laidKinds := [.handle], laidTests := true, laidLooks := .later }
def PlanBackCardSaid : Prop := Claim7.holds Tryd.pinned (.plain (OpenSpec.ofChange planBackSpec)) planBackCard

/-- THE SECOND FORM's CARD OF 'transomlaw05.PlanCut'. -/
def planCutUptoCard : Claim7 := { stood := { row := planCutUptoRow, standIns := [], harness := (true, "3c64a212c39aca537c8653cab9546e4b361ed2e8c6efc3324b8c7623440fb04b"), looks := true }, kinds := [], alts := [], laidByText := true, laidKinds := [.handle], laidTests := true, laidLooks := .later }
def PlanCutUptoCardSaid : Prop := Claim7.holds Tryd.pinned (.plain (OpenSpec.upto planCutSpec)) planCutUptoCard

/-- THE SECOND FORM's CARD OF 'transomlaw05.PlanBytes'. -/
def planBytesUptoCard : Claim7 := { stood := { row := planBytesUptoRow, standIns := [], harness := (true, "3c64a212c39aca537c8653cab9546e4b361ed2e8c6efc3324b8c7623440fb04b"), looks := true }, kinds := [], alts := [], laidByText := true, laidKinds := [.handle], laidTests := true, laidLooks := .later }
def PlanBytesUptoCardSaid : Prop := Claim7.holds Tryd.pinned (.plain (OpenSpec.upto planBytesSpec)) planBytesUptoCard

/-- THE SECOND FORM's CARD OF 'transomlaw05.PlanBack'. -/
def planBackUptoCard : Claim7 := { stood := { row := planBackUptoRow, standIns := [], harness := (true, "3c64a212c39aca537c8653cab9546e4b361ed2e8c6efc3324b8c7623440fb04b"), looks := true }, kinds := [], alts := [], laidByText := true, laidKinds := [.handle], laidTests := true, laidLooks := .later }
def PlanBackUptoCardSaid : Prop := Claim7.holds Tryd.pinned (.plain (OpenSpec.upto planBackSpec)) planBackUptoCard
end Rows
end Go.Proofs.YtiggoojjefmcoaaDoor
