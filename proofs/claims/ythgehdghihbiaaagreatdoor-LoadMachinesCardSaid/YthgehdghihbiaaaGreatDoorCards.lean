/-
  DERIVED. GIVEN WITH THE SEED: THE CARDS: each row of YthgehdghihbiaaaGreatDoorRows.lean that lists a variable, with what it lists TIED to the program's text (the seventh form; the later family's looks); each row that meets fmt, with fmt's text TOLD by the authors' own Lean function (tested against real Go, not proved from fmt's source: count such statements apart). THE CARD IS WHAT COUNTS. Prove the row's statement (the work); the ties are given (YthgehdghihbiaaaGreatDoorTie.lean); close each card by the builder's one call (the guide's Derived/Test/ToyasCard.lean, 'card_holds'). Laid BY PROGRAM, IN A SANDBOX (cutbox-door.mjs). By AI agents, Wed Nov 11 2026. No macro, syntax, notation, axiom, sorry.
-/
import Derived.Test.YthgehdghihbiaaaGreatDoorRows
import GoSem.ClaimSeven
namespace Go.Proofs.YthgehdghihbiaaaGreatDoor
namespace Rows

/-- THE TIED CARD OF 'transomlaw20.LoadMachines'. -/
def loadMachinesCard : Claim7 := { stood := { row := loadMachinesRow, standIns := [], harness := (true, "663609ff90f6e165081d8c825fdfe60ff3f37d0c4f08ac732bdd0aeea4c8ad3c"), looks := true }, kinds := [], alts := [], laidByText := true, laidKinds := [.handle], laidTests := true, laidLooks := .later }
def LoadMachinesCardSaid : Prop := Claim7.holds Tryz.pinned (.plain (OpenSpec.ofChange loadMachinesSpec)) loadMachinesCard

/-- THE SECOND FORM's CARD OF 'transomlaw20.LoadMachines'. -/
def loadMachinesUptoCard : Claim7 := { stood := { row := loadMachinesUptoRow, standIns := [], harness := (true, "663609ff90f6e165081d8c825fdfe60ff3f37d0c4f08ac732bdd0aeea4c8ad3c"), looks := true }, kinds := [], alts := [], laidByText := true, laidKinds := [.handle], laidTests := true, laidLooks := .later }
def LoadMachinesUptoCardSaid : Prop := Claim7.holds Tryz.pinned (.plain (OpenSpec.upto loadMachinesSpec)) loadMachinesUptoCard
end Rows
end Go.Proofs.YthgehdghihbiaaaGreatDoor
