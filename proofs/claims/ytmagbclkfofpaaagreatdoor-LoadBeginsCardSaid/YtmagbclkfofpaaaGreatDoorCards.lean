/-
  DERIVED. GIVEN WITH THE SEED: THE CARDS: each row of YtmagbclkfofpaaaGreatDoorRows.lean that lists a variable, with what it lists TIED to the program's text (the seventh form; the later family's looks); each row that meets fmt, with fmt's text TOLD by the authors' own Lean function (tested against real Go, not proved from fmt's source: count such statements apart). THE CARD IS WHAT COUNTS. Prove the row's statement (the work); the ties are given (YtmagbclkfofpaaaGreatDoorTie.lean); close each card by the builder's one call (the guide's Derived/Test/ToyasCard.lean, 'card_holds'). Laid BY PROGRAM, IN A SANDBOX (cutbox-door.mjs). By AI agents, Wed Nov 11 2026. No macro, syntax, notation, axiom, sorry.
-/
import Derived.Test.YtmagbclkfofpaaaGreatDoorRows
import GoSem.ClaimSeven
namespace Go.Proofs.YtmagbclkfofpaaaGreatDoor
namespace Rows

/-- THE TIED CARD OF 'transomlaw20.LoadBegins'. -/
def loadBeginsCard : Claim7 := { stood := { row := loadBeginsRow, standIns := [], harness := (true, "989a97584b9669977eb00c3e8a6bc4d554d45ad42cbb0d67e30021f6fd959672"), looks := true }, kinds := [], alts := [], laidByText := true, laidKinds := [.handle], laidTests := true, laidLooks := .later }
def LoadBeginsCardSaid : Prop := Claim7.holds Tryz.pinned (.plain (OpenSpec.ofChange loadBeginsSpec)) loadBeginsCard

/-- THE SECOND FORM's CARD OF 'transomlaw20.LoadBegins'. -/
def loadBeginsUptoCard : Claim7 := { stood := { row := loadBeginsUptoRow, standIns := [], harness := (true, "989a97584b9669977eb00c3e8a6bc4d554d45ad42cbb0d67e30021f6fd959672"), looks := true }, kinds := [], alts := [], laidByText := true, laidKinds := [.handle], laidTests := true, laidLooks := .later }
def LoadBeginsUptoCardSaid : Prop := Claim7.holds Tryz.pinned (.plain (OpenSpec.upto loadBeginsSpec)) loadBeginsUptoCard
end Rows
end Go.Proofs.YtmagbclkfofpaaaGreatDoor
