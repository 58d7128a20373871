/-
  DERIVED. GIVEN WITH THE SEED: THE CARDS: each row of YtalapfkfdhpomaaGreatDoorRows.lean that lists a variable, with what it lists TIED to the program's text (the seventh form; the later family's looks); each row that meets fmt, with fmt's text TOLD by the authors' own Lean function (tested against real Go, not proved from fmt's source: count such statements apart). THE CARD IS WHAT COUNTS. Prove the row's statement (the work); the ties are given (YtalapfkfdhpomaaGreatDoorTie.lean); close each card by the builder's one call (the guide's Derived/Test/ToyasCard.lean, 'card_holds'). Laid BY PROGRAM, IN A SANDBOX (cutbox-door.mjs). By AI agents, Wed Nov 11 2026. No macro, syntax, notation, axiom, sorry.
-/
import Derived.Test.YtalapfkfdhpomaaGreatDoorRows
import GoSem.ClaimSeven
namespace Go.Proofs.YtalapfkfdhpomaaGreatDoor
namespace Rows

/-- THE TIED CARD OF 'transomlaw13.KernClock'. -/
def kernClockCard : Claim7 := { stood := { row := kernClockRow, standIns := [], harness := (true, "768acf2c9166406e93721338774e802964ee017c8dcf668b078a6560ecb76491"), looks := false }, kinds := [], alts := [], laidByText := true, laidKinds := [.data], laidTests := true, laidLooks := .later }
def KernClockCardSaid : Prop := Claim7.holds Tryz.pinned (.plain (OpenSpec.ofChange kernClockSpec)) kernClockCard

/-- THE TIED CARD OF 'transomlaw13.KernRight'. -/
def kernRightCard : Claim7 := { stood := { row := kernRightRow, standIns := [], harness := (true, "768acf2c9166406e93721338774e802964ee017c8dcf668b078a6560ecb76491"), looks := false }, kinds := [], alts := [], laidByText := true, laidKinds := [.data], laidTests := true, laidLooks := .later }
def KernRightCardSaid : Prop := Claim7.holds Tryz.pinned (.plain (OpenSpec.ofChange kernRightSpec)) kernRightCard

/-- THE TIED CARD OF 'transomlaw13.KernEnds'. -/
def kernEndsCard : Claim7 := { stood := { row := kernEndsRow, standIns := [], harness := (true, "768acf2c9166406e93721338774e802964ee017c8dcf668b078a6560ecb76491"), looks := false }, kinds := [], alts := [], laidByText := true, laidKinds := [.data], laidTests := true, laidLooks := .later }
def KernEndsCardSaid : Prop := Claim7.holds Tryz.pinned (.plain (OpenSpec.ofChange kernEndsSpec)) kernEndsCard

/-- THE TIED CARD OF 'transomlaw13.KernTells'. -/
def kernTellsCard : Claim7 := { stood := { row := kernTellsRow, standIns := [], harness := (true, "768acf2c9166406e93721338774e802964ee017c8dcf668b078a6560ecb76491"), looks := false }, kinds := [], alts := [], laidByText := true, laidKinds := [.data], laidTests := true, laidLooks := .later }
def KernTellsCardSaid : Prop := Claim7.holds Tryz.pinned (.plain (OpenSpec.ofChange kernTellsSpec)) kernTellsCard

/-- THE TIED CARD OF 'transomlaw13.KernParts'. -/
def kernPartsCard : Claim7 := { stood := { row := kernPartsRow, standIns := [], harness := (true, "768acf2c9166406e93721338774e802964ee017c8dcf668b078a6560ecb76491"), looks := false }, kinds := [], alts := [], laidByText := true, laidKinds := [.data], laidTests := true, laidLooks := .later }
def KernPartsCardSaid : Prop := Claim7.holds Tryz.pinned (.plain (OpenSpec.ofChange kernPartsSpec)) kernPartsCard

/-- THE TIED CARD OF 'transomlaw13.KernOver'. -/
def kernOverCard : Claim7 := { stood := { row := kernOverRow, standIns := [], harness := (true, "768acf2c9166406e93721338774e802964ee017c8dcf668b078a6560ecb76491"), looks := false }, kinds := [], alts := [], laidByText := true, laidKinds := [.data], laidTests := true, laidLooks := .later }
def KernOverCardSaid : Prop := Claim7.holds Tryz.pinned (.plain (OpenSpec.ofChange kernOverSpec)) kernOverCard

/-- THE TIED CARD OF 'transomlaw13.KernZombies'. -/
def kernZombiesCard : Claim7 := { stood := { row := kernZombiesRow, standIns := [], harness := (true, "768acf2c9166406e93721338774e802964ee017c8dcf668b078a6560ecb76491"), looks := false }, kinds := [], alts := [], laidByText := true, laidKinds := [.data], laidTests := true, laidLooks := .later }
def KernZombiesCardSaid : Prop := Claim7.holds Tryz.pinned (.plain (OpenSpec.ofChange kernZombiesSpec)) kernZombiesCard

/-- THE TIED CARD OF 'transomlaw13.KernBlind'. -/
def kernBlindCard : Claim7 := { stood := { row := kernBlindRow, standIns := [], harness := (true, "768acf2c9166406e93721338774e802964ee017c8dcf668b078a6560ecb76491"), looks := false }, kinds := [], alts := [], laidByText := true, laidKinds := [.data], laidTests := true, laidLooks := .later }
def KernBlindCardSaid : Prop := Claim7.holds Tryz.pinned (.plain (OpenSpec.ofChange kernBlindSpec)) kernBlindCard

/-- THE SECOND FORM's CARD OF 'transomlaw13.KernClock'. -/
def kernClockUptoCard : Claim7 := { stood := { row := kernClockUptoRow, standIns := [], harness := (true, "768acf2c9166406e93721338774e802964ee017c8dcf668b078a6560ecb76491"), looks := false }, kinds := [], alts := [], laidByText := true, laidKinds := [.data], laidTests := true, laidLooks := .later }
def KernClockUptoCardSaid : Prop := Claim7.holds Tryz.pinned (.plain (OpenSpec.upto kernClockSpec)) kernClockUptoCard

/-- THE SECOND FORM's CARD OF 'transomlaw13.KernRight'. -/
def kernRightUptoCard : Claim7 := { stood := { row := kernRightUptoRow, standIns := [], harness := (true, "768acf2c9166406e93721338774e802964ee017c8dcf668b078a6560ecb76491"), looks := false }, kinds := [], alts := [], laidByText := true, laidKinds := [.data], laidTests := true, laidLooks := .later }
def KernRightUptoCardSaid : Prop := Claim7.holds Tryz.pinned (.plain (OpenSpec.upto kernRightSpec)) kernRightUptoCard

/-- THE SECOND FORM's CARD OF 'transomlaw13.KernEnds'. -/
def kernEndsUptoCard : Claim7 := { stood := { row := kernEndsUptoRow, standIns := [], harness := (true, "768acf2c9166406e93721338774e802964ee017c8dcf668b078a6560ecb76491"), looks := false }, kinds := [], alts := [], laidByText := true, laidKinds := [.data], laidTests := true, laidLooks := .later }
def KernEndsUptoCardSaid : Prop := Claim7.holds Tryz.pinned (.plain (OpenSpec.upto kernEndsSpec)) kernEndsUptoCard

/-- THE SECOND FORM's CARD OF 'transomlaw13.KernTells'. -/
def kernTellsUptoCard : Claim7 := { stood := { row := kernTellsUptoRow, standIns := [], harness := (true, "768acf2c9166406e93721338774e802964ee017c8dcf668b078a6560ecb76491"), looks := false }, kinds := [], alts := [], laidByText := true, laidKinds := [.data], laidTests := true, laidLooks := .later }
def KernTellsUptoCardSaid : Prop := Claim7.holds Tryz.pinned (.plain (OpenSpec.upto kernTellsSpec)) kernTellsUptoCard

/-- THE SECOND FORM's CARD OF 'transomlaw13.KernParts'. -/
def kernPartsUptoCard : Claim7 := { stood := { row := kernPartsUptoRow, standIns := [], harness := (true, "768acf2c9166406e93721338774e802964ee017c8dcf668b078a6560ecb76491"), looks := false }, kinds := [], alts := [], laidByText := true, laidKinds := [.data], laidTests := true, laidLooks := .later }
def KernPartsUptoCardSaid : Prop := Claim7.holds Tryz.pinned (.plain (OpenSpec.upto kernPartsSpec)) kernPartsUptoCard

/-- THE SECOND FORM's CARD OF 'transomlaw13.KernOver'. -/
def kernOverUptoCard : Claim7 := { stood := { row := kernOverUptoRow, standIns := [], harness := (true, "768acf2c9166406e93721338774e802964ee017c8dcf668b078a6560ecb76491"), looks := false }, kinds := [], alts := [], laidByText := true, laidKinds := [.data], laidTests := true, laidLooks := .later }
def KernOverUptoCardSaid : Prop := Claim7.holds Tryz.pinned (.plain (OpenSpec.upto kernOverSpec)) kernOverUptoCard

/-- THE SECOND FORM's CARD OF 'transomlaw13.KernZombies'. -/
def kernZombiesUptoCard : Claim7 := { stood := { row := kernZombiesUptoRow, standIns := [], harness := (true, "768acf2c9166406e93721338774e802964ee017c8dcf668b078a6560ecb76491"), looks := false }, kinds := [], alts := [], laidByText := true, laidKinds := [.data], laidTests := true, laidLooks := .later }
def KernZombiesUptoCardSaid : Prop := Claim7.holds Tryz.pinned (.plain (OpenSpec.upto kernZombiesSpec)) kernZombiesUptoCard

/-- THE SECOND FORM's CARD OF 'transomlaw13.KernBlind'. -/
def kernBlindUptoCard : Claim7 := { stood := { row := kernBlindUptoRow, standIns := [], harness := (true, "768acf2c9166406e93721338774e802964ee017c8dcf668b078a6560ecb76491"), looks := false }, kinds := [], alts := [], laidByText := true, laidKinds := [.data], laidTests := true, laidLooks := .later }
def KernBlindUptoCardSaid : Prop := Claim7.holds Tryz.pinned (.plain (OpenSpec.upto kernBlindSpec)) kernBlindUptoCard
end Rows
end Go.Proofs.YtalapfkfdhpomaaGreatDoor
