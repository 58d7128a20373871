/-
  DERIVED. GIVEN WITH THE SEED: THE CARDS: each row of YtkepkcjjenidgaaGreatDoorRows.lean that lists a variable, with what it lists TIED to the program's text (the seventh form; the later family's looks); each row that meets fmt, with fmt's text TOLD by the authors' own Lean function (tested against real Go, not proved from fmt's source: count such statements apart). THE CARD IS WHAT COUNTS. Prove the row's statement (the work); the ties are given (YtkepkcjjenidgaaGreatDoorTie.lean); close each card by the builder's one call (the guide's Derived/Test/ToyasCard.lean, 'card_holds'). Laid BY PROGRAM, IN A SANDBOX (cutbox-door.mjs). By AI agents, Wed Nov 11 2026. No macro, syntax, notation, axiom, sorry.
-/
import Derived.Test.YtkepkcjjenidgaaGreatDoorRows
import GoSem.ClaimSeven
namespace Go.Proofs.YtkepkcjjenidgaaGreatDoor
namespace Rows

/-- THE TIED CARD OF 'transomtop.TopPrefix'. -/
def topPrefixCard : Claim7 := { stood := { row := topPrefixRow, standIns := [], harness := (true, "b545f11c291577ead071fdc944f7d7b1374de460d8ae50daece7a8efadca2c68"), looks := false }, kinds := [], alts := [], laidByText := true, laidKinds := [.data], laidTests := true, laidLooks := .later }
def TopPrefixCardSaid : Prop := Claim7.holds Tryz.pinned (.plain (OpenSpec.ofChange topPrefixSpec)) topPrefixCard

/-- THE TIED CARD OF 'transomlaw14.SeatKeeps'. -/
def seatKeepsCard : Claim7 := { stood := { row := seatKeepsRow, standIns := [], harness := (true, "b545f11c291577ead071fdc944f7d7b1374de460d8ae50daece7a8efadca2c68"), looks := false }, kinds := [], alts := [], laidByText := true, laidKinds := [.data], laidTests := true, laidLooks := .later }
def SeatKeepsCardSaid : Prop := Claim7.holds Tryz.pinned (.plain (OpenSpec.ofChange seatKeepsSpec)) seatKeepsCard

/-- THE TIED CARD OF 'transomlaw14.SeatArrives'. -/
def seatArrivesCard : Claim7 := { stood := { row := seatArrivesRow, standIns := [], harness := (true, "b545f11c291577ead071fdc944f7d7b1374de460d8ae50daece7a8efadca2c68"), looks := false }, kinds := [], alts := [], laidByText := true, laidKinds := [.data], laidTests := true, laidLooks := .later }
def SeatArrivesCardSaid : Prop := Claim7.holds Tryz.pinned (.plain (OpenSpec.ofChange seatArrivesSpec)) seatArrivesCard

/-- THE TIED CARD OF 'transomlaw14.SeatRests'. -/
def seatRestsCard : Claim7 := { stood := { row := seatRestsRow, standIns := [], harness := (true, "b545f11c291577ead071fdc944f7d7b1374de460d8ae50daece7a8efadca2c68"), looks := false }, kinds := [], alts := [], laidByText := true, laidKinds := [.data], laidTests := true, laidLooks := .later }
def SeatRestsCardSaid : Prop := Claim7.holds Tryz.pinned (.plain (OpenSpec.ofChange seatRestsSpec)) seatRestsCard

/-- THE TIED CARD OF 'transomlaw17.DedAhead'. -/
def dedAheadCard : Claim7 := { stood := { row := dedAheadRow, standIns := [], harness := (true, "b545f11c291577ead071fdc944f7d7b1374de460d8ae50daece7a8efadca2c68"), looks := false }, kinds := [], alts := [], laidByText := true, laidKinds := [.data], laidTests := true, laidLooks := .later }
def DedAheadCardSaid : Prop := Claim7.holds Tryz.pinned (.plain (OpenSpec.ofChange dedAheadSpec)) dedAheadCard

/-- THE TIED CARD OF 'transomlaw16.HyperOwner'. -/
def hyperOwnerCard : Claim7 := { stood := { row := hyperOwnerRow, standIns := [], harness := (true, "b545f11c291577ead071fdc944f7d7b1374de460d8ae50daece7a8efadca2c68"), looks := false }, kinds := [], alts := [], laidByText := true, laidKinds := [.data], laidTests := true, laidLooks := .later }
def HyperOwnerCardSaid : Prop := Claim7.holds Tryz.pinned (.plain (OpenSpec.ofChange hyperOwnerSpec)) hyperOwnerCard

/-- THE TIED CARD OF 'transomlaw16.HyperOthers'. -/
def hyperOthersCard : Claim7 := { stood := { row := hyperOthersRow, standIns := [], harness := (true, "b545f11c291577ead071fdc944f7d7b1374de460d8ae50daece7a8efadca2c68"), looks := false }, kinds := [], alts := [], laidByText := true, laidKinds := [.data], laidTests := true, laidLooks := .later }
def HyperOthersCardSaid : Prop := Claim7.holds Tryz.pinned (.plain (OpenSpec.ofChange hyperOthersSpec)) hyperOthersCard

/-- THE TIED CARD OF 'transomlaw16.HyperModes'. -/
def hyperModesCard : Claim7 := { stood := { row := hyperModesRow, standIns := [], harness := (true, "b545f11c291577ead071fdc944f7d7b1374de460d8ae50daece7a8efadca2c68"), looks := false }, kinds := [], alts := [], laidByText := true, laidKinds := [.data], laidTests := true, laidLooks := .later }
def HyperModesCardSaid : Prop := Claim7.holds Tryz.pinned (.plain (OpenSpec.ofChange hyperModesSpec)) hyperModesCard

/-- THE TIED CARD OF 'transomlaw16.HyperGrants'. -/
def hyperGrantsCard : Claim7 := { stood := { row := hyperGrantsRow, standIns := [], harness := (true, "b545f11c291577ead071fdc944f7d7b1374de460d8ae50daece7a8efadca2c68"), looks := false }, kinds := [], alts := [], laidByText := true, laidKinds := [.data], laidTests := true, laidLooks := .later }
def HyperGrantsCardSaid : Prop := Claim7.holds Tryz.pinned (.plain (OpenSpec.ofChange hyperGrantsSpec)) hyperGrantsCard

/-- THE TIED CARD OF 'transomlaw16.HyperRefuses'. -/
def hyperRefusesCard : Claim7 := { stood := { row := hyperRefusesRow, standIns := [], harness := (true, "b545f11c291577ead071fdc944f7d7b1374de460d8ae50daece7a8efadca2c68"), looks := false }, kinds := [], alts := [], laidByText := true, laidKinds := [.data], laidTests := true, laidLooks := .later }
def HyperRefusesCardSaid : Prop := Claim7.holds Tryz.pinned (.plain (OpenSpec.ofChange hyperRefusesSpec)) hyperRefusesCard

/-- THE TIED CARD OF 'transomlaw16.HyperParts'. -/
def hyperPartsCard : Claim7 := { stood := { row := hyperPartsRow, standIns := [], harness := (true, "b545f11c291577ead071fdc944f7d7b1374de460d8ae50daece7a8efadca2c68"), looks := false }, kinds := [], alts := [], laidByText := true, laidKinds := [.data], laidTests := true, laidLooks := .later }
def HyperPartsCardSaid : Prop := Claim7.holds Tryz.pinned (.plain (OpenSpec.ofChange hyperPartsSpec)) hyperPartsCard

/-- THE TIED CARD OF 'transomlaw16.HyperStamps'. -/
def hyperStampsCard : Claim7 := { stood := { row := hyperStampsRow, standIns := [], harness := (true, "b545f11c291577ead071fdc944f7d7b1374de460d8ae50daece7a8efadca2c68"), looks := false }, kinds := [], alts := [], laidByText := true, laidKinds := [.data], laidTests := true, laidLooks := .later }
def HyperStampsCardSaid : Prop := Claim7.holds Tryz.pinned (.plain (OpenSpec.ofChange hyperStampsSpec)) hyperStampsCard

/-- THE SECOND FORM's CARD OF 'transomtop.TopPrefix'. -/
def topPrefixUptoCard : Claim7 := { stood := { row := topPrefixUptoRow, standIns := [], harness := (true, "b545f11c291577ead071fdc944f7d7b1374de460d8ae50daece7a8efadca2c68"), looks := false }, kinds := [], alts := [], laidByText := true, laidKinds := [.data], laidTests := true, laidLooks := .later }
def TopPrefixUptoCardSaid : Prop := Claim7.holds Tryz.pinned (.plain (OpenSpec.upto topPrefixSpec)) topPrefixUptoCard

/-- THE SECOND FORM's CARD OF 'transomlaw14.SeatKeeps'. -/
def seatKeepsUptoCard : Claim7 := { stood := { row := seatKeepsUptoRow, standIns := [], harness := (true, "b545f11c291577ead071fdc944f7d7b1374de460d8ae50daece7a8efadca2c68"), looks := false }, kinds := [], alts := [], laidByText := true, laidKinds := [.data], laidTests := true, laidLooks := .later }
def SeatKeepsUptoCardSaid : Prop := Claim7.holds Tryz.pinned (.plain (OpenSpec.upto seatKeepsSpec)) seatKeepsUptoCard

/-- THE SECOND FORM's CARD OF 'transomlaw14.SeatArrives'. -/
def seatArrivesUptoCard : Claim7 := { stood := { row := seatArrivesUptoRow, standIns := [], harness := (true, "b545f11c291577ead071fdc944f7d7b1374de460d8ae50daece7a8efadca2c68"), looks := false }, kinds := [], alts := [], laidByText := true, laidKinds := [.data], laidTests := true, laidLooks := .later }
def SeatArrivesUptoCardSaid : Prop := Claim7.holds Tryz.pinned (.plain (OpenSpec.upto seatArrivesSpec)) seatArrivesUptoCard

/-- THE SECOND FORM's CARD OF 'transomlaw14.SeatRests'. -/
def seatRestsUptoCard : Claim7 := { stood := { row := seatRestsUptoRow, standIns := [], harness := (true, "b545f11c291577ead071fdc944f7d7b1374de460d8ae50daece7a8efadca2c68"), looks := false }, kinds := [], alts := [], laidByText := true, laidKinds := [.data], laidTests := true, laidLooks := .later }
def SeatRestsUptoCardSaid : Prop := Claim7.holds Tryz.pinned (.plain (OpenSpec.upto seatRestsSpec)) seatRestsUptoCard

/-- THE SECOND FORM's CARD OF 'transomlaw17.DedAhead'. -/
def dedAheadUptoCard : Claim7 := { stood := { row := dedAheadUptoRow, standIns := [], harness := (true, "b545f11c291577ead071fdc944f7d7b1374de460d8ae50daece7a8efadca2c68"), looks := false }, kinds := [], alts := [], laidByText := true, laidKinds := [.data], laidTests := true, laidLooks := .later }
def DedAheadUptoCardSaid : Prop := Claim7.holds Tryz.pinned (.plain (OpenSpec.upto dedAheadSpec)) dedAheadUptoCard

/-- THE SECOND FORM's CARD OF 'transomlaw16.HyperOwner'. -/
def hyperOwnerUptoCard : Claim7 := { stood := { row := hyperOwnerUptoRow, standIns := [], harness := (true, "b545f11c291577ead071fdc944f7d7b1374de460d8ae50daece7a8efadca2c68"), looks := false }, kinds := [], alts := [], laidByText := true, laidKinds := [.data], laidTests := true, laidLooks := .later }
def HyperOwnerUptoCardSaid : Prop := Claim7.holds Tryz.pinned (.plain (OpenSpec.upto hyperOwnerSpec)) hyperOwnerUptoCard

/-- THE SECOND FORM's CARD OF 'transomlaw16.HyperOthers'. -/
def hyperOthersUptoCard : Claim7 := { stood := { row := hyperOthersUptoRow, standIns := [], harness := (true, "b545f11c291577ead071fdc944f7d7b1374de460d8ae50daece7a8efadca2c68"), looks := false }, kinds := [], alts := [], laidByText := true, laidKinds := [.data], laidTests := true, laidLooks := .later }
def HyperOthersUptoCardSaid : Prop := Claim7.holds Tryz.pinned (.plain (OpenSpec.upto hyperOthersSpec)) hyperOthersUptoCard

/-- THE SECOND FORM's CARD OF 'transomlaw16.HyperModes'. -/
def hyperModesUptoCard : Claim7 := { stood := { row := hyperModesUptoRow, standIns := [], harness := (true, "b545f11c291577ead071fdc944f7d7b1374de460d8ae50daece7a8efadca2c68"), looks := false }, kinds := [], alts := [], laidByText := true, laidKinds := [.data], laidTests := true, laidLooks := .later }
def HyperModesUptoCardSaid : Prop := Claim7.holds Tryz.pinned (.plain (OpenSpec.upto hyperModesSpec)) hyperModesUptoCard

/-- THE SECOND FORM's CARD OF 'transomlaw16.HyperGrants'. -/
def hyperGrantsUptoCard : Claim7 := { stood := { row := hyperGrantsUptoRow, standIns := [], harness := (true, "b545f11c291577ead071fdc944f7d7b1374de460d8ae50daece7a8efadca2c68"), looks := false }, kinds := [], alts := [], laidByText := true, laidKinds := [.data], laidTests := true, laidLooks := .later }
def HyperGrantsUptoCardSaid : Prop := Claim7.holds Tryz.pinned (.plain (OpenSpec.upto hyperGrantsSpec)) hyperGrantsUptoCard

/-- THE SECOND FORM's CARD OF 'transomlaw16.HyperRefuses'. -/
def hyperRefusesUptoCard : Claim7 := { stood := { row := hyperRefusesUptoRow, standIns := [], harness := (true, "b545f11c291577ead071fdc944f7d7b1374de460d8ae50daece7a8efadca2c68"), looks := false }, kinds := [], alts := [], laidByText := true, laidKinds := [.data], laidTests := true, laidLooks := .later }
def HyperRefusesUptoCardSaid : Prop := Claim7.holds Tryz.pinned (.plain (OpenSpec.upto hyperRefusesSpec)) hyperRefusesUptoCard

/-- THE SECOND FORM's CARD OF 'transomlaw16.HyperParts'. -/
def hyperPartsUptoCard : Claim7 := { stood := { row := hyperPartsUptoRow, standIns := [], harness := (true, "b545f11c291577ead071fdc944f7d7b1374de460d8ae50daece7a8efadca2c68"), looks := false }, kinds := [], alts := [], laidByText := true, laidKinds := [.data], laidTests := true, laidLooks := .later }
def HyperPartsUptoCardSaid : Prop := Claim7.holds Tryz.pinned (.plain (OpenSpec.upto hyperPartsSpec)) hyperPartsUptoCard

/-- THE SECOND FORM's CARD OF 'transomlaw16.HyperStamps'. -/
def hyperStampsUptoCard : Claim7 := { stood := { row := hyperStampsUptoRow, standIns := [], harness := (true, "b545f11c291577ead071fdc944f7d7b1374de460d8ae50daece7a8efadca2c68"), looks := false }, kinds := [], alts := [], laidByText := true, laidKinds := [.data], laidTests := true, laidLooks := .later }
def HyperStampsUptoCardSaid : Prop := Claim7.holds Tryz.pinned (.plain (OpenSpec.upto hyperStampsSpec)) hyperStampsUptoCard
end Rows
end Go.Proofs.YtkepkcjjenidgaaGreatDoor
