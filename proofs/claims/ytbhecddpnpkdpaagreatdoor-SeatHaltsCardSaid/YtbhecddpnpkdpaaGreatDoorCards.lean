/-
  DERIVED. GIVEN WITH THE SEED: THE CARDS: each row of YtbhecddpnpkdpaaGreatDoorRows.lean that lists a variable, with what it lists TIED to the program's text (the seventh form; the later family's looks); each row that meets fmt, with fmt's text TOLD by the authors' own Lean function (tested against real Go, not proved from fmt's source: count such statements apart). THE CARD IS WHAT COUNTS. Prove the row's statement (the work); the ties are given (YtbhecddpnpkdpaaGreatDoorTie.lean); close each card by the builder's one call (the guide's Derived/Test/ToyasCard.lean, 'card_holds'). Laid BY PROGRAM, IN A SANDBOX (cutbox-door.mjs). By AI agents, Wed Nov 11 2026. No macro, syntax, notation, axiom, sorry.
-/
import Derived.Test.YtbhecddpnpkdpaaGreatDoorRows
import GoSem.ClaimSeven
namespace Go.Proofs.YtbhecddpnpkdpaaGreatDoor
namespace Rows

/-- THE TIED CARD OF 'transomlaw14.SeatKeeps'. -/
def seatKeepsCard : Claim7 := { stood := { row := seatKeepsRow, standIns := [], harness := (true, "cbafadda9a9f312329b55d1849520f25e8cda758b18ec9766d91fe8347bbcb03"), looks := false }, kinds := [], alts := [], laidByText := true, laidKinds := [.data], laidTests := true, laidLooks := .later }
def SeatKeepsCardSaid : Prop := Claim7.holds Tryz.pinned (.plain (OpenSpec.ofChange seatKeepsSpec)) seatKeepsCard

/-- THE TIED CARD OF 'transomlaw14.SeatArrives'. -/
def seatArrivesCard : Claim7 := { stood := { row := seatArrivesRow, standIns := [], harness := (true, "cbafadda9a9f312329b55d1849520f25e8cda758b18ec9766d91fe8347bbcb03"), looks := false }, kinds := [], alts := [], laidByText := true, laidKinds := [.data], laidTests := true, laidLooks := .later }
def SeatArrivesCardSaid : Prop := Claim7.holds Tryz.pinned (.plain (OpenSpec.ofChange seatArrivesSpec)) seatArrivesCard

/-- THE TIED CARD OF 'transomlaw14.SeatClock'. -/
def seatClockCard : Claim7 := { stood := { row := seatClockRow, standIns := [], harness := (true, "cbafadda9a9f312329b55d1849520f25e8cda758b18ec9766d91fe8347bbcb03"), looks := false }, kinds := [], alts := [], laidByText := true, laidKinds := [.data], laidTests := true, laidLooks := .later }
def SeatClockCardSaid : Prop := Claim7.holds Tryz.pinned (.plain (OpenSpec.ofChange seatClockSpec)) seatClockCard

/-- THE TIED CARD OF 'transomlaw14.SeatHalts'. -/
def seatHaltsCard : Claim7 := { stood := { row := seatHaltsRow, standIns := [], harness := (true, "cbafadda9a9f312329b55d1849520f25e8cda758b18ec9766d91fe8347bbcb03"), looks := false }, kinds := [], alts := [], laidByText := true, laidKinds := [.data], laidTests := true, laidLooks := .later }
def SeatHaltsCardSaid : Prop := Claim7.holds Tryz.pinned (.plain (OpenSpec.ofChange seatHaltsSpec)) seatHaltsCard

/-- THE TIED CARD OF 'transomlaw14.SeatRests'. -/
def seatRestsCard : Claim7 := { stood := { row := seatRestsRow, standIns := [], harness := (true, "cbafadda9a9f312329b55d1849520f25e8cda758b18ec9766d91fe8347bbcb03"), looks := false }, kinds := [], alts := [], laidByText := true, laidKinds := [.data], laidTests := true, laidLooks := .later }
def SeatRestsCardSaid : Prop := Claim7.holds Tryz.pinned (.plain (OpenSpec.ofChange seatRestsSpec)) seatRestsCard

/-- THE TIED CARD OF 'transomlaw17.DedGrows'. -/
def dedGrowsCard : Claim7 := { stood := { row := dedGrowsRow, standIns := [], harness := (true, "cbafadda9a9f312329b55d1849520f25e8cda758b18ec9766d91fe8347bbcb03"), looks := false }, kinds := [], alts := [], laidByText := true, laidKinds := [.data], laidTests := true, laidLooks := .later }
def DedGrowsCardSaid : Prop := Claim7.holds Tryz.pinned (.plain (OpenSpec.ofChange dedGrowsSpec)) dedGrowsCard

/-- THE TIED CARD OF 'transomlaw17.DedAhead'. -/
def dedAheadCard : Claim7 := { stood := { row := dedAheadRow, standIns := [], harness := (true, "cbafadda9a9f312329b55d1849520f25e8cda758b18ec9766d91fe8347bbcb03"), looks := false }, kinds := [], alts := [], laidByText := true, laidKinds := [.data], laidTests := true, laidLooks := .later }
def DedAheadCardSaid : Prop := Claim7.holds Tryz.pinned (.plain (OpenSpec.ofChange dedAheadSpec)) dedAheadCard

/-- THE TIED CARD OF 'transomlaw17.DedParts'. -/
def dedPartsCard : Claim7 := { stood := { row := dedPartsRow, standIns := [], harness := (true, "cbafadda9a9f312329b55d1849520f25e8cda758b18ec9766d91fe8347bbcb03"), looks := false }, kinds := [], alts := [], laidByText := true, laidKinds := [.data], laidTests := true, laidLooks := .later }
def DedPartsCardSaid : Prop := Claim7.holds Tryz.pinned (.plain (OpenSpec.ofChange dedPartsSpec)) dedPartsCard

/-- THE TIED CARD OF 'transomlaw17.DedBegins'. -/
def dedBeginsCard : Claim7 := { stood := { row := dedBeginsRow, standIns := [], harness := (true, "cbafadda9a9f312329b55d1849520f25e8cda758b18ec9766d91fe8347bbcb03"), looks := false }, kinds := [], alts := [], laidByText := true, laidKinds := [.data], laidTests := true, laidLooks := .later }
def DedBeginsCardSaid : Prop := Claim7.holds Tryz.pinned (.plain (OpenSpec.ofChange dedBeginsSpec)) dedBeginsCard

/-- THE SECOND FORM's CARD OF 'transomlaw14.SeatKeeps'. -/
def seatKeepsUptoCard : Claim7 := { stood := { row := seatKeepsUptoRow, standIns := [], harness := (true, "cbafadda9a9f312329b55d1849520f25e8cda758b18ec9766d91fe8347bbcb03"), looks := false }, kinds := [], alts := [], laidByText := true, laidKinds := [.data], laidTests := true, laidLooks := .later }
def SeatKeepsUptoCardSaid : Prop := Claim7.holds Tryz.pinned (.plain (OpenSpec.upto seatKeepsSpec)) seatKeepsUptoCard

/-- THE SECOND FORM's CARD OF 'transomlaw14.SeatArrives'. -/
def seatArrivesUptoCard : Claim7 := { stood := { row := seatArrivesUptoRow, standIns := [], harness := (true, "cbafadda9a9f312329b55d1849520f25e8cda758b18ec9766d91fe8347bbcb03"), looks := false }, kinds := [], alts := [], laidByText := true, laidKinds := [.data], laidTests := true, laidLooks := .later }
def SeatArrivesUptoCardSaid : Prop := Claim7.holds Tryz.pinned (.plain (OpenSpec.upto seatArrivesSpec)) seatArrivesUptoCard

/-- THE SECOND FORM's CARD OF 'transomlaw14.SeatClock'. -/
def seatClockUptoCard : Claim7 := { stood := { row := seatClockUptoRow, standIns := [], harness := (true, "cbafadda9a9f312329b55d1849520f25e8cda758b18ec9766d91fe8347bbcb03"), looks := false }, kinds := [], alts := [], laidByText := true, laidKinds := [.data], laidTests := true, laidLooks := .later }
def SeatClockUptoCardSaid : Prop := Claim7.holds Tryz.pinned (.plain (OpenSpec.upto seatClockSpec)) seatClockUptoCard

/-- THE SECOND FORM's CARD OF 'transomlaw14.SeatHalts'. -/
def seatHaltsUptoCard : Claim7 := { stood := { row := seatHaltsUptoRow, standIns := [], harness := (true, "cbafadda9a9f312329b55d1849520f25e8cda758b18ec9766d91fe8347bbcb03"), looks := false }, kinds := [], alts := [], laidByText := true, laidKinds := [.data], laidTests := true, laidLooks := .later }
def SeatHaltsUptoCardSaid : Prop := Claim7.holds Tryz.pinned (.plain (OpenSpec.upto seatHaltsSpec)) seatHaltsUptoCard

/-- THE SECOND FORM's CARD OF 'transomlaw14.SeatRests'. -/
def seatRestsUptoCard : Claim7 := { stood := { row := seatRestsUptoRow, standIns := [], harness := (true, "cbafadda9a9f312329b55d1849520f25e8cda758b18ec9766d91fe8347bbcb03"), looks := false }, kinds := [], alts := [], laidByText := true, laidKinds := [.data], laidTests := true, laidLooks := .later }
def SeatRestsUptoCardSaid : Prop := Claim7.holds Tryz.pinned (.plain (OpenSpec.upto seatRestsSpec)) seatRestsUptoCard

/-- THE SECOND FORM's CARD OF 'transomlaw17.DedGrows'. -/
def dedGrowsUptoCard : Claim7 := { stood := { row := dedGrowsUptoRow, standIns := [], harness := (true, "cbafadda9a9f312329b55d1849520f25e8cda758b18ec9766d91fe8347bbcb03"), looks := false }, kinds := [], alts := [], laidByText := true, laidKinds := [.data], laidTests := true, laidLooks := .later }
def DedGrowsUptoCardSaid : Prop := Claim7.holds Tryz.pinned (.plain (OpenSpec.upto dedGrowsSpec)) dedGrowsUptoCard

/-- THE SECOND FORM's CARD OF 'transomlaw17.DedAhead'. -/
def dedAheadUptoCard : Claim7 := { stood := { row := dedAheadUptoRow, standIns := [], harness := (true, "cbafadda9a9f312329b55d1849520f25e8cda758b18ec9766d91fe8347bbcb03"), looks := false }, kinds := [], alts := [], laidByText := true, laidKinds := [.data], laidTests := true, laidLooks := .later }
def DedAheadUptoCardSaid : Prop := Claim7.holds Tryz.pinned (.plain (OpenSpec.upto dedAheadSpec)) dedAheadUptoCard

/-- THE SECOND FORM's CARD OF 'transomlaw17.DedParts'. -/
def dedPartsUptoCard : Claim7 := { stood := { row := dedPartsUptoRow, standIns := [], harness := (true, "cbafadda9a9f312329b55d1849520f25e8cda758b18ec9766d91fe8347bbcb03"), looks := false }, kinds := [], alts := [], laidByText := true, laidKinds := [.data], laidTests := true, laidLooks := .later }
def DedPartsUptoCardSaid : Prop := Claim7.holds Tryz.pinned (.plain (OpenSpec.upto dedPartsSpec)) dedPartsUptoCard

/-- THE SECOND FORM's CARD OF 'transomlaw17.DedBegins'. -/
def dedBeginsUptoCard : Claim7 := { stood := { row := dedBeginsUptoRow, standIns := [], harness := (true, "cbafadda9a9f312329b55d1849520f25e8cda758b18ec9766d91fe8347bbcb03"), looks := false }, kinds := [], alts := [], laidByText := true, laidKinds := [.data], laidTests := true, laidLooks := .later }
def DedBeginsUptoCardSaid : Prop := Claim7.holds Tryz.pinned (.plain (OpenSpec.upto dedBeginsSpec)) dedBeginsUptoCard
end Rows
end Go.Proofs.YtbhecddpnpkdpaaGreatDoor
