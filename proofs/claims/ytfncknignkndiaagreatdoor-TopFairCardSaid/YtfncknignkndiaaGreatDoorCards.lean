/-
  DERIVED. GIVEN WITH THE SEED: THE CARDS: each row of YtfncknignkndiaaGreatDoorRows.lean that lists a variable, with what it lists TIED to the program's text (the seventh form; the later family's looks); each row that meets fmt, with fmt's text TOLD by the authors' own Lean function (tested against real Go, not proved from fmt's source: count such statements apart). THE CARD IS WHAT COUNTS. Prove the row's statement (the work); the ties are given (YtfncknignkndiaaGreatDoorTie.lean); close each card by the builder's one call (the guide's Derived/Test/ToyasCard.lean, 'card_holds'). Laid BY PROGRAM, IN A SANDBOX (cutbox-door.mjs). By AI agents, Wed Nov 11 2026. No macro, syntax, notation, axiom, sorry.
-/
import Derived.Test.YtfncknignkndiaaGreatDoorRows
import GoSem.ClaimSeven
namespace Go.Proofs.YtfncknignkndiaaGreatDoor
namespace Rows

/-- THE TIED CARD OF 'transomtop.TopFair'. -/
def topFairCard : Claim7 := { stood := { row := topFairRow, standIns := [], harness := (true, "5dbc4fe9f5a500d9fadf7f3df4fd31c1264557482171ece15e5ba17b5393fbf0"), looks := false }, kinds := [], alts := [], laidByText := true, laidKinds := [.data], laidTests := true, laidLooks := .later }
def TopFairCardSaid : Prop := Claim7.holds Tryz.pinned (.plain (OpenSpec.ofChange topFairSpec)) topFairCard

/-- THE TIED CARD OF 'transomtop.TopPrefix'. -/
def topPrefixCard : Claim7 := { stood := { row := topPrefixRow, standIns := [], harness := (true, "5dbc4fe9f5a500d9fadf7f3df4fd31c1264557482171ece15e5ba17b5393fbf0"), looks := false }, kinds := [], alts := [], laidByText := true, laidKinds := [.data], laidTests := true, laidLooks := .later }
def TopPrefixCardSaid : Prop := Claim7.holds Tryz.pinned (.plain (OpenSpec.ofChange topPrefixSpec)) topPrefixCard

/-- THE TIED CARD OF 'transomtop.TopDed'. -/
def topDedCard : Claim7 := { stood := { row := topDedRow, standIns := [], harness := (true, "5dbc4fe9f5a500d9fadf7f3df4fd31c1264557482171ece15e5ba17b5393fbf0"), looks := false }, kinds := [], alts := [], laidByText := true, laidKinds := [.data], laidTests := true, laidLooks := .later }
def TopDedCardSaid : Prop := Claim7.holds Tryz.pinned (.plain (OpenSpec.ofChange topDedSpec)) topDedCard

/-- THE TIED CARD OF 'transomlaw16.HyperOwner'. -/
def hyperOwnerCard : Claim7 := { stood := { row := hyperOwnerRow, standIns := [], harness := (true, "5dbc4fe9f5a500d9fadf7f3df4fd31c1264557482171ece15e5ba17b5393fbf0"), looks := false }, kinds := [], alts := [], laidByText := true, laidKinds := [.data], laidTests := true, laidLooks := .later }
def HyperOwnerCardSaid : Prop := Claim7.holds Tryz.pinned (.plain (OpenSpec.ofChange hyperOwnerSpec)) hyperOwnerCard

/-- THE TIED CARD OF 'transomlaw16.HyperGrants'. -/
def hyperGrantsCard : Claim7 := { stood := { row := hyperGrantsRow, standIns := [], harness := (true, "5dbc4fe9f5a500d9fadf7f3df4fd31c1264557482171ece15e5ba17b5393fbf0"), looks := false }, kinds := [], alts := [], laidByText := true, laidKinds := [.data], laidTests := true, laidLooks := .later }
def HyperGrantsCardSaid : Prop := Claim7.holds Tryz.pinned (.plain (OpenSpec.ofChange hyperGrantsSpec)) hyperGrantsCard

/-- THE TIED CARD OF 'transomlaw16.HyperRefuses'. -/
def hyperRefusesCard : Claim7 := { stood := { row := hyperRefusesRow, standIns := [], harness := (true, "5dbc4fe9f5a500d9fadf7f3df4fd31c1264557482171ece15e5ba17b5393fbf0"), looks := false }, kinds := [], alts := [], laidByText := true, laidKinds := [.data], laidTests := true, laidLooks := .later }
def HyperRefusesCardSaid : Prop := Claim7.holds Tryz.pinned (.plain (OpenSpec.ofChange hyperRefusesSpec)) hyperRefusesCard

/-- THE TIED CARD OF 'transomlaw16.HyperParts'. -/
def hyperPartsCard : Claim7 := { stood := { row := hyperPartsRow, standIns := [], harness := (true, "5dbc4fe9f5a500d9fadf7f3df4fd31c1264557482171ece15e5ba17b5393fbf0"), looks := false }, kinds := [], alts := [], laidByText := true, laidKinds := [.data], laidTests := true, laidLooks := .later }
def HyperPartsCardSaid : Prop := Claim7.holds Tryz.pinned (.plain (OpenSpec.ofChange hyperPartsSpec)) hyperPartsCard

/-- THE SECOND FORM's CARD OF 'transomtop.TopFair'. -/
def topFairUptoCard : Claim7 := { stood := { row := topFairUptoRow, standIns := [], harness := (true, "5dbc4fe9f5a500d9fadf7f3df4fd31c1264557482171ece15e5ba17b5393fbf0"), looks := false }, kinds := [], alts := [], laidByText := true, laidKinds := [.data], laidTests := true, laidLooks := .later }
def TopFairUptoCardSaid : Prop := Claim7.holds Tryz.pinned (.plain (OpenSpec.upto topFairSpec)) topFairUptoCard

/-- THE SECOND FORM's CARD OF 'transomtop.TopPrefix'. -/
def topPrefixUptoCard : Claim7 := { stood := { row := topPrefixUptoRow, standIns := [], harness := (true, "5dbc4fe9f5a500d9fadf7f3df4fd31c1264557482171ece15e5ba17b5393fbf0"), looks := false }, kinds := [], alts := [], laidByText := true, laidKinds := [.data], laidTests := true, laidLooks := .later }
def TopPrefixUptoCardSaid : Prop := Claim7.holds Tryz.pinned (.plain (OpenSpec.upto topPrefixSpec)) topPrefixUptoCard

/-- THE SECOND FORM's CARD OF 'transomtop.TopDed'. -/
def topDedUptoCard : Claim7 := { stood := { row := topDedUptoRow, standIns := [], harness := (true, "5dbc4fe9f5a500d9fadf7f3df4fd31c1264557482171ece15e5ba17b5393fbf0"), looks := false }, kinds := [], alts := [], laidByText := true, laidKinds := [.data], laidTests := true, laidLooks := .later }
def TopDedUptoCardSaid : Prop := Claim7.holds Tryz.pinned (.plain (OpenSpec.upto topDedSpec)) topDedUptoCard

/-- THE SECOND FORM's CARD OF 'transomlaw16.HyperOwner'. -/
def hyperOwnerUptoCard : Claim7 := { stood := { row := hyperOwnerUptoRow, standIns := [], harness := (true, "5dbc4fe9f5a500d9fadf7f3df4fd31c1264557482171ece15e5ba17b5393fbf0"), looks := false }, kinds := [], alts := [], laidByText := true, laidKinds := [.data], laidTests := true, laidLooks := .later }
def HyperOwnerUptoCardSaid : Prop := Claim7.holds Tryz.pinned (.plain (OpenSpec.upto hyperOwnerSpec)) hyperOwnerUptoCard

/-- THE SECOND FORM's CARD OF 'transomlaw16.HyperGrants'. -/
def hyperGrantsUptoCard : Claim7 := { stood := { row := hyperGrantsUptoRow, standIns := [], harness := (true, "5dbc4fe9f5a500d9fadf7f3df4fd31c1264557482171ece15e5ba17b5393fbf0"), looks := false }, kinds := [], alts := [], laidByText := true, laidKinds := [.data], laidTests := true, laidLooks := .later }
def HyperGrantsUptoCardSaid : Prop := Claim7.holds Tryz.pinned (.plain (OpenSpec.upto hyperGrantsSpec)) hyperGrantsUptoCard

/-- THE SECOND FORM's CARD OF 'transomlaw16.HyperRefuses'. -/
def hyperRefusesUptoCard : Claim7 := { stood := { row := hyperRefusesUptoRow, standIns := [], harness := (true, "5dbc4fe9f5a500d9fadf7f3df4fd31c1264557482171ece15e5ba17b5393fbf0"), looks := false }, kinds := [], alts := [], laidByText := true, laidKinds := [.data], laidTests := true, laidLooks := .later }
def HyperRefusesUptoCardSaid : Prop := Claim7.holds Tryz.pinned (.plain (OpenSpec.upto hyperRefusesSpec)) hyperRefusesUptoCard

/-- THE SECOND FORM's CARD OF 'transomlaw16.HyperParts'. -/
def hyperPartsUptoCard : Claim7 := { stood := { row := hyperPartsUptoRow, standIns := [], harness := (true, "5dbc4fe9f5a500d9fadf7f3df4fd31c1264557482171ece15e5ba17b5393fbf0"), looks := false }, kinds := [], alts := [], laidByText := true, laidKinds := [.data], laidTests := true, laidLooks := .later }
def HyperPartsUptoCardSaid : Prop := Claim7.holds Tryz.pinned (.plain (OpenSpec.upto hyperPartsSpec)) hyperPartsUptoCard
end Rows
end Go.Proofs.YtfncknignkndiaaGreatDoor
