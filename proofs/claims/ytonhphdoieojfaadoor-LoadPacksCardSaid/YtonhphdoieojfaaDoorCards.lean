/-
  DERIVED. GIVEN WITH THE SEED: THE CARDS: each row of YtonhphdoieojfaaDoorRows.lean that lists a variable, with what it lists TIED to the program's text (the seventh form; the later family's looks); each row that meets fmt, with fmt's text TOLD by the authors' own Lean function (tested against real Go, not proved from fmt's source: count such statements apart). THE CARD IS WHAT COUNTS. Prove the row's statement (the work); the ties are given (YtonhphdoieojfaaDoorTie.lean); close each card by the builder's one call (the guide's Derived/Test/ToyasCard.lean, 'card_holds'). Laid BY PROGRAM, IN A SANDBOX (cutbox-door.mjs). By AI agents, Wed Nov 11 2026. No macro, syntax, notation, axiom, sorry.
-/
import Derived.Test.YtonhphdoieojfaaDoorRows
import GoSem.ClaimSeven
namespace Go.Proofs.YtonhphdoieojfaaDoor
namespace Rows

/-- THE TIED CARD OF 'transomlaw20.LoadBack'. -/
def loadBackCard : Claim7 := { stood := { row := loadBackRow, standIns := [], harness := (true, "2012f8d2b454ef96fc3f24296256a4f4204108e0ba38a0cabedd2e98337bfd82"), looks := true }, kinds := [], alts := [], laidByText := true, laidKinds := [.handle], laidTests := true, laidLooks := .later }
def LoadBackCardSaid : Prop := Claim7.holds Tryd.pinned (.plain (OpenSpec.ofChange loadBackSpec)) loadBackCard

/-- THE TIED CARD OF 'transomlaw20.LoadCut'. -/
def loadCutCard : Claim7 := { stood := { row := loadCutRow, standIns := [], harness := (true, "2012f8d2b454ef96fc3f24296256a4f4204108e0ba38a0cabedd2e98337bfd82"), looks := true }, kinds := [], alts := [], laidByText := true, laidKinds := [.handle], laidTests := true, laidLooks := .later }
def LoadCutCardSaid : Prop := Claim7.holds Tryd.pinned (.plain (OpenSpec.ofChange loadCutSpec)) loadCutCard

/-- THE TIED CARD OF 'transomlaw20.LoadLimits'. -/
def loadLimitsCard : Claim7 := { stood := { row := loadLimitsRow, standIns := [], harness := (true, "2012f8d2b454ef96fc3f24296256a4f4204108e0ba38a0cabedd2e98337bfd82"), looks := true }, kinds := [], alts := [], laidByText := true, laidKinds := [.handle], laidTests := true, laidLooks := .later }
def LoadLimitsCardSaid : Prop := Claim7.holds Tryd.pinned (.plain (OpenSpec.ofChange loadLimitsSpec)) loadLimitsCard

/-- THE TIED CARD OF 'transomlaw20.LoadPacks'. -/
def loadPacksCard : Claim7 := { stood := { row := loadPacksRow, standIns := [], harness := (true, "2012f8d2b454ef96fc3f24296256a4f4204108e0ba38a0cabedd2e98337bfd82"), looks := true }, kinds := [], alts := [], laidByText := true, laidKinds := [.handle], laidTests := true, laidLooks := .later }
def LoadPacksCardSaid : Prop := Claim7.holds Tryd.pinned (.plain (OpenSpec.ofChange loadPacksSpec)) loadPacksCard

/-- THE SECOND FORM's CARD OF 'transomlaw20.LoadBack'. -/
def loadBackUptoCard : Claim7 := { stood := { row := loadBackUptoRow, standIns := [], harness := (true, "2012f8d2b454ef96fc3f24296256a4f4204108e0ba38a0cabedd2e98337bfd82"), looks := true }, kinds := [], alts := [], laidByText := true, laidKinds := [.handle], laidTests := true, laidLooks := .later }
def LoadBackUptoCardSaid : Prop := Claim7.holds Tryd.pinned (.plain (OpenSpec.upto loadBackSpec)) loadBackUptoCard

/-- THE SECOND FORM's CARD OF 'transomlaw20.LoadCut'. -/
def loadCutUptoCard : Claim7 := { stood := { row := loadCutUptoRow, standIns := [], harness := (true, "2012f8d2b454ef96fc3f24296256a4f4204108e0ba38a0cabedd2e98337bfd82"), looks := true }, kinds := [], alts := [], laidByText := true, laidKinds := [.handle], laidTests := true, laidLooks := .later }
def LoadCutUptoCardSaid : Prop := Claim7.holds Tryd.pinned (.plain (OpenSpec.upto loadCutSpec)) loadCutUptoCard

/-- THE SECOND FORM's CARD OF 'transomlaw20.LoadLimits'. -/
def loadLimitsUptoCard : Claim7 := { stood := { row := loadLimitsUptoRow, standIns := [], harness := (true, "2012f8d2b454ef96fc3f24296256a4f4204108e0ba38a0cabedd2e98337bfd82"), looks := true }, kinds := [], alts := [], laidByText := true, laidKinds := [.handle], laidTests := true, laidLooks := .later }
def LoadLimitsUptoCardSaid : Prop := Claim7.holds Tryd.pinned (.plain (OpenSpec.upto loadLimitsSpec)) loadLimitsUptoCard

/-- THE SECOND FORM's CARD OF 'transomlaw20.LoadPacks'. -/
def loadPacksUptoCard : Claim7 := { stood := { row := loadPacksUptoRow, standIns := [], harness := (true, "2012f8d2b454ef96fc3f24296256a4f4204108e0ba38a0cabedd2e98337bfd82"), looks := true }, kinds := [], alts := [], laidByText := true, laidKinds := [.handle], laidTests := true, laidLooks := .later }
def LoadPacksUptoCardSaid : Prop := Claim7.holds Tryd.pinned (.plain (OpenSpec.upto loadPacksSpec)) loadPacksUptoCard
end Rows
end Go.Proofs.YtonhphdoieojfaaDoor
