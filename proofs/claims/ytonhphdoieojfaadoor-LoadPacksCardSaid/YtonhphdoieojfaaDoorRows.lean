/-
  NARROWER THAN 'FOR EVERY INPUT', by the rows' own cells (each row's printed sentence says how): LoadBack: laid · LoadCut: laid · LoadLimits: laid · LoadPacks: laid.
  DERIVED. THE GIVEN ROWS OF THIS SEAT. 4 by the template 'for every input the law returns true; each argument reads behind the call as it read before'; 0 by the template 'total and deterministic' (their statements: YtonhphdoieojfaaDoorTotals.lean).
  GIVEN WITH THE SEED: the statements are not yours to turn. If you find one false, say at which input.
  Laid BY PROGRAM, IN A SANDBOX (cutbox-rows.mjs): the forced cells as the released guide's own fill.sh prints them over the translation 36432e53b5b090fd… (all of the seat's roots in one cut). By AI agents, Wed Nov 11 2026. No macro, syntax, notation, axiom, sorry.
-/
import Derived.Test.YtonhphdoieojfaaDoorChecked
import GoSem.Claim
import GoSem.ClaimJoined
import GoSem.ClaimMapViews
import Derived.JoinedTies
import Derived.KernelRfl
namespace Go.Proofs.YtonhphdoieojfaaDoor
/- THE CELL 'sum', in the pinned program and in every row, IS THE sha256 OF THE DUMP (.gsa) THAT YtonhphdoieojfaaDoorProg.lean LOADS. Nothing in Lean hashes anything: it is a label: what it is worth is what the hold of that sum in a sandbox is worth. -/
noncomputable def Tryd.pinned : Pinned := { name := "ytonhphdoieojfaadoor", sum := "36432e53b5b090fd8e632d05d2e1755f3775986de9a33ec5209e239e174b859f", checked := Tryd.checked }
namespace Rows
def none {H : Type} : Left H := { results := [], args := [] }

/- WHAT THE LISTED PACKAGE-LEVEL VARIABLES READ AS WHEN THE CALL BEGINS. Each datum BY PROGRAM (the guide's laid-datum.mjs) off the statement by which the dump's own 'gosem.cut.vars' lays the variable. In a bare row this is a premise. The card (YtonhphdoieojfaaDoorCards.lean) ties it to the program's text. -/
def laid_errors_errorType {H : Type} : DataW H := .iface "internal/reflectlite.rtype" (.agg [.ptr (.lit (.string [101, 114, 114, 111, 114]))])

/-- 'transomlaw20.LoadBack': WHATEVER THE INPUT: true; the input reads as it did. -/
def loadBackSpec : ChangeSpec := { name := "loadBack", fn := fun _ => fun
  | [d1, d2] => { results := [.lit (.bool true)], args := [d1, d2] }
  | _ => none }
def loadBackRow : OpenClaim := { program := "ytonhphdoieojfaadoor", sum := "36432e53b5b090fd8e632d05d2e1755f3775986de9a33ec5209e239e174b859f", func := "transom/transomlaw20.LoadBack", spec := "loadBack", inPlace := ["internal/abi.NoEscape", "internal/reflectlite.ValueOf", "(internal/reflectlite.Value).Type", "(internal/reflectlite.Value).IsNil", "internal/reflectlite.TypeOf", "(internal/reflectlite.Value).Elem", "(internal/reflectlite.Value).Set"], unfollowed := true, recurses := true, named := ["errors.errorType"], apart := false, laid := [("errors.errorType", laid_errors_errorType)] }
def LoadBackSaid : Prop := loadBackRow.holds Tryd.pinned (OpenSpec.ofChange loadBackSpec)

/-- ITS FALSE NEIGHBOUR: 'it returns false'. Refute it at one input. -/
def loadBackWrong : ChangeSpec := { name := "loadBack", fn := fun _ => fun
  | [d1, d2] => { results := [.lit (.bool false)], args := [d1, d2] }
  | _ => none }
def LoadBackWrongFalsely : Prop := loadBackRow.holds Tryd.pinned (OpenSpec.ofChange loadBackWrong)

/-- 'transomlaw20.LoadCut': WHATEVER THE INPUT: true; the input reads as it did. -/
def loadCutSpec : ChangeSpec := { name := "loadCut", fn := fun _ => fun
  | [d1, d2] => { results := [.lit (.bool true)], args := [d1, d2] }
  | _ => none }
def loadCutRow : OpenClaim := { program := "ytonhphdoieojfaadoor", sum := "36432e53b5b090fd8e632d05d2e1755f3775986de9a33ec5209e239e174b859f", func := "transom/transomlaw20.LoadCut", spec := "loadCut", inPlace := ["internal/abi.NoEscape", "internal/reflectlite.ValueOf", "(internal/reflectlite.Value).Type", "(internal/reflectlite.Value).IsNil", "internal/reflectlite.TypeOf", "(internal/reflectlite.Value).Elem", "(internal/reflectlite.Value).Set"], unfollowed := true, recurses := true, named := ["errors.errorType"], apart := false, laid := [("errors.errorType", laid_errors_errorType)] }
def LoadCutSaid : Prop := loadCutRow.holds Tryd.pinned (OpenSpec.ofChange loadCutSpec)

/-- ITS FALSE NEIGHBOUR: 'it returns false'. Refute it at one input. -/
def loadCutWrong : ChangeSpec := { name := "loadCut", fn := fun _ => fun
  | [d1, d2] => { results := [.lit (.bool false)], args := [d1, d2] }
  | _ => none }
def LoadCutWrongFalsely : Prop := loadCutRow.holds Tryd.pinned (OpenSpec.ofChange loadCutWrong)

/-- 'transomlaw20.LoadLimits': WHATEVER THE INPUT: true; the input reads as it did. -/
def loadLimitsSpec : ChangeSpec := { name := "loadLimits", fn := fun _ => fun
  | [d] => { results := [.lit (.bool true)], args := [d] }
  | _ => none }
def loadLimitsRow : OpenClaim := { program := "ytonhphdoieojfaadoor", sum := "36432e53b5b090fd8e632d05d2e1755f3775986de9a33ec5209e239e174b859f", func := "transom/transomlaw20.LoadLimits", spec := "loadLimits", inPlace := ["internal/abi.NoEscape", "internal/reflectlite.ValueOf", "(internal/reflectlite.Value).Type", "(internal/reflectlite.Value).IsNil", "internal/reflectlite.TypeOf", "(internal/reflectlite.Value).Elem", "(internal/reflectlite.Value).Set"], unfollowed := true, recurses := true, named := ["errors.errorType"], apart := false, laid := [("errors.errorType", laid_errors_errorType)] }
def LoadLimitsSaid : Prop := loadLimitsRow.holds Tryd.pinned (OpenSpec.ofChange loadLimitsSpec)

/-- ITS FALSE NEIGHBOUR: 'it returns false'. Refute it at one input. -/
def loadLimitsWrong : ChangeSpec := { name := "loadLimits", fn := fun _ => fun
  | [d] => { results := [.lit (.bool false)], args := [d] }
  | _ => none }
def LoadLimitsWrongFalsely : Prop := loadLimitsRow.holds Tryd.pinned (OpenSpec.ofChange loadLimitsWrong)

/-- 'transomlaw20.LoadPacks': WHATEVER THE INPUT: true; the input reads as it did. -/
def loadPacksSpec : ChangeSpec := { name := "loadPacks", fn := fun _ => fun
  | [d1, d2, d3] => { results := [.lit (.bool true)], args := [d1, d2, d3] }
  | _ => none }
def loadPacksRow : OpenClaim := { program := "ytonhphdoieojfaadoor", sum := "36432e53b5b090fd8e632d05d2e1755f3775986de9a33ec5209e239e174b859f", func := "transom/transomlaw20.LoadPacks", spec := "loadPacks", inPlace := ["internal/abi.NoEscape", "internal/reflectlite.ValueOf", "(internal/reflectlite.Value).Type", "(internal/reflectlite.Value).IsNil", "internal/reflectlite.TypeOf", "(internal/reflectlite.Value).Elem", "(internal/reflectlite.Value).Set"], unfollowed := true, recurses := true, named := ["errors.errorType"], apart := false, laid := [("errors.errorType", laid_errors_errorType)] }
def LoadPacksSaid : Prop := loadPacksRow.holds Tryd.pinned (OpenSpec.ofChange loadPacksSpec)

/-- ITS FALSE NEIGHBOUR: 'it returns false'. Refute it at one input. -/
def loadPacksWrong : ChangeSpec := { name := "loadPacks", fn := fun _ => fun
  | [d1, d2, d3] => { results := [.lit (.bool false)], args := [d1, d2, d3] }
  | _ => none }
def LoadPacksWrongFalsely : Prop := loadPacksRow.holds Tryd.pinned (OpenSpec.ofChange loadPacksWrong)

/- THE SECOND FORM. 'bulk': how many values and letters a reading holds, each counted each time it is reached (what is shared counts as often as it is met; a slice's spare places count too). A statement '..UptoSaid' is the law's where the arguments, and the package variables that the reading takes, are together of bulk at most 1048576: NARROWER than '..Said'. Prove '..Said' where nothing that the law and all that it calls make is longer than what came in: it says more and counts as full. Else prove '..UptoSaid'. A law counts once. -/
mutual
def uptoBulk {H : Type} : DataW H → Nat
  | .lit (.string bytes) => bytes.length + 1
  | .lit _ => 1
  | .nil => 1
  | .ptr d => uptoBulk d + 1
  | .slice elems spare => uptoBulkAll elems + uptoBulkAll spare + 1
  | .agg parts => uptoBulkAll parts + 1
  | .iface _ d => uptoBulk d + 1
  | .map entries => uptoBulkEntries entries + 1
  | .held _ => 1
def uptoBulkAll {H : Type} : List (DataW H) → Nat
  | [] => 0
  | d :: r => uptoBulk d + uptoBulkAll r
def uptoBulkEntries {H : Type} : List (Lit × DataW H) → Nat
  | [] => 0
  | x :: r => uptoBulkEntry x + uptoBulkEntries r
def uptoBulkEntry {H : Type} : Lit × DataW H → Nat
  | (.string bytes, d) => bytes.length + uptoBulk d + 1
  | (_, d) => uptoBulk d + 1
 end
def uptoSmall : (H : Type) → List (DataW H) → Bool := fun _ ds => decide (uptoBulkAll ds ≤ 1048576)
def OpenSpec.upto (s : _root_.Go.ChangeSpec) : _root_.Go.OpenSpec := { _root_.Go.OpenSpec.ofChange s with cond := some uptoSmall }

/-- 'transomlaw20.LoadBack', WHERE WHAT IT READS IS OF BULK AT MOST 1048576: true; the input reads as it did. -/
def loadBackUptoRow : OpenClaim := { program := "ytonhphdoieojfaadoor", sum := "36432e53b5b090fd8e632d05d2e1755f3775986de9a33ec5209e239e174b859f", func := "transom/transomlaw20.LoadBack", spec := "loadBack", inPlace := ["internal/abi.NoEscape", "internal/reflectlite.ValueOf", "(internal/reflectlite.Value).Type", "(internal/reflectlite.Value).IsNil", "internal/reflectlite.TypeOf", "(internal/reflectlite.Value).Elem", "(internal/reflectlite.Value).Set"], unfollowed := true, recurses := true, named := ["errors.errorType"], apart := false, laid := [("errors.errorType", laid_errors_errorType)], narrowed := true }
def LoadBackUptoSaid : Prop := loadBackUptoRow.holds Tryd.pinned (OpenSpec.upto loadBackSpec)

/-- 'transomlaw20.LoadCut', WHERE WHAT IT READS IS OF BULK AT MOST 1048576: true; the input reads as it did. -/
def loadCutUptoRow : OpenClaim := { program := "ytonhphdoieojfaadoor", sum := "36432e53b5b090fd8e632d05d2e1755f3775986de9a33ec5209e239e174b859f", func := "transom/transomlaw20.LoadCut", spec := "loadCut", inPlace := ["internal/abi.NoEscape", "internal/reflectlite.ValueOf", "(internal/reflectlite.Value).Type", "(internal/reflectlite.Value).IsNil", "internal/reflectlite.TypeOf", "(internal/reflectlite.Value).Elem", "(internal/reflectlite.Value).Set"], unfollowed := true, recurses := true, named := ["errors.errorType"], apart := false, laid := [("errors.errorType", laid_errors_errorType)], narrowed := true }
def LoadCutUptoSaid : Prop := loadCutUptoRow.holds Tryd.pinned (OpenSpec.upto loadCutSpec)

/-- 'transomlaw20.LoadLimits', WHERE WHAT IT READS IS OF BULK AT MOST 1048576: true; the input reads as it did. -/
def loadLimitsUptoRow : OpenClaim := { program := "ytonhphdoieojfaadoor", sum := "36432e53b5b090fd8e632d05d2e1755f3775986de9a33ec5209e239e174b859f", func := "transom/transomlaw20.LoadLimits", spec := "loadLimits", inPlace := ["internal/abi.NoEscape", "internal/reflectlite.ValueOf", "(internal/reflectlite.Value).Type", "(internal/reflectlite.Value).IsNil", "internal/reflectlite.TypeOf", "(internal/reflectlite.Value).Elem", "(internal/reflectlite.Value).Set"], unfollowed := true, recurses := true, named := ["errors.errorType"], apart := false, laid := [("errors.errorType", laid_errors_errorType)], narrowed := true }
def LoadLimitsUptoSaid : Prop := loadLimitsUptoRow.holds Tryd.pinned (OpenSpec.upto loadLimitsSpec)

/-- 'transomlaw20.LoadPacks', WHERE WHAT IT READS IS OF BULK AT MOST 1048576: true; the input reads as it did. -/
def loadPacksUptoRow : OpenClaim := { program := "ytonhphdoieojfaadoor", sum := "36432e53b5b090fd8e632d05d2e1755f3775986de9a33ec5209e239e174b859f", func := "transom/transomlaw20.LoadPacks", spec := "loadPacks", inPlace := ["internal/abi.NoEscape", "internal/reflectlite.ValueOf", "(internal/reflectlite.Value).Type", "(internal/reflectlite.Value).IsNil", "internal/reflectlite.TypeOf", "(internal/reflectlite.Value).Elem", "(internal/reflectlite.Value).Set"], unfollowed := true, recurses := true, named := ["errors.errorType"], apart := false, laid := [("errors.errorType", laid_errors_errorType)], narrowed := true }
def LoadPacksUptoSaid : Prop := loadPacksUptoRow.holds Tryd.pinned (OpenSpec.upto loadPacksSpec)

end Rows
end Go.Proofs.YtonhphdoieojfaaDoor
