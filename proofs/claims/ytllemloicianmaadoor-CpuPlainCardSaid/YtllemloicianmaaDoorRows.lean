/-
  NARROWER THAN 'FOR EVERY INPUT', by the rows' own cells (each row's printed sentence says how): CpuDoes: laid · CpuGoes: laid · CpuUndoes: laid · CpuSteps: laid · CpuStays: laid · CpuOwn: laid · CpuPlain: laid · CpuRuns: laid · CpuParts: laid.
  DERIVED. THE GIVEN ROWS OF THIS SEAT. 9 by the template 'for every input the law returns true; each argument reads behind the call as it read before'; 0 by the template 'total and deterministic' (their statements: YtllemloicianmaaDoorTotals.lean).
  GIVEN WITH THE SEED: the statements are not yours to turn. If you find one false, say at which input.
  Laid BY PROGRAM, IN A SANDBOX (cutbox-rows.mjs): the forced cells as the released guide's own fill.sh prints them over the translation 51e37dcce1b795ff… (all of the seat's roots in one cut). By AI agents, Wed Nov 11 2026. No macro, syntax, notation, axiom, sorry.
-/
import Derived.Test.YtllemloicianmaaDoorChecked
import GoSem.Claim
import GoSem.ClaimJoined
import GoSem.ClaimMapViews
import Derived.JoinedTies
import Derived.KernelRfl
namespace Go.Proofs.YtllemloicianmaaDoor
/- THE CELL 'sum', in the pinned program and in every row, IS THE sha256 OF THE DUMP (.gsa) THAT YtllemloicianmaaDoorProg.lean LOADS. Nothing in Lean hashes anything: it is a label: what it is worth is what the hold of that sum in a sandbox is worth. -/
noncomputable def Tryd.pinned : Pinned := { name := "ytllemloicianmaadoor", sum := "51e37dcce1b795fff8ae0acc431d941f5265ac00d6ebd0b77f17158a51369845", checked := Tryd.checked }
namespace Rows
def none {H : Type} : Left H := { results := [], args := [] }

/- WHAT THE LISTED PACKAGE-LEVEL VARIABLES READ AS WHEN THE CALL BEGINS. Each datum BY PROGRAM (the guide's laid-datum.mjs) off the statement by which the dump's own 'gosem.cut.vars' lays the variable. In a bare row this is a premise. The card (YtllemloicianmaaDoorCards.lean) ties it to the program's text. -/
def laid_transom_isa_uses {H : Type} : DataW H := .agg [.lit (.int .i64 0), .lit (.int .i64 5), .lit (.int .i64 5), .lit (.int .i64 3), .lit (.int .i64 3), .lit (.int .i64 3), .lit (.int .i64 3), .lit (.int .i64 3), .lit (.int .i64 3), .lit (.int .i64 3), .lit (.int .i64 3), .lit (.int .i64 3), .lit (.int .i64 3), .lit (.int .i64 5), .lit (.int .i64 7), .lit (.int .i64 7), .lit (.int .i64 7), .lit (.int .i64 7), .lit (.int .i64 4), .lit (.int .i64 5), .lit (.int .i64 1), .lit (.int .i64 7), .lit (.int .i64 7), .lit (.int .i64 7), .lit (.int .i64 0)]

/-- 'transomlaw03.CpuDoes': WHATEVER THE INPUT: true; the input reads as it did. -/
def cpuDoesSpec : ChangeSpec := { name := "cpuDoes", fn := fun _ => fun
  | [d1, d2] => { results := [.lit (.bool true)], args := [d1, d2] }
  | _ => none }
def cpuDoesRow : OpenClaim := { program := "ytllemloicianmaadoor", sum := "51e37dcce1b795fff8ae0acc431d941f5265ac00d6ebd0b77f17158a51369845", func := "transom/transomlaw03.CpuDoes", spec := "cpuDoes", named := ["transom/isa.uses"], apart := false, laid := [("transom/isa.uses", laid_transom_isa_uses)] }
def CpuDoesSaid : Prop := cpuDoesRow.holds Tryd.pinned (OpenSpec.ofChange cpuDoesSpec)

/-- ITS FALSE NEIGHBOUR: 'it returns false'. Refute it at one input. -/
def cpuDoesWrong : ChangeSpec := { name := "cpuDoes", fn := fun _ => fun
  | [d1, d2] => { results := [.lit (.bool false)], args := [d1, d2] }
  | _ => none }
def CpuDoesWrongFalsely : Prop := cpuDoesRow.holds Tryd.pinned (OpenSpec.ofChange cpuDoesWrong)

/-- 'transomlaw03.CpuGoes': WHATEVER THE INPUT: true; the input reads as it did. -/
def cpuGoesSpec : ChangeSpec := { name := "cpuGoes", fn := fun _ => fun
  | [d1, d2] => { results := [.lit (.bool true)], args := [d1, d2] }
  | _ => none }
def cpuGoesRow : OpenClaim := { program := "ytllemloicianmaadoor", sum := "51e37dcce1b795fff8ae0acc431d941f5265ac00d6ebd0b77f17158a51369845", func := "transom/transomlaw03.CpuGoes", spec := "cpuGoes", named := ["transom/isa.uses"], apart := false, laid := [("transom/isa.uses", laid_transom_isa_uses)] }
def CpuGoesSaid : Prop := cpuGoesRow.holds Tryd.pinned (OpenSpec.ofChange cpuGoesSpec)

/-- ITS FALSE NEIGHBOUR: 'it returns false'. Refute it at one input. -/
def cpuGoesWrong : ChangeSpec := { name := "cpuGoes", fn := fun _ => fun
  | [d1, d2] => { results := [.lit (.bool false)], args := [d1, d2] }
  | _ => none }
def CpuGoesWrongFalsely : Prop := cpuGoesRow.holds Tryd.pinned (OpenSpec.ofChange cpuGoesWrong)

/-- 'transomlaw03.CpuUndoes': WHATEVER THE INPUT: true; the input reads as it did. -/
def cpuUndoesSpec : ChangeSpec := { name := "cpuUndoes", fn := fun _ => fun
  | [d1, d2, d3] => { results := [.lit (.bool true)], args := [d1, d2, d3] }
  | _ => none }
def cpuUndoesRow : OpenClaim := { program := "ytllemloicianmaadoor", sum := "51e37dcce1b795fff8ae0acc431d941f5265ac00d6ebd0b77f17158a51369845", func := "transom/transomlaw03.CpuUndoes", spec := "cpuUndoes", named := ["transom/isa.uses"], apart := false, laid := [("transom/isa.uses", laid_transom_isa_uses)] }
def CpuUndoesSaid : Prop := cpuUndoesRow.holds Tryd.pinned (OpenSpec.ofChange cpuUndoesSpec)

/-- ITS FALSE NEIGHBOUR: 'it returns false'. Refute it at one input. -/
def cpuUndoesWrong : ChangeSpec := { name := "cpuUndoes", fn := fun _ => fun
  | [d1, d2, d3] => { results := [.lit (.bool false)], args := [d1, d2, d3] }
  | _ => none }
def CpuUndoesWrongFalsely : Prop := cpuUndoesRow.holds Tryd.pinned (OpenSpec.ofChange cpuUndoesWrong)

/-- 'transomlaw03.CpuSteps': WHATEVER THE INPUT: true; the input reads as it did. -/
def cpuStepsSpec : ChangeSpec := { name := "cpuSteps", fn := fun _ => fun
  | [d1, d2] => { results := [.lit (.bool true)], args := [d1, d2] }
  | _ => none }
def cpuStepsRow : OpenClaim := { program := "ytllemloicianmaadoor", sum := "51e37dcce1b795fff8ae0acc431d941f5265ac00d6ebd0b77f17158a51369845", func := "transom/transomlaw03.CpuSteps", spec := "cpuSteps", named := ["transom/isa.uses"], apart := false, laid := [("transom/isa.uses", laid_transom_isa_uses)] }
def CpuStepsSaid : Prop := cpuStepsRow.holds Tryd.pinned (OpenSpec.ofChange cpuStepsSpec)

/-- ITS FALSE NEIGHBOUR: 'it returns false'. Refute it at one input. -/
def cpuStepsWrong : ChangeSpec := { name := "cpuSteps", fn := fun _ => fun
  | [d1, d2] => { results := [.lit (.bool false)], args := [d1, d2] }
  | _ => none }
def CpuStepsWrongFalsely : Prop := cpuStepsRow.holds Tryd.pinned (OpenSpec.ofChange cpuStepsWrong)

/-- 'transomlaw03.CpuStays': WHATEVER THE INPUT: true; the input reads as it did. -/
def cpuStaysSpec : ChangeSpec := { name := "cpuStays", fn := fun _ => fun
  | [d1, d2] => { results := [.lit (.bool true)], args := [d1, d2] }
  | _ => none }
def cpuStaysRow : OpenClaim := { program := "ytllemloicianmaadoor", sum := "51e37dcce1b795fff8ae0acc431d941f5265ac00d6ebd0b77f17158a51369845", func := "transom/transomlaw03.CpuStays", spec := "cpuStays", named := ["transom/isa.uses"], apart := false, laid := [("transom/isa.uses", laid_transom_isa_uses)] }
def CpuStaysSaid : Prop := cpuStaysRow.holds Tryd.pinned (OpenSpec.ofChange cpuStaysSpec)

/-- ITS FALSE NEIGHBOUR: 'it returns false'. Refute it at one input. -/
def cpuStaysWrong : ChangeSpec := { name := "cpuStays", fn := fun _ => fun
  | [d1, d2] => { results := [.lit (.bool false)], args := [d1, d2] }
  | _ => none }
def CpuStaysWrongFalsely : Prop := cpuStaysRow.holds Tryd.pinned (OpenSpec.ofChange cpuStaysWrong)

/-- 'transomlaw03.CpuOwn': WHATEVER THE INPUT: true; the input reads as it did. -/
def cpuOwnSpec : ChangeSpec := { name := "cpuOwn", fn := fun _ => fun
  | [d1, d2] => { results := [.lit (.bool true)], args := [d1, d2] }
  | _ => none }
def cpuOwnRow : OpenClaim := { program := "ytllemloicianmaadoor", sum := "51e37dcce1b795fff8ae0acc431d941f5265ac00d6ebd0b77f17158a51369845", func := "transom/transomlaw03.CpuOwn", spec := "cpuOwn", named := ["transom/isa.uses"], apart := false, laid := [("transom/isa.uses", laid_transom_isa_uses)] }
def CpuOwnSaid : Prop := cpuOwnRow.holds Tryd.pinned (OpenSpec.ofChange cpuOwnSpec)

/-- ITS FALSE NEIGHBOUR: 'it returns false'. Refute it at one input. -/
def cpuOwnWrong : ChangeSpec := { name := "cpuOwn", fn := fun _ => fun
  | [d1, d2] => { results := [.lit (.bool false)], args := [d1, d2] }
  | _ => none }
def CpuOwnWrongFalsely : Prop := cpuOwnRow.holds Tryd.pinned (OpenSpec.ofChange cpuOwnWrong)

/-- 'transomlaw03.CpuPlain': WHATEVER THE INPUT: true; the input reads as it did. -/
def cpuPlainSpec : ChangeSpec := { name := "cpuPlain", fn := fun _ => fun
  | [d1, d2, d3] => { results := [.lit (.bool true)], args := [d1, d2, d3] }
  | _ => none }
def cpuPlainRow : OpenClaim := { program := "ytllemloicianmaadoor", sum := "51e37dcce1b795fff8ae0acc431d941f5265ac00d6ebd0b77f17158a51369845", func := "transom/transomlaw03.CpuPlain", spec := "cpuPlain", named := ["transom/isa.uses"], apart := false, laid := [("transom/isa.uses", laid_transom_isa_uses)] }
def CpuPlainSaid : Prop := cpuPlainRow.holds Tryd.pinned (OpenSpec.ofChange cpuPlainSpec)

/-- ITS FALSE NEIGHBOUR: 'it returns false'. Refute it at one input. -/
def cpuPlainWrong : ChangeSpec := { name := "cpuPlain", fn := fun _ => fun
  | [d1, d2, d3] => { results := [.lit (.bool false)], args := [d1, d2, d3] }
  | _ => none }
def CpuPlainWrongFalsely : Prop := cpuPlainRow.holds Tryd.pinned (OpenSpec.ofChange cpuPlainWrong)

/-- 'transomlaw03.CpuRuns': WHATEVER THE INPUT: true; the input reads as it did. -/
def cpuRunsSpec : ChangeSpec := { name := "cpuRuns", fn := fun _ => fun
  | [d1, d2, d3] => { results := [.lit (.bool true)], args := [d1, d2, d3] }
  | _ => none }
def cpuRunsRow : OpenClaim := { program := "ytllemloicianmaadoor", sum := "51e37dcce1b795fff8ae0acc431d941f5265ac00d6ebd0b77f17158a51369845", func := "transom/transomlaw03.CpuRuns", spec := "cpuRuns", unfollowed := true, recurses := true, named := ["transom/isa.uses"], apart := false, laid := [("transom/isa.uses", laid_transom_isa_uses)] }
def CpuRunsSaid : Prop := cpuRunsRow.holds Tryd.pinned (OpenSpec.ofChange cpuRunsSpec)

/-- ITS FALSE NEIGHBOUR: 'it returns false'. Refute it at one input. -/
def cpuRunsWrong : ChangeSpec := { name := "cpuRuns", fn := fun _ => fun
  | [d1, d2, d3] => { results := [.lit (.bool false)], args := [d1, d2, d3] }
  | _ => none }
def CpuRunsWrongFalsely : Prop := cpuRunsRow.holds Tryd.pinned (OpenSpec.ofChange cpuRunsWrong)

/-- 'transomlaw03.CpuParts': WHATEVER THE INPUT: true; the input reads as it did. -/
def cpuPartsSpec : ChangeSpec := { name := "cpuParts", fn := fun _ => fun
  | [d] => { results := [.lit (.bool true)], args := [d] }
  | _ => none }
def cpuPartsRow : OpenClaim := { program := "ytllemloicianmaadoor", sum := "51e37dcce1b795fff8ae0acc431d941f5265ac00d6ebd0b77f17158a51369845", func := "transom/transomlaw03.CpuParts", spec := "cpuParts", unfollowed := true, recurses := true, named := ["transom/isa.uses"], apart := false, laid := [("transom/isa.uses", laid_transom_isa_uses)] }
def CpuPartsSaid : Prop := cpuPartsRow.holds Tryd.pinned (OpenSpec.ofChange cpuPartsSpec)

/-- ITS FALSE NEIGHBOUR: 'it returns false'. Refute it at one input. -/
def cpuPartsWrong : ChangeSpec := { name := "cpuParts", fn := fun _ => fun
  | [d] => { results := [.lit (.bool false)], args := [d] }
  | _ => none }
def CpuPartsWrongFalsely : Prop := cpuPartsRow.holds Tryd.pinned (OpenSpec.ofChange cpuPartsWrong)

/- THE SECOND FORM. 'bulk': how many values and letters a reading holds, each counted each time it is reached (what is shared counts as often as it is met; a slice's spare places count too). A statement '..UptoSaid' is the law's where the arguments, and the package variables that the reading takes, are together of bulk at most 1048576: NARROWER than '..Said'. Prove '..Said' where nothing that the law and all that it calls make is longer than what came in: it says more and counts as full. Else prove '..UptoSaid'. A law counts once. -/
mutual
def uptoBulk {H : Type} : DataW H → Nat
  | .lit (.string bytes) => bytes.length + 1
  | .lit _ => 1
  | .nil => 1
  | .ptr d => uptoBulk d + 1
  | .slice elems spare => uptoBulkAll elems + uptoBulkAll spare + 1
  | .agg parts => uptoBulkAll parts + 1
  | .iface _ d => uptoBulk d + 1
  | .map entries => uptoBulkEntries entries + 1
  | .held _ => 1
def uptoBulkAll {H : Type} : List (DataW H) → Nat
  | [] => 0
  | d :: r => uptoBulk d + uptoBulkAll r
def uptoBulkEntries {H : Type} : List (Lit × DataW H) → Nat
  | [] => 0
  | x :: r => uptoBulkEntry x + uptoBulkEntries r
def uptoBulkEntry {H : Type} : Lit × DataW H → Nat
  | (.string bytes, d) => bytes.length + uptoBulk d + 1
  | (_, d) => uptoBulk d + 1
 end
def uptoSmall : (H : Type) → List (DataW H) → Bool := fun _ ds => decide (uptoBulkAll ds ≤ 1048576)
def OpenSpec.upto (s : _root_.Go.ChangeSpec) : _root_.Go.OpenSpec := { _root_.Go.OpenSpec.ofChange s with cond := some uptoSmall }

/-- 'transomlaw03.CpuDoes', WHERE WHAT IT READS IS OF BULK AT MOST 1048576: true; the input reads as it did. -/
def cpuDoesUptoRow : OpenClaim := { program := "ytllemloicianmaadoor", sum := "51e37dcce1b795fff8ae0acc431d941f5265ac00d6ebd0b77f17158a51369845", func := "transom/transomlaw03.CpuDoes", spec := "cpuDoes", named := ["transom/isa.uses"], apart := false, laid := [("transom/isa.uses", laid_transom_isa_uses)], narrowed := true }
def CpuDoesUptoSaid : Prop := cpuDoesUptoRow.holds Tryd.pinned (OpenSpec.upto cpuDoesSpec)

/-- 'transomlaw03.CpuGoes', WHERE WHAT IT READS IS OF BULK AT MOST 1048576: true; the input reads as it did. -/
def cpuGoesUptoRow : OpenClaim := { program := "ytllemloicianmaadoor", sum := "51e37dcce1b795fff8ae0acc431d941f5265ac00d6ebd0b77f17158a51369845", func := "transom/transomlaw03.CpuGoes", spec := "cpuGoes", named := ["transom/isa.uses"], apart := false, laid := [("transom/isa.uses", laid_transom_isa_uses)], narrowed := true }
def CpuGoesUptoSaid : Prop := cpuGoesUptoRow.holds Tryd.pinned (OpenSpec.upto cpuGoesSpec)

/-- 'transomlaw03.CpuUndoes', WHERE WHAT IT READS IS OF BULK AT MOST 1048576: true; the input reads as it did. -/
def cpuUndoesUptoRow : OpenClaim := { program := "ytllemloicianmaadoor", sum := "51e37dcce1b795fff8ae0acc431d941f5265ac00d6ebd0b77f17158a51369845", func := "transom/transomlaw03.CpuUndoes", spec := "cpuUndoes", named := ["transom/isa.uses"], apart := false, laid := [("transom/isa.uses", laid_transom_isa_uses)], narrowed := true }
def CpuUndoesUptoSaid : Prop := cpuUndoesUptoRow.holds Tryd.pinned (OpenSpec.upto cpuUndoesSpec)

/-- 'transomlaw03.CpuSteps', WHERE WHAT IT READS IS OF BULK AT MOST 1048576: true; the input reads as it did. -/
def cpuStepsUptoRow : OpenClaim := { program := "ytllemloicianmaadoor", sum := "51e37dcce1b795fff8ae0acc431d941f5265ac00d6ebd0b77f17158a51369845", func := "transom/transomlaw03.CpuSteps", spec := "cpuSteps", named := ["transom/isa.uses"], apart := false, laid := [("transom/isa.uses", laid_transom_isa_uses)], narrowed := true }
def CpuStepsUptoSaid : Prop := cpuStepsUptoRow.holds Tryd.pinned (OpenSpec.upto cpuStepsSpec)

/-- 'transomlaw03.CpuStays', WHERE WHAT IT READS IS OF BULK AT MOST 1048576: true; the input reads as it did. -/
def cpuStaysUptoRow : OpenClaim := { program := "ytllemloicianmaadoor", sum := "51e37dcce1b795fff8ae0acc431d941f5265ac00d6ebd0b77f17158a51369845", func := "transom/transomlaw03.CpuStays", spec := "cpuStays", named := ["transom/isa.uses"], apart := false, laid := [("transom/isa.uses", laid_transom_isa_uses)], narrowed := true }
def CpuStaysUptoSaid : Prop := cpuStaysUptoRow.holds Tryd.pinned (OpenSpec.upto cpuStaysSpec)

/-- 'transomlaw03.CpuOwn', WHERE WHAT IT READS IS OF BULK AT MOST 1048576: true; the input reads as it did. -/
def cpuOwnUptoRow : OpenClaim := { program := "ytllemloicianmaadoor", sum := "51e37dcce1b795fff8ae0acc431d941f5265ac00d6ebd0b77f17158a51369845", func := "transom/transomlaw03.CpuOwn", spec := "cpuOwn", named := ["transom/isa.uses"], apart := false, laid := [("transom/isa.uses", laid_transom_isa_uses)], narrowed := true }
def CpuOwnUptoSaid : Prop := cpuOwnUptoRow.holds Tryd.pinned (OpenSpec.upto cpuOwnSpec)

/-- 'transomlaw03.CpuPlain', WHERE WHAT IT READS IS OF BULK AT MOST 1048576: true; the input reads as it did. -/
def cpuPlainUptoRow : OpenClaim := { program := "ytllemloicianmaadoor", sum := "51e37dcce1b795fff8ae0acc431d941f5265ac00d6ebd0b77f17158a51369845", func := "transom/transomlaw03.CpuPlain", spec := "cpuPlain", named := ["transom/isa.uses"], apart := false, laid := [("transom/isa.uses", laid_transom_isa_uses)], narrowed := true }
def CpuPlainUptoSaid : Prop := cpuPlainUptoRow.holds Tryd.pinned (OpenSpec.upto cpuPlainSpec)

/-- 'transomlaw03.CpuRuns', WHERE WHAT IT READS IS OF BULK AT MOST 1048576: true; the input reads as it did. -/
def cpuRunsUptoRow : OpenClaim := { program := "ytllemloicianmaadoor", sum := "51e37dcce1b795fff8ae0acc431d941f5265ac00d6ebd0b77f17158a51369845", func := "transom/transomlaw03.CpuRuns", spec := "cpuRuns", unfollowed := true, recurses := true, named := ["transom/isa.uses"], apart := false, laid := [("transom/isa.uses", laid_transom_isa_uses)], narrowed := true }
def CpuRunsUptoSaid : Prop := cpuRunsUptoRow.holds Tryd.pinned (OpenSpec.upto cpuRunsSpec)

/-- 'transomlaw03.CpuParts', WHERE WHAT IT READS IS OF BULK AT MOST 1048576: true; the input reads as it did. -/
def cpuPartsUptoRow : OpenClaim := { program := "ytllemloicianmaadoor", sum := "51e37dcce1b795fff8ae0acc431d941f5265ac00d6ebd0b77f17158a51369845", func := "transom/transomlaw03.CpuParts", spec := "cpuParts", unfollowed := true, recurses := true, named := ["transom/isa.uses"], apart := false, laid := [("transom/isa.uses", laid_transom_isa_uses)], narrowed := true }
def CpuPartsUptoSaid : Prop := cpuPartsUptoRow.holds Tryd.pinned (OpenSpec.upto cpuPartsSpec)

end Rows
end Go.Proofs.YtllemloicianmaaDoor
