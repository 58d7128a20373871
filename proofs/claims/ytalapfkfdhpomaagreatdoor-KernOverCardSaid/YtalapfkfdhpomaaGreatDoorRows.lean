/-
  NARROWER THAN 'FOR EVERY INPUT', by the rows' own cells (each row's printed sentence says how): KernClock: laid · KernRight: laid · KernEnds: laid · KernTells: laid · KernParts: laid · KernOver: laid · KernZombies: laid · KernBlind: laid.
  DERIVED. THE GIVEN ROWS OF THIS SEAT. 8 by the template 'for every input the law returns true; each argument reads behind the call as it read before'; 0 by the template 'total and deterministic' (their statements: YtalapfkfdhpomaaGreatDoorTotals.lean).
  GIVEN WITH THE SEED: the statements are not yours to turn. If you find one false, say at which input.
  Laid BY PROGRAM, IN A SANDBOX (cutbox-rows.mjs): the forced cells as the released guide's own fill.sh prints them over the translation 44a35d0b78a58c31… (all of the seat's roots in one cut). By AI agents, Wed Nov 11 2026. No macro, syntax, notation, axiom, sorry.
-/
import Derived.Test.YtalapfkfdhpomaaGreatDoorChecked
import GoSem.Claim
import GoSem.ClaimJoined
import GoSem.ClaimMapViews
import Derived.JoinedTies
import Derived.KernelRfl
namespace Go.Proofs.YtalapfkfdhpomaaGreatDoor
/- THE CELL 'sum', in the pinned program and in every row, IS THE sha256 OF THE DUMP (.gsa) THAT YtalapfkfdhpomaaGreatDoorProg.lean LOADS. Nothing in Lean hashes anything: it is a label: what it is worth is what the hold of that sum in a sandbox is worth. -/
noncomputable def Tryz.pinned : Pinned := { name := "ytalapfkfdhpomaagreatdoor", sum := "44a35d0b78a58c31e4039233a34f6b7096d29a35dd55e5a23eaca20f96eb5fbe", checked := Tryz.checked }
namespace Rows
def none {H : Type} : Left H := { results := [], args := [] }

/- WHAT THE LISTED PACKAGE-LEVEL VARIABLES READ AS WHEN THE CALL BEGINS. Each datum BY PROGRAM (the guide's laid-datum.mjs) off the statement by which the dump's own 'gosem.cut.vars' lays the variable. In a bare row this is a premise. The card (YtalapfkfdhpomaaGreatDoorCards.lean) ties it to the program's text. -/
def laid_transom_isa_uses {H : Type} : DataW H := .agg [.lit (.int .i64 0), .lit (.int .i64 5), .lit (.int .i64 5), .lit (.int .i64 3), .lit (.int .i64 3), .lit (.int .i64 3), .lit (.int .i64 3), .lit (.int .i64 3), .lit (.int .i64 3), .lit (.int .i64 3), .lit (.int .i64 3), .lit (.int .i64 3), .lit (.int .i64 3), .lit (.int .i64 5), .lit (.int .i64 7), .lit (.int .i64 7), .lit (.int .i64 7), .lit (.int .i64 7), .lit (.int .i64 4), .lit (.int .i64 5), .lit (.int .i64 1), .lit (.int .i64 7), .lit (.int .i64 7), .lit (.int .i64 7), .lit (.int .i64 0)]

/-- 'transomlaw13.KernClock': WHATEVER THE INPUT: true; the input reads as it did. -/
def kernClockSpec : ChangeSpec := { name := "kernClock", fn := fun _ => fun
  | [d1, d2] => { results := [.lit (.bool true)], args := [d1, d2] }
  | _ => none }
def kernClockRow : OpenClaim := { program := "ytalapfkfdhpomaagreatdoor", sum := "44a35d0b78a58c31e4039233a34f6b7096d29a35dd55e5a23eaca20f96eb5fbe", func := "transom/transomlaw13.KernClock", spec := "kernClock", inPlace := ["internal/abi.NoEscape", "internal/bytealg.MakeNoZero", "slices.overlaps[transom/api.Span]", "slices.overlaps[transom/api.Proc]", "slices.overlaps[transom/api.Alarm]"], unfollowed := true, recurses := true, named := ["transom/isa.uses"], apart := false, laid := [("transom/isa.uses", laid_transom_isa_uses)] }
def KernClockSaid : Prop := kernClockRow.holds Tryz.pinned (OpenSpec.ofChange kernClockSpec)

/-- ITS FALSE NEIGHBOUR: 'it returns false'. Refute it at one input. -/
def kernClockWrong : ChangeSpec := { name := "kernClock", fn := fun _ => fun
  | [d1, d2] => { results := [.lit (.bool false)], args := [d1, d2] }
  | _ => none }
def KernClockWrongFalsely : Prop := kernClockRow.holds Tryz.pinned (OpenSpec.ofChange kernClockWrong)

/-- 'transomlaw13.KernRight': WHATEVER THE INPUT: true; the input reads as it did. -/
def kernRightSpec : ChangeSpec := { name := "kernRight", fn := fun _ => fun
  | [d1, d2] => { results := [.lit (.bool true)], args := [d1, d2] }
  | _ => none }
def kernRightRow : OpenClaim := { program := "ytalapfkfdhpomaagreatdoor", sum := "44a35d0b78a58c31e4039233a34f6b7096d29a35dd55e5a23eaca20f96eb5fbe", func := "transom/transomlaw13.KernRight", spec := "kernRight", inPlace := ["internal/abi.NoEscape", "internal/bytealg.MakeNoZero", "slices.overlaps[transom/api.Span]", "slices.overlaps[transom/api.Proc]", "slices.overlaps[transom/api.Alarm]"], unfollowed := true, recurses := true, named := ["transom/isa.uses"], apart := false, laid := [("transom/isa.uses", laid_transom_isa_uses)] }
def KernRightSaid : Prop := kernRightRow.holds Tryz.pinned (OpenSpec.ofChange kernRightSpec)

/-- ITS FALSE NEIGHBOUR: 'it returns false'. Refute it at one input. -/
def kernRightWrong : ChangeSpec := { name := "kernRight", fn := fun _ => fun
  | [d1, d2] => { results := [.lit (.bool false)], args := [d1, d2] }
  | _ => none }
def KernRightWrongFalsely : Prop := kernRightRow.holds Tryz.pinned (OpenSpec.ofChange kernRightWrong)

/-- 'transomlaw13.KernEnds': WHATEVER THE INPUT: true; the input reads as it did. -/
def kernEndsSpec : ChangeSpec := { name := "kernEnds", fn := fun _ => fun
  | [d1, d2] => { results := [.lit (.bool true)], args := [d1, d2] }
  | _ => none }
def kernEndsRow : OpenClaim := { program := "ytalapfkfdhpomaagreatdoor", sum := "44a35d0b78a58c31e4039233a34f6b7096d29a35dd55e5a23eaca20f96eb5fbe", func := "transom/transomlaw13.KernEnds", spec := "kernEnds", inPlace := ["internal/abi.NoEscape", "internal/bytealg.MakeNoZero", "slices.overlaps[transom/api.Span]", "slices.overlaps[transom/api.Proc]", "slices.overlaps[transom/api.Alarm]"], unfollowed := true, recurses := true, named := ["transom/isa.uses"], apart := false, laid := [("transom/isa.uses", laid_transom_isa_uses)] }
def KernEndsSaid : Prop := kernEndsRow.holds Tryz.pinned (OpenSpec.ofChange kernEndsSpec)

/-- ITS FALSE NEIGHBOUR: 'it returns false'. Refute it at one input. -/
def kernEndsWrong : ChangeSpec := { name := "kernEnds", fn := fun _ => fun
  | [d1, d2] => { results := [.lit (.bool false)], args := [d1, d2] }
  | _ => none }
def KernEndsWrongFalsely : Prop := kernEndsRow.holds Tryz.pinned (OpenSpec.ofChange kernEndsWrong)

/-- 'transomlaw13.KernTells': WHATEVER THE INPUT: true; the input reads as it did. -/
def kernTellsSpec : ChangeSpec := { name := "kernTells", fn := fun _ => fun
  | [d1, d2] => { results := [.lit (.bool true)], args := [d1, d2] }
  | _ => none }
def kernTellsRow : OpenClaim := { program := "ytalapfkfdhpomaagreatdoor", sum := "44a35d0b78a58c31e4039233a34f6b7096d29a35dd55e5a23eaca20f96eb5fbe", func := "transom/transomlaw13.KernTells", spec := "kernTells", inPlace := ["internal/abi.NoEscape", "internal/bytealg.MakeNoZero", "slices.overlaps[transom/api.Span]", "slices.overlaps[transom/api.Proc]", "slices.overlaps[transom/api.Alarm]"], unfollowed := true, recurses := true, named := ["transom/isa.uses"], apart := false, laid := [("transom/isa.uses", laid_transom_isa_uses)] }
def KernTellsSaid : Prop := kernTellsRow.holds Tryz.pinned (OpenSpec.ofChange kernTellsSpec)

/-- ITS FALSE NEIGHBOUR: 'it returns false'. Refute it at one input. -/
def kernTellsWrong : ChangeSpec := { name := "kernTells", fn := fun _ => fun
  | [d1, d2] => { results := [.lit (.bool false)], args := [d1, d2] }
  | _ => none }
def KernTellsWrongFalsely : Prop := kernTellsRow.holds Tryz.pinned (OpenSpec.ofChange kernTellsWrong)

/-- 'transomlaw13.KernParts': WHATEVER THE INPUT: true; the input reads as it did. -/
def kernPartsSpec : ChangeSpec := { name := "kernParts", fn := fun _ => fun
  | [d] => { results := [.lit (.bool true)], args := [d] }
  | _ => none }
def kernPartsRow : OpenClaim := { program := "ytalapfkfdhpomaagreatdoor", sum := "44a35d0b78a58c31e4039233a34f6b7096d29a35dd55e5a23eaca20f96eb5fbe", func := "transom/transomlaw13.KernParts", spec := "kernParts", inPlace := ["internal/abi.NoEscape", "internal/bytealg.MakeNoZero", "slices.overlaps[transom/api.Span]", "slices.overlaps[transom/api.Proc]", "slices.overlaps[transom/api.Alarm]"], unfollowed := true, recurses := true, named := ["transom/isa.uses"], apart := false, laid := [("transom/isa.uses", laid_transom_isa_uses)] }
def KernPartsSaid : Prop := kernPartsRow.holds Tryz.pinned (OpenSpec.ofChange kernPartsSpec)

/-- ITS FALSE NEIGHBOUR: 'it returns false'. Refute it at one input. -/
def kernPartsWrong : ChangeSpec := { name := "kernParts", fn := fun _ => fun
  | [d] => { results := [.lit (.bool false)], args := [d] }
  | _ => none }
def KernPartsWrongFalsely : Prop := kernPartsRow.holds Tryz.pinned (OpenSpec.ofChange kernPartsWrong)

/-- 'transomlaw13.KernOver': WHATEVER THE INPUT: true; the input reads as it did. -/
def kernOverSpec : ChangeSpec := { name := "kernOver", fn := fun _ => fun
  | [d1, d2, d3] => { results := [.lit (.bool true)], args := [d1, d2, d3] }
  | _ => none }
def kernOverRow : OpenClaim := { program := "ytalapfkfdhpomaagreatdoor", sum := "44a35d0b78a58c31e4039233a34f6b7096d29a35dd55e5a23eaca20f96eb5fbe", func := "transom/transomlaw13.KernOver", spec := "kernOver", inPlace := ["internal/abi.NoEscape", "internal/bytealg.MakeNoZero", "slices.overlaps[transom/api.Span]", "slices.overlaps[transom/api.Proc]", "slices.overlaps[transom/api.Alarm]"], unfollowed := true, recurses := true, named := ["transom/isa.uses"], apart := false, laid := [("transom/isa.uses", laid_transom_isa_uses)] }
def KernOverSaid : Prop := kernOverRow.holds Tryz.pinned (OpenSpec.ofChange kernOverSpec)

/-- ITS FALSE NEIGHBOUR: 'it returns false'. Refute it at one input. -/
def kernOverWrong : ChangeSpec := { name := "kernOver", fn := fun _ => fun
  | [d1, d2, d3] => { results := [.lit (.bool false)], args := [d1, d2, d3] }
  | _ => none }
def KernOverWrongFalsely : Prop := kernOverRow.holds Tryz.pinned (OpenSpec.ofChange kernOverWrong)

/-- 'transomlaw13.KernZombies': WHATEVER THE INPUT: true; the input reads as it did. -/
def kernZombiesSpec : ChangeSpec := { name := "kernZombies", fn := fun _ => fun
  | [d1, d2] => { results := [.lit (.bool true)], args := [d1, d2] }
  | _ => none }
def kernZombiesRow : OpenClaim := { program := "ytalapfkfdhpomaagreatdoor", sum := "44a35d0b78a58c31e4039233a34f6b7096d29a35dd55e5a23eaca20f96eb5fbe", func := "transom/transomlaw13.KernZombies", spec := "kernZombies", inPlace := ["internal/abi.NoEscape", "internal/bytealg.MakeNoZero", "slices.overlaps[transom/api.Span]", "slices.overlaps[transom/api.Proc]", "slices.overlaps[transom/api.Alarm]"], unfollowed := true, recurses := true, named := ["transom/isa.uses"], apart := false, laid := [("transom/isa.uses", laid_transom_isa_uses)] }
def KernZombiesSaid : Prop := kernZombiesRow.holds Tryz.pinned (OpenSpec.ofChange kernZombiesSpec)

/-- ITS FALSE NEIGHBOUR: 'it returns false'. Refute it at one input. -/
def kernZombiesWrong : ChangeSpec := { name := "kernZombies", fn := fun _ => fun
  | [d1, d2] => { results := [.lit (.bool false)], args := [d1, d2] }
  | _ => none }
def KernZombiesWrongFalsely : Prop := kernZombiesRow.holds Tryz.pinned (OpenSpec.ofChange kernZombiesWrong)

/-- 'transomlaw13.KernBlind': WHATEVER THE INPUT: true; the input reads as it did. -/
def kernBlindSpec : ChangeSpec := { name := "kernBlind", fn := fun _ => fun
  | [d] => { results := [.lit (.bool true)], args := [d] }
  | _ => none }
def kernBlindRow : OpenClaim := { program := "ytalapfkfdhpomaagreatdoor", sum := "44a35d0b78a58c31e4039233a34f6b7096d29a35dd55e5a23eaca20f96eb5fbe", func := "transom/transomlaw13.KernBlind", spec := "kernBlind", inPlace := ["internal/abi.NoEscape", "internal/bytealg.MakeNoZero", "slices.overlaps[transom/api.Span]", "slices.overlaps[transom/api.Proc]", "slices.overlaps[transom/api.Alarm]"], unfollowed := true, recurses := true, named := ["transom/isa.uses"], apart := false, laid := [("transom/isa.uses", laid_transom_isa_uses)] }
def KernBlindSaid : Prop := kernBlindRow.holds Tryz.pinned (OpenSpec.ofChange kernBlindSpec)

/-- ITS FALSE NEIGHBOUR: 'it returns false'. Refute it at one input. -/
def kernBlindWrong : ChangeSpec := { name := "kernBlind", fn := fun _ => fun
  | [d] => { results := [.lit (.bool false)], args := [d] }
  | _ => none }
def KernBlindWrongFalsely : Prop := kernBlindRow.holds Tryz.pinned (OpenSpec.ofChange kernBlindWrong)

/- THE SECOND FORM. 'bulk': how many values and letters a reading holds, each counted each time it is reached (what is shared counts as often as it is met; a slice's spare places count too). A statement '..UptoSaid' is the law's where the arguments, and the package variables that the reading takes, are together of bulk at most 1048576: NARROWER than '..Said'. Prove '..Said' where nothing that the law and all that it calls make is longer than what came in: it says more and counts as full. Else prove '..UptoSaid'. A law counts once. -/
mutual
def uptoBulk {H : Type} : DataW H → Nat
  | .lit (.string bytes) => bytes.length + 1
  | .lit _ => 1
  | .nil => 1
  | .ptr d => uptoBulk d + 1
  | .slice elems spare => uptoBulkAll elems + uptoBulkAll spare + 1
  | .agg parts => uptoBulkAll parts + 1
  | .iface _ d => uptoBulk d + 1
  | .map entries => uptoBulkEntries entries + 1
  | .held _ => 1
def uptoBulkAll {H : Type} : List (DataW H) → Nat
  | [] => 0
  | d :: r => uptoBulk d + uptoBulkAll r
def uptoBulkEntries {H : Type} : List (Lit × DataW H) → Nat
  | [] => 0
  | x :: r => uptoBulkEntry x + uptoBulkEntries r
def uptoBulkEntry {H : Type} : Lit × DataW H → Nat
  | (.string bytes, d) => bytes.length + uptoBulk d + 1
  | (_, d) => uptoBulk d + 1
 end
def uptoSmall : (H : Type) → List (DataW H) → Bool := fun _ ds => decide (uptoBulkAll ds ≤ 1048576)
def OpenSpec.upto (s : _root_.Go.ChangeSpec) : _root_.Go.OpenSpec := { _root_.Go.OpenSpec.ofChange s with cond := some uptoSmall }

/-- 'transomlaw13.KernClock', WHERE WHAT IT READS IS OF BULK AT MOST 1048576: true; the input reads as it did. -/
def kernClockUptoRow : OpenClaim := { program := "ytalapfkfdhpomaagreatdoor", sum := "44a35d0b78a58c31e4039233a34f6b7096d29a35dd55e5a23eaca20f96eb5fbe", func := "transom/transomlaw13.KernClock", spec := "kernClock", inPlace := ["internal/abi.NoEscape", "internal/bytealg.MakeNoZero", "slices.overlaps[transom/api.Span]", "slices.overlaps[transom/api.Proc]", "slices.overlaps[transom/api.Alarm]"], unfollowed := true, recurses := true, named := ["transom/isa.uses"], apart := false, laid := [("transom/isa.uses", laid_transom_isa_uses)], narrowed := true }
def KernClockUptoSaid : Prop := kernClockUptoRow.holds Tryz.pinned (OpenSpec.upto kernClockSpec)

/-- 'transomlaw13.KernRight', WHERE WHAT IT READS IS OF BULK AT MOST 1048576: true; the input reads as it did. -/
def kernRightUptoRow : OpenClaim := { program := "ytalapfkfdhpomaagreatdoor", sum := "44a35d0b78a58c31e4039233a34f6b7096d29a35dd55e5a23eaca20f96eb5fbe", func := "transom/transomlaw13.KernRight", spec := "kernRight", inPlace := ["internal/abi.NoEscape", "internal/bytealg.MakeNoZero", "slices.overlaps[transom/api.Span]", "slices.overlaps[transom/api.Proc]", "slices.overlaps[transom/api.Alarm]"], unfollowed := true, recurses := true, named := ["transom/isa.uses"], apart := false, laid := [("transom/isa.uses", laid_transom_isa_uses)], narrowed := true }
def KernRightUptoSaid : Prop := kernRightUptoRow.holds Tryz.pinned (OpenSpec.upto kernRightSpec)

/-- 'transomlaw13.KernEnds', WHERE WHAT IT READS IS OF BULK AT MOST 1048576: true; the input reads as it did. -/
def kernEndsUptoRow : OpenClaim := { program := "ytalapfkfdhpomaagreatdoor", sum := "44a35d0b78a58c31e4039233a34f6b7096d29a35dd55e5a23eaca20f96eb5fbe", func := "transom/transomlaw13.KernEnds", spec := "kernEnds", inPlace := ["internal/abi.NoEscape", "internal/bytealg.MakeNoZero", "slices.overlaps[transom/api.Span]", "slices.overlaps[transom/api.Proc]", "slices.overlaps[transom/api.Alarm]"], unfollowed := true, recurses := true, named := ["transom/isa.uses"], apart := false, laid := [("transom/isa.uses", laid_transom_isa_uses)], narrowed := true }
def KernEndsUptoSaid : Prop := kernEndsUptoRow.holds Tryz.pinned (OpenSpec.upto kernEndsSpec)

/-- 'transomlaw13.KernTells', WHERE WHAT IT READS IS OF BULK AT MOST 1048576: true; the input reads as it did. -/
def kernTellsUptoRow : OpenClaim := { program := "ytalapfkfdhpomaagreatdoor", sum := "44a35d0b78a58c31e4039233a34f6b7096d29a35dd55e5a23eaca20f96eb5fbe", func := "transom/transomlaw13.KernTells", spec := "kernTells", inPlace := ["internal/abi.NoEscape", "internal/bytealg.MakeNoZero", "slices.overlaps[transom/api.Span]", "slices.overlaps[transom/api.Proc]", "slices.overlaps[transom/api.Alarm]"], unfollowed := true, recurses := true, named := ["transom/isa.uses"], apart := false, laid := [("transom/isa.uses", laid_transom_isa_uses)], narrowed := true }
def KernTellsUptoSaid : Prop := kernTellsUptoRow.holds Tryz.pinned (OpenSpec.upto kernTellsSpec)

/-- 'transomlaw13.KernParts', WHERE WHAT IT READS IS OF BULK AT MOST 1048576: true; the input reads as it did. -/
def kernPartsUptoRow : OpenClaim := { program := "ytalapfkfdhpomaagreatdoor", sum := "44a35d0b78a58c31e4039233a34f6b7096d29a35dd55e5a23eaca20f96eb5fbe", func := "transom/transomlaw13.KernParts", spec := "kernParts", inPlace := ["internal/abi.NoEscape", "internal/bytealg.MakeNoZero", "slices.overlaps[transom/api.Span]", "slices.overlaps[transom/api.Proc]", "slices.overlaps[transom/api.Alarm]"], unfollowed := true, recurses := true, named := ["transom/isa.uses"], apart := false, laid := [("transom/isa.uses", laid_transom_isa_uses)], narrowed := true }
def KernPartsUptoSaid : Prop := kernPartsUptoRow.holds Tryz.pinned (OpenSpec.upto kernPartsSpec)

/-- 'transomlaw13.KernOver', WHERE WHAT IT READS IS OF BULK AT MOST 1048576: true; the input reads as it did. -/
def kernOverUptoRow : OpenClaim := { program := "ytalapfkfdhpomaagreatdoor", sum := "44a35d0b78a58c31e4039233a34f6b7096d29a35dd55e5a23eaca20f96eb5fbe", func := "transom/transomlaw13.KernOver", spec := "kernOver", inPlace := ["internal/abi.NoEscape", "internal/bytealg.MakeNoZero", "slices.overlaps[transom/api.Span]", "slices.overlaps[transom/api.Proc]", "slices.overlaps[transom/api.Alarm]"], unfollowed := true, recurses := true, named := ["transom/isa.uses"], apart := false, laid := [("transom/isa.uses", laid_transom_isa_uses)], narrowed := true }
def KernOverUptoSaid : Prop := kernOverUptoRow.holds Tryz.pinned (OpenSpec.upto kernOverSpec)

/-- 'transomlaw13.KernZombies', WHERE WHAT IT READS IS OF BULK AT MOST 1048576: true; the input reads as it did. -/
def kernZombiesUptoRow : OpenClaim := { program := "ytalapfkfdhpomaagreatdoor", sum := "44a35d0b78a58c31e4039233a34f6b7096d29a35dd55e5a23eaca20f96eb5fbe", func := "transom/transomlaw13.KernZombies", spec := "kernZombies", inPlace := ["internal/abi.NoEscape", "internal/bytealg.MakeNoZero", "slices.overlaps[transom/api.Span]", "slices.overlaps[transom/api.Proc]", "slices.overlaps[transom/api.Alarm]"], unfollowed := true, recurses := true, named := ["transom/isa.uses"], apart := false, laid := [("transom/isa.uses", laid_transom_isa_uses)], narrowed := true }
def KernZombiesUptoSaid : Prop := kernZombiesUptoRow.holds Tryz.pinned (OpenSpec.upto kernZombiesSpec)

/-- 'transomlaw13.KernBlind', WHERE WHAT IT READS IS OF BULK AT MOST 1048576: true; the input reads as it did. -/
def kernBlindUptoRow : OpenClaim := { program := "ytalapfkfdhpomaagreatdoor", sum := "44a35d0b78a58c31e4039233a34f6b7096d29a35dd55e5a23eaca20f96eb5fbe", func := "transom/transomlaw13.KernBlind", spec := "kernBlind", inPlace := ["internal/abi.NoEscape", "internal/bytealg.MakeNoZero", "slices.overlaps[transom/api.Span]", "slices.overlaps[transom/api.Proc]", "slices.overlaps[transom/api.Alarm]"], unfollowed := true, recurses := true, named := ["transom/isa.uses"], apart := false, laid := [("transom/isa.uses", laid_transom_isa_uses)], narrowed := true }
def KernBlindUptoSaid : Prop := kernBlindUptoRow.holds Tryz.pinned (OpenSpec.upto kernBlindSpec)

end Rows
end Go.Proofs.YtalapfkfdhpomaaGreatDoor
