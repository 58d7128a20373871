/-
  NARROWER THAN 'FOR EVERY INPUT', by the rows' own cells (each row's printed sentence says how): SeatKeeps: laid · SeatArrives: laid · SeatClock: laid · SeatHalts: laid · SeatRests: laid · DedGrows: laid · DedAhead: laid · DedParts: laid · DedBegins: laid.
  DERIVED. THE GIVEN ROWS OF THIS SEAT. 9 by the template 'for every input the law returns true; each argument reads behind the call as it read before'; 0 by the template 'total and deterministic' (their statements: YtbhecddpnpkdpaaGreatDoorTotals.lean).
  GIVEN WITH THE SEED: the statements are not yours to turn. If you find one false, say at which input.
  Laid BY PROGRAM, IN A SANDBOX (cutbox-rows.mjs): the forced cells as the released guide's own fill.sh prints them over the translation 52a406dd6d1ab583… (all of the seat's roots in one cut). By AI agents, Wed Nov 11 2026. No macro, syntax, notation, axiom, sorry.
-/
import Derived.Test.YtbhecddpnpkdpaaGreatDoorChecked
import GoSem.Claim
import GoSem.ClaimJoined
import GoSem.ClaimMapViews
import Derived.JoinedTies
import Derived.KernelRfl
namespace Go.Proofs.YtbhecddpnpkdpaaGreatDoor
/- THE CELL 'sum', in the pinned program and in every row, IS THE sha256 OF THE DUMP (.gsa) THAT YtbhecddpnpkdpaaGreatDoorProg.lean LOADS. Nothing in Lean hashes anything: it is a label: what it is worth is what the hold of that sum in a sandbox is worth. -/
noncomputable def Tryz.pinned : Pinned := { name := "ytbhecddpnpkdpaagreatdoor", sum := "52a406dd6d1ab5830537af43dbf827fb9729701917fd25c6d4e828934d24ddef", checked := Tryz.checked }
namespace Rows
def none {H : Type} : Left H := { results := [], args := [] }

/- WHAT THE LISTED PACKAGE-LEVEL VARIABLES READ AS WHEN THE CALL BEGINS. Each datum BY PROGRAM (the guide's laid-datum.mjs) off the statement by which the dump's own 'gosem.cut.vars' lays the variable. In a bare row this is a premise. The card (YtbhecddpnpkdpaaGreatDoorCards.lean) ties it to the program's text. -/
def laid_transom_isa_uses {H : Type} : DataW H := .agg [.lit (.int .i64 0), .lit (.int .i64 5), .lit (.int .i64 5), .lit (.int .i64 3), .lit (.int .i64 3), .lit (.int .i64 3), .lit (.int .i64 3), .lit (.int .i64 3), .lit (.int .i64 3), .lit (.int .i64 3), .lit (.int .i64 3), .lit (.int .i64 3), .lit (.int .i64 3), .lit (.int .i64 5), .lit (.int .i64 7), .lit (.int .i64 7), .lit (.int .i64 7), .lit (.int .i64 7), .lit (.int .i64 4), .lit (.int .i64 5), .lit (.int .i64 1), .lit (.int .i64 7), .lit (.int .i64 7), .lit (.int .i64 7), .lit (.int .i64 0)]

/-- 'transomlaw14.SeatKeeps': WHATEVER THE INPUT: true; the input reads as it did. -/
def seatKeepsSpec : ChangeSpec := { name := "seatKeeps", fn := fun _ => fun
  | [d1, d2, d3] => { results := [.lit (.bool true)], args := [d1, d2, d3] }
  | _ => none }
def seatKeepsRow : OpenClaim := { program := "ytbhecddpnpkdpaagreatdoor", sum := "52a406dd6d1ab5830537af43dbf827fb9729701917fd25c6d4e828934d24ddef", func := "transom/transomlaw14.SeatKeeps", spec := "seatKeeps", inPlace := ["internal/abi.NoEscape", "internal/bytealg.MakeNoZero", "slices.overlaps[transom/api.Span]", "slices.overlaps[transom/api.Proc]", "slices.overlaps[transom/api.Alarm]"], unfollowed := true, recurses := true, named := ["transom/isa.uses"], apart := false, laid := [("transom/isa.uses", laid_transom_isa_uses)] }
def SeatKeepsSaid : Prop := seatKeepsRow.holds Tryz.pinned (OpenSpec.ofChange seatKeepsSpec)

/-- ITS FALSE NEIGHBOUR: 'it returns false'. Refute it at one input. -/
def seatKeepsWrong : ChangeSpec := { name := "seatKeeps", fn := fun _ => fun
  | [d1, d2, d3] => { results := [.lit (.bool false)], args := [d1, d2, d3] }
  | _ => none }
def SeatKeepsWrongFalsely : Prop := seatKeepsRow.holds Tryz.pinned (OpenSpec.ofChange seatKeepsWrong)

/-- 'transomlaw14.SeatArrives': WHATEVER THE INPUT: true; the input reads as it did. -/
def seatArrivesSpec : ChangeSpec := { name := "seatArrives", fn := fun _ => fun
  | [d] => { results := [.lit (.bool true)], args := [d] }
  | _ => none }
def seatArrivesRow : OpenClaim := { program := "ytbhecddpnpkdpaagreatdoor", sum := "52a406dd6d1ab5830537af43dbf827fb9729701917fd25c6d4e828934d24ddef", func := "transom/transomlaw14.SeatArrives", spec := "seatArrives", inPlace := ["internal/abi.NoEscape", "internal/bytealg.MakeNoZero", "slices.overlaps[transom/api.Span]", "slices.overlaps[transom/api.Proc]", "slices.overlaps[transom/api.Alarm]"], unfollowed := true, recurses := true, named := ["transom/isa.uses"], apart := false, laid := [("transom/isa.uses", laid_transom_isa_uses)] }
def SeatArrivesSaid : Prop := seatArrivesRow.holds Tryz.pinned (OpenSpec.ofChange seatArrivesSpec)

/-- ITS FALSE NEIGHBOUR: 'it returns false'. Refute it at one input. -/
def seatArrivesWrong : ChangeSpec := { name := "seatArrives", fn := fun _ => fun
  | [d] => { results := [.lit (.bool false)], args := [d] }
  | _ => none }
def SeatArrivesWrongFalsely : Prop := seatArrivesRow.holds Tryz.pinned (OpenSpec.ofChange seatArrivesWrong)

/-- 'transomlaw14.SeatClock': WHATEVER THE INPUT: true; the input reads as it did. -/
def seatClockSpec : ChangeSpec := { name := "seatClock", fn := fun _ => fun
  | [d1, d2] => { results := [.lit (.bool true)], args := [d1, d2] }
  | _ => none }
def seatClockRow : OpenClaim := { program := "ytbhecddpnpkdpaagreatdoor", sum := "52a406dd6d1ab5830537af43dbf827fb9729701917fd25c6d4e828934d24ddef", func := "transom/transomlaw14.SeatClock", spec := "seatClock", inPlace := ["internal/abi.NoEscape", "internal/bytealg.MakeNoZero", "slices.overlaps[transom/api.Span]", "slices.overlaps[transom/api.Proc]", "slices.overlaps[transom/api.Alarm]"], unfollowed := true, recurses := true, named := ["transom/isa.uses"], apart := false, laid := [("transom/isa.uses", laid_transom_isa_uses)] }
def SeatClockSaid : Prop := seatClockRow.holds Tryz.pinned (OpenSpec.ofChange seatClockSpec)

/-- ITS FALSE NEIGHBOUR: 'it returns false'. Refute it at one input. -/
def seatClockWrong : ChangeSpec := { name := "seatClock", fn := fun _ => fun
  | [d1, d2] => { results := [.lit (.bool false)], args := [d1, d2] }
  | _ => none }
def SeatClockWrongFalsely : Prop := seatClockRow.holds Tryz.pinned (OpenSpec.ofChange seatClockWrong)

/-- 'transomlaw14.SeatHalts': WHATEVER THE INPUT: true; the input reads as it did. -/
def seatHaltsSpec : ChangeSpec := { name := "seatHalts", fn := fun _ => fun
  | [d1, d2, d3] => { results := [.lit (.bool true)], args := [d1, d2, d3] }
  | _ => none }
def seatHaltsRow : OpenClaim := { program := "ytbhecddpnpkdpaagreatdoor", sum := "52a406dd6d1ab5830537af43dbf827fb9729701917fd25c6d4e828934d24ddef", func := "transom/transomlaw14.SeatHalts", spec := "seatHalts", inPlace := ["internal/abi.NoEscape", "internal/bytealg.MakeNoZero", "slices.overlaps[transom/api.Span]", "slices.overlaps[transom/api.Proc]", "slices.overlaps[transom/api.Alarm]"], unfollowed := true, recurses := true, named := ["transom/isa.uses"], apart := false, laid := [("transom/isa.uses", laid_transom_isa_uses)] }
def SeatHaltsSaid : Prop := seatHaltsRow.holds Tryz.pinned (OpenSpec.ofChange seatHaltsSpec)

/-- ITS FALSE NEIGHBOUR: 'it returns false'. Refute it at one input. -/
def seatHaltsWrong : ChangeSpec := { name := "seatHalts", fn := fun _ => fun
  | [d1, d2, d3] => { results := [.lit (.bool false)], args := [d1, d2, d3] }
  | _ => none }
def SeatHaltsWrongFalsely : Prop := seatHaltsRow.holds Tryz.pinned (OpenSpec.ofChange seatHaltsWrong)

/-- 'transomlaw14.SeatRests': WHATEVER THE INPUT: true; the input reads as it did. -/
def seatRestsSpec : ChangeSpec := { name := "seatRests", fn := fun _ => fun
  | [d1, d2] => { results := [.lit (.bool true)], args := [d1, d2] }
  | _ => none }
def seatRestsRow : OpenClaim := { program := "ytbhecddpnpkdpaagreatdoor", sum := "52a406dd6d1ab5830537af43dbf827fb9729701917fd25c6d4e828934d24ddef", func := "transom/transomlaw14.SeatRests", spec := "seatRests", inPlace := ["internal/abi.NoEscape", "internal/bytealg.MakeNoZero", "slices.overlaps[transom/api.Span]", "slices.overlaps[transom/api.Proc]", "slices.overlaps[transom/api.Alarm]"], unfollowed := true, recurses := true, named := ["transom/isa.uses"], apart := false, laid := [("transom/isa.uses", laid_transom_isa_uses)] }
def SeatRestsSaid : Prop := seatRestsRow.holds Tryz.pinned (OpenSpec.ofChange seatRestsSpec)

/-- ITS FALSE NEIGHBOUR: 'it returns false'. Refute it at one input. -/
def seatRestsWrong : ChangeSpec := { name := "seatRests", fn := fun _ => fun
  | [d1, d2] => { results := [.lit (.bool false)], args := [d1, d2] }
  | _ => none }
def SeatRestsWrongFalsely : Prop := seatRestsRow.holds Tryz.pinned (OpenSpec.ofChange seatRestsWrong)

/-- 'transomlaw17.DedGrows': WHATEVER THE INPUT: true; the input reads as it did. -/
def dedGrowsSpec : ChangeSpec := { name := "dedGrows", fn := fun _ => fun
  | [d] => { results := [.lit (.bool true)], args := [d] }
  | _ => none }
def dedGrowsRow : OpenClaim := { program := "ytbhecddpnpkdpaagreatdoor", sum := "52a406dd6d1ab5830537af43dbf827fb9729701917fd25c6d4e828934d24ddef", func := "transom/transomlaw17.DedGrows", spec := "dedGrows", inPlace := ["internal/abi.NoEscape", "internal/bytealg.MakeNoZero", "slices.overlaps[transom/api.Span]", "slices.overlaps[transom/api.Proc]", "slices.overlaps[transom/api.Alarm]"], unfollowed := true, recurses := true, named := ["transom/isa.uses"], apart := false, laid := [("transom/isa.uses", laid_transom_isa_uses)] }
def DedGrowsSaid : Prop := dedGrowsRow.holds Tryz.pinned (OpenSpec.ofChange dedGrowsSpec)

/-- ITS FALSE NEIGHBOUR: 'it returns false'. Refute it at one input. -/
def dedGrowsWrong : ChangeSpec := { name := "dedGrows", fn := fun _ => fun
  | [d] => { results := [.lit (.bool false)], args := [d] }
  | _ => none }
def DedGrowsWrongFalsely : Prop := dedGrowsRow.holds Tryz.pinned (OpenSpec.ofChange dedGrowsWrong)

/-- 'transomlaw17.DedAhead': WHATEVER THE INPUT: true; the input reads as it did. -/
def dedAheadSpec : ChangeSpec := { name := "dedAhead", fn := fun _ => fun
  | [d] => { results := [.lit (.bool true)], args := [d] }
  | _ => none }
def dedAheadRow : OpenClaim := { program := "ytbhecddpnpkdpaagreatdoor", sum := "52a406dd6d1ab5830537af43dbf827fb9729701917fd25c6d4e828934d24ddef", func := "transom/transomlaw17.DedAhead", spec := "dedAhead", inPlace := ["internal/abi.NoEscape", "internal/bytealg.MakeNoZero", "slices.overlaps[transom/api.Span]", "slices.overlaps[transom/api.Proc]", "slices.overlaps[transom/api.Alarm]"], unfollowed := true, recurses := true, named := ["transom/isa.uses"], apart := false, laid := [("transom/isa.uses", laid_transom_isa_uses)] }
def DedAheadSaid : Prop := dedAheadRow.holds Tryz.pinned (OpenSpec.ofChange dedAheadSpec)

/-- ITS FALSE NEIGHBOUR: 'it returns false'. Refute it at one input. -/
def dedAheadWrong : ChangeSpec := { name := "dedAhead", fn := fun _ => fun
  | [d] => { results := [.lit (.bool false)], args := [d] }
  | _ => none }
def DedAheadWrongFalsely : Prop := dedAheadRow.holds Tryz.pinned (OpenSpec.ofChange dedAheadWrong)

/-- 'transomlaw17.DedParts': WHATEVER THE INPUT: true; the input reads as it did. -/
def dedPartsSpec : ChangeSpec := { name := "dedParts", fn := fun _ => fun
  | [d1, d2] => { results := [.lit (.bool true)], args := [d1, d2] }
  | _ => none }
def dedPartsRow : OpenClaim := { program := "ytbhecddpnpkdpaagreatdoor", sum := "52a406dd6d1ab5830537af43dbf827fb9729701917fd25c6d4e828934d24ddef", func := "transom/transomlaw17.DedParts", spec := "dedParts", inPlace := ["internal/abi.NoEscape", "internal/bytealg.MakeNoZero", "slices.overlaps[transom/api.Span]", "slices.overlaps[transom/api.Proc]", "slices.overlaps[transom/api.Alarm]"], unfollowed := true, recurses := true, named := ["transom/isa.uses"], apart := false, laid := [("transom/isa.uses", laid_transom_isa_uses)] }
def DedPartsSaid : Prop := dedPartsRow.holds Tryz.pinned (OpenSpec.ofChange dedPartsSpec)

/-- ITS FALSE NEIGHBOUR: 'it returns false'. Refute it at one input. -/
def dedPartsWrong : ChangeSpec := { name := "dedParts", fn := fun _ => fun
  | [d1, d2] => { results := [.lit (.bool false)], args := [d1, d2] }
  | _ => none }
def DedPartsWrongFalsely : Prop := dedPartsRow.holds Tryz.pinned (OpenSpec.ofChange dedPartsWrong)

/-- 'transomlaw17.DedBegins': WHATEVER THE INPUT: true; the input reads as it did. -/
def dedBeginsSpec : ChangeSpec := { name := "dedBegins", fn := fun _ => fun
  | [d1, d2, d3] => { results := [.lit (.bool true)], args := [d1, d2, d3] }
  | _ => none }
def dedBeginsRow : OpenClaim := { program := "ytbhecddpnpkdpaagreatdoor", sum := "52a406dd6d1ab5830537af43dbf827fb9729701917fd25c6d4e828934d24ddef", func := "transom/transomlaw17.DedBegins", spec := "dedBegins", inPlace := ["internal/abi.NoEscape", "internal/bytealg.MakeNoZero", "slices.overlaps[transom/api.Span]", "slices.overlaps[transom/api.Proc]", "slices.overlaps[transom/api.Alarm]"], unfollowed := true, recurses := true, named := ["transom/isa.uses"], apart := false, laid := [("transom/isa.uses", laid_transom_isa_uses)] }
def DedBeginsSaid : Prop := dedBeginsRow.holds Tryz.pinned (OpenSpec.ofChange dedBeginsSpec)

/-- ITS FALSE NEIGHBOUR: 'it returns false'. Refute it at one input. -/
def dedBeginsWrong : ChangeSpec := { name := "dedBegins", fn := fun _ => fun
  | [d1, d2, d3] => { results := [.lit (.bool false)], args := [d1, d2, d3] }
  | _ => none }
def DedBeginsWrongFalsely : Prop := dedBeginsRow.holds Tryz.pinned (OpenSpec.ofChange dedBeginsWrong)

/- THE SECOND FORM. 'bulk': how many values and letters a reading holds, each counted each time it is reached (what is shared counts as often as it is met; a slice's spare places count too). A statement '..UptoSaid' is the law's where the arguments, and the package variables that the reading takes, are together of bulk at most 1048576: NARROWER than '..Said'. Prove '..Said' where nothing that the law and all that it calls make is longer than what came in: it says more and counts as full. Else prove '..UptoSaid'. A law counts once. -/
mutual
def uptoBulk {H : Type} : DataW H → Nat
  | .lit (.string bytes) => bytes.length + 1
  | .lit _ => 1
  | .nil => 1
  | .ptr d => uptoBulk d + 1
  | .slice elems spare => uptoBulkAll elems + uptoBulkAll spare + 1
  | .agg parts => uptoBulkAll parts + 1
  | .iface _ d => uptoBulk d + 1
  | .map entries => uptoBulkEntries entries + 1
  | .held _ => 1
def uptoBulkAll {H : Type} : List (DataW H) → Nat
  | [] => 0
  | d :: r => uptoBulk d + uptoBulkAll r
def uptoBulkEntries {H : Type} : List (Lit × DataW H) → Nat
  | [] => 0
  | x :: r => uptoBulkEntry x + uptoBulkEntries r
def uptoBulkEntry {H : Type} : Lit × DataW H → Nat
  | (.string bytes, d) => bytes.length + uptoBulk d + 1
  | (_, d) => uptoBulk d + 1
 end
def uptoSmall : (H : Type) → List (DataW H) → Bool := fun _ ds => decide (uptoBulkAll ds ≤ 1048576)
def OpenSpec.upto (s : _root_.Go.ChangeSpec) : _root_.Go.OpenSpec := { _root_.Go.OpenSpec.ofChange s with cond := some uptoSmall }

/-- 'transomlaw14.SeatKeeps', WHERE WHAT IT READS IS OF BULK AT MOST 1048576: true; the input reads as it did. -/
def seatKeepsUptoRow : OpenClaim := { program := "ytbhecddpnpkdpaagreatdoor", sum := "52a406dd6d1ab5830537af43dbf827fb9729701917fd25c6d4e828934d24ddef", func := "transom/transomlaw14.SeatKeeps", spec := "seatKeeps", inPlace := ["internal/abi.NoEscape", "internal/bytealg.MakeNoZero", "slices.overlaps[transom/api.Span]", "slices.overlaps[transom/api.Proc]", "slices.overlaps[transom/api.Alarm]"], unfollowed := true, recurses := true, named := ["transom/isa.uses"], apart := false, laid := [("transom/isa.uses", laid_transom_isa_uses)], narrowed := true }
def SeatKeepsUptoSaid : Prop := seatKeepsUptoRow.holds Tryz.pinned (OpenSpec.upto seatKeepsSpec)

/-- 'transomlaw14.SeatArrives', WHERE WHAT IT READS IS OF BULK AT MOST 1048576: true; the input reads as it did. -/
def seatArrivesUptoRow : OpenClaim := { program := "ytbhecddpnpkdpaagreatdoor", sum := "52a406dd6d1ab5830537af43dbf827fb9729701917fd25c6d4e828934d24ddef", func := "transom/transomlaw14.SeatArrives", spec := "seatArrives", inPlace := ["internal/abi.NoEscape", "internal/bytealg.MakeNoZero", "slices.overlaps[transom/api.Span]", "slices.overlaps[transom/api.Proc]", "slices.overlaps[transom/api.Alarm]"], unfollowed := true, recurses := true, named := ["transom/isa.uses"], apart := false, laid := [("transom/isa.uses", laid_transom_isa_uses)], narrowed := true }
def SeatArrivesUptoSaid : Prop := seatArrivesUptoRow.holds Tryz.pinned (OpenSpec.upto seatArrivesSpec)

/-- 'transomlaw14.SeatClock', WHERE WHAT IT READS IS OF BULK AT MOST 1048576: true; the input reads as it did. -/
def seatClockUptoRow : OpenClaim := { program := "ytbhecddpnpkdpaagreatdoor", sum := "52a406dd6d1ab5830537af43dbf827fb9729701917fd25c6d4e828934d24ddef", func := "transom/transomlaw14.SeatClock", spec := "seatClock", inPlace := ["internal/abi.NoEscape", "internal/bytealg.MakeNoZero", "slices.overlaps[transom/api.Span]", "slices.overlaps[transom/api.Proc]", "slices.overlaps[transom/api.Alarm]"], unfollowed := true, recurses := true, named := ["transom/isa.uses"], apart := false, laid := [("transom/isa.uses", laid_transom_isa_uses)], narrowed := true }
def SeatClockUptoSaid : Prop := seatClockUptoRow.holds Tryz.pinned (OpenSpec.upto seatClockSpec)

/-- 'transomlaw14.SeatHalts', WHERE WHAT IT READS IS OF BULK AT MOST 1048576: true; the input reads as it did. -/
def seatHaltsUptoRow : OpenClaim := { program := "ytbhecddpnpkdpaagreatdoor", sum := "52a406dd6d1ab5830537af43dbf827fb9729701917fd25c6d4e828934d24ddef", func := "transom/transomlaw14.SeatHalts", spec := "seatHalts", inPlace := ["internal/abi.NoEscape", "internal/bytealg.MakeNoZero", "slices.overlaps[transom/api.Span]", "slices.overlaps[transom/api.Proc]", "slices.overlaps[transom/api.Alarm]"], unfollowed := true, recurses := true, named := ["transom/isa.uses"], apart := false, laid := [("transom/isa.uses", laid_transom_isa_uses)], narrowed := true }
def SeatHaltsUptoSaid : Prop := seatHaltsUptoRow.holds Tryz.pinned (OpenSpec.upto seatHaltsSpec)

/-- 'transomlaw14.SeatRests', WHERE WHAT IT READS IS OF BULK AT MOST 1048576: true; the input reads as it did. -/
def seatRestsUptoRow : OpenClaim := { program := "ytbhecddpnpkdpaagreatdoor", sum := "52a406dd6d1ab5830537af43dbf827fb9729701917fd25c6d4e828934d24ddef", func := "transom/transomlaw14.SeatRests", spec := "seatRests", inPlace := ["internal/abi.NoEscape", "internal/bytealg.MakeNoZero", "slices.overlaps[transom/api.Span]", "slices.overlaps[transom/api.Proc]", "slices.overlaps[transom/api.Alarm]"], unfollowed := true, recurses := true, named := ["transom/isa.uses"], apart := false, laid := [("transom/isa.uses", laid_transom_isa_uses)], narrowed := true }
def SeatRestsUptoSaid : Prop := seatRestsUptoRow.holds Tryz.pinned (OpenSpec.upto seatRestsSpec)

/-- 'transomlaw17.DedGrows', WHERE WHAT IT READS IS OF BULK AT MOST 1048576: true; the input reads as it did. -/
def dedGrowsUptoRow : OpenClaim := { program := "ytbhecddpnpkdpaagreatdoor", sum := "52a406dd6d1ab5830537af43dbf827fb9729701917fd25c6d4e828934d24ddef", func := "transom/transomlaw17.DedGrows", spec := "dedGrows", inPlace := ["internal/abi.NoEscape", "internal/bytealg.MakeNoZero", "slices.overlaps[transom/api.Span]", "slices.overlaps[transom/api.Proc]", "slices.overlaps[transom/api.Alarm]"], unfollowed := true, recurses := true, named := ["transom/isa.uses"], apart := false, laid := [("transom/isa.uses", laid_transom_isa_uses)], narrowed := true }
def DedGrowsUptoSaid : Prop := dedGrowsUptoRow.holds Tryz.pinned (OpenSpec.upto dedGrowsSpec)

/-- 'transomlaw17.DedAhead', WHERE WHAT IT READS IS OF BULK AT MOST 1048576: true; the input reads as it did. -/
def dedAheadUptoRow : OpenClaim := { program := "ytbhecddpnpkdpaagreatdoor", sum := "52a406dd6d1ab5830537af43dbf827fb9729701917fd25c6d4e828934d24ddef", func := "transom/transomlaw17.DedAhead", spec := "dedAhead", inPlace := ["internal/abi.NoEscape", "internal/bytealg.MakeNoZero", "slices.overlaps[transom/api.Span]", "slices.overlaps[transom/api.Proc]", "slices.overlaps[transom/api.Alarm]"], unfollowed := true, recurses := true, named := ["transom/isa.uses"], apart := false, laid := [("transom/isa.uses", laid_transom_isa_uses)], narrowed := true }
def DedAheadUptoSaid : Prop := dedAheadUptoRow.holds Tryz.pinned (OpenSpec.upto dedAheadSpec)

/-- 'transomlaw17.DedParts', WHERE WHAT IT READS IS OF BULK AT MOST 1048576: true; the input reads as it did. -/
def dedPartsUptoRow : OpenClaim := { program := "ytbhecddpnpkdpaagreatdoor", sum := "52a406dd6d1ab5830537af43dbf827fb9729701917fd25c6d4e828934d24ddef", func := "transom/transomlaw17.DedParts", spec := "dedParts", inPlace := ["internal/abi.NoEscape", "internal/bytealg.MakeNoZero", "slices.overlaps[transom/api.Span]", "slices.overlaps[transom/api.Proc]", "slices.overlaps[transom/api.Alarm]"], unfollowed := true, recurses := true, named := ["transom/isa.uses"], apart := false, laid := [("transom/isa.uses", laid_transom_isa_uses)], narrowed := true }
def DedPartsUptoSaid : Prop := dedPartsUptoRow.holds Tryz.pinned (OpenSpec.upto dedPartsSpec)

/-- 'transomlaw17.DedBegins', WHERE WHAT IT READS IS OF BULK AT MOST 1048576: true; the input reads as it did. -/
def dedBeginsUptoRow : OpenClaim := { program := "ytbhecddpnpkdpaagreatdoor", sum := "52a406dd6d1ab5830537af43dbf827fb9729701917fd25c6d4e828934d24ddef", func := "transom/transomlaw17.DedBegins", spec := "dedBegins", inPlace := ["internal/abi.NoEscape", "internal/bytealg.MakeNoZero", "slices.overlaps[transom/api.Span]", "slices.overlaps[transom/api.Proc]", "slices.overlaps[transom/api.Alarm]"], unfollowed := true, recurses := true, named := ["transom/isa.uses"], apart := false, laid := [("transom/isa.uses", laid_transom_isa_uses)], narrowed := true }
def DedBeginsUptoSaid : Prop := dedBeginsUptoRow.holds Tryz.pinned (OpenSpec.upto dedBeginsSpec)

end Rows
end Go.Proofs.YtbhecddpnpkdpaaGreatDoor
