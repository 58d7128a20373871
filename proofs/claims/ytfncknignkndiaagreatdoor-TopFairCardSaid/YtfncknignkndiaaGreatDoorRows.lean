/-
  NARROWER THAN 'FOR EVERY INPUT', by the rows' own cells (each row's printed sentence says how): TopFair: laid · TopPrefix: laid · TopDed: laid · HyperOwner: laid · HyperGrants: laid · HyperRefuses: laid · HyperParts: laid.
  DERIVED. THE GIVEN ROWS OF THIS SEAT. 7 by the template 'for every input the law returns true; each argument reads behind the call as it read before'; 0 by the template 'total and deterministic' (their statements: YtfncknignkndiaaGreatDoorTotals.lean).
  GIVEN WITH THE SEED: the statements are not yours to turn. If you find one false, say at which input.
  Laid BY PROGRAM, IN A SANDBOX (cutbox-rows.mjs): the forced cells as the released guide's own fill.sh prints them over the translation 979126455ac776c2… (all of the seat's roots in one cut). By AI agents, Wed Nov 11 2026. No macro, syntax, notation, axiom, sorry.
-/
import Derived.Test.YtfncknignkndiaaGreatDoorChecked
import GoSem.Claim
import GoSem.ClaimJoined
import GoSem.ClaimMapViews
import Derived.JoinedTies
import Derived.KernelRfl
namespace Go.Proofs.YtfncknignkndiaaGreatDoor
/- THE CELL 'sum', in the pinned program and in every row, IS THE sha256 OF THE DUMP (.gsa) THAT YtfncknignkndiaaGreatDoorProg.lean LOADS. Nothing in Lean hashes anything: it is a label: what it is worth is what the hold of that sum in a sandbox is worth. -/
noncomputable def Tryz.pinned : Pinned := { name := "ytfncknignkndiaagreatdoor", sum := "979126455ac776c25750a90d8fd5fca660ec41f65063b77031d7303078dd88e3", checked := Tryz.checked }
namespace Rows
def none {H : Type} : Left H := { results := [], args := [] }

/- WHAT THE LISTED PACKAGE-LEVEL VARIABLES READ AS WHEN THE CALL BEGINS. Each datum BY PROGRAM (the guide's laid-datum.mjs) off the statement by which the dump's own 'gosem.cut.vars' lays the variable. In a bare row this is a premise. The card (YtfncknignkndiaaGreatDoorCards.lean) ties it to the program's text. -/
def laid_transom_isa_uses {H : Type} : DataW H := .agg [.lit (.int .i64 0), .lit (.int .i64 5), .lit (.int .i64 5), .lit (.int .i64 3), .lit (.int .i64 3), .lit (.int .i64 3), .lit (.int .i64 3), .lit (.int .i64 3), .lit (.int .i64 3), .lit (.int .i64 3), .lit (.int .i64 3), .lit (.int .i64 3), .lit (.int .i64 3), .lit (.int .i64 5), .lit (.int .i64 7), .lit (.int .i64 7), .lit (.int .i64 7), .lit (.int .i64 7), .lit (.int .i64 4), .lit (.int .i64 5), .lit (.int .i64 1), .lit (.int .i64 7), .lit (.int .i64 7), .lit (.int .i64 7), .lit (.int .i64 0)]

/-- 'transomtop.TopFair': WHATEVER THE INPUT: true; the input reads as it did. -/
def topFairSpec : ChangeSpec := { name := "topFair", fn := fun _ => fun
  | [d] => { results := [.lit (.bool true)], args := [d] }
  | _ => none }
def topFairRow : OpenClaim := { program := "ytfncknignkndiaagreatdoor", sum := "979126455ac776c25750a90d8fd5fca660ec41f65063b77031d7303078dd88e3", func := "transom/transomtop.TopFair", spec := "topFair", inPlace := ["internal/abi.NoEscape", "internal/bytealg.MakeNoZero", "slices.overlaps[transom/api.Span]", "slices.overlaps[transom/api.Proc]", "slices.overlaps[transom/api.Alarm]"], unfollowed := true, recurses := true, named := ["transom/isa.uses"], apart := false, laid := [("transom/isa.uses", laid_transom_isa_uses)] }
def TopFairSaid : Prop := topFairRow.holds Tryz.pinned (OpenSpec.ofChange topFairSpec)

/-- ITS FALSE NEIGHBOUR: 'it returns false'. Refute it at one input. -/
def topFairWrong : ChangeSpec := { name := "topFair", fn := fun _ => fun
  | [d] => { results := [.lit (.bool false)], args := [d] }
  | _ => none }
def TopFairWrongFalsely : Prop := topFairRow.holds Tryz.pinned (OpenSpec.ofChange topFairWrong)

/-- 'transomtop.TopPrefix': WHATEVER THE INPUT: true; the input reads as it did. -/
def topPrefixSpec : ChangeSpec := { name := "topPrefix", fn := fun _ => fun
  | [d] => { results := [.lit (.bool true)], args := [d] }
  | _ => none }
def topPrefixRow : OpenClaim := { program := "ytfncknignkndiaagreatdoor", sum := "979126455ac776c25750a90d8fd5fca660ec41f65063b77031d7303078dd88e3", func := "transom/transomtop.TopPrefix", spec := "topPrefix", inPlace := ["internal/abi.NoEscape", "internal/bytealg.MakeNoZero", "slices.overlaps[transom/api.Span]", "slices.overlaps[transom/api.Proc]", "slices.overlaps[transom/api.Alarm]"], unfollowed := true, recurses := true, named := ["transom/isa.uses"], apart := false, laid := [("transom/isa.uses", laid_transom_isa_uses)] }
def TopPrefixSaid : Prop := topPrefixRow.holds Tryz.pinned (OpenSpec.ofChange topPrefixSpec)

/-- ITS FALSE NEIGHBOUR: 'it returns false'. Refute it at one input. -/
def topPrefixWrong : ChangeSpec := { name := "topPrefix", fn := fun _ => fun
  | [d] => { results := [.lit (.bool false)], args := [d] }
  | _ => none }
def TopPrefixWrongFalsely : Prop := topPrefixRow.holds Tryz.pinned (OpenSpec.ofChange topPrefixWrong)

/-- 'transomtop.TopDed': WHATEVER THE INPUT: true; the input reads as it did. -/
def topDedSpec : ChangeSpec := { name := "topDed", fn := fun _ => fun
  | [d] => { results := [.lit (.bool true)], args := [d] }
  | _ => none }
def topDedRow : OpenClaim := { program := "ytfncknignkndiaagreatdoor", sum := "979126455ac776c25750a90d8fd5fca660ec41f65063b77031d7303078dd88e3", func := "transom/transomtop.TopDed", spec := "topDed", inPlace := ["internal/abi.NoEscape", "internal/bytealg.MakeNoZero", "slices.overlaps[transom/api.Span]", "slices.overlaps[transom/api.Proc]", "slices.overlaps[transom/api.Alarm]"], unfollowed := true, recurses := true, named := ["transom/isa.uses"], apart := false, laid := [("transom/isa.uses", laid_transom_isa_uses)] }
def TopDedSaid : Prop := topDedRow.holds Tryz.pinned (OpenSpec.ofChange topDedSpec)

/-- ITS FALSE NEIGHBOUR: 'it returns false'. Refute it at one input. -/
def topDedWrong : ChangeSpec := { name := "topDed", fn := fun _ => fun
  | [d] => { results := [.lit (.bool false)], args := [d] }
  | _ => none }
def TopDedWrongFalsely : Prop := topDedRow.holds Tryz.pinned (OpenSpec.ofChange topDedWrong)

/-- 'transomlaw16.HyperOwner': WHATEVER THE INPUT: true; the input reads as it did. -/
def hyperOwnerSpec : ChangeSpec := { name := "hyperOwner", fn := fun _ => fun
  | [d1, d2, d3] => { results := [.lit (.bool true)], args := [d1, d2, d3] }
  | _ => none }
def hyperOwnerRow : OpenClaim := { program := "ytfncknignkndiaagreatdoor", sum := "979126455ac776c25750a90d8fd5fca660ec41f65063b77031d7303078dd88e3", func := "transom/transomlaw16.HyperOwner", spec := "hyperOwner", inPlace := ["internal/abi.NoEscape", "internal/bytealg.MakeNoZero", "slices.overlaps[transom/api.Span]", "slices.overlaps[transom/api.Proc]", "slices.overlaps[transom/api.Alarm]"], unfollowed := true, recurses := true, named := ["transom/isa.uses"], apart := false, laid := [("transom/isa.uses", laid_transom_isa_uses)] }
def HyperOwnerSaid : Prop := hyperOwnerRow.holds Tryz.pinned (OpenSpec.ofChange hyperOwnerSpec)

/-- ITS FALSE NEIGHBOUR: 'it returns false'. Refute it at one input. -/
def hyperOwnerWrong : ChangeSpec := { name := "hyperOwner", fn := fun _ => fun
  | [d1, d2, d3] => { results := [.lit (.bool false)], args := [d1, d2, d3] }
  | _ => none }
def HyperOwnerWrongFalsely : Prop := hyperOwnerRow.holds Tryz.pinned (OpenSpec.ofChange hyperOwnerWrong)

/-- 'transomlaw16.HyperGrants': WHATEVER THE INPUT: true; the input reads as it did. -/
def hyperGrantsSpec : ChangeSpec := { name := "hyperGrants", fn := fun _ => fun
  | [d] => { results := [.lit (.bool true)], args := [d] }
  | _ => none }
def hyperGrantsRow : OpenClaim := { program := "ytfncknignkndiaagreatdoor", sum := "979126455ac776c25750a90d8fd5fca660ec41f65063b77031d7303078dd88e3", func := "transom/transomlaw16.HyperGrants", spec := "hyperGrants", inPlace := ["internal/abi.NoEscape", "internal/bytealg.MakeNoZero", "slices.overlaps[transom/api.Span]", "slices.overlaps[transom/api.Proc]", "slices.overlaps[transom/api.Alarm]"], unfollowed := true, recurses := true, named := ["transom/isa.uses"], apart := false, laid := [("transom/isa.uses", laid_transom_isa_uses)] }
def HyperGrantsSaid : Prop := hyperGrantsRow.holds Tryz.pinned (OpenSpec.ofChange hyperGrantsSpec)

/-- ITS FALSE NEIGHBOUR: 'it returns false'. Refute it at one input. -/
def hyperGrantsWrong : ChangeSpec := { name := "hyperGrants", fn := fun _ => fun
  | [d] => { results := [.lit (.bool false)], args := [d] }
  | _ => none }
def HyperGrantsWrongFalsely : Prop := hyperGrantsRow.holds Tryz.pinned (OpenSpec.ofChange hyperGrantsWrong)

/-- 'transomlaw16.HyperRefuses': WHATEVER THE INPUT: true; the input reads as it did. -/
def hyperRefusesSpec : ChangeSpec := { name := "hyperRefuses", fn := fun _ => fun
  | [d1, d2] => { results := [.lit (.bool true)], args := [d1, d2] }
  | _ => none }
def hyperRefusesRow : OpenClaim := { program := "ytfncknignkndiaagreatdoor", sum := "979126455ac776c25750a90d8fd5fca660ec41f65063b77031d7303078dd88e3", func := "transom/transomlaw16.HyperRefuses", spec := "hyperRefuses", inPlace := ["internal/abi.NoEscape", "internal/bytealg.MakeNoZero", "slices.overlaps[transom/api.Span]", "slices.overlaps[transom/api.Proc]", "slices.overlaps[transom/api.Alarm]"], unfollowed := true, recurses := true, named := ["transom/isa.uses"], apart := false, laid := [("transom/isa.uses", laid_transom_isa_uses)] }
def HyperRefusesSaid : Prop := hyperRefusesRow.holds Tryz.pinned (OpenSpec.ofChange hyperRefusesSpec)

/-- ITS FALSE NEIGHBOUR: 'it returns false'. Refute it at one input. -/
def hyperRefusesWrong : ChangeSpec := { name := "hyperRefuses", fn := fun _ => fun
  | [d1, d2] => { results := [.lit (.bool false)], args := [d1, d2] }
  | _ => none }
def HyperRefusesWrongFalsely : Prop := hyperRefusesRow.holds Tryz.pinned (OpenSpec.ofChange hyperRefusesWrong)

/-- 'transomlaw16.HyperParts': WHATEVER THE INPUT: true; the input reads as it did. -/
def hyperPartsSpec : ChangeSpec := { name := "hyperParts", fn := fun _ => fun
  | [d] => { results := [.lit (.bool true)], args := [d] }
  | _ => none }
def hyperPartsRow : OpenClaim := { program := "ytfncknignkndiaagreatdoor", sum := "979126455ac776c25750a90d8fd5fca660ec41f65063b77031d7303078dd88e3", func := "transom/transomlaw16.HyperParts", spec := "hyperParts", inPlace := ["internal/abi.NoEscape", "internal/bytealg.MakeNoZero", "slices.overlaps[transom/api.Span]", "slices.overlaps[transom/api.Proc]", "slices.overlaps[transom/api.Alarm]"], unfollowed := true, recurses := true, named := ["transom/isa.uses"], apart := false, laid := [("transom/isa.uses", laid_transom_isa_uses)] }
def HyperPartsSaid : Prop := hyperPartsRow.holds Tryz.pinned (OpenSpec.ofChange hyperPartsSpec)

/-- ITS FALSE NEIGHBOUR: 'it returns false'. Refute it at one input. -/
def hyperPartsWrong : ChangeSpec := { name := "hyperParts", fn := fun _ => fun
  | [d] => { results := [.lit (.bool false)], args := [d] }
  | _ => none }
def HyperPartsWrongFalsely : Prop := hyperPartsRow.holds Tryz.pinned (OpenSpec.ofChange hyperPartsWrong)

/- THE SECOND FORM. 'bulk': how many values and letters a reading holds, each counted each time it is reached (what is shared counts as often as it is met; a slice's spare places count too). A statement '..UptoSaid' is the law's where the arguments, and the package variables that the reading takes, are together of bulk at most 1048576: NARROWER than '..Said'. Prove '..Said' where nothing that the law and all that it calls make is longer than what came in: it says more and counts as full. Else prove '..UptoSaid'. A law counts once. -/
mutual
def uptoBulk {H : Type} : DataW H → Nat
  | .lit (.string bytes) => bytes.length + 1
  | .lit _ => 1
  | .nil => 1
  | .ptr d => uptoBulk d + 1
  | .slice elems spare => uptoBulkAll elems + uptoBulkAll spare + 1
  | .agg parts => uptoBulkAll parts + 1
  | .iface _ d => uptoBulk d + 1
  | .map entries => uptoBulkEntries entries + 1
  | .held _ => 1
def uptoBulkAll {H : Type} : List (DataW H) → Nat
  | [] => 0
  | d :: r => uptoBulk d + uptoBulkAll r
def uptoBulkEntries {H : Type} : List (Lit × DataW H) → Nat
  | [] => 0
  | x :: r => uptoBulkEntry x + uptoBulkEntries r
def uptoBulkEntry {H : Type} : Lit × DataW H → Nat
  | (.string bytes, d) => bytes.length + uptoBulk d + 1
  | (_, d) => uptoBulk d + 1
 end
def uptoSmall : (H : Type) → List (DataW H) → Bool := fun _ ds => decide (uptoBulkAll ds ≤ 1048576)
def OpenSpec.upto (s : _root_.Go.ChangeSpec) : _root_.Go.OpenSpec := { _root_.Go.OpenSpec.ofChange s with cond := some uptoSmall }

/-- 'transomtop.TopFair', WHERE WHAT IT READS IS OF BULK AT MOST 1048576: true; the input reads as it did. -/
def topFairUptoRow : OpenClaim := { program := "ytfncknignkndiaagreatdoor", sum := "979126455ac776c25750a90d8fd5fca660ec41f65063b77031d7303078dd88e3", func := "transom/transomtop.TopFair", spec := "topFair", inPlace := ["internal/abi.NoEscape", "internal/bytealg.MakeNoZero", "slices.overlaps[transom/api.Span]", "slices.overlaps[transom/api.Proc]", "slices.overlaps[transom/api.Alarm]"], unfollowed := true, recurses := true, named := ["transom/isa.uses"], apart := false, laid := [("transom/isa.uses", laid_transom_isa_uses)], narrowed := true }
def TopFairUptoSaid : Prop := topFairUptoRow.holds Tryz.pinned (OpenSpec.upto topFairSpec)

/-- 'transomtop.TopPrefix', WHERE WHAT IT READS IS OF BULK AT MOST 1048576: true; the input reads as it did. -/
def topPrefixUptoRow : OpenClaim := { program := "ytfncknignkndiaagreatdoor", sum := "979126455ac776c25750a90d8fd5fca660ec41f65063b77031d7303078dd88e3", func := "transom/transomtop.TopPrefix", spec := "topPrefix", inPlace := ["internal/abi.NoEscape", "internal/bytealg.MakeNoZero", "slices.overlaps[transom/api.Span]", "slices.overlaps[transom/api.Proc]", "slices.overlaps[transom/api.Alarm]"], unfollowed := true, recurses := true, named := ["transom/isa.uses"], apart := false, laid := [("transom/isa.uses", laid_transom_isa_uses)], narrowed := true }
def TopPrefixUptoSaid : Prop := topPrefixUptoRow.holds Tryz.pinned (OpenSpec.upto topPrefixSpec)

/-- 'transomtop.TopDed', WHERE WHAT IT READS IS OF BULK AT MOST 1048576: true; the input reads as it did. -/
def topDedUptoRow : OpenClaim := { program := "ytfncknignkndiaagreatdoor", sum := "979126455ac776c25750a90d8fd5fca660ec41f65063b77031d7303078dd88e3", func := "transom/transomtop.TopDed", spec := "topDed", inPlace := ["internal/abi.NoEscape", "internal/bytealg.MakeNoZero", "slices.overlaps[transom/api.Span]", "slices.overlaps[transom/api.Proc]", "slices.overlaps[transom/api.Alarm]"], unfollowed := true, recurses := true, named := ["transom/isa.uses"], apart := false, laid := [("transom/isa.uses", laid_transom_isa_uses)], narrowed := true }
def TopDedUptoSaid : Prop := topDedUptoRow.holds Tryz.pinned (OpenSpec.upto topDedSpec)

/-- 'transomlaw16.HyperOwner', WHERE WHAT IT READS IS OF BULK AT MOST 1048576: true; the input reads as it did. -/
def hyperOwnerUptoRow : OpenClaim := { program := "ytfncknignkndiaagreatdoor", sum := "979126455ac776c25750a90d8fd5fca660ec41f65063b77031d7303078dd88e3", func := "transom/transomlaw16.HyperOwner", spec := "hyperOwner", inPlace := ["internal/abi.NoEscape", "internal/bytealg.MakeNoZero", "slices.overlaps[transom/api.Span]", "slices.overlaps[transom/api.Proc]", "slices.overlaps[transom/api.Alarm]"], unfollowed := true, recurses := true, named := ["transom/isa.uses"], apart := false, laid := [("transom/isa.uses", laid_transom_isa_uses)], narrowed := true }
def HyperOwnerUptoSaid : Prop := hyperOwnerUptoRow.holds Tryz.pinned (OpenSpec.upto hyperOwnerSpec)

/-- 'transomlaw16.HyperGrants', WHERE WHAT IT READS IS OF BULK AT MOST 1048576: true; the input reads as it did. -/
def hyperGrantsUptoRow : OpenClaim := { program := "ytfncknignkndiaagreatdoor", sum := "979126455ac776c25750a90d8fd5fca660ec41f65063b77031d7303078dd88e3", func := "transom/transomlaw16.HyperGrants", spec := "hyperGrants", inPlace := ["internal/abi.NoEscape", "internal/bytealg.MakeNoZero", "slices.overlaps[transom/api.Span]", "slices.overlaps[transom/api.Proc]", "slices.overlaps[transom/api.Alarm]"], unfollowed := true, recurses := true, named := ["transom/isa.uses"], apart := false, laid := [("transom/isa.uses", laid_transom_isa_uses)], narrowed := true }
def HyperGrantsUptoSaid : Prop := hyperGrantsUptoRow.holds Tryz.pinned (OpenSpec.upto hyperGrantsSpec)

/-- 'transomlaw16.HyperRefuses', WHERE WHAT IT READS IS OF BULK AT MOST 1048576: true; the input reads as it did. -/
def hyperRefusesUptoRow : OpenClaim := { program := "ytfncknignkndiaagreatdoor", sum := "979126455ac776c25750a90d8fd5fca660ec41f65063b77031d7303078dd88e3", func := "transom/transomlaw16.HyperRefuses", spec := "hyperRefuses", inPlace := ["internal/abi.NoEscape", "internal/bytealg.MakeNoZero", "slices.overlaps[transom/api.Span]", "slices.overlaps[transom/api.Proc]", "slices.overlaps[transom/api.Alarm]"], unfollowed := true, recurses := true, named := ["transom/isa.uses"], apart := false, laid := [("transom/isa.uses", laid_transom_isa_uses)], narrowed := true }
def HyperRefusesUptoSaid : Prop := hyperRefusesUptoRow.holds Tryz.pinned (OpenSpec.upto hyperRefusesSpec)

/-- 'transomlaw16.HyperParts', WHERE WHAT IT READS IS OF BULK AT MOST 1048576: true; the input reads as it did. -/
def hyperPartsUptoRow : OpenClaim := { program := "ytfncknignkndiaagreatdoor", sum := "979126455ac776c25750a90d8fd5fca660ec41f65063b77031d7303078dd88e3", func := "transom/transomlaw16.HyperParts", spec := "hyperParts", inPlace := ["internal/abi.NoEscape", "internal/bytealg.MakeNoZero", "slices.overlaps[transom/api.Span]", "slices.overlaps[transom/api.Proc]", "slices.overlaps[transom/api.Alarm]"], unfollowed := true, recurses := true, named := ["transom/isa.uses"], apart := false, laid := [("transom/isa.uses", laid_transom_isa_uses)], narrowed := true }
def HyperPartsUptoSaid : Prop := hyperPartsUptoRow.holds Tryz.pinned (OpenSpec.upto hyperPartsSpec)

end Rows
end Go.Proofs.YtfncknignkndiaaGreatDoor
