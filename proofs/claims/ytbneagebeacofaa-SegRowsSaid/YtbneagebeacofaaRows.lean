/-
  No cell of these rows narrows 'for every input' (looked for: loops, veiled, ifaces, maps, wideKeys, modest, calm, conditions, laid).
  DERIVED. THE GIVEN ROWS OF THIS SEAT. 7 by the template 'for every input the law returns true; each argument reads behind the call as it read before'; 0 by the template 'total and deterministic' (their statements: YtbneagebeacofaaTotals.lean).
  GIVEN WITH THE SEED: the statements are not yours to turn. If you find one false, say at which input.
  Laid BY PROGRAM, IN A SANDBOX (cutbox-rows.mjs): the forced cells as the released guide's own fill.sh prints them over the translation fc2e325dd9c4e431… (all of the seat's roots in one cut). By AI agents, Wed Nov 11 2026. No macro, syntax, notation, axiom, sorry.
-/
import Derived.Test.YtbneagebeacofaaChecked
import GoSem.Claim
import GoSem.ClaimJoined
import GoSem.ClaimMapViews
import Derived.JoinedTies
import Derived.KernelRfl
namespace Go.Proofs.Ytbneagebeacofaa
/- THE CELL 'sum', in the pinned program and in every row, IS THE sha256 OF THE DUMP (.gsa) THAT YtbneagebeacofaaProg.lean LOADS. Nothing in Lean hashes anything: it is a label: what it is worth is what the hold of that sum in a sandbox is worth. -/
noncomputable def Try.pinned : Pinned := { name := "ytbneagebeacofaa", sum := "fc2e325dd9c4e4312221e70bb67dd490b693cfbbe4fcf0804ca96a6b37b84ab8", checked := Try.checked }
namespace Rows
def none {H : Type} : Left H := { results := [], args := [] }

/-- 'transomlaw02.SegBytes': WHATEVER THE INPUT: true; the input reads as it did. -/
def segBytesSpec : ChangeSpec := { name := "segBytes", fn := fun _ => fun
  | [d1, d2] => { results := [.lit (.bool true)], args := [d1, d2] }
  | _ => none }
def segBytesRow : OpenClaim := { program := "ytbneagebeacofaa", sum := "fc2e325dd9c4e4312221e70bb67dd490b693cfbbe4fcf0804ca96a6b37b84ab8", func := "transom/transomlaw02.SegBytes", spec := "segBytes", inPlace := ["internal/abi.NoEscape", "internal/bytealg.MakeNoZero"], apart := false }
def SegBytesSaid : Prop := segBytesRow.holds Try.pinned (OpenSpec.ofChange segBytesSpec)

/-- ITS FALSE NEIGHBOUR: 'it returns false'. Refute it at one input. -/
def segBytesWrong : ChangeSpec := { name := "segBytes", fn := fun _ => fun
  | [d1, d2] => { results := [.lit (.bool false)], args := [d1, d2] }
  | _ => none }
def SegBytesWrongFalsely : Prop := segBytesRow.holds Try.pinned (OpenSpec.ofChange segBytesWrong)

/-- 'transomlaw02.SegBounds': WHATEVER THE INPUT: true; the input reads as it did. -/
def segBoundsSpec : ChangeSpec := { name := "segBounds", fn := fun _ => fun
  | [d1, d2, d3] => { results := [.lit (.bool true)], args := [d1, d2, d3] }
  | _ => none }
def segBoundsRow : OpenClaim := { program := "ytbneagebeacofaa", sum := "fc2e325dd9c4e4312221e70bb67dd490b693cfbbe4fcf0804ca96a6b37b84ab8", func := "transom/transomlaw02.SegBounds", spec := "segBounds", inPlace := ["internal/abi.NoEscape", "internal/bytealg.MakeNoZero"], apart := false }
def SegBoundsSaid : Prop := segBoundsRow.holds Try.pinned (OpenSpec.ofChange segBoundsSpec)

/-- ITS FALSE NEIGHBOUR: 'it returns false'. Refute it at one input. -/
def segBoundsWrong : ChangeSpec := { name := "segBounds", fn := fun _ => fun
  | [d1, d2, d3] => { results := [.lit (.bool false)], args := [d1, d2, d3] }
  | _ => none }
def SegBoundsWrongFalsely : Prop := segBoundsRow.holds Try.pinned (OpenSpec.ofChange segBoundsWrong)

/-- 'transomlaw02.SegBack': WHATEVER THE INPUT: true; the input reads as it did. -/
def segBackSpec : ChangeSpec := { name := "segBack", fn := fun _ => fun
  | [d] => { results := [.lit (.bool true)], args := [d] }
  | _ => none }
def segBackRow : OpenClaim := { program := "ytbneagebeacofaa", sum := "fc2e325dd9c4e4312221e70bb67dd490b693cfbbe4fcf0804ca96a6b37b84ab8", func := "transom/transomlaw02.SegBack", spec := "segBack", inPlace := ["internal/abi.NoEscape", "internal/bytealg.MakeNoZero"], apart := false }
def SegBackSaid : Prop := segBackRow.holds Try.pinned (OpenSpec.ofChange segBackSpec)

/-- ITS FALSE NEIGHBOUR: 'it returns false'. Refute it at one input. -/
def segBackWrong : ChangeSpec := { name := "segBack", fn := fun _ => fun
  | [d] => { results := [.lit (.bool false)], args := [d] }
  | _ => none }
def SegBackWrongFalsely : Prop := segBackRow.holds Try.pinned (OpenSpec.ofChange segBackWrong)

/-- 'transomlaw02.SegRows': WHATEVER THE INPUT: true; the input reads as it did. -/
def segRowsSpec : ChangeSpec := { name := "segRows", fn := fun _ => fun
  | [d] => { results := [.lit (.bool true)], args := [d] }
  | _ => none }
def segRowsRow : OpenClaim := { program := "ytbneagebeacofaa", sum := "fc2e325dd9c4e4312221e70bb67dd490b693cfbbe4fcf0804ca96a6b37b84ab8", func := "transom/transomlaw02.SegRows", spec := "segRows", inPlace := ["internal/abi.NoEscape", "internal/bytealg.MakeNoZero"], apart := false }
def SegRowsSaid : Prop := segRowsRow.holds Try.pinned (OpenSpec.ofChange segRowsSpec)

/-- ITS FALSE NEIGHBOUR: 'it returns false'. Refute it at one input. -/
def segRowsWrong : ChangeSpec := { name := "segRows", fn := fun _ => fun
  | [d] => { results := [.lit (.bool false)], args := [d] }
  | _ => none }
def SegRowsWrongFalsely : Prop := segRowsRow.holds Try.pinned (OpenSpec.ofChange segRowsWrong)

/-- 'transomlaw02.SegCopies': WHATEVER THE INPUT: true; the input reads as it did. -/
def segCopiesSpec : ChangeSpec := { name := "segCopies", fn := fun _ => fun
  | [d1, d2, d3] => { results := [.lit (.bool true)], args := [d1, d2, d3] }
  | _ => none }
def segCopiesRow : OpenClaim := { program := "ytbneagebeacofaa", sum := "fc2e325dd9c4e4312221e70bb67dd490b693cfbbe4fcf0804ca96a6b37b84ab8", func := "transom/transomlaw02.SegCopies", spec := "segCopies", inPlace := ["internal/abi.NoEscape", "internal/bytealg.MakeNoZero"], apart := false }
def SegCopiesSaid : Prop := segCopiesRow.holds Try.pinned (OpenSpec.ofChange segCopiesSpec)

/-- ITS FALSE NEIGHBOUR: 'it returns false'. Refute it at one input. -/
def segCopiesWrong : ChangeSpec := { name := "segCopies", fn := fun _ => fun
  | [d1, d2, d3] => { results := [.lit (.bool false)], args := [d1, d2, d3] }
  | _ => none }
def SegCopiesWrongFalsely : Prop := segCopiesRow.holds Try.pinned (OpenSpec.ofChange segCopiesWrong)

/-- 'transomlaw02.SegOne': WHATEVER THE INPUT: true; the input reads as it did. -/
def segOneSpec : ChangeSpec := { name := "segOne", fn := fun _ => fun
  | [d] => { results := [.lit (.bool true)], args := [d] }
  | _ => none }
def segOneRow : OpenClaim := { program := "ytbneagebeacofaa", sum := "fc2e325dd9c4e4312221e70bb67dd490b693cfbbe4fcf0804ca96a6b37b84ab8", func := "transom/transomlaw02.SegOne", spec := "segOne", inPlace := ["internal/abi.NoEscape", "internal/bytealg.MakeNoZero"], apart := false }
def SegOneSaid : Prop := segOneRow.holds Try.pinned (OpenSpec.ofChange segOneSpec)

/-- ITS FALSE NEIGHBOUR: 'it returns false'. Refute it at one input. -/
def segOneWrong : ChangeSpec := { name := "segOne", fn := fun _ => fun
  | [d] => { results := [.lit (.bool false)], args := [d] }
  | _ => none }
def SegOneWrongFalsely : Prop := segOneRow.holds Try.pinned (OpenSpec.ofChange segOneWrong)

/-- 'transomlaw02.SegWords': WHATEVER THE INPUT: true; the input reads as it did. -/
def segWordsSpec : ChangeSpec := { name := "segWords", fn := fun _ => fun
  | [d1, d2, d3] => { results := [.lit (.bool true)], args := [d1, d2, d3] }
  | _ => none }
def segWordsRow : OpenClaim := { program := "ytbneagebeacofaa", sum := "fc2e325dd9c4e4312221e70bb67dd490b693cfbbe4fcf0804ca96a6b37b84ab8", func := "transom/transomlaw02.SegWords", spec := "segWords", inPlace := ["internal/abi.NoEscape", "internal/bytealg.MakeNoZero"], apart := false }
def SegWordsSaid : Prop := segWordsRow.holds Try.pinned (OpenSpec.ofChange segWordsSpec)

/-- ITS FALSE NEIGHBOUR: 'it returns false'. Refute it at one input. -/
def segWordsWrong : ChangeSpec := { name := "segWords", fn := fun _ => fun
  | [d1, d2, d3] => { results := [.lit (.bool false)], args := [d1, d2, d3] }
  | _ => none }
def SegWordsWrongFalsely : Prop := segWordsRow.holds Try.pinned (OpenSpec.ofChange segWordsWrong)

/- THE SECOND FORM. 'bulk': how many values and letters a reading holds, each counted each time it is reached (what is shared counts as often as it is met; a slice's spare places count too). A statement '..UptoSaid' is the law's where the arguments, and the package variables that the reading takes, are together of bulk at most 1048576: NARROWER than '..Said'. Prove '..Said' where nothing that the law and all that it calls make is longer than what came in: it says more and counts as full. Else prove '..UptoSaid'. A law counts once. -/
mutual
def uptoBulk {H : Type} : DataW H → Nat
  | .lit (.string bytes) => bytes.length + 1
  | .lit _ => 1
  | .nil => 1
  | .ptr d => uptoBulk d + 1
  | .slice elems spare => uptoBulkAll elems + uptoBulkAll spare + 1
  | .agg parts => uptoBulkAll parts + 1
  | .iface _ d => uptoBulk d + 1
  | .map entries => uptoBulkEntries entries + 1
  | .held _ => 1
def uptoBulkAll {H : Type} : List (DataW H) → Nat
  | [] => 0
  | d :: r => uptoBulk d + uptoBulkAll r
def uptoBulkEntries {H : Type} : List (Lit × DataW H) → Nat
  | [] => 0
  | x :: r => uptoBulkEntry x + uptoBulkEntries r
def uptoBulkEntry {H : Type} : Lit × DataW H → Nat
  | (.string bytes, d) => bytes.length + uptoBulk d + 1
  | (_, d) => uptoBulk d + 1
 end
def uptoSmall : (H : Type) → List (DataW H) → Bool := fun _ ds => decide (uptoBulkAll ds ≤ 1048576)
def OpenSpec.upto (s : _root_.Go.ChangeSpec) : _root_.Go.OpenSpec := { _root_.Go.OpenSpec.ofChange s with cond := some uptoSmall }

/-- 'transomlaw02.SegBytes', WHERE WHAT IT READS IS OF BULK AT MOST 1048576: true; the input reads as it did. -/
def segBytesUptoRow : OpenClaim := { program := "ytbneagebeacofaa", sum := "fc2e325dd9c4e4312221e70bb67dd490b693cfbbe4fcf0804ca96a6b37b84ab8", func := "transom/transomlaw02.SegBytes", spec := "segBytes", inPlace := ["internal/abi.NoEscape", "internal/bytealg.MakeNoZero"], apart := false, narrowed := true }
def SegBytesUptoSaid : Prop := segBytesUptoRow.holds Try.pinned (OpenSpec.upto segBytesSpec)

/-- 'transomlaw02.SegBounds', WHERE WHAT IT READS IS OF BULK AT MOST 1048576: true; the input reads as it did. -/
def segBoundsUptoRow : OpenClaim := { program := "ytbneagebeacofaa", sum := "fc2e325dd9c4e4312221e70bb67dd490b693cfbbe4fcf0804ca96a6b37b84ab8", func := "transom/transomlaw02.SegBounds", spec := "segBounds", inPlace := ["internal/abi.NoEscape", "internal/bytealg.MakeNoZero"], apart := false, narrowed := true }
def SegBoundsUptoSaid : Prop := segBoundsUptoRow.holds Try.pinned (OpenSpec.upto segBoundsSpec)

/-- 'transomlaw02.SegBack', WHERE WHAT IT READS IS OF BULK AT MOST 1048576: true; the input reads as it did. -/
def segBackUptoRow : OpenClaim := { program := "ytbneagebeacofaa", sum := "fc2e325dd9c4e4312221e70bb67dd490b693cfbbe4fcf0804ca96a6b37b84ab8", func := "transom/transomlaw02.SegBack", spec := "segBack", inPlace := ["internal/abi.NoEscape", "internal/bytealg.MakeNoZero"], apart := false, narrowed := true }
def SegBackUptoSaid : Prop := segBackUptoRow.holds Try.pinned (OpenSpec.upto segBackSpec)

/-- 'transomlaw02.SegRows', WHERE WHAT IT READS IS OF BULK AT MOST 1048576: true; the input reads as it did. -/
def segRowsUptoRow : OpenClaim := { program := "ytbneagebeacofaa", sum := "fc2e325dd9c4e4312221e70bb67dd490b693cfbbe4fcf0804ca96a6b37b84ab8", func := "transom/transomlaw02.SegRows", spec := "segRows", inPlace := ["internal/abi.NoEscape", "internal/bytealg.MakeNoZero"], apart := false, narrowed := true }
def SegRowsUptoSaid : Prop := segRowsUptoRow.holds Try.pinned (OpenSpec.upto segRowsSpec)

/-- 'transomlaw02.SegCopies', WHERE WHAT IT READS IS OF BULK AT MOST 1048576: true; the input reads as it did. -/
def segCopiesUptoRow : OpenClaim := { program := "ytbneagebeacofaa", sum := "fc2e325dd9c4e4312221e70bb67dd490b693cfbbe4fcf0804ca96a6b37b84ab8", func := "transom/transomlaw02.SegCopies", spec := "segCopies", inPlace := ["internal/abi.NoEscape", "internal/bytealg.MakeNoZero"], apart := false, narrowed := true }
def SegCopiesUptoSaid : Prop := segCopiesUptoRow.holds Try.pinned (OpenSpec.upto segCopiesSpec)

/-- 'transomlaw02.SegOne', WHERE WHAT IT READS IS OF BULK AT MOST 1048576: true; the input reads as it did. -/
def segOneUptoRow : OpenClaim := { program := "ytbneagebeacofaa", sum := "fc2e325dd9c4e4312221e70bb67dd490b693cfbbe4fcf0804ca96a6b37b84ab8", func := "transom/transomlaw02.SegOne", spec := "segOne", inPlace := ["internal/abi.NoEscape", "internal/bytealg.MakeNoZero"], apart := false, narrowed := true }
def SegOneUptoSaid : Prop := segOneUptoRow.holds Try.pinned (OpenSpec.upto segOneSpec)

/-- 'transomlaw02.SegWords', WHERE WHAT IT READS IS OF BULK AT MOST 1048576: true; the input reads as it did. -/
def segWordsUptoRow : OpenClaim := { program := "ytbneagebeacofaa", sum := "fc2e325dd9c4e4312221e70bb67dd490b693cfbbe4fcf0804ca96a6b37b84ab8", func := "transom/transomlaw02.SegWords", spec := "segWords", inPlace := ["internal/abi.NoEscape", "internal/bytealg.MakeNoZero"], apart := false, narrowed := true }
def SegWordsUptoSaid : Prop := segWordsUptoRow.holds Try.pinned (OpenSpec.upto segWordsSpec)

end Rows
end Go.Proofs.Ytbneagebeacofaa
