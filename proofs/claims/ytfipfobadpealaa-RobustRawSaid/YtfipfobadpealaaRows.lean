/-
  No cell of these rows narrows 'for every input' (looked for: loops, veiled, ifaces, maps, wideKeys, modest, calm, conditions, laid).
  DERIVED. THE GIVEN ROWS OF THIS SEAT. 8 by the template 'for every input the law returns true; each argument reads behind the call as it read before'; 0 by the template 'total and deterministic' (their statements: YtfipfobadpealaaTotals.lean).
  GIVEN WITH THE SEED: the statements are not yours to turn. If you find one false, say at which input.
  Laid BY PROGRAM, IN A SANDBOX (cutbox-rows.mjs): the forced cells as the released guide's own fill.sh prints them over the translation c45460c265829769… (all of the seat's roots in one cut). By AI agents, Wed Nov 11 2026. No macro, syntax, notation, axiom, sorry.
-/
import Derived.Test.YtfipfobadpealaaChecked
import GoSem.Claim
import GoSem.ClaimJoined
import GoSem.ClaimMapViews
import Derived.JoinedTies
import Derived.KernelRfl
namespace Go.Proofs.Ytfipfobadpealaa
/- THE CELL 'sum', in the pinned program and in every row, IS THE sha256 OF THE DUMP (.gsa) THAT YtfipfobadpealaaProg.lean LOADS. Nothing in Lean hashes anything: it is a label: what it is worth is what the hold of that sum in a sandbox is worth. -/
noncomputable def Try.pinned : Pinned := { name := "ytfipfobadpealaa", sum := "c45460c26582976914b56b7a4979c85810b111a85cca2dd785ff0da403fc7dff", checked := Try.checked }
namespace Rows
def none {H : Type} : Left H := { results := [], args := [] }

/-- 'railplanlaw22.RobustTriangle': WHATEVER THE INPUT: true; the input reads as it did. -/
def robustTriangleSpec : ChangeSpec := { name := "robustTriangle", fn := fun _ => fun
  | [d1, d2, d3, d4, d5] => { results := [.lit (.bool true)], args := [d1, d2, d3, d4, d5] }
  | _ => none }
def robustTriangleRow : OpenClaim := { program := "ytfipfobadpealaa", sum := "c45460c26582976914b56b7a4979c85810b111a85cca2dd785ff0da403fc7dff", func := "railplan/railplanlaw22.RobustTriangle", spec := "robustTriangle", unfollowed := true, recurses := true, apart := false }
def RobustTriangleSaid : Prop := robustTriangleRow.holds Try.pinned (OpenSpec.ofChange robustTriangleSpec)

/-- ITS FALSE NEIGHBOUR: 'it returns false'. Refute it at one input. -/
def robustTriangleWrong : ChangeSpec := { name := "robustTriangle", fn := fun _ => fun
  | [d1, d2, d3, d4, d5] => { results := [.lit (.bool false)], args := [d1, d2, d3, d4, d5] }
  | _ => none }
def RobustTriangleWrongFalsely : Prop := robustTriangleRow.holds Try.pinned (OpenSpec.ofChange robustTriangleWrong)

/-- 'railplanlaw22.RobustLoopIsLeast': WHATEVER THE INPUT: true; the input reads as it did. -/
def robustLoopIsLeastSpec : ChangeSpec := { name := "robustLoopIsLeast", fn := fun _ => fun
  | [d1, d2] => { results := [.lit (.bool true)], args := [d1, d2] }
  | _ => none }
def robustLoopIsLeastRow : OpenClaim := { program := "ytfipfobadpealaa", sum := "c45460c26582976914b56b7a4979c85810b111a85cca2dd785ff0da403fc7dff", func := "railplan/railplanlaw22.RobustLoopIsLeast", spec := "robustLoopIsLeast", unfollowed := true, recurses := true, apart := false }
def RobustLoopIsLeastSaid : Prop := robustLoopIsLeastRow.holds Try.pinned (OpenSpec.ofChange robustLoopIsLeastSpec)

/-- ITS FALSE NEIGHBOUR: 'it returns false'. Refute it at one input. -/
def robustLoopIsLeastWrong : ChangeSpec := { name := "robustLoopIsLeast", fn := fun _ => fun
  | [d1, d2] => { results := [.lit (.bool false)], args := [d1, d2] }
  | _ => none }
def RobustLoopIsLeastWrongFalsely : Prop := robustLoopIsLeastRow.holds Try.pinned (OpenSpec.ofChange robustLoopIsLeastWrong)

/-- 'railplanlaw22.RobustDelaysHold': WHATEVER THE INPUT: true; the input reads as it did. -/
def robustDelaysHoldSpec : ChangeSpec := { name := "robustDelaysHold", fn := fun _ => fun
  | [d1, d2, d3, d4] => { results := [.lit (.bool true)], args := [d1, d2, d3, d4] }
  | _ => none }
def robustDelaysHoldRow : OpenClaim := { program := "ytfipfobadpealaa", sum := "c45460c26582976914b56b7a4979c85810b111a85cca2dd785ff0da403fc7dff", func := "railplan/railplanlaw22.RobustDelaysHold", spec := "robustDelaysHold", unfollowed := true, recurses := true, apart := false }
def RobustDelaysHoldSaid : Prop := robustDelaysHoldRow.holds Try.pinned (OpenSpec.ofChange robustDelaysHoldSpec)

/-- ITS FALSE NEIGHBOUR: 'it returns false'. Refute it at one input. -/
def robustDelaysHoldWrong : ChangeSpec := { name := "robustDelaysHold", fn := fun _ => fun
  | [d1, d2, d3, d4] => { results := [.lit (.bool false)], args := [d1, d2, d3, d4] }
  | _ => none }
def RobustDelaysHoldWrongFalsely : Prop := robustDelaysHoldRow.holds Try.pinned (OpenSpec.ofChange robustDelaysHoldWrong)

/-- 'railplanlaw22.RobustDelaysAreLeast': WHATEVER THE INPUT: true; the input reads as it did. -/
def robustDelaysAreLeastSpec : ChangeSpec := { name := "robustDelaysAreLeast", fn := fun _ => fun
  | [d1, d2, d3, d4] => { results := [.lit (.bool true)], args := [d1, d2, d3, d4] }
  | _ => none }
def robustDelaysAreLeastRow : OpenClaim := { program := "ytfipfobadpealaa", sum := "c45460c26582976914b56b7a4979c85810b111a85cca2dd785ff0da403fc7dff", func := "railplan/railplanlaw22.RobustDelaysAreLeast", spec := "robustDelaysAreLeast", unfollowed := true, recurses := true, apart := false }
def RobustDelaysAreLeastSaid : Prop := robustDelaysAreLeastRow.holds Try.pinned (OpenSpec.ofChange robustDelaysAreLeastSpec)

/-- ITS FALSE NEIGHBOUR: 'it returns false'. Refute it at one input. -/
def robustDelaysAreLeastWrong : ChangeSpec := { name := "robustDelaysAreLeast", fn := fun _ => fun
  | [d1, d2, d3, d4] => { results := [.lit (.bool false)], args := [d1, d2, d3, d4] }
  | _ => none }
def RobustDelaysAreLeastWrongFalsely : Prop := robustDelaysAreLeastRow.holds Try.pinned (OpenSpec.ofChange robustDelaysAreLeastWrong)

/-- 'railplanlaw22.RobustMoreDelay': WHATEVER THE INPUT: true; the input reads as it did. -/
def robustMoreDelaySpec : ChangeSpec := { name := "robustMoreDelay", fn := fun _ => fun
  | [d1, d2, d3, d4, d5] => { results := [.lit (.bool true)], args := [d1, d2, d3, d4, d5] }
  | _ => none }
def robustMoreDelayRow : OpenClaim := { program := "ytfipfobadpealaa", sum := "c45460c26582976914b56b7a4979c85810b111a85cca2dd785ff0da403fc7dff", func := "railplan/railplanlaw22.RobustMoreDelay", spec := "robustMoreDelay", unfollowed := true, recurses := true, apart := false }
def RobustMoreDelaySaid : Prop := robustMoreDelayRow.holds Try.pinned (OpenSpec.ofChange robustMoreDelaySpec)

/-- ITS FALSE NEIGHBOUR: 'it returns false'. Refute it at one input. -/
def robustMoreDelayWrong : ChangeSpec := { name := "robustMoreDelay", fn := fun _ => fun
  | [d1, d2, d3, d4, d5] => { results := [.lit (.bool false)], args := [d1, d2, d3, d4, d5] }
  | _ => none }
def RobustMoreDelayWrongFalsely : Prop := robustMoreDelayRow.holds Try.pinned (OpenSpec.ofChange robustMoreDelayWrong)

/-- 'railplanlaw22.RobustExamples': WHATEVER THE INPUT: true; the input reads as it did. -/
def robustExamplesSpec : ChangeSpec := { name := "robustExamples", fn := fun _ => fun
  | [] => { results := [.lit (.bool true)], args := [] }
  | _ => none }
def robustExamplesRow : OpenClaim := { program := "ytfipfobadpealaa", sum := "c45460c26582976914b56b7a4979c85810b111a85cca2dd785ff0da403fc7dff", func := "railplan/railplanlaw22.RobustExamples", spec := "robustExamples", unfollowed := true, recurses := true, apart := false }
def RobustExamplesSaid : Prop := robustExamplesRow.holds Try.pinned (OpenSpec.ofChange robustExamplesSpec)

/-- ITS FALSE NEIGHBOUR: 'it returns false'. Refute it at one input. -/
def robustExamplesWrong : ChangeSpec := { name := "robustExamples", fn := fun _ => fun
  | [] => { results := [.lit (.bool false)], args := [] }
  | _ => none }
def RobustExamplesWrongFalsely : Prop := robustExamplesRow.holds Try.pinned (OpenSpec.ofChange robustExamplesWrong)

/-- 'railplanlaw22.RobustRaw': WHATEVER THE INPUT: true; the input reads as it did. -/
def robustRawSpec : ChangeSpec := { name := "robustRaw", fn := fun _ => fun
  | [d1, d2, d3, d4, d5, d6] => { results := [.lit (.bool true)], args := [d1, d2, d3, d4, d5, d6] }
  | _ => none }
def robustRawRow : OpenClaim := { program := "ytfipfobadpealaa", sum := "c45460c26582976914b56b7a4979c85810b111a85cca2dd785ff0da403fc7dff", func := "railplan/railplanlaw22.RobustRaw", spec := "robustRaw", unfollowed := true, recurses := true, apart := false }
def RobustRawSaid : Prop := robustRawRow.holds Try.pinned (OpenSpec.ofChange robustRawSpec)

/-- ITS FALSE NEIGHBOUR: 'it returns false'. Refute it at one input. -/
def robustRawWrong : ChangeSpec := { name := "robustRaw", fn := fun _ => fun
  | [d1, d2, d3, d4, d5, d6] => { results := [.lit (.bool false)], args := [d1, d2, d3, d4, d5, d6] }
  | _ => none }
def RobustRawWrongFalsely : Prop := robustRawRow.holds Try.pinned (OpenSpec.ofChange robustRawWrong)

/-- 'railplanlaw22.RobustGenerated': WHATEVER THE INPUT: true; the input reads as it did. -/
def robustGeneratedSpec : ChangeSpec := { name := "robustGenerated", fn := fun _ => fun
  | [d1, d2, d3, d4, d5, d6] => { results := [.lit (.bool true)], args := [d1, d2, d3, d4, d5, d6] }
  | _ => none }
def robustGeneratedRow : OpenClaim := { program := "ytfipfobadpealaa", sum := "c45460c26582976914b56b7a4979c85810b111a85cca2dd785ff0da403fc7dff", func := "railplan/railplanlaw22.RobustGenerated", spec := "robustGenerated", unfollowed := true, recurses := true, apart := false }
def RobustGeneratedSaid : Prop := robustGeneratedRow.holds Try.pinned (OpenSpec.ofChange robustGeneratedSpec)

/-- ITS FALSE NEIGHBOUR: 'it returns false'. Refute it at one input. -/
def robustGeneratedWrong : ChangeSpec := { name := "robustGenerated", fn := fun _ => fun
  | [d1, d2, d3, d4, d5, d6] => { results := [.lit (.bool false)], args := [d1, d2, d3, d4, d5, d6] }
  | _ => none }
def RobustGeneratedWrongFalsely : Prop := robustGeneratedRow.holds Try.pinned (OpenSpec.ofChange robustGeneratedWrong)

/- THE SECOND FORM. 'bulk': how many values and letters a reading holds, each counted each time it is reached (what is shared counts as often as it is met; a slice's spare places count too). A statement '..UptoSaid' is the law's where the arguments, and the package variables that the reading takes, are together of bulk at most 1048576: NARROWER than '..Said'. Prove '..Said' where nothing that the law and all that it calls make is longer than what came in: it says more and counts as full. Else prove '..UptoSaid'. A law counts once. -/
mutual
def uptoBulk {H : Type} : DataW H → Nat
  | .lit (.string bytes) => bytes.length + 1
  | .lit _ => 1
  | .nil => 1
  | .ptr d => uptoBulk d + 1
  | .slice elems spare => uptoBulkAll elems + uptoBulkAll spare + 1
  | .agg parts => uptoBulkAll parts + 1
  | .iface _ d => uptoBulk d + 1
  | .map entries => uptoBulkEntries entries + 1
  | .held _ => 1
def uptoBulkAll {H : Type} : List (DataW H) → Nat
  | [] => 0
  | d :: r => uptoBulk d + uptoBulkAll r
def uptoBulkEntries {H : Type} : List (Lit × DataW H) → Nat
  | [] => 0
  | x :: r => uptoBulkEntry x + uptoBulkEntries r
def uptoBulkEntry {H : Type} : Lit × DataW H → Nat
  | (.string bytes, d) => bytes.length + uptoBulk d + 1
  | (_, d) => uptoBulk d + 1
 end
def uptoSmall : (H : Type) → List (DataW H) → Bool := fun _ ds => decide (uptoBulkAll ds ≤ 1048576)
def OpenSpec.upto (s : _root_.Go.ChangeSpec) : _root_.Go.OpenSpec := { _root_.Go.OpenSpec.ofChange s with cond := some uptoSmall }

/-- 'railplanlaw22.RobustTriangle', WHERE WHAT IT READS IS OF BULK AT MOST 1048576: true; the input reads as it did. -/
def robustTriangleUptoRow : OpenClaim := { program := "ytfipfobadpealaa", sum := "c45460c26582976914b56b7a4979c85810b111a85cca2dd785ff0da403fc7dff", func := "railplan/railplanlaw22.RobustTriangle", spec := "robustTriangle", unfollowed := true, recurses := true, apart := false, narrowed := true }
def RobustTriangleUptoSaid : Prop := robustTriangleUptoRow.holds Try.pinned (OpenSpec.upto robustTriangleSpec)

/-- 'railplanlaw22.RobustLoopIsLeast', WHERE WHAT IT READS IS OF BULK AT MOST 1048576: true; the input reads as it did. -/
def robustLoopIsLeastUptoRow : OpenClaim := { program := "ytfipfobadpealaa", sum := "c45460c26582976914b56b7a4979c85810b111a85cca2dd785ff0da403fc7dff", func := "railplan/railplanlaw22.RobustLoopIsLeast", spec := "robustLoopIsLeast", unfollowed := true, recurses := true, apart := false, narrowed := true }
def RobustLoopIsLeastUptoSaid : Prop := robustLoopIsLeastUptoRow.holds Try.pinned (OpenSpec.upto robustLoopIsLeastSpec)

/-- 'railplanlaw22.RobustDelaysHold', WHERE WHAT IT READS IS OF BULK AT MOST 1048576: true; the input reads as it did. -/
def robustDelaysHoldUptoRow : OpenClaim := { program := "ytfipfobadpealaa", sum := "c45460c26582976914b56b7a4979c85810b111a85cca2dd785ff0da403fc7dff", func := "railplan/railplanlaw22.RobustDelaysHold", spec := "robustDelaysHold", unfollowed := true, recurses := true, apart := false, narrowed := true }
def RobustDelaysHoldUptoSaid : Prop := robustDelaysHoldUptoRow.holds Try.pinned (OpenSpec.upto robustDelaysHoldSpec)

/-- 'railplanlaw22.RobustDelaysAreLeast', WHERE WHAT IT READS IS OF BULK AT MOST 1048576: true; the input reads as it did. -/
def robustDelaysAreLeastUptoRow : OpenClaim := { program := "ytfipfobadpealaa", sum := "c45460c26582976914b56b7a4979c85810b111a85cca2dd785ff0da403fc7dff", func := "railplan/railplanlaw22.RobustDelaysAreLeast", spec := "robustDelaysAreLeast", unfollowed := true, recurses := true, apart := false, narrowed := true }
def RobustDelaysAreLeastUptoSaid : Prop := robustDelaysAreLeastUptoRow.holds Try.pinned (OpenSpec.upto robustDelaysAreLeastSpec)

/-- 'railplanlaw22.RobustMoreDelay', WHERE WHAT IT READS IS OF BULK AT MOST 1048576: true; the input reads as it did. -/
def robustMoreDelayUptoRow : OpenClaim := { program := "ytfipfobadpealaa", sum := "c45460c26582976914b56b7a4979c85810b111a85cca2dd785ff0da403fc7dff", func := "railplan/railplanlaw22.RobustMoreDelay", spec := "robustMoreDelay", unfollowed := true, recurses := true, apart := false, narrowed := true }
def RobustMoreDelayUptoSaid : Prop := robustMoreDelayUptoRow.holds Try.pinned (OpenSpec.upto robustMoreDelaySpec)

/-- 'railplanlaw22.RobustExamples', WHERE WHAT IT READS IS OF BULK AT MOST 1048576: true; the input reads as it did. -/
def robustExamplesUptoRow : OpenClaim := { program := "ytfipfobadpealaa", sum := "c45460c26582976914b56b7a4979c85810b111a85cca2dd785ff0da403fc7dff", func := "railplan/railplanlaw22.RobustExamples", spec := "robustExamples", unfollowed := true, recurses := true, apart := false, narrowed := true }
def RobustExamplesUptoSaid : Prop := robustExamplesUptoRow.holds Try.pinned (OpenSpec.upto robustExamplesSpec)

/-- 'railplanlaw22.RobustRaw', WHERE WHAT IT READS IS OF BULK AT MOST 1048576: true; the input reads as it did. -/
def robustRawUptoRow : OpenClaim := { program := "ytfipfobadpealaa", sum := "c45460c26582976914b56b7a4979c85810b111a85cca2dd785ff0da403fc7dff", func := "railplan/railplanlaw22.RobustRaw", spec := "robustRaw", unfollowed := true, recurses := true, apart := false, narrowed := true }
def RobustRawUptoSaid : Prop := robustRawUptoRow.holds Try.pinned (OpenSpec.upto robustRawSpec)

/-- 'railplanlaw22.RobustGenerated', WHERE WHAT IT READS IS OF BULK AT MOST 1048576: true; the input reads as it did. -/
def robustGeneratedUptoRow : OpenClaim := { program := "ytfipfobadpealaa", sum := "c45460c26582976914b56b7a4979c85810b111a85cca2dd785ff0da403fc7dff", func := "railplan/railplanlaw22.RobustGenerated", spec := "robustGenerated", unfollowed := true, recurses := true, apart := false, narrowed := true }
def RobustGeneratedUptoSaid : Prop := robustGeneratedUptoRow.holds Try.pinned (OpenSpec.upto robustGeneratedSpec)

end Rows
end Go.Proofs.Ytfipfobadpealaa
