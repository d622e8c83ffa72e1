/-
  No cell of these rows narrows 'for every input' (looked for: loops, veiled, ifaces, maps, wideKeys, modest, calm, conditions, laid).
  DERIVED. THE GIVEN ROWS OF THIS SEAT. 8 by the template 'for every input the law returns true; each argument reads behind the call as it read before'; 0 by the template 'total and deterministic' (their statements: YtiohandkjjmemaaTotals.lean).
  GIVEN WITH THE SEED: the statements are not yours to turn. If you find one false, say at which input.
  Laid BY PROGRAM, IN A SANDBOX (cutbox-rows.mjs): the forced cells as the released guide's own fill.sh prints them over the translation edc5ca005c595bd9… (all of the seat's roots in one cut). By AI agents, Wed Nov 11 2026. No macro, syntax, notation, axiom, sorry.
-/
import Derived.Test.YtiohandkjjmemaaChecked
import GoSem.Claim
import GoSem.ClaimJoined
import GoSem.ClaimMapViews
import Derived.JoinedTies
import Derived.KernelRfl
namespace Go.Proofs.Ytiohandkjjmemaa
/- THE CELL 'sum', in the pinned program and in every row, IS THE sha256 OF THE DUMP (.gsa) THAT YtiohandkjjmemaaProg.lean LOADS. Nothing in Lean hashes anything: it is a label: what it is worth is what the hold of that sum in a sandbox is worth. -/
noncomputable def Try.pinned : Pinned := { name := "ytiohandkjjmemaa", sum := "edc5ca005c595bd9ae8037117cfddbf6bc1c6d320e75304e6bca0dc5091c25a2", checked := Try.checked }
namespace Rows
def none {H : Type} : Left H := { results := [], args := [] }

/-- 'railplanlaw25.ClosureLimits': WHATEVER THE INPUT: true; the input reads as it did. -/
def closureLimitsSpec : ChangeSpec := { name := "closureLimits", fn := fun _ => fun
  | [d1, d2, d3] => { results := [.lit (.bool true)], args := [d1, d2, d3] }
  | _ => none }
def closureLimitsRow : OpenClaim := { program := "ytiohandkjjmemaa", sum := "edc5ca005c595bd9ae8037117cfddbf6bc1c6d320e75304e6bca0dc5091c25a2", func := "railplan/railplanlaw25.ClosureLimits", spec := "closureLimits", inPlace := ["slices.overlaps[railplan/api.Closure]"], apart := false }
def ClosureLimitsSaid : Prop := closureLimitsRow.holds Try.pinned (OpenSpec.ofChange closureLimitsSpec)

/-- ITS FALSE NEIGHBOUR: 'it returns false'. Refute it at one input. -/
def closureLimitsWrong : ChangeSpec := { name := "closureLimits", fn := fun _ => fun
  | [d1, d2, d3] => { results := [.lit (.bool false)], args := [d1, d2, d3] }
  | _ => none }
def ClosureLimitsWrongFalsely : Prop := closureLimitsRow.holds Try.pinned (OpenSpec.ofChange closureLimitsWrong)

/-- 'railplanlaw25.ClosureMerge': WHATEVER THE INPUT: true; the input reads as it did. -/
def closureMergeSpec : ChangeSpec := { name := "closureMerge", fn := fun _ => fun
  | [d] => { results := [.lit (.bool true)], args := [d] }
  | _ => none }
def closureMergeRow : OpenClaim := { program := "ytiohandkjjmemaa", sum := "edc5ca005c595bd9ae8037117cfddbf6bc1c6d320e75304e6bca0dc5091c25a2", func := "railplan/railplanlaw25.ClosureMerge", spec := "closureMerge", inPlace := ["slices.overlaps[railplan/api.Closure]"], apart := false }
def ClosureMergeSaid : Prop := closureMergeRow.holds Try.pinned (OpenSpec.ofChange closureMergeSpec)

/-- ITS FALSE NEIGHBOUR: 'it returns false'. Refute it at one input. -/
def closureMergeWrong : ChangeSpec := { name := "closureMerge", fn := fun _ => fun
  | [d] => { results := [.lit (.bool false)], args := [d] }
  | _ => none }
def ClosureMergeWrongFalsely : Prop := closureMergeRow.holds Try.pinned (OpenSpec.ofChange closureMergeWrong)

/-- 'railplanlaw25.ClosureNext': WHATEVER THE INPUT: true; the input reads as it did. -/
def closureNextSpec : ChangeSpec := { name := "closureNext", fn := fun _ => fun
  | [d1, d2] => { results := [.lit (.bool true)], args := [d1, d2] }
  | _ => none }
def closureNextRow : OpenClaim := { program := "ytiohandkjjmemaa", sum := "edc5ca005c595bd9ae8037117cfddbf6bc1c6d320e75304e6bca0dc5091c25a2", func := "railplan/railplanlaw25.ClosureNext", spec := "closureNext", inPlace := ["slices.overlaps[railplan/api.Closure]"], apart := false }
def ClosureNextSaid : Prop := closureNextRow.holds Try.pinned (OpenSpec.ofChange closureNextSpec)

/-- ITS FALSE NEIGHBOUR: 'it returns false'. Refute it at one input. -/
def closureNextWrong : ChangeSpec := { name := "closureNext", fn := fun _ => fun
  | [d1, d2] => { results := [.lit (.bool false)], args := [d1, d2] }
  | _ => none }
def ClosureNextWrongFalsely : Prop := closureNextRow.holds Try.pinned (OpenSpec.ofChange closureNextWrong)

/-- 'railplanlaw25.ClosureInside': WHATEVER THE INPUT: true; the input reads as it did. -/
def closureInsideSpec : ChangeSpec := { name := "closureInside", fn := fun _ => fun
  | [d1, d2, d3, d4] => { results := [.lit (.bool true)], args := [d1, d2, d3, d4] }
  | _ => none }
def closureInsideRow : OpenClaim := { program := "ytiohandkjjmemaa", sum := "edc5ca005c595bd9ae8037117cfddbf6bc1c6d320e75304e6bca0dc5091c25a2", func := "railplan/railplanlaw25.ClosureInside", spec := "closureInside", inPlace := ["slices.overlaps[railplan/api.Closure]"], apart := false }
def ClosureInsideSaid : Prop := closureInsideRow.holds Try.pinned (OpenSpec.ofChange closureInsideSpec)

/-- ITS FALSE NEIGHBOUR: 'it returns false'. Refute it at one input. -/
def closureInsideWrong : ChangeSpec := { name := "closureInside", fn := fun _ => fun
  | [d1, d2, d3, d4] => { results := [.lit (.bool false)], args := [d1, d2, d3, d4] }
  | _ => none }
def ClosureInsideWrongFalsely : Prop := closureInsideRow.holds Try.pinned (OpenSpec.ofChange closureInsideWrong)

/-- 'railplanlaw25.ClosureExample': WHATEVER THE INPUT: true; the input reads as it did. -/
def closureExampleSpec : ChangeSpec := { name := "closureExample", fn := fun _ => fun
  | [] => { results := [.lit (.bool true)], args := [] }
  | _ => none }
def closureExampleRow : OpenClaim := { program := "ytiohandkjjmemaa", sum := "edc5ca005c595bd9ae8037117cfddbf6bc1c6d320e75304e6bca0dc5091c25a2", func := "railplan/railplanlaw25.ClosureExample", spec := "closureExample", inPlace := ["slices.overlaps[railplan/api.Closure]"], apart := false }
def ClosureExampleSaid : Prop := closureExampleRow.holds Try.pinned (OpenSpec.ofChange closureExampleSpec)

/-- ITS FALSE NEIGHBOUR: 'it returns false'. Refute it at one input. -/
def closureExampleWrong : ChangeSpec := { name := "closureExample", fn := fun _ => fun
  | [] => { results := [.lit (.bool false)], args := [] }
  | _ => none }
def ClosureExampleWrongFalsely : Prop := closureExampleRow.holds Try.pinned (OpenSpec.ofChange closureExampleWrong)

/-- 'railplanlaw25.ClosureRaw': WHATEVER THE INPUT: true; the input reads as it did. -/
def closureRawSpec : ChangeSpec := { name := "closureRaw", fn := fun _ => fun
  | [d1, d2, d3, d4, d5] => { results := [.lit (.bool true)], args := [d1, d2, d3, d4, d5] }
  | _ => none }
def closureRawRow : OpenClaim := { program := "ytiohandkjjmemaa", sum := "edc5ca005c595bd9ae8037117cfddbf6bc1c6d320e75304e6bca0dc5091c25a2", func := "railplan/railplanlaw25.ClosureRaw", spec := "closureRaw", inPlace := ["slices.overlaps[railplan/api.Closure]"], apart := false }
def ClosureRawSaid : Prop := closureRawRow.holds Try.pinned (OpenSpec.ofChange closureRawSpec)

/-- ITS FALSE NEIGHBOUR: 'it returns false'. Refute it at one input. -/
def closureRawWrong : ChangeSpec := { name := "closureRaw", fn := fun _ => fun
  | [d1, d2, d3, d4, d5] => { results := [.lit (.bool false)], args := [d1, d2, d3, d4, d5] }
  | _ => none }
def ClosureRawWrongFalsely : Prop := closureRawRow.holds Try.pinned (OpenSpec.ofChange closureRawWrong)

/-- 'railplanlaw25.ClosureMade': WHATEVER THE INPUT: true; the input reads as it did. -/
def closureMadeSpec : ChangeSpec := { name := "closureMade", fn := fun _ => fun
  | [d1, d2, d3, d4] => { results := [.lit (.bool true)], args := [d1, d2, d3, d4] }
  | _ => none }
def closureMadeRow : OpenClaim := { program := "ytiohandkjjmemaa", sum := "edc5ca005c595bd9ae8037117cfddbf6bc1c6d320e75304e6bca0dc5091c25a2", func := "railplan/railplanlaw25.ClosureMade", spec := "closureMade", inPlace := ["slices.overlaps[railplan/api.Closure]"], apart := false }
def ClosureMadeSaid : Prop := closureMadeRow.holds Try.pinned (OpenSpec.ofChange closureMadeSpec)

/-- ITS FALSE NEIGHBOUR: 'it returns false'. Refute it at one input. -/
def closureMadeWrong : ChangeSpec := { name := "closureMade", fn := fun _ => fun
  | [d1, d2, d3, d4] => { results := [.lit (.bool false)], args := [d1, d2, d3, d4] }
  | _ => none }
def ClosureMadeWrongFalsely : Prop := closureMadeRow.holds Try.pinned (OpenSpec.ofChange closureMadeWrong)

/-- 'railplanlaw25.ClosureEarliest': WHATEVER THE INPUT: true; the input reads as it did. -/
def closureEarliestSpec : ChangeSpec := { name := "closureEarliest", fn := fun _ => fun
  | [d1, d2, d3, d4] => { results := [.lit (.bool true)], args := [d1, d2, d3, d4] }
  | _ => none }
def closureEarliestRow : OpenClaim := { program := "ytiohandkjjmemaa", sum := "edc5ca005c595bd9ae8037117cfddbf6bc1c6d320e75304e6bca0dc5091c25a2", func := "railplan/railplanlaw25.ClosureEarliest", spec := "closureEarliest", inPlace := ["slices.overlaps[railplan/api.Closure]"], apart := false }
def ClosureEarliestSaid : Prop := closureEarliestRow.holds Try.pinned (OpenSpec.ofChange closureEarliestSpec)

/-- ITS FALSE NEIGHBOUR: 'it returns false'. Refute it at one input. -/
def closureEarliestWrong : ChangeSpec := { name := "closureEarliest", fn := fun _ => fun
  | [d1, d2, d3, d4] => { results := [.lit (.bool false)], args := [d1, d2, d3, d4] }
  | _ => none }
def ClosureEarliestWrongFalsely : Prop := closureEarliestRow.holds Try.pinned (OpenSpec.ofChange closureEarliestWrong)

/- THE SECOND FORM. 'bulk': how many values and letters a reading holds, each counted each time it is reached (what is shared counts as often as it is met; a slice's spare places count too). A statement '..UptoSaid' is the law's where the arguments, and the package variables that the reading takes, are together of bulk at most 1048576: NARROWER than '..Said'. Prove '..Said' where nothing that the law and all that it calls make is longer than what came in: it says more and counts as full. Else prove '..UptoSaid'. A law counts once. -/
mutual
def uptoBulk {H : Type} : DataW H → Nat
  | .lit (.string bytes) => bytes.length + 1
  | .lit _ => 1
  | .nil => 1
  | .ptr d => uptoBulk d + 1
  | .slice elems spare => uptoBulkAll elems + uptoBulkAll spare + 1
  | .agg parts => uptoBulkAll parts + 1
  | .iface _ d => uptoBulk d + 1
  | .map entries => uptoBulkEntries entries + 1
  | .held _ => 1
def uptoBulkAll {H : Type} : List (DataW H) → Nat
  | [] => 0
  | d :: r => uptoBulk d + uptoBulkAll r
def uptoBulkEntries {H : Type} : List (Lit × DataW H) → Nat
  | [] => 0
  | x :: r => uptoBulkEntry x + uptoBulkEntries r
def uptoBulkEntry {H : Type} : Lit × DataW H → Nat
  | (.string bytes, d) => bytes.length + uptoBulk d + 1
  | (_, d) => uptoBulk d + 1
 end
def uptoSmall : (H : Type) → List (DataW H) → Bool := fun _ ds => decide (uptoBulkAll ds ≤ 1048576)
def OpenSpec.upto (s : _root_.Go.ChangeSpec) : _root_.Go.OpenSpec := { _root_.Go.OpenSpec.ofChange s with cond := some uptoSmall }

/-- 'railplanlaw25.ClosureLimits', WHERE WHAT IT READS IS OF BULK AT MOST 1048576: true; the input reads as it did. -/
def closureLimitsUptoRow : OpenClaim := { program := "ytiohandkjjmemaa", sum := "edc5ca005c595bd9ae8037117cfddbf6bc1c6d320e75304e6bca0dc5091c25a2", func := "railplan/railplanlaw25.ClosureLimits", spec := "closureLimits", inPlace := ["slices.overlaps[railplan/api.Closure]"], apart := false, narrowed := true }
def ClosureLimitsUptoSaid : Prop := closureLimitsUptoRow.holds Try.pinned (OpenSpec.upto closureLimitsSpec)

/-- 'railplanlaw25.ClosureMerge', WHERE WHAT IT READS IS OF BULK AT MOST 1048576: true; the input reads as it did. -/
def closureMergeUptoRow : OpenClaim := { program := "ytiohandkjjmemaa", sum := "edc5ca005c595bd9ae8037117cfddbf6bc1c6d320e75304e6bca0dc5091c25a2", func := "railplan/railplanlaw25.ClosureMerge", spec := "closureMerge", inPlace := ["slices.overlaps[railplan/api.Closure]"], apart := false, narrowed := true }
def ClosureMergeUptoSaid : Prop := closureMergeUptoRow.holds Try.pinned (OpenSpec.upto closureMergeSpec)

/-- 'railplanlaw25.ClosureNext', WHERE WHAT IT READS IS OF BULK AT MOST 1048576: true; the input reads as it did. -/
def closureNextUptoRow : OpenClaim := { program := "ytiohandkjjmemaa", sum := "edc5ca005c595bd9ae8037117cfddbf6bc1c6d320e75304e6bca0dc5091c25a2", func := "railplan/railplanlaw25.ClosureNext", spec := "closureNext", inPlace := ["slices.overlaps[railplan/api.Closure]"], apart := false, narrowed := true }
def ClosureNextUptoSaid : Prop := closureNextUptoRow.holds Try.pinned (OpenSpec.upto closureNextSpec)

/-- 'railplanlaw25.ClosureInside', WHERE WHAT IT READS IS OF BULK AT MOST 1048576: true; the input reads as it did. -/
def closureInsideUptoRow : OpenClaim := { program := "ytiohandkjjmemaa", sum := "edc5ca005c595bd9ae8037117cfddbf6bc1c6d320e75304e6bca0dc5091c25a2", func := "railplan/railplanlaw25.ClosureInside", spec := "closureInside", inPlace := ["slices.overlaps[railplan/api.Closure]"], apart := false, narrowed := true }
def ClosureInsideUptoSaid : Prop := closureInsideUptoRow.holds Try.pinned (OpenSpec.upto closureInsideSpec)

/-- 'railplanlaw25.ClosureExample', WHERE WHAT IT READS IS OF BULK AT MOST 1048576: true; the input reads as it did. -/
def closureExampleUptoRow : OpenClaim := { program := "ytiohandkjjmemaa", sum := "edc5ca005c595bd9ae8037117cfddbf6bc1c6d320e75304e6bca0dc5091c25a2", func := "railplan/railplanlaw25.ClosureExample", spec := "closureExample", inPlace := ["slices.overlaps[railplan/api.Closure]"], apart := false, narrowed := true }
def ClosureExampleUptoSaid : Prop := closureExampleUptoRow.holds Try.pinned (OpenSpec.upto closureExampleSpec)

/-- 'railplanlaw25.ClosureRaw', WHERE WHAT IT READS IS OF BULK AT MOST 1048576: true; the input reads as it did. -/
def closureRawUptoRow : OpenClaim := { program := "ytiohandkjjmemaa", sum := "edc5ca005c595bd9ae8037117cfddbf6bc1c6d320e75304e6bca0dc5091c25a2", func := "railplan/railplanlaw25.ClosureRaw", spec := "closureRaw", inPlace := ["slices.overlaps[railplan/api.Closure]"], apart := false, narrowed := true }
def ClosureRawUptoSaid : Prop := closureRawUptoRow.holds Try.pinned (OpenSpec.upto closureRawSpec)

/-- 'railplanlaw25.ClosureMade', WHERE WHAT IT READS IS OF BULK AT MOST 1048576: true; the input reads as it did. -/
def closureMadeUptoRow : OpenClaim := { program := "ytiohandkjjmemaa", sum := "edc5ca005c595bd9ae8037117cfddbf6bc1c6d320e75304e6bca0dc5091c25a2", func := "railplan/railplanlaw25.ClosureMade", spec := "closureMade", inPlace := ["slices.overlaps[railplan/api.Closure]"], apart := false, narrowed := true }
def ClosureMadeUptoSaid : Prop := closureMadeUptoRow.holds Try.pinned (OpenSpec.upto closureMadeSpec)

/-- 'railplanlaw25.ClosureEarliest', WHERE WHAT IT READS IS OF BULK AT MOST 1048576: true; the input reads as it did. -/
def closureEarliestUptoRow : OpenClaim := { program := "ytiohandkjjmemaa", sum := "edc5ca005c595bd9ae8037117cfddbf6bc1c6d320e75304e6bca0dc5091c25a2", func := "railplan/railplanlaw25.ClosureEarliest", spec := "closureEarliest", inPlace := ["slices.overlaps[railplan/api.Closure]"], apart := false, narrowed := true }
def ClosureEarliestUptoSaid : Prop := closureEarliestUptoRow.holds Try.pinned (OpenSpec.upto closureEarliestSpec)

end Rows
end Go.Proofs.Ytiohandkjjmemaa
