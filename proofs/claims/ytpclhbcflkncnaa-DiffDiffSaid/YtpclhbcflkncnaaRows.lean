/-
  No cell of these rows narrows 'for every input' (looked for: loops, veiled, ifaces, maps, wideKeys, modest, calm, conditions, laid).
  DERIVED. THE GIVEN ROWS OF THIS SEAT. 9 by the template 'for every input the law returns true; each argument reads behind the call as it read before'; 0 by the template 'total and deterministic' (their statements: YtpclhbcflkncnaaTotals.lean).
  GIVEN WITH THE SEED: the statements are not yours to turn. If you find one false, say at which input.
  Laid BY PROGRAM, IN A SANDBOX (cutbox-rows.mjs): the forced cells as the released guide's own fill.sh prints them over the translation 8c3dfba195318dbe… (all of the seat's roots in one cut). By AI agents, Wed Nov 11 2026. No macro, syntax, notation, axiom, sorry.
-/
import Derived.Test.YtpclhbcflkncnaaChecked
import GoSem.Claim
import GoSem.ClaimJoined
import GoSem.ClaimMapViews
import Derived.JoinedTies
import Derived.KernelRfl
namespace Go.Proofs.Ytpclhbcflkncnaa
/- THE CELL 'sum', in the pinned program and in every row, IS THE sha256 OF THE DUMP (.gsa) THAT YtpclhbcflkncnaaProg.lean LOADS. Nothing in Lean hashes anything: it is a label: what it is worth is what the hold of that sum in a sandbox is worth. -/
noncomputable def Try.pinned : Pinned := { name := "ytpclhbcflkncnaa", sum := "8c3dfba195318dbe737866f9eed55d8d7fbf9dceeefe45d7c2703a05dbe4c6a3", checked := Try.checked }
namespace Rows
def none {H : Type} : Left H := { results := [], args := [] }

/-- 'railplanlaw42.DiffCheck': WHATEVER THE INPUT: true; the input reads as it did. -/
def diffCheckSpec : ChangeSpec := { name := "diffCheck", fn := fun _ => fun
  | [d1, d2, d3, d4, d5] => { results := [.lit (.bool true)], args := [d1, d2, d3, d4, d5] }
  | _ => none }
def diffCheckRow : OpenClaim := { program := "ytpclhbcflkncnaa", sum := "8c3dfba195318dbe737866f9eed55d8d7fbf9dceeefe45d7c2703a05dbe4c6a3", func := "railplan/railplanlaw42.DiffCheck", spec := "diffCheck", apart := false }
def DiffCheckSaid : Prop := diffCheckRow.holds Try.pinned (OpenSpec.ofChange diffCheckSpec)

/-- ITS FALSE NEIGHBOUR: 'it returns false'. Refute it at one input. -/
def diffCheckWrong : ChangeSpec := { name := "diffCheck", fn := fun _ => fun
  | [d1, d2, d3, d4, d5] => { results := [.lit (.bool false)], args := [d1, d2, d3, d4, d5] }
  | _ => none }
def DiffCheckWrongFalsely : Prop := diffCheckRow.holds Try.pinned (OpenSpec.ofChange diffCheckWrong)

/-- 'railplanlaw42.DiffDiff': WHATEVER THE INPUT: true; the input reads as it did. -/
def diffDiffSpec : ChangeSpec := { name := "diffDiff", fn := fun _ => fun
  | [d1, d2, d3] => { results := [.lit (.bool true)], args := [d1, d2, d3] }
  | _ => none }
def diffDiffRow : OpenClaim := { program := "ytpclhbcflkncnaa", sum := "8c3dfba195318dbe737866f9eed55d8d7fbf9dceeefe45d7c2703a05dbe4c6a3", func := "railplan/railplanlaw42.DiffDiff", spec := "diffDiff", apart := false }
def DiffDiffSaid : Prop := diffDiffRow.holds Try.pinned (OpenSpec.ofChange diffDiffSpec)

/-- ITS FALSE NEIGHBOUR: 'it returns false'. Refute it at one input. -/
def diffDiffWrong : ChangeSpec := { name := "diffDiff", fn := fun _ => fun
  | [d1, d2, d3] => { results := [.lit (.bool false)], args := [d1, d2, d3] }
  | _ => none }
def DiffDiffWrongFalsely : Prop := diffDiffRow.holds Try.pinned (OpenSpec.ofChange diffDiffWrong)

/-- 'railplanlaw42.DiffApply': WHATEVER THE INPUT: true; the input reads as it did. -/
def diffApplySpec : ChangeSpec := { name := "diffApply", fn := fun _ => fun
  | [d1, d2, d3, d4, d5, d6] => { results := [.lit (.bool true)], args := [d1, d2, d3, d4, d5, d6] }
  | _ => none }
def diffApplyRow : OpenClaim := { program := "ytpclhbcflkncnaa", sum := "8c3dfba195318dbe737866f9eed55d8d7fbf9dceeefe45d7c2703a05dbe4c6a3", func := "railplan/railplanlaw42.DiffApply", spec := "diffApply", apart := false }
def DiffApplySaid : Prop := diffApplyRow.holds Try.pinned (OpenSpec.ofChange diffApplySpec)

/-- ITS FALSE NEIGHBOUR: 'it returns false'. Refute it at one input. -/
def diffApplyWrong : ChangeSpec := { name := "diffApply", fn := fun _ => fun
  | [d1, d2, d3, d4, d5, d6] => { results := [.lit (.bool false)], args := [d1, d2, d3, d4, d5, d6] }
  | _ => none }
def DiffApplyWrongFalsely : Prop := diffApplyRow.holds Try.pinned (OpenSpec.ofChange diffApplyWrong)

/-- 'railplanlaw42.DiffLeast': WHATEVER THE INPUT: true; the input reads as it did. -/
def diffLeastSpec : ChangeSpec := { name := "diffLeast", fn := fun _ => fun
  | [d1, d2] => { results := [.lit (.bool true)], args := [d1, d2] }
  | _ => none }
def diffLeastRow : OpenClaim := { program := "ytpclhbcflkncnaa", sum := "8c3dfba195318dbe737866f9eed55d8d7fbf9dceeefe45d7c2703a05dbe4c6a3", func := "railplan/railplanlaw42.DiffLeast", spec := "diffLeast", apart := false }
def DiffLeastSaid : Prop := diffLeastRow.holds Try.pinned (OpenSpec.ofChange diffLeastSpec)

/-- ITS FALSE NEIGHBOUR: 'it returns false'. Refute it at one input. -/
def diffLeastWrong : ChangeSpec := { name := "diffLeast", fn := fun _ => fun
  | [d1, d2] => { results := [.lit (.bool false)], args := [d1, d2] }
  | _ => none }
def DiffLeastWrongFalsely : Prop := diffLeastRow.holds Try.pinned (OpenSpec.ofChange diffLeastWrong)

/-- 'railplanlaw42.DiffPatch': WHATEVER THE INPUT: true; the input reads as it did. -/
def diffPatchSpec : ChangeSpec := { name := "diffPatch", fn := fun _ => fun
  | [d1, d2] => { results := [.lit (.bool true)], args := [d1, d2] }
  | _ => none }
def diffPatchRow : OpenClaim := { program := "ytpclhbcflkncnaa", sum := "8c3dfba195318dbe737866f9eed55d8d7fbf9dceeefe45d7c2703a05dbe4c6a3", func := "railplan/railplanlaw42.DiffPatch", spec := "diffPatch", apart := false }
def DiffPatchSaid : Prop := diffPatchRow.holds Try.pinned (OpenSpec.ofChange diffPatchSpec)

/-- ITS FALSE NEIGHBOUR: 'it returns false'. Refute it at one input. -/
def diffPatchWrong : ChangeSpec := { name := "diffPatch", fn := fun _ => fun
  | [d1, d2] => { results := [.lit (.bool false)], args := [d1, d2] }
  | _ => none }
def DiffPatchWrongFalsely : Prop := diffPatchRow.holds Try.pinned (OpenSpec.ofChange diffPatchWrong)

/-- 'railplanlaw42.DiffInvert': WHATEVER THE INPUT: true; the input reads as it did. -/
def diffInvertSpec : ChangeSpec := { name := "diffInvert", fn := fun _ => fun
  | [d1, d2, d3] => { results := [.lit (.bool true)], args := [d1, d2, d3] }
  | _ => none }
def diffInvertRow : OpenClaim := { program := "ytpclhbcflkncnaa", sum := "8c3dfba195318dbe737866f9eed55d8d7fbf9dceeefe45d7c2703a05dbe4c6a3", func := "railplan/railplanlaw42.DiffInvert", spec := "diffInvert", apart := false }
def DiffInvertSaid : Prop := diffInvertRow.holds Try.pinned (OpenSpec.ofChange diffInvertSpec)

/-- ITS FALSE NEIGHBOUR: 'it returns false'. Refute it at one input. -/
def diffInvertWrong : ChangeSpec := { name := "diffInvert", fn := fun _ => fun
  | [d1, d2, d3] => { results := [.lit (.bool false)], args := [d1, d2, d3] }
  | _ => none }
def DiffInvertWrongFalsely : Prop := diffInvertRow.holds Try.pinned (OpenSpec.ofChange diffInvertWrong)

/-- 'railplanlaw42.DiffMerge': WHATEVER THE INPUT: true; the input reads as it did. -/
def diffMergeSpec : ChangeSpec := { name := "diffMerge", fn := fun _ => fun
  | [d1, d2, d3, d4] => { results := [.lit (.bool true)], args := [d1, d2, d3, d4] }
  | _ => none }
def diffMergeRow : OpenClaim := { program := "ytpclhbcflkncnaa", sum := "8c3dfba195318dbe737866f9eed55d8d7fbf9dceeefe45d7c2703a05dbe4c6a3", func := "railplan/railplanlaw42.DiffMerge", spec := "diffMerge", apart := false }
def DiffMergeSaid : Prop := diffMergeRow.holds Try.pinned (OpenSpec.ofChange diffMergeSpec)

/-- ITS FALSE NEIGHBOUR: 'it returns false'. Refute it at one input. -/
def diffMergeWrong : ChangeSpec := { name := "diffMerge", fn := fun _ => fun
  | [d1, d2, d3, d4] => { results := [.lit (.bool false)], args := [d1, d2, d3, d4] }
  | _ => none }
def DiffMergeWrongFalsely : Prop := diffMergeRow.holds Try.pinned (OpenSpec.ofChange diffMergeWrong)

/-- 'railplanlaw42.DiffSides': WHATEVER THE INPUT: true; the input reads as it did. -/
def diffSidesSpec : ChangeSpec := { name := "diffSides", fn := fun _ => fun
  | [d1, d2, d3] => { results := [.lit (.bool true)], args := [d1, d2, d3] }
  | _ => none }
def diffSidesRow : OpenClaim := { program := "ytpclhbcflkncnaa", sum := "8c3dfba195318dbe737866f9eed55d8d7fbf9dceeefe45d7c2703a05dbe4c6a3", func := "railplan/railplanlaw42.DiffSides", spec := "diffSides", apart := false }
def DiffSidesSaid : Prop := diffSidesRow.holds Try.pinned (OpenSpec.ofChange diffSidesSpec)

/-- ITS FALSE NEIGHBOUR: 'it returns false'. Refute it at one input. -/
def diffSidesWrong : ChangeSpec := { name := "diffSides", fn := fun _ => fun
  | [d1, d2, d3] => { results := [.lit (.bool false)], args := [d1, d2, d3] }
  | _ => none }
def DiffSidesWrongFalsely : Prop := diffSidesRow.holds Try.pinned (OpenSpec.ofChange diffSidesWrong)

/-- 'railplanlaw42.DiffConflicts': WHATEVER THE INPUT: true; the input reads as it did. -/
def diffConflictsSpec : ChangeSpec := { name := "diffConflicts", fn := fun _ => fun
  | [d1, d2, d3] => { results := [.lit (.bool true)], args := [d1, d2, d3] }
  | _ => none }
def diffConflictsRow : OpenClaim := { program := "ytpclhbcflkncnaa", sum := "8c3dfba195318dbe737866f9eed55d8d7fbf9dceeefe45d7c2703a05dbe4c6a3", func := "railplan/railplanlaw42.DiffConflicts", spec := "diffConflicts", apart := false }
def DiffConflictsSaid : Prop := diffConflictsRow.holds Try.pinned (OpenSpec.ofChange diffConflictsSpec)

/-- ITS FALSE NEIGHBOUR: 'it returns false'. Refute it at one input. -/
def diffConflictsWrong : ChangeSpec := { name := "diffConflicts", fn := fun _ => fun
  | [d1, d2, d3] => { results := [.lit (.bool false)], args := [d1, d2, d3] }
  | _ => none }
def DiffConflictsWrongFalsely : Prop := diffConflictsRow.holds Try.pinned (OpenSpec.ofChange diffConflictsWrong)

/- THE SECOND FORM. 'bulk': how many values and letters a reading holds, each counted each time it is reached (what is shared counts as often as it is met; a slice's spare places count too). A statement '..UptoSaid' is the law's where the arguments, and the package variables that the reading takes, are together of bulk at most 1048576: NARROWER than '..Said'. Prove '..Said' where nothing that the law and all that it calls make is longer than what came in: it says more and counts as full. Else prove '..UptoSaid'. A law counts once. -/
mutual
def uptoBulk {H : Type} : DataW H → Nat
  | .lit (.string bytes) => bytes.length + 1
  | .lit _ => 1
  | .nil => 1
  | .ptr d => uptoBulk d + 1
  | .slice elems spare => uptoBulkAll elems + uptoBulkAll spare + 1
  | .agg parts => uptoBulkAll parts + 1
  | .iface _ d => uptoBulk d + 1
  | .map entries => uptoBulkEntries entries + 1
  | .held _ => 1
def uptoBulkAll {H : Type} : List (DataW H) → Nat
  | [] => 0
  | d :: r => uptoBulk d + uptoBulkAll r
def uptoBulkEntries {H : Type} : List (Lit × DataW H) → Nat
  | [] => 0
  | x :: r => uptoBulkEntry x + uptoBulkEntries r
def uptoBulkEntry {H : Type} : Lit × DataW H → Nat
  | (.string bytes, d) => bytes.length + uptoBulk d + 1
  | (_, d) => uptoBulk d + 1
 end
def uptoSmall : (H : Type) → List (DataW H) → Bool := fun _ ds => decide (uptoBulkAll ds ≤ 1048576)
def OpenSpec.upto (s : _root_.Go.ChangeSpec) : _root_.Go.OpenSpec := { _root_.Go.OpenSpec.ofChange s with cond := some uptoSmall }

/-- 'railplanlaw42.DiffCheck', WHERE WHAT IT READS IS OF BULK AT MOST 1048576: true; the input reads as it did. -/
def diffCheckUptoRow : OpenClaim := { program := "ytpclhbcflkncnaa", sum := "8c3dfba195318dbe737866f9eed55d8d7fbf9dceeefe45d7c2703a05dbe4c6a3", func := "railplan/railplanlaw42.DiffCheck", spec := "diffCheck", apart := false, narrowed := true }
def DiffCheckUptoSaid : Prop := diffCheckUptoRow.holds Try.pinned (OpenSpec.upto diffCheckSpec)

/-- 'railplanlaw42.DiffDiff', WHERE WHAT IT READS IS OF BULK AT MOST 1048576: true; the input reads as it did. -/
def diffDiffUptoRow : OpenClaim := { program := "ytpclhbcflkncnaa", sum := "8c3dfba195318dbe737866f9eed55d8d7fbf9dceeefe45d7c2703a05dbe4c6a3", func := "railplan/railplanlaw42.DiffDiff", spec := "diffDiff", apart := false, narrowed := true }
def DiffDiffUptoSaid : Prop := diffDiffUptoRow.holds Try.pinned (OpenSpec.upto diffDiffSpec)

/-- 'railplanlaw42.DiffApply', WHERE WHAT IT READS IS OF BULK AT MOST 1048576: true; the input reads as it did. -/
def diffApplyUptoRow : OpenClaim := { program := "ytpclhbcflkncnaa", sum := "8c3dfba195318dbe737866f9eed55d8d7fbf9dceeefe45d7c2703a05dbe4c6a3", func := "railplan/railplanlaw42.DiffApply", spec := "diffApply", apart := false, narrowed := true }
def DiffApplyUptoSaid : Prop := diffApplyUptoRow.holds Try.pinned (OpenSpec.upto diffApplySpec)

/-- 'railplanlaw42.DiffLeast', WHERE WHAT IT READS IS OF BULK AT MOST 1048576: true; the input reads as it did. -/
def diffLeastUptoRow : OpenClaim := { program := "ytpclhbcflkncnaa", sum := "8c3dfba195318dbe737866f9eed55d8d7fbf9dceeefe45d7c2703a05dbe4c6a3", func := "railplan/railplanlaw42.DiffLeast", spec := "diffLeast", apart := false, narrowed := true }
def DiffLeastUptoSaid : Prop := diffLeastUptoRow.holds Try.pinned (OpenSpec.upto diffLeastSpec)

/-- 'railplanlaw42.DiffPatch', WHERE WHAT IT READS IS OF BULK AT MOST 1048576: true; the input reads as it did. -/
def diffPatchUptoRow : OpenClaim := { program := "ytpclhbcflkncnaa", sum := "8c3dfba195318dbe737866f9eed55d8d7fbf9dceeefe45d7c2703a05dbe4c6a3", func := "railplan/railplanlaw42.DiffPatch", spec := "diffPatch", apart := false, narrowed := true }
def DiffPatchUptoSaid : Prop := diffPatchUptoRow.holds Try.pinned (OpenSpec.upto diffPatchSpec)

/-- 'railplanlaw42.DiffInvert', WHERE WHAT IT READS IS OF BULK AT MOST 1048576: true; the input reads as it did. -/
def diffInvertUptoRow : OpenClaim := { program := "ytpclhbcflkncnaa", sum := "8c3dfba195318dbe737866f9eed55d8d7fbf9dceeefe45d7c2703a05dbe4c6a3", func := "railplan/railplanlaw42.DiffInvert", spec := "diffInvert", apart := false, narrowed := true }
def DiffInvertUptoSaid : Prop := diffInvertUptoRow.holds Try.pinned (OpenSpec.upto diffInvertSpec)

/-- 'railplanlaw42.DiffMerge', WHERE WHAT IT READS IS OF BULK AT MOST 1048576: true; the input reads as it did. -/
def diffMergeUptoRow : OpenClaim := { program := "ytpclhbcflkncnaa", sum := "8c3dfba195318dbe737866f9eed55d8d7fbf9dceeefe45d7c2703a05dbe4c6a3", func := "railplan/railplanlaw42.DiffMerge", spec := "diffMerge", apart := false, narrowed := true }
def DiffMergeUptoSaid : Prop := diffMergeUptoRow.holds Try.pinned (OpenSpec.upto diffMergeSpec)

/-- 'railplanlaw42.DiffSides', WHERE WHAT IT READS IS OF BULK AT MOST 1048576: true; the input reads as it did. -/
def diffSidesUptoRow : OpenClaim := { program := "ytpclhbcflkncnaa", sum := "8c3dfba195318dbe737866f9eed55d8d7fbf9dceeefe45d7c2703a05dbe4c6a3", func := "railplan/railplanlaw42.DiffSides", spec := "diffSides", apart := false, narrowed := true }
def DiffSidesUptoSaid : Prop := diffSidesUptoRow.holds Try.pinned (OpenSpec.upto diffSidesSpec)

/-- 'railplanlaw42.DiffConflicts', WHERE WHAT IT READS IS OF BULK AT MOST 1048576: true; the input reads as it did. -/
def diffConflictsUptoRow : OpenClaim := { program := "ytpclhbcflkncnaa", sum := "8c3dfba195318dbe737866f9eed55d8d7fbf9dceeefe45d7c2703a05dbe4c6a3", func := "railplan/railplanlaw42.DiffConflicts", spec := "diffConflicts", apart := false, narrowed := true }
def DiffConflictsUptoSaid : Prop := diffConflictsUptoRow.holds Try.pinned (OpenSpec.upto diffConflictsSpec)

end Rows
end Go.Proofs.Ytpclhbcflkncnaa
