import Derived.Test.YtpclhbcflkncnaaAW0
import Derived.Test.YtpclhbcflkncnaaAS
import Derived.Test.YtpclhbcflkncnaaA26
-- Written by wip/tools/plugprint.py of this session over the kit's print, with hand-written parts from wip/plugs. Lean checks it.
namespace Go.Proofs.Ytpclhbcflkncnaa.PAll
open Go.RowKit Go.Proofs.YtpclhbcflkncnaaW.PrintWords
/-- The one pure statement of railplanlaw42_DiffDiff. -/
def railplanlaw42_DiffDiff.Pure : Prop := ∀ (l0 : List (Int)) (l1 : List (Int)) (l2 : List (S28)), l0.length ≤ maxLen → l0.length * 8 ≤ 140737488351232 → (∀ y ∈ l0, (Lit.int .i64 y).wf = true) → l1.length ≤ maxLen → l1.length * 8 ≤ 140737488351232 → (∀ y ∈ l1, (Lit.int .i64 y).wf = true) → l2.length ≤ maxLen → l2.length * 64 ≤ 140737488351232 → (∀ y ∈ l2, ((Lit.int .i64 y.f0).wf = true ∧ (Lit.int .i64 y.f1).wf = true ∧ (y.f2.length ≤ maxLen ∧ ∀ y0 ∈ y.f2, (Lit.int .i64 y0).wf = true) ∧ (y.f3.length ≤ maxLen ∧ ∀ y0 ∈ y.f3, (Lit.int .i64 y0).wf = true))) → ∃ k, railplanlaw42_DiffDiff.f k l0 l1 l2 = some true
end Go.Proofs.Ytpclhbcflkncnaa.PAll
