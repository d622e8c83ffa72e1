import Derived.Test.YtfipfobadpealaaKW0
import Derived.Test.YtfipfobadpealaaKS
import Derived.Test.YtfipfobadpealaaK38
-- Written by wip/tools/plugprint.py of this session over the kit's print, with hand-written parts from wip/plugs. Lean checks it.
namespace Go.Proofs.Ytfipfobadpealaa.PAll
open Go.RowKit Go.Proofs.YtfipfobadpealaaW.PrintWords
/-- The one pure statement of railplanlaw22_RobustRaw. -/
def railplanlaw22_RobustRaw.Pure : Prop := ∀ (x0 : S26) (l1 : List (Int)) (a2 : Int) (a3 : Int) (a4 : Int) (a5 : Int), ((Lit.int .i64 x0.f0).wf = true ∧ (x0.f1.length ≤ maxLen ∧ ∀ y ∈ x0.f1, ((Lit.int .i64 y.f0).wf = true ∧ (Lit.int .i64 y.f1).wf = true ∧ (Lit.int .i64 y.f2).wf = true)) ∧ (x0.f2.length ≤ maxLen ∧ ∀ y ∈ x0.f2, ((Lit.int .i64 y.f0).wf = true ∧ (Lit.int .i64 y.f1).wf = true ∧ (Lit.int .i64 y.f2).wf = true ∧ (Lit.int .i64 y.f3).wf = true ∧ (Lit.int .i64 y.f4).wf = true ∧ (Lit.int .i64 y.f5).wf = true))) → l1.length ≤ maxLen → l1.length * 8 ≤ 140737488351232 → (∀ y ∈ l1, (Lit.int .i64 y).wf = true) → (Lit.int .i64 a2).wf = true → (Lit.int .i64 a3).wf = true → (Lit.int .i64 a4).wf = true → (Lit.int .i64 a5).wf = true → ∃ k, railplanlaw22_RobustRaw.f k x0.f0 x0.f1 x0.f2 l1 a2 a3 a4 a5 = some true
end Go.Proofs.Ytfipfobadpealaa.PAll
