import Derived.Test.YtgbcgbfoejkieaaKW0
import Derived.Test.YtgbcgbfoejkieaaKS
import Derived.Test.YtgbcgbfoejkieaaK43
-- Written by wip/tools/plugprint.py of this session over the kit's print, with hand-written parts from wip/plugs. Lean checks it.
namespace Go.Proofs.Ytgbcgbfoejkieaa.PAll
open Go.RowKit Go.Proofs.YtgbcgbfoejkieaaW.PrintWords
/-- The one pure statement of railplanlaw14_InequalityRaw. -/
def railplanlaw14_InequalityRaw.Pure : Prop := ∀ (x0 : S26) (x1 : S32) (l2 : List (S32)) (l3 : List (Int)), ((Lit.int .i64 x0.f0).wf = true ∧ (x0.f1.length ≤ maxLen ∧ ∀ y0 ∈ x0.f1, ((Lit.int .i64 y0.f0).wf = true ∧ (Lit.int .i64 y0.f1).wf = true ∧ (Lit.int .i64 y0.f2).wf = true)) ∧ (x0.f2.length ≤ maxLen ∧ ∀ y0 ∈ x0.f2, ((Lit.int .i64 y0.f0).wf = true ∧ (Lit.int .i64 y0.f1).wf = true ∧ (Lit.int .i64 y0.f2).wf = true ∧ (Lit.int .i64 y0.f3).wf = true ∧ (Lit.int .i64 y0.f4).wf = true ∧ (Lit.int .i64 y0.f5).wf = true))) → ((x1.f0.length ≤ maxLen ∧ ∀ y0 ∈ x1.f0, (Lit.int .i64 y0).wf = true) ∧ (x1.f1.length ≤ maxLen ∧ ∀ y0 ∈ x1.f1, (Lit.int .i64 y0).wf = true)) → l2.length ≤ maxLen → l2.length * 48 ≤ 140737488351232 → (∀ y ∈ l2, ((y.f0.length ≤ maxLen ∧ ∀ y0 ∈ y.f0, (Lit.int .i64 y0).wf = true) ∧ (y.f1.length ≤ maxLen ∧ ∀ y0 ∈ y.f1, (Lit.int .i64 y0).wf = true))) → l3.length ≤ maxLen → l3.length * 8 ≤ 140737488351232 → (∀ y ∈ l3, (Lit.int .i64 y).wf = true) → ∃ k, railplanlaw14_InequalityRaw.f k x0.f0 x0.f1 x0.f2 x1.f0 x1.f1 l2 l3 = some true
end Go.Proofs.Ytgbcgbfoejkieaa.PAll
