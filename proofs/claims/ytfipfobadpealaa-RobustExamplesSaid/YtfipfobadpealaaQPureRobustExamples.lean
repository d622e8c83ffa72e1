/-
  The law RobustExamples of layer 22 returns true: the example of chapter 22. Conditions: none beyond the given statement.
-/
import Derived.Test.YtfipfobadpealaaKW0
import Derived.Test.YtfipfobadpealaaKS
import Derived.Test.YtfipfobadpealaaK28
namespace Go.Proofs.Ytfipfobadpealaa.Pure
open Go.RowKit Go.Proofs.Ytfipfobadpealaa.PAll Go.Proofs.YtfipfobadpealaaW.PrintWords Go.Proofs.YtfipfobadpealaaW.PrintLast
set_option linter.unusedVariables false

theorem RobustExamples : railplanlaw22_RobustExamples.Pure := ⟨400, by kernel_rfl⟩
end Go.Proofs.Ytfipfobadpealaa.Pure
