import Derived.Test.YtiohandkjjmemaaQPlD
import Derived.Test.YtiohandkjjmemaaKW0
import Derived.Test.YtiohandkjjmemaaKS
import Derived.Test.YtiohandkjjmemaaK20
namespace Go.Proofs.Ytiohandkjjmemaa.Pure
open Go.RowKit Go.Proofs.Ytiohandkjjmemaa.PAll Go.Proofs.YtiohandkjjmemaaW.PrintWords Go.Proofs.YtiohandkjjmemaaW.PrintLast
set_option linter.unusedVariables false

theorem ClosureExample : railplanlaw25_ClosureExample.Pure := ⟨60, by kernel_rfl⟩

end Go.Proofs.Ytiohandkjjmemaa.Pure
