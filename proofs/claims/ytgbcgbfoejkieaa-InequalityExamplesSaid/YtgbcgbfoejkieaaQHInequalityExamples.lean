import Derived.Test.YtgbcgbfoejkieaaKW0
import Derived.Test.YtgbcgbfoejkieaaKS
import Derived.Test.YtgbcgbfoejkieaaK41
namespace Go.Proofs.Ytgbcgbfoejkieaa.Pure
open Go.RowKit Go.Proofs.Ytgbcgbfoejkieaa.PAll Go.Proofs.YtgbcgbfoejkieaaW.PrintWords Go.Proofs.YtgbcgbfoejkieaaW.PrintLast
set_option linter.unusedVariables false

inductive Cn (E : Int → Int → Prop) : Int → Int → Prop
 | refl (x : Int) : Cn E x x
 | tail {x y z : Int} : Cn E x y → E y z → Cn E x z
theorem Cn.mono {E F : Int → Int → Prop} (hE : ∀ x y,E x y → F x y) {x y : Int} (h : Cn E x y) : Cn F x y:=by
 induction h with
 | refl => exact .refl _
 | tail _ e ih => exact .tail ih (hE _ _ e)
end Go.Proofs.Ytgbcgbfoejkieaa.Pure

namespace Go.Proofs.Ytgbcgbfoejkieaa.Pure
open Go.RowKit Go.Proofs.Ytgbcgbfoejkieaa.PAll Go.Proofs.YtgbcgbfoejkieaaW.PrintWords Go.Proofs.YtgbcgbfoejkieaaW.PrintLast
set_option linter.unusedVariables false

def ps (f : Nat → Int) : Nat → Int
 | 0 => 0
 | n + 1 => ps f n + f n
def aq (acts : List S62) (ks : List Int) (q : Nat) : S62:=acts.getD (ks.getD q 0).toNat z62
def sG (acts : List S62) (ks ss : List Int) (n : Nat) : Int:=ps (fun q => if ss.getD q 0 > 0 then 0 else (aq acts ks q).f4 - (aq acts ks q).f3) n
def gs (acts : List S62) (ks ss : List Int) : Int:=sG acts ks ss ks.length
end Go.Proofs.Ytgbcgbfoejkieaa.Pure

namespace Go.Proofs.Ytgbcgbfoejkieaa.Pure
open Go.RowKit Go.Proofs.Ytgbcgbfoejkieaa.PAll Go.Proofs.YtgbcgbfoejkieaaW.PrintWords Go.Proofs.YtgbcgbfoejkieaaW.PrintLast Go.Proofs.YtgbcgbfoejkieaaW.PrintMore
set_option linter.unusedVariables false

theorem InequalityExamples : railplanlaw14_InequalityExamples.Pure:=⟨100,by kernel_rfl⟩
end Go.Proofs.Ytgbcgbfoejkieaa.Pure

