-- Packed by wip/tools/pack.py of this session out of what plugprint.py and the kit's print wrote. Lean checks it.
import Derived.Test.YtiohandkjjmemaaKS
namespace Go.Proofs.Ytiohandkjjmemaa.PAll
open Go.RowKit Go.Proofs.YtiohandkjjmemaaW.PrintWords Go.Proofs.YtiohandkjjmemaaW.PrintLast Go.Proofs.YtiohandkjjmemaaW.PrintMore
attribute [local go_sem] max2_int min2_int max_two min_two max_three min_three max_four min_four
set_option linter.unusedVariables false
set_option linter.unusedSimpArgs false
/-! ### closure_near: function 33 -/
def closure_near.f (a0 : Int) : Option (Bool):=if a0 ≥ (-1099511627776) then (some (decide (a0 ≤ 1099511627776))) else (some false)
set_option maxHeartbeats 8000000 in
set_option maxRecDepth 100000 in
theorem closure_near.calls (a0 : Int) (r : Bool) (w : World) (h : closure_near.f a0 = some r) :
  Calls Try.prog 33 #[.int .i64 a0] w fun e w' => e = .returned (.bool r) ∧ Drawn0 w w':=by
 have H : (if a0 ≥ (-1099511627776) then (some (decide (a0 ≤ 1099511627776))) else (some false)) = some r:=h
 clear h
 by_cases c2 : a0 ≥ (-1099511627776)
 ·rw [if_pos c2] at H;((have c2b0:=decide_eq_true c2);clear c2;obtain rfl:=Option.some.inj H;(go_enter Try.func33,Try.ntmps33);(go_wp2);(go_ret);exact ⟨by first|rfl|(simp;done)|(simp [*];done),by repeat (first|exact Drawn0.refl _|apply Drawn0.step)⟩)
 ·rw [if_neg c2] at H;((have c2b0:=decide_eq_false c2);clear c2;obtain rfl:=Option.some.inj H;(go_enter Try.func33,Try.ntmps33);(go_wp2);(go_ret);exact ⟨by first|rfl|(simp;done)|(simp [*];done),by repeat (first|exact Drawn0.refl _|apply Drawn0.step)⟩)
end Go.Proofs.Ytiohandkjjmemaa.PAll
