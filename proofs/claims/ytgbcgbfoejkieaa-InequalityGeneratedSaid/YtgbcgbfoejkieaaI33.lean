-- Packed by wip/tools/pack.py of this session out of what plugprint.py and the kit's print wrote. Lean checks it.
import Derived.Test.YtgbcgbfoejkieaaIS
namespace Go.Proofs.Ytgbcgbfoejkieaa.PAll
open Go.RowKit Go.Proofs.YtgbcgbfoejkieaaW.PrintWords Go.Proofs.YtgbcgbfoejkieaaW.PrintLast Go.Proofs.YtgbcgbfoejkieaaW.PrintMore
attribute [local go_sem] max2_int min2_int max_two min_two max_three min_three max_four min_four
set_option linter.unusedVariables false
set_option linter.unusedSimpArgs false
/-! ### arith_CeilDiv: function 46 -/
def arith_CeilDiv.f (a0 : Int) (a1 : Int) : Option (Int × Int):=if a1 < 1 then (some (0,1)) else (if a1 = 0 then (none) else (if (Int.tmod a0 a1) > 0 then (some (wrap64 ((wrap64 (Int.tdiv a0 a1)) + 1),0)) else (some (wrap64 (Int.tdiv a0 a1),0))))
set_option maxHeartbeats 8000000 in
set_option maxRecDepth 100000 in
theorem arith_CeilDiv.calls (a0 : Int) (a1 : Int) (r1 : Int) (r2 : Int) (w : World) (h : arith_CeilDiv.f a0 a1 = some (r1,r2)) :
  Calls Try.prog 46 #[.int .i64 a0,.int .i64 a1] w fun e w' => e = .returned (.tuple #[.int .i64 r1,.int .i64 r2]) ∧ Drawn0 w w':=by
 have H : (if a1 < 1 then (some (0,1)) else (if a1 = 0 then (none) else (if (Int.tmod a0 a1) > 0 then (some (wrap64 ((wrap64 (Int.tdiv a0 a1)) + 1),0)) else (some (wrap64 (Int.tdiv a0 a1),0))))) = some (r1,r2):=h
 clear h
 by_cases c3 : a1 < 1
 ·rw [if_pos c3] at H;have c3b0:=decide_eq_true c3;clear c3;simp only [Option.some.injEq,Prod.mk.injEq] at H;obtain ⟨rfl,rfl⟩:=H;(go_enter Try.func46,Try.ntmps46);(go_wp2);(go_ret2);exact ⟨by first|rfl|(simp;done)|(simp [*];done),by repeat (first|exact Drawn0.refl _|apply Drawn0.step)⟩
 ·rw [if_neg c3] at H
  have c3b0:=decide_eq_false c3;clear c3
  by_cases c4 : a1 = 0
  ·rw [if_pos c4] at H;(simp at H)
  ·rw [if_neg c4] at H
   have c4b0 : (a1 == 0) = false:=beq_eq_false_iff_ne.mpr c4;have c4b1 : (a1 != 0) = true:=bne_iff_ne.mpr c4
   by_cases c5 : (Int.tmod a0 a1) > 0
   (·rw [if_pos c5] at H;have c5b0:=decide_eq_true c5;clear c5;simp only [Option.some.injEq,Prod.mk.injEq] at H;obtain ⟨rfl,rfl⟩:=H;(go_enter Try.func46,Try.ntmps46);(go_wp2);(go_ret2);exact ⟨by first|rfl|(simp;done)|(simp [*];done),by repeat (first|exact Drawn0.refl _|apply Drawn0.step)⟩);(·rw [if_neg c5] at H;have c5b0:=decide_eq_false c5;clear c5;simp only [Option.some.injEq,Prod.mk.injEq] at H;obtain ⟨rfl,rfl⟩:=H;(go_enter Try.func46,Try.ntmps46);(go_wp2);(go_ret2);exact ⟨by first|rfl|(simp;done)|(simp [*];done),by repeat (first|exact Drawn0.refl _|apply Drawn0.step)⟩)
/-! ### arith_FloorDiv: function 47 -/
def arith_FloorDiv.f (a0 : Int) (a1 : Int) : Option (Int × Int):=if a1 < 1 then (some (0,1)) else (if a1 = 0 then (none) else (if (Int.tmod a0 a1) < 0 then (some (wrap64 ((wrap64 (Int.tdiv a0 a1)) - 1),0)) else (some (wrap64 (Int.tdiv a0 a1),0))))
set_option maxHeartbeats 8000000 in
set_option maxRecDepth 100000 in
theorem arith_FloorDiv.calls (a0 : Int) (a1 : Int) (r1 : Int) (r2 : Int) (w : World) (h : arith_FloorDiv.f a0 a1 = some (r1,r2)) :
  Calls Try.prog 47 #[.int .i64 a0,.int .i64 a1] w fun e w' => e = .returned (.tuple #[.int .i64 r1,.int .i64 r2]) ∧ Drawn0 w w':=by
 have H : (if a1 < 1 then (some (0,1)) else (if a1 = 0 then (none) else (if (Int.tmod a0 a1) < 0 then (some (wrap64 ((wrap64 (Int.tdiv a0 a1)) - 1),0)) else (some (wrap64 (Int.tdiv a0 a1),0))))) = some (r1,r2):=h
 clear h
 by_cases c3 : a1 < 1
 ·rw [if_pos c3] at H;have c3b0:=decide_eq_true c3;clear c3;simp only [Option.some.injEq,Prod.mk.injEq] at H;obtain ⟨rfl,rfl⟩:=H;(go_enter Try.func47,Try.ntmps47);(go_wp2);(go_ret2);exact ⟨by first|rfl|(simp;done)|(simp [*];done),by repeat (first|exact Drawn0.refl _|apply Drawn0.step)⟩
 ·rw [if_neg c3] at H
  have c3b0:=decide_eq_false c3;clear c3
  by_cases c4 : a1 = 0
  ·rw [if_pos c4] at H;(simp at H)
  ·rw [if_neg c4] at H
   have c4b0 : (a1 == 0) = false:=beq_eq_false_iff_ne.mpr c4;have c4b1 : (a1 != 0) = true:=bne_iff_ne.mpr c4
   by_cases c5 : (Int.tmod a0 a1) < 0
   (·rw [if_pos c5] at H;have c5b0:=decide_eq_true c5;clear c5;simp only [Option.some.injEq,Prod.mk.injEq] at H;obtain ⟨rfl,rfl⟩:=H;(go_enter Try.func47,Try.ntmps47);(go_wp2);(go_ret2);exact ⟨by first|rfl|(simp;done)|(simp [*];done),by repeat (first|exact Drawn0.refl _|apply Drawn0.step)⟩);(·rw [if_neg c5] at H;have c5b0:=decide_eq_false c5;clear c5;simp only [Option.some.injEq,Prod.mk.injEq] at H;obtain ⟨rfl,rfl⟩:=H;(go_enter Try.func47,Try.ntmps47);(go_wp2);(go_ret2);exact ⟨by first|rfl|(simp;done)|(simp [*];done),by repeat (first|exact Drawn0.refl _|apply Drawn0.step)⟩)
end Go.Proofs.Ytgbcgbfoejkieaa.PAll
