-- Packed by wip/tools/pack.py of this session out of what plugprint.py and the kit's print wrote. Lean checks it.
import Derived.Test.YtpclhbcflkncnaaAS
namespace Go.Proofs.Ytpclhbcflkncnaa.PAll
open Go.RowKit Go.Proofs.YtpclhbcflkncnaaW.PrintWords Go.Proofs.YtpclhbcflkncnaaW.PrintLast Go.Proofs.YtpclhbcflkncnaaW.PrintMore
attribute [local go_sem] max2_int min2_int max_two min_two max_three min_three max_four min_four
set_option linter.unusedVariables false
set_option linter.unusedSimpArgs false
/-! ### diff_limited: function 44 -/
def diff_limited.f (l0 : List (S28)) : Option ((List (S28)) × Int):=if (l0.length : Int) > 1024 then (some (([] : List (S28)),7)) else (some (l0,0))
set_option maxHeartbeats 8000000 in
set_option maxRecDepth 100000 in
theorem diff_limited.calls (P0_ : Nat → Prop) (A0 : Option Addr) (c0 : Nat) (l0 : List (S28)) (r1 : List (S28)) (r2 : Int) (w : World) (hs0 : Kd.V k28 28 w w.heap.size (fun k_ => P0_ k_) (.slice A0 l0.length c0) l0) (h : diff_limited.f l0 = some (r1,r2)) :
  Calls Try.prog 44 #[.slice A0 l0.length c0] w fun e w' => ∃ v0_ : Value,e = .returned (.tuple #[v0_,.int .i64 r2]) ∧ Kd.V k28 28 w' w.heap.size (fun k_ => (P0_ k_ ∨ w.heap.size ≤ k_)) v0_ r1 ∧ Below w.heap.size w w':=by
 have HO0:=am_ (show Kd.V k28 28 w w.heap.size (fun k_ => (P0_ k_ ∨ w.heap.size ≤ k_)) (.slice A0 l0.length c0) l0 from Kd.V_mono hs0 (fun k_ hk => .inl hk))
 have HB:=am_ (Below.refl w.heap.size w)
 have H : (if (l0.length : Int) > 1024 then (some (([] : List (S28)),7)) else (some (l0,0))) = some (r1,r2):=h
 clear h
 by_cases c2 : (l0.length : Int) > 1024
 ·rw [if_pos c2] at H;(have c2b0:=decide_eq_true c2;have c2b1 : decide (1024 < l0.length) = true:=decide_eq_true (by omega);clear c2;simp only [Option.some.injEq,Prod.mk.injEq] at H;obtain ⟨rfl,rfl⟩:=H;(go_enter Try.func44,Try.ntmps44);(go_wp2);(go_ret2);(exact ⟨_,by first|rfl|(simp [errW_none,errW_some] <;> rfl)|(simp [*,errW_none,errW_some] <;> rfl),by exact Kd.V_nil _ _ _ _ _,hB_ HB⟩))
 ·rw [if_neg c2] at H;(have c2b0:=decide_eq_false c2;have c2b1 : decide (1024 < l0.length) = false:=decide_eq_false (by omega);clear c2;simp only [Option.some.injEq,Prod.mk.injEq] at H;obtain ⟨rfl,rfl⟩:=H;(go_enter Try.func44,Try.ntmps44);(go_wp2);(go_ret2);(exact ⟨_,by first|rfl|(simp [errW_none,errW_some] <;> rfl)|(simp [*,errW_none,errW_some] <;> rfl),by (with_reducible repeat (first|apply Kd.V_alloc|apply Kd.V_drewN|apply Kd.V_drew));exact HO0.out,hB_ HB⟩))
end Go.Proofs.Ytpclhbcflkncnaa.PAll
