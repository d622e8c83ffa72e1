-- Packed by wip/tools/pack.py of this session out of what plugprint.py and the kit's print wrote. Lean checks it.
import Derived.Test.YtpclhbcflkncnaaAS
namespace Go.Proofs.Ytpclhbcflkncnaa.PAll
open Go.RowKit Go.Proofs.YtpclhbcflkncnaaW.PrintWords Go.Proofs.YtpclhbcflkncnaaW.PrintLast Go.Proofs.YtpclhbcflkncnaaW.PrintMore
attribute [local go_sem] max2_int min2_int max_two min_two max_three min_three max_four min_four
set_option linter.unusedVariables false
set_option linter.unusedSimpArgs false
/-! ### diff_zero: function 55 -/
def diff_zero.f (a0_0 : Int) (a0_1 : Int) (l0_2 : List Int) (l0_3 : List Int) : Option (Bool):=if a0_0 = 0 then (if a0_1 = 0 then (if (l0_2.length : Int) = 0 then (some ((l0_3.length : Int) == 0)) else (some false)) else (some false)) else (some false)
set_option maxHeartbeats 8000000 in
set_option maxRecDepth 100000 in
theorem diff_zero.calls (a0_0 : Int) (a0_1 : Int) (A0_2 : Option Addr) (c0_2 : Nat) (l0_2 : List Int) (A0_3 : Option Addr) (c0_3 : Nat) (l0_3 : List Int) (r : Bool) (w : World) (hr0_2 : Kd.C (Kd.int .i64) w A0_2 l0_2.length l0_2) (hc0_2 : l0_2.length ≤ c0_2) (hr0_3 : Kd.C (Kd.int .i64) w A0_3 l0_3.length l0_3) (hc0_3 : l0_3.length ≤ c0_3) (h : diff_zero.f a0_0 a0_1 l0_2 l0_3 = some r) :
  Calls Try.prog 55 #[.agg #[.int .i64 a0_0,.int .i64 a0_1,.slice A0_2 l0_2.length c0_2,.slice A0_3 l0_3.length c0_3]] w fun e w' => e = .returned (.bool r) ∧ Below w.heap.size w w':=by
 have hu28:=Try.underlying28
 have HR0_2:=am_ hr0_2
 have HC0_2:=am_ hc0_2
 clear hr0_2 hc0_2
 have HR0_3:=am_ hr0_3
 have HC0_3:=am_ hc0_3
 clear hr0_3 hc0_3
 have HB:=am_ (Below.refl w.heap.size w)
 have H : (if a0_0 = 0 then (if a0_1 = 0 then (if (l0_2.length : Int) = 0 then (some ((l0_3.length : Int) == 0)) else (some false)) else (some false)) else (some false)) = some r:=h
 clear h
 by_cases c2 : a0_0 = 0
 ·rw [if_pos c2] at H
  have c2b0 : (a0_0 == 0) = true:=beq_iff_eq.mpr c2;have c2b1 : (a0_0 != 0) = false:=bne_eq_false_iff_eq.mpr c2;clear c2
  by_cases c3 : a0_1 = 0
  ·rw [if_pos c3] at H
   have c3b0 : (a0_1 == 0) = true:=beq_iff_eq.mpr c3;have c3b1 : (a0_1 != 0) = false:=bne_eq_false_iff_eq.mpr c3;clear c3
   by_cases c4 : (l0_2.length : Int) = 0
   (·rw [if_pos c4] at H;(have c4b0 : ((l0_2.length : Int) == 0) = true:=beq_iff_eq.mpr c4;have c4b1 : ((l0_2.length : Int) != 0) = false:=bne_eq_false_iff_eq.mpr c4;clear c4;obtain rfl:=Option.some.inj H;(go_enter Try.func55,Try.ntmps55);(go_wp2_with (first|((with_reducible refine gd_ (N:=1) rfl ?_);(try (refine gate_guard (by rfl) ?_;dsimp only));refine bx2_ 1 #[.int .i64 a0_0,.int .i64 a0_1,.slice A0_2 l0_2.length c0_2,.slice A0_3 l0_3.length c0_3] 28 (fun gb225 hg w5 hbox hb => ?_);have n0_:=hb_ HB hb;have n1_:=am_ (hbox);have n2_ : Aside0 (w.heap.size ≤ gb225):=gz_ hg HB;have n3_ : Aside0 (w.heap.size ≤ gb225):=gz_ hg HB;revert n0_ n1_ n2_ n3_;clear HB;intro HB BK225 GW225 GE225;clear hb hbox hg;have hcz6_0:=cA_ BK225;have hfz6_0:=fA_ BK225)));(go_ret);(exact ⟨by first|rfl|(simp [errW_none,errW_some] <;> rfl)|(simp [*,errW_none,errW_some] <;> rfl),hB_ HB⟩)));(·rw [if_neg c4] at H;(have c4b0 : ((l0_2.length : Int) == 0) = false:=beq_eq_false_iff_ne.mpr c4;have c4b1 : ((l0_2.length : Int) != 0) = true:=bne_iff_ne.mpr c4;have c4b2 : ¬ (l0_2 = []):=fun h_ => c4 (by rw [h_];rfl);obtain rfl:=Option.some.inj H;(go_enter Try.func55,Try.ntmps55);(go_wp2_with (first|((with_reducible refine gd_ (N:=1) rfl ?_);(try (refine gate_guard (by rfl) ?_;dsimp only));refine bx2_ 1 #[.int .i64 a0_0,.int .i64 a0_1,.slice A0_2 l0_2.length c0_2,.slice A0_3 l0_3.length c0_3] 28 (fun gb225 hg w7 hbox hb => ?_);have n0_:=hb_ HB hb;have n1_:=am_ (hbox);have n2_ : Aside0 (w.heap.size ≤ gb225):=gz_ hg HB;have n3_ : Aside0 (w.heap.size ≤ gb225):=gz_ hg HB;revert n0_ n1_ n2_ n3_;clear HB;intro HB BK225 GW225 GE225;clear hb hbox hg;have hcz8_0:=cA_ BK225;have hfz8_0:=fA_ BK225)));(go_ret);(exact ⟨by first|rfl|(simp [errW_none,errW_some] <;> rfl)|(simp [*,errW_none,errW_some] <;> rfl),hB_ HB⟩)))
  ·rw [if_neg c3] at H;(have c3b0 : (a0_1 == 0) = false:=beq_eq_false_iff_ne.mpr c3;have c3b1 : (a0_1 != 0) = true:=bne_iff_ne.mpr c3;obtain rfl:=Option.some.inj H;(go_enter Try.func55,Try.ntmps55);(go_wp2_with (first|((with_reducible refine gd_ (N:=1) rfl ?_);(try (refine gate_guard (by rfl) ?_;dsimp only));refine bx2_ 1 #[.int .i64 a0_0,.int .i64 a0_1,.slice A0_2 l0_2.length c0_2,.slice A0_3 l0_3.length c0_3] 28 (fun gb225 hg w9 hbox hb => ?_);have n0_:=hb_ HB hb;have n1_:=am_ (hbox);have n2_ : Aside0 (w.heap.size ≤ gb225):=gz_ hg HB;have n3_ : Aside0 (w.heap.size ≤ gb225):=gz_ hg HB;revert n0_ n1_ n2_ n3_;clear HB;intro HB BK225 GW225 GE225;clear hb hbox hg;have hcz10_0:=cA_ BK225;have hfz10_0:=fA_ BK225)));(go_ret);(exact ⟨by first|rfl|(simp [errW_none,errW_some] <;> rfl)|(simp [*,errW_none,errW_some] <;> rfl),hB_ HB⟩))
 ·rw [if_neg c2] at H;(have c2b0 : (a0_0 == 0) = false:=beq_eq_false_iff_ne.mpr c2;have c2b1 : (a0_0 != 0) = true:=bne_iff_ne.mpr c2;obtain rfl:=Option.some.inj H;(go_enter Try.func55,Try.ntmps55);(go_wp2_with (first|((with_reducible refine gd_ (N:=1) rfl ?_);(try (refine gate_guard (by rfl) ?_;dsimp only));refine bx2_ 1 #[.int .i64 a0_0,.int .i64 a0_1,.slice A0_2 l0_2.length c0_2,.slice A0_3 l0_3.length c0_3] 28 (fun gb225 hg w11 hbox hb => ?_);have n0_:=hb_ HB hb;have n1_:=am_ (hbox);have n2_ : Aside0 (w.heap.size ≤ gb225):=gz_ hg HB;have n3_ : Aside0 (w.heap.size ≤ gb225):=gz_ hg HB;revert n0_ n1_ n2_ n3_;clear HB;intro HB BK225 GW225 GE225;clear hb hbox hg;have hcz12_0:=cA_ BK225;have hfz12_0:=fA_ BK225)));(go_ret);(exact ⟨by first|rfl|(simp [errW_none,errW_some] <;> rfl)|(simp [*,errW_none,errW_some] <;> rfl),hB_ HB⟩))
end Go.Proofs.Ytpclhbcflkncnaa.PAll
