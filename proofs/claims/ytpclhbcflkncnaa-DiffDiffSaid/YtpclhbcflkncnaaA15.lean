-- Packed by wip/tools/pack.py of this session out of what plugprint.py and the kit's print wrote. Lean checks it.
import Derived.Test.YtpclhbcflkncnaaAS
namespace Go.Proofs.Ytpclhbcflkncnaa.PAll
open Go.RowKit Go.Proofs.YtpclhbcflkncnaaW.PrintWords Go.Proofs.YtpclhbcflkncnaaW.PrintLast Go.Proofs.YtpclhbcflkncnaaW.PrintMore
attribute [local go_sem] max2_int min2_int max_two min_two max_three min_three max_four min_four
set_option linter.unusedVariables false
set_option linter.unusedSimpArgs false
/-! ### railplanref41_ValidTrip: function 35 -/
def railplanref41_ValidTrip.f (a0_0 : Int) (a0_1 : Int) (l0_2 : List Int) (l0_3 : List Int) : Option (Bool):=if a0_0 ≥ 0 then (if a0_1 ≥ 0 then (if (l0_2.length : Int) ≥ 1 then (if (l0_2.length : Int) ≤ 12 then (if (l0_3.length : Int) = (l0_2.length : Int) then (if 0 < (l0_2.length : Int) then (some (decide ((rd l0_2 0) ≥ 0))) else (none)) else (some false)) else (some false)) else (some false)) else (some false)) else (some false)
set_option maxHeartbeats 8000000 in
set_option maxRecDepth 100000 in
theorem railplanref41_ValidTrip.calls (a0_0 : Int) (a0_1 : Int) (A0_2 : Option Addr) (c0_2 : Nat) (l0_2 : List Int) (A0_3 : Option Addr) (c0_3 : Nat) (l0_3 : List Int) (r : Bool) (w : World) (hr0_2 : Kd.C (Kd.int .i64) w A0_2 l0_2.length l0_2) (hc0_2 : l0_2.length ≤ c0_2) (hr0_3 : Kd.C (Kd.int .i64) w A0_3 l0_3.length l0_3) (hc0_3 : l0_3.length ≤ c0_3) (h : railplanref41_ValidTrip.f a0_0 a0_1 l0_2 l0_3 = some r) :
  Calls Try.prog 35 #[.agg #[.int .i64 a0_0,.int .i64 a0_1,.slice A0_2 l0_2.length c0_2,.slice A0_3 l0_3.length c0_3]] w fun e w' => e = .returned (.bool r) ∧ Below w.heap.size w w':=by
 have hu28:=Try.underlying28
 have HR0_2:=am_ hr0_2
 have HC0_2:=am_ hc0_2
 clear hr0_2 hc0_2
 have HR0_3:=am_ hr0_3
 have HC0_3:=am_ hc0_3
 clear hr0_3 hc0_3
 have HB:=am_ (Below.refl w.heap.size w)
 have H : (if a0_0 ≥ 0 then (if a0_1 ≥ 0 then (if (l0_2.length : Int) ≥ 1 then (if (l0_2.length : Int) ≤ 12 then (if (l0_3.length : Int) = (l0_2.length : Int) then (if 0 < (l0_2.length : Int) then (some (decide ((rd l0_2 0) ≥ 0))) else (none)) else (some false)) else (some false)) else (some false)) else (some false)) else (some false)) = some r:=h
 clear h
 by_cases c2 : a0_0 ≥ 0
 ·rw [if_pos c2] at H
  have c2b0:=decide_eq_true c2;clear c2
  by_cases c3 : a0_1 ≥ 0
  ·rw [if_pos c3] at H
   have c3b0:=decide_eq_true c3;clear c3
   by_cases c4 : (l0_2.length : Int) ≥ 1
   ·rw [if_pos c4] at H
    have c4b0:=decide_eq_true c4;have c4b1 : decide (1 ≤ l0_2.length) = true:=decide_eq_true (by omega);clear c4
    by_cases c5 : (l0_2.length : Int) ≤ 12
    ·rw [if_pos c5] at H
     have c5b0:=decide_eq_true c5;have c5b1 : decide (l0_2.length ≤ 12) = true:=decide_eq_true (by omega);clear c5
     by_cases c6 : (l0_3.length : Int) = (l0_2.length : Int)
     ·rw [if_pos c6] at H
      have c6b0 : ((l0_3.length : Int) == (l0_2.length : Int)) = true:=beq_iff_eq.mpr c6;have c6b1 : ((l0_3.length : Int) != (l0_2.length : Int)) = false:=bne_eq_false_iff_eq.mpr c6;(have c6b2 : (l0_3.length == l0_2.length) = true:=by first|simpa using c6|(simp at c6 ⊢;omega));clear c6
      by_cases c7 : 0 < (l0_2.length : Int)
      (·rw [if_pos c7] at H;(have c7b0:=decide_eq_true c7;have c7b1 : decide (0 < l0_2.length) = true:=decide_eq_true (by omega);clear c7;obtain rfl:=Option.some.inj H;(go_enter Try.func35,Try.ntmps35);(go_wp2_with (first|((with_reducible refine gd_ (N:=1) rfl ?_);(try (refine gate_guard (by rfl) ?_;dsimp only));refine bx2_ 1 #[.int .i64 a0_0,.int .i64 a0_1,.slice A0_2 l0_2.length c0_2,.slice A0_3 l0_3.length c0_3] 28 (fun gb383 hg w8 hbox hb => ?_);have n0_:=hb_ HB hb;have n1_:=am_ (hbox);have n2_ : Aside0 (w.heap.size ≤ gb383):=gz_ hg HB;have n3_ : Aside0 (w.heap.size ≤ gb383):=gz_ hg HB;revert n0_ n1_ n2_ n3_;clear HB;intro HB BK383 GW383 GE383;clear hb hbox hg;have hcz9_0:=cA_ BK383;have hfz9_0:=fA_ BK383;have p384 : 0 ≤ (0 : Int):=(by omega);have q384:=de_ (0 < (l0_2.length : Int));obtain ⟨ad384,e384,hx384_0⟩:=Kd.at_int HR0_2.out 0 p384 q384;cases e384;have qi384 : (0 < l0_2.length) = True:=eq_true (by omega);(try rw [show ((0 : Int)).toNat = 0 from rfl] at hx384_0);(try rw [Addr.add_zero'] at hx384_0);replace hx384_0:=cl_ HB hx384_0;replace p384:=eq_true p384;replace q384:=eq_true q384)));(go_ret);(exact ⟨by first|rfl|(simp [errW_none,errW_some] <;> rfl)|(simp [*,errW_none,errW_some] <;> rfl),hB_ HB⟩)));(·rw [if_neg c7] at H;(simp at H))
     ·rw [if_neg c6] at H;(have c6b0 : ((l0_3.length : Int) == (l0_2.length : Int)) = false:=beq_eq_false_iff_ne.mpr c6;have c6b1 : ((l0_3.length : Int) != (l0_2.length : Int)) = true:=bne_iff_ne.mpr c6;(have c6b2 : (l0_3.length == l0_2.length) = false:=by first|simpa using c6|(simp at c6 ⊢;omega));obtain rfl:=Option.some.inj H;(go_enter Try.func35,Try.ntmps35);(go_wp2_with (first|((with_reducible refine gd_ (N:=1) rfl ?_);(try (refine gate_guard (by rfl) ?_;dsimp only));refine bx2_ 1 #[.int .i64 a0_0,.int .i64 a0_1,.slice A0_2 l0_2.length c0_2,.slice A0_3 l0_3.length c0_3] 28 (fun gb383 hg w10 hbox hb => ?_);have n0_:=hb_ HB hb;have n1_:=am_ (hbox);have n2_ : Aside0 (w.heap.size ≤ gb383):=gz_ hg HB;have n3_ : Aside0 (w.heap.size ≤ gb383):=gz_ hg HB;revert n0_ n1_ n2_ n3_;clear HB;intro HB BK383 GW383 GE383;clear hb hbox hg;have hcz11_0:=cA_ BK383;have hfz11_0:=fA_ BK383)));(go_ret);(exact ⟨by first|rfl|(simp [errW_none,errW_some] <;> rfl)|(simp [*,errW_none,errW_some] <;> rfl),hB_ HB⟩))
    ·rw [if_neg c5] at H;(have c5b0:=decide_eq_false c5;have c5b1 : decide (l0_2.length ≤ 12) = false:=decide_eq_false (by omega);clear c5;obtain rfl:=Option.some.inj H;(go_enter Try.func35,Try.ntmps35);(go_wp2_with (first|((with_reducible refine gd_ (N:=1) rfl ?_);(try (refine gate_guard (by rfl) ?_;dsimp only));refine bx2_ 1 #[.int .i64 a0_0,.int .i64 a0_1,.slice A0_2 l0_2.length c0_2,.slice A0_3 l0_3.length c0_3] 28 (fun gb383 hg w12 hbox hb => ?_);have n0_:=hb_ HB hb;have n1_:=am_ (hbox);have n2_ : Aside0 (w.heap.size ≤ gb383):=gz_ hg HB;have n3_ : Aside0 (w.heap.size ≤ gb383):=gz_ hg HB;revert n0_ n1_ n2_ n3_;clear HB;intro HB BK383 GW383 GE383;clear hb hbox hg;have hcz13_0:=cA_ BK383;have hfz13_0:=fA_ BK383)));(go_ret);(exact ⟨by first|rfl|(simp [errW_none,errW_some] <;> rfl)|(simp [*,errW_none,errW_some] <;> rfl),hB_ HB⟩))
   ·rw [if_neg c4] at H;(have c4b0:=decide_eq_false c4;have c4b1 : decide (1 ≤ l0_2.length) = false:=decide_eq_false (by omega);clear c4;obtain rfl:=Option.some.inj H;(go_enter Try.func35,Try.ntmps35);(go_wp2_with (first|((with_reducible refine gd_ (N:=1) rfl ?_);(try (refine gate_guard (by rfl) ?_;dsimp only));refine bx2_ 1 #[.int .i64 a0_0,.int .i64 a0_1,.slice A0_2 l0_2.length c0_2,.slice A0_3 l0_3.length c0_3] 28 (fun gb383 hg w14 hbox hb => ?_);have n0_:=hb_ HB hb;have n1_:=am_ (hbox);have n2_ : Aside0 (w.heap.size ≤ gb383):=gz_ hg HB;have n3_ : Aside0 (w.heap.size ≤ gb383):=gz_ hg HB;revert n0_ n1_ n2_ n3_;clear HB;intro HB BK383 GW383 GE383;clear hb hbox hg;have hcz15_0:=cA_ BK383;have hfz15_0:=fA_ BK383)));(go_ret);(exact ⟨by first|rfl|(simp [errW_none,errW_some] <;> rfl)|(simp [*,errW_none,errW_some] <;> rfl),hB_ HB⟩))
  ·rw [if_neg c3] at H;(have c3b0:=decide_eq_false c3;clear c3;obtain rfl:=Option.some.inj H;(go_enter Try.func35,Try.ntmps35);(go_wp2_with (first|((with_reducible refine gd_ (N:=1) rfl ?_);(try (refine gate_guard (by rfl) ?_;dsimp only));refine bx2_ 1 #[.int .i64 a0_0,.int .i64 a0_1,.slice A0_2 l0_2.length c0_2,.slice A0_3 l0_3.length c0_3] 28 (fun gb383 hg w16 hbox hb => ?_);have n0_:=hb_ HB hb;have n1_:=am_ (hbox);have n2_ : Aside0 (w.heap.size ≤ gb383):=gz_ hg HB;have n3_ : Aside0 (w.heap.size ≤ gb383):=gz_ hg HB;revert n0_ n1_ n2_ n3_;clear HB;intro HB BK383 GW383 GE383;clear hb hbox hg;have hcz17_0:=cA_ BK383;have hfz17_0:=fA_ BK383)));(go_ret);(exact ⟨by first|rfl|(simp [errW_none,errW_some] <;> rfl)|(simp [*,errW_none,errW_some] <;> rfl),hB_ HB⟩))
 ·rw [if_neg c2] at H;(have c2b0:=decide_eq_false c2;clear c2;obtain rfl:=Option.some.inj H;(go_enter Try.func35,Try.ntmps35);(go_wp2_with (first|((with_reducible refine gd_ (N:=1) rfl ?_);(try (refine gate_guard (by rfl) ?_;dsimp only));refine bx2_ 1 #[.int .i64 a0_0,.int .i64 a0_1,.slice A0_2 l0_2.length c0_2,.slice A0_3 l0_3.length c0_3] 28 (fun gb383 hg w18 hbox hb => ?_);have n0_:=hb_ HB hb;have n1_:=am_ (hbox);have n2_ : Aside0 (w.heap.size ≤ gb383):=gz_ hg HB;have n3_ : Aside0 (w.heap.size ≤ gb383):=gz_ hg HB;revert n0_ n1_ n2_ n3_;clear HB;intro HB BK383 GW383 GE383;clear hb hbox hg;have hcz19_0:=cA_ BK383;have hfz19_0:=fA_ BK383)));(go_ret);(exact ⟨by first|rfl|(simp [errW_none,errW_some] <;> rfl)|(simp [*,errW_none,errW_some] <;> rfl),hB_ HB⟩))
end Go.Proofs.Ytpclhbcflkncnaa.PAll
