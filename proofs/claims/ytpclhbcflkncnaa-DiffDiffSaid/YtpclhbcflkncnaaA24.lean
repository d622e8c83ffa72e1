-- Packed by wip/tools/pack.py of this session out of what plugprint.py and the kit's print wrote. Lean checks it.
import Derived.Test.YtpclhbcflkncnaaAS
import Derived.Test.YtpclhbcflkncnaaA20
namespace Go.Proofs.Ytpclhbcflkncnaa.PAll
open Go.RowKit Go.Proofs.YtpclhbcflkncnaaW.PrintWords Go.Proofs.YtpclhbcflkncnaaW.PrintLast Go.Proofs.YtpclhbcflkncnaaW.PrintMore
attribute [local go_sem] max2_int min2_int max_two min_two max_three min_three max_four min_four
set_option linter.unusedVariables false
set_option linter.unusedSimpArgs false
/-! ### railplanref41_SameEdit: function 40 -/
def railplanref41_SameEdit.f (k : Nat) (a0_0 : Int) (a0_1 : Int) (a0_2 : Int) (l0_3 : List Int) (l0_4 : List Int) (a0_5 : Int) (a0_6 : Int) (l0_7 : List Int) (l0_8 : List Int) (a1_0 : Int) (a1_1 : Int) (a1_2 : Int) (l1_3 : List Int) (l1_4 : List Int) (a1_5 : Int) (a1_6 : Int) (l1_7 : List Int) (l1_8 : List Int) : Option (Bool):=if a0_0 = a1_0 then ((railplanref41_SameTrip.f k a0_1 a0_2 l0_3 l0_4 a1_1 a1_2 l1_3 l1_4).bind fun t542 => (if t542 = true then ((railplanref41_SameTrip.f k a0_5 a0_6 l0_7 l0_8 a1_5 a1_6 l1_7 l1_8).bind fun t543 => (some t543)) else (some false))) else (some false)
theorem railplanref41_SameEdit.mono : ∀ a0 a1 a2 a3 a4 a5 a6 a7 a8 a9 a10 a11 a12 a13 a14 a15 a16 a17 k,LeO (railplanref41_SameEdit.f k a0 a1 a2 a3 a4 a5 a6 a7 a8 a9 a10 a11 a12 a13 a14 a15 a16 a17) (railplanref41_SameEdit.f (k + 1) a0 a1 a2 a3 a4 a5 a6 a7 a8 a9 a10 a11 a12 a13 a14 a15 a16 a17):=by
 intro a0 a1 a2 a3 a4 a5 a6 a7 a8 a9 a10 a11 a12 a13 a14 a15 a16 a17 k;(unfold railplanref41_SameEdit.f)
 repeat' first
   | (with_reducible exact railplanref41_SameTrip.mono _ _ _ _ _ _ _ _ _)
   | (with_reducible exact LeO.refl _)
   | (with_reducible exact LeO.none _)
   | (with_reducible refine LeO.ite ?_ ?_)
   | (with_reducible refine LeO.bind ?_ (fun _ => ?_))
   | exact railplanref41_SameTrip.mono _ _ _ _ _ _ _ _ _
   | exact LeO.none _
   | refine LeO.ite ?_ ?_
   | refine LeO.bind ?_ (fun _ => ?_)
set_option maxHeartbeats 8000000 in
set_option maxRecDepth 100000 in
theorem railplanref41_SameEdit.calls (k : Nat) (a0_0 : Int) (a0_1 : Int) (a0_2 : Int) (A0_3 : Option Addr) (c0_3 : Nat) (l0_3 : List Int) (A0_4 : Option Addr) (c0_4 : Nat) (l0_4 : List Int) (a0_5 : Int) (a0_6 : Int) (A0_7 : Option Addr) (c0_7 : Nat) (l0_7 : List Int) (A0_8 : Option Addr) (c0_8 : Nat) (l0_8 : List Int) (a1_0 : Int) (a1_1 : Int) (a1_2 : Int) (A1_3 : Option Addr) (c1_3 : Nat) (l1_3 : List Int) (A1_4 : Option Addr) (c1_4 : Nat) (l1_4 : List Int) (a1_5 : Int) (a1_6 : Int) (A1_7 : Option Addr) (c1_7 : Nat) (l1_7 : List Int) (A1_8 : Option Addr) (c1_8 : Nat) (l1_8 : List Int) (r : Bool) (w : World) (hr0_3 : Kd.C (Kd.int .i64) w A0_3 l0_3.length l0_3) (hc0_3 : l0_3.length ≤ c0_3) (hr0_4 : Kd.C (Kd.int .i64) w A0_4 l0_4.length l0_4) (hc0_4 : l0_4.length ≤ c0_4) (hr0_7 : Kd.C (Kd.int .i64) w A0_7 l0_7.length l0_7) (hc0_7 : l0_7.length ≤ c0_7) (hr0_8 : Kd.C (Kd.int .i64) w A0_8 l0_8.length l0_8) (hc0_8 : l0_8.length ≤ c0_8) (hr1_3 : Kd.C (Kd.int .i64) w A1_3 l1_3.length l1_3) (hc1_3 : l1_3.length ≤ c1_3) (hr1_4 : Kd.C (Kd.int .i64) w A1_4 l1_4.length l1_4) (hc1_4 : l1_4.length ≤ c1_4) (hr1_7 : Kd.C (Kd.int .i64) w A1_7 l1_7.length l1_7) (hc1_7 : l1_7.length ≤ c1_7) (hr1_8 : Kd.C (Kd.int .i64) w A1_8 l1_8.length l1_8) (hc1_8 : l1_8.length ≤ c1_8) (h : railplanref41_SameEdit.f k a0_0 a0_1 a0_2 l0_3 l0_4 a0_5 a0_6 l0_7 l0_8 a1_0 a1_1 a1_2 l1_3 l1_4 a1_5 a1_6 l1_7 l1_8 = some r) :
  Calls Try.prog 40 #[.agg #[.int .i64 a0_0,.int .i64 a0_1,.int .i64 a0_2,.slice A0_3 l0_3.length c0_3,.slice A0_4 l0_4.length c0_4,.int .i64 a0_5,.int .i64 a0_6,.slice A0_7 l0_7.length c0_7,.slice A0_8 l0_8.length c0_8],.agg #[.int .i64 a1_0,.int .i64 a1_1,.int .i64 a1_2,.slice A1_3 l1_3.length c1_3,.slice A1_4 l1_4.length c1_4,.int .i64 a1_5,.int .i64 a1_6,.slice A1_7 l1_7.length c1_7,.slice A1_8 l1_8.length c1_8]] w fun e w' => e = .returned (.bool r) ∧ Below w.heap.size w w':=by
 have hu40:=Try.underlying40
 have hu28:=Try.underlying28
 have HR0_3:=am_ hr0_3
 have HC0_3:=am_ hc0_3
 clear hr0_3 hc0_3
 have HR0_4:=am_ hr0_4
 have HC0_4:=am_ hc0_4
 clear hr0_4 hc0_4
 have HR0_7:=am_ hr0_7
 have HC0_7:=am_ hc0_7
 clear hr0_7 hc0_7
 have HR0_8:=am_ hr0_8
 have HC0_8:=am_ hc0_8
 clear hr0_8 hc0_8
 have HR1_3:=am_ hr1_3
 have HC1_3:=am_ hc1_3
 clear hr1_3 hc1_3
 have HR1_4:=am_ hr1_4
 have HC1_4:=am_ hc1_4
 clear hr1_4 hc1_4
 have HR1_7:=am_ hr1_7
 have HC1_7:=am_ hc1_7
 clear hr1_7 hc1_7
 have HR1_8:=am_ hr1_8
 have HC1_8:=am_ hc1_8
 clear hr1_8 hc1_8
 have HB:=am_ (Below.refl w.heap.size w)
 have H : (if a0_0 = a1_0 then ((railplanref41_SameTrip.f k a0_1 a0_2 l0_3 l0_4 a1_1 a1_2 l1_3 l1_4).bind fun t542 => (if t542 = true then ((railplanref41_SameTrip.f k a0_5 a0_6 l0_7 l0_8 a1_5 a1_6 l1_7 l1_8).bind fun t543 => (some t543)) else (some false))) else (some false)) = some r:=h
 clear h
 by_cases c3 : a0_0 = a1_0
 ·rw [if_pos c3] at H
  have c3b0 : (a0_0 == a1_0) = true:=beq_iff_eq.mpr c3;have c3b1 : (a0_0 != a1_0) = false:=bne_eq_false_iff_eq.mpr c3;clear c3;replace H:=be_ H;obtain ⟨t542,A40,H⟩:=H;have A4:=am_ A40;clear A40
  by_cases c5 : t542 = true
  (·subst c5;(rw [if_pos rfl] at H;replace H:=be_ H;obtain ⟨t543,A60,H⟩:=H;have A6:=am_ A60;clear A60;obtain rfl:=Option.some.inj H;(go_enter Try.func40,Try.ntmps40);(go_wp2_with (first|((with_reducible refine gd_ (N:=2) rfl ?_);refine bx2_ 2 #[.int .i64 a0_0,.int .i64 a0_1,.int .i64 a0_2,.slice A0_3 l0_3.length c0_3,.slice A0_4 l0_4.length c0_4,.int .i64 a0_5,.int .i64 a0_6,.slice A0_7 l0_7.length c0_7,.slice A0_8 l0_8.length c0_8] 40 (fun gb540 hg w7 hbox hb => ?_);have n0_:=hb_ HB hb;have n1_:=am_ (hbox);have n2_ : Aside0 (w.heap.size ≤ gb540):=gz_ hg HB;have n3_ : Aside0 (w.heap.size ≤ gb540):=gz_ hg HB;revert n0_ n1_ n2_ n3_;clear HB;intro HB BK540 GW540 GE540;clear hb hbox hg)|((with_reducible refine gd_ (N:=3) rfl ?_);refine bx2_ 3 #[.int .i64 a1_0,.int .i64 a1_1,.int .i64 a1_2,.slice A1_3 l1_3.length c1_3,.slice A1_4 l1_4.length c1_4,.int .i64 a1_5,.int .i64 a1_6,.slice A1_7 l1_7.length c1_7,.slice A1_8 l1_8.length c1_8] 40 (fun gb541 hg w8 hbox hb => ?_);have n0_:=kb_ BK540 hb;have n1_:=hb_ HB hb;have n2_:=am_ (hbox);have n3_ : Aside0 (w.heap.size ≤ gb541):=gz_ hg HB;have n4_ : Aside0 (w.heap.size ≤ gb541):=gz_ hg HB;have n5_:=nl_ hg BK540;have n6_:=ng_ hg BK540;revert n0_ n1_ n2_ n3_ n4_ n5_ n6_;clear BK540 HB;intro BK540 HB BK541 GW541 GE541 NB540_541 NB541_540;clear hb hbox hg;have hnb9:=NB540_541.out;have hnc9:=NB541_540.out;have hcz10_0:=cA_ BK540;have hfz10_0:=fA_ BK540;have hcz11_0:=cA_ BK541;have hfz11_0:=fA_ BK541)|(go_at_call 25;(with_reducible refine (railplanref41_SameTrip.calls k a0_1 a0_2 _ _ l0_3 _ _ l0_4 a1_1 a1_2 _ _ l1_3 _ _ l1_4 true _ (cr_ (CB_ HR0_3.out HB.out)) HC0_3.out (cr_ (CB_ HR0_4.out HB.out)) HC0_4.out (cr_ (CB_ HR1_3.out HB.out)) HC1_3.out (cr_ (CB_ HR1_4.out HB.out)) HC1_4.out A4.out).mono ?_);rintro e w12 ⟨rfl,hb⟩;have n0_:=kb_ BK540 hb;have n1_:=kb_ BK541 hb;have n2_:=hb_ HB hb;revert n0_ n1_ n2_;clear BK540 BK541 HB;intro BK540 BK541 HB;(try clear hb);(try clear hb2);(try clear hk);(try clear hi);have hcz13_0:=cA_ BK540;have hfz13_0:=fA_ BK540;have hcz14_0:=cA_ BK541;have hfz14_0:=fA_ BK541)|(go_at_call 25;(with_reducible refine (railplanref41_SameTrip.calls k a0_5 a0_6 _ _ l0_7 _ _ l0_8 a1_5 a1_6 _ _ l1_7 _ _ l1_8 t543 _ (cr_ (CB_ HR0_7.out HB.out)) HC0_7.out (cr_ (CB_ HR0_8.out HB.out)) HC0_8.out (cr_ (CB_ HR1_7.out HB.out)) HC1_7.out (cr_ (CB_ HR1_8.out HB.out)) HC1_8.out A6.out).mono ?_);rintro e w15 ⟨rfl,hb⟩;have n0_:=kb_ BK540 hb;have n1_:=kb_ BK541 hb;have n2_:=hb_ HB hb;revert n0_ n1_ n2_;clear BK540 BK541 HB;intro BK540 BK541 HB;(try clear hb);(try clear hb2);(try clear hk);(try clear hi))));(go_ret);(exact ⟨by first|rfl|(simp [errW_none,errW_some] <;> rfl)|(simp [*,errW_none,errW_some] <;> rfl),hB_ HB⟩)));(·replace c5:=Bool.eq_false_iff.mpr c5;(subst c5;rw [if_neg (show ¬ (false = true) by decide)] at H;obtain rfl:=Option.some.inj H;(go_enter Try.func40,Try.ntmps40);(go_wp2_with (first|((with_reducible refine gd_ (N:=2) rfl ?_);refine bx2_ 2 #[.int .i64 a0_0,.int .i64 a0_1,.int .i64 a0_2,.slice A0_3 l0_3.length c0_3,.slice A0_4 l0_4.length c0_4,.int .i64 a0_5,.int .i64 a0_6,.slice A0_7 l0_7.length c0_7,.slice A0_8 l0_8.length c0_8] 40 (fun gb540 hg w16 hbox hb => ?_);have n0_:=hb_ HB hb;have n1_:=am_ (hbox);have n2_ : Aside0 (w.heap.size ≤ gb540):=gz_ hg HB;have n3_ : Aside0 (w.heap.size ≤ gb540):=gz_ hg HB;revert n0_ n1_ n2_ n3_;clear HB;intro HB BK540 GW540 GE540;clear hb hbox hg)|((with_reducible refine gd_ (N:=3) rfl ?_);refine bx2_ 3 #[.int .i64 a1_0,.int .i64 a1_1,.int .i64 a1_2,.slice A1_3 l1_3.length c1_3,.slice A1_4 l1_4.length c1_4,.int .i64 a1_5,.int .i64 a1_6,.slice A1_7 l1_7.length c1_7,.slice A1_8 l1_8.length c1_8] 40 (fun gb541 hg w17 hbox hb => ?_);have n0_:=kb_ BK540 hb;have n1_:=hb_ HB hb;have n2_:=am_ (hbox);have n3_ : Aside0 (w.heap.size ≤ gb541):=gz_ hg HB;have n4_ : Aside0 (w.heap.size ≤ gb541):=gz_ hg HB;have n5_:=nl_ hg BK540;have n6_:=ng_ hg BK540;revert n0_ n1_ n2_ n3_ n4_ n5_ n6_;clear BK540 HB;intro BK540 HB BK541 GW541 GE541 NB540_541 NB541_540;clear hb hbox hg;have hnb18:=NB540_541.out;have hnc18:=NB541_540.out;have hcz19_0:=cA_ BK540;have hfz19_0:=fA_ BK540;have hcz20_0:=cA_ BK541;have hfz20_0:=fA_ BK541)|(go_at_call 25;(with_reducible refine (railplanref41_SameTrip.calls k a0_1 a0_2 _ _ l0_3 _ _ l0_4 a1_1 a1_2 _ _ l1_3 _ _ l1_4 false _ (cr_ (CB_ HR0_3.out HB.out)) HC0_3.out (cr_ (CB_ HR0_4.out HB.out)) HC0_4.out (cr_ (CB_ HR1_3.out HB.out)) HC1_3.out (cr_ (CB_ HR1_4.out HB.out)) HC1_4.out A4.out).mono ?_);rintro e w21 ⟨rfl,hb⟩;have n0_:=kb_ BK540 hb;have n1_:=kb_ BK541 hb;have n2_:=hb_ HB hb;revert n0_ n1_ n2_;clear BK540 BK541 HB;intro BK540 BK541 HB;(try clear hb);(try clear hb2);(try clear hk);(try clear hi))));(go_ret);(exact ⟨by first|rfl|(simp [errW_none,errW_some] <;> rfl)|(simp [*,errW_none,errW_some] <;> rfl),hB_ HB⟩)))
 ·rw [if_neg c3] at H;(have c3b0 : (a0_0 == a1_0) = false:=beq_eq_false_iff_ne.mpr c3;have c3b1 : (a0_0 != a1_0) = true:=bne_iff_ne.mpr c3;obtain rfl:=Option.some.inj H;(go_enter Try.func40,Try.ntmps40);(go_wp2_with (first|((with_reducible refine gd_ (N:=2) rfl ?_);refine bx2_ 2 #[.int .i64 a0_0,.int .i64 a0_1,.int .i64 a0_2,.slice A0_3 l0_3.length c0_3,.slice A0_4 l0_4.length c0_4,.int .i64 a0_5,.int .i64 a0_6,.slice A0_7 l0_7.length c0_7,.slice A0_8 l0_8.length c0_8] 40 (fun gb540 hg w22 hbox hb => ?_);have n0_:=hb_ HB hb;have n1_:=am_ (hbox);have n2_ : Aside0 (w.heap.size ≤ gb540):=gz_ hg HB;have n3_ : Aside0 (w.heap.size ≤ gb540):=gz_ hg HB;revert n0_ n1_ n2_ n3_;clear HB;intro HB BK540 GW540 GE540;clear hb hbox hg)|((with_reducible refine gd_ (N:=3) rfl ?_);refine bx2_ 3 #[.int .i64 a1_0,.int .i64 a1_1,.int .i64 a1_2,.slice A1_3 l1_3.length c1_3,.slice A1_4 l1_4.length c1_4,.int .i64 a1_5,.int .i64 a1_6,.slice A1_7 l1_7.length c1_7,.slice A1_8 l1_8.length c1_8] 40 (fun gb541 hg w23 hbox hb => ?_);have n0_:=kb_ BK540 hb;have n1_:=hb_ HB hb;have n2_:=am_ (hbox);have n3_ : Aside0 (w.heap.size ≤ gb541):=gz_ hg HB;have n4_ : Aside0 (w.heap.size ≤ gb541):=gz_ hg HB;have n5_:=nl_ hg BK540;have n6_:=ng_ hg BK540;revert n0_ n1_ n2_ n3_ n4_ n5_ n6_;clear BK540 HB;intro BK540 HB BK541 GW541 GE541 NB540_541 NB541_540;clear hb hbox hg;have hnb24:=NB540_541.out;have hnc24:=NB541_540.out;have hcz25_0:=cA_ BK540;have hfz25_0:=fA_ BK540;have hcz26_0:=cA_ BK541;have hfz26_0:=fA_ BK541)));(go_ret);(exact ⟨by first|rfl|(simp [errW_none,errW_some] <;> rfl)|(simp [*,errW_none,errW_some] <;> rfl),hB_ HB⟩))
end Go.Proofs.Ytpclhbcflkncnaa.PAll
