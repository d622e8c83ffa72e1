-- Packed by wip/tools/pack.py of this session out of what plugprint.py and the kit's print wrote. Lean checks it.
import Derived.Test.YtgbcgbfoejkieaaIS
import Derived.Test.YtgbcgbfoejkieaaI17
import Derived.Test.YtgbcgbfoejkieaaI22
import Derived.Test.YtgbcgbfoejkieaaI23
namespace Go.Proofs.Ytgbcgbfoejkieaa.PAll
open Go.RowKit Go.Proofs.YtgbcgbfoejkieaaW.PrintWords Go.Proofs.YtgbcgbfoejkieaaW.PrintLast Go.Proofs.YtgbcgbfoejkieaaW.PrintMore
attribute [local go_sem] max2_int min2_int max_two min_two max_three min_three max_four min_four
set_option linter.unusedVariables false
set_option linter.unusedSimpArgs false
/-! ### railplanref13_Residue: function 51 -/
def railplanref13_Residue.f (k : Nat) (a0_0 : Int) (l0_1 : List (S60)) (l0_2 : List (S62)) (l1_0 : List Int) (l1_1 : List Int) : Option (Int):=(railplanref11_CheckCycle.f k a0_0 l0_1 l0_2 l1_0 l1_1).bind fun t487 => (if t487 = true then ((railplanref13_sums.f k a0_0 l0_1 l0_2 l1_0 l1_1).bind fun bt488 => ((railplanref1_Mod.f (wrap64 (-bt488.1)) a0_0).bind fun t491 => (some t491))) else (some 0))
theorem railplanref13_Residue.mono : ∀ a0 a1 a2 a3 a4 k,LeO (railplanref13_Residue.f k a0 a1 a2 a3 a4) (railplanref13_Residue.f (k + 1) a0 a1 a2 a3 a4):=by
 intro a0 a1 a2 a3 a4 k;(unfold railplanref13_Residue.f)
 repeat' first
   | (with_reducible exact railplanref11_CheckCycle.mono _ _ _ _ _ _)
   | (with_reducible exact railplanref13_sums.mono _ _ _ _ _ _)
   | (with_reducible exact LeO.refl _)
   | (with_reducible exact LeO.none _)
   | (with_reducible refine LeO.ite ?_ ?_)
   | (with_reducible refine LeO.bind ?_ (fun _ => ?_))
   | exact railplanref11_CheckCycle.mono _ _ _ _ _ _
   | exact railplanref13_sums.mono _ _ _ _ _ _
   | exact LeO.none _
   | refine LeO.ite ?_ ?_
   | refine LeO.bind ?_ (fun _ => ?_)
set_option maxHeartbeats 8000000 in
set_option maxRecDepth 100000 in
theorem railplanref13_Residue.calls (k : Nat) (a0_0 : Int) (A0_1 : Option Addr) (c0_1 : Nat) (l0_1 : List (S60)) (A0_2 : Option Addr) (c0_2 : Nat) (l0_2 : List (S62)) (A1_0 : Option Addr) (c1_0 : Nat) (l1_0 : List Int) (A1_1 : Option Addr) (c1_1 : Nat) (l1_1 : List Int) (r : Int) (w : World) (hr0_1 : Kd.C k60 w A0_1 l0_1.length l0_1) (hc0_1 : l0_1.length ≤ c0_1) (hr0_2 : Kd.C k62 w A0_2 l0_2.length l0_2) (hc0_2 : l0_2.length ≤ c0_2) (hr1_0 : Kd.C (Kd.int .i64) w A1_0 l1_0.length l1_0) (hc1_0 : l1_0.length ≤ c1_0) (hr1_1 : Kd.C (Kd.int .i64) w A1_1 l1_1.length l1_1) (hc1_1 : l1_1.length ≤ c1_1) (h : railplanref13_Residue.f k a0_0 l0_1 l0_2 l1_0 l1_1 = some r) :
  Calls Try.prog 51 #[.agg #[.int .i64 a0_0,.slice A0_1 l0_1.length c0_1,.slice A0_2 l0_2.length c0_2],.agg #[.slice A1_0 l1_0.length c1_0,.slice A1_1 l1_1.length c1_1]] w fun e w' => e = .returned (.int .i64 r) ∧ Below w.heap.size w w':=by
 have hu26:=Try.underlying26
 have hu32:=Try.underlying32
 have HR0_1:=am_ hr0_1
 have HC0_1:=am_ hc0_1
 clear hr0_1 hc0_1
 have HR0_2:=am_ hr0_2
 have HC0_2:=am_ hc0_2
 clear hr0_2 hc0_2
 have HR1_0:=am_ hr1_0
 have HC1_0:=am_ hc1_0
 clear hr1_0 hc1_0
 have HR1_1:=am_ hr1_1
 have HC1_1:=am_ hc1_1
 clear hr1_1 hc1_1
 have HB:=am_ (Below.refl w.heap.size w)
 have H : ((railplanref11_CheckCycle.f k a0_0 l0_1 l0_2 l1_0 l1_1).bind fun t487 => (if t487 = true then ((railplanref13_sums.f k a0_0 l0_1 l0_2 l1_0 l1_1).bind fun bt488 => ((railplanref1_Mod.f (wrap64 (-bt488.1)) a0_0).bind fun t491 => (some t491))) else (some 0))) = some r:=h
 clear h
 replace H:=be_ H
 obtain ⟨t487,A30,H⟩:=H
 have A3:=am_ A30
 clear A30
 by_cases c4 : t487 = true
 ·subst c4;(rw [if_pos rfl] at H;replace H:=be_ H;obtain ⟨⟨t488,t489,t490⟩,A50,H⟩:=H;(try dsimp only at H);have A5:=am_ A50;clear A50;replace H:=be_ H;obtain ⟨t491,A60,H⟩:=H;have A6:=am_ A60;clear A60;obtain rfl:=Option.some.inj H;(go_enter Try.func51,Try.ntmps51);(go_wp2_with (first|((with_reducible refine gd_ (N:=2) rfl ?_);refine bx2_ 2 #[.int .i64 a0_0,.slice A0_1 l0_1.length c0_1,.slice A0_2 l0_2.length c0_2] 26 (fun gb485 hg w7 hbox hb => ?_);have n0_:=hb_ HB hb;have n1_:=am_ (hbox);have n2_ : Aside0 (w.heap.size ≤ gb485):=gz_ hg HB;have n3_ : Aside0 (w.heap.size ≤ gb485):=gz_ hg HB;revert n0_ n1_ n2_ n3_;clear HB;intro HB BK485 GW485 GE485;clear hb hbox hg)|((with_reducible refine gd_ (N:=3) rfl ?_);refine bx2_ 3 #[.slice A1_0 l1_0.length c1_0,.slice A1_1 l1_1.length c1_1] 32 (fun gb486 hg w8 hbox hb => ?_);have n0_:=kb_ BK485 hb;have n1_:=hb_ HB hb;have n2_:=am_ (hbox);have n3_ : Aside0 (w.heap.size ≤ gb486):=gz_ hg HB;have n4_ : Aside0 (w.heap.size ≤ gb486):=gz_ hg HB;have n5_:=nl_ hg BK485;have n6_:=ng_ hg BK485;revert n0_ n1_ n2_ n3_ n4_ n5_ n6_;clear BK485 HB;intro BK485 HB BK486 GW486 GE486 NB485_486 NB486_485;clear hb hbox hg;have hnb9:=NB485_486.out;have hnc9:=NB486_485.out;have hcz10_0:=cA_ BK485;have hfz10_0:=fA_ BK485;have hcz11_0:=cA_ BK486;have hfz11_0:=fA_ BK486)|((with_reducible refine gc_ (f:=61) rfl ?_);refine gl_ (some 10) Try.func61 #[.agg #[.int .i64 a0_0,.slice A0_1 l0_1.length c0_1,.slice A0_2 l0_2.length c0_2],.agg #[.slice A1_0 l1_0.length c1_0,.slice A1_1 l1_1.length c1_1]] ?_;(with_reducible refine (railplanref11_CheckCycle.calls k a0_0 _ _ l0_1 _ _ l0_2 _ _ l1_0 _ _ l1_1 true _ (cr_ (CB_ HR0_1.out HB.out)) HC0_1.out (cr_ (CB_ HR0_2.out HB.out)) HC0_2.out (cr_ (CB_ HR1_0.out HB.out)) HC1_0.out (cr_ (CB_ HR1_1.out HB.out)) HC1_1.out A3.out).mono ?_);rintro e w12 ⟨rfl,hb⟩;refine ⟨_,rfl,?_⟩;have n0_:=kb_ BK485 hb;have n1_:=kb_ BK486 hb;have n2_:=hb_ HB hb;revert n0_ n1_ n2_;clear BK485 BK486 HB;intro BK485 BK486 HB;(try clear hb);(try clear hb2);(try clear hk);(try clear hi);have hcz13_0:=cA_ BK485;have hfz13_0:=fA_ BK485;have hcz14_0:=cA_ BK486;have hfz14_0:=fA_ BK486)|((with_reducible refine gc_ (f:=63) rfl ?_);refine gl_ (some 15) Try.func63 #[.agg #[.int .i64 a0_0,.slice A0_1 l0_1.length c0_1,.slice A0_2 l0_2.length c0_2],.agg #[.slice A1_0 l1_0.length c1_0,.slice A1_1 l1_1.length c1_1]] ?_;(with_reducible refine (railplanref13_sums.calls k a0_0 _ _ l0_1 _ _ l0_2 _ _ l1_0 _ _ l1_1 t488 t489 t490 _ (cr_ (CB_ HR0_1.out HB.out)) HC0_1.out (cr_ (CB_ HR0_2.out HB.out)) HC0_2.out (cr_ (CB_ HR1_0.out HB.out)) HC1_0.out (cr_ (CB_ HR1_1.out HB.out)) HC1_1.out A5.out).mono ?_);rintro e w15 ⟨rfl,hb⟩;refine ⟨_,rfl,?_⟩;have n0_:=kb_ BK485 hb;have n1_:=kb_ BK486 hb;have n2_:=hb_ HB hb;revert n0_ n1_ n2_;clear BK485 BK486 HB;intro BK485 BK486 HB;(try clear hb);(try clear hb2);(try clear hk);(try clear hi);have hcz16_0:=cA_ BK485;have hfz16_0:=fA_ BK485)|((with_reducible refine gc_ (f:=60) rfl ?_);refine gl_ (some 23) Try.func60 #[.int .i64 (wrap64 (-t488)),.int .i64 a0_0] ?_;(with_reducible refine (railplanref1_Mod.calls (wrap64 (-t488)) a0_0 t491 _ A6.out).mono ?_);rintro e w' ⟨rfl,⟨nd,rfl⟩⟩;refine ⟨_,rfl,?_⟩)));(go_ret);(exact ⟨by first|rfl|(simp [errW_none,errW_some] <;> rfl)|(simp [*,errW_none,errW_some] <;> rfl),hB_ HB⟩))
 ·replace c4:=Bool.eq_false_iff.mpr c4;(subst c4;rw [if_neg (show ¬ (false = true) by decide)] at H;obtain rfl:=Option.some.inj H;(go_enter Try.func51,Try.ntmps51);(go_wp2_with (first|((with_reducible refine gd_ (N:=2) rfl ?_);refine bx2_ 2 #[.int .i64 a0_0,.slice A0_1 l0_1.length c0_1,.slice A0_2 l0_2.length c0_2] 26 (fun gb485 hg w17 hbox hb => ?_);have n0_:=hb_ HB hb;have n1_:=am_ (hbox);have n2_ : Aside0 (w.heap.size ≤ gb485):=gz_ hg HB;have n3_ : Aside0 (w.heap.size ≤ gb485):=gz_ hg HB;revert n0_ n1_ n2_ n3_;clear HB;intro HB BK485 GW485 GE485;clear hb hbox hg)|((with_reducible refine gd_ (N:=3) rfl ?_);refine bx2_ 3 #[.slice A1_0 l1_0.length c1_0,.slice A1_1 l1_1.length c1_1] 32 (fun gb486 hg w18 hbox hb => ?_);have n0_:=kb_ BK485 hb;have n1_:=hb_ HB hb;have n2_:=am_ (hbox);have n3_ : Aside0 (w.heap.size ≤ gb486):=gz_ hg HB;have n4_ : Aside0 (w.heap.size ≤ gb486):=gz_ hg HB;have n5_:=nl_ hg BK485;have n6_:=ng_ hg BK485;revert n0_ n1_ n2_ n3_ n4_ n5_ n6_;clear BK485 HB;intro BK485 HB BK486 GW486 GE486 NB485_486 NB486_485;clear hb hbox hg;have hnb19:=NB485_486.out;have hnc19:=NB486_485.out;have hcz20_0:=cA_ BK485;have hfz20_0:=fA_ BK485;have hcz21_0:=cA_ BK486;have hfz21_0:=fA_ BK486)|((with_reducible refine gc_ (f:=61) rfl ?_);refine gl_ (some 10) Try.func61 #[.agg #[.int .i64 a0_0,.slice A0_1 l0_1.length c0_1,.slice A0_2 l0_2.length c0_2],.agg #[.slice A1_0 l1_0.length c1_0,.slice A1_1 l1_1.length c1_1]] ?_;(with_reducible refine (railplanref11_CheckCycle.calls k a0_0 _ _ l0_1 _ _ l0_2 _ _ l1_0 _ _ l1_1 false _ (cr_ (CB_ HR0_1.out HB.out)) HC0_1.out (cr_ (CB_ HR0_2.out HB.out)) HC0_2.out (cr_ (CB_ HR1_0.out HB.out)) HC1_0.out (cr_ (CB_ HR1_1.out HB.out)) HC1_1.out A3.out).mono ?_);rintro e w22 ⟨rfl,hb⟩;refine ⟨_,rfl,?_⟩;have n0_:=kb_ BK485 hb;have n1_:=kb_ BK486 hb;have n2_:=hb_ HB hb;revert n0_ n1_ n2_;clear BK485 BK486 HB;intro BK485 BK486 HB;(try clear hb);(try clear hb2);(try clear hk);(try clear hi))));(go_ret);(exact ⟨by first|rfl|(simp [errW_none,errW_some] <;> rfl)|(simp [*,errW_none,errW_some] <;> rfl),hB_ HB⟩))
/-! ### railplanref13_in: function 62 -/
def railplanref13_in.f (a0 : Int) (a1 : Int) (a2 : Int) : Option (Bool):=if a0 ≥ a1 then (some (decide (a0 ≤ a2))) else (some false)
set_option maxHeartbeats 8000000 in
set_option maxRecDepth 100000 in
theorem railplanref13_in.calls (a0 : Int) (a1 : Int) (a2 : Int) (r : Bool) (w : World) (h : railplanref13_in.f a0 a1 a2 = some r) :
  Calls Try.prog 62 #[.int .i64 a0,.int .i64 a1,.int .i64 a2] w fun e w' => e = .returned (.bool r) ∧ Drawn0 w w':=by
 have H : (if a0 ≥ a1 then (some (decide (a0 ≤ a2))) else (some false)) = some r:=h
 clear h
 by_cases c4 : a0 ≥ a1
 ·rw [if_pos c4] at H;have c4b0:=decide_eq_true c4;clear c4;obtain rfl:=Option.some.inj H;(go_enter Try.func62,Try.ntmps62);(go_wp2);(go_ret);exact ⟨by first|rfl|(simp;done)|(simp [*];done),by repeat (first|exact Drawn0.refl _|apply Drawn0.step)⟩
 ·rw [if_neg c4] at H;have c4b0:=decide_eq_false c4;clear c4;obtain rfl:=Option.some.inj H;(go_enter Try.func62,Try.ntmps62);(go_wp2);(go_ret);exact ⟨by first|rfl|(simp;done)|(simp [*];done),by repeat (first|exact Drawn0.refl _|apply Drawn0.step)⟩
end Go.Proofs.Ytgbcgbfoejkieaa.PAll
