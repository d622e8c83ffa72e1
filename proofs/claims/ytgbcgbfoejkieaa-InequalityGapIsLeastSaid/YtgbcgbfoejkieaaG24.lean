-- Packed by wip/tools/pack.py of this session out of what plugprint.py and the kit's print wrote. Lean checks it.
import Derived.Test.YtgbcgbfoejkieaaGS
import Derived.Test.YtgbcgbfoejkieaaG22
import Derived.Test.YtgbcgbfoejkieaaG23
namespace Go.Proofs.Ytgbcgbfoejkieaa.PAll
open Go.RowKit Go.Proofs.YtgbcgbfoejkieaaW.PrintWords Go.Proofs.YtgbcgbfoejkieaaW.PrintLast Go.Proofs.YtgbcgbfoejkieaaW.PrintMore
attribute [local go_sem] max2_int min2_int max_two min_two max_three min_three max_four min_four
set_option linter.unusedVariables false
set_option linter.unusedSimpArgs false
/-! ### railplanref11_Feasible: function 24 -/
def railplanref11_Feasible.f (k : Nat) (a0_0 : Int) (l0_1 : List (S60)) (l0_2 : List (S62)) (l1 : List Int) : Option (Bool):=(railplanref11_First.f k a0_0 l0_1 l0_2 l1).bind fun bt584 => ((railplanref11_Good.f k a0_0 l0_1 l0_2 l1).bind fun t586 => (if t586 = true then (some (!bt584.2)) else (some false)))
theorem railplanref11_Feasible.mono : ∀ a0 a1 a2 a3 k,LeO (railplanref11_Feasible.f k a0 a1 a2 a3) (railplanref11_Feasible.f (k + 1) a0 a1 a2 a3):=by
 intro a0 a1 a2 a3 k;(unfold railplanref11_Feasible.f)
 repeat' first
   | (with_reducible exact railplanref11_First.mono _ _ _ _ _)
   | (with_reducible exact railplanref11_Good.mono _ _ _ _ _)
   | (with_reducible exact LeO.refl _)
   | (with_reducible exact LeO.none _)
   | (with_reducible refine LeO.ite ?_ ?_)
   | (with_reducible refine LeO.bind ?_ (fun _ => ?_))
   | exact railplanref11_First.mono _ _ _ _ _
   | exact railplanref11_Good.mono _ _ _ _ _
   | exact LeO.none _
   | refine LeO.ite ?_ ?_
   | refine LeO.bind ?_ (fun _ => ?_)
set_option maxHeartbeats 8000000 in
set_option maxRecDepth 100000 in
theorem railplanref11_Feasible.calls (k : Nat) (a0_0 : Int) (A0_1 : Option Addr) (c0_1 : Nat) (l0_1 : List (S60)) (A0_2 : Option Addr) (c0_2 : Nat) (l0_2 : List (S62)) (A1 : Option Addr) (c1 : Nat) (l1 : List Int) (r : Bool) (w : World) (hr0_1 : Kd.C k60 w A0_1 l0_1.length l0_1) (hc0_1 : l0_1.length ≤ c0_1) (hr0_2 : Kd.C k62 w A0_2 l0_2.length l0_2) (hc0_2 : l0_2.length ≤ c0_2) (hr1 : Kd.C (Kd.int .i64) w A1 l1.length l1) (hc1 : l1.length ≤ c1) (h : railplanref11_Feasible.f k a0_0 l0_1 l0_2 l1 = some r) :
  Calls Try.prog 24 #[.agg #[.int .i64 a0_0,.slice A0_1 l0_1.length c0_1,.slice A0_2 l0_2.length c0_2],.slice A1 l1.length c1] w fun e w' => e = .returned (.bool r) ∧ Below w.heap.size w w':=by
 have hu26:=Try.underlying26
 have HR0_1:=am_ hr0_1
 have HC0_1:=am_ hc0_1
 clear hr0_1 hc0_1
 have HR0_2:=am_ hr0_2
 have HC0_2:=am_ hc0_2
 clear hr0_2 hc0_2
 have HR1:=am_ hr1
 have HC1:=am_ hc1
 clear hr1 hc1
 have HB:=am_ (Below.refl w.heap.size w)
 have H : ((railplanref11_First.f k a0_0 l0_1 l0_2 l1).bind fun bt584 => ((railplanref11_Good.f k a0_0 l0_1 l0_2 l1).bind fun t586 => (if t586 = true then (some (!bt584.2)) else (some false)))) = some r:=h
 clear h
 replace H:=be_ H
 obtain ⟨⟨t584,t585⟩,A30,H⟩:=H
 replace H : ((railplanref11_Good.f k a0_0 l0_1 l0_2 l1).bind fun t586 => (if t586 = true then (some (!t585)) else (some false))) = some r:=H
 have A3:=am_ A30
 clear A30
 replace H:=be_ H
 obtain ⟨t586,A40,H⟩:=H
 replace H : (if t586 = true then (some (!t585)) else (some false)) = some r:=H
 have A4:=am_ A40
 clear A40
 by_cases c5 : t586 = true
 ·subst c5;((have H1 : (some (!t585)) = some r:=by rw [if_pos rfl] at H;exact H);clear H;have H:=H1;clear H1;obtain rfl:=Option.some.inj H;(go_enter Try.func24,Try.ntmps24);(go_wp2_with (first|((with_reducible refine gd_ (N:=2) rfl ?_);refine bx2_ 2 #[.int .i64 a0_0,.slice A0_1 l0_1.length c0_1,.slice A0_2 l0_2.length c0_2] 26 (fun gb583 hg w6 hbox hb => ?_);have n0_:=hb_ HB hb;have n1_:=am_ (hbox);have n2_ : Aside0 (w.heap.size ≤ gb583):=gz_ hg HB;have n3_ : Aside0 (w.heap.size ≤ gb583):=gz_ hg HB;revert n0_ n1_ n2_ n3_;clear HB;intro HB BK583 GW583 GE583;clear hb hbox hg;have hcz7_0:=cA_ BK583;have hfz7_0:=fA_ BK583)|((with_reducible refine gc_ (f:=42) rfl ?_);refine gl_ (some 10) Try.func42 #[.agg #[.int .i64 a0_0,.slice A0_1 l0_1.length c0_1,.slice A0_2 l0_2.length c0_2],.slice A1 l1.length c1] ?_;(with_reducible refine (railplanref11_First.calls k a0_0 _ _ l0_1 _ _ l0_2 _ _ l1 t584 t585 _ (cr_ (CB_ HR0_1.out HB.out)) HC0_1.out (cr_ (CB_ HR0_2.out HB.out)) HC0_2.out (cr_ (CB_ HR1.out HB.out)) HC1.out A3.out).mono ?_);rintro e w8 ⟨rfl,hb⟩;refine ⟨_,rfl,?_⟩;have n0_:=kb_ BK583 hb;have n1_:=hb_ HB hb;revert n0_ n1_;clear BK583 HB;intro BK583 HB;(try clear hb);(try clear hb2);(try clear hk);(try clear hi);have hcz9_0:=cA_ BK583;have hfz9_0:=fA_ BK583)|((with_reducible refine gc_ (f:=43) rfl ?_);refine gl_ (some 15) Try.func43 #[.agg #[.int .i64 a0_0,.slice A0_1 l0_1.length c0_1,.slice A0_2 l0_2.length c0_2],.slice A1 l1.length c1] ?_;(with_reducible refine (railplanref11_Good.calls k a0_0 _ _ l0_1 _ _ l0_2 _ _ l1 true _ (cr_ (CB_ HR0_1.out HB.out)) HC0_1.out (cr_ (CB_ HR0_2.out HB.out)) HC0_2.out (cr_ (CB_ HR1.out HB.out)) HC1.out A4.out).mono ?_);rintro e w10 ⟨rfl,hb⟩;refine ⟨_,rfl,?_⟩;have n0_:=kb_ BK583 hb;have n1_:=hb_ HB hb;revert n0_ n1_;clear BK583 HB;intro BK583 HB;(try clear hb);(try clear hb2);(try clear hk);(try clear hi))));(go_ret);(exact ⟨by first|rfl|(simp [errW_none,errW_some] <;> rfl)|(simp [*,errW_none,errW_some] <;> rfl),hB_ HB⟩))
 ·replace c5:=Bool.eq_false_iff.mpr c5;(subst c5;(have H1 : (some false) = some r:=by rw [if_neg (show ¬ (false = true) by decide)] at H;exact H);clear H;have H:=H1;clear H1;obtain rfl:=Option.some.inj H;(go_enter Try.func24,Try.ntmps24);(go_wp2_with (first|((with_reducible refine gd_ (N:=2) rfl ?_);refine bx2_ 2 #[.int .i64 a0_0,.slice A0_1 l0_1.length c0_1,.slice A0_2 l0_2.length c0_2] 26 (fun gb583 hg w11 hbox hb => ?_);have n0_:=hb_ HB hb;have n1_:=am_ (hbox);have n2_ : Aside0 (w.heap.size ≤ gb583):=gz_ hg HB;have n3_ : Aside0 (w.heap.size ≤ gb583):=gz_ hg HB;revert n0_ n1_ n2_ n3_;clear HB;intro HB BK583 GW583 GE583;clear hb hbox hg;have hcz12_0:=cA_ BK583;have hfz12_0:=fA_ BK583)|((with_reducible refine gc_ (f:=42) rfl ?_);refine gl_ (some 10) Try.func42 #[.agg #[.int .i64 a0_0,.slice A0_1 l0_1.length c0_1,.slice A0_2 l0_2.length c0_2],.slice A1 l1.length c1] ?_;(with_reducible refine (railplanref11_First.calls k a0_0 _ _ l0_1 _ _ l0_2 _ _ l1 t584 t585 _ (cr_ (CB_ HR0_1.out HB.out)) HC0_1.out (cr_ (CB_ HR0_2.out HB.out)) HC0_2.out (cr_ (CB_ HR1.out HB.out)) HC1.out A3.out).mono ?_);rintro e w13 ⟨rfl,hb⟩;refine ⟨_,rfl,?_⟩;have n0_:=kb_ BK583 hb;have n1_:=hb_ HB hb;revert n0_ n1_;clear BK583 HB;intro BK583 HB;(try clear hb);(try clear hb2);(try clear hk);(try clear hi);have hcz14_0:=cA_ BK583;have hfz14_0:=fA_ BK583)|((with_reducible refine gc_ (f:=43) rfl ?_);refine gl_ (some 15) Try.func43 #[.agg #[.int .i64 a0_0,.slice A0_1 l0_1.length c0_1,.slice A0_2 l0_2.length c0_2],.slice A1 l1.length c1] ?_;(with_reducible refine (railplanref11_Good.calls k a0_0 _ _ l0_1 _ _ l0_2 _ _ l1 false _ (cr_ (CB_ HR0_1.out HB.out)) HC0_1.out (cr_ (CB_ HR0_2.out HB.out)) HC0_2.out (cr_ (CB_ HR1.out HB.out)) HC1.out A4.out).mono ?_);rintro e w15 ⟨rfl,hb⟩;refine ⟨_,rfl,?_⟩;have n0_:=kb_ BK583 hb;have n1_:=hb_ HB hb;revert n0_ n1_;clear BK583 HB;intro BK583 HB;(try clear hb);(try clear hb2);(try clear hk);(try clear hi))));(go_ret);(exact ⟨by first|rfl|(simp [errW_none,errW_some] <;> rfl)|(simp [*,errW_none,errW_some] <;> rfl),hB_ HB⟩))
end Go.Proofs.Ytgbcgbfoejkieaa.PAll
