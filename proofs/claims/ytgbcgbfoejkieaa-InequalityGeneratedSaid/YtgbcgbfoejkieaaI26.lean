-- Packed by wip/tools/pack.py of this session out of what plugprint.py and the kit's print wrote. Lean checks it.
import Derived.Test.YtgbcgbfoejkieaaIS
import Derived.Test.YtgbcgbfoejkieaaI24
namespace Go.Proofs.Ytgbcgbfoejkieaa.PAll
open Go.RowKit Go.Proofs.YtgbcgbfoejkieaaW.PrintWords Go.Proofs.YtgbcgbfoejkieaaW.PrintLast Go.Proofs.YtgbcgbfoejkieaaW.PrintMore
attribute [local go_sem] max2_int min2_int max_two min_two max_three min_three max_four min_four
set_option linter.unusedVariables false
set_option linter.unusedSimpArgs false
/-! ### railplanref13_Right: function 41 -/
def railplanref13_Right.f (k : Nat) (a0_0 : Int) (l0_1 : List (S60)) (l0_2 : List (S62)) (l1_0 : List Int) (l1_1 : List Int) : Option (Int):=(railplanref13_Residue.f k a0_0 l0_1 l0_2 l1_0 l1_1).bind fun t505 => (some (wrap64 (t505 * (wrap64 (a0_0 - t505)))))
theorem railplanref13_Right.mono : ∀ a0 a1 a2 a3 a4 k,LeO (railplanref13_Right.f k a0 a1 a2 a3 a4) (railplanref13_Right.f (k + 1) a0 a1 a2 a3 a4):=by
 intro a0 a1 a2 a3 a4 k;(unfold railplanref13_Right.f)
 repeat' first
   | (with_reducible exact railplanref13_Residue.mono _ _ _ _ _ _)
   | (with_reducible exact LeO.refl _)
   | (with_reducible exact LeO.none _)
   | (with_reducible refine LeO.ite ?_ ?_)
   | (with_reducible refine LeO.bind ?_ (fun _ => ?_))
   | exact railplanref13_Residue.mono _ _ _ _ _ _
   | exact LeO.none _
   | refine LeO.ite ?_ ?_
   | refine LeO.bind ?_ (fun _ => ?_)
set_option maxHeartbeats 8000000 in
set_option maxRecDepth 100000 in
theorem railplanref13_Right.calls (k : Nat) (a0_0 : Int) (A0_1 : Option Addr) (c0_1 : Nat) (l0_1 : List (S60)) (A0_2 : Option Addr) (c0_2 : Nat) (l0_2 : List (S62)) (A1_0 : Option Addr) (c1_0 : Nat) (l1_0 : List Int) (A1_1 : Option Addr) (c1_1 : Nat) (l1_1 : List Int) (r : Int) (w : World) (hr0_1 : Kd.C k60 w A0_1 l0_1.length l0_1) (hc0_1 : l0_1.length ≤ c0_1) (hr0_2 : Kd.C k62 w A0_2 l0_2.length l0_2) (hc0_2 : l0_2.length ≤ c0_2) (hr1_0 : Kd.C (Kd.int .i64) w A1_0 l1_0.length l1_0) (hc1_0 : l1_0.length ≤ c1_0) (hr1_1 : Kd.C (Kd.int .i64) w A1_1 l1_1.length l1_1) (hc1_1 : l1_1.length ≤ c1_1) (h : railplanref13_Right.f k a0_0 l0_1 l0_2 l1_0 l1_1 = some r) :
  Calls Try.prog 41 #[.agg #[.int .i64 a0_0,.slice A0_1 l0_1.length c0_1,.slice A0_2 l0_2.length c0_2],.agg #[.slice A1_0 l1_0.length c1_0,.slice A1_1 l1_1.length c1_1]] w fun e w' => e = .returned (.int .i64 r) ∧ Below w.heap.size w w':=by
 have hu26:=Try.underlying26
 have hu32:=Try.underlying32
 have HR0_1:=am_ hr0_1
 have HC0_1:=am_ hc0_1
 clear hr0_1 hc0_1
 have HR0_2:=am_ hr0_2
 have HC0_2:=am_ hc0_2
 clear hr0_2 hc0_2
 have HR1_0:=am_ hr1_0
 have HC1_0:=am_ hc1_0
 clear hr1_0 hc1_0
 have HR1_1:=am_ hr1_1
 have HC1_1:=am_ hc1_1
 clear hr1_1 hc1_1
 have HB:=am_ (Below.refl w.heap.size w)
 have H : ((railplanref13_Residue.f k a0_0 l0_1 l0_2 l1_0 l1_1).bind fun t505 => (some (wrap64 (t505 * (wrap64 (a0_0 - t505)))))) = some r:=h
 clear h
 replace H:=be_ H
 obtain ⟨t505,A30,H⟩:=H
 have A3:=am_ A30
 clear A30
 obtain rfl:=Option.some.inj H
 go_enter Try.func41,Try.ntmps41
 go_wp2_with (first|((with_reducible refine gd_ (N:=2) rfl ?_);refine bx2_ 2 #[.int .i64 a0_0,.slice A0_1 l0_1.length c0_1,.slice A0_2 l0_2.length c0_2] 26 (fun gb503 hg w4 hbox hb => ?_);have n0_:=hb_ HB hb;have n1_:=am_ (hbox);have n2_ : Aside0 (w.heap.size ≤ gb503):=gz_ hg HB;have n3_ : Aside0 (w.heap.size ≤ gb503):=gz_ hg HB;revert n0_ n1_ n2_ n3_;clear HB;intro HB BK503 GW503 GE503;clear hb hbox hg)|((with_reducible refine gd_ (N:=3) rfl ?_);refine bx2_ 3 #[.slice A1_0 l1_0.length c1_0,.slice A1_1 l1_1.length c1_1] 32 (fun gb504 hg w5 hbox hb => ?_);have n0_:=kb_ BK503 hb;have n1_:=hb_ HB hb;have n2_:=am_ (hbox);have n3_ : Aside0 (w.heap.size ≤ gb504):=gz_ hg HB;have n4_ : Aside0 (w.heap.size ≤ gb504):=gz_ hg HB;have n5_:=nl_ hg BK503;have n6_:=ng_ hg BK503;revert n0_ n1_ n2_ n3_ n4_ n5_ n6_;clear BK503 HB;intro BK503 HB BK504 GW504 GE504 NB503_504 NB504_503;clear hb hbox hg;have hnb6:=NB503_504.out;have hnc6:=NB504_503.out;have hcz7_0:=cA_ BK503;have hfz7_0:=fA_ BK503;have hcz8_0:=cA_ BK504;have hfz8_0:=fA_ BK504)|((with_reducible refine gc_ (f:=51) rfl ?_);refine gl_ (some 8) Try.func51 #[.agg #[.int .i64 a0_0,.slice A0_1 l0_1.length c0_1,.slice A0_2 l0_2.length c0_2],.agg #[.slice A1_0 l1_0.length c1_0,.slice A1_1 l1_1.length c1_1]] ?_;(with_reducible refine (railplanref13_Residue.calls k a0_0 _ _ l0_1 _ _ l0_2 _ _ l1_0 _ _ l1_1 t505 _ (cr_ (CB_ HR0_1.out HB.out)) HC0_1.out (cr_ (CB_ HR0_2.out HB.out)) HC0_2.out (cr_ (CB_ HR1_0.out HB.out)) HC1_0.out (cr_ (CB_ HR1_1.out HB.out)) HC1_1.out A3.out).mono ?_);rintro e w9 ⟨rfl,hb⟩;refine ⟨_,rfl,?_⟩;have n0_:=kb_ BK503 hb;have n1_:=kb_ BK504 hb;have n2_:=hb_ HB hb;revert n0_ n1_ n2_;clear BK503 BK504 HB;intro BK503 BK504 HB;(try clear hb);(try clear hb2);(try clear hk);(try clear hi);have hcz10_0:=cA_ BK503;have hfz10_0:=fA_ BK503))
 go_ret
 exact ⟨by first|rfl|(simp [errW_none,errW_some] <;> rfl)|(simp [*,errW_none,errW_some] <;> rfl),hB_ HB⟩
end Go.Proofs.Ytgbcgbfoejkieaa.PAll
