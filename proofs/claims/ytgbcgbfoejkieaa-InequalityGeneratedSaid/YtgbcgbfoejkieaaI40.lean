-- Packed by wip/tools/pack.py of this session out of what plugprint.py and the kit's print wrote. Lean checks it.
import Derived.Test.YtgbcgbfoejkieaaIS
import Derived.Test.YtgbcgbfoejkieaaI15
import Derived.Test.YtgbcgbfoejkieaaI16
import Derived.Test.YtgbcgbfoejkieaaI24
import Derived.Test.YtgbcgbfoejkieaaI25
import Derived.Test.YtgbcgbfoejkieaaI26
import Derived.Test.YtgbcgbfoejkieaaI34
import Derived.Test.YtgbcgbfoejkieaaI35
import Derived.Test.YtgbcgbfoejkieaaI37
import Derived.Test.YtgbcgbfoejkieaaI39
namespace Go.Proofs.Ytgbcgbfoejkieaa.PAll
open Go.RowKit Go.Proofs.YtgbcgbfoejkieaaW.PrintWords Go.Proofs.YtgbcgbfoejkieaaW.PrintLast Go.Proofs.YtgbcgbfoejkieaaW.PrintMore
attribute [local go_sem] max2_int min2_int max_two min_two max_three min_three max_four min_four
set_option linter.unusedVariables false
set_option linter.unusedSimpArgs false
/-! ### railplanlaw14_agrees: function 31 -/
def railplanlaw14_agrees.f (k : Nat) (a0_0 : Int) (l0_1 : List (S60)) (l0_2 : List (S62)) (l1_0 : List Int) (l1_1 : List Int) (l2 : List Int) : Option (Bool):=(inequality_Windings.f k a0_0 l0_1 l0_2 l1_0 l1_1).bind fun bt812 => ((railplanref13_Windings.f k a0_0 l0_1 l0_2 l1_0 l1_1).bind fun bt815 => ((inequality_Gap.f k a0_0 l0_1 l0_2 l1_0 l1_1).bind fun bt818 => ((railplanref13_Gap.f k a0_0 l0_1 l0_2 l1_0 l1_1).bind fun bt820 => ((inequality_Left.f k a0_0 l0_1 l0_2 l1_0 l1_1 l2).bind fun bt822 => ((railplanref13_Left.f k a0_0 l0_1 l0_2 l1_0 l1_1 l2).bind fun bt824 => (if bt812.1 = bt815.1 then (if bt812.2.1 = bt815.2.1 then (if (bt812.2.2 == bt815.2.2) = true then (if bt818.1 = bt820.1 then (if (bt818.2 == bt820.2) = true then ((inequality_Residue.f k a0_0 l0_1 l0_2 l1_0 l1_1).bind fun t826 => ((railplanref13_Residue.f k a0_0 l0_1 l0_2 l1_0 l1_1).bind fun t827 => (if t826 = t827 then (if bt822.1 = bt824.1 then (if bt822.2 = bt824.2 then ((inequality_Right.f k a0_0 l0_1 l0_2 l1_0 l1_1).bind fun t828 => ((railplanref13_Right.f k a0_0 l0_1 l0_2 l1_0 l1_1).bind fun t829 => (some (t828 == t829)))) else (none)) else (none)) else (none)))) else (none)) else (none)) else (none)) else (none)) else (none)))))))
theorem railplanlaw14_agrees.mono : ∀ a0 a1 a2 a3 a4 a5 k,LeO (railplanlaw14_agrees.f k a0 a1 a2 a3 a4 a5) (railplanlaw14_agrees.f (k + 1) a0 a1 a2 a3 a4 a5):=by
 intro a0 a1 a2 a3 a4 a5 k;(unfold railplanlaw14_agrees.f)
 repeat' first
   | (with_reducible exact inequality_Gap.mono _ _ _ _ _ _)
   | (with_reducible exact inequality_Left.mono _ _ _ _ _ _ _)
   | (with_reducible exact inequality_Residue.mono _ _ _ _ _ _)
   | (with_reducible exact inequality_Right.mono _ _ _ _ _ _)
   | (with_reducible exact inequality_Windings.mono _ _ _ _ _ _)
   | (with_reducible exact railplanref13_Gap.mono _ _ _ _ _ _)
   | (with_reducible exact railplanref13_Left.mono _ _ _ _ _ _ _)
   | (with_reducible exact railplanref13_Residue.mono _ _ _ _ _ _)
   | (with_reducible exact railplanref13_Right.mono _ _ _ _ _ _)
   | (with_reducible exact railplanref13_Windings.mono _ _ _ _ _ _)
   | (with_reducible exact LeO.refl _)
   | (with_reducible exact LeO.none _)
   | (with_reducible refine LeO.ite ?_ ?_)
   | (with_reducible refine LeO.bind ?_ (fun _ => ?_))
   | exact inequality_Gap.mono _ _ _ _ _ _
   | exact inequality_Left.mono _ _ _ _ _ _ _
   | exact inequality_Residue.mono _ _ _ _ _ _
   | exact inequality_Right.mono _ _ _ _ _ _
   | exact inequality_Windings.mono _ _ _ _ _ _
   | exact railplanref13_Gap.mono _ _ _ _ _ _
   | exact railplanref13_Left.mono _ _ _ _ _ _ _
   | exact railplanref13_Residue.mono _ _ _ _ _ _
   | exact railplanref13_Right.mono _ _ _ _ _ _
   | exact railplanref13_Windings.mono _ _ _ _ _ _
   | exact LeO.none _
   | refine LeO.ite ?_ ?_
   | refine LeO.bind ?_ (fun _ => ?_)
def railplanlaw14_agrees.T7 : Bool × List (List Nat × List Nat):=(true,[([],[]),([],[]),([0,1],[0,1]),([2],[2]),([3],[3]),([3],[3]),([4,5,3],[3,4,5]),([3,6],[3,6]),([7,3],[7]),([8],[8]),([8],[8]),([9,10,8],[8,9,10]),([8,11],[8,11]),([12,8],[12]),([13],[13]),([13],[13]),([14,15,13],[13,14,15]),([13,16],[13,16]),([17,13],[17]),([18],[18]),([18],[18]),([19,20,18],[18,19,20]),([18,21],[18,21]),([22,18],[22]),([23],[23]),([23],[23]),([24,25,23,23],[23,24,25]),([23],[23]),([23],[23]),([27,28,26,23],[23,27,28]),([26,29,23],[23,26,29]),([23,30],[23,30]),([31,29],[31]),([32],[32]),([32],[32]),([33,34,32],[32,33,34]),([32,35],[32,35]),([36,32],[36]),([37],[37]),([37],[37]),([38,39,37],[37,38,39]),([37,40],[37,40]),([41,37],[41]),([42],[42]),([42],[42]),([43,44,42,42],[42,43,44]),([42],[42]),([42],[42]),([46,47,45,42],[42,46,47]),([45,48,42],[42,45,48]),([42,49],[42,49]),([50,48,0,1,2,3,4,5,6,7,8,9,10,11,12,13,14,15,16,17,18,19,20,21,22,23,24,25,26,27,28,29,30,31,32,33,34,35,36,37,38,39,40,41,42,43,44,45,46,47,48,49,50],[50])])
def railplanlaw14_agrees.B7 : List Nat:=[0,0,3,7,15,15,63,127,255,511,511,2047,4095,8191,16383,16383,65535,131071,262143,524287,524287,2097151,4194303,8388607,16777215,16777215,67108863,16777215,16777215,536870911,1073741823,2147483647,4294967295,8589934591,8589934591,34359738367,68719476735,137438953471,274877906943,274877906943,1099511627775,2199023255551,4398046511103,8796093022207,8796093022207,35184372088831,8796093022207,8796093022207,281474976710655,562949953421311,1125899906842623,2251799813685247]
theorem railplanlaw14_agrees.tab7 : rtab .any (opsOf Try.f31 7) = railplanlaw14_agrees.T7:=by kernel_rfl
theorem railplanlaw14_agrees.bits7 : waitsOk railplanlaw14_agrees.T7.2 railplanlaw14_agrees.B7 = true:=by kernel_rfl
set_option maxHeartbeats 8000000 in
set_option maxRecDepth 100000 in
theorem railplanlaw14_agrees.calls (k : Nat) (a0_0 : Int) (A0_1 : Option Addr) (c0_1 : Nat) (l0_1 : List (S60)) (A0_2 : Option Addr) (c0_2 : Nat) (l0_2 : List (S62)) (A1_0 : Option Addr) (c1_0 : Nat) (l1_0 : List Int) (A1_1 : Option Addr) (c1_1 : Nat) (l1_1 : List Int) (A2 : Option Addr) (c2 : Nat) (l2 : List Int) (r : Bool) (w : World) (hr0_1 : Kd.C k60 w A0_1 l0_1.length l0_1) (hc0_1 : l0_1.length ≤ c0_1) (hr0_2 : Kd.C k62 w A0_2 l0_2.length l0_2) (hc0_2 : l0_2.length ≤ c0_2) (hr1_0 : Kd.C (Kd.int .i64) w A1_0 l1_0.length l1_0) (hc1_0 : l1_0.length ≤ c1_0) (hr1_1 : Kd.C (Kd.int .i64) w A1_1 l1_1.length l1_1) (hc1_1 : l1_1.length ≤ c1_1) (hr2 : Kd.C (Kd.int .i64) w A2 l2.length l2) (hc2 : l2.length ≤ c2) (h : railplanlaw14_agrees.f k a0_0 l0_1 l0_2 l1_0 l1_1 l2 = some r) :
  Calls Try.prog 31 #[.agg #[.int .i64 a0_0,.slice A0_1 l0_1.length c0_1,.slice A0_2 l0_2.length c0_2],.agg #[.slice A1_0 l1_0.length c1_0,.slice A1_1 l1_1.length c1_1],.slice A2 l2.length c2] w fun e w' => e = .returned (.bool r) ∧ Below w.heap.size w w':=by
 have hu26:=Try.underlying26
 have hu32:=Try.underlying32
 have HR0_1:=am_ hr0_1
 have HC0_1:=am_ hc0_1
 clear hr0_1 hc0_1
 have HR0_2:=am_ hr0_2
 have HC0_2:=am_ hc0_2
 clear hr0_2 hc0_2
 have HR1_0:=am_ hr1_0
 have HC1_0:=am_ hc1_0
 clear hr1_0 hc1_0
 have HR1_1:=am_ hr1_1
 have HC1_1:=am_ hc1_1
 clear hr1_1 hc1_1
 have HR2:=am_ hr2
 have HC2:=am_ hc2
 clear hr2 hc2
 have HB:=am_ (Below.refl w.heap.size w)
 have H : ((inequality_Windings.f k a0_0 l0_1 l0_2 l1_0 l1_1).bind fun bt812 => ((railplanref13_Windings.f k a0_0 l0_1 l0_2 l1_0 l1_1).bind fun bt815 => ((inequality_Gap.f k a0_0 l0_1 l0_2 l1_0 l1_1).bind fun bt818 => ((railplanref13_Gap.f k a0_0 l0_1 l0_2 l1_0 l1_1).bind fun bt820 => ((inequality_Left.f k a0_0 l0_1 l0_2 l1_0 l1_1 l2).bind fun bt822 => ((railplanref13_Left.f k a0_0 l0_1 l0_2 l1_0 l1_1 l2).bind fun bt824 => (if bt812.1 = bt815.1 then (if bt812.2.1 = bt815.2.1 then (if (bt812.2.2 == bt815.2.2) = true then (if bt818.1 = bt820.1 then (if (bt818.2 == bt820.2) = true then ((inequality_Residue.f k a0_0 l0_1 l0_2 l1_0 l1_1).bind fun t826 => ((railplanref13_Residue.f k a0_0 l0_1 l0_2 l1_0 l1_1).bind fun t827 => (if t826 = t827 then (if bt822.1 = bt824.1 then (if bt822.2 = bt824.2 then ((inequality_Right.f k a0_0 l0_1 l0_2 l1_0 l1_1).bind fun t828 => ((railplanref13_Right.f k a0_0 l0_1 l0_2 l1_0 l1_1).bind fun t829 => (some (t828 == t829)))) else (none)) else (none)) else (none)))) else (none)) else (none)) else (none)) else (none)) else (none)))))))) = some r:=h
 clear h
 replace H:=be_ H
 obtain ⟨⟨t812,t813,t814⟩,A40,H⟩:=H
 (try dsimp only at H)
 have A4:=am_ A40
 clear A40
 replace H:=be_ H
 obtain ⟨⟨t815,t816,t817⟩,A50,H⟩:=H
 (try dsimp only at H)
 have A5:=am_ A50
 clear A50
 replace H:=be_ H
 obtain ⟨⟨t818,t819⟩,A60,H⟩:=H
 (try dsimp only at H)
 have A6:=am_ A60
 clear A60
 replace H:=be_ H
 obtain ⟨⟨t820,t821⟩,A70,H⟩:=H
 (try dsimp only at H)
 have A7:=am_ A70
 clear A70
 replace H:=be_ H
 obtain ⟨⟨t822,t823⟩,A80,H⟩:=H
 (try dsimp only at H)
 have A8:=am_ A80
 clear A80
 replace H:=be_ H
 obtain ⟨⟨t824,t825⟩,A90,H⟩:=H
 (try dsimp only at H)
 have A9:=am_ A90
 clear A90
 by_cases c10 : t812 = t815
 ·rw [if_pos c10] at H
  have c10b0 : (t812 == t815) = true:=beq_iff_eq.mpr c10;have c10b1 : (t812 != t815) = false:=bne_eq_false_iff_eq.mpr c10;clear c10
  by_cases c11 : t813 = t816
  ·rw [if_pos c11] at H
   have c11b0 : (t813 == t816) = true:=beq_iff_eq.mpr c11;have c11b1 : (t813 != t816) = false:=bne_eq_false_iff_eq.mpr c11;clear c11
   by_cases c12 : (t814 == t817) = true
   ·rw [if_pos c12] at H
    have c12b0 : (t814 == t817) = true:=c12;(try (have c12b1 : decide (t814 = t817) = true:=by simpa using c12));(try (have c12b2 : (t814 == t817) = true:=by simpa using c12));clear c12
    by_cases c13 : t818 = t820
    ·rw [if_pos c13] at H
     have c13b0 : (t818 == t820) = true:=beq_iff_eq.mpr c13;have c13b1 : (t818 != t820) = false:=bne_eq_false_iff_eq.mpr c13;clear c13
     by_cases c14 : (t819 == t821) = true
     ·rw [if_pos c14] at H
      have c14b0 : (t819 == t821) = true:=c14;(try (have c14b1 : decide (t819 = t821) = true:=by simpa using c14));(try (have c14b2 : (t819 == t821) = true:=by simpa using c14));clear c14;replace H:=be_ H;obtain ⟨t826,A150,H⟩:=H;have A15:=am_ A150;clear A150;replace H:=be_ H;obtain ⟨t827,A160,H⟩:=H;have A16:=am_ A160;clear A160
      by_cases c17 : t826 = t827
      ·rw [if_pos c17] at H
       have c17b0 : (t826 == t827) = true:=beq_iff_eq.mpr c17;have c17b1 : (t826 != t827) = false:=bne_eq_false_iff_eq.mpr c17;clear c17
       by_cases c18 : t822 = t824
       ·rw [if_pos c18] at H
        have c18b0 : (t822 == t824) = true:=beq_iff_eq.mpr c18;have c18b1 : (t822 != t824) = false:=bne_eq_false_iff_eq.mpr c18;clear c18
        by_cases c19 : t823 = t825
        ·rw [if_pos c19] at H
         have c19b0 : (t823 == t825) = true:=beq_iff_eq.mpr c19;have c19b1 : (t823 != t825) = false:=bne_eq_false_iff_eq.mpr c19;clear c19;replace H:=be_ H;obtain ⟨t828,A200,H⟩:=H;have A20:=am_ A200;clear A200;replace H:=be_ H;obtain ⟨t829,A210,H⟩:=H;have A21:=am_ A210;clear A210;obtain rfl:=Option.some.inj H;(go_enter Try.func31,Try.ntmps31);(try go_wp2_with (first|((with_reducible refine gd_ (N:=3) rfl ?_);refine bx2_ 3 #[.int .i64 a0_0,.slice A0_1 l0_1.length c0_1,.slice A0_2 l0_2.length c0_2] 26 (fun gb810 hg w22 hbox hb => ?_);have n0_:=hb_ HB hb;have n1_:=am_ (hbox);have n2_ : Aside0 (w.heap.size ≤ gb810):=gz_ hg HB;have n3_ : Aside0 (w.heap.size ≤ gb810):=gz_ hg HB;revert n0_ n1_ n2_ n3_;clear HB;intro HB BK810 GW810 GE810;clear hb hbox hg)|((with_reducible refine gd_ (N:=4) rfl ?_);refine bx2_ 4 #[.slice A1_0 l1_0.length c1_0,.slice A1_1 l1_1.length c1_1] 32 (fun gb811 hg w23 hbox hb => ?_);have n0_:=kb_ BK810 hb;have n1_:=hb_ HB hb;have n2_:=am_ (hbox);have n3_ : Aside0 (w.heap.size ≤ gb811):=gz_ hg HB;have n4_ : Aside0 (w.heap.size ≤ gb811):=gz_ hg HB;have n5_:=nl_ hg BK810;have n6_:=ng_ hg BK810;revert n0_ n1_ n2_ n3_ n4_ n5_ n6_;clear BK810 HB;intro BK810 HB BK811 GW811 GE811 NB810_811 NB811_810;clear hb hbox hg;have hnb24:=NB810_811.out;have hnc24:=NB811_810.out;have hcz25_0:=cA_ BK810;have hfz25_0:=fA_ BK810;have hcz26_0:=cA_ BK811;have hfz26_0:=fA_ BK811)|((with_reducible refine gc_ (f:=26) rfl ?_);refine gl_ (some 24) Try.func26 #[.agg #[.int .i64 a0_0,.slice A0_1 l0_1.length c0_1,.slice A0_2 l0_2.length c0_2],.agg #[.slice A1_0 l1_0.length c1_0,.slice A1_1 l1_1.length c1_1]] ?_;(with_reducible refine (inequality_Windings.calls k a0_0 _ _ l0_1 _ _ l0_2 _ _ l1_0 _ _ l1_1 t812 t813 t814 _ (cr_ (CB_ HR0_1.out HB.out)) HC0_1.out (cr_ (CB_ HR0_2.out HB.out)) HC0_2.out (cr_ (CB_ HR1_0.out HB.out)) HC1_0.out (cr_ (CB_ HR1_1.out HB.out)) HC1_1.out A4.out).mono ?_);rintro e w27 ⟨rfl,hb⟩;refine ⟨_,rfl,?_⟩;have n0_:=kb_ BK810 hb;have n1_:=kb_ BK811 hb;have n2_:=hb_ HB hb;revert n0_ n1_ n2_;clear BK810 BK811 HB;intro BK810 BK811 HB;(try clear hb);(try clear hb2);(try clear hk);(try clear hi);have hcz28_0:=cA_ BK810;have hfz28_0:=fA_ BK810;have hcz29_0:=cA_ BK811;have hfz29_0:=fA_ BK811)|((with_reducible refine gc_ (f:=49) rfl ?_);refine gl_ (some 31) Try.func49 #[.agg #[.int .i64 a0_0,.slice A0_1 l0_1.length c0_1,.slice A0_2 l0_2.length c0_2],.agg #[.slice A1_0 l1_0.length c1_0,.slice A1_1 l1_1.length c1_1]] ?_;(with_reducible refine (railplanref13_Windings.calls k a0_0 _ _ l0_1 _ _ l0_2 _ _ l1_0 _ _ l1_1 t815 t816 t817 _ (cr_ (CB_ HR0_1.out HB.out)) HC0_1.out (cr_ (CB_ HR0_2.out HB.out)) HC0_2.out (cr_ (CB_ HR1_0.out HB.out)) HC1_0.out (cr_ (CB_ HR1_1.out HB.out)) HC1_1.out A5.out).mono ?_);rintro e w30 ⟨rfl,hb⟩;refine ⟨_,rfl,?_⟩;have n0_:=kb_ BK810 hb;have n1_:=kb_ BK811 hb;have n2_:=hb_ HB hb;revert n0_ n1_ n2_;clear BK810 BK811 HB;intro BK810 BK811 HB;(try clear hb);(try clear hb2);(try clear hk);(try clear hi);have hcz31_0:=cA_ BK810;have hfz31_0:=fA_ BK810;have hcz32_0:=cA_ BK811;have hfz32_0:=fA_ BK811)|((with_reducible refine gc_ (f:=27) rfl ?_);refine gl_ (some 38) Try.func27 #[.agg #[.int .i64 a0_0,.slice A0_1 l0_1.length c0_1,.slice A0_2 l0_2.length c0_2],.agg #[.slice A1_0 l1_0.length c1_0,.slice A1_1 l1_1.length c1_1]] ?_;(with_reducible refine (inequality_Gap.calls k a0_0 _ _ l0_1 _ _ l0_2 _ _ l1_0 _ _ l1_1 t818 t819 _ (cr_ (CB_ HR0_1.out HB.out)) HC0_1.out (cr_ (CB_ HR0_2.out HB.out)) HC0_2.out (cr_ (CB_ HR1_0.out HB.out)) HC1_0.out (cr_ (CB_ HR1_1.out HB.out)) HC1_1.out A6.out).mono ?_);rintro e w33 ⟨rfl,hb⟩;refine ⟨_,rfl,?_⟩;have n0_:=kb_ BK810 hb;have n1_:=kb_ BK811 hb;have n2_:=hb_ HB hb;revert n0_ n1_ n2_;clear BK810 BK811 HB;intro BK810 BK811 HB;(try clear hb);(try clear hb2);(try clear hk);(try clear hi);have hcz34_0:=cA_ BK810;have hfz34_0:=fA_ BK810;have hcz35_0:=cA_ BK811;have hfz35_0:=fA_ BK811)|((with_reducible refine gc_ (f:=50) rfl ?_);refine gl_ (some 44) Try.func50 #[.agg #[.int .i64 a0_0,.slice A0_1 l0_1.length c0_1,.slice A0_2 l0_2.length c0_2],.agg #[.slice A1_0 l1_0.length c1_0,.slice A1_1 l1_1.length c1_1]] ?_;(with_reducible refine (railplanref13_Gap.calls k a0_0 _ _ l0_1 _ _ l0_2 _ _ l1_0 _ _ l1_1 t820 t821 _ (cr_ (CB_ HR0_1.out HB.out)) HC0_1.out (cr_ (CB_ HR0_2.out HB.out)) HC0_2.out (cr_ (CB_ HR1_0.out HB.out)) HC1_0.out (cr_ (CB_ HR1_1.out HB.out)) HC1_1.out A7.out).mono ?_);rintro e w36 ⟨rfl,hb⟩;refine ⟨_,rfl,?_⟩;have n0_:=kb_ BK810 hb;have n1_:=kb_ BK811 hb;have n2_:=hb_ HB hb;revert n0_ n1_ n2_;clear BK810 BK811 HB;intro BK810 BK811 HB;(try clear hb);(try clear hb2);(try clear hk);(try clear hi);have hcz37_0:=cA_ BK810;have hfz37_0:=fA_ BK810;have hcz38_0:=cA_ BK811;have hfz38_0:=fA_ BK811)|((with_reducible refine gc_ (f:=16) rfl ?_);refine gl_ (some 51) Try.func16 #[.agg #[.int .i64 a0_0,.slice A0_1 l0_1.length c0_1,.slice A0_2 l0_2.length c0_2],.agg #[.slice A1_0 l1_0.length c1_0,.slice A1_1 l1_1.length c1_1],.slice A2 l2.length c2] ?_;(with_reducible refine (inequality_Left.calls k a0_0 _ _ l0_1 _ _ l0_2 _ _ l1_0 _ _ l1_1 _ _ l2 t822 t823 _ (cr_ (CB_ HR0_1.out HB.out)) HC0_1.out (cr_ (CB_ HR0_2.out HB.out)) HC0_2.out (cr_ (CB_ HR1_0.out HB.out)) HC1_0.out (cr_ (CB_ HR1_1.out HB.out)) HC1_1.out (cr_ (CB_ HR2.out HB.out)) HC2.out A8.out).mono ?_);rintro e w39 ⟨rfl,hb⟩;refine ⟨_,rfl,?_⟩;have n0_:=kb_ BK810 hb;have n1_:=kb_ BK811 hb;have n2_:=hb_ HB hb;revert n0_ n1_ n2_;clear BK810 BK811 HB;intro BK810 BK811 HB;(try clear hb);(try clear hb2);(try clear hk);(try clear hi);have hcz40_0:=cA_ BK810;have hfz40_0:=fA_ BK810;have hcz41_0:=cA_ BK811;have hfz41_0:=fA_ BK811)|((with_reducible refine gc_ (f:=40) rfl ?_);refine gl_ (some 58) Try.func40 #[.agg #[.int .i64 a0_0,.slice A0_1 l0_1.length c0_1,.slice A0_2 l0_2.length c0_2],.agg #[.slice A1_0 l1_0.length c1_0,.slice A1_1 l1_1.length c1_1],.slice A2 l2.length c2] ?_;(with_reducible refine (railplanref13_Left.calls k a0_0 _ _ l0_1 _ _ l0_2 _ _ l1_0 _ _ l1_1 _ _ l2 t824 t825 _ (cr_ (CB_ HR0_1.out HB.out)) HC0_1.out (cr_ (CB_ HR0_2.out HB.out)) HC0_2.out (cr_ (CB_ HR1_0.out HB.out)) HC1_0.out (cr_ (CB_ HR1_1.out HB.out)) HC1_1.out (cr_ (CB_ HR2.out HB.out)) HC2.out A9.out).mono ?_);rintro e w42 ⟨rfl,hb⟩;refine ⟨_,rfl,?_⟩;have n0_:=kb_ BK810 hb;have n1_:=kb_ BK811 hb;have n2_:=hb_ HB hb;revert n0_ n1_ n2_;clear BK810 BK811 HB;intro BK810 BK811 HB;(try clear hb);(try clear hb2);(try clear hk);(try clear hi))));have n0_:=am_ (kD_ BK810.out);have n1_:=am_ (kD_ BK811.out);have n2_:=am_ (b1_ HB.out)
         revert n0_ n1_ n2_
         clear BK810 BK811 HB;intro BK810 BK811 HB;refine start_ (n:=52) (S:=fun w' => c_ w' gb810 0 (.int .i64 a0_0) ∧ c_ w' gb810 1 (.slice A0_1 l0_1.length c0_1) ∧ c_ w' gb810 2 (.slice A0_2 l0_2.length c0_2) ∧ c_ w' gb811 0 (.slice A1_0 l1_0.length c1_0) ∧ c_ w' gb811 1 (.slice A1_1 l1_1.length c1_1)) (ds:=[]) (bm 52 0) (by kernel_rfl) rfl rfl ⟨cq_ BK810 0,cq_ BK810 1,cq_ BK810 2,cq_ BK811 0,cq_ BK811 1⟩ (fun hHeld => ?_);refine with_tabW railplanlaw14_agrees.tab7 railplanlaw14_agrees.bits7 (fun HT_ HW_ => ?_);generalize w42.drew = w43 at BK810 BK811 HB hHeld ⊢;refine pu_ 0 61 (bm 52 1) ?_;refine pu_ 1 62 (bm 52 3) ?_;refine pu_ 2 63 (bm 52 7) ?_;refine pu_ 3 64 (bm 52 15) ?_;refine pu_ 4 65 (bm 52 31) ?_;refine pu_ 5 66 (bm 52 63) ?_;refine pu_ 6 67 (bm 52 127) ?_;refine pu_ 7 68 (bm 52 255) ?_;refine pu_ 8 69 (bm 52 511) ?_;refine pu_ 9 70 (bm 52 1023) ?_;refine pu_ 10 71 (bm 52 2047) ?_;refine pu_ 11 72 (bm 52 4095) ?_;refine pu_ 12 73 (bm 52 8191) ?_;refine pu_ 13 74 (bm 52 16383) ?_;refine pu_ 14 75 (bm 52 32767) ?_;refine pu_ 15 76 (bm 52 65535) ?_;refine pu_ 16 77 (bm 52 131071) ?_;refine pu_ 17 78 (bm 52 262143) ?_;refine pu_ 18 79 (bm 52 524287) ?_;refine pu_ 19 80 (bm 52 1048575) ?_;refine pu_ 20 81 (bm 52 2097151) ?_;refine pu_ 21 82 (bm 52 4194303) ?_;refine pu_ 22 83 (bm 52 8388607) ?_;refine pu_ 23 84 (bm 52 16777215) ?_;refine ta_ 24 85 (bm 52 33554431) ?_;refine ta_ 25 86 (bm 52 67108863) ?_;refine ta_ 27 88 (bm 52 201326591) ?_;refine ta_ 28 89 (bm 52 469762047) ?_;refine on_ 26 87 (bm 52 536870911) (fun K hK => ?_);refine gs_ Try.func28 #[.agg #[.int .i64 a0_0,.slice A0_1 l0_1.length c0_1,.slice A0_2 l0_2.length c0_2],.agg #[.slice A1_0 l1_0.length c1_0,.slice A1_1 l1_1.length c1_1]] ?_;(with_reducible refine (inequality_Residue.calls k a0_0 _ _ l0_1 _ _ l0_2 _ _ l1_0 _ _ l1_1 t826 _ (cr_ (CB_ HR0_1.out HB.out)) HC0_1.out (cr_ (CB_ HR0_2.out HB.out)) HC0_2.out (cr_ (CB_ HR1_0.out HB.out)) HC1_0.out (cr_ (CB_ HR1_1.out HB.out)) HC1_1.out A15.out).mono ?_);rintro e w44 ⟨rfl,hb⟩;refine ⟨_,rfl,?_⟩;have n0_:=kb_ BK810 hb;have n1_:=kb_ BK811 hb;have n2_:=hb_ HB hb
         revert n0_ n1_ n2_
         clear BK810 BK811 HB;intro BK810 BK811 HB;(try clear hb);(try clear hb2);(try clear hk);(try clear hi);refine hK.out _ _ ⟨cq_ BK810 0,cq_ BK810 1,cq_ BK810 2,cq_ BK811 0,cq_ BK811 1⟩ (fun hHeld => ?_);clear hK K;refine nm_ 87 ?_;refine on_ 29 90 (bm 52 1073741823) (fun K hK => ?_);refine gs_ Try.func51 #[.agg #[.int .i64 a0_0,.slice A0_1 l0_1.length c0_1,.slice A0_2 l0_2.length c0_2],.agg #[.slice A1_0 l1_0.length c1_0,.slice A1_1 l1_1.length c1_1]] ?_;(with_reducible refine (railplanref13_Residue.calls k a0_0 _ _ l0_1 _ _ l0_2 _ _ l1_0 _ _ l1_1 t827 _ (cr_ (CB_ HR0_1.out HB.out)) HC0_1.out (cr_ (CB_ HR0_2.out HB.out)) HC0_2.out (cr_ (CB_ HR1_0.out HB.out)) HC1_0.out (cr_ (CB_ HR1_1.out HB.out)) HC1_1.out A16.out).mono ?_);rintro e w45 ⟨rfl,hb⟩;refine ⟨_,rfl,?_⟩;have n0_:=kb_ BK810 hb;have n1_:=kb_ BK811 hb;have n2_:=hb_ HB hb
         revert n0_ n1_ n2_
         clear BK810 BK811 HB;intro BK810 BK811 HB;(try clear hb);(try clear hb2);(try clear hk);(try clear hi);refine hK.out _ _ ⟨cq_ BK810 0,cq_ BK810 1,cq_ BK810 2,cq_ BK811 0,cq_ BK811 1⟩ (fun hHeld => ?_);clear hK K;refine nm_ 90 ?_;refine pu_ 30 91 (bm 52 2147483647) ?_;refine pu_ 31 92 (bm 52 4294967295) ?_;refine pu_ 32 93 (bm 52 8589934591) ?_;refine pu_ 33 94 (bm 52 17179869183) ?_;refine pu_ 34 95 (bm 52 34359738367) ?_;refine pu_ 35 96 (bm 52 68719476735) ?_;refine pu_ 36 97 (bm 52 137438953471) ?_;refine pu_ 37 98 (bm 52 274877906943) ?_;refine pu_ 38 99 (bm 52 549755813887) ?_;refine pu_ 39 100 (bm 52 1099511627775) ?_;refine pu_ 40 101 (bm 52 2199023255551) ?_;refine pu_ 41 102 (bm 52 4398046511103) ?_;refine pu_ 42 103 (bm 52 8796093022207) ?_;refine ta_ 43 104 (bm 52 17592186044415) ?_;refine ta_ 44 105 (bm 52 35184372088831) ?_;refine ta_ 46 107 (bm 52 105553116266495) ?_;refine ta_ 47 108 (bm 52 246290604621823) ?_;refine on_ 45 106 (bm 52 281474976710655) (fun K hK => ?_);refine gs_ Try.func19 #[.agg #[.int .i64 a0_0,.slice A0_1 l0_1.length c0_1,.slice A0_2 l0_2.length c0_2],.agg #[.slice A1_0 l1_0.length c1_0,.slice A1_1 l1_1.length c1_1]] ?_;(with_reducible refine (inequality_Right.calls k a0_0 _ _ l0_1 _ _ l0_2 _ _ l1_0 _ _ l1_1 t828 _ (cr_ (CB_ HR0_1.out HB.out)) HC0_1.out (cr_ (CB_ HR0_2.out HB.out)) HC0_2.out (cr_ (CB_ HR1_0.out HB.out)) HC1_0.out (cr_ (CB_ HR1_1.out HB.out)) HC1_1.out A20.out).mono ?_);rintro e w46 ⟨rfl,hb⟩;refine ⟨_,rfl,?_⟩;have n0_:=kb_ BK810 hb;have n1_:=kb_ BK811 hb;have n2_:=hb_ HB hb
         revert n0_ n1_ n2_
         clear BK810 BK811 HB;intro BK810 BK811 HB;(try clear hb);(try clear hb2);(try clear hk);(try clear hi);refine hK.out _ _ ⟨cq_ BK810 0,cq_ BK810 1,cq_ BK810 2,cq_ BK811 0,cq_ BK811 1⟩ (fun hHeld => ?_);clear hK K;refine nm_ 106 ?_;refine on_ 48 109 (bm 52 562949953421311) (fun K hK => ?_);refine gs_ Try.func41 #[.agg #[.int .i64 a0_0,.slice A0_1 l0_1.length c0_1,.slice A0_2 l0_2.length c0_2],.agg #[.slice A1_0 l1_0.length c1_0,.slice A1_1 l1_1.length c1_1]] ?_;(with_reducible refine (railplanref13_Right.calls k a0_0 _ _ l0_1 _ _ l0_2 _ _ l1_0 _ _ l1_1 t829 _ (cr_ (CB_ HR0_1.out HB.out)) HC0_1.out (cr_ (CB_ HR0_2.out HB.out)) HC0_2.out (cr_ (CB_ HR1_0.out HB.out)) HC1_0.out (cr_ (CB_ HR1_1.out HB.out)) HC1_1.out A21.out).mono ?_);rintro e w47 ⟨rfl,hb⟩;refine ⟨_,rfl,?_⟩;have n0_:=kb_ BK810 hb;have n1_:=kb_ BK811 hb;have n2_:=hb_ HB hb
         revert n0_ n1_ n2_
         clear BK810 BK811 HB;intro BK810 BK811 HB;(try clear hb);(try clear hb2);(try clear hk);(try clear hi);refine hK.out _ _ ⟨cq_ BK810 0,cq_ BK810 1,cq_ BK810 2,cq_ BK811 0,cq_ BK811 1⟩ (fun hHeld => ?_);clear hK K;refine nm_ 109 ?_;refine pu_ 49 110 (bm 52 1125899906842623) ?_;refine pu_ 50 111 (bm 52 2251799813685247) ?_;refine pu_ 51 6 (bm 52 4503599627370495) ?_;refine done_ (done_of HT_.out (by kernel_rfl)) ?_;(try go_wp2);(go_ret);(exact ⟨by first|rfl|(simp [errW_none,errW_some] <;> rfl)|(simp [*,errW_none,errW_some] <;> rfl),hB_ HB⟩)
        ·rw [if_neg c19] at H;have c19b0 : (t823 == t825) = false:=beq_eq_false_iff_ne.mpr c19;have c19b1 : (t823 != t825) = true:=bne_iff_ne.mpr c19;(simp at H)
       ·rw [if_neg c18] at H;have c18b0 : (t822 == t824) = false:=beq_eq_false_iff_ne.mpr c18;have c18b1 : (t822 != t824) = true:=bne_iff_ne.mpr c18;(simp at H)
      ·rw [if_neg c17] at H;have c17b0 : (t826 == t827) = false:=beq_eq_false_iff_ne.mpr c17;have c17b1 : (t826 != t827) = true:=bne_iff_ne.mpr c17;(simp at H)
     ·rw [if_neg c14] at H;((have c14b0 : (t819 == t821) = false:=by simpa using c14);(try (have c14b1 : decide (t819 = t821) = false:=by simpa using c14));(try (have c14b2 : (t819 == t821) = false:=by simpa using c14));(try (have c14b3 : ¬ (t819 = t821):=by simpa using c14));clear c14;(simp at H))
    ·rw [if_neg c13] at H;have c13b0 : (t818 == t820) = false:=beq_eq_false_iff_ne.mpr c13;have c13b1 : (t818 != t820) = true:=bne_iff_ne.mpr c13;(simp at H)
   ·rw [if_neg c12] at H;((have c12b0 : (t814 == t817) = false:=by simpa using c12);(try (have c12b1 : decide (t814 = t817) = false:=by simpa using c12));(try (have c12b2 : (t814 == t817) = false:=by simpa using c12));(try (have c12b3 : ¬ (t814 = t817):=by simpa using c12));clear c12;(simp at H))
  ·rw [if_neg c11] at H;have c11b0 : (t813 == t816) = false:=beq_eq_false_iff_ne.mpr c11;have c11b1 : (t813 != t816) = true:=bne_iff_ne.mpr c11;(simp at H)
 ·rw [if_neg c10] at H;have c10b0 : (t812 == t815) = false:=beq_eq_false_iff_ne.mpr c10;have c10b1 : (t812 != t815) = true:=bne_iff_ne.mpr c10;(simp at H)
end Go.Proofs.Ytgbcgbfoejkieaa.PAll
