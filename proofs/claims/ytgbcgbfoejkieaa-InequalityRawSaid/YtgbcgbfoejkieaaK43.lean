-- Packed by wip/tools/pack.py of this session out of what plugprint.py and the kit's print wrote. Lean checks it.
import Derived.Test.YtgbcgbfoejkieaaKS
import Derived.Test.YtgbcgbfoejkieaaK15
import Derived.Test.YtgbcgbfoejkieaaK22
import Derived.Test.YtgbcgbfoejkieaaK28
import Derived.Test.YtgbcgbfoejkieaaK42
namespace Go.Proofs.Ytgbcgbfoejkieaa.PAll
open Go.RowKit Go.Proofs.YtgbcgbfoejkieaaW.PrintWords Go.Proofs.YtgbcgbfoejkieaaW.PrintLast Go.Proofs.YtgbcgbfoejkieaaW.PrintMore
attribute [local go_sem] max2_int min2_int max_two min_two max_three min_three max_four min_four
set_option linter.unusedVariables false
set_option linter.unusedSimpArgs false
/-! ### railplanlaw14_InequalityRaw: function 11 -/
def railplanlaw14_InequalityRaw.f (k : Nat) (a0_0 : Int) (l0_1 : List (S60)) (l0_2 : List (S62)) (l1_0 : List Int) (l1_1 : List Int) (l2 : List (S32)) (l3 : List Int) : Option (Bool):=(inequality_Separate.f k a0_0 l0_1 l0_2 l2 l3).bind fun bt851 => ((railplanref13_Separate.f k a0_0 l0_1 l0_2 l2 l3).bind fun bt854 => ((railplanlaw14_awake.f k).bind fun t857 => (if t857 = true then ((railplanlaw14_agrees.f k a0_0 l0_1 l0_2 l1_0 l1_1 l3).bind fun t858 => (if t858 = true then ((railplanlaw14_small.f).bind fun bt859 => ((railplanlaw14_agrees.f k bt859.1 bt859.2.1 bt859.2.2 l1_0 l1_1 l3).bind fun t866 => (if t866 = true then (if bt851.1 = bt854.1 then (if bt851.2.1 = bt854.2.1 then (some (bt851.2.2 == bt854.2.2)) else (none)) else (none)) else (none)))) else (none))) else (none))))
theorem railplanlaw14_InequalityRaw.mono : ∀ a0 a1 a2 a3 a4 a5 a6 k,LeO (railplanlaw14_InequalityRaw.f k a0 a1 a2 a3 a4 a5 a6) (railplanlaw14_InequalityRaw.f (k + 1) a0 a1 a2 a3 a4 a5 a6):=by
 intro a0 a1 a2 a3 a4 a5 a6 k;(unfold railplanlaw14_InequalityRaw.f)
 repeat' first
   | (with_reducible exact inequality_Separate.mono _ _ _ _ _ _)
   | (with_reducible exact railplanlaw14_agrees.mono _ _ _ _ _ _ _)
   | (with_reducible exact railplanlaw14_awake.mono _)
   | (with_reducible exact railplanref13_Separate.mono _ _ _ _ _ _)
   | (with_reducible exact LeO.refl _)
   | (with_reducible exact LeO.none _)
   | (with_reducible refine LeO.ite ?_ ?_)
   | (with_reducible refine LeO.bind ?_ (fun _ => ?_))
   | exact inequality_Separate.mono _ _ _ _ _ _
   | exact railplanlaw14_agrees.mono _ _ _ _ _ _ _
   | exact railplanlaw14_awake.mono _
   | exact railplanref13_Separate.mono _ _ _ _ _ _
   | exact LeO.none _
   | refine LeO.ite ?_ ?_
   | refine LeO.bind ?_ (fun _ => ?_)
def railplanlaw14_InequalityRaw.T3 : Bool × List (List Nat × List Nat):=(true,[([],[]),([0,0],[0]),([1],[1]),([1],[1]),([1],[1]),([2,3,4,1,1],[1,2,3,4]),([1,5],[1,5]),([6,5],[6]),([7,7],[7]),([7],[7]),([7],[7]),([8,9,10,8,7],[7,8,9,10]),([7,11],[7,11]),([12,11],[12]),([13],[13]),([13],[13]),([14,15,13],[13,14,15]),([13,16],[13,16]),([17,13],[17]),([18],[18]),([18],[18]),([19,20,18],[18,19,20]),([18,21],[18,21]),([22,18],[22]),([23],[23]),([23],[23]),([24,25,23],[23,24,25]),([23,26],[23,26]),([27,23,0,1,2,3,4,5,6,7,8,9,10,11,12,13,14,15,16,17,18,19,20,21,22,23,24,25,26,27],[27])])
def railplanlaw14_InequalityRaw.B3 : List Nat:=[0,1,3,3,3,31,63,127,255,255,255,2047,4095,8191,16383,16383,65535,131071,262143,524287,524287,2097151,4194303,8388607,16777215,16777215,67108863,134217727,268435455]
theorem railplanlaw14_InequalityRaw.tab3 : rtab .any (opsOf Try.f11 3) = railplanlaw14_InequalityRaw.T3:=by kernel_rfl
theorem railplanlaw14_InequalityRaw.bits3 : waitsOk railplanlaw14_InequalityRaw.T3.2 railplanlaw14_InequalityRaw.B3 = true:=by kernel_rfl
set_option maxHeartbeats 8000000 in
set_option maxRecDepth 100000 in
theorem railplanlaw14_InequalityRaw.calls (k : Nat) (a0_0 : Int) (A0_1 : Option Addr) (c0_1 : Nat) (l0_1 : List (S60)) (A0_2 : Option Addr) (c0_2 : Nat) (l0_2 : List (S62)) (A1_0 : Option Addr) (c1_0 : Nat) (l1_0 : List Int) (A1_1 : Option Addr) (c1_1 : Nat) (l1_1 : List Int) (A2 : Option Addr) (c2 : Nat) (l2 : List (S32)) (A3 : Option Addr) (c3 : Nat) (l3 : List Int) (r : Bool) (w : World) (hr0_1 : Kd.C k60 w A0_1 l0_1.length l0_1) (hc0_1 : l0_1.length ≤ c0_1) (hr0_2 : Kd.C k62 w A0_2 l0_2.length l0_2) (hc0_2 : l0_2.length ≤ c0_2) (hr1_0 : Kd.C (Kd.int .i64) w A1_0 l1_0.length l1_0) (hc1_0 : l1_0.length ≤ c1_0) (hr1_1 : Kd.C (Kd.int .i64) w A1_1 l1_1.length l1_1) (hc1_1 : l1_1.length ≤ c1_1) (hr2 : Kd.C k32 w A2 l2.length l2) (hc2 : l2.length ≤ c2) (hr3 : Kd.C (Kd.int .i64) w A3 l3.length l3) (hc3 : l3.length ≤ c3) (h : railplanlaw14_InequalityRaw.f k a0_0 l0_1 l0_2 l1_0 l1_1 l2 l3 = some r) :
  Calls Try.prog 11 #[.agg #[.int .i64 a0_0,.slice A0_1 l0_1.length c0_1,.slice A0_2 l0_2.length c0_2],.agg #[.slice A1_0 l1_0.length c1_0,.slice A1_1 l1_1.length c1_1],.slice A2 l2.length c2,.slice A3 l3.length c3] w fun e w' => e = .returned (.bool r) ∧ Below w.heap.size w w':=by
 have hu26:=Try.underlying26
 have hu32:=Try.underlying32
 have HR0_1:=am_ hr0_1
 have HC0_1:=am_ hc0_1
 clear hr0_1 hc0_1
 have HR0_2:=am_ hr0_2
 have HC0_2:=am_ hc0_2
 clear hr0_2 hc0_2
 have HR1_0:=am_ hr1_0
 have HC1_0:=am_ hc1_0
 clear hr1_0 hc1_0
 have HR1_1:=am_ hr1_1
 have HC1_1:=am_ hc1_1
 clear hr1_1 hc1_1
 have HR2:=am_ hr2
 have HC2:=am_ hc2
 clear hr2 hc2
 have HR3:=am_ hr3
 have HC3:=am_ hc3
 clear hr3 hc3
 have HB:=am_ (Below.refl w.heap.size w)
 have H : ((inequality_Separate.f k a0_0 l0_1 l0_2 l2 l3).bind fun bt851 => ((railplanref13_Separate.f k a0_0 l0_1 l0_2 l2 l3).bind fun bt854 => ((railplanlaw14_awake.f k).bind fun t857 => (if t857 = true then ((railplanlaw14_agrees.f k a0_0 l0_1 l0_2 l1_0 l1_1 l3).bind fun t858 => (if t858 = true then ((railplanlaw14_small.f).bind fun bt859 => ((railplanlaw14_agrees.f k bt859.1 bt859.2.1 bt859.2.2 l1_0 l1_1 l3).bind fun t866 => (if t866 = true then (if bt851.1 = bt854.1 then (if bt851.2.1 = bt854.2.1 then (some (bt851.2.2 == bt854.2.2)) else (none)) else (none)) else (none)))) else (none))) else (none))))) = some r:=h
 clear h
 replace H:=be_ H
 obtain ⟨⟨t851,t852,t853⟩,A50,H⟩:=H
 replace H : ((railplanref13_Separate.f k a0_0 l0_1 l0_2 l2 l3).bind fun bt854 => ((railplanlaw14_awake.f k).bind fun t857 => (if t857 = true then ((railplanlaw14_agrees.f k a0_0 l0_1 l0_2 l1_0 l1_1 l3).bind fun t858 => (if t858 = true then ((railplanlaw14_small.f).bind fun bt859 => ((railplanlaw14_agrees.f k bt859.1 bt859.2.1 bt859.2.2 l1_0 l1_1 l3).bind fun t866 => (if t866 = true then (if t851 = bt854.1 then (if t852 = bt854.2.1 then (some (t853 == bt854.2.2)) else (none)) else (none)) else (none)))) else (none))) else (none)))) = some r:=H
 have A5:=am_ A50
 clear A50
 replace H:=be_ H
 obtain ⟨⟨t854,t855,t856⟩,A60,H⟩:=H
 replace H : ((railplanlaw14_awake.f k).bind fun t857 => (if t857 = true then ((railplanlaw14_agrees.f k a0_0 l0_1 l0_2 l1_0 l1_1 l3).bind fun t858 => (if t858 = true then ((railplanlaw14_small.f).bind fun bt859 => ((railplanlaw14_agrees.f k bt859.1 bt859.2.1 bt859.2.2 l1_0 l1_1 l3).bind fun t866 => (if t866 = true then (if t851 = t854 then (if t852 = t855 then (some (t853 == t856)) else (none)) else (none)) else (none)))) else (none))) else (none))) = some r:=H
 have A6:=am_ A60
 clear A60
 replace H:=be_ H
 obtain ⟨t857,A70,H⟩:=H
 replace H : (if t857 = true then ((railplanlaw14_agrees.f k a0_0 l0_1 l0_2 l1_0 l1_1 l3).bind fun t858 => (if t858 = true then ((railplanlaw14_small.f).bind fun bt859 => ((railplanlaw14_agrees.f k bt859.1 bt859.2.1 bt859.2.2 l1_0 l1_1 l3).bind fun t866 => (if t866 = true then (if t851 = t854 then (if t852 = t855 then (some (t853 == t856)) else (none)) else (none)) else (none)))) else (none))) else (none)) = some r:=H
 have A7:=am_ A70
 clear A70
 by_cases c8 : t857 = true
 ·subst c8
  (have H1 : ((railplanlaw14_agrees.f k a0_0 l0_1 l0_2 l1_0 l1_1 l3).bind fun t858 => (if t858 = true then ((railplanlaw14_small.f).bind fun bt859 => ((railplanlaw14_agrees.f k bt859.1 bt859.2.1 bt859.2.2 l1_0 l1_1 l3).bind fun t866 => (if t866 = true then (if t851 = t854 then (if t852 = t855 then (some (t853 == t856)) else (none)) else (none)) else (none)))) else (none))) = some r:=by rw [if_pos rfl] at H;exact H);clear H;have H:=H1;clear H1;replace H:=be_ H;obtain ⟨t858,A90,H⟩:=H;replace H : (if t858 = true then ((railplanlaw14_small.f).bind fun bt859 => ((railplanlaw14_agrees.f k bt859.1 bt859.2.1 bt859.2.2 l1_0 l1_1 l3).bind fun t866 => (if t866 = true then (if t851 = t854 then (if t852 = t855 then (some (t853 == t856)) else (none)) else (none)) else (none)))) else (none)) = some r:=H;have A9:=am_ A90;clear A90
  by_cases c10 : t858 = true
  ·subst c10
   (have H1 : ((railplanlaw14_small.f).bind fun bt859 => ((railplanlaw14_agrees.f k bt859.1 bt859.2.1 bt859.2.2 l1_0 l1_1 l3).bind fun t866 => (if t866 = true then (if t851 = t854 then (if t852 = t855 then (some (t853 == t856)) else (none)) else (none)) else (none)))) = some r:=by rw [if_pos rfl] at H;exact H);clear H;have H:=H1;clear H1;replace H:=be_ H;obtain ⟨⟨t859,t860,t863⟩,A110,H⟩:=H;replace H : ((railplanlaw14_agrees.f k t859 t860 t863 l1_0 l1_1 l3).bind fun t866 => (if t866 = true then (if t851 = t854 then (if t852 = t855 then (some (t853 == t856)) else (none)) else (none)) else (none))) = some r:=H;have A11:=am_ A110;clear A110;replace H:=be_ H;obtain ⟨t866,A120,H⟩:=H;replace H : (if t866 = true then (if t851 = t854 then (if t852 = t855 then (some (t853 == t856)) else (none)) else (none)) else (none)) = some r:=H;have A12:=am_ A120;clear A120
   by_cases c13 : t866 = true
   ·subst c13
    (have H1 : (if t851 = t854 then (if t852 = t855 then (some (t853 == t856)) else (none)) else (none)) = some r:=by rw [if_pos rfl] at H;exact H);clear H;have H:=H1;clear H1
    by_cases c14 : t851 = t854
    ·rw [if_pos c14] at H
     have c14b0 : (t851 == t854) = true:=beq_iff_eq.mpr c14;have c14b1 : (t851 != t854) = false:=bne_eq_false_iff_eq.mpr c14;clear c14
     by_cases c15 : t852 = t855
     ·rw [if_pos c15] at H
      have c15b0 : (t852 == t855) = true:=beq_iff_eq.mpr c15;have c15b1 : (t852 != t855) = false:=bne_eq_false_iff_eq.mpr c15;clear c15;obtain rfl:=Option.some.inj H;(go_enter Try.func11,Try.ntmps11);(try go_wp2_with (first|((with_reducible refine gd_ (N:=4) rfl ?_);refine bx2_ 4 #[.int .i64 a0_0,.slice A0_1 l0_1.length c0_1,.slice A0_2 l0_2.length c0_2] 26 (fun gb849 hg w16 hbox hb => ?_);have n0_:=hb_ HB hb;have n1_:=am_ (hbox);have n2_ : Aside0 (w.heap.size ≤ gb849):=gz_ hg HB;have n3_ : Aside0 (w.heap.size ≤ gb849):=gz_ hg HB;revert n0_ n1_ n2_ n3_;clear HB;intro HB BK849 GW849 GE849;clear hb hbox hg)|((with_reducible refine gd_ (N:=5) rfl ?_);refine bx2_ 5 #[.slice A1_0 l1_0.length c1_0,.slice A1_1 l1_1.length c1_1] 32 (fun gb850 hg w17 hbox hb => ?_);have n0_:=kb_ BK849 hb;have n1_:=hb_ HB hb;have n2_:=am_ (hbox);have n3_ : Aside0 (w.heap.size ≤ gb850):=gz_ hg HB;have n4_ : Aside0 (w.heap.size ≤ gb850):=gz_ hg HB;have n5_:=nl_ hg BK849;have n6_:=ng_ hg BK849;revert n0_ n1_ n2_ n3_ n4_ n5_ n6_;clear BK849 HB;intro BK849 HB BK850 GW850 GE850 NB849_850 NB850_849;clear hb hbox hg;have hnb18:=NB849_850.out;have hnc18:=NB850_849.out;have hcz19_0:=cA_ BK849;have hfz19_0:=fA_ BK849)|((with_reducible refine gc_ (f:=21) rfl ?_);refine gl_ (some 19) Try.func21 #[.agg #[.int .i64 a0_0,.slice A0_1 l0_1.length c0_1,.slice A0_2 l0_2.length c0_2],.slice A2 l2.length c2,.slice A3 l3.length c3] ?_;(with_reducible refine (inequality_Separate.calls k a0_0 _ _ l0_1 _ _ l0_2 _ _ l2 _ _ l3 t851 t852 t853 _ (cr_ (CB_ HR0_1.out HB.out)) HC0_1.out (cr_ (CB_ HR0_2.out HB.out)) HC0_2.out (cr_ (CB_ HR2.out HB.out)) HC2.out (cr_ (CB_ HR3.out HB.out)) HC3.out A5.out).mono ?_);rintro e w20 ⟨rfl,hb⟩;refine ⟨_,rfl,?_⟩;have n0_:=kb_ BK849 hb;have n1_:=kb_ BK850 hb;have n2_:=hb_ HB hb;revert n0_ n1_ n2_;clear BK849 BK850 HB;intro BK849 BK850 HB;(try clear hb);(try clear hb2);(try clear hk);(try clear hi);have hcz21_0:=cA_ BK849;have hfz21_0:=fA_ BK849)|((with_reducible refine gc_ (f:=22) rfl ?_);refine gl_ (some 27) Try.func22 #[.agg #[.int .i64 a0_0,.slice A0_1 l0_1.length c0_1,.slice A0_2 l0_2.length c0_2],.slice A2 l2.length c2,.slice A3 l3.length c3] ?_;(with_reducible refine (railplanref13_Separate.calls k a0_0 _ _ l0_1 _ _ l0_2 _ _ l2 _ _ l3 t854 t855 t856 _ (cr_ (CB_ HR0_1.out HB.out)) HC0_1.out (cr_ (CB_ HR0_2.out HB.out)) HC0_2.out (cr_ (CB_ HR2.out HB.out)) HC2.out (cr_ (CB_ HR3.out HB.out)) HC3.out A6.out).mono ?_);rintro e w22 ⟨rfl,hb⟩;refine ⟨_,rfl,?_⟩;have n0_:=kb_ BK849 hb;have n1_:=kb_ BK850 hb;have n2_:=hb_ HB hb;revert n0_ n1_ n2_;clear BK849 BK850 HB;intro BK849 BK850 HB;(try clear hb);(try clear hb2);(try clear hk);(try clear hi))));have n0_:=am_ (kD_ BK849.out);have n1_:=am_ (kD_ BK850.out);have n2_:=am_ (b1_ HB.out)
      revert n0_ n1_ n2_
      clear BK849 BK850 HB;intro BK849 BK850 HB;refine start_ (n:=29) (S:=fun w' => c_ w' gb849 0 (.int .i64 a0_0) ∧ c_ w' gb849 1 (.slice A0_1 l0_1.length c0_1) ∧ c_ w' gb849 2 (.slice A0_2 l0_2.length c0_2) ∧ c_ w' gb850 0 (.slice A1_0 l1_0.length c1_0) ∧ c_ w' gb850 1 (.slice A1_1 l1_1.length c1_1)) (ds:=[]) (bm 29 0) (by kernel_rfl) rfl rfl ⟨cq_ BK849 0,cq_ BK849 1,cq_ BK849 2,cq_ BK850 0,cq_ BK850 1⟩ (fun hHeld => ?_);refine with_tabW railplanlaw14_InequalityRaw.tab3 railplanlaw14_InequalityRaw.bits3 (fun HT_ HW_ => ?_);generalize w22.drew = w23 at BK849 BK850 HB hHeld ⊢;refine on_ 0 31 (bm 29 1) (fun K hK => ?_);refine gs_ Try.func14 #[] ?_;(with_reducible refine (railplanlaw14_awake.calls k  true _ A7.out).mono ?_);rintro e w24 ⟨rfl,hb⟩;refine ⟨_,rfl,?_⟩;have n0_:=kb_ BK849 hb;have n1_:=kb_ BK850 hb;have n2_:=hb_ HB hb
      revert n0_ n1_ n2_
      clear BK849 BK850 HB;intro BK849 BK850 HB;(try clear hb);(try clear hb2);(try clear hk);(try clear hi);refine hK.out _ _ ⟨cq_ BK849 0,cq_ BK849 1,cq_ BK849 2,cq_ BK850 0,cq_ BK850 1⟩ (fun hHeld => ?_);clear hK K;refine nm_ 31 ?_;refine pu_ 1 32 (bm 29 3) ?_;refine pu_ 4 35 (bm 29 19) ?_;refine ta_ 2 33 (bm 29 23) ?_;refine ta_ 3 34 (bm 29 31) ?_;refine on_ 5 36 (bm 29 63) (fun K hK => ?_);refine gs_ Try.func31 #[.agg #[.int .i64 a0_0,.slice A0_1 l0_1.length c0_1,.slice A0_2 l0_2.length c0_2],.agg #[.slice A1_0 l1_0.length c1_0,.slice A1_1 l1_1.length c1_1],.slice A3 l3.length c3] ?_;(with_reducible refine (railplanlaw14_agrees.calls k a0_0 _ _ l0_1 _ _ l0_2 _ _ l1_0 _ _ l1_1 _ _ l3 true _ (cr_ (CB_ HR0_1.out HB.out)) HC0_1.out (cr_ (CB_ HR0_2.out HB.out)) HC0_2.out (cr_ (CB_ HR1_0.out HB.out)) HC1_0.out (cr_ (CB_ HR1_1.out HB.out)) HC1_1.out (cr_ (CB_ HR3.out HB.out)) HC3.out A9.out).mono ?_);rintro e w25 ⟨rfl,hb⟩;refine ⟨_,rfl,?_⟩;have n0_:=kb_ BK849 hb;have n1_:=kb_ BK850 hb;have n2_:=hb_ HB hb
      revert n0_ n1_ n2_
      clear BK849 BK850 HB;intro BK849 BK850 HB;(try clear hb);(try clear hb2);(try clear hk);(try clear hi);refine hK.out _ _ ⟨cq_ BK849 0,cq_ BK849 1,cq_ BK849 2,cq_ BK850 0,cq_ BK850 1⟩ (fun hHeld => ?_);clear hK K;refine nm_ 36 ?_;refine pu_ 6 37 (bm 29 127) ?_;refine pu_ 7 38 (bm 29 255) ?_;refine pu_ 10 41 (bm 29 1279) ?_;refine ta_ 9 40 (bm 29 1791) ?_;refine on_ 8 39 (bm 29 2047) (fun K hK => ?_);refine gs_ Try.func29 #[] ?_;(with_reducible refine (railplanlaw14_small.calls  t859 t860 t863 _ A11.out).mono ?_);rintro e w26 ⟨v861,v864,rfl,ho0,ho1,hb⟩;refine ⟨_,rfl,?_⟩;have n0_:=am_ (RL_ ho0 (bz_ (hB_ HB)));have n1_:=am_ (RL_ ho1 (bz_ (hB_ HB)));have n2_:=kb_ BK849 hb;have n3_:=kb_ BK850 hb;have n4_:=hb_ HB hb
      revert n0_ n1_ n2_ n3_ n4_
      clear BK849 BK850 HB;intro HO862 HO865 BK849 BK850 HB;(try clear hb);(try clear hb2);(try clear hk);(try clear hi);(try clear ho0);(try clear ho1);obtain ⟨Ao27,co27,eo27⟩:=RS_ HO862.out;(first|subst eo27|(injection eo27 with f1_ f2_ f3_;have f4_:=f1_.symm;have f5_:=f3_.symm;clear f1_ f2_ f3_;subst f4_;subst f5_));obtain ⟨Ao28,co28,eo28⟩:=RS_ HO865.out;(first|subst eo28|(injection eo28 with f1_ f2_ f3_;have f4_:=f1_.symm;have f5_:=f3_.symm;clear f1_ f2_ f3_;subst f4_;subst f5_));refine hK.out _ _ ⟨cq_ BK849 0,cq_ BK849 1,cq_ BK849 2,cq_ BK850 0,cq_ BK850 1⟩ (fun hHeld => ?_);clear hK K;refine nm_ 39 ?_;refine on_ 11 42 (bm 29 4095) (fun K hK => ?_);refine gs_ Try.func31 #[.agg #[.int .i64 t859,.slice Ao27 t860.length co27,.slice Ao28 t863.length co28],.agg #[.slice A1_0 l1_0.length c1_0,.slice A1_1 l1_1.length c1_1],.slice A3 l3.length c3] ?_;(with_reducible refine (railplanlaw14_agrees.calls k t859 _ _ t860 _ _ t863 _ _ l1_0 _ _ l1_1 _ _ l3 true _ (cr_ (RR_ HO862.out).2.2) (RR_ HO862.out).2.1 (cr_ (RR_ HO865.out).2.2) (RR_ HO865.out).2.1 (cr_ (CB_ HR1_0.out HB.out)) HC1_0.out (cr_ (CB_ HR1_1.out HB.out)) HC1_1.out (cr_ (CB_ HR3.out HB.out)) HC3.out A12.out).mono ?_);rintro e w29 ⟨rfl,hb⟩;refine ⟨_,rfl,?_⟩;have n0_:=rb_ HO862 hb;have n1_:=rb_ HO865 hb;have n2_:=kb_ BK849 hb;have n3_:=kb_ BK850 hb;have n4_:=hb_ HB hb
      revert n0_ n1_ n2_ n3_ n4_
      clear HO862 HO865 BK849 BK850 HB;intro HO862 HO865 BK849 BK850 HB;(try clear hb);(try clear hb2);(try clear hk);(try clear hi);refine hK.out _ _ ⟨cq_ BK849 0,cq_ BK849 1,cq_ BK849 2,cq_ BK850 0,cq_ BK850 1⟩ (fun hHeld => ?_);clear hK K;refine nm_ 42 ?_;refine pu_ 12 43 (bm 29 8191) ?_;refine pu_ 13 44 (bm 29 16383) ?_;refine pu_ 14 45 (bm 29 32767) ?_;refine pu_ 15 46 (bm 29 65535) ?_;refine pu_ 16 47 (bm 29 131071) ?_;refine pu_ 17 48 (bm 29 262143) ?_;refine pu_ 18 49 (bm 29 524287) ?_;refine pu_ 19 50 (bm 29 1048575) ?_;refine pu_ 20 51 (bm 29 2097151) ?_;refine pu_ 21 52 (bm 29 4194303) ?_;refine pu_ 22 53 (bm 29 8388607) ?_;refine pu_ 23 54 (bm 29 16777215) ?_;refine pu_ 24 55 (bm 29 33554431) ?_;refine pu_ 25 56 (bm 29 67108863) ?_;refine pu_ 26 57 (bm 29 134217727) ?_;refine pu_ 27 58 (bm 29 268435455) ?_;refine pu_ 28 8 (bm 29 536870911) ?_;refine done_ (done_of HT_.out (by kernel_rfl)) ?_;(try go_wp2);(go_ret);(exact ⟨by first|rfl|(simp [errW_none,errW_some] <;> rfl)|(simp [*,errW_none,errW_some] <;> rfl),hB_ HB⟩)
     ·rw [if_neg c15] at H;have c15b0 : (t852 == t855) = false:=beq_eq_false_iff_ne.mpr c15;have c15b1 : (t852 != t855) = true:=bne_iff_ne.mpr c15;(simp at H)
    ·rw [if_neg c14] at H;have c14b0 : (t851 == t854) = false:=beq_eq_false_iff_ne.mpr c14;have c14b1 : (t851 != t854) = true:=bne_iff_ne.mpr c14;(simp at H)
   ·replace c13:=Bool.eq_false_iff.mpr c13;subst c13;(have H1 : (none) = some r:=by rw [if_neg (show ¬ (false = true) by decide)] at H;exact H);clear H;have H:=H1;clear H1;(simp at H)
  ·replace c10:=Bool.eq_false_iff.mpr c10;subst c10;(have H1 : (none) = some r:=by rw [if_neg (show ¬ (false = true) by decide)] at H;exact H);clear H;have H:=H1;clear H1;(simp at H)
 ·replace c8:=Bool.eq_false_iff.mpr c8;subst c8;(have H1 : (none) = some r:=by rw [if_neg (show ¬ (false = true) by decide)] at H;exact H);clear H;have H:=H1;clear H1;(simp at H)
end Go.Proofs.Ytgbcgbfoejkieaa.PAll
