-- Packed by wip/tools/pack.py of this session out of what plugprint.py and the kit's print wrote. Lean checks it.
import Derived.Test.YtgbcgbfoejkieaaIS
import Derived.Test.YtgbcgbfoejkieaaI11
import Derived.Test.YtgbcgbfoejkieaaI13
import Derived.Test.YtgbcgbfoejkieaaI14
namespace Go.Proofs.Ytgbcgbfoejkieaa.PAll
open Go.RowKit Go.Proofs.YtgbcgbfoejkieaaW.PrintWords Go.Proofs.YtgbcgbfoejkieaaW.PrintLast Go.Proofs.YtgbcgbfoejkieaaW.PrintMore
attribute [local go_sem] max2_int min2_int max_two min_two max_three min_three max_four min_four
set_option linter.unusedVariables false
set_option linter.unusedSimpArgs false
/-! ### arith_Mod: function 48 -/
def arith_Mod.f (a0 : Int) (a1 : Int) : Option (Int):=if a1 < 1 then (some 0) else (if a1 = 0 then (none) else (if (Int.tmod a0 a1) < 0 then (some (wrap64 ((Int.tmod a0 a1) + a1))) else (some (Int.tmod a0 a1))))
set_option maxHeartbeats 8000000 in
set_option maxRecDepth 100000 in
theorem arith_Mod.calls (a0 : Int) (a1 : Int) (r : Int) (w : World) (h : arith_Mod.f a0 a1 = some r) :
  Calls Try.prog 48 #[.int .i64 a0,.int .i64 a1] w fun e w' => e = .returned (.int .i64 r) ∧ Drawn0 w w':=by
 have H : (if a1 < 1 then (some 0) else (if a1 = 0 then (none) else (if (Int.tmod a0 a1) < 0 then (some (wrap64 ((Int.tmod a0 a1) + a1))) else (some (Int.tmod a0 a1))))) = some r:=h
 clear h
 by_cases c3 : a1 < 1
 ·rw [if_pos c3] at H;have c3b0:=decide_eq_true c3;clear c3;obtain rfl:=Option.some.inj H;(go_enter Try.func48,Try.ntmps48);(go_wp2);(go_ret);exact ⟨by first|rfl|(simp;done)|(simp [*];done),by repeat (first|exact Drawn0.refl _|apply Drawn0.step)⟩
 ·rw [if_neg c3] at H
  have c3b0:=decide_eq_false c3;clear c3
  by_cases c4 : a1 = 0
  ·rw [if_pos c4] at H;(simp at H)
  ·rw [if_neg c4] at H
   have c4b0 : (a1 == 0) = false:=beq_eq_false_iff_ne.mpr c4;have c4b1 : (a1 != 0) = true:=bne_iff_ne.mpr c4
   by_cases c5 : (Int.tmod a0 a1) < 0
   (·rw [if_pos c5] at H;have c5b0:=decide_eq_true c5;clear c5;obtain rfl:=Option.some.inj H;(go_enter Try.func48,Try.ntmps48);(go_wp2);(go_ret);exact ⟨by first|rfl|(simp;done)|(simp [*];done),by repeat (first|exact Drawn0.refl _|apply Drawn0.step)⟩);(·rw [if_neg c5] at H;have c5b0:=decide_eq_false c5;clear c5;obtain rfl:=Option.some.inj H;(go_enter Try.func48,Try.ntmps48);(go_wp2);(go_ret);exact ⟨by first|rfl|(simp;done)|(simp [*];done),by repeat (first|exact Drawn0.refl _|apply Drawn0.step)⟩)
/-! ### inequality_Residue: function 28 -/
def inequality_Residue.f (k : Nat) (a0_0 : Int) (l0_1 : List (S60)) (l0_2 : List (S62)) (l1_0 : List Int) (l1_1 : List Int) : Option (Int):=(cycles_Check.f k a0_0 l0_1 l0_2 l1_0 l1_1).bind fun t326 => (if t326 = true then ((inequality_of.f k a0_0 l0_1 l0_2 l1_0 l1_1).bind fun bt327 => ((arith_Mod.f (wrap64 (-bt327.1)) a0_0).bind fun t330 => (some t330))) else (some 0))
theorem inequality_Residue.mono : ∀ a0 a1 a2 a3 a4 k,LeO (inequality_Residue.f k a0 a1 a2 a3 a4) (inequality_Residue.f (k + 1) a0 a1 a2 a3 a4):=by
 intro a0 a1 a2 a3 a4 k;(unfold inequality_Residue.f)
 repeat' first
   | (with_reducible exact cycles_Check.mono _ _ _ _ _ _)
   | (with_reducible exact inequality_of.mono _ _ _ _ _ _)
   | (with_reducible exact LeO.refl _)
   | (with_reducible exact LeO.none _)
   | (with_reducible refine LeO.ite ?_ ?_)
   | (with_reducible refine LeO.bind ?_ (fun _ => ?_))
   | exact cycles_Check.mono _ _ _ _ _ _
   | exact inequality_of.mono _ _ _ _ _ _
   | exact LeO.none _
   | refine LeO.ite ?_ ?_
   | refine LeO.bind ?_ (fun _ => ?_)
def inequality_Residue.T3 : Bool × List (List Nat × List Nat):=(true,[([],[]),([],[]),([0,1],[0,1]),([2],[2]),([3],[3]),([],[]),([5],[5]),([4,6,2],[4,6]),([7,7,0,1,2,3,4,5,6,7],[7])])
def inequality_Residue.B3 : List Nat:=[0,0,3,7,15,0,32,127,255]
theorem inequality_Residue.tab3 : rtab .any (opsOf Try.f28 3) = inequality_Residue.T3:=by kernel_rfl
theorem inequality_Residue.bits3 : waitsOk inequality_Residue.T3.2 inequality_Residue.B3 = true:=by kernel_rfl
attribute [local go_sem] Go.Instr.field Go.asAgg in
set_option maxHeartbeats 8000000 in
set_option maxRecDepth 100000 in
theorem inequality_Residue.calls (k : Nat) (a0_0 : Int) (A0_1 : Option Addr) (c0_1 : Nat) (l0_1 : List (S60)) (A0_2 : Option Addr) (c0_2 : Nat) (l0_2 : List (S62)) (A1_0 : Option Addr) (c1_0 : Nat) (l1_0 : List Int) (A1_1 : Option Addr) (c1_1 : Nat) (l1_1 : List Int) (r : Int) (w : World) (hr0_1 : Kd.C k60 w A0_1 l0_1.length l0_1) (hc0_1 : l0_1.length ≤ c0_1) (hr0_2 : Kd.C k62 w A0_2 l0_2.length l0_2) (hc0_2 : l0_2.length ≤ c0_2) (hr1_0 : Kd.C (Kd.int .i64) w A1_0 l1_0.length l1_0) (hc1_0 : l1_0.length ≤ c1_0) (hr1_1 : Kd.C (Kd.int .i64) w A1_1 l1_1.length l1_1) (hc1_1 : l1_1.length ≤ c1_1) (h : inequality_Residue.f k a0_0 l0_1 l0_2 l1_0 l1_1 = some r) :
  Calls Try.prog 28 #[.agg #[.int .i64 a0_0,.slice A0_1 l0_1.length c0_1,.slice A0_2 l0_2.length c0_2],.agg #[.slice A1_0 l1_0.length c1_0,.slice A1_1 l1_1.length c1_1]] w fun e w' => e = .returned (.int .i64 r) ∧ Below w.heap.size w w':=by
 have hu75:=Try.underlying75
 have hu26:=Try.underlying26
 have hu32:=Try.underlying32
 have HR0_1:=am_ hr0_1
 have HC0_1:=am_ hc0_1
 clear hr0_1 hc0_1
 have HR0_2:=am_ hr0_2
 have HC0_2:=am_ hc0_2
 clear hr0_2 hc0_2
 have HR1_0:=am_ hr1_0
 have HC1_0:=am_ hc1_0
 clear hr1_0 hc1_0
 have HR1_1:=am_ hr1_1
 have HC1_1:=am_ hc1_1
 clear hr1_1 hc1_1
 have HB:=am_ (Below.refl w.heap.size w)
 have H : ((cycles_Check.f k a0_0 l0_1 l0_2 l1_0 l1_1).bind fun t326 => (if t326 = true then ((inequality_of.f k a0_0 l0_1 l0_2 l1_0 l1_1).bind fun bt327 => ((arith_Mod.f (wrap64 (-bt327.1)) a0_0).bind fun t330 => (some t330))) else (some 0))) = some r:=h
 clear h
 replace H:=be_ H
 obtain ⟨t326,A30,H⟩:=H
 have A3:=am_ A30
 clear A30
 by_cases c4 : t326 = true
 ·subst c4
  rw [if_pos rfl] at H;replace H:=be_ H;obtain ⟨⟨t327,t328,t329⟩,A50,H⟩:=H;(try dsimp only at H);have A5:=am_ A50;clear A50;replace H:=be_ H;obtain ⟨t330,A60,H⟩:=H;have A6:=am_ A60;clear A60;obtain rfl:=Option.some.inj H;(go_enter Try.func28,Try.ntmps28);(try go_wp2_with (first|((with_reducible refine gd_ (N:=2) rfl ?_);refine bx2_ 2 #[.int .i64 a0_0,.slice A0_1 l0_1.length c0_1,.slice A0_2 l0_2.length c0_2] 26 (fun gb324 hg w7 hbox hb => ?_);have n0_:=hb_ HB hb;have n1_:=am_ (hbox);have n2_ : Aside0 (w.heap.size ≤ gb324):=gz_ hg HB;have n3_ : Aside0 (w.heap.size ≤ gb324):=gz_ hg HB;revert n0_ n1_ n2_ n3_;clear HB;intro HB BK324 GW324 GE324;clear hb hbox hg)|((with_reducible refine gd_ (N:=3) rfl ?_);refine bx2_ 3 #[.slice A1_0 l1_0.length c1_0,.slice A1_1 l1_1.length c1_1] 32 (fun gb325 hg w8 hbox hb => ?_);have n0_:=kb_ BK324 hb;have n1_:=hb_ HB hb;have n2_:=am_ (hbox);have n3_ : Aside0 (w.heap.size ≤ gb325):=gz_ hg HB;have n4_ : Aside0 (w.heap.size ≤ gb325):=gz_ hg HB;have n5_:=nl_ hg BK324;have n6_:=ng_ hg BK324;revert n0_ n1_ n2_ n3_ n4_ n5_ n6_;clear BK324 HB;intro BK324 HB BK325 GW325 GE325 NB324_325 NB325_324;clear hb hbox hg;have hnb9:=NB324_325.out;have hnc9:=NB325_324.out;have hcz10_0:=cA_ BK324;have hfz10_0:=fA_ BK324;have hcz11_0:=cA_ BK325;have hfz11_0:=fA_ BK325)|((with_reducible refine gc_ (f:=36) rfl ?_);refine gl_ (some 7) Try.func36 #[.agg #[.int .i64 a0_0,.slice A0_1 l0_1.length c0_1,.slice A0_2 l0_2.length c0_2],.agg #[.slice A1_0 l1_0.length c1_0,.slice A1_1 l1_1.length c1_1]] ?_;(with_reducible refine (cycles_Check.calls k a0_0 _ _ l0_1 _ _ l0_2 _ _ l1_0 _ _ l1_1 true _ (cr_ (CB_ HR0_1.out HB.out)) HC0_1.out (cr_ (CB_ HR0_2.out HB.out)) HC0_2.out (cr_ (CB_ HR1_0.out HB.out)) HC1_0.out (cr_ (CB_ HR1_1.out HB.out)) HC1_1.out A3.out).mono ?_);rintro e w12 ⟨rfl,hb⟩;refine ⟨_,rfl,?_⟩;have n0_:=kb_ BK324 hb;have n1_:=kb_ BK325 hb;have n2_:=hb_ HB hb;revert n0_ n1_ n2_;clear BK324 BK325 HB;intro BK324 BK325 HB;(try clear hb);(try clear hb2);(try clear hk);(try clear hi))));have n0_:=am_ (kD_ BK324.out);have n1_:=am_ (kD_ BK325.out);have n2_:=am_ (b1_ HB.out)
  revert n0_ n1_ n2_
  clear BK324 BK325 HB;intro BK324 BK325 HB;refine start_ (n:=9) (S:=fun w' => c_ w' gb324 0 (.int .i64 a0_0) ∧ c_ w' gb324 1 (.slice A0_1 l0_1.length c0_1) ∧ c_ w' gb324 2 (.slice A0_2 l0_2.length c0_2) ∧ c_ w' gb325 0 (.slice A1_0 l1_0.length c1_0) ∧ c_ w' gb325 1 (.slice A1_1 l1_1.length c1_1)) (ds:=[]) (bm 9 0) (by kernel_rfl) rfl rfl ⟨cq_ BK324 0,cq_ BK324 1,cq_ BK324 2,cq_ BK325 0,cq_ BK325 1⟩ (fun hHeld => ?_);refine with_tabW inequality_Residue.tab3 inequality_Residue.bits3 (fun HT_ HW_ => ?_);generalize w12.drew = w13 at BK324 BK325 HB hHeld ⊢;refine pu_ 5 14 (bm 9 32) ?_;refine ta_ 0 9 (bm 9 33) ?_;refine ta_ 1 10 (bm 9 35) ?_;refine ta_ 6 15 (bm 9 99) ?_;refine on_ 2 11 (bm 9 103) (fun K hK => ?_);refine gs_ Try.func45 #[.agg #[.int .i64 a0_0,.slice A0_1 l0_1.length c0_1,.slice A0_2 l0_2.length c0_2],.agg #[.slice A1_0 l1_0.length c1_0,.slice A1_1 l1_1.length c1_1]] ?_;(with_reducible refine (inequality_of.calls k a0_0 _ _ l0_1 _ _ l0_2 _ _ l1_0 _ _ l1_1 t327 t328 t329 _ (cr_ (CB_ HR0_1.out HB.out)) HC0_1.out (cr_ (CB_ HR0_2.out HB.out)) HC0_2.out (cr_ (CB_ HR1_0.out HB.out)) HC1_0.out (cr_ (CB_ HR1_1.out HB.out)) HC1_1.out A5.out).mono ?_);rintro e w14 ⟨rfl,hb⟩;refine ⟨_,rfl,?_⟩;have n0_:=kb_ BK324 hb;have n1_:=kb_ BK325 hb;have n2_:=hb_ HB hb
  revert n0_ n1_ n2_
  clear BK324 BK325 HB;intro BK324 BK325 HB;(try clear hb);(try clear hb2);(try clear hk);(try clear hi);refine hK.out _ _ ⟨cq_ BK324 0,cq_ BK324 1,cq_ BK324 2,cq_ BK325 0,cq_ BK325 1⟩ (fun hHeld => ?_);clear hK K;refine nm_ 11 ?_;refine pu_ 3 12 (bm 9 111) ?_;refine pu_ 4 13 (bm 9 127) ?_;refine on_ 7 16 (bm 9 255) (fun K hK => ?_);refine gs_ Try.func48 #[.int .i64 (wrap64 (-t327)),.int .i64 a0_0] ?_;(with_reducible refine (arith_Mod.calls (wrap64 (-t327)) a0_0 t330 _ A6.out).mono ?_);rintro e w' ⟨rfl,⟨nd,rfl⟩⟩;refine ⟨_,rfl,?_⟩;refine hK.out _ _ ⟨cq_ BK324 0,cq_ BK324 1,cq_ BK324 2,cq_ BK325 0,cq_ BK325 1⟩ (fun hHeld => ?_);clear hK K;refine nm_ 16 ?_;refine pu_ 8 4 (bm 9 511) ?_;refine done_ (done_of HT_.out (by kernel_rfl)) ?_;(try go_wp2);(go_ret);(exact ⟨by first|rfl|(simp [errW_none,errW_some] <;> rfl)|(simp [*,errW_none,errW_some] <;> rfl),hB_ HB⟩)
 ·replace c4:=Bool.eq_false_iff.mpr c4;(subst c4;rw [if_neg (show ¬ (false = true) by decide)] at H;obtain rfl:=Option.some.inj H;(go_enter Try.func28,Try.ntmps28);(go_wp2_with (first|((with_reducible refine gd_ (N:=2) rfl ?_);refine bx2_ 2 #[.int .i64 a0_0,.slice A0_1 l0_1.length c0_1,.slice A0_2 l0_2.length c0_2] 26 (fun gb324 hg w15 hbox hb => ?_);have n0_:=hb_ HB hb;have n1_:=am_ (hbox);have n2_ : Aside0 (w.heap.size ≤ gb324):=gz_ hg HB;have n3_ : Aside0 (w.heap.size ≤ gb324):=gz_ hg HB;revert n0_ n1_ n2_ n3_;clear HB;intro HB BK324 GW324 GE324;clear hb hbox hg)|((with_reducible refine gd_ (N:=3) rfl ?_);refine bx2_ 3 #[.slice A1_0 l1_0.length c1_0,.slice A1_1 l1_1.length c1_1] 32 (fun gb325 hg w16 hbox hb => ?_);have n0_:=kb_ BK324 hb;have n1_:=hb_ HB hb;have n2_:=am_ (hbox);have n3_ : Aside0 (w.heap.size ≤ gb325):=gz_ hg HB;have n4_ : Aside0 (w.heap.size ≤ gb325):=gz_ hg HB;have n5_:=nl_ hg BK324;have n6_:=ng_ hg BK324;revert n0_ n1_ n2_ n3_ n4_ n5_ n6_;clear BK324 HB;intro BK324 HB BK325 GW325 GE325 NB324_325 NB325_324;clear hb hbox hg;have hnb17:=NB324_325.out;have hnc17:=NB325_324.out;have hcz18_0:=cA_ BK324;have hfz18_0:=fA_ BK324;have hcz19_0:=cA_ BK325;have hfz19_0:=fA_ BK325)|((with_reducible refine gc_ (f:=36) rfl ?_);refine gl_ (some 7) Try.func36 #[.agg #[.int .i64 a0_0,.slice A0_1 l0_1.length c0_1,.slice A0_2 l0_2.length c0_2],.agg #[.slice A1_0 l1_0.length c1_0,.slice A1_1 l1_1.length c1_1]] ?_;(with_reducible refine (cycles_Check.calls k a0_0 _ _ l0_1 _ _ l0_2 _ _ l1_0 _ _ l1_1 false _ (cr_ (CB_ HR0_1.out HB.out)) HC0_1.out (cr_ (CB_ HR0_2.out HB.out)) HC0_2.out (cr_ (CB_ HR1_0.out HB.out)) HC1_0.out (cr_ (CB_ HR1_1.out HB.out)) HC1_1.out A3.out).mono ?_);rintro e w20 ⟨rfl,hb⟩;refine ⟨_,rfl,?_⟩;have n0_:=kb_ BK324 hb;have n1_:=kb_ BK325 hb;have n2_:=hb_ HB hb;revert n0_ n1_ n2_;clear BK324 BK325 HB;intro BK324 BK325 HB;(try clear hb);(try clear hb2);(try clear hk);(try clear hi))));(go_ret);(exact ⟨by first|rfl|(simp [errW_none,errW_some] <;> rfl)|(simp [*,errW_none,errW_some] <;> rfl),hB_ HB⟩))
/-! ### inequality_Right: function 19 -/
def inequality_Right.f (k : Nat) (a0_0 : Int) (l0_1 : List (S60)) (l0_2 : List (S62)) (l1_0 : List Int) (l1_1 : List Int) : Option (Int):=(inequality_Residue.f k a0_0 l0_1 l0_2 l1_0 l1_1).bind fun t333 => (some (wrap64 (t333 * (wrap64 (a0_0 - t333)))))
theorem inequality_Right.mono : ∀ a0 a1 a2 a3 a4 k,LeO (inequality_Right.f k a0 a1 a2 a3 a4) (inequality_Right.f (k + 1) a0 a1 a2 a3 a4):=by
 intro a0 a1 a2 a3 a4 k;(unfold inequality_Right.f)
 repeat' first
   | (with_reducible exact inequality_Residue.mono _ _ _ _ _ _)
   | (with_reducible exact LeO.refl _)
   | (with_reducible exact LeO.none _)
   | (with_reducible refine LeO.ite ?_ ?_)
   | (with_reducible refine LeO.bind ?_ (fun _ => ?_))
   | exact inequality_Residue.mono _ _ _ _ _ _
   | exact LeO.none _
   | refine LeO.ite ?_ ?_
   | refine LeO.bind ?_ (fun _ => ?_)
set_option maxHeartbeats 8000000 in
set_option maxRecDepth 100000 in
theorem inequality_Right.calls (k : Nat) (a0_0 : Int) (A0_1 : Option Addr) (c0_1 : Nat) (l0_1 : List (S60)) (A0_2 : Option Addr) (c0_2 : Nat) (l0_2 : List (S62)) (A1_0 : Option Addr) (c1_0 : Nat) (l1_0 : List Int) (A1_1 : Option Addr) (c1_1 : Nat) (l1_1 : List Int) (r : Int) (w : World) (hr0_1 : Kd.C k60 w A0_1 l0_1.length l0_1) (hc0_1 : l0_1.length ≤ c0_1) (hr0_2 : Kd.C k62 w A0_2 l0_2.length l0_2) (hc0_2 : l0_2.length ≤ c0_2) (hr1_0 : Kd.C (Kd.int .i64) w A1_0 l1_0.length l1_0) (hc1_0 : l1_0.length ≤ c1_0) (hr1_1 : Kd.C (Kd.int .i64) w A1_1 l1_1.length l1_1) (hc1_1 : l1_1.length ≤ c1_1) (h : inequality_Right.f k a0_0 l0_1 l0_2 l1_0 l1_1 = some r) :
  Calls Try.prog 19 #[.agg #[.int .i64 a0_0,.slice A0_1 l0_1.length c0_1,.slice A0_2 l0_2.length c0_2],.agg #[.slice A1_0 l1_0.length c1_0,.slice A1_1 l1_1.length c1_1]] w fun e w' => e = .returned (.int .i64 r) ∧ Below w.heap.size w w':=by
 have hu26:=Try.underlying26
 have hu32:=Try.underlying32
 have HR0_1:=am_ hr0_1
 have HC0_1:=am_ hc0_1
 clear hr0_1 hc0_1
 have HR0_2:=am_ hr0_2
 have HC0_2:=am_ hc0_2
 clear hr0_2 hc0_2
 have HR1_0:=am_ hr1_0
 have HC1_0:=am_ hc1_0
 clear hr1_0 hc1_0
 have HR1_1:=am_ hr1_1
 have HC1_1:=am_ hc1_1
 clear hr1_1 hc1_1
 have HB:=am_ (Below.refl w.heap.size w)
 have H : ((inequality_Residue.f k a0_0 l0_1 l0_2 l1_0 l1_1).bind fun t333 => (some (wrap64 (t333 * (wrap64 (a0_0 - t333)))))) = some r:=h
 clear h
 replace H:=be_ H
 obtain ⟨t333,A30,H⟩:=H
 have A3:=am_ A30
 clear A30
 obtain rfl:=Option.some.inj H
 go_enter Try.func19,Try.ntmps19
 go_wp2_with (first|((with_reducible refine gd_ (N:=2) rfl ?_);refine bx2_ 2 #[.int .i64 a0_0,.slice A0_1 l0_1.length c0_1,.slice A0_2 l0_2.length c0_2] 26 (fun gb331 hg w4 hbox hb => ?_);have n0_:=hb_ HB hb;have n1_:=am_ (hbox);have n2_ : Aside0 (w.heap.size ≤ gb331):=gz_ hg HB;have n3_ : Aside0 (w.heap.size ≤ gb331):=gz_ hg HB;revert n0_ n1_ n2_ n3_;clear HB;intro HB BK331 GW331 GE331;clear hb hbox hg)|((with_reducible refine gd_ (N:=3) rfl ?_);refine bx2_ 3 #[.slice A1_0 l1_0.length c1_0,.slice A1_1 l1_1.length c1_1] 32 (fun gb332 hg w5 hbox hb => ?_);have n0_:=kb_ BK331 hb;have n1_:=hb_ HB hb;have n2_:=am_ (hbox);have n3_ : Aside0 (w.heap.size ≤ gb332):=gz_ hg HB;have n4_ : Aside0 (w.heap.size ≤ gb332):=gz_ hg HB;have n5_:=nl_ hg BK331;have n6_:=ng_ hg BK331;revert n0_ n1_ n2_ n3_ n4_ n5_ n6_;clear BK331 HB;intro BK331 HB BK332 GW332 GE332 NB331_332 NB332_331;clear hb hbox hg;have hnb6:=NB331_332.out;have hnc6:=NB332_331.out;have hcz7_0:=cA_ BK331;have hfz7_0:=fA_ BK331;have hcz8_0:=cA_ BK332;have hfz8_0:=fA_ BK332)|((with_reducible refine gc_ (f:=28) rfl ?_);refine gl_ (some 8) Try.func28 #[.agg #[.int .i64 a0_0,.slice A0_1 l0_1.length c0_1,.slice A0_2 l0_2.length c0_2],.agg #[.slice A1_0 l1_0.length c1_0,.slice A1_1 l1_1.length c1_1]] ?_;(with_reducible refine (inequality_Residue.calls k a0_0 _ _ l0_1 _ _ l0_2 _ _ l1_0 _ _ l1_1 t333 _ (cr_ (CB_ HR0_1.out HB.out)) HC0_1.out (cr_ (CB_ HR0_2.out HB.out)) HC0_2.out (cr_ (CB_ HR1_0.out HB.out)) HC1_0.out (cr_ (CB_ HR1_1.out HB.out)) HC1_1.out A3.out).mono ?_);rintro e w9 ⟨rfl,hb⟩;refine ⟨_,rfl,?_⟩;have n0_:=kb_ BK331 hb;have n1_:=kb_ BK332 hb;have n2_:=hb_ HB hb;revert n0_ n1_ n2_;clear BK331 BK332 HB;intro BK331 BK332 HB;(try clear hb);(try clear hb2);(try clear hk);(try clear hi);have hcz10_0:=cA_ BK331;have hfz10_0:=fA_ BK331))
 go_ret
 exact ⟨by first|rfl|(simp [errW_none,errW_some] <;> rfl)|(simp [*,errW_none,errW_some] <;> rfl),hB_ HB⟩
/-! ### railplanlaw14_small: function 29 -/
def railplanlaw14_small.f  : Option (Int × (List (S60)) × (List (S62))):=if 2 ≤ 11728124029610 then (some (10,(List.replicate 2 z60),(([(⟨0,0,1,3,6,0⟩ : S62),(⟨0,1,0,3,6,0⟩ : S62)] : List (S62))))) else (none)
set_option maxHeartbeats 8000000 in
set_option maxRecDepth 100000 in
theorem railplanlaw14_small.calls  (r1 : Int) (r2 : List (S60)) (r3 : List (S62)) (w : World) (h : railplanlaw14_small.f  = some (r1,r2,r3)) :
  Calls Try.prog 29 #[] w fun e w' => ∃ v1_ v2_ : Value,e = .returned (.agg #[.int .i64 r1,v1_,v2_]) ∧ Kd.R k60 60 w' w.heap.size (fun _ => True) v1_ r2 ∧ Kd.R k62 62 w' w.heap.size (fun _ => True) v2_ r3 ∧ Below w.heap.size w w':=by
 have hu26:=Try.underlying26
 have hu62:=Try.underlying62
 have HB:=am_ (Below.refl w.heap.size w)
 have H : (if 2 ≤ 11728124029610 then (some (10,(List.replicate 2 z60),(([(⟨0,0,1,3,6,0⟩ : S62),(⟨0,1,0,3,6,0⟩ : S62)] : List (S62))))) else (none)) = some (r1,r2,r3):=h
 clear h
 by_cases c1 : 2 ≤ 11728124029610
 ·rw [if_pos c1] at H;(have c1b0:=eq_true c1;have c1b1:=decide_eq_true c1;clear c1;obtain ⟨y335,hy335⟩ : ∃ y_ : List (S60),y_ = (List.replicate 2 z60):=⟨_,rfl⟩;(replace H : (some (10,y335,(([(⟨0,0,1,3,6,0⟩ : S62),(⟨0,1,0,3,6,0⟩ : S62)] : List (S62))))) = some (r1,r2,r3):=by first|(rw [hy335];with_reducible exact H)|(have H2_:=(Option.bind_some _ _).symm.trans H;rw [hy335];with_reducible exact H2_)|(have H2_:=(Option.bind_some _ _).symm.trans H;with_reducible exact H2_)|with_reducible exact H|(rw [hy335];exact H)|exact H);have Ny335:=am_ hy335;clear hy335;obtain ⟨y338,hy338⟩ : ∃ y_ : List (S62),y_ = (([(⟨0,0,1,3,6,0⟩ : S62),(⟨0,1,0,3,6,0⟩ : S62)] : List (S62))):=⟨_,rfl⟩;(replace H : (some (10,y335,y338)) = some (r1,r2,r3):=by first|(rw [hy338];with_reducible exact H)|(have H2_:=(Option.bind_some _ _).symm.trans H;rw [hy338];with_reducible exact H2_)|(have H2_:=(Option.bind_some _ _).symm.trans H;with_reducible exact H2_)|with_reducible exact H|(rw [hy338];exact H)|exact H);have Ny338:=am_ hy338;clear hy338;simp only [Option.some.injEq,Prod.mk.injEq] at H;obtain ⟨rfl,rfl,rfl⟩:=H;(go_enter Try.func29,Try.ntmps29);(go_wp2_with (first|((with_reducible refine gd_ (N:=0) rfl ?_);refine bx2_ 0 #[.int .i64 0,.slice none 0 0,.slice none 0 0] 26 (fun gb334 hg w2 hbox hb => ?_);have n0_:=hb_ HB hb;have n1_:=am_ (hbox);have n2_ : Aside0 (w.heap.size ≤ gb334):=gz_ hg HB;have n3_ : Aside0 (w.heap.size ≤ gb334):=gz_ hg HB;revert n0_ n1_ n2_ n3_;clear HB;intro HB BK334 GW334 GE334;clear hb hbox hg)|((with_reducible refine gd_ (N:=1) rfl ?_);refine Kd.R_make k60 _ 60 rfl (N:=1) rfl 23 _ _ rfl 2 rfl rfl Try.underlying23 (.agg #[(.int .i64 0),(.int .i64 0),(.int .i64 0)]) 24 info60 rfl (by decide) (by omega) z60 (ok:=fun _ => True) (okp:=fun _ => True) (k60_mkM _ _ _ z60 ) (fun _ hk => hk) trivial (by omega) (by omega) (Below.refl _ _) (Nat.le_refl _) ?_;intro v336 w3 ho4 hb hg_ hnew_;clear hg_ hnew_;(first|rw [← Ny335.out] at ho4|(simp only [Int.reduceToNat] at ho4;rw [← Ny335.out] at ho4));have n0_:=am_ (RL_ ho4 (bz_ (hB_ HB)));have n1_:=kb_ BK334 hb;have n2_:=hb_ HB hb;revert n0_ n1_ n2_;clear BK334 HB;intro HO337 BK334 HB;clear hb ho4)|((with_reducible refine gd_ (N:=4) rfl ?_);refine Kd.R_lit k62 _ 62 ?hg (N:=4) ?hd (xs:=([(⟨0,0,1,3,6,0⟩ : S62),(⟨0,1,0,3,6,0⟩ : S62)] : List (S62))) (inner:=[.int .i64 0,.int .i64 0,.int .i64 1,.int .i64 3,.int .i64 6,.int .i64 0,.int .i64 0,.int .i64 1,.int .i64 0,.int .i64 3,.int .i64 6,.int .i64 0]) (ok:=fun _ => True) (okp:=fun _ => True) ?hr ?hp (fun _ hk => hk) trivial (Below.refl _ _) (Nat.le_refl _) (by simp) ?_;(case hd => rfl);(case hg => rfl);(case hr => first|(go_simp;done)|(go_simp;rfl));(case hp => exact (Reps.c6 (show Kd.M k62 _ _ _ (⟨0,0,1,3,6,0⟩ : S62) [.int .i64 0,.int .i64 0,.int .i64 1,.int .i64 3,.int .i64 6,.int .i64 0] from (k62_mkM _ _ _ (⟨0,0,1,3,6,0⟩ : S62) )) (Reps.c6 (show Kd.M k62 _ _ _ (⟨0,1,0,3,6,0⟩ : S62) [.int .i64 0,.int .i64 1,.int .i64 0,.int .i64 3,.int .i64 6,.int .i64 0] from (k62_mkM _ _ _ (⟨0,1,0,3,6,0⟩ : S62) )) (Reps.none _ _))));intro v339 w5 ho6 hb hg_ hnew_;clear hg_ hnew_;(first|rw [← Ny338.out] at ho6|(simp only [Int.reduceToNat] at ho6;rw [← Ny338.out] at ho6));have n0_:=rb_ HO337 hb;have n1_:=am_ (RL_ ho6 (bz_ (hB_ HB)));have n2_:=kb_ BK334 hb;have n3_:=hb_ HB hb;revert n0_ n1_ n2_ n3_;clear HO337 BK334 HB;intro HO337 HO340 BK334 HB;clear hb ho6;obtain ⟨Ao7,co7,eo7⟩:=RS_ HO340.out;subst eo7;obtain ⟨Ao8,co8,eo8⟩:=RS_ HO337.out;subst eo8;have hcz9_0:=cA_ BK334;have hfz9_0:=fA_ BK334)));refine bodyPost_ret (results_cell_row rfl _ _ gb334 26 #[.int .i64 10,.slice Ao8 y335.length co8,.slice Ao7 y338.length co7] (0,0) _ rfl (by (with_reducible repeat (first|refine kN_ ?_ _|refine kD_ ?_|refine kA_ ?_ _));refine blk_put (cs:=#[.int .i64 10,.slice Ao8 y335.length co8,.slice none 0 0]) ?_ 2 _ rfl;refine blk_put (cs:=#[.int .i64 10,.slice none 0 0,.slice none 0 0]) ?_ 1 _ rfl;refine blk_put (cs:=#[.int .i64 0,.slice none 0 0,.slice none 0 0]) ?_ 0 _ rfl;(with_reducible repeat (first|refine kN_ ?_ _|refine kD_ ?_|refine kA_ ?_ _));exact BK334.out) Try.underlying26 rfl (by kernel_rfl)) rfl ?_;(exact ⟨_,_,by first|rfl|(simp [errW_none,errW_some] <;> rfl)|(simp [*,errW_none,errW_some] <;> rfl),by (with_reducible repeat (first|apply RA_|apply RN_|apply RD_));exact RM_ (rf_ 2 (rf_ 1 (rf_ 0 (rt_ HO337 BK334) (.int .i64 10)) (.slice Ao8 y335.length co8)) (.slice Ao7 y338.length co7)) (fun _ hk => trivial),by (with_reducible repeat (first|apply RA_|apply RN_|apply RD_));exact RM_ (rf_ 2 (rf_ 1 (rf_ 0 (rt_ HO340 BK334) (.int .i64 10)) (.slice Ao8 y335.length co8)) (.slice Ao7 y338.length co7)) (fun _ hk => trivial),hB_ HB⟩))
 ·rw [if_neg c1] at H;(simp at H)
/-! ### railplanlaw14_round: function 30 -/
def railplanlaw14_round.f  : Option (List Int × List Int):=some ((([0,1] : List Int)),(([1,1] : List Int)))
set_option maxHeartbeats 8000000 in
set_option maxRecDepth 100000 in
theorem railplanlaw14_round.calls  (r1 : List Int) (r2 : List Int) (w : World) (h : railplanlaw14_round.f  = some (r1,r2)) :
  Calls Try.prog 30 #[] w fun e w' => ∃ v0_ v1_ : Value,e = .returned (.agg #[v0_,v1_]) ∧ Kd.R (Kd.int .i64) 3 w' w.heap.size (fun k_ => some k_ ≠ (v1_ : Value).ownBlock) v0_ r1 ∧ Kd.R (Kd.int .i64) 3 w' w.heap.size (fun k_ => some k_ ≠ (v0_ : Value).ownBlock) v1_ r2 ∧ Below w.heap.size w w':=by
 have hu32:=Try.underlying32
 have HB:=am_ (Below.refl w.heap.size w)
 have H : (some ((([0,1] : List Int)),(([1,1] : List Int)))) = some (r1,r2):=h
 clear h
 obtain ⟨y342,hy342⟩ : ∃ y_ : List Int,y_ = (([0,1] : List Int)):=⟨_,rfl⟩
 replace H : (some (y342,(([1,1] : List Int)))) = some (r1,r2):=by first|(rw [hy342];with_reducible exact H)|(have H2_:=(Option.bind_some _ _).symm.trans H;rw [hy342];with_reducible exact H2_)|(have H2_:=(Option.bind_some _ _).symm.trans H;with_reducible exact H2_)|with_reducible exact H|(rw [hy342];exact H)|exact H
 have Ny342:=am_ hy342
 clear hy342
 obtain ⟨y345,hy345⟩ : ∃ y_ : List Int,y_ = (([1,1] : List Int)):=⟨_,rfl⟩
 replace H : (some (y342,y345)) = some (r1,r2):=by first|(rw [hy345];with_reducible exact H)|(have H2_:=(Option.bind_some _ _).symm.trans H;rw [hy345];with_reducible exact H2_)|(have H2_:=(Option.bind_some _ _).symm.trans H;with_reducible exact H2_)|with_reducible exact H|(rw [hy345];exact H)|exact H
 have Ny345:=am_ hy345
 clear hy345
 simp only [Option.some.injEq,Prod.mk.injEq] at H
 obtain ⟨rfl,rfl⟩:=H
 go_enter Try.func30,Try.ntmps30
 go_wp2_with (first|((with_reducible refine gd_ (N:=0) rfl ?_);refine bx2_ 0 #[.slice none 0 0,.slice none 0 0] 32 (fun gb341 hg w1 hbox hb => ?_);have n0_:=hb_ HB hb;have n1_:=am_ (hbox);have n2_ : Aside0 (w.heap.size ≤ gb341):=gz_ hg HB;have n3_ : Aside0 (w.heap.size ≤ gb341):=gz_ hg HB;revert n0_ n1_ n2_ n3_;clear HB;intro HB BK341 GW341 GE341;clear hb hbox hg)|((with_reducible refine gd_ (N:=1) rfl ?_);refine Kd.R_lit (Kd.int .i64) _ 3 ?hg (N:=1) ?hd (xs:=([0,1] : List Int)) (inner:=[.int .i64 0,.int .i64 1]) (ok:=fun _ => True) (okp:=fun _ => True) ?hr ?hp (fun _ hk => hk) trivial (Below.refl _ _) (Nat.le_refl _) (by simp) ?_;(case hd => rfl);(case hg => rfl);(case hr => first|(go_simp;done)|(go_simp;rfl));(case hp => exact (Reps.one (show Kd.M (Kd.int .i64) _ _ _ 0 [.int .i64 0] from rfl) (Reps.one (show Kd.M (Kd.int .i64) _ _ _ 1 [.int .i64 1] from rfl) (Reps.none _ _))));intro v343 w2 ho3 hb hg_ hnew_;clear hg_ hnew_;(first|rw [← Ny342.out] at ho3|(simp only [Int.reduceToNat] at ho3;rw [← Ny342.out] at ho3));have n0_:=am_ (RL_ ho3 (bz_ (hB_ HB)));have n1_:=kb_ BK341 hb;have n2_:=hb_ HB hb;revert n0_ n1_ n2_;clear BK341 HB;intro HO344 BK341 HB;clear hb ho3)|((with_reducible refine gd_ (N:=2) rfl ?_);refine Kd.R_lit (Kd.int .i64) _ 3 ?hg (N:=2) ?hd (xs:=([1,1] : List Int)) (inner:=[.int .i64 1,.int .i64 1]) (ok:=fun _ => True) (okp:=fun _ => True) ?hr ?hp (fun _ hk => hk) trivial (Below.refl _ _) (Nat.le_refl _) (by simp) ?_;(case hd => rfl);(case hg => rfl);(case hr => first|(go_simp;done)|(go_simp;rfl));(case hp => exact (Reps.one (show Kd.M (Kd.int .i64) _ _ _ 1 [.int .i64 1] from rfl) (Reps.one (show Kd.M (Kd.int .i64) _ _ _ 1 [.int .i64 1] from rfl) (Reps.none _ _))));intro v346 w4 ho5 hb hg_ hnew_;clear hg_ hnew_;(first|rw [← Ny345.out] at ho5|(simp only [Int.reduceToNat] at ho5;rw [← Ny345.out] at ho5));have n0_:=am_ (Kd.R_elder' (ra_ HO344.out) (Kd.R_base ho5) hb);have n1_:=am_ (RL_ (Kd.R_new' ho5 (Kd.R_lt (ra_ HO344.out))) (bz_ (hB_ HB)));have n2_:=kb_ BK341 hb;have n3_:=hb_ HB hb;revert n0_ n1_ n2_ n3_;clear HO344 BK341 HB;intro HO344 HO347 BK341 HB;clear hb ho5;obtain ⟨Ao6,co6,eo6⟩:=RS_ HO347.out;subst eo6;obtain ⟨Ao7,co7,eo7⟩:=RS_ HO344.out;subst eo7;have hcz8_0:=cA_ BK341;have hfz8_0:=fA_ BK341))
 refine bodyPost_ret (results_cell_row rfl _ _ gb341 32 #[.slice Ao7 y342.length co7,.slice Ao6 y345.length co6] (0,0) _ rfl (by (with_reducible repeat (first|refine kN_ ?_ _|refine kD_ ?_|refine kA_ ?_ _));refine blk_put (cs:=#[.slice Ao7 y342.length co7,.slice none 0 0]) ?_ 1 _ rfl;refine blk_put (cs:=#[.slice none 0 0,.slice none 0 0]) ?_ 0 _ rfl;(with_reducible repeat (first|refine kN_ ?_ _|refine kD_ ?_|refine kA_ ?_ _));exact BK341.out) Try.underlying32 rfl (by kernel_rfl)) rfl ?_
 exact ⟨_,_,by first|rfl|(simp [errW_none,errW_some] <;> rfl)|(simp [*,errW_none,errW_some] <;> rfl),by (with_reducible repeat (first|apply RA_|apply RN_|apply RD_));exact RM_ (rf_ 1 (rf_ 0 (rt_ HO344 BK341) (.slice Ao7 y342.length co7)) (.slice Ao6 y345.length co6)) (fun _ hk => hk.1.2),by (with_reducible repeat (first|apply RA_|apply RN_|apply RD_));exact RM_ (rf_ 1 (rf_ 0 (rt_ HO347 BK341) (.slice Ao7 y342.length co7)) (.slice Ao6 y345.length co6)) (fun _ hk => hk.1.2),hB_ HB⟩
/-! ### railplanlaw14_awake: function 14 -/
def railplanlaw14_awake.f (k : Nat)  : Option (Bool):=(railplanlaw14_small.f).bind fun bt348 => ((railplanlaw14_round.f).bind fun bt355 => ((inequality_Right.f k bt348.1 bt348.2.1 bt348.2.2 bt355.1 bt355.2).bind fun t361 => (some (t361 == 24))))
theorem railplanlaw14_awake.mono : ∀ k,LeO (railplanlaw14_awake.f k ) (railplanlaw14_awake.f (k + 1) ):=by
 intro  k;(unfold railplanlaw14_awake.f)
 repeat' first
   | (with_reducible exact inequality_Right.mono _ _ _ _ _ _)
   | (with_reducible exact LeO.refl _)
   | (with_reducible exact LeO.none _)
   | (with_reducible refine LeO.ite ?_ ?_)
   | (with_reducible refine LeO.bind ?_ (fun _ => ?_))
   | exact inequality_Right.mono _ _ _ _ _ _
   | exact LeO.none _
   | refine LeO.ite ?_ ?_
   | refine LeO.bind ?_ (fun _ => ?_)
set_option maxHeartbeats 8000000 in
set_option maxRecDepth 100000 in
theorem railplanlaw14_awake.calls (k : Nat)  (r : Bool) (w : World) (h : railplanlaw14_awake.f k  = some r) :
  Calls Try.prog 14 #[] w fun e w' => e = .returned (.bool r) ∧ Below w.heap.size w w':=by
 have HB:=am_ (Below.refl w.heap.size w)
 have H : ((railplanlaw14_small.f).bind fun bt348 => ((railplanlaw14_round.f).bind fun bt355 => ((inequality_Right.f k bt348.1 bt348.2.1 bt348.2.2 bt355.1 bt355.2).bind fun t361 => (some (t361 == 24))))) = some r:=h
 clear h
 replace H:=be_ H
 obtain ⟨⟨t348,t349,t352⟩,A10,H⟩:=H
 (try dsimp only at H)
 have A1:=am_ A10
 clear A10
 replace H:=be_ H
 obtain ⟨⟨t355,t358⟩,A20,H⟩:=H
 (try dsimp only at H)
 have A2:=am_ A20
 clear A20
 replace H:=be_ H
 obtain ⟨t361,A30,H⟩:=H
 have A3:=am_ A30
 clear A30
 obtain rfl:=Option.some.inj H
 go_enter Try.func14,Try.ntmps14
 go_wp2_with (first|((with_reducible refine gc_ (f:=29) rfl ?_);refine gl_ (some 1) Try.func29 #[] ?_;(with_reducible refine (railplanlaw14_small.calls  t348 t349 t352 _ A1.out).mono ?_);rintro e w4 ⟨v350,v353,rfl,ho0,ho1,hb⟩;refine ⟨_,rfl,?_⟩;have n0_:=am_ (RL_ ho0 (bz_ (hB_ HB)));have n1_:=am_ (RL_ ho1 (bz_ (hB_ HB)));have n2_:=hb_ HB hb;revert n0_ n1_ n2_;clear HB;intro HO351 HO354 HB;(try clear hb);(try clear hb2);(try clear hk);(try clear hi);(try clear ho0);(try clear ho1))|((with_reducible refine gc_ (f:=30) rfl ?_);refine gl_ (some 2) Try.func30 #[] ?_;(with_reducible refine (railplanlaw14_round.calls  t355 t358 _ A2.out).mono ?_);rintro e w5 ⟨v356,v359,rfl,ho0,ho1,hb⟩;refine ⟨_,rfl,?_⟩;have n0_:=rb_ HO351 hb;have n1_:=rb_ HO354 hb;have n2_:=am_ (RL_ ho0 (bz_ (hB_ HB)));have n3_:=am_ (RL_ ho1 (bz_ (hB_ HB)));have n4_:=hb_ HB hb;revert n0_ n1_ n2_ n3_ n4_;clear HO351 HO354 HB;intro HO351 HO354 HO357 HO360 HB;(try clear hb);(try clear hb2);(try clear hk);(try clear hi);(try clear ho0);(try clear ho1);obtain ⟨Ao6,co6,eo6⟩:=RS_ HO351.out;subst eo6;obtain ⟨Ao7,co7,eo7⟩:=RS_ HO354.out;subst eo7;obtain ⟨Ao8,co8,eo8⟩:=RS_ HO357.out;subst eo8;obtain ⟨Ao9,co9,eo9⟩:=RS_ HO360.out;subst eo9)|((with_reducible refine gc_ (f:=19) rfl ?_);refine gl_ (some 3) Try.func19 #[.agg #[.int .i64 t348,.slice Ao6 t349.length co6,.slice Ao7 t352.length co7],.agg #[.slice Ao8 t355.length co8,.slice Ao9 t358.length co9]] ?_;(with_reducible refine (inequality_Right.calls k t348 _ _ t349 _ _ t352 _ _ t355 _ _ t358 t361 _ (cr_ (RR_ HO351.out).2.2) (RR_ HO351.out).2.1 (cr_ (RR_ HO354.out).2.2) (RR_ HO354.out).2.1 (cr_ (RR_ HO357.out).2.2) (RR_ HO357.out).2.1 (cr_ (RR_ HO360.out).2.2) (RR_ HO360.out).2.1 A3.out).mono ?_);rintro e w10 ⟨rfl,hb⟩;refine ⟨_,rfl,?_⟩;have n0_:=rb_ HO351 hb;have n1_:=rb_ HO354 hb;have n2_:=rb_ HO357 hb;have n3_:=rb_ HO360 hb;have n4_:=hb_ HB hb;revert n0_ n1_ n2_ n3_ n4_;clear HO351 HO354 HO357 HO360 HB;intro HO351 HO354 HO357 HO360 HB;(try clear hb);(try clear hb2);(try clear hk);(try clear hi)))
 go_ret
 exact ⟨by first|rfl|(simp [errW_none,errW_some] <;> rfl)|(simp [*,errW_none,errW_some] <;> rfl),hB_ HB⟩
/-! ### inequality_Left_1: function 38 -/
def inequality_Left_1.f (a0 : Int) : Option (Bool):=if a0 < 0 then (some true) else (some (decide (a0 > 7200)))
set_option maxHeartbeats 8000000 in
set_option maxRecDepth 100000 in
theorem inequality_Left_1.calls (a0 : Int) (r : Bool) (w : World) (h : inequality_Left_1.f a0 = some r) :
  Calls Try.prog 38 #[.int .i64 a0] w fun e w' => e = .returned (.bool r) ∧ Drawn0 w w':=by
 have H : (if a0 < 0 then (some true) else (some (decide (a0 > 7200)))) = some r:=h
 clear h
 by_cases c2 : a0 < 0
 ·rw [if_pos c2] at H;have c2b0:=decide_eq_true c2;clear c2;obtain rfl:=Option.some.inj H;(go_enter Try.func38,Try.ntmps38);(go_wp2);(go_ret);exact ⟨by first|rfl|(simp;done)|(simp [*];done),by repeat (first|exact Drawn0.refl _|apply Drawn0.step)⟩
 ·rw [if_neg c2] at H;have c2b0:=decide_eq_false c2;clear c2;obtain rfl:=Option.some.inj H;(go_enter Try.func38,Try.ntmps38);(go_wp2);(go_ret);exact ⟨by first|rfl|(simp;done)|(simp [*];done),by repeat (first|exact Drawn0.refl _|apply Drawn0.step)⟩
/-! ### slices_ContainsFunc_inequality_Left1: function 89 (by hand) -/
set_option maxHeartbeats 8000000 in
set_option maxRecDepth 100000 in
theorem IndexFuncInt.calls (g : Nat) (lb : Array Value) (p : Int → Option Bool) (eg : ∀ args w,(callFunc g args).run Try.prog w = .ok (.enter g args) w) (A : Option Addr) (c : Nat) (l : List Int) (r : Int) (w : World)
  (hr : Kd.C (Kd.int .i64) w A l.length l) (hbig : l.length ≤ 9223372036854775807) (hp : PredO Try.prog g lb (Value.int .i64) p w) (h : findO p l = some r) :
  Calls Try.prog 59 #[.slice A l.length c,.func (.func g) #[] lb] w fun e w' => e = .returned (.int .i64 r) ∧ Below w.heap.size w w':=by
 have HR:=am_ hr
 have HP:=am_ hp
 have H:=am_ h
 clear hr hp h
 go_enter Try.func59,Try.ntmps59
 go_wp2
 go_loopg [5,8] l.length (fun gg _ s8 wr => ∃ kk : Nat,kk ≤ l.length ∧ l.length - kk ≤ gg ∧ s8 = .int .i64 kk ∧ Aside0 (Below w.heap.size w wr) ∧ Aside0 (∀ j,j < kk → p (l.getD j 0) = some false))
 case atStart => exact ⟨0,Nat.zero_le _,by omega,rfl,⟨Below.refl _ w⟩,⟨fun j hj => absurd hj (Nat.not_lt_zero _)⟩⟩
 case round =>
  obtain ⟨kk,hkk,hg,rfl,BW,AL⟩:=hrel
  by_cases hlt : kk < l.length
  ·have hltz : (kk : Int) < (l.length : Int):=by omega
   obtain ⟨ad,e,h0⟩:=Kd.at_int HR.out (kk : Int) (by omega) hltz;cases e;obtain ⟨b,hb,hb'⟩:=findO_at p 0 l r H.out kk AL.out hlt;have HB:=am_ hb;have HB':=am_ hb';have hcall:=HP.out wr (l.getD kk 0) b hb BW.out;clear hb hb';(have erd : rd l (kk : Int) = l.getD kk 0:=by simp [rd]);rw [erd] at h0;clear erd;simp only [Int.toNat_natCast] at h0;generalize hy : l.getD kk 0 = y at h0 hcall HB;replace hcall:=am_ hcall;have HY:=am_ hy;clear hy;replace h0:=(BW.out.cell (wl_ w _ h0)).trans h0;cases b with
   | true =>
    (go_wp2_with fail);refine (hcall.out).mono ?_;rintro e w' ⟨rfl,hb'⟩;(go_wp2);(go_ret);refine ⟨?_,hb'⟩;rw [HB'.out (by first|rfl|trivial)];rfl
   | false =>
    (go_wp2_with fail);refine (hcall.out).mono ?_;rintro e w' ⟨rfl,hb'⟩;(go_wp2);(go_roundg (l.length - (kk + 1)))
    case measure => omega
    case rel =>
     refine ⟨kk + 1,by omega,by omega,by go_num,⟨hb'⟩,⟨fun j hj => ?_⟩⟩
     by_cases e : j = kk
     (·subst e;rw [HY.out];exact HB.out);(·exact AL.out j (by omega))
  ·(have hltz : ¬ (kk : Int) < (l.length : Int):=by omega);((have : kk = l.length:=by omega);subst this;(go_wp2);(go_ret);refine ⟨?_,BW.out⟩;rw [findO_none p 0 l r H.out AL.out];rfl)
set_option maxHeartbeats 8000000 in
set_option maxRecDepth 100000 in
theorem ContainsFuncInt.calls (g : Nat) (lb : Array Value) (p : Int → Option Bool) (eg : ∀ args w,(callFunc g args).run Try.prog w = .ok (.enter g args) w) (A : Option Addr) (c : Nat) (l : List Int) (r : Int) (w : World)
  (hr : Kd.C (Kd.int .i64) w A l.length l) (hbig : l.length ≤ 9223372036854775807) (hp : PredO Try.prog g lb (Value.int .i64) p w) (h : findO p l = some r) :
  Calls Try.prog 37 #[.slice A l.length c,.func (.func g) #[] lb] w fun e w' => e = .returned (.bool (decide (0 ≤ r))) ∧ Below w.heap.size w w':=by
 have HC:=am_ (fun w' => IndexFuncInt.calls g lb p eg A c l r w' )
 have HR:=am_ hr
 have HP:=am_ hp
 have H:=am_ h
 clear hr hp h
 go_enter Try.func37,Try.ntmps37
 go_wp2_with fail
 refine (HC.out _ HR.out hbig HP.out H.out).mono ?_
 rintro e w' ⟨rfl,hb⟩
 go_wp2
 go_ret
 exact ⟨rfl,hb⟩
theorem LeftFn.eq (x : Int) : inequality_Left_1.f x = some (decide (x < 0) || decide (7200 < x)):=by
 unfold inequality_Left_1.f
 by_cases h : x < 0
 (·simp [h]);(·simp [h])
def slices_ContainsFunc_inequality_Left1.f (l0 : List Int) : Option Bool:=if l0.length ≤ 9223372036854775807 then some (l0.any fun x => decide (x < 0) || decide (7200 < x)) else none
theorem LeftFn.pred (w : World) : PredO Try.prog 38 #[] (Value.int .i64) (fun x => some (decide (x < 0) || decide (7200 < x))) w:=by
 intro W x b hx HB;obtain rfl:=Option.some.inj hx;exact (inequality_Left_1.calls x _ W (LeftFn.eq x)).mono fun e w' ⟨he,hb⟩ => ⟨he,below_drawn (Below.refl _ _) hb |> fun h => HB.trans (h.mono HB.size)⟩
theorem slices_ContainsFunc_inequality_Left1.calls (A0 : Option Addr) (c0 : Nat) (l0 : List Int) (r : Bool) (w : World) (hr0 : Kd.C (Kd.int .i64) w A0 l0.length l0) (hc0 : l0.length ≤ c0) (h : slices_ContainsFunc_inequality_Left1.f l0 = some r) :
  Calls Try.prog 37 #[.slice A0 l0.length c0,.func (.func 38) #[] #[]] w fun e w' => e = .returned (.bool r) ∧ Below w.heap.size w w':=by
 unfold slices_ContainsFunc_inequality_Left1.f at h
 split at h
 ·next hl =>
  obtain rfl:=Option.some.inj h;obtain ⟨rr,hrr,hany⟩:=findO_any (fun x => decide (x < 0) || decide (7200 < x)) l0;rw [← hany];exact ContainsFuncInt.calls _ _ _ (enters_fn Try.func38 (by kernel_rfl) rfl) A0 c0 l0 rr w hr0 hl (LeftFn.pred w) hrr
 ·simp at h
end Go.Proofs.Ytgbcgbfoejkieaa.PAll
