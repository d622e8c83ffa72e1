-- Packed by wip/tools/pack.py of this session out of what plugprint.py and the kit's print wrote. Lean checks it.
import Derived.Test.YtgbcgbfoejkieaaIS
namespace Go.Proofs.Ytgbcgbfoejkieaa.PAll
open Go.RowKit Go.Proofs.YtgbcgbfoejkieaaW.PrintWords Go.Proofs.YtgbcgbfoejkieaaW.PrintLast Go.Proofs.YtgbcgbfoejkieaaW.PrintMore
attribute [local go_sem] max2_int min2_int max_two min_two max_three min_three max_four min_four
set_option linter.unusedVariables false
set_option linter.unusedSimpArgs false
/-! ### railplanref1_Mod: function 60 -/
def railplanref1_Mod.f (a0 : Int) (a1 : Int) : Option (Int):=if a1 < 1 then (some 0) else (if a1 = 0 then (none) else (if (Int.tmod a0 a1) < 0 then (some (wrap64 ((Int.tmod a0 a1) + a1))) else (some (Int.tmod a0 a1))))
set_option maxHeartbeats 8000000 in
set_option maxRecDepth 100000 in
theorem railplanref1_Mod.calls (a0 : Int) (a1 : Int) (r : Int) (w : World) (h : railplanref1_Mod.f a0 a1 = some r) :
  Calls Try.prog 60 #[.int .i64 a0,.int .i64 a1] w fun e w' => e = .returned (.int .i64 r) ∧ Drawn0 w w':=by
 have H : (if a1 < 1 then (some 0) else (if a1 = 0 then (none) else (if (Int.tmod a0 a1) < 0 then (some (wrap64 ((Int.tmod a0 a1) + a1))) else (some (Int.tmod a0 a1))))) = some r:=h
 clear h
 by_cases c3 : a1 < 1
 ·rw [if_pos c3] at H;have c3b0:=decide_eq_true c3;clear c3;obtain rfl:=Option.some.inj H;(go_enter Try.func60,Try.ntmps60);(go_wp2);(go_ret);exact ⟨by first|rfl|(simp;done)|(simp [*];done),by repeat (first|exact Drawn0.refl _|apply Drawn0.step)⟩
 ·rw [if_neg c3] at H
  have c3b0:=decide_eq_false c3;clear c3
  by_cases c4 : a1 = 0
  ·rw [if_pos c4] at H;(simp at H)
  ·rw [if_neg c4] at H
   have c4b0 : (a1 == 0) = false:=beq_eq_false_iff_ne.mpr c4;have c4b1 : (a1 != 0) = true:=bne_iff_ne.mpr c4
   by_cases c5 : (Int.tmod a0 a1) < 0
   (·rw [if_pos c5] at H;have c5b0:=decide_eq_true c5;clear c5;obtain rfl:=Option.some.inj H;(go_enter Try.func60,Try.ntmps60);(go_wp2);(go_ret);exact ⟨by first|rfl|(simp;done)|(simp [*];done),by repeat (first|exact Drawn0.refl _|apply Drawn0.step)⟩);(·rw [if_neg c5] at H;have c5b0:=decide_eq_false c5;clear c5;obtain rfl:=Option.some.inj H;(go_enter Try.func60,Try.ntmps60);(go_wp2);(go_ret);exact ⟨by first|rfl|(simp;done)|(simp [*];done),by repeat (first|exact Drawn0.refl _|apply Drawn0.step)⟩)
/-! ### railplanref11_Lasts: function 39 -/
def railplanref11_Lasts.f (a0_0 : Int) (l0_1 : List (S60)) (l0_2 : List (S62)) (l1 : List Int) (a2_0 : Int) (a2_1 : Int) (a2_2 : Int) (a2_3 : Int) (a2_4 : Int) (a2_5 : Int) : Option (Int):=if 0 ≤ a2_2 then (if a2_2 < (l1.length : Int) then (if 0 ≤ a2_1 then (if a2_1 < (l1.length : Int) then ((railplanref1_Mod.f (wrap64 ((wrap64 ((rd l1 a2_2) - (rd l1 a2_1))) - a2_3)) a0_0).bind fun t375 => (some (wrap64 (a2_3 + t375)))) else (none)) else (none)) else (none)) else (none)
set_option maxHeartbeats 8000000 in
set_option maxRecDepth 100000 in
theorem railplanref11_Lasts.calls (a0_0 : Int) (A0_1 : Option Addr) (c0_1 : Nat) (l0_1 : List (S60)) (A0_2 : Option Addr) (c0_2 : Nat) (l0_2 : List (S62)) (A1 : Option Addr) (c1 : Nat) (l1 : List Int) (a2_0 : Int) (a2_1 : Int) (a2_2 : Int) (a2_3 : Int) (a2_4 : Int) (a2_5 : Int) (r : Int) (w : World) (hr0_1 : Kd.C k60 w A0_1 l0_1.length l0_1) (hc0_1 : l0_1.length ≤ c0_1) (hr0_2 : Kd.C k62 w A0_2 l0_2.length l0_2) (hc0_2 : l0_2.length ≤ c0_2) (hr1 : Kd.C (Kd.int .i64) w A1 l1.length l1) (hc1 : l1.length ≤ c1) (h : railplanref11_Lasts.f a0_0 l0_1 l0_2 l1 a2_0 a2_1 a2_2 a2_3 a2_4 a2_5 = some r) :
  Calls Try.prog 39 #[.agg #[.int .i64 a0_0,.slice A0_1 l0_1.length c0_1,.slice A0_2 l0_2.length c0_2],.slice A1 l1.length c1,.agg #[.int .i64 a2_0,.int .i64 a2_1,.int .i64 a2_2,.int .i64 a2_3,.int .i64 a2_4,.int .i64 a2_5]] w fun e w' => e = .returned (.int .i64 r) ∧ Below w.heap.size w w':=by
 have hu26:=Try.underlying26
 have hu62:=Try.underlying62
 have HR0_1:=am_ hr0_1
 have HC0_1:=am_ hc0_1
 clear hr0_1 hc0_1
 have HR0_2:=am_ hr0_2
 have HC0_2:=am_ hc0_2
 clear hr0_2 hc0_2
 have HR1:=am_ hr1
 have HC1:=am_ hc1
 clear hr1 hc1
 have HB:=am_ (Below.refl w.heap.size w)
 have H : (if 0 ≤ a2_2 then (if a2_2 < (l1.length : Int) then (if 0 ≤ a2_1 then (if a2_1 < (l1.length : Int) then ((railplanref1_Mod.f (wrap64 ((wrap64 ((rd l1 a2_2) - (rd l1 a2_1))) - a2_3)) a0_0).bind fun t375 => (some (wrap64 (a2_3 + t375)))) else (none)) else (none)) else (none)) else (none)) = some r:=h
 clear h
 by_cases c4 : 0 ≤ a2_2
 ·rw [if_pos c4] at H
  have c4b0:=decide_eq_true c4;clear c4
  by_cases c5 : a2_2 < (l1.length : Int)
  ·rw [if_pos c5] at H
   have c5b0:=decide_eq_true c5;clear c5
   by_cases c6 : 0 ≤ a2_1
   ·rw [if_pos c6] at H
    have c6b0:=decide_eq_true c6;clear c6
    by_cases c7 : a2_1 < (l1.length : Int)
    (·rw [if_pos c7] at H;(have c7b0:=decide_eq_true c7;clear c7;replace H:=be_ H;obtain ⟨t375,A80,H⟩:=H;have A8:=am_ A80;clear A80;obtain rfl:=Option.some.inj H;(go_enter Try.func39,Try.ntmps39);(go_wp2_with (first|((with_reducible refine gd_ (N:=3) rfl ?_);refine bx2_ 3 #[.int .i64 a0_0,.slice A0_1 l0_1.length c0_1,.slice A0_2 l0_2.length c0_2] 26 (fun gb371 hg w9 hbox hb => ?_);have n0_:=hb_ HB hb;have n1_:=am_ (hbox);have n2_ : Aside0 (w.heap.size ≤ gb371):=gz_ hg HB;have n3_ : Aside0 (w.heap.size ≤ gb371):=gz_ hg HB;revert n0_ n1_ n2_ n3_;clear HB;intro HB BK371 GW371 GE371;clear hb hbox hg)|((with_reducible refine gd_ (N:=5) rfl ?_);refine bx2_ 5 #[.int .i64 a2_0,.int .i64 a2_1,.int .i64 a2_2,.int .i64 a2_3,.int .i64 a2_4,.int .i64 a2_5] 62 (fun gb372 hg w10 hbox hb => ?_);have n0_:=kb_ BK371 hb;have n1_:=hb_ HB hb;have n2_:=am_ (hbox);have n3_ : Aside0 (w.heap.size ≤ gb372):=gz_ hg HB;have n4_ : Aside0 (w.heap.size ≤ gb372):=gz_ hg HB;have n5_:=nl_ hg BK371;have n6_:=ng_ hg BK371;revert n0_ n1_ n2_ n3_ n4_ n5_ n6_;clear BK371 HB;intro BK371 HB BK372 GW372 GE372 NB371_372 NB372_371;clear hb hbox hg;have hnb11:=NB372_371.out;have hnc11:=NB371_372.out;have hcz12_0:=cA_ BK372;have hfz12_0:=fA_ BK372;have p373:=de_ (0 ≤ (a2_2 : Int));have q373:=de_ (a2_2 < (l1.length : Int));obtain ⟨ad373,e373,hx373_0⟩:=Kd.at_int HR1.out a2_2 p373 q373;cases e373;replace hx373_0:=cl_ HB hx373_0;replace p373:=eq_true p373;replace q373:=eq_true q373;have p374:=de_ (0 ≤ (a2_1 : Int));have q374:=de_ (a2_1 < (l1.length : Int));obtain ⟨ad374,e374,hx374_0⟩:=Kd.at_int HR1.out a2_1 p374 q374;obtain rfl : ad373 = ad374:=(by injection e374);replace hx374_0:=cl_ HB hx374_0;replace p374:=eq_true p374;replace q374:=eq_true q374;have hcz13_0:=cA_ BK371;have hfz13_0:=fA_ BK371)|(go_at_call 60;(with_reducible refine (railplanref1_Mod.calls (wrap64 ((wrap64 ((rd l1 a2_2) - (rd l1 a2_1))) - a2_3)) a0_0 t375 _ A8.out).mono ?_);rintro e w' ⟨rfl,⟨nd,rfl⟩⟩;(try first|exact ⟨rfl,_,World.drewN_drewN _ _ _⟩|exact ⟨rfl,_,Eq.trans (World.drewN_drewN _ _ _) (congrArg (World.drewN _) (Nat.add_assoc _ _ _))⟩))));(repeat (go_quiet (first|((with_reducible refine gd_ (N:=3) rfl ?_);refine bx2_ 3 #[.int .i64 a0_0,.slice A0_1 l0_1.length c0_1,.slice A0_2 l0_2.length c0_2] 26 (fun gb371 hg w9 hbox hb => ?_);have n0_:=hb_ HB hb;have n1_:=am_ (hbox);have n2_ : Aside0 (w.heap.size ≤ gb371):=gz_ hg HB;have n3_ : Aside0 (w.heap.size ≤ gb371):=gz_ hg HB;revert n0_ n1_ n2_ n3_;clear HB;intro HB BK371 GW371 GE371;clear hb hbox hg)|((with_reducible refine gd_ (N:=5) rfl ?_);refine bx2_ 5 #[.int .i64 a2_0,.int .i64 a2_1,.int .i64 a2_2,.int .i64 a2_3,.int .i64 a2_4,.int .i64 a2_5] 62 (fun gb372 hg w10 hbox hb => ?_);have n0_:=kb_ BK371 hb;have n1_:=hb_ HB hb;have n2_:=am_ (hbox);have n3_ : Aside0 (w.heap.size ≤ gb372):=gz_ hg HB;have n4_ : Aside0 (w.heap.size ≤ gb372):=gz_ hg HB;have n5_:=nl_ hg BK371;have n6_:=ng_ hg BK371;revert n0_ n1_ n2_ n3_ n4_ n5_ n6_;clear BK371 HB;intro BK371 HB BK372 GW372 GE372 NB371_372 NB372_371;clear hb hbox hg;have hnb11:=NB372_371.out;have hnc11:=NB371_372.out;have hcz12_0:=cA_ BK372;have hfz12_0:=fA_ BK372;have p373:=de_ (0 ≤ (a2_2 : Int));have q373:=de_ (a2_2 < (l1.length : Int));obtain ⟨ad373,e373,hx373_0⟩:=Kd.at_int HR1.out a2_2 p373 q373;cases e373;replace hx373_0:=cl_ HB hx373_0;replace p373:=eq_true p373;replace q373:=eq_true q373;have p374:=de_ (0 ≤ (a2_1 : Int));have q374:=de_ (a2_1 < (l1.length : Int));obtain ⟨ad374,e374,hx374_0⟩:=Kd.at_int HR1.out a2_1 p374 q374;obtain rfl : ad373 = ad374:=(by injection e374);replace hx374_0:=cl_ HB hx374_0;replace p374:=eq_true p374;replace q374:=eq_true q374;have hcz13_0:=cA_ BK371;have hfz13_0:=fA_ BK371)|(go_at_call 60;(with_reducible refine (railplanref1_Mod.calls (wrap64 ((wrap64 ((rd l1 a2_2) - (rd l1 a2_1))) - a2_3)) a0_0 t375 _ A8.out).mono ?_);rintro e w' ⟨rfl,⟨nd,rfl⟩⟩;(try first|exact ⟨rfl,_,World.drewN_drewN _ _ _⟩|exact ⟨rfl,_,Eq.trans (World.drewN_drewN _ _ _) (congrArg (World.drewN _) (Nat.add_assoc _ _ _))⟩)));try go_wp2_with (first|((with_reducible refine gd_ (N:=3) rfl ?_);refine bx2_ 3 #[.int .i64 a0_0,.slice A0_1 l0_1.length c0_1,.slice A0_2 l0_2.length c0_2] 26 (fun gb371 hg w9 hbox hb => ?_);have n0_:=hb_ HB hb;have n1_:=am_ (hbox);have n2_ : Aside0 (w.heap.size ≤ gb371):=gz_ hg HB;have n3_ : Aside0 (w.heap.size ≤ gb371):=gz_ hg HB;revert n0_ n1_ n2_ n3_;clear HB;intro HB BK371 GW371 GE371;clear hb hbox hg)|((with_reducible refine gd_ (N:=5) rfl ?_);refine bx2_ 5 #[.int .i64 a2_0,.int .i64 a2_1,.int .i64 a2_2,.int .i64 a2_3,.int .i64 a2_4,.int .i64 a2_5] 62 (fun gb372 hg w10 hbox hb => ?_);have n0_:=kb_ BK371 hb;have n1_:=hb_ HB hb;have n2_:=am_ (hbox);have n3_ : Aside0 (w.heap.size ≤ gb372):=gz_ hg HB;have n4_ : Aside0 (w.heap.size ≤ gb372):=gz_ hg HB;have n5_:=nl_ hg BK371;have n6_:=ng_ hg BK371;revert n0_ n1_ n2_ n3_ n4_ n5_ n6_;clear BK371 HB;intro BK371 HB BK372 GW372 GE372 NB371_372 NB372_371;clear hb hbox hg;have hnb11:=NB372_371.out;have hnc11:=NB371_372.out;have hcz12_0:=cA_ BK372;have hfz12_0:=fA_ BK372;have p373:=de_ (0 ≤ (a2_2 : Int));have q373:=de_ (a2_2 < (l1.length : Int));obtain ⟨ad373,e373,hx373_0⟩:=Kd.at_int HR1.out a2_2 p373 q373;cases e373;replace hx373_0:=cl_ HB hx373_0;replace p373:=eq_true p373;replace q373:=eq_true q373;have p374:=de_ (0 ≤ (a2_1 : Int));have q374:=de_ (a2_1 < (l1.length : Int));obtain ⟨ad374,e374,hx374_0⟩:=Kd.at_int HR1.out a2_1 p374 q374;obtain rfl : ad373 = ad374:=(by injection e374);replace hx374_0:=cl_ HB hx374_0;replace p374:=eq_true p374;replace q374:=eq_true q374;have hcz13_0:=cA_ BK371;have hfz13_0:=fA_ BK371)|(go_at_call 60;(with_reducible refine (railplanref1_Mod.calls (wrap64 ((wrap64 ((rd l1 a2_2) - (rd l1 a2_1))) - a2_3)) a0_0 t375 _ A8.out).mono ?_);rintro e w' ⟨rfl,⟨nd,rfl⟩⟩;(try first|exact ⟨rfl,_,World.drewN_drewN _ _ _⟩|exact ⟨rfl,_,Eq.trans (World.drewN_drewN _ _ _) (congrArg (World.drewN _) (Nat.add_assoc _ _ _))⟩)))));(go_ret);(exact ⟨by first|rfl|(simp [errW_none,errW_some] <;> rfl)|(simp [*,errW_none,errW_some] <;> rfl),hB_ HB⟩)));(·rw [if_neg c7] at H;(simp at H))
   ·rw [if_neg c6] at H;(simp at H)
  ·rw [if_neg c5] at H;(simp at H)
 ·rw [if_neg c4] at H;(simp at H)
end Go.Proofs.Ytgbcgbfoejkieaa.PAll
