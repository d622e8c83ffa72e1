-- Packed by wip/tools/pack.py of this session out of what plugprint.py and the kit's print wrote. Lean checks it.
import Derived.Test.YtpclhbcflkncnaaAS
namespace Go.Proofs.Ytpclhbcflkncnaa.PAll
open Go.RowKit Go.Proofs.YtpclhbcflkncnaaW.PrintWords Go.Proofs.YtpclhbcflkncnaaW.PrintLast Go.Proofs.YtpclhbcflkncnaaW.PrintMore
attribute [local go_sem] max2_int min2_int max_two min_two max_three min_three max_four min_four
set_option linter.unusedVariables false
set_option linter.unusedSimpArgs false
/-! ### railplanref41_order: function 36 -/
def railplanref41_order.j0 : Nat → Bool → Int → Int → List Int → List Int → Int → Int → List Int → List Int → Option (Int)
 | 0,_,_,_,_,_,_,_,_,_ => none
 | k + 1,x5,x386000,x386001,x386002,x386003,x387000,x387001,x387002,x387003 => if x5 = true then (some (-1)) else (if 0 < (x386002.length : Int) then (if 0 < (x387002.length : Int) then (if (rd x386002 0) = (rd x387002 0) then (if x386000 = x387000 then (some 0) else (some 1)) else (some 1)) else (none)) else (none))
def railplanref41_order.f (k : Nat) (a0_0 : Int) (a0_1 : Int) (l0_2 : List Int) (l0_3 : List Int) (a1_0 : Int) (a1_1 : Int) (l1_2 : List Int) (l1_3 : List Int) : Option (Int):=if 0 < (l0_2.length : Int) then (if 0 < (l1_2.length : Int) then (if (rd l0_2 0) < (rd l1_2 0) then (railplanref41_order.j0 k true a0_0 a0_1 l0_2 l0_3 a1_0 a1_1 l1_2 l1_3) else (if (rd l0_2 0) = (rd l1_2 0) then (railplanref41_order.j0 k (decide (a0_0 < a1_0)) a0_0 a0_1 l0_2 l0_3 a1_0 a1_1 l1_2 l1_3) else (railplanref41_order.j0 k false a0_0 a0_1 l0_2 l0_3 a1_0 a1_1 l1_2 l1_3))) else (none)) else (none)
theorem railplanref41_order.mono_l : ∀ k,(∀ y0 y1 y2 y3 y4 y5 y6 y7 y8,LeO (railplanref41_order.j0 k y0 y1 y2 y3 y4 y5 y6 y7 y8) (railplanref41_order.j0 (k + 1) y0 y1 y2 y3 y4 y5 y6 y7 y8))
 | 0 => fun _ _ _ _ _ _ _ _ _ r h => by simp [railplanref41_order.j0] at h
 | k + 1 => by
  have ih0:=railplanref41_order.mono_l k
  ·intro y0 y1 y2 y3 y4 y5 y6 y7 y8
   unfold railplanref41_order.j0
   repeat' first
   | (with_reducible exact ih0 _ _ _ _ _ _ _ _ _)
   | (with_reducible exact LeO.refl _)
   | (with_reducible exact LeO.none _)
   | (with_reducible refine LeO.ite ?_ ?_)
   | (with_reducible refine LeO.bind ?_ (fun _ => ?_))
   | exact ih0 _ _ _ _ _ _ _ _ _
   | exact LeO.none _
   | refine LeO.ite ?_ ?_
   | refine LeO.bind ?_ (fun _ => ?_)
theorem railplanref41_order.mono : ∀ a0 a1 a2 a3 a4 a5 a6 a7 k,LeO (railplanref41_order.f k a0 a1 a2 a3 a4 a5 a6 a7) (railplanref41_order.f (k + 1) a0 a1 a2 a3 a4 a5 a6 a7):=by
 intro a0 a1 a2 a3 a4 a5 a6 a7 k;have ih0:=railplanref41_order.mono_l k;(unfold railplanref41_order.f)
 repeat' first
   | (with_reducible exact ih0 _ _ _ _ _ _ _ _ _)
   | (with_reducible exact LeO.refl _)
   | (with_reducible exact LeO.none _)
   | (with_reducible refine LeO.ite ?_ ?_)
   | (with_reducible refine LeO.bind ?_ (fun _ => ?_))
   | exact ih0 _ _ _ _ _ _ _ _ _
   | exact LeO.none _
   | refine LeO.ite ?_ ?_
   | refine LeO.bind ?_ (fun _ => ?_)
set_option maxHeartbeats 8000000 in
set_option maxRecDepth 100000 in
theorem railplanref41_order.calls (k : Nat) (a0_0 : Int) (a0_1 : Int) (A0_2 : Option Addr) (c0_2 : Nat) (l0_2 : List Int) (A0_3 : Option Addr) (c0_3 : Nat) (l0_3 : List Int) (a1_0 : Int) (a1_1 : Int) (A1_2 : Option Addr) (c1_2 : Nat) (l1_2 : List Int) (A1_3 : Option Addr) (c1_3 : Nat) (l1_3 : List Int) (r : Int) (w : World) (hr0_2 : Kd.C (Kd.int .i64) w A0_2 l0_2.length l0_2) (hc0_2 : l0_2.length ≤ c0_2) (hr0_3 : Kd.C (Kd.int .i64) w A0_3 l0_3.length l0_3) (hc0_3 : l0_3.length ≤ c0_3) (hr1_2 : Kd.C (Kd.int .i64) w A1_2 l1_2.length l1_2) (hc1_2 : l1_2.length ≤ c1_2) (hr1_3 : Kd.C (Kd.int .i64) w A1_3 l1_3.length l1_3) (hc1_3 : l1_3.length ≤ c1_3) (h : railplanref41_order.f k a0_0 a0_1 l0_2 l0_3 a1_0 a1_1 l1_2 l1_3 = some r) :
  Calls Try.prog 36 #[.agg #[.int .i64 a0_0,.int .i64 a0_1,.slice A0_2 l0_2.length c0_2,.slice A0_3 l0_3.length c0_3],.agg #[.int .i64 a1_0,.int .i64 a1_1,.slice A1_2 l1_2.length c1_2,.slice A1_3 l1_3.length c1_3]] w fun e w' => e = .returned (.int .i64 r) ∧ Below w.heap.size w w':=by
 have hu28:=Try.underlying28
 have HR0_2:=am_ hr0_2
 have HC0_2:=am_ hc0_2
 clear hr0_2 hc0_2
 have HR0_3:=am_ hr0_3
 have HC0_3:=am_ hc0_3
 clear hr0_3 hc0_3
 have HR1_2:=am_ hr1_2
 have HC1_2:=am_ hc1_2
 clear hr1_2 hc1_2
 have HR1_3:=am_ hr1_3
 have HC1_3:=am_ hc1_3
 clear hr1_3 hc1_3
 have HB:=am_ (Below.refl w.heap.size w)
 have H : (if 0 < (l0_2.length : Int) then (if 0 < (l1_2.length : Int) then (if (rd l0_2 0) < (rd l1_2 0) then (railplanref41_order.j0 k true a0_0 a0_1 l0_2 l0_3 a1_0 a1_1 l1_2 l1_3) else (if (rd l0_2 0) = (rd l1_2 0) then (railplanref41_order.j0 k (decide (a0_0 < a1_0)) a0_0 a0_1 l0_2 l0_3 a1_0 a1_1 l1_2 l1_3) else (railplanref41_order.j0 k false a0_0 a0_1 l0_2 l0_3 a1_0 a1_1 l1_2 l1_3))) else (none)) else (none)) = some r:=h
 clear h
 have HC3:=am_ H
 clear H
 go_enter Try.func36,Try.ntmps36
 go_upto_region 1 with (first|((with_reducible refine gd_ (N:=2) rfl ?_);refine bx2_ 2 #[.int .i64 a0_0,.int .i64 a0_1,.slice A0_2 l0_2.length c0_2,.slice A0_3 l0_3.length c0_3] 28 (fun gb385 hg w4 hbox hb => ?_);have n0_:=hb_ HB hb;have n1_:=am_ (hbox);have n2_ : Aside0 (w.heap.size ≤ gb385):=gz_ hg HB;have n3_ : Aside0 (w.heap.size ≤ gb385):=gz_ hg HB;revert n0_ n1_ n2_ n3_;clear HB;intro HB BK385 GW385 GE385;clear hb hbox hg)|((with_reducible refine gd_ (N:=3) rfl ?_);refine bx2_ 3 #[.int .i64 a1_0,.int .i64 a1_1,.slice A1_2 l1_2.length c1_2,.slice A1_3 l1_3.length c1_3] 28 (fun gb386 hg w5 hbox hb => ?_);have n0_:=kb_ BK385 hb;have n1_:=hb_ HB hb;have n2_:=am_ (hbox);have n3_ : Aside0 (w.heap.size ≤ gb386):=gz_ hg HB;have n4_ : Aside0 (w.heap.size ≤ gb386):=gz_ hg HB;have n5_:=nl_ hg BK385;have n6_:=ng_ hg BK385;revert n0_ n1_ n2_ n3_ n4_ n5_ n6_;clear BK385 HB;intro BK385 HB BK386 GW386 GE386 NB385_386 NB386_385;clear hb hbox hg))
 repeat (go_quiet (first|((with_reducible refine gd_ (N:=2) rfl ?_);refine bx2_ 2 #[.int .i64 a0_0,.int .i64 a0_1,.slice A0_2 l0_2.length c0_2,.slice A0_3 l0_3.length c0_3] 28 (fun gb385 hg w4 hbox hb => ?_);have n0_:=hb_ HB hb;have n1_:=am_ (hbox);have n2_ : Aside0 (w.heap.size ≤ gb385):=gz_ hg HB;have n3_ : Aside0 (w.heap.size ≤ gb385):=gz_ hg HB;revert n0_ n1_ n2_ n3_;clear HB;intro HB BK385 GW385 GE385;clear hb hbox hg)|((with_reducible refine gd_ (N:=3) rfl ?_);refine bx2_ 3 #[.int .i64 a1_0,.int .i64 a1_1,.slice A1_2 l1_2.length c1_2,.slice A1_3 l1_3.length c1_3] 28 (fun gb386 hg w5 hbox hb => ?_);have n0_:=kb_ BK385 hb;have n1_:=hb_ HB hb;have n2_:=am_ (hbox);have n3_ : Aside0 (w.heap.size ≤ gb386):=gz_ hg HB;have n4_ : Aside0 (w.heap.size ≤ gb386):=gz_ hg HB;have n5_:=nl_ hg BK385;have n6_:=ng_ hg BK385;revert n0_ n1_ n2_ n3_ n4_ n5_ n6_;clear BK385 HB;intro BK385 HB BK386 GW386 GE386 NB385_386 NB386_385;clear hb hbox hg));go_upto_region 1 with (first|((with_reducible refine gd_ (N:=2) rfl ?_);refine bx2_ 2 #[.int .i64 a0_0,.int .i64 a0_1,.slice A0_2 l0_2.length c0_2,.slice A0_3 l0_3.length c0_3] 28 (fun gb385 hg w4 hbox hb => ?_);have n0_:=hb_ HB hb;have n1_:=am_ (hbox);have n2_ : Aside0 (w.heap.size ≤ gb385):=gz_ hg HB;have n3_ : Aside0 (w.heap.size ≤ gb385):=gz_ hg HB;revert n0_ n1_ n2_ n3_;clear HB;intro HB BK385 GW385 GE385;clear hb hbox hg)|((with_reducible refine gd_ (N:=3) rfl ?_);refine bx2_ 3 #[.int .i64 a1_0,.int .i64 a1_1,.slice A1_2 l1_2.length c1_2,.slice A1_3 l1_3.length c1_3] 28 (fun gb386 hg w5 hbox hb => ?_);have n0_:=kb_ BK385 hb;have n1_:=hb_ HB hb;have n2_:=am_ (hbox);have n3_ : Aside0 (w.heap.size ≤ gb386):=gz_ hg HB;have n4_ : Aside0 (w.heap.size ≤ gb386):=gz_ hg HB;have n5_:=nl_ hg BK385;have n6_:=ng_ hg BK385;revert n0_ n1_ n2_ n3_ n4_ n5_ n6_;clear BK385 HB;intro BK385 HB BK386 GW386 GE386 NB385_386 NB386_385;clear hb hbox hg)))
 (try simp only [Act.put,Lx_,Ly_,Lz_])
 go_cut [5] (fun v5 wc => ∃ (kq : Nat) (x5_2 : Bool),v5 = .bool x5_2 ∧ Aside0 (railplanref41_order.j0 kq x5_2 a0_0 a0_1 l0_2 l0_3 a1_0 a1_1 l1_2 l1_3 = some r) ∧ Aside0 (kq ≤ k) ∧ Aside0 (wc.heap[gb385]? = some (.cells #[.int .i64 a0_0,.int .i64 a0_1,(.slice A0_2 l0_2.length c0_2),(.slice A0_3 l0_3.length c0_3)] 28 (0,0))) ∧ Aside0 (wc.heap[gb386]? = some (.cells #[.int .i64 a1_0,.int .i64 a1_1,(.slice A1_2 l1_2.length c1_2),(.slice A1_3 l1_3.length c1_3)] 28 (0,0))) ∧ Aside0 (Below w.heap.size w wc))
 case first =>
  have H:=HC3.out;clear HC3
  by_cases c6 : 0 < (l0_2.length : Int)
  ·rw [if_pos c6] at H
   have c6b0:=decide_eq_true c6;have c6b1 : decide (0 < l0_2.length) = true:=decide_eq_true (by omega);clear c6;(first|rw [c6b0]|(simp only [i64_w,i32_w];rw [c6b0])|skip)
   by_cases c7 : 0 < (l1_2.length : Int)
   ·rw [if_pos c7] at H
    have c7b0:=decide_eq_true c7;have c7b1 : decide (0 < l1_2.length) = true:=decide_eq_true (by omega);clear c7
    by_cases c8 : (rd l0_2 0) < (rd l1_2 0)
    ·rw [if_pos c8] at H
     have c8b0:=decide_eq_true c8;clear c8;have H':=am_ H;clear H;have hnb9:=NB385_386.out;have hnc9:=NB386_385.out;have hcz10_0:=cA_ BK385;have hfz10_0:=fA_ BK385;have p387 : 0 ≤ (0 : Int):=(by omega);have q387:=de_ (0 < (l0_2.length : Int));obtain ⟨ad387,e387,hx387_0⟩:=Kd.at_int HR0_2.out 0 p387 q387;cases e387;have qi387 : (0 < l0_2.length) = True:=eq_true (by omega);(try rw [show ((0 : Int)).toNat = 0 from rfl] at hx387_0);(try rw [Addr.add_zero'] at hx387_0);replace hx387_0:=cl_ HB hx387_0;replace p387:=eq_true p387;replace q387:=eq_true q387;have hcz11_0:=cA_ BK386;have hfz11_0:=fA_ BK386;have p388 : 0 ≤ (0 : Int):=(by omega);have q388:=de_ (0 < (l1_2.length : Int));obtain ⟨ad388,e388,hx388_0⟩:=Kd.at_int HR1_2.out 0 p388 q388;cases e388;have qi388 : (0 < l1_2.length) = True:=eq_true (by omega);(try rw [show ((0 : Int)).toNat = 0 from rfl] at hx388_0);(try rw [Addr.add_zero'] at hx388_0);replace hx388_0:=cl_ HB hx388_0;replace p388:=eq_true p388;replace q388:=eq_true q388;(go_wp2);(repeat (go_quiet (fail);try go_wp2));(go_meet)
     case rel => exact ⟨_,(true),(by first|rfl|(simp;done)|(simp [*];done)),H',⟨by first|omega|exact Nat.le_refl _⟩,kk_ BK385,kk_ BK386,hh_ HB⟩
    ·rw [if_neg c8] at H
     have c8b0:=decide_eq_false c8;clear c8
     by_cases c12 : (rd l0_2 0) = (rd l1_2 0)
     ·rw [if_pos c12] at H
      have c12b0 : ((rd l0_2 0) == (rd l1_2 0)) = true:=beq_iff_eq.mpr c12;have c12b1 : ((rd l0_2 0) != (rd l1_2 0)) = false:=bne_eq_false_iff_eq.mpr c12;clear c12;have H':=am_ H;clear H;have hnb13:=NB385_386.out;have hnc13:=NB386_385.out;have hcz14_0:=cA_ BK385;have hfz14_0:=fA_ BK385;have p387 : 0 ≤ (0 : Int):=(by omega);have q387:=de_ (0 < (l0_2.length : Int));obtain ⟨ad387,e387,hx387_0⟩:=Kd.at_int HR0_2.out 0 p387 q387;cases e387;have qi387 : (0 < l0_2.length) = True:=eq_true (by omega);(try rw [show ((0 : Int)).toNat = 0 from rfl] at hx387_0);(try rw [Addr.add_zero'] at hx387_0);replace hx387_0:=cl_ HB hx387_0;replace p387:=eq_true p387;replace q387:=eq_true q387;have hcz15_0:=cA_ BK386;have hfz15_0:=fA_ BK386;have p388 : 0 ≤ (0 : Int):=(by omega);have q388:=de_ (0 < (l1_2.length : Int));obtain ⟨ad388,e388,hx388_0⟩:=Kd.at_int HR1_2.out 0 p388 q388;cases e388;have qi388 : (0 < l1_2.length) = True:=eq_true (by omega);(try rw [show ((0 : Int)).toNat = 0 from rfl] at hx388_0);(try rw [Addr.add_zero'] at hx388_0);replace hx388_0:=cl_ HB hx388_0;replace p388:=eq_true p388;replace q388:=eq_true q388;have p389 : 0 ≤ (0 : Int):=(by omega);have q389:=de_ (0 < (l0_2.length : Int));obtain ⟨ad389,e389,hx389_0⟩:=Kd.at_int HR0_2.out 0 p389 q389;obtain rfl : ad387 = ad389:=(by injection e389);have qi389 : (0 < l0_2.length) = True:=eq_true (by omega);(try rw [show ((0 : Int)).toNat = 0 from rfl] at hx389_0);(try rw [Addr.add_zero'] at hx389_0);replace hx389_0:=cl_ HB hx389_0;replace p389:=eq_true p389;replace q389:=eq_true q389;have p390 : 0 ≤ (0 : Int):=(by omega);have q390:=de_ (0 < (l1_2.length : Int));obtain ⟨ad390,e390,hx390_0⟩:=Kd.at_int HR1_2.out 0 p390 q390;obtain rfl : ad388 = ad390:=(by injection e390);have qi390 : (0 < l1_2.length) = True:=eq_true (by omega);(try rw [show ((0 : Int)).toNat = 0 from rfl] at hx390_0);(try rw [Addr.add_zero'] at hx390_0);replace hx390_0:=cl_ HB hx390_0;replace p390:=eq_true p390;replace q390:=eq_true q390;(go_wp2);(repeat (go_quiet (fail);try go_wp2));(go_meet)
      case rel => exact ⟨_,(decide (a0_0 < a1_0)),(by first|rfl|(simp;done)|(simp [*];done)),H',⟨by first|omega|exact Nat.le_refl _⟩,kk_ BK385,kk_ BK386,hh_ HB⟩
     ·rw [if_neg c12] at H
      have c12b0 : ((rd l0_2 0) == (rd l1_2 0)) = false:=beq_eq_false_iff_ne.mpr c12;have c12b1 : ((rd l0_2 0) != (rd l1_2 0)) = true:=bne_iff_ne.mpr c12;have H':=am_ H;clear H;have hnb16:=NB385_386.out;have hnc16:=NB386_385.out;have hcz17_0:=cA_ BK385;have hfz17_0:=fA_ BK385;have p387 : 0 ≤ (0 : Int):=(by omega);have q387:=de_ (0 < (l0_2.length : Int));obtain ⟨ad387,e387,hx387_0⟩:=Kd.at_int HR0_2.out 0 p387 q387;cases e387;have qi387 : (0 < l0_2.length) = True:=eq_true (by omega);(try rw [show ((0 : Int)).toNat = 0 from rfl] at hx387_0);(try rw [Addr.add_zero'] at hx387_0);replace hx387_0:=cl_ HB hx387_0;replace p387:=eq_true p387;replace q387:=eq_true q387;have hcz18_0:=cA_ BK386;have hfz18_0:=fA_ BK386;have p388 : 0 ≤ (0 : Int):=(by omega);have q388:=de_ (0 < (l1_2.length : Int));obtain ⟨ad388,e388,hx388_0⟩:=Kd.at_int HR1_2.out 0 p388 q388;cases e388;have qi388 : (0 < l1_2.length) = True:=eq_true (by omega);(try rw [show ((0 : Int)).toNat = 0 from rfl] at hx388_0);(try rw [Addr.add_zero'] at hx388_0);replace hx388_0:=cl_ HB hx388_0;replace p388:=eq_true p388;replace q388:=eq_true q388;have p389 : 0 ≤ (0 : Int):=(by omega);have q389:=de_ (0 < (l0_2.length : Int));obtain ⟨ad389,e389,hx389_0⟩:=Kd.at_int HR0_2.out 0 p389 q389;obtain rfl : ad387 = ad389:=(by injection e389);have qi389 : (0 < l0_2.length) = True:=eq_true (by omega);(try rw [show ((0 : Int)).toNat = 0 from rfl] at hx389_0);(try rw [Addr.add_zero'] at hx389_0);replace hx389_0:=cl_ HB hx389_0;replace p389:=eq_true p389;replace q389:=eq_true q389;have p390 : 0 ≤ (0 : Int):=(by omega);have q390:=de_ (0 < (l1_2.length : Int));obtain ⟨ad390,e390,hx390_0⟩:=Kd.at_int HR1_2.out 0 p390 q390;obtain rfl : ad388 = ad390:=(by injection e390);have qi390 : (0 < l1_2.length) = True:=eq_true (by omega);(try rw [show ((0 : Int)).toNat = 0 from rfl] at hx390_0);(try rw [Addr.add_zero'] at hx390_0);replace hx390_0:=cl_ HB hx390_0;replace p390:=eq_true p390;replace q390:=eq_true q390;(go_wp2);(repeat (go_quiet (fail);try go_wp2));(go_meet)
      case rel => exact ⟨_,(false),(by first|rfl|(simp;done)|(simp [*];done)),H',⟨by first|omega|exact Nat.le_refl _⟩,kk_ BK385,kk_ BK386,hh_ HB⟩
   ·rw [if_neg c7] at H;(simp at H)
  ·rw [if_neg c6] at H;(simp at H)
 case rest =>
  clear HC3;(try clear c1);(try clear p2);(try clear c3);(try clear p3);(try clear q3);(try clear hx3);(try clear qi3);(try clear c6);(try clear c6b0);(try clear c6b1);(try clear c7);(try clear c7b0);(try clear c7b1);(try clear c8);(try clear c8b0);(try clear c9);(try clear c12);(try clear c12b0);(try clear c12b1);(try clear c13);(try clear c16);(try clear hcz10_0);(try clear hcz11_0);(try clear hcz14_0);(try clear hcz15_0);(try clear hcz17_0);(try clear hcz18_0);(try clear hfz10_0);(try clear hfz11_0);(try clear hfz14_0);(try clear hfz15_0);(try clear hfz17_0);(try clear hfz18_0);(try clear hx387_0);(try clear hx388_0);(try clear hx389_0);(try clear hx390_0);(try clear p387);(try clear p388);(try clear p389);(try clear p390);(try clear q387);(try clear q388);(try clear q389);(try clear q390);obtain ⟨kq,x5_2,rfl,HA,HJ2,BK385,BK386,HB⟩:=hcut;cases kq with
  | zero => exact absurd HA.out (by simp [railplanref41_order.j0])
  | succ kj2 =>
   have H:=HA.out;clear HA;simp only [railplanref41_order.j0] at H
   by_cases c19 : x5_2 = true
   ·subst c19;(rw [if_pos rfl] at H;obtain rfl:=Option.some.inj H;(go_wp2);(repeat (go_quiet (fail);try go_wp2));(go_ret);(exact ⟨by first|rfl|(simp [errW_none,errW_some] <;> rfl)|(simp [*,errW_none,errW_some] <;> rfl),hB_ HB⟩))
   ·replace c19:=Bool.eq_false_iff.mpr c19
    subst c19;rw [if_neg (show ¬ (false = true) by decide)] at H
    by_cases c20 : 0 < (l0_2.length : Int)
    ·rw [if_pos c20] at H
     have c20b0:=decide_eq_true c20;have c20b1 : decide (0 < l0_2.length) = true:=decide_eq_true (by omega);clear c20
     by_cases c21 : 0 < (l1_2.length : Int)
     ·rw [if_pos c21] at H
      have c21b0:=decide_eq_true c21;have c21b1 : decide (0 < l1_2.length) = true:=decide_eq_true (by omega);clear c21
      by_cases c22 : (rd l0_2 0) = (rd l1_2 0)
      ·rw [if_pos c22] at H
       have c22b0 : ((rd l0_2 0) == (rd l1_2 0)) = true:=beq_iff_eq.mpr c22;have c22b1 : ((rd l0_2 0) != (rd l1_2 0)) = false:=bne_eq_false_iff_eq.mpr c22;clear c22
       by_cases c23 : a0_0 = a1_0
       (·rw [if_pos c23] at H;(have c23b0 : (a0_0 == a1_0) = true:=beq_iff_eq.mpr c23;have c23b1 : (a0_0 != a1_0) = false:=bne_eq_false_iff_eq.mpr c23;clear c23;obtain rfl:=Option.some.inj H;have hnb24:=NB385_386.out;have hnc24:=NB386_385.out;have hcz25_0:=cA_ BK385;have hfz25_0:=fA_ BK385;have p391 : 0 ≤ (0 : Int):=(by omega);have q391:=de_ (0 < (l0_2.length : Int));obtain ⟨ad391,e391,hx391_0⟩:=Kd.at_int HR0_2.out 0 p391 q391;cases e391;have qi391 : (0 < l0_2.length) = True:=eq_true (by omega);(try rw [show ((0 : Int)).toNat = 0 from rfl] at hx391_0);(try rw [Addr.add_zero'] at hx391_0);replace hx391_0:=cl_ HB hx391_0;replace p391:=eq_true p391;replace q391:=eq_true q391;have hcz26_0:=cA_ BK386;have hfz26_0:=fA_ BK386;have p392 : 0 ≤ (0 : Int):=(by omega);have q392:=de_ (0 < (l1_2.length : Int));obtain ⟨ad392,e392,hx392_0⟩:=Kd.at_int HR1_2.out 0 p392 q392;cases e392;have qi392 : (0 < l1_2.length) = True:=eq_true (by omega);(try rw [show ((0 : Int)).toNat = 0 from rfl] at hx392_0);(try rw [Addr.add_zero'] at hx392_0);replace hx392_0:=cl_ HB hx392_0;replace p392:=eq_true p392;replace q392:=eq_true q392;(go_wp2);(repeat (go_quiet (fail);try go_wp2));(go_ret);(exact ⟨by first|rfl|(simp [errW_none,errW_some] <;> rfl)|(simp [*,errW_none,errW_some] <;> rfl),hB_ HB⟩)));(·rw [if_neg c23] at H;(have c23b0 : (a0_0 == a1_0) = false:=beq_eq_false_iff_ne.mpr c23;have c23b1 : (a0_0 != a1_0) = true:=bne_iff_ne.mpr c23;obtain rfl:=Option.some.inj H;have hnb27:=NB385_386.out;have hnc27:=NB386_385.out;have hcz28_0:=cA_ BK385;have hfz28_0:=fA_ BK385;have p391 : 0 ≤ (0 : Int):=(by omega);have q391:=de_ (0 < (l0_2.length : Int));obtain ⟨ad391,e391,hx391_0⟩:=Kd.at_int HR0_2.out 0 p391 q391;cases e391;have qi391 : (0 < l0_2.length) = True:=eq_true (by omega);(try rw [show ((0 : Int)).toNat = 0 from rfl] at hx391_0);(try rw [Addr.add_zero'] at hx391_0);replace hx391_0:=cl_ HB hx391_0;replace p391:=eq_true p391;replace q391:=eq_true q391;have hcz29_0:=cA_ BK386;have hfz29_0:=fA_ BK386;have p392 : 0 ≤ (0 : Int):=(by omega);have q392:=de_ (0 < (l1_2.length : Int));obtain ⟨ad392,e392,hx392_0⟩:=Kd.at_int HR1_2.out 0 p392 q392;cases e392;have qi392 : (0 < l1_2.length) = True:=eq_true (by omega);(try rw [show ((0 : Int)).toNat = 0 from rfl] at hx392_0);(try rw [Addr.add_zero'] at hx392_0);replace hx392_0:=cl_ HB hx392_0;replace p392:=eq_true p392;replace q392:=eq_true q392;(go_wp2);(repeat (go_quiet (fail);try go_wp2));(go_ret);(exact ⟨by first|rfl|(simp [errW_none,errW_some] <;> rfl)|(simp [*,errW_none,errW_some] <;> rfl),hB_ HB⟩)))
      ·rw [if_neg c22] at H;(have c22b0 : ((rd l0_2 0) == (rd l1_2 0)) = false:=beq_eq_false_iff_ne.mpr c22;have c22b1 : ((rd l0_2 0) != (rd l1_2 0)) = true:=bne_iff_ne.mpr c22;obtain rfl:=Option.some.inj H;have hnb30:=NB385_386.out;have hnc30:=NB386_385.out;have hcz31_0:=cA_ BK385;have hfz31_0:=fA_ BK385;have p391 : 0 ≤ (0 : Int):=(by omega);have q391:=de_ (0 < (l0_2.length : Int));obtain ⟨ad391,e391,hx391_0⟩:=Kd.at_int HR0_2.out 0 p391 q391;cases e391;have qi391 : (0 < l0_2.length) = True:=eq_true (by omega);(try rw [show ((0 : Int)).toNat = 0 from rfl] at hx391_0);(try rw [Addr.add_zero'] at hx391_0);replace hx391_0:=cl_ HB hx391_0;replace p391:=eq_true p391;replace q391:=eq_true q391;have hcz32_0:=cA_ BK386;have hfz32_0:=fA_ BK386;have p392 : 0 ≤ (0 : Int):=(by omega);have q392:=de_ (0 < (l1_2.length : Int));obtain ⟨ad392,e392,hx392_0⟩:=Kd.at_int HR1_2.out 0 p392 q392;cases e392;have qi392 : (0 < l1_2.length) = True:=eq_true (by omega);(try rw [show ((0 : Int)).toNat = 0 from rfl] at hx392_0);(try rw [Addr.add_zero'] at hx392_0);replace hx392_0:=cl_ HB hx392_0;replace p392:=eq_true p392;replace q392:=eq_true q392;(go_wp2);(repeat (go_quiet (fail);try go_wp2));(go_ret);(exact ⟨by first|rfl|(simp [errW_none,errW_some] <;> rfl)|(simp [*,errW_none,errW_some] <;> rfl),hB_ HB⟩))
     ·rw [if_neg c21] at H;(simp at H)
    ·rw [if_neg c20] at H;(simp at H)
end Go.Proofs.Ytpclhbcflkncnaa.PAll
