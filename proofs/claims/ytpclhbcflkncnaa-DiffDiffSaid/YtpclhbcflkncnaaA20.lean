-- Packed by wip/tools/pack.py of this session out of what plugprint.py and the kit's print wrote. Lean checks it.
import Derived.Test.YtpclhbcflkncnaaAS
namespace Go.Proofs.Ytpclhbcflkncnaa.PAll
open Go.RowKit Go.Proofs.YtpclhbcflkncnaaW.PrintWords Go.Proofs.YtpclhbcflkncnaaW.PrintLast Go.Proofs.YtpclhbcflkncnaaW.PrintMore
attribute [local go_sem] max2_int min2_int max_two min_two max_three min_three max_four min_four
set_option linter.unusedVariables false
set_option linter.unusedSimpArgs false
/-! ### railplanref41_SameInts: function 47 -/
def railplanref41_SameInts.l0 : Nat → List Int → List Int → Int → Int → Option (Bool)
 | 0,_,_,_,_ => none
 | k + 1,x0,x1,x12,x13 => if x13 < x12 then (if 0 ≤ x13 then (if x13 < (x0.length : Int) then (if x13 < (x1.length : Int) then (if (rd x0 x13) = (rd x1 x13) then (railplanref41_SameInts.l0 k x0 x1 x12 (wrap64 (x13 + 1))) else (some false)) else (none)) else (none)) else (none)) else (some true)
def railplanref41_SameInts.f (k : Nat) (l0 : List Int) (l1 : List Int) : Option (Bool):=if (l0.length : Int) = (l1.length : Int) then (railplanref41_SameInts.l0 k l0 l1 (l0.length : Int) 0) else (some false)
theorem railplanref41_SameInts.mono_l : ∀ k,(∀ y0 y1 y2 y3,LeO (railplanref41_SameInts.l0 k y0 y1 y2 y3) (railplanref41_SameInts.l0 (k + 1) y0 y1 y2 y3))
 | 0 => fun _ _ _ _ r h => by simp [railplanref41_SameInts.l0] at h
 | k + 1 => by
  have ih0:=railplanref41_SameInts.mono_l k
  ·intro y0 y1 y2 y3
   unfold railplanref41_SameInts.l0
   repeat' first
   | (with_reducible exact ih0 _ _ _ _)
   | (with_reducible exact LeO.refl _)
   | (with_reducible exact LeO.none _)
   | (with_reducible refine LeO.ite ?_ ?_)
   | (with_reducible refine LeO.bind ?_ (fun _ => ?_))
   | exact ih0 _ _ _ _
   | exact LeO.none _
   | refine LeO.ite ?_ ?_
   | refine LeO.bind ?_ (fun _ => ?_)
theorem railplanref41_SameInts.mono : ∀ a0 a1 k,LeO (railplanref41_SameInts.f k a0 a1) (railplanref41_SameInts.f (k + 1) a0 a1):=by
 intro a0 a1 k;have ih0:=railplanref41_SameInts.mono_l k;(unfold railplanref41_SameInts.f)
 repeat' first
   | (with_reducible exact ih0 _ _ _ _)
   | (with_reducible exact LeO.refl _)
   | (with_reducible exact LeO.none _)
   | (with_reducible refine LeO.ite ?_ ?_)
   | (with_reducible refine LeO.bind ?_ (fun _ => ?_))
   | exact ih0 _ _ _ _
   | exact LeO.none _
   | refine LeO.ite ?_ ?_
   | refine LeO.bind ?_ (fun _ => ?_)
set_option maxHeartbeats 8000000 in
set_option maxRecDepth 100000 in
theorem railplanref41_SameInts.calls (k : Nat) (A0 : Option Addr) (c0 : Nat) (l0 : List Int) (A1 : Option Addr) (c1 : Nat) (l1 : List Int) (r : Bool) (w : World) (hr0 : Kd.C (Kd.int .i64) w A0 l0.length l0) (hc0 : l0.length ≤ c0) (hr1 : Kd.C (Kd.int .i64) w A1 l1.length l1) (hc1 : l1.length ≤ c1) (h : railplanref41_SameInts.f k l0 l1 = some r) :
  Calls Try.prog 47 #[.slice A0 l0.length c0,.slice A1 l1.length c1] w fun e w' => e = .returned (.bool r) ∧ Drawn0 w w':=by
 have HR0:=am_ hr0
 have HC0:=am_ hc0
 clear hr0 hc0
 have HR1:=am_ hr1
 have HC1:=am_ hc1
 clear hr1 hc1
 have H : (if (l0.length : Int) = (l1.length : Int) then (railplanref41_SameInts.l0 k l0 l1 (l0.length : Int) 0) else (some false)) = some r:=h
 clear h
 by_cases c3 : (l0.length : Int) = (l1.length : Int)
 ·rw [if_pos c3] at H
  have c3b0 : ((l0.length : Int) == (l1.length : Int)) = true:=beq_iff_eq.mpr c3;have c3b1 : ((l0.length : Int) != (l1.length : Int)) = false:=bne_eq_false_iff_eq.mpr c3;(have c3b2 : (l0.length == l1.length) = true:=by first|simpa using c3|(simp at c3 ⊢;omega));clear c3;have H':=am_ H;clear H;(go_enter Try.func47,Try.ntmps47);(go_wp2);(repeat (go_quiet (fail);try go_wp2));(go_loopg [13] k (fun kq v13 w' => ∃ (x13_1 : Int),v13 = .int .i64 x13_1 ∧ Aside0 (railplanref41_SameInts.l0 kq l0 l1 (l0.length : Int) x13_1 = some r) ∧ Aside0 (kq ≤ k) ∧ Drawn0 w w'))
  case atStart => exact ⟨(0),(by first|rfl|(simp;done)|(simp [*];done)),H',⟨Nat.le_refl _⟩,by repeat (first|exact Drawn0.refl _|apply Drawn0.step)⟩
  case round =>
   clear H';(try clear c1);(try clear p2);(try clear c3);(try clear c3b0);(try clear c3b1);(try clear c3b2);obtain ⟨x13_1,rfl,HA,HK1,⟨m1,rfl⟩⟩:=hrel;cases gk with
   | zero => exact absurd HA.out (by simp [railplanref41_SameInts.l0])
   | succ k1 =>
    have H:=HA.out;clear HA;simp only [railplanref41_SameInts.l0] at H
    by_cases c4 : x13_1 < (l0.length : Int)
    ·rw [if_pos c4] at H
     have c4b0:=decide_eq_true c4;clear c4
     by_cases c5 : 0 ≤ x13_1
     ·rw [if_pos c5] at H
      have c5b0:=decide_eq_true c5;clear c5
      by_cases c6 : x13_1 < (l0.length : Int)
      ·rw [if_pos c6] at H
       have c6b0:=decide_eq_true c6;clear c6
       by_cases c7 : x13_1 < (l1.length : Int)
       ·rw [if_pos c7] at H
        have c7b0:=decide_eq_true c7;clear c7
        by_cases c8 : (rd l0 x13_1) = (rd l1 x13_1)
        ·rw [if_pos c8] at H
         have c8b0 : ((rd l0 x13_1) == (rd l1 x13_1)) = true:=beq_iff_eq.mpr c8;have c8b1 : ((rd l0 x13_1) != (rd l1 x13_1)) = false:=bne_eq_false_iff_eq.mpr c8;clear c8;have H':=am_ H;clear H;have p455:=de_ (0 ≤ (x13_1 : Int));have q455:=de_ (x13_1 < (l0.length : Int));obtain ⟨ad455,e455,hx455_0⟩:=Kd.at_int HR0.out x13_1 p455 q455;cases e455;replace p455:=eq_true p455;replace q455:=eq_true q455;have p456:=de_ (0 ≤ (x13_1 : Int));have q456:=de_ (x13_1 < (l1.length : Int));obtain ⟨ad456,e456,hx456_0⟩:=Kd.at_int HR1.out x13_1 p456 q456;cases e456;replace p456:=eq_true p456;replace q456:=eq_true q456;(go_wp2);(repeat (go_quiet (fail);try go_wp2));(go_roundg k1)
         case measure => have:=HK1.out;omega
         case rel => exact ⟨(wrap64 (x13_1 + 1)),(by first|rfl|(simp;done)|(simp [*];done)),H',⟨by have:=HK1.out;omega⟩,by repeat (first|exact Drawn0.refl _|apply Drawn0.step)⟩
        ·rw [if_neg c8] at H;have c8b0 : ((rd l0 x13_1) == (rd l1 x13_1)) = false:=beq_eq_false_iff_ne.mpr c8;have c8b1 : ((rd l0 x13_1) != (rd l1 x13_1)) = true:=bne_iff_ne.mpr c8;obtain rfl:=Option.some.inj H;have p455:=de_ (0 ≤ (x13_1 : Int));have q455:=de_ (x13_1 < (l0.length : Int));obtain ⟨ad455,e455,hx455_0⟩:=Kd.at_int HR0.out x13_1 p455 q455;cases e455;replace p455:=eq_true p455;replace q455:=eq_true q455;have p456:=de_ (0 ≤ (x13_1 : Int));have q456:=de_ (x13_1 < (l1.length : Int));obtain ⟨ad456,e456,hx456_0⟩:=Kd.at_int HR1.out x13_1 p456 q456;cases e456;replace p456:=eq_true p456;replace q456:=eq_true q456;(go_wp2);(repeat (go_quiet (fail);try go_wp2));(go_ret);exact ⟨by first|rfl|(simp;done)|(simp [*];done),by repeat (first|exact Drawn0.refl _|apply Drawn0.step)⟩
       ·rw [if_neg c7] at H;(simp at H)
      ·rw [if_neg c6] at H;(simp at H)
     ·rw [if_neg c5] at H;(simp at H)
    ·rw [if_neg c4] at H;have c4b0:=decide_eq_false c4;clear c4;obtain rfl:=Option.some.inj H;(go_wp2);(repeat (go_quiet (fail);try go_wp2));(go_ret);exact ⟨by first|rfl|(simp;done)|(simp [*];done),by repeat (first|exact Drawn0.refl _|apply Drawn0.step)⟩
 ·rw [if_neg c3] at H;have c3b0 : ((l0.length : Int) == (l1.length : Int)) = false:=beq_eq_false_iff_ne.mpr c3;have c3b1 : ((l0.length : Int) != (l1.length : Int)) = true:=bne_iff_ne.mpr c3;(have c3b2 : (l0.length == l1.length) = false:=by first|simpa using c3|(simp at c3 ⊢;omega));obtain rfl:=Option.some.inj H;(go_enter Try.func47,Try.ntmps47);(go_wp2);(repeat (go_quiet (fail);try go_wp2));(go_ret);exact ⟨by first|rfl|(simp;done)|(simp [*];done),by repeat (first|exact Drawn0.refl _|apply Drawn0.step)⟩
/-! ### railplanref41_SameTrip: function 25 -/
def railplanref41_SameTrip.f (k : Nat) (a0_0 : Int) (a0_1 : Int) (l0_2 : List Int) (l0_3 : List Int) (a1_0 : Int) (a1_1 : Int) (l1_2 : List Int) (l1_3 : List Int) : Option (Bool):=if a0_0 = a1_0 then (if a0_1 = a1_1 then ((railplanref41_SameInts.f k l0_2 l1_2).bind fun t459 => (if t459 = true then ((railplanref41_SameInts.f k l0_3 l1_3).bind fun t460 => (some t460)) else (some false))) else (some false)) else (some false)
theorem railplanref41_SameTrip.mono : ∀ a0 a1 a2 a3 a4 a5 a6 a7 k,LeO (railplanref41_SameTrip.f k a0 a1 a2 a3 a4 a5 a6 a7) (railplanref41_SameTrip.f (k + 1) a0 a1 a2 a3 a4 a5 a6 a7):=by
 intro a0 a1 a2 a3 a4 a5 a6 a7 k;(unfold railplanref41_SameTrip.f)
 repeat' first
   | (with_reducible exact railplanref41_SameInts.mono _ _ _)
   | (with_reducible exact LeO.refl _)
   | (with_reducible exact LeO.none _)
   | (with_reducible refine LeO.ite ?_ ?_)
   | (with_reducible refine LeO.bind ?_ (fun _ => ?_))
   | exact railplanref41_SameInts.mono _ _ _
   | exact LeO.none _
   | refine LeO.ite ?_ ?_
   | refine LeO.bind ?_ (fun _ => ?_)
set_option maxHeartbeats 8000000 in
set_option maxRecDepth 100000 in
theorem railplanref41_SameTrip.calls (k : Nat) (a0_0 : Int) (a0_1 : Int) (A0_2 : Option Addr) (c0_2 : Nat) (l0_2 : List Int) (A0_3 : Option Addr) (c0_3 : Nat) (l0_3 : List Int) (a1_0 : Int) (a1_1 : Int) (A1_2 : Option Addr) (c1_2 : Nat) (l1_2 : List Int) (A1_3 : Option Addr) (c1_3 : Nat) (l1_3 : List Int) (r : Bool) (w : World) (hr0_2 : Kd.C (Kd.int .i64) w A0_2 l0_2.length l0_2) (hc0_2 : l0_2.length ≤ c0_2) (hr0_3 : Kd.C (Kd.int .i64) w A0_3 l0_3.length l0_3) (hc0_3 : l0_3.length ≤ c0_3) (hr1_2 : Kd.C (Kd.int .i64) w A1_2 l1_2.length l1_2) (hc1_2 : l1_2.length ≤ c1_2) (hr1_3 : Kd.C (Kd.int .i64) w A1_3 l1_3.length l1_3) (hc1_3 : l1_3.length ≤ c1_3) (h : railplanref41_SameTrip.f k a0_0 a0_1 l0_2 l0_3 a1_0 a1_1 l1_2 l1_3 = some r) :
  Calls Try.prog 25 #[.agg #[.int .i64 a0_0,.int .i64 a0_1,.slice A0_2 l0_2.length c0_2,.slice A0_3 l0_3.length c0_3],.agg #[.int .i64 a1_0,.int .i64 a1_1,.slice A1_2 l1_2.length c1_2,.slice A1_3 l1_3.length c1_3]] w fun e w' => e = .returned (.bool r) ∧ Below w.heap.size w w':=by
 have hu28:=Try.underlying28
 have HR0_2:=am_ hr0_2
 have HC0_2:=am_ hc0_2
 clear hr0_2 hc0_2
 have HR0_3:=am_ hr0_3
 have HC0_3:=am_ hc0_3
 clear hr0_3 hc0_3
 have HR1_2:=am_ hr1_2
 have HC1_2:=am_ hc1_2
 clear hr1_2 hc1_2
 have HR1_3:=am_ hr1_3
 have HC1_3:=am_ hc1_3
 clear hr1_3 hc1_3
 have HB:=am_ (Below.refl w.heap.size w)
 have H : (if a0_0 = a1_0 then (if a0_1 = a1_1 then ((railplanref41_SameInts.f k l0_2 l1_2).bind fun t459 => (if t459 = true then ((railplanref41_SameInts.f k l0_3 l1_3).bind fun t460 => (some t460)) else (some false))) else (some false)) else (some false)) = some r:=h
 clear h
 by_cases c3 : a0_0 = a1_0
 ·rw [if_pos c3] at H
  have c3b0 : (a0_0 == a1_0) = true:=beq_iff_eq.mpr c3;have c3b1 : (a0_0 != a1_0) = false:=bne_eq_false_iff_eq.mpr c3;clear c3
  by_cases c4 : a0_1 = a1_1
  ·rw [if_pos c4] at H
   have c4b0 : (a0_1 == a1_1) = true:=beq_iff_eq.mpr c4;have c4b1 : (a0_1 != a1_1) = false:=bne_eq_false_iff_eq.mpr c4;clear c4;replace H:=be_ H;obtain ⟨t459,A50,H⟩:=H;have A5:=am_ A50;clear A50
   by_cases c6 : t459 = true
   (·subst c6;(rw [if_pos rfl] at H;replace H:=be_ H;obtain ⟨t460,A70,H⟩:=H;have A7:=am_ A70;clear A70;obtain rfl:=Option.some.inj H;(go_enter Try.func25,Try.ntmps25);(go_wp2_with (first|((with_reducible refine gd_ (N:=2) rfl ?_);refine bx2_ 2 #[.int .i64 a0_0,.int .i64 a0_1,.slice A0_2 l0_2.length c0_2,.slice A0_3 l0_3.length c0_3] 28 (fun gb457 hg w8 hbox hb => ?_);have n0_:=hb_ HB hb;have n1_:=am_ (hbox);have n2_ : Aside0 (w.heap.size ≤ gb457):=gz_ hg HB;have n3_ : Aside0 (w.heap.size ≤ gb457):=gz_ hg HB;revert n0_ n1_ n2_ n3_;clear HB;intro HB BK457 GW457 GE457;clear hb hbox hg)|((with_reducible refine gd_ (N:=3) rfl ?_);refine bx2_ 3 #[.int .i64 a1_0,.int .i64 a1_1,.slice A1_2 l1_2.length c1_2,.slice A1_3 l1_3.length c1_3] 28 (fun gb458 hg w9 hbox hb => ?_);have n0_:=kb_ BK457 hb;have n1_:=hb_ HB hb;have n2_:=am_ (hbox);have n3_ : Aside0 (w.heap.size ≤ gb458):=gz_ hg HB;have n4_ : Aside0 (w.heap.size ≤ gb458):=gz_ hg HB;have n5_:=nl_ hg BK457;have n6_:=ng_ hg BK457;revert n0_ n1_ n2_ n3_ n4_ n5_ n6_;clear BK457 HB;intro BK457 HB BK458 GW458 GE458 NB457_458 NB458_457;clear hb hbox hg;have hnb10:=NB457_458.out;have hnc10:=NB458_457.out;have hcz11_0:=cA_ BK457;have hfz11_0:=fA_ BK457;have hcz12_0:=cA_ BK458;have hfz12_0:=fA_ BK458)|(go_at_call 47;(with_reducible refine (railplanref41_SameInts.calls k _ _ l0_2 _ _ l1_2 true _ (cr_ (CB_ HR0_2.out HB.out)) HC0_2.out (cr_ (CB_ HR1_2.out HB.out)) HC1_2.out A5.out).mono ?_);rintro e w' ⟨rfl,⟨nd,rfl⟩⟩)|(go_at_call 47;(with_reducible refine (railplanref41_SameInts.calls k _ _ l0_3 _ _ l1_3 t460 _ ?side1 HC0_3.out ?side3 HC1_3.out A7.out).mono ?_);(case side1 => repeat (first|exact (CB_ HR0_3.out (hB_ HB))|(with_reducible first|refine CA_ ?_ _|refine CN_ ?_ _|refine CD_ ?_)));(case side3 => repeat (first|exact (CB_ HR1_3.out (hB_ HB))|(with_reducible first|refine CA_ ?_ _|refine CN_ ?_ _|refine CD_ ?_)));rintro e w' ⟨rfl,⟨nd,rfl⟩⟩)));(go_ret);(exact ⟨by first|rfl|(simp [errW_none,errW_some] <;> rfl)|(simp [*,errW_none,errW_some] <;> rfl),hB_ HB⟩)));(·replace c6:=Bool.eq_false_iff.mpr c6;(subst c6;rw [if_neg (show ¬ (false = true) by decide)] at H;obtain rfl:=Option.some.inj H;(go_enter Try.func25,Try.ntmps25);(go_wp2_with (first|((with_reducible refine gd_ (N:=2) rfl ?_);refine bx2_ 2 #[.int .i64 a0_0,.int .i64 a0_1,.slice A0_2 l0_2.length c0_2,.slice A0_3 l0_3.length c0_3] 28 (fun gb457 hg w13 hbox hb => ?_);have n0_:=hb_ HB hb;have n1_:=am_ (hbox);have n2_ : Aside0 (w.heap.size ≤ gb457):=gz_ hg HB;have n3_ : Aside0 (w.heap.size ≤ gb457):=gz_ hg HB;revert n0_ n1_ n2_ n3_;clear HB;intro HB BK457 GW457 GE457;clear hb hbox hg)|((with_reducible refine gd_ (N:=3) rfl ?_);refine bx2_ 3 #[.int .i64 a1_0,.int .i64 a1_1,.slice A1_2 l1_2.length c1_2,.slice A1_3 l1_3.length c1_3] 28 (fun gb458 hg w14 hbox hb => ?_);have n0_:=kb_ BK457 hb;have n1_:=hb_ HB hb;have n2_:=am_ (hbox);have n3_ : Aside0 (w.heap.size ≤ gb458):=gz_ hg HB;have n4_ : Aside0 (w.heap.size ≤ gb458):=gz_ hg HB;have n5_:=nl_ hg BK457;have n6_:=ng_ hg BK457;revert n0_ n1_ n2_ n3_ n4_ n5_ n6_;clear BK457 HB;intro BK457 HB BK458 GW458 GE458 NB457_458 NB458_457;clear hb hbox hg;have hnb15:=NB457_458.out;have hnc15:=NB458_457.out;have hcz16_0:=cA_ BK457;have hfz16_0:=fA_ BK457;have hcz17_0:=cA_ BK458;have hfz17_0:=fA_ BK458)|(go_at_call 47;(with_reducible refine (railplanref41_SameInts.calls k _ _ l0_2 _ _ l1_2 false _ (cr_ (CB_ HR0_2.out HB.out)) HC0_2.out (cr_ (CB_ HR1_2.out HB.out)) HC1_2.out A5.out).mono ?_);rintro e w' ⟨rfl,⟨nd,rfl⟩⟩)));(go_ret);(exact ⟨by first|rfl|(simp [errW_none,errW_some] <;> rfl)|(simp [*,errW_none,errW_some] <;> rfl),hB_ HB⟩)))
  ·rw [if_neg c4] at H;(have c4b0 : (a0_1 == a1_1) = false:=beq_eq_false_iff_ne.mpr c4;have c4b1 : (a0_1 != a1_1) = true:=bne_iff_ne.mpr c4;obtain rfl:=Option.some.inj H;(go_enter Try.func25,Try.ntmps25);(go_wp2_with (first|((with_reducible refine gd_ (N:=2) rfl ?_);refine bx2_ 2 #[.int .i64 a0_0,.int .i64 a0_1,.slice A0_2 l0_2.length c0_2,.slice A0_3 l0_3.length c0_3] 28 (fun gb457 hg w18 hbox hb => ?_);have n0_:=hb_ HB hb;have n1_:=am_ (hbox);have n2_ : Aside0 (w.heap.size ≤ gb457):=gz_ hg HB;have n3_ : Aside0 (w.heap.size ≤ gb457):=gz_ hg HB;revert n0_ n1_ n2_ n3_;clear HB;intro HB BK457 GW457 GE457;clear hb hbox hg)|((with_reducible refine gd_ (N:=3) rfl ?_);refine bx2_ 3 #[.int .i64 a1_0,.int .i64 a1_1,.slice A1_2 l1_2.length c1_2,.slice A1_3 l1_3.length c1_3] 28 (fun gb458 hg w19 hbox hb => ?_);have n0_:=kb_ BK457 hb;have n1_:=hb_ HB hb;have n2_:=am_ (hbox);have n3_ : Aside0 (w.heap.size ≤ gb458):=gz_ hg HB;have n4_ : Aside0 (w.heap.size ≤ gb458):=gz_ hg HB;have n5_:=nl_ hg BK457;have n6_:=ng_ hg BK457;revert n0_ n1_ n2_ n3_ n4_ n5_ n6_;clear BK457 HB;intro BK457 HB BK458 GW458 GE458 NB457_458 NB458_457;clear hb hbox hg;have hnb20:=NB457_458.out;have hnc20:=NB458_457.out;have hcz21_0:=cA_ BK457;have hfz21_0:=fA_ BK457;have hcz22_0:=cA_ BK458;have hfz22_0:=fA_ BK458)));(go_ret);(exact ⟨by first|rfl|(simp [errW_none,errW_some] <;> rfl)|(simp [*,errW_none,errW_some] <;> rfl),hB_ HB⟩))
 ·rw [if_neg c3] at H;(have c3b0 : (a0_0 == a1_0) = false:=beq_eq_false_iff_ne.mpr c3;have c3b1 : (a0_0 != a1_0) = true:=bne_iff_ne.mpr c3;obtain rfl:=Option.some.inj H;(go_enter Try.func25,Try.ntmps25);(go_wp2_with (first|((with_reducible refine gd_ (N:=2) rfl ?_);refine bx2_ 2 #[.int .i64 a0_0,.int .i64 a0_1,.slice A0_2 l0_2.length c0_2,.slice A0_3 l0_3.length c0_3] 28 (fun gb457 hg w23 hbox hb => ?_);have n0_:=hb_ HB hb;have n1_:=am_ (hbox);have n2_ : Aside0 (w.heap.size ≤ gb457):=gz_ hg HB;have n3_ : Aside0 (w.heap.size ≤ gb457):=gz_ hg HB;revert n0_ n1_ n2_ n3_;clear HB;intro HB BK457 GW457 GE457;clear hb hbox hg)|((with_reducible refine gd_ (N:=3) rfl ?_);refine bx2_ 3 #[.int .i64 a1_0,.int .i64 a1_1,.slice A1_2 l1_2.length c1_2,.slice A1_3 l1_3.length c1_3] 28 (fun gb458 hg w24 hbox hb => ?_);have n0_:=kb_ BK457 hb;have n1_:=hb_ HB hb;have n2_:=am_ (hbox);have n3_ : Aside0 (w.heap.size ≤ gb458):=gz_ hg HB;have n4_ : Aside0 (w.heap.size ≤ gb458):=gz_ hg HB;have n5_:=nl_ hg BK457;have n6_:=ng_ hg BK457;revert n0_ n1_ n2_ n3_ n4_ n5_ n6_;clear BK457 HB;intro BK457 HB BK458 GW458 GE458 NB457_458 NB458_457;clear hb hbox hg;have hnb25:=NB457_458.out;have hnc25:=NB458_457.out;have hcz26_0:=cA_ BK457;have hfz26_0:=fA_ BK457;have hcz27_0:=cA_ BK458;have hfz27_0:=fA_ BK458)));(go_ret);(exact ⟨by first|rfl|(simp [errW_none,errW_some] <;> rfl)|(simp [*,errW_none,errW_some] <;> rfl),hB_ HB⟩))
end Go.Proofs.Ytpclhbcflkncnaa.PAll
