-- Packed by wip/tools/pack.py of this session out of what plugprint.py and the kit's print wrote. Lean checks it.
import Derived.Test.YtpclhbcflkncnaaAS
namespace Go.Proofs.Ytpclhbcflkncnaa.PAll
open Go.RowKit Go.Proofs.YtpclhbcflkncnaaW.PrintWords Go.Proofs.YtpclhbcflkncnaaW.PrintLast Go.Proofs.YtpclhbcflkncnaaW.PrintMore
attribute [local go_sem] max2_int min2_int max_two min_two max_three min_three max_four min_four
set_option linter.unusedVariables false
set_option linter.unusedSimpArgs false
/-! ### diff_valid: function 33 -/
def diff_valid.f (a0_0 : Int) (a0_1 : Int) (l0_2 : List Int) (l0_3 : List Int) : Option (Bool):=if a0_0 ≥ 0 then (if a0_1 ≥ 0 then (if (l0_2.length : Int) = (l0_3.length : Int) then (if (l0_2.length : Int) ≥ 1 then (if (l0_2.length : Int) ≤ 12 then (if 0 < (l0_2.length : Int) then (some (decide ((rd l0_2 0) ≥ 0))) else (none)) else (some false)) else (some false)) else (some false)) else (some false)) else (some false)
set_option maxHeartbeats 8000000 in
set_option maxRecDepth 100000 in
theorem diff_valid.calls (a0_0 : Int) (a0_1 : Int) (A0_2 : Option Addr) (c0_2 : Nat) (l0_2 : List Int) (A0_3 : Option Addr) (c0_3 : Nat) (l0_3 : List Int) (r : Bool) (w : World) (hr0_2 : Kd.C (Kd.int .i64) w A0_2 l0_2.length l0_2) (hc0_2 : l0_2.length ≤ c0_2) (hr0_3 : Kd.C (Kd.int .i64) w A0_3 l0_3.length l0_3) (hc0_3 : l0_3.length ≤ c0_3) (h : diff_valid.f a0_0 a0_1 l0_2 l0_3 = some r) :
  Calls Try.prog 33 #[.agg #[.int .i64 a0_0,.int .i64 a0_1,.slice A0_2 l0_2.length c0_2,.slice A0_3 l0_3.length c0_3]] w fun e w' => e = .returned (.bool r) ∧ Below w.heap.size w w':=by
 have hu28:=Try.underlying28
 have HR0_2:=am_ hr0_2
 have HC0_2:=am_ hc0_2
 clear hr0_2 hc0_2
 have HR0_3:=am_ hr0_3
 have HC0_3:=am_ hc0_3
 clear hr0_3 hc0_3
 have HB:=am_ (Below.refl w.heap.size w)
 have H : (if a0_0 ≥ 0 then (if a0_1 ≥ 0 then (if (l0_2.length : Int) = (l0_3.length : Int) then (if (l0_2.length : Int) ≥ 1 then (if (l0_2.length : Int) ≤ 12 then (if 0 < (l0_2.length : Int) then (some (decide ((rd l0_2 0) ≥ 0))) else (none)) else (some false)) else (some false)) else (some false)) else (some false)) else (some false)) = some r:=h
 clear h
 by_cases c2 : a0_0 ≥ 0
 ·rw [if_pos c2] at H
  have c2b0:=decide_eq_true c2;clear c2
  by_cases c3 : a0_1 ≥ 0
  ·rw [if_pos c3] at H
   have c3b0:=decide_eq_true c3;clear c3
   by_cases c4 : (l0_2.length : Int) = (l0_3.length : Int)
   ·rw [if_pos c4] at H
    have c4b0 : ((l0_2.length : Int) == (l0_3.length : Int)) = true:=beq_iff_eq.mpr c4;have c4b1 : ((l0_2.length : Int) != (l0_3.length : Int)) = false:=bne_eq_false_iff_eq.mpr c4;(have c4b2 : (l0_2.length == l0_3.length) = true:=by first|simpa using c4|(simp at c4 ⊢;omega));clear c4
    by_cases c5 : (l0_2.length : Int) ≥ 1
    ·rw [if_pos c5] at H
     have c5b0:=decide_eq_true c5;have c5b1 : decide (1 ≤ l0_2.length) = true:=decide_eq_true (by omega);clear c5
     by_cases c6 : (l0_2.length : Int) ≤ 12
     ·rw [if_pos c6] at H
      have c6b0:=decide_eq_true c6;have c6b1 : decide (l0_2.length ≤ 12) = true:=decide_eq_true (by omega);clear c6
      by_cases c7 : 0 < (l0_2.length : Int)
      (·rw [if_pos c7] at H;(have c7b0:=decide_eq_true c7;have c7b1 : decide (0 < l0_2.length) = true:=decide_eq_true (by omega);clear c7;obtain rfl:=Option.some.inj H;(go_enter Try.func33,Try.ntmps33);(go_wp2_with (first|((with_reducible refine gd_ (N:=1) rfl ?_);(try (refine gate_guard (by rfl) ?_;dsimp only));refine bx2_ 1 #[.int .i64 a0_0,.int .i64 a0_1,.slice A0_2 l0_2.length c0_2,.slice A0_3 l0_3.length c0_3] 28 (fun gb129 hg w8 hbox hb => ?_);have n0_:=hb_ HB hb;have n1_:=am_ (hbox);have n2_ : Aside0 (w.heap.size ≤ gb129):=gz_ hg HB;have n3_ : Aside0 (w.heap.size ≤ gb129):=gz_ hg HB;revert n0_ n1_ n2_ n3_;clear HB;intro HB BK129 GW129 GE129;clear hb hbox hg;have hcz9_0:=cA_ BK129;have hfz9_0:=fA_ BK129;have p130 : 0 ≤ (0 : Int):=(by omega);have q130:=de_ (0 < (l0_2.length : Int));obtain ⟨ad130,e130,hx130_0⟩:=Kd.at_int HR0_2.out 0 p130 q130;cases e130;have qi130 : (0 < l0_2.length) = True:=eq_true (by omega);(try rw [show ((0 : Int)).toNat = 0 from rfl] at hx130_0);(try rw [Addr.add_zero'] at hx130_0);replace hx130_0:=cl_ HB hx130_0;replace p130:=eq_true p130;replace q130:=eq_true q130)));(go_ret);(exact ⟨by first|rfl|(simp [errW_none,errW_some] <;> rfl)|(simp [*,errW_none,errW_some] <;> rfl),hB_ HB⟩)));(·rw [if_neg c7] at H;(simp at H))
     ·rw [if_neg c6] at H;(have c6b0:=decide_eq_false c6;have c6b1 : decide (l0_2.length ≤ 12) = false:=decide_eq_false (by omega);clear c6;obtain rfl:=Option.some.inj H;(go_enter Try.func33,Try.ntmps33);(go_wp2_with (first|((with_reducible refine gd_ (N:=1) rfl ?_);(try (refine gate_guard (by rfl) ?_;dsimp only));refine bx2_ 1 #[.int .i64 a0_0,.int .i64 a0_1,.slice A0_2 l0_2.length c0_2,.slice A0_3 l0_3.length c0_3] 28 (fun gb129 hg w10 hbox hb => ?_);have n0_:=hb_ HB hb;have n1_:=am_ (hbox);have n2_ : Aside0 (w.heap.size ≤ gb129):=gz_ hg HB;have n3_ : Aside0 (w.heap.size ≤ gb129):=gz_ hg HB;revert n0_ n1_ n2_ n3_;clear HB;intro HB BK129 GW129 GE129;clear hb hbox hg;have hcz11_0:=cA_ BK129;have hfz11_0:=fA_ BK129)));(go_ret);(exact ⟨by first|rfl|(simp [errW_none,errW_some] <;> rfl)|(simp [*,errW_none,errW_some] <;> rfl),hB_ HB⟩))
    ·rw [if_neg c5] at H;(have c5b0:=decide_eq_false c5;have c5b1 : decide (1 ≤ l0_2.length) = false:=decide_eq_false (by omega);clear c5;obtain rfl:=Option.some.inj H;(go_enter Try.func33,Try.ntmps33);(go_wp2_with (first|((with_reducible refine gd_ (N:=1) rfl ?_);(try (refine gate_guard (by rfl) ?_;dsimp only));refine bx2_ 1 #[.int .i64 a0_0,.int .i64 a0_1,.slice A0_2 l0_2.length c0_2,.slice A0_3 l0_3.length c0_3] 28 (fun gb129 hg w12 hbox hb => ?_);have n0_:=hb_ HB hb;have n1_:=am_ (hbox);have n2_ : Aside0 (w.heap.size ≤ gb129):=gz_ hg HB;have n3_ : Aside0 (w.heap.size ≤ gb129):=gz_ hg HB;revert n0_ n1_ n2_ n3_;clear HB;intro HB BK129 GW129 GE129;clear hb hbox hg;have hcz13_0:=cA_ BK129;have hfz13_0:=fA_ BK129)));(go_ret);(exact ⟨by first|rfl|(simp [errW_none,errW_some] <;> rfl)|(simp [*,errW_none,errW_some] <;> rfl),hB_ HB⟩))
   ·rw [if_neg c4] at H;(have c4b0 : ((l0_2.length : Int) == (l0_3.length : Int)) = false:=beq_eq_false_iff_ne.mpr c4;have c4b1 : ((l0_2.length : Int) != (l0_3.length : Int)) = true:=bne_iff_ne.mpr c4;(have c4b2 : (l0_2.length == l0_3.length) = false:=by first|simpa using c4|(simp at c4 ⊢;omega));obtain rfl:=Option.some.inj H;(go_enter Try.func33,Try.ntmps33);(go_wp2_with (first|((with_reducible refine gd_ (N:=1) rfl ?_);(try (refine gate_guard (by rfl) ?_;dsimp only));refine bx2_ 1 #[.int .i64 a0_0,.int .i64 a0_1,.slice A0_2 l0_2.length c0_2,.slice A0_3 l0_3.length c0_3] 28 (fun gb129 hg w14 hbox hb => ?_);have n0_:=hb_ HB hb;have n1_:=am_ (hbox);have n2_ : Aside0 (w.heap.size ≤ gb129):=gz_ hg HB;have n3_ : Aside0 (w.heap.size ≤ gb129):=gz_ hg HB;revert n0_ n1_ n2_ n3_;clear HB;intro HB BK129 GW129 GE129;clear hb hbox hg;have hcz15_0:=cA_ BK129;have hfz15_0:=fA_ BK129)));(go_ret);(exact ⟨by first|rfl|(simp [errW_none,errW_some] <;> rfl)|(simp [*,errW_none,errW_some] <;> rfl),hB_ HB⟩))
  ·rw [if_neg c3] at H;(have c3b0:=decide_eq_false c3;clear c3;obtain rfl:=Option.some.inj H;(go_enter Try.func33,Try.ntmps33);(go_wp2_with (first|((with_reducible refine gd_ (N:=1) rfl ?_);(try (refine gate_guard (by rfl) ?_;dsimp only));refine bx2_ 1 #[.int .i64 a0_0,.int .i64 a0_1,.slice A0_2 l0_2.length c0_2,.slice A0_3 l0_3.length c0_3] 28 (fun gb129 hg w16 hbox hb => ?_);have n0_:=hb_ HB hb;have n1_:=am_ (hbox);have n2_ : Aside0 (w.heap.size ≤ gb129):=gz_ hg HB;have n3_ : Aside0 (w.heap.size ≤ gb129):=gz_ hg HB;revert n0_ n1_ n2_ n3_;clear HB;intro HB BK129 GW129 GE129;clear hb hbox hg;have hcz17_0:=cA_ BK129;have hfz17_0:=fA_ BK129)));(go_ret);(exact ⟨by first|rfl|(simp [errW_none,errW_some] <;> rfl)|(simp [*,errW_none,errW_some] <;> rfl),hB_ HB⟩))
 ·rw [if_neg c2] at H;(have c2b0:=decide_eq_false c2;clear c2;obtain rfl:=Option.some.inj H;(go_enter Try.func33,Try.ntmps33);(go_wp2_with (first|((with_reducible refine gd_ (N:=1) rfl ?_);(try (refine gate_guard (by rfl) ?_;dsimp only));refine bx2_ 1 #[.int .i64 a0_0,.int .i64 a0_1,.slice A0_2 l0_2.length c0_2,.slice A0_3 l0_3.length c0_3] 28 (fun gb129 hg w18 hbox hb => ?_);have n0_:=hb_ HB hb;have n1_:=am_ (hbox);have n2_ : Aside0 (w.heap.size ≤ gb129):=gz_ hg HB;have n3_ : Aside0 (w.heap.size ≤ gb129):=gz_ hg HB;revert n0_ n1_ n2_ n3_;clear HB;intro HB BK129 GW129 GE129;clear hb hbox hg;have hcz19_0:=cA_ BK129;have hfz19_0:=fA_ BK129)));(go_ret);(exact ⟨by first|rfl|(simp [errW_none,errW_some] <;> rfl)|(simp [*,errW_none,errW_some] <;> rfl),hB_ HB⟩))
/-! ### cmp_Or_int: function 51 -/
def cmp_Or_int.l0 : Nat → Int → List Int → Int → Int → Option (Int)
 | 0,_,_,_,_ => none
 | k + 1,x3,x6,x7,x8 => if x8 < x7 then (if 0 ≤ x8 then (if x8 < (x6.length : Int) then (if (rd x6 x8) = x3 then (cmp_Or_int.l0 k x3 x6 x7 (wrap64 (x8 + 1))) else (some (rd x6 x8))) else (none)) else (none)) else (some x3)
def cmp_Or_int.f (k : Nat) (l0 : List Int) : Option (Int):=cmp_Or_int.l0 k 0 l0 (l0.length : Int) 0
theorem cmp_Or_int.mono_l : ∀ k,(∀ y0 y1 y2 y3,LeO (cmp_Or_int.l0 k y0 y1 y2 y3) (cmp_Or_int.l0 (k + 1) y0 y1 y2 y3))
 | 0 => fun _ _ _ _ r h => by simp [cmp_Or_int.l0] at h
 | k + 1 => by
  have ih0:=cmp_Or_int.mono_l k
  ·intro y0 y1 y2 y3
   unfold cmp_Or_int.l0
   repeat' first
   | (with_reducible exact ih0 _ _ _ _)
   | (with_reducible exact LeO.refl _)
   | (with_reducible exact LeO.none _)
   | (with_reducible refine LeO.ite ?_ ?_)
   | (with_reducible refine LeO.bind ?_ (fun _ => ?_))
   | exact ih0 _ _ _ _
   | exact LeO.none _
   | refine LeO.ite ?_ ?_
   | refine LeO.bind ?_ (fun _ => ?_)
theorem cmp_Or_int.mono : ∀ a0 k,LeO (cmp_Or_int.f k a0) (cmp_Or_int.f (k + 1) a0):=by
 intro a0 k;have ih0:=cmp_Or_int.mono_l k;(unfold cmp_Or_int.f)
 repeat' first
   | (with_reducible exact ih0 _ _ _ _)
   | (with_reducible exact LeO.refl _)
   | (with_reducible exact LeO.none _)
   | (with_reducible refine LeO.ite ?_ ?_)
   | (with_reducible refine LeO.bind ?_ (fun _ => ?_))
   | exact ih0 _ _ _ _
   | exact LeO.none _
   | refine LeO.ite ?_ ?_
   | refine LeO.bind ?_ (fun _ => ?_)
set_option maxHeartbeats 8000000 in
set_option maxRecDepth 100000 in
theorem cmp_Or_int.calls (k : Nat) (A0 : Option Addr) (c0 : Nat) (l0 : List Int) (r : Int) (w : World) (hr0 : Kd.C (Kd.int .i64) w A0 l0.length l0) (hc0 : l0.length ≤ c0) (h : cmp_Or_int.f k l0 = some r) :
  Calls Try.prog 51 #[.slice A0 l0.length c0] w fun e w' => e = .returned (.int .i64 r) ∧ Drawn0 w w':=by
 have HR0:=am_ hr0
 have HC0:=am_ hc0
 clear hr0 hc0
 have H : (cmp_Or_int.l0 k 0 l0 (l0.length : Int) 0) = some r:=h
 clear h
 have H':=am_ H
 clear H
 go_enter Try.func51,Try.ntmps51
 go_wp2
 go_loopg [8] k (fun kq v8 w' => ∃ (x8_1 : Int),v8 = .int .i64 x8_1 ∧ Aside0 (cmp_Or_int.l0 kq 0 l0 (l0.length : Int) x8_1 = some r) ∧ Aside0 (kq ≤ k) ∧ Drawn0 w w')
 case atStart => exact ⟨(0),(by first|rfl|(simp;done)|(simp [*];done)),H',⟨Nat.le_refl _⟩,by repeat (first|exact Drawn0.refl _|apply Drawn0.step)⟩
 case round =>
  clear H';obtain ⟨x8_1,rfl,HA,HK1,⟨m1,rfl⟩⟩:=hrel;cases gk with
  | zero => exact absurd HA.out (by simp [cmp_Or_int.l0])
  | succ k1 =>
   have H:=HA.out;clear HA;simp only [cmp_Or_int.l0] at H
   by_cases c2 : x8_1 < (l0.length : Int)
   ·rw [if_pos c2] at H
    have c2b0:=decide_eq_true c2;clear c2
    by_cases c3 : 0 ≤ x8_1
    ·rw [if_pos c3] at H
     have c3b0:=decide_eq_true c3;clear c3
     by_cases c4 : x8_1 < (l0.length : Int)
     ·rw [if_pos c4] at H
      have c4b0:=decide_eq_true c4;clear c4
      by_cases c5 : (rd l0 x8_1) = 0
      ·rw [if_pos c5] at H
       have c5b0 : ((rd l0 x8_1) == 0) = true:=beq_iff_eq.mpr c5;have c5b1 : ((rd l0 x8_1) != 0) = false:=bne_eq_false_iff_eq.mpr c5;clear c5;have H':=am_ H;clear H;have p131:=de_ (0 ≤ (x8_1 : Int));have q131:=de_ (x8_1 < (l0.length : Int));obtain ⟨ad131,e131,hx131_0⟩:=Kd.at_int HR0.out x8_1 p131 q131;cases e131;replace p131:=eq_true p131;replace q131:=eq_true q131;(go_wp2);(go_roundg k1)
       case measure => have:=HK1.out;omega
       case rel => exact ⟨(wrap64 (x8_1 + 1)),(by first|rfl|(simp;done)|(simp [*];done)),H',⟨by have:=HK1.out;omega⟩,by repeat (first|exact Drawn0.refl _|apply Drawn0.step)⟩
      ·rw [if_neg c5] at H;have c5b0 : ((rd l0 x8_1) == 0) = false:=beq_eq_false_iff_ne.mpr c5;have c5b1 : ((rd l0 x8_1) != 0) = true:=bne_iff_ne.mpr c5;obtain rfl:=Option.some.inj H;have p131:=de_ (0 ≤ (x8_1 : Int));have q131:=de_ (x8_1 < (l0.length : Int));obtain ⟨ad131,e131,hx131_0⟩:=Kd.at_int HR0.out x8_1 p131 q131;cases e131;replace p131:=eq_true p131;replace q131:=eq_true q131;(go_wp2);(go_ret);exact ⟨by first|rfl|(simp;done)|(simp [*];done),by repeat (first|exact Drawn0.refl _|apply Drawn0.step)⟩
     ·rw [if_neg c4] at H;(simp at H)
    ·rw [if_neg c3] at H;(simp at H)
   ·rw [if_neg c2] at H;have c2b0:=decide_eq_false c2;clear c2;obtain rfl:=Option.some.inj H;(go_wp2);(go_ret);exact ⟨by first|rfl|(simp;done)|(simp [*];done),by repeat (first|exact Drawn0.refl _|apply Drawn0.step)⟩
/-! ### cmp_isNaN_int: function 57 -/
def cmp_isNaN_int.f (a0 : Int) : Option (Bool):=some (a0 != a0)
set_option maxHeartbeats 8000000 in
set_option maxRecDepth 100000 in
theorem cmp_isNaN_int.calls (a0 : Int) (r : Bool) (w : World) (h : cmp_isNaN_int.f a0 = some r) :
  Calls Try.prog 57 #[.int .i64 a0] w fun e w' => e = .returned (.bool r) ∧ Drawn0 w w':=by
 have H : (some (a0 != a0)) = some r:=h
 clear h
 obtain rfl:=Option.some.inj H
 go_enter Try.func57,Try.ntmps57
 go_wp2
 go_ret
 exact ⟨by first|rfl|(simp;done)|(simp [*];done),by repeat (first|exact Drawn0.refl _|apply Drawn0.step)⟩
/-! ### cmp_Compare_int: function 52 -/
def cmp_Compare_int.f (a0 : Int) (a1 : Int) : Option (Int):=(cmp_isNaN_int.f a0).bind fun t132 => ((cmp_isNaN_int.f a1).bind fun t133 => (if t132 = true then (if t133 = true then (some 0) else (some (-1))) else (if t133 = true then (some 1) else (if a0 < a1 then (some (-1)) else (if a0 > a1 then (some 1) else (some 0))))))
set_option maxHeartbeats 8000000 in
set_option maxRecDepth 100000 in
theorem cmp_Compare_int.calls (a0 : Int) (a1 : Int) (r : Int) (w : World) (h : cmp_Compare_int.f a0 a1 = some r) :
  Calls Try.prog 52 #[.int .i64 a0,.int .i64 a1] w fun e w' => e = .returned (.int .i64 r) ∧ Drawn0 w w':=by
 have H : ((cmp_isNaN_int.f a0).bind fun t132 => ((cmp_isNaN_int.f a1).bind fun t133 => (if t132 = true then (if t133 = true then (some 0) else (some (-1))) else (if t133 = true then (some 1) else (if a0 < a1 then (some (-1)) else (if a0 > a1 then (some 1) else (some 0))))))) = some r:=h
 clear h
 replace H:=be_ H
 obtain ⟨t132,A30,H⟩:=H
 have A3:=am_ A30
 clear A30
 replace H:=be_ H
 obtain ⟨t133,A40,H⟩:=H
 have A4:=am_ A40
 clear A40
 by_cases c5 : t132 = true
 ·subst c5
  rw [if_pos rfl] at H
  by_cases c6 : t133 = true
  (·subst c6;rw [if_pos rfl] at H;obtain rfl:=Option.some.inj H;(go_enter Try.func52,Try.ntmps52);(go_wp2_with (first|((with_reducible refine gc_ (f:=57) rfl ?_);refine gl_ (some 8) Try.func57 #[.int .i64 a0] ?_;(with_reducible refine (cmp_isNaN_int.calls a0 true _ A3.out).mono ?_);rintro e w' ⟨rfl,⟨nd,rfl⟩⟩;refine ⟨_,rfl,?_⟩)|((with_reducible refine gc_ (f:=57) rfl ?_);refine gl_ (some 10) Try.func57 #[.int .i64 a1] ?_;(with_reducible refine (cmp_isNaN_int.calls a1 true _ A4.out).mono ?_);rintro e w' ⟨rfl,⟨nd,rfl⟩⟩;refine ⟨_,rfl,?_⟩)));(go_ret);exact ⟨by first|rfl|(simp;done)|(simp [*];done),by repeat (first|exact Drawn0.refl _|apply Drawn0.step)⟩);(·replace c6:=Bool.eq_false_iff.mpr c6;subst c6;rw [if_neg (show ¬ (false = true) by decide)] at H;obtain rfl:=Option.some.inj H;(go_enter Try.func52,Try.ntmps52);(go_wp2_with (first|((with_reducible refine gc_ (f:=57) rfl ?_);refine gl_ (some 8) Try.func57 #[.int .i64 a0] ?_;(with_reducible refine (cmp_isNaN_int.calls a0 true _ A3.out).mono ?_);rintro e w' ⟨rfl,⟨nd,rfl⟩⟩;refine ⟨_,rfl,?_⟩)|((with_reducible refine gc_ (f:=57) rfl ?_);refine gl_ (some 10) Try.func57 #[.int .i64 a1] ?_;(with_reducible refine (cmp_isNaN_int.calls a1 false _ A4.out).mono ?_);rintro e w' ⟨rfl,⟨nd,rfl⟩⟩;refine ⟨_,rfl,?_⟩)));(go_ret);exact ⟨by first|rfl|(simp;done)|(simp [*];done),by repeat (first|exact Drawn0.refl _|apply Drawn0.step)⟩)
 ·replace c5:=Bool.eq_false_iff.mpr c5
  subst c5;rw [if_neg (show ¬ (false = true) by decide)] at H
  by_cases c7 : t133 = true
  ·subst c7;rw [if_pos rfl] at H;obtain rfl:=Option.some.inj H;(go_enter Try.func52,Try.ntmps52);(go_wp2_with (first|((with_reducible refine gc_ (f:=57) rfl ?_);refine gl_ (some 8) Try.func57 #[.int .i64 a0] ?_;(with_reducible refine (cmp_isNaN_int.calls a0 false _ A3.out).mono ?_);rintro e w' ⟨rfl,⟨nd,rfl⟩⟩;refine ⟨_,rfl,?_⟩)|((with_reducible refine gc_ (f:=57) rfl ?_);refine gl_ (some 10) Try.func57 #[.int .i64 a1] ?_;(with_reducible refine (cmp_isNaN_int.calls a1 true _ A4.out).mono ?_);rintro e w' ⟨rfl,⟨nd,rfl⟩⟩;refine ⟨_,rfl,?_⟩)));(go_ret);exact ⟨by first|rfl|(simp;done)|(simp [*];done),by repeat (first|exact Drawn0.refl _|apply Drawn0.step)⟩
  ·replace c7:=Bool.eq_false_iff.mpr c7
   subst c7;rw [if_neg (show ¬ (false = true) by decide)] at H
   by_cases c8 : a0 < a1
   ·rw [if_pos c8] at H;have c8b0:=decide_eq_true c8;clear c8;obtain rfl:=Option.some.inj H;(go_enter Try.func52,Try.ntmps52);(go_wp2_with (first|((with_reducible refine gc_ (f:=57) rfl ?_);refine gl_ (some 8) Try.func57 #[.int .i64 a0] ?_;(with_reducible refine (cmp_isNaN_int.calls a0 false _ A3.out).mono ?_);rintro e w' ⟨rfl,⟨nd,rfl⟩⟩;refine ⟨_,rfl,?_⟩)|((with_reducible refine gc_ (f:=57) rfl ?_);refine gl_ (some 10) Try.func57 #[.int .i64 a1] ?_;(with_reducible refine (cmp_isNaN_int.calls a1 false _ A4.out).mono ?_);rintro e w' ⟨rfl,⟨nd,rfl⟩⟩;refine ⟨_,rfl,?_⟩)));(go_ret);exact ⟨by first|rfl|(simp;done)|(simp [*];done),by repeat (first|exact Drawn0.refl _|apply Drawn0.step)⟩
   ·rw [if_neg c8] at H
    have c8b0:=decide_eq_false c8;clear c8
    by_cases c9 : a0 > a1
    (·rw [if_pos c9] at H;have c9b0:=decide_eq_true c9;clear c9;obtain rfl:=Option.some.inj H;(go_enter Try.func52,Try.ntmps52);(go_wp2_with (first|((with_reducible refine gc_ (f:=57) rfl ?_);refine gl_ (some 8) Try.func57 #[.int .i64 a0] ?_;(with_reducible refine (cmp_isNaN_int.calls a0 false _ A3.out).mono ?_);rintro e w' ⟨rfl,⟨nd,rfl⟩⟩;refine ⟨_,rfl,?_⟩)|((with_reducible refine gc_ (f:=57) rfl ?_);refine gl_ (some 10) Try.func57 #[.int .i64 a1] ?_;(with_reducible refine (cmp_isNaN_int.calls a1 false _ A4.out).mono ?_);rintro e w' ⟨rfl,⟨nd,rfl⟩⟩;refine ⟨_,rfl,?_⟩)));(go_ret);exact ⟨by first|rfl|(simp;done)|(simp [*];done),by repeat (first|exact Drawn0.refl _|apply Drawn0.step)⟩);(·rw [if_neg c9] at H;have c9b0:=decide_eq_false c9;clear c9;obtain rfl:=Option.some.inj H;(go_enter Try.func52,Try.ntmps52);(go_wp2_with (first|((with_reducible refine gc_ (f:=57) rfl ?_);refine gl_ (some 8) Try.func57 #[.int .i64 a0] ?_;(with_reducible refine (cmp_isNaN_int.calls a0 false _ A3.out).mono ?_);rintro e w' ⟨rfl,⟨nd,rfl⟩⟩;refine ⟨_,rfl,?_⟩)|((with_reducible refine gc_ (f:=57) rfl ?_);refine gl_ (some 10) Try.func57 #[.int .i64 a1] ?_;(with_reducible refine (cmp_isNaN_int.calls a1 false _ A4.out).mono ?_);rintro e w' ⟨rfl,⟨nd,rfl⟩⟩;refine ⟨_,rfl,?_⟩)));(go_ret);exact ⟨by first|rfl|(simp;done)|(simp [*];done),by repeat (first|exact Drawn0.refl _|apply Drawn0.step)⟩)
/-! ### diff_compare: function 34 -/
def diff_compare.f (k : Nat) (a0_0 : Int) (a0_1 : Int) (l0_2 : List Int) (l0_3 : List Int) (a1_0 : Int) (a1_1 : Int) (l1_2 : List Int) (l1_3 : List Int) : Option (Int):=if 0 < (l0_2.length : Int) then (if 0 < (l1_2.length : Int) then ((cmp_Compare_int.f (rd l0_2 0) (rd l1_2 0)).bind fun t138 => ((cmp_Compare_int.f a0_0 a1_0).bind fun t139 => ((cmp_Or_int.f k (([t138,t139] : List Int))).bind fun t143 => (some t143)))) else (none)) else (none)
theorem diff_compare.mono : ∀ a0 a1 a2 a3 a4 a5 a6 a7 k,LeO (diff_compare.f k a0 a1 a2 a3 a4 a5 a6 a7) (diff_compare.f (k + 1) a0 a1 a2 a3 a4 a5 a6 a7):=by
 intro a0 a1 a2 a3 a4 a5 a6 a7 k;(unfold diff_compare.f)
 repeat' first
   | (with_reducible exact cmp_Or_int.mono _ _)
   | (with_reducible exact LeO.refl _)
   | (with_reducible exact LeO.none _)
   | (with_reducible refine LeO.ite ?_ ?_)
   | (with_reducible refine LeO.bind ?_ (fun _ => ?_))
   | exact cmp_Or_int.mono _ _
   | exact LeO.none _
   | refine LeO.ite ?_ ?_
   | refine LeO.bind ?_ (fun _ => ?_)
def diff_compare.T1 : Bool × List (List Nat × List Nat):=(true,[([],[]),([0],[0]),([1],[1]),([2],[2]),([],[]),([4],[4]),([5],[5]),([6],[6]),([3,7],[3,7]),([],[]),([9],[9]),([],[]),([11],[11]),([10,12,8],[10,12]),([8,13],[8,13]),([14,13],[14]),([15,15,0,1,2,3,4,5,6,7,8,9,10,11,12,13,14,15],[15])])
def diff_compare.B1 : List Nat:=[0,1,3,7,0,16,48,112,255,0,512,0,2048,8191,16383,32767,65535]
theorem diff_compare.tab1 : rtab .any (opsOf Try.f34 1) = diff_compare.T1:=by kernel_rfl
theorem diff_compare.bits1 : waitsOk diff_compare.T1.2 diff_compare.B1 = true:=by kernel_rfl
set_option maxHeartbeats 8000000 in
set_option maxRecDepth 100000 in
theorem diff_compare.calls (k : Nat) (a0_0 : Int) (a0_1 : Int) (A0_2 : Option Addr) (c0_2 : Nat) (l0_2 : List Int) (A0_3 : Option Addr) (c0_3 : Nat) (l0_3 : List Int) (a1_0 : Int) (a1_1 : Int) (A1_2 : Option Addr) (c1_2 : Nat) (l1_2 : List Int) (A1_3 : Option Addr) (c1_3 : Nat) (l1_3 : List Int) (r : Int) (w : World) (hr0_2 : Kd.C (Kd.int .i64) w A0_2 l0_2.length l0_2) (hc0_2 : l0_2.length ≤ c0_2) (hr0_3 : Kd.C (Kd.int .i64) w A0_3 l0_3.length l0_3) (hc0_3 : l0_3.length ≤ c0_3) (hr1_2 : Kd.C (Kd.int .i64) w A1_2 l1_2.length l1_2) (hc1_2 : l1_2.length ≤ c1_2) (hr1_3 : Kd.C (Kd.int .i64) w A1_3 l1_3.length l1_3) (hc1_3 : l1_3.length ≤ c1_3) (h : diff_compare.f k a0_0 a0_1 l0_2 l0_3 a1_0 a1_1 l1_2 l1_3 = some r) :
  Calls Try.prog 34 #[.agg #[.int .i64 a0_0,.int .i64 a0_1,.slice A0_2 l0_2.length c0_2,.slice A0_3 l0_3.length c0_3],.agg #[.int .i64 a1_0,.int .i64 a1_1,.slice A1_2 l1_2.length c1_2,.slice A1_3 l1_3.length c1_3]] w fun e w' => e = .returned (.int .i64 r) ∧ Below w.heap.size w w':=by
 have hu28:=Try.underlying28
 have HR0_2:=am_ hr0_2
 have HC0_2:=am_ hc0_2
 clear hr0_2 hc0_2
 have HR0_3:=am_ hr0_3
 have HC0_3:=am_ hc0_3
 clear hr0_3 hc0_3
 have HR1_2:=am_ hr1_2
 have HC1_2:=am_ hc1_2
 clear hr1_2 hc1_2
 have HR1_3:=am_ hr1_3
 have HC1_3:=am_ hc1_3
 clear hr1_3 hc1_3
 have HB:=am_ (Below.refl w.heap.size w)
 have H : (if 0 < (l0_2.length : Int) then (if 0 < (l1_2.length : Int) then ((cmp_Compare_int.f (rd l0_2 0) (rd l1_2 0)).bind fun t138 => ((cmp_Compare_int.f a0_0 a1_0).bind fun t139 => ((cmp_Or_int.f k (([t138,t139] : List Int))).bind fun t143 => (some t143)))) else (none)) else (none)) = some r:=h
 clear h
 by_cases c3 : 0 < (l0_2.length : Int)
 ·rw [if_pos c3] at H
  have c3b0:=decide_eq_true c3;have c3b1 : decide (0 < l0_2.length) = true:=decide_eq_true (by omega);clear c3
  by_cases c4 : 0 < (l1_2.length : Int)
  ·rw [if_pos c4] at H
   have c4b0:=decide_eq_true c4;have c4b1 : decide (0 < l1_2.length) = true:=decide_eq_true (by omega);clear c4;replace H:=be_ H;obtain ⟨t138,A50,H⟩:=H;have A5:=am_ A50;clear A50;replace H:=be_ H;obtain ⟨t139,A60,H⟩:=H;have A6:=am_ A60;clear A60;obtain ⟨y140,hy140⟩ : ∃ y_ : List Int,y_ = (([t138,t139] : List Int)):=⟨_,rfl⟩;(replace H : ((cmp_Or_int.f k y140).bind fun t143 => (some t143)) = some r:=by first|(rw [hy140];with_reducible exact H)|(have H2_:=(Option.bind_some _ _).symm.trans H;rw [hy140];with_reducible exact H2_)|(have H2_:=(Option.bind_some _ _).symm.trans H;with_reducible exact H2_)|with_reducible exact H|(rw [hy140];exact H)|exact H);have Ny140:=am_ hy140;clear hy140;replace H:=be_ H;obtain ⟨t143,A70,H⟩:=H;have A7:=am_ A70;clear A70;obtain rfl:=Option.some.inj H;(go_enter Try.func34,Try.ntmps34);(try go_wp2_with (first|((with_reducible refine gd_ (N:=2) rfl ?_);refine bx2_ 2 #[.int .i64 a0_0,.int .i64 a0_1,.slice A0_2 l0_2.length c0_2,.slice A0_3 l0_3.length c0_3] 28 (fun gb134 hg w8 hbox hb => ?_);have n0_:=hb_ HB hb;have n1_:=am_ (hbox);have n2_ : Aside0 (w.heap.size ≤ gb134):=gz_ hg HB;have n3_ : Aside0 (w.heap.size ≤ gb134):=gz_ hg HB;revert n0_ n1_ n2_ n3_;clear HB;intro HB BK134 GW134 GE134;clear hb hbox hg)|((with_reducible refine gd_ (N:=3) rfl ?_);refine bx2_ 3 #[.int .i64 a1_0,.int .i64 a1_1,.slice A1_2 l1_2.length c1_2,.slice A1_3 l1_3.length c1_3] 28 (fun gb135 hg w9 hbox hb => ?_);have n0_:=kb_ BK134 hb;have n1_:=hb_ HB hb;have n2_:=am_ (hbox);have n3_ : Aside0 (w.heap.size ≤ gb135):=gz_ hg HB;have n4_ : Aside0 (w.heap.size ≤ gb135):=gz_ hg HB;have n5_:=nl_ hg BK134;have n6_:=ng_ hg BK134;revert n0_ n1_ n2_ n3_ n4_ n5_ n6_;clear BK134 HB;intro BK134 HB BK135 GW135 GE135 NB134_135 NB135_134;clear hb hbox hg)));have n0_:=am_ (kD_ BK134.out);have n1_:=am_ (kD_ BK135.out);have n2_:=am_ (b1_ HB.out)
   revert n0_ n1_ n2_
   clear BK134 BK135 HB;intro BK134 BK135 HB;have p136 : 0 ≤ (0 : Int):=(by omega);have q136:=de_ (0 < (l0_2.length : Int));obtain ⟨ad136,e136,hx136_0⟩:=Kd.at_int HR0_2.out 0 p136 q136;have hw136_0:=hx136_0;(try rw [show ((0 : Int)).toNat = 0 from rfl] at hw136_0);(try rw [show 0 * 1 = 0 from rfl] at hw136_0);(try rw [Addr.add_zero'] at hw136_0);cases e136;have qi136 : (0 < l0_2.length) = True:=eq_true (by omega);(try rw [show ((0 : Int)).toNat = 0 from rfl] at hx136_0);(try rw [Addr.add_zero'] at hx136_0);replace hx136_0:=cl_ HB hx136_0;replace p136:=eq_true p136;replace q136:=eq_true q136;have p137 : 0 ≤ (0 : Int):=(by omega);have q137:=de_ (0 < (l1_2.length : Int));obtain ⟨ad137,e137,hx137_0⟩:=Kd.at_int HR1_2.out 0 p137 q137;have hw137_0:=hx137_0;(try rw [show ((0 : Int)).toNat = 0 from rfl] at hw137_0);(try rw [show 0 * 1 = 0 from rfl] at hw137_0);(try rw [Addr.add_zero'] at hw137_0);cases e137;have qi137 : (0 < l1_2.length) = True:=eq_true (by omega);(try rw [show ((0 : Int)).toNat = 0 from rfl] at hx137_0);(try rw [Addr.add_zero'] at hx137_0);replace hx137_0:=cl_ HB hx137_0;replace p137:=eq_true p137;replace q137:=eq_true q137;refine start_ (n:=17) (S:=fun w' => c_ w' gb134 0 (.int .i64 a0_0) ∧ c_ w' gb134 1 (.int .i64 a0_1) ∧ c_ w' gb134 2 (.slice (some ad136) l0_2.length c0_2) ∧ c_ w' gb134 3 (.slice A0_3 l0_3.length c0_3) ∧ c_ w' gb135 0 (.int .i64 a1_0) ∧ c_ w' gb135 1 (.int .i64 a1_1) ∧ c_ w' gb135 2 (.slice (some ad137) l1_2.length c1_2) ∧ c_ w' gb135 3 (.slice A1_3 l1_3.length c1_3) ∧ w'.cell? ad136 = some (.int .i64 (rd l0_2 0)) ∧ w'.cell? ad137 = some (.int .i64 (rd l1_2 0))) (ds:=[]) (bm 17 0) (by kernel_rfl) rfl rfl ⟨cq_ BK134 0,cq_ BK134 1,cq_ BK134 2,cq_ BK134 3,cq_ BK135 0,cq_ BK135 1,cq_ BK135 2,cq_ BK135 3,(cl_ HB hw136_0 :),(cl_ HB hw137_0 :)⟩ (fun hHeld => ?_);refine with_tabW diff_compare.tab1 diff_compare.bits1 (fun HT_ HW_ => ?_);generalize w9.drew = w10 at BK134 BK135 HB hx136_0 hx137_0 hHeld ⊢;refine pu_ 0 5 (bm 17 1) ?_;refine pu_ 4 9 (bm 17 17) ?_;refine pu_ 9 14 (bm 17 529) ?_;refine pu_ 11 16 (bm 17 2577) ?_;refine ta_ 1 6 (bm 17 2579) ?_;refine pu_ 2 7 (bm 17 2583) ?_;refine ta_ 3 8 (bm 17 2591) ?_;refine ta_ 5 10 (bm 17 2623) ?_;refine pu_ 6 11 (bm 17 2687) ?_;refine ta_ 7 12 (bm 17 2815) ?_;refine ta_ 10 15 (bm 17 3839) ?_;refine ta_ 12 17 (bm 17 7935) ?_;refine on_ 8 13 (bm 17 8191) (fun K hK => ?_);refine gs_ Try.func52 #[.int .i64 (rd l0_2 0),.int .i64 (rd l1_2 0)] ?_;(with_reducible refine (cmp_Compare_int.calls (rd l0_2 0) (rd l1_2 0) t138 _ A5.out).mono ?_);rintro e w' ⟨rfl,⟨nd,rfl⟩⟩;refine ⟨_,rfl,?_⟩;refine hK.out _ _ ⟨cq_ BK134 0,cq_ BK134 1,cq_ BK134 2,cq_ BK134 3,cq_ BK135 0,cq_ BK135 1,cq_ BK135 2,cq_ BK135 3,(cl_ HB hw136_0 :),(cl_ HB hw137_0 :)⟩ (fun hHeld => ?_);clear hK K;refine nm_ 13 ?_;refine on_ 13 18 (bm 17 16383) (fun K hK => ?_);refine gs_ Try.func52 #[.int .i64 a0_0,.int .i64 a1_0] ?_;(with_reducible refine (cmp_Compare_int.calls a0_0 a1_0 t139 _ A6.out).mono ?_);rintro e w' ⟨rfl,⟨nd,rfl⟩⟩;refine ⟨_,rfl,?_⟩;refine hK.out _ _ ⟨cq_ BK134 0,cq_ BK134 1,cq_ BK134 2,cq_ BK134 3,cq_ BK135 0,cq_ BK135 1,cq_ BK135 2,cq_ BK135 3,(cl_ HB hw136_0 :),(cl_ HB hw137_0 :)⟩ (fun hHeld => ?_);clear hK K;refine nm_ 18 ?_;refine on_ 14 19 (bm 17 32767) (fun K hK => ?_);refine Kd.R_lit_step (Kd.int .i64) _ 3 ?hg (N:=19) ?hd (xs:=([t138,t139] : List Int)) (inner:=[.int .i64 t138,.int .i64 t139]) (ok:=fun _ => True) (okp:=fun _ => True) ?hr ?hp (fun _ hk => hk) trivial (Below.refl _ _) (Nat.le_refl _) (by simp) ?_;(case hd => rfl);(case hg => rfl);(case hr => first|(go_simp;done)|(go_simp;rfl));(case hp => exact (Reps.one (show Kd.M (Kd.int .i64) _ _ _ t138 [.int .i64 t138] from rfl) (Reps.one (show Kd.M (Kd.int .i64) _ _ _ t139 [.int .i64 t139] from rfl) (Reps.none _ _))));intro v141 w11 ho12 hb hg_ hnew_;clear hg_ hnew_;(first|rw [← Ny140.out] at ho12|(simp only [Int.reduceToNat] at ho12;rw [← Ny140.out] at ho12));have n0_:=am_ (RL_ ho12 (bz_ (hB_ HB)));have n1_:=kb_ BK134 hb;have n2_:=kb_ BK135 hb;have n3_:=hb_ HB hb
   revert n0_ n1_ n2_ n3_
   clear BK134 BK135 HB;intro HO142 BK134 BK135 HB;clear hb ho12;obtain ⟨Ao13,co13,eo13⟩:=RS_ HO142.out;(first|subst eo13|(injection eo13 with f1_ f2_ f3_;have f4_:=f1_.symm;have f5_:=f3_.symm;clear f1_ f2_ f3_;subst f4_;subst f5_));refine hK.out _ _ ⟨cq_ BK134 0,cq_ BK134 1,cq_ BK134 2,cq_ BK134 3,cq_ BK135 0,cq_ BK135 1,cq_ BK135 2,cq_ BK135 3,(cl_ HB hw136_0 :),(cl_ HB hw137_0 :)⟩ (fun hHeld => ?_);clear hK K;refine nm_ 19 ?_;refine on_ 15 20 (bm 17 65535) (fun K hK => ?_);refine gs_ Try.func51 #[.slice Ao13 y140.length co13] ?_;(with_reducible refine (cmp_Or_int.calls k _ _ y140 t143 _ (cr_ (RR_ HO142.out).2.2) (RR_ HO142.out).2.1 A7.out).mono ?_);rintro e w' ⟨rfl,⟨nd,rfl⟩⟩;refine ⟨_,rfl,?_⟩;refine hK.out _ _ ⟨cq_ BK134 0,cq_ BK134 1,cq_ BK134 2,cq_ BK134 3,cq_ BK135 0,cq_ BK135 1,cq_ BK135 2,cq_ BK135 3,(cl_ HB hw136_0 :),(cl_ HB hw137_0 :)⟩ (fun hHeld => ?_);clear hK K;refine nm_ 20 ?_;refine pu_ 16 4 (bm 17 131071) ?_;refine done_ (done_of HT_.out (by kernel_rfl)) ?_;(try go_wp2);(go_ret);(exact ⟨by first|rfl|(simp [errW_none,errW_some] <;> rfl)|(simp [*,errW_none,errW_some] <;> rfl),hB_ HB⟩)
  ·rw [if_neg c4] at H;(simp at H)
 ·rw [if_neg c3] at H;(simp at H)
end Go.Proofs.Ytpclhbcflkncnaa.PAll
