-- Packed by wip/tools/pack.py of this session out of what plugprint.py and the kit's print wrote. Lean checks it.
import Derived.Test.YtgbcgbfoejkieaaIS
namespace Go.Proofs.Ytgbcgbfoejkieaa.PAll
open Go.RowKit Go.Proofs.YtgbcgbfoejkieaaW.PrintWords Go.Proofs.YtgbcgbfoejkieaaW.PrintLast Go.Proofs.YtgbcgbfoejkieaaW.PrintMore
attribute [local go_sem] max2_int min2_int max_two min_two max_three min_three max_four min_four
set_option linter.unusedVariables false
set_option linter.unusedSimpArgs false
/-! ### slices_Index_int_int: function 70 -/
def slices_Index_int_int.l0 : Nat → List Int → Int → Int → Int → Option (Int)
 | 0,_,_,_,_ => none
 | k + 1,x0,x1,x7,x8 => if x8 < x7 then (if 0 ≤ x8 then (if x8 < (x0.length : Int) then (if x1 = (rd x0 x8) then (some x8) else (slices_Index_int_int.l0 k x0 x1 x7 (wrap64 (x8 + 1)))) else (none)) else (none)) else (some (-1))
def slices_Index_int_int.f (k : Nat) (l0 : List Int) (a1 : Int) : Option (Int):=slices_Index_int_int.l0 k l0 a1 (l0.length : Int) 0
theorem slices_Index_int_int.mono_l : ∀ k,(∀ y0 y1 y2 y3,LeO (slices_Index_int_int.l0 k y0 y1 y2 y3) (slices_Index_int_int.l0 (k + 1) y0 y1 y2 y3))
 | 0 => fun _ _ _ _ r h => by simp [slices_Index_int_int.l0] at h
 | k + 1 => by
  have ih0:=slices_Index_int_int.mono_l k
  ·intro y0 y1 y2 y3
   unfold slices_Index_int_int.l0
   repeat' first
   | (with_reducible exact ih0 _ _ _ _)
   | (with_reducible exact LeO.refl _)
   | (with_reducible exact LeO.none _)
   | (with_reducible refine LeO.ite ?_ ?_)
   | (with_reducible refine LeO.bind ?_ (fun _ => ?_))
   | exact ih0 _ _ _ _
   | exact LeO.none _
   | refine LeO.ite ?_ ?_
   | refine LeO.bind ?_ (fun _ => ?_)
theorem slices_Index_int_int.mono : ∀ a0 a1 k,LeO (slices_Index_int_int.f k a0 a1) (slices_Index_int_int.f (k + 1) a0 a1):=by
 intro a0 a1 k;have ih0:=slices_Index_int_int.mono_l k;(unfold slices_Index_int_int.f)
 repeat' first
   | (with_reducible exact ih0 _ _ _ _)
   | (with_reducible exact LeO.refl _)
   | (with_reducible exact LeO.none _)
   | (with_reducible refine LeO.ite ?_ ?_)
   | (with_reducible refine LeO.bind ?_ (fun _ => ?_))
   | exact ih0 _ _ _ _
   | exact LeO.none _
   | refine LeO.ite ?_ ?_
   | refine LeO.bind ?_ (fun _ => ?_)
set_option maxHeartbeats 8000000 in
set_option maxRecDepth 100000 in
theorem slices_Index_int_int.calls (k : Nat) (A0 : Option Addr) (c0 : Nat) (l0 : List Int) (a1 : Int) (r : Int) (w : World) (hr0 : Kd.C (Kd.int .i64) w A0 l0.length l0) (hc0 : l0.length ≤ c0) (h : slices_Index_int_int.f k l0 a1 = some r) :
  Calls Try.prog 70 #[.slice A0 l0.length c0,.int .i64 a1] w fun e w' => e = .returned (.int .i64 r) ∧ Drawn0 w w':=by
 have HR0:=am_ hr0
 have HC0:=am_ hc0
 clear hr0 hc0
 have H : (slices_Index_int_int.l0 k l0 a1 (l0.length : Int) 0) = some r:=h
 clear h
 have H':=am_ H
 clear H
 go_enter Try.func70,Try.ntmps70
 go_wp2
 go_loopg [8] k (fun kq v8 w' => ∃ (x8_1 : Int),v8 = .int .i64 x8_1 ∧ Aside0 (slices_Index_int_int.l0 kq l0 a1 (l0.length : Int) x8_1 = some r) ∧ Aside0 (kq ≤ k) ∧ Drawn0 w w')
 case atStart => exact ⟨(0),(by first|rfl|(simp;done)|(simp [*];done)),H',⟨Nat.le_refl _⟩,by repeat (first|exact Drawn0.refl _|apply Drawn0.step)⟩
 case round =>
  clear H';(try clear p2);obtain ⟨x8_1,rfl,HA,HK1,⟨m1,rfl⟩⟩:=hrel;cases gk with
  | zero => exact absurd HA.out (by simp [slices_Index_int_int.l0])
  | succ k1 =>
   have H:=HA.out;clear HA;simp only [slices_Index_int_int.l0] at H
   by_cases c3 : x8_1 < (l0.length : Int)
   ·rw [if_pos c3] at H
    have c3b0:=decide_eq_true c3;clear c3
    by_cases c4 : 0 ≤ x8_1
    ·rw [if_pos c4] at H
     have c4b0:=decide_eq_true c4;clear c4
     by_cases c5 : x8_1 < (l0.length : Int)
     ·rw [if_pos c5] at H
      have c5b0:=decide_eq_true c5;clear c5
      by_cases c6 : a1 = (rd l0 x8_1)
      ·rw [if_pos c6] at H;have c6b0 : (a1 == (rd l0 x8_1)) = true:=beq_iff_eq.mpr c6;have c6b1 : (a1 != (rd l0 x8_1)) = false:=bne_eq_false_iff_eq.mpr c6;clear c6;obtain rfl:=Option.some.inj H;have p280:=de_ (0 ≤ (x8_1 : Int));have q280:=de_ (x8_1 < (l0.length : Int));obtain ⟨ad280,e280,hx280_0⟩:=Kd.at_int HR0.out x8_1 p280 q280;cases e280;replace p280:=eq_true p280;replace q280:=eq_true q280;(go_wp2);(go_ret);exact ⟨by first|rfl|(simp;done)|(simp [*];done),by repeat (first|exact Drawn0.refl _|apply Drawn0.step)⟩
      ·rw [if_neg c6] at H
       have c6b0 : (a1 == (rd l0 x8_1)) = false:=beq_eq_false_iff_ne.mpr c6;have c6b1 : (a1 != (rd l0 x8_1)) = true:=bne_iff_ne.mpr c6;have H':=am_ H;clear H;have p280:=de_ (0 ≤ (x8_1 : Int));have q280:=de_ (x8_1 < (l0.length : Int));obtain ⟨ad280,e280,hx280_0⟩:=Kd.at_int HR0.out x8_1 p280 q280;cases e280;replace p280:=eq_true p280;replace q280:=eq_true q280;(go_wp2);(go_roundg k1)
       case measure => have:=HK1.out;omega
       case rel => exact ⟨(wrap64 (x8_1 + 1)),(by first|rfl|(simp;done)|(simp [*];done)),H',⟨by have:=HK1.out;omega⟩,by repeat (first|exact Drawn0.refl _|apply Drawn0.step)⟩
     ·rw [if_neg c5] at H;(simp at H)
    ·rw [if_neg c4] at H;(simp at H)
   ·rw [if_neg c3] at H;have c3b0:=decide_eq_false c3;clear c3;obtain rfl:=Option.some.inj H;(go_wp2);(go_ret);exact ⟨by first|rfl|(simp;done)|(simp [*];done),by repeat (first|exact Drawn0.refl _|apply Drawn0.step)⟩
/-! ### slices_Contains_int_int: function 58 -/
def slices_Contains_int_int.f (k : Nat) (l0 : List Int) (a1 : Int) : Option (Bool):=(slices_Index_int_int.f k l0 a1).bind fun t281 => (some (decide (t281 ≥ 0)))
theorem slices_Contains_int_int.mono : ∀ a0 a1 k,LeO (slices_Contains_int_int.f k a0 a1) (slices_Contains_int_int.f (k + 1) a0 a1):=by
 intro a0 a1 k;(unfold slices_Contains_int_int.f)
 repeat' first
   | (with_reducible exact slices_Index_int_int.mono _ _ _)
   | (with_reducible exact LeO.refl _)
   | (with_reducible exact LeO.none _)
   | (with_reducible refine LeO.ite ?_ ?_)
   | (with_reducible refine LeO.bind ?_ (fun _ => ?_))
   | exact slices_Index_int_int.mono _ _ _
   | exact LeO.none _
   | refine LeO.ite ?_ ?_
   | refine LeO.bind ?_ (fun _ => ?_)
set_option maxHeartbeats 8000000 in
set_option maxRecDepth 100000 in
theorem slices_Contains_int_int.calls (k : Nat) (A0 : Option Addr) (c0 : Nat) (l0 : List Int) (a1 : Int) (r : Bool) (w : World) (hr0 : Kd.C (Kd.int .i64) w A0 l0.length l0) (hc0 : l0.length ≤ c0) (h : slices_Contains_int_int.f k l0 a1 = some r) :
  Calls Try.prog 58 #[.slice A0 l0.length c0,.int .i64 a1] w fun e w' => e = .returned (.bool r) ∧ Drawn0 w w':=by
 have HR0:=am_ hr0
 have HC0:=am_ hc0
 clear hr0 hc0
 have H : ((slices_Index_int_int.f k l0 a1).bind fun t281 => (some (decide (t281 ≥ 0)))) = some r:=h
 clear h
 replace H:=be_ H
 obtain ⟨t281,A30,H⟩:=H
 have A3:=am_ A30
 clear A30
 obtain rfl:=Option.some.inj H
 go_enter Try.func58,Try.ntmps58
 go_wp2_with (first|((with_reducible refine gc_ (f:=70) rfl ?_);refine gl_ (some 7) Try.func70 #[.slice A0 l0.length c0,.int .i64 a1] ?_;(with_reducible refine (slices_Index_int_int.calls k _ _ l0 a1 t281 _ (cr_ HR0.out) HC0.out A3.out).mono ?_);rintro e w' ⟨rfl,⟨nd,rfl⟩⟩;refine ⟨_,rfl,?_⟩))
 go_ret
 exact ⟨by first|rfl|(simp;done)|(simp [*];done),by repeat (first|exact Drawn0.refl _|apply Drawn0.step)⟩
theorem slices_Contains_int_int.callsN (k : Nat) (A0 : Option Addr) (c0 : Nat) (l0 : List Int) (a1 : Int) (r : Bool) (w : World) (n : Nat) (hn : l0.length = n) (hr0 : Kd.C (Kd.int .i64) w A0 l0.length l0) (hc0 : l0.length ≤ c0) (h : slices_Contains_int_int.f k l0 a1 = some r) :
  Calls Try.prog 58 #[.slice A0 n c0,.int .i64 a1] w fun e w' => e = .returned (.bool r) ∧ Drawn0 w w':=by
 subst hn
 exact slices_Contains_int_int.calls k A0 c0 l0 a1 r w hr0 hc0 h
end Go.Proofs.Ytgbcgbfoejkieaa.PAll
