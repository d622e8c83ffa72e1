-- Packed by wip/tools/pack.py of this session out of what plugprint.py and the kit's print wrote. Lean checks it.
import Derived.Test.YtiohandkjjmemaaKS
import Derived.Test.YtiohandkjjmemaaK11
namespace Go.Proofs.Ytiohandkjjmemaa.PAll
open Go.RowKit Go.Proofs.YtiohandkjjmemaaW.PrintWords Go.Proofs.YtiohandkjjmemaaW.PrintLast Go.Proofs.YtiohandkjjmemaaW.PrintMore
attribute [local go_sem] max2_int min2_int max_two min_two max_three min_three max_four min_four
set_option linter.unusedVariables false
set_option linter.unusedSimpArgs false
/-! ### railplanref24_Next: function 24 -/
def railplanref24_Next.l0 : Nat → List (S27) → Int → Int → Int → Option (Int)
 | 0,_,_,_,_ => none
 | k + 1,x0,x1,x2,x7 => if x7 ≥ 0 then (if 0 ≤ x7 then (if x7 < (x0.length : Int) then ((railplanref24_covering.f k x0 x1 ((rd_T27 x0 x7).f2)).bind fun t308 => (railplanref24_Next.l0 k x0 x1 ((rd_T27 x0 x7).f2) t308)) else (none)) else (none)) else (some x2)
def railplanref24_Next.f (k : Nat) (l0 : List (S27)) (a1 : Int) (a2 : Int) : Option (Int):=(railplanref24_covering.f k l0 a1 a2).bind fun t306 => (railplanref24_Next.l0 k l0 a1 a2 t306)
theorem railplanref24_Next.mono_l : ∀ k,(∀ y0 y1 y2 y3,LeO (railplanref24_Next.l0 k y0 y1 y2 y3) (railplanref24_Next.l0 (k + 1) y0 y1 y2 y3))
 | 0 => fun _ _ _ _ r h => by simp [railplanref24_Next.l0] at h
 | k + 1 => by
  have ih0:=railplanref24_Next.mono_l k
  ·intro y0 y1 y2 y3
   unfold railplanref24_Next.l0
   repeat' first
   | (with_reducible exact ih0 _ _ _ _)
   | (with_reducible exact railplanref24_covering.mono _ _ _ _)
   | (with_reducible exact LeO.refl _)
   | (with_reducible exact LeO.none _)
   | (with_reducible refine LeO.ite ?_ ?_)
   | (with_reducible refine LeO.bind ?_ (fun _ => ?_))
   | exact ih0 _ _ _ _
   | exact railplanref24_covering.mono _ _ _ _
   | exact LeO.none _
   | refine LeO.ite ?_ ?_
   | refine LeO.bind ?_ (fun _ => ?_)
theorem railplanref24_Next.mono : ∀ a0 a1 a2 k,LeO (railplanref24_Next.f k a0 a1 a2) (railplanref24_Next.f (k + 1) a0 a1 a2):=by
 intro a0 a1 a2 k;(have ih0:=railplanref24_Next.mono_l k);(unfold railplanref24_Next.f)
 repeat' first
   | (with_reducible exact ih0 _ _ _ _)
   | (with_reducible exact railplanref24_covering.mono _ _ _ _)
   | (with_reducible exact LeO.refl _)
   | (with_reducible exact LeO.none _)
   | (with_reducible refine LeO.ite ?_ ?_)
   | (with_reducible refine LeO.bind ?_ (fun _ => ?_))
   | exact ih0 _ _ _ _
   | exact railplanref24_covering.mono _ _ _ _
   | exact LeO.none _
   | refine LeO.ite ?_ ?_
   | refine LeO.bind ?_ (fun _ => ?_)
set_option maxHeartbeats 8000000 in
set_option maxRecDepth 100000 in
theorem railplanref24_Next.calls (k : Nat) (A0 : Option Addr) (c0 : Nat) (l0 : List (S27)) (a1 : Int) (a2 : Int) (r : Int) (w : World) (hr0 : Kd.C k27 w A0 l0.length l0) (hc0 : l0.length ≤ c0) (h : railplanref24_Next.f k l0 a1 a2 = some r) :
  Calls Try.prog 24 #[.slice A0 l0.length c0,.int .i64 a1,.int .i64 a2] w fun e w' => e = .returned (.int .i64 r) ∧ Below w.heap.size w w':=by
 have HR0:=am_ hr0
 have HC0:=am_ hc0
 clear hr0 hc0
 have HB:=am_ (Below.refl w.heap.size w)
 have H : ((railplanref24_covering.f k l0 a1 a2).bind fun t306 => (railplanref24_Next.l0 k l0 a1 a2 t306)) = some r:=h
 clear h
 replace H:=be_ H
 obtain ⟨t306,A40,H⟩:=H
 replace H : (railplanref24_Next.l0 k l0 a1 a2 t306) = some r:=H
 have A4:=am_ A40
 clear A40
 have H':=am_ H
 clear H
 go_enter Try.func24,Try.ntmps24
 go_wp2_with (first|((with_reducible refine gc_ (f:=32) rfl ?_);refine goesL_ (some 11) rfl rfl Try.func32 (by kernel_rfl) rfl #[.slice A0 l0.length c0,.int .i64 a1,.int .i64 a2] rfl (by (try simp only [List.map_toArray,List.map_cons,List.map_nil]);first|done|rfl|(simp only [List.length_drop,List.length_take];rfl)) ?_;(with_reducible refine (railplanref24_covering.calls k _ _ l0 a1 a2 t306 _ ?side1 ?side2 A4.out).mono ?_);(case side1 => repeat (first|exact HR0.out|(with_reducible first|refine CA_ ?_ _|refine CN_ ?_ _|refine CD_ ?_)));(case side2 => exact HC0.out);rintro e w5 ⟨rfl,hb⟩;refine ⟨_,rfl,?_⟩;have n0_:=am_ (bs_ (by repeat (first|(with_reducible first|exact HB.out|apply bA_|apply bN_|apply b1_)|exact HB.out)) hb);clear HB;have HB:=n0_;clear n0_;(try clear hb);(try clear hb2);(try clear hk);(try clear hi)))
 go_loopg [2,7] k (fun kq v2 v7 w' => ∃ (x2_1 : Int) (x7_1 : Int),v2 = .int .i64 x2_1 ∧ v7 = .int .i64 x7_1 ∧ Aside0 (railplanref24_Next.l0 kq l0 a1 x2_1 x7_1 = some r) ∧ Aside0 (kq ≤ k) ∧ Aside0 (Below w.heap.size w w'))
 case atStart => exact ⟨(a2),(t306),(by first|rfl|(simp;done)|(simp [*];done)),(by first|rfl|(simp;done)|(simp [*];done)),H',⟨Nat.le_refl _⟩,⟨by repeat (first|(with_reducible first|exact HB.out|apply bA_|apply bN_|apply b1_)|exact HB.out)⟩⟩
 case round =>
  clear H';(try clear c2);(try clear p2);(try clear c3);obtain ⟨x2_1,x7_1,rfl,rfl,HA,HK1,HB⟩:=hrel;cases gk with
  | zero => exact absurd HA.out (by simp [railplanref24_Next.l0])
  | succ k1 =>
   (have H:=HA.out);clear HA;simp only [railplanref24_Next.l0] at H
   by_cases c6 : x7_1 ≥ 0
   ·rw [if_pos c6] at H
    (have c6b0:=decide_eq_true c6);clear c6
    by_cases c7 : 0 ≤ x7_1
    ·rw [if_pos c7] at H
     (have c7b0:=decide_eq_true c7);clear c7
     by_cases c8 : x7_1 < (l0.length : Int)
     ·rw [if_pos c8] at H
      (have c8b0:=decide_eq_true c8);clear c8;replace H:=be_ H;obtain ⟨t308,A90,H⟩:=H;replace H : (railplanref24_Next.l0 k1 l0 a1 ((rd_T27 l0 x7_1).f2) t308) = some r:=H;(have A9:=am_ A90);clear A90;(have H':=am_ H);clear H;(have p307 : 0 ≤ (x7_1 : Int):=of_decide_eq_true (by first|(with_reducible assumption)|assumption));(have q307 : x7_1 < (l0.length : Int):=of_decide_eq_true (by first|(with_reducible assumption)|assumption));obtain ⟨ad307,e307,hx307_0,hx307_1,hx307_2⟩:=at_T27 HR0.out x7_1 p307 q307;cases e307;replace hx307_0:=(HB.out.cell (wl_ w _ hx307_0)).trans hx307_0;replace hx307_1:=(HB.out.cell (wl_ w _ hx307_1)).trans hx307_1;replace hx307_2:=(HB.out.cell (wl_ w _ hx307_2)).trans hx307_2;replace p307:=eq_true p307;replace q307:=eq_true q307;(go_wp2_with (first|((with_reducible refine gc_ (f:=32) rfl ?_);refine goesL_ (some 17) rfl rfl Try.func32 (by kernel_rfl) rfl #[.slice (some ad307) l0.length c0,.int .i64 a1,.int .i64 ((rd_T27 l0 x7_1).f2)] rfl (by (try simp only [List.map_toArray,List.map_cons,List.map_nil]);first|done|rfl|(simp only [List.length_drop,List.length_take];rfl)) ?_;(with_reducible refine (railplanref24_covering.calls k1 _ _ l0 a1 ((rd_T27 l0 x7_1).f2) t308 _ ?side1 ?side2 A9.out).mono ?_);(case side1 => repeat (first|exact (CB_ HR0.out HB.out)|(with_reducible first|refine CA_ ?_ _|refine CN_ ?_ _|refine CD_ ?_)));(case side2 => exact HC0.out);rintro e w10 ⟨rfl,hb⟩;refine ⟨_,rfl,?_⟩;have n0_:=am_ (bs_ (by repeat (first|(with_reducible first|exact HB.out|apply bA_|apply bN_|apply b1_)|exact HB.out)) hb);clear HB;have HB:=n0_;clear n0_;(try clear hb);(try clear hb2);(try clear hk);(try clear hi))));(go_roundg k1)
      case measure => have:=HK1.out;omega
      case rel => exact ⟨((rd_T27 l0 x7_1).f2),(t308),(by first|rfl|(simp;done)|(simp [*];done)),(by first|rfl|(simp;done)|(simp [*];done)),H',⟨by have:=HK1.out;omega⟩,⟨by repeat (first|(with_reducible first|exact HB.out|apply bA_|apply bN_|apply b1_)|exact HB.out)⟩⟩
     ·rw [if_neg c8] at H;(simp at H)
    ·rw [if_neg c7] at H;(simp at H)
   ·rw [if_neg c6] at H;((have c6b0:=decide_eq_false c6);clear c6;obtain rfl:=Option.some.inj H;(go_wp2);(go_ret);(exact ⟨by first|rfl|(simp [errW_none,errW_some] <;> rfl)|(simp [*,errW_none,errW_some] <;> rfl),by repeat (first|(with_reducible first|exact HB.out|apply bA_|apply bN_|apply b1_)|exact HB.out)⟩))
/-! ### railplanref24_moderate: function 34 -/
def railplanref24_moderate.f (a0 : Int) : Option (Bool):=if a0 ≥ (-1099511627776) then (some (decide (a0 ≤ 1099511627776))) else (some false)
set_option maxHeartbeats 8000000 in
set_option maxRecDepth 100000 in
theorem railplanref24_moderate.calls (a0 : Int) (r : Bool) (w : World) (h : railplanref24_moderate.f a0 = some r) :
  Calls Try.prog 34 #[.int .i64 a0] w fun e w' => e = .returned (.bool r) ∧ Drawn0 w w':=by
 have H : (if a0 ≥ (-1099511627776) then (some (decide (a0 ≤ 1099511627776))) else (some false)) = some r:=h
 clear h
 by_cases c2 : a0 ≥ (-1099511627776)
 ·rw [if_pos c2] at H;((have c2b0:=decide_eq_true c2);clear c2;obtain rfl:=Option.some.inj H;(go_enter Try.func34,Try.ntmps34);(go_wp2);(go_ret);exact ⟨by first|rfl|(simp;done)|(simp [*];done),by repeat (first|exact Drawn0.refl _|apply Drawn0.step)⟩)
 ·rw [if_neg c2] at H;((have c2b0:=decide_eq_false c2);clear c2;obtain rfl:=Option.some.inj H;(go_enter Try.func34,Try.ntmps34);(go_wp2);(go_ret);exact ⟨by first|rfl|(simp;done)|(simp [*];done),by repeat (first|exact Drawn0.refl _|apply Drawn0.step)⟩)
end Go.Proofs.Ytiohandkjjmemaa.PAll
