-- Packed by wip/tools/pack.py of this session out of what plugprint.py and the kit's print wrote. Lean checks it.
import Derived.Test.YtiohandkjjmemaaKS
import Derived.Test.YtiohandkjjmemaaK0
import Derived.Test.YtiohandkjjmemaaK1
import Derived.Test.YtiohandkjjmemaaK8
import Derived.Test.YtiohandkjjmemaaK15
import Derived.Test.YtiohandkjjmemaaK17
import Derived.Test.YtiohandkjjmemaaK19
import Derived.Test.YtiohandkjjmemaaK23
namespace Go.Proofs.Ytiohandkjjmemaa.PAll
open Go.RowKit Go.Proofs.YtiohandkjjmemaaW.PrintWords Go.Proofs.YtiohandkjjmemaaW.PrintLast Go.Proofs.YtiohandkjjmemaaW.PrintMore
attribute [local go_sem] max2_int min2_int max_two min_two max_three min_three max_four min_four
set_option linter.unusedVariables false
set_option linter.unusedSimpArgs false
/-! ### railplanlaw25_ClosureEarliest: function 10 -/
mutual
def railplanlaw25_ClosureEarliest.l0 : Nat → List (S27) → List (S39) → Int → Int → Int → Bool → Int → Option (Bool)
 | 0,_,_,_,_,_,_,_ => none
 | k + 1,x9,x10,x11,x12,x13,x14,x15 => if x15 ≤ x12 then (if x14 = true then (railplanlaw25_ClosureEarliest.j1 k x9 x10 x11 x12 x13 x14 x15 (x15 == x13)) else (railplanlaw25_ClosureEarliest.j1 k x9 x10 x11 x12 x13 x14 x15 false)) else ((closure_Earliest.f k x9 x10 x11 (wrap64 (x12 + 1))).bind fun bt381 => ((railplanlaw25_awake.f k).bind fun t383 => (if t383 = true then (if x14 = true then (if x13 ≥ 0 then (if x13 ≤ x12 then ((railplanref24_Enters.f k x9 x10 (wrap64 (x11 + x13))).bind fun t384 => (if t384 = true then (if bt381.1 = x13 then (some bt381.2) else (none)) else (none))) else (none)) else (none)) else (if x13 = 0 then (some true) else (none))) else (none))))
def railplanlaw25_ClosureEarliest.j1 : Nat → List (S27) → List (S39) → Int → Int → Int → Bool → Int → Bool → Option (Bool)
 | 0,_,_,_,_,_,_,_,_ => none
 | k + 1,x9,x10,x11,x12,x13,x14,x15,x44 => if x44 = true then ((closure_Earliest.f k x9 x10 x11 (wrap64 (x12 + 1))).bind fun bt385 => ((railplanlaw25_awake.f k).bind fun t387 => (if t387 = true then (if x14 = true then (if x13 ≥ 0 then (if x13 ≤ x12 then ((railplanref24_Enters.f k x9 x10 (wrap64 (x11 + x13))).bind fun t388 => (if t388 = true then (if bt385.1 = x13 then (some bt385.2) else (none)) else (none))) else (none)) else (none)) else (if x13 = 0 then (some true) else (none))) else (none)))) else ((closure_Enters.f k x9 x10 (wrap64 (x11 + x15))).bind fun t389 => (if t389 = true then (none) else (railplanlaw25_ClosureEarliest.l0 k x9 x10 x11 x12 x13 x14 (wrap64 (x15 + 1)))))
end
def railplanlaw25_ClosureEarliest.f (k : Nat) (l0 : List Int) (l1 : List Int) (a2 : Int) (a3 : Int) : Option (Bool):=(railplankeep2_Closures.f k l0).bind fun t371 => ((railplankeep_Occupations.f k l1).bind fun t374 => ((railplankeep_Pick.f a2 60).bind fun t377 => ((railplankeep_Pick.f a3 120).bind fun t378 => ((closure_Earliest.f k t371 t374 t377 t378).bind fun bt379 => (railplanlaw25_ClosureEarliest.l0 k t371 t374 t377 t378 bt379.1 bt379.2 0)))))
theorem railplanlaw25_ClosureEarliest.mono_l : ∀ k,(∀ y0 y1 y2 y3 y4 y5 y6,LeO (railplanlaw25_ClosureEarliest.l0 k y0 y1 y2 y3 y4 y5 y6) (railplanlaw25_ClosureEarliest.l0 (k + 1) y0 y1 y2 y3 y4 y5 y6)) ∧ (∀ y0 y1 y2 y3 y4 y5 y6 y7,LeO (railplanlaw25_ClosureEarliest.j1 k y0 y1 y2 y3 y4 y5 y6 y7) (railplanlaw25_ClosureEarliest.j1 (k + 1) y0 y1 y2 y3 y4 y5 y6 y7))
 | 0 => ⟨fun _ _ _ _ _ _ _ r h => by simp [railplanlaw25_ClosureEarliest.l0] at h,fun _ _ _ _ _ _ _ _ r h => by simp [railplanlaw25_ClosureEarliest.j1] at h⟩
 | k + 1 => by
  obtain ⟨ih0,ih1⟩:=railplanlaw25_ClosureEarliest.mono_l k;refine ⟨?_,?_⟩
  ·intro y0 y1 y2 y3 y4 y5 y6
   unfold railplanlaw25_ClosureEarliest.l0
   repeat' first
   | (with_reducible exact ih0 _ _ _ _ _ _ _)
   | (with_reducible exact ih1 _ _ _ _ _ _ _ _)
   | (with_reducible exact closure_Earliest.mono _ _ _ _ _)
   | (with_reducible exact closure_Enters.mono _ _ _ _)
   | (with_reducible exact railplankeep2_Closures.mono _ _)
   | (with_reducible exact railplankeep_Occupations.mono _ _)
   | (with_reducible exact railplanlaw25_awake.mono _)
   | (with_reducible exact railplanref24_Enters.mono _ _ _ _)
   | (with_reducible exact LeO.refl _)
   | (with_reducible exact LeO.none _)
   | (with_reducible refine LeO.ite ?_ ?_)
   | (with_reducible refine LeO.bind ?_ (fun _ => ?_))
   | exact ih0 _ _ _ _ _ _ _
   | exact ih1 _ _ _ _ _ _ _ _
   | exact closure_Earliest.mono _ _ _ _ _
   | exact closure_Enters.mono _ _ _ _
   | exact railplankeep2_Closures.mono _ _
   | exact railplankeep_Occupations.mono _ _
   | exact railplanlaw25_awake.mono _
   | exact railplanref24_Enters.mono _ _ _ _
   | exact LeO.none _
   | refine LeO.ite ?_ ?_
   | refine LeO.bind ?_ (fun _ => ?_)
  ·intro y0 y1 y2 y3 y4 y5 y6 y7
   unfold railplanlaw25_ClosureEarliest.j1
   repeat' first
   | (with_reducible exact ih0 _ _ _ _ _ _ _)
   | (with_reducible exact ih1 _ _ _ _ _ _ _ _)
   | (with_reducible exact closure_Earliest.mono _ _ _ _ _)
   | (with_reducible exact closure_Enters.mono _ _ _ _)
   | (with_reducible exact railplankeep2_Closures.mono _ _)
   | (with_reducible exact railplankeep_Occupations.mono _ _)
   | (with_reducible exact railplanlaw25_awake.mono _)
   | (with_reducible exact railplanref24_Enters.mono _ _ _ _)
   | (with_reducible exact LeO.refl _)
   | (with_reducible exact LeO.none _)
   | (with_reducible refine LeO.ite ?_ ?_)
   | (with_reducible refine LeO.bind ?_ (fun _ => ?_))
   | exact ih0 _ _ _ _ _ _ _
   | exact ih1 _ _ _ _ _ _ _ _
   | exact closure_Earliest.mono _ _ _ _ _
   | exact closure_Enters.mono _ _ _ _
   | exact railplankeep2_Closures.mono _ _
   | exact railplankeep_Occupations.mono _ _
   | exact railplanlaw25_awake.mono _
   | exact railplanref24_Enters.mono _ _ _ _
   | exact LeO.none _
   | refine LeO.ite ?_ ?_
   | refine LeO.bind ?_ (fun _ => ?_)
theorem railplanlaw25_ClosureEarliest.mono : ∀ a0 a1 a2 a3 k,LeO (railplanlaw25_ClosureEarliest.f k a0 a1 a2 a3) (railplanlaw25_ClosureEarliest.f (k + 1) a0 a1 a2 a3):=by
 intro a0 a1 a2 a3 k;obtain ⟨ih0,ih1⟩:=railplanlaw25_ClosureEarliest.mono_l k;(unfold railplanlaw25_ClosureEarliest.f)
 repeat' first
   | (with_reducible exact ih0 _ _ _ _ _ _ _)
   | (with_reducible exact ih1 _ _ _ _ _ _ _ _)
   | (with_reducible exact closure_Earliest.mono _ _ _ _ _)
   | (with_reducible exact closure_Enters.mono _ _ _ _)
   | (with_reducible exact railplankeep2_Closures.mono _ _)
   | (with_reducible exact railplankeep_Occupations.mono _ _)
   | (with_reducible exact railplanlaw25_awake.mono _)
   | (with_reducible exact railplanref24_Enters.mono _ _ _ _)
   | (with_reducible exact LeO.refl _)
   | (with_reducible exact LeO.none _)
   | (with_reducible refine LeO.ite ?_ ?_)
   | (with_reducible refine LeO.bind ?_ (fun _ => ?_))
   | exact ih0 _ _ _ _ _ _ _
   | exact ih1 _ _ _ _ _ _ _ _
   | exact closure_Earliest.mono _ _ _ _ _
   | exact closure_Enters.mono _ _ _ _
   | exact railplankeep2_Closures.mono _ _
   | exact railplankeep_Occupations.mono _ _
   | exact railplanlaw25_awake.mono _
   | exact railplanref24_Enters.mono _ _ _ _
   | exact LeO.none _
   | refine LeO.ite ?_ ?_
   | refine LeO.bind ?_ (fun _ => ?_)
set_option maxHeartbeats 8000000 in
set_option maxRecDepth 100000 in
theorem railplanlaw25_ClosureEarliest.calls (k : Nat) (A0 : Option Addr) (c0 : Nat) (l0 : List Int) (A1 : Option Addr) (c1 : Nat) (l1 : List Int) (a2 : Int) (a3 : Int) (r : Bool) (w : World) (hr0 : Kd.C (Kd.int .i64) w A0 l0.length l0) (hc0 : l0.length ≤ c0) (hr1 : Kd.C (Kd.int .i64) w A1 l1.length l1) (hc1 : l1.length ≤ c1) (h : railplanlaw25_ClosureEarliest.f k l0 l1 a2 a3 = some r) :
  Calls Try.prog 10 #[.slice A0 l0.length c0,.slice A1 l1.length c1,.int .i64 a2,.int .i64 a3] w fun e w' => e = .returned (.bool r) ∧ Below w.heap.size w w':=by
 have HR0:=am_ hr0
 have HC0:=am_ hc0
 clear hr0 hc0
 have HR1:=am_ hr1
 have HC1:=am_ hc1
 clear hr1 hc1
 have HB:=am_ (Below.refl w.heap.size w)
 have H : ((railplankeep2_Closures.f k l0).bind fun t371 => ((railplankeep_Occupations.f k l1).bind fun t374 => ((railplankeep_Pick.f a2 60).bind fun t377 => ((railplankeep_Pick.f a3 120).bind fun t378 => ((closure_Earliest.f k t371 t374 t377 t378).bind fun bt379 => (railplanlaw25_ClosureEarliest.l0 k t371 t374 t377 t378 bt379.1 bt379.2 0)))))) = some r:=h
 clear h
 replace H:=be_ H
 obtain ⟨t371,A50,H⟩:=H
 replace H : ((railplankeep_Occupations.f k l1).bind fun t374 => ((railplankeep_Pick.f a2 60).bind fun t377 => ((railplankeep_Pick.f a3 120).bind fun t378 => ((closure_Earliest.f k t371 t374 t377 t378).bind fun bt379 => (railplanlaw25_ClosureEarliest.l0 k t371 t374 t377 t378 bt379.1 bt379.2 0))))) = some r:=H
 have A5:=am_ A50
 clear A50
 replace H:=be_ H
 obtain ⟨t374,A60,H⟩:=H
 replace H : ((railplankeep_Pick.f a2 60).bind fun t377 => ((railplankeep_Pick.f a3 120).bind fun t378 => ((closure_Earliest.f k t371 t374 t377 t378).bind fun bt379 => (railplanlaw25_ClosureEarliest.l0 k t371 t374 t377 t378 bt379.1 bt379.2 0)))) = some r:=H
 have A6:=am_ A60
 clear A60
 replace H:=be_ H
 obtain ⟨t377,A70,H⟩:=H
 replace H : ((railplankeep_Pick.f a3 120).bind fun t378 => ((closure_Earliest.f k t371 t374 t377 t378).bind fun bt379 => (railplanlaw25_ClosureEarliest.l0 k t371 t374 t377 t378 bt379.1 bt379.2 0))) = some r:=H
 have A7:=am_ A70
 clear A70
 replace H:=be_ H
 obtain ⟨t378,A80,H⟩:=H
 replace H : ((closure_Earliest.f k t371 t374 t377 t378).bind fun bt379 => (railplanlaw25_ClosureEarliest.l0 k t371 t374 t377 t378 bt379.1 bt379.2 0)) = some r:=H
 have A8:=am_ A80
 clear A80
 replace H:=be_ H
 obtain ⟨⟨t379,t380⟩,A90,H⟩:=H
 replace H : (railplanlaw25_ClosureEarliest.l0 k t371 t374 t377 t378 t379 t380 0) = some r:=H
 have A9:=am_ A90
 clear A90
 have H':=am_ H
 clear H
 go_enter Try.func10,Try.ntmps10
 go_wp2_with (first|((with_reducible refine gc_ (f:=11) rfl ?_);refine goesL_ (some 19) rfl rfl Try.func11 (by kernel_rfl) rfl #[.slice A0 l0.length c0] rfl (by (try simp only [List.map_toArray,List.map_cons,List.map_nil]);first|done|rfl|(simp only [List.length_drop,List.length_take];rfl)) ?_;(with_reducible refine (railplankeep2_Closures.calls k _ _ l0 t371 _ ?side1 ?side2 A5.out).mono ?_);(case side1 => repeat (first|exact HR0.out|(with_reducible first|refine CA_ ?_ _|refine CN_ ?_ _|refine CD_ ?_)));(case side2 => exact HC0.out);rintro e w10 ⟨v372,rfl,ho0,hb⟩;refine ⟨_,rfl,?_⟩;have n0_:=am_ (RL_ ho0 (bz_ (by repeat (first|(with_reducible first|exact HB.out|apply bA_|apply bN_|apply b1_)|exact HB.out))));have n1_:=am_ (bs_ (by repeat (first|(with_reducible first|exact HB.out|apply bA_|apply bN_|apply b1_)|exact HB.out)) hb);clear HB;have HO373:=n0_;have HB:=n1_;clear n0_ n1_;(try clear hb);(try clear hb2);(try clear hk);(try clear hi);(try clear ho0))|((with_reducible refine gc_ (f:=20) rfl ?_);refine goesL_ (some 21) rfl rfl Try.func20 (by kernel_rfl) rfl #[.slice A1 l1.length c1] rfl (by (try simp only [List.map_toArray,List.map_cons,List.map_nil]);first|done|rfl|(simp only [List.length_drop,List.length_take];rfl)) ?_;(with_reducible refine (railplankeep_Occupations.calls k _ _ l1 t374 _ ?side1 ?side2 A6.out).mono ?_);(case side1 => repeat (first|exact (CB_ HR1.out HB.out)|(with_reducible first|refine CA_ ?_ _|refine CN_ ?_ _|refine CD_ ?_)));(case side2 => exact HC1.out);rintro e w11 ⟨v375,rfl,ho0,hb⟩;refine ⟨_,rfl,?_⟩;have n0_:=am_ (RB_ (by (with_reducible repeat (first|apply RA_|apply RN_|apply RD_));exact HO373.out) hb);have n1_:=am_ (RL_ ho0 (bz_ (by repeat (first|(with_reducible first|exact HB.out|apply bA_|apply bN_|apply b1_)|exact HB.out))));have n2_:=am_ (bs_ (by repeat (first|(with_reducible first|exact HB.out|apply bA_|apply bN_|apply b1_)|exact HB.out)) hb);clear HO373;clear HB;have HO373:=n0_;have HO376:=n1_;have HB:=n2_;clear n0_ n1_ n2_;(try clear hb);(try clear hb2);(try clear hk);(try clear hi);(try clear ho0))|((with_reducible refine gc_ (f:=12) rfl ?_);refine goesL_ (some 23) rfl rfl Try.func12 (by kernel_rfl) rfl #[.int .i64 a2,.int .i64 60] rfl (by (try simp only [List.map_toArray,List.map_cons,List.map_nil]);first|done|rfl|(simp only [List.length_drop,List.length_take];rfl)) ?_;(with_reducible refine (railplankeep_Pick.calls a2 60 t377 _ A7.out).mono ?_);rintro e w' ⟨rfl,⟨nd,rfl⟩⟩;refine ⟨_,rfl,?_⟩)|((with_reducible refine gc_ (f:=12) rfl ?_);refine goesL_ (some 25) rfl rfl Try.func12 (by kernel_rfl) rfl #[.int .i64 a3,.int .i64 120] rfl (by (try simp only [List.map_toArray,List.map_cons,List.map_nil]);first|done|rfl|(simp only [List.length_drop,List.length_take];rfl)) ?_;(with_reducible refine (railplankeep_Pick.calls a3 120 t378 _ A8.out).mono ?_);rintro e w' ⟨rfl,⟨nd,rfl⟩⟩;refine ⟨_,rfl,?_⟩;obtain ⟨Ao12,co12,eo12⟩:=RS_ HO373.out;subst eo12;obtain ⟨Ao13,co13,eo13⟩:=RS_ HO376.out;subst eo13)|((with_reducible refine gc_ (f:=22) rfl ?_);refine goesL_ (some 31) rfl rfl Try.func22 (by kernel_rfl) rfl #[.slice Ao12 t371.length co12,.slice Ao13 t374.length co13,.int .i64 t377,.int .i64 t378] rfl (by (try simp only [List.map_toArray,List.map_cons,List.map_nil]);first|done|rfl|(simp only [List.length_drop,List.length_take];rfl)) ?_;(with_reducible refine (closure_Earliest.calls k _ _ t371 _ _ t374 t377 t378 t379 t380 _ ?side1 ?side2 ?side3 ?side4 A9.out).mono ?_);(case side1 => repeat (first|exact (RR_ HO373.out).2.2|(with_reducible first|refine CA_ ?_ _|refine CN_ ?_ _|refine CD_ ?_)));(case side2 => exact (RR_ HO373.out).2.1);(case side3 => repeat (first|exact (RR_ HO376.out).2.2|(with_reducible first|refine CA_ ?_ _|refine CN_ ?_ _|refine CD_ ?_)));(case side4 => exact (RR_ HO376.out).2.1);rintro e w14 ⟨rfl,hb⟩;refine ⟨_,rfl,?_⟩;have n0_:=am_ (RB_ (by (with_reducible repeat (first|apply RA_|apply RN_|apply RD_));exact HO373.out) hb);have n1_:=am_ (RB_ (by (with_reducible repeat (first|apply RA_|apply RN_|apply RD_));exact HO376.out) hb);have n2_:=am_ (bs_ (by repeat (first|(with_reducible first|exact HB.out|apply bA_|apply bN_|apply b1_)|exact HB.out)) hb);clear HO373;clear HO376;clear HB;have HO373:=n0_;have HO376:=n1_;have HB:=n2_;clear n0_ n1_ n2_;(try clear hb);(try clear hb2);(try clear hk);(try clear hi)))
 go_loopg [15] k (fun kq v15 w' => ∃ (x15_1 : Int),v15 = .int .i64 x15_1 ∧ Aside0 (railplanlaw25_ClosureEarliest.l0 kq t371 t374 t377 t378 t379 t380 x15_1 = some r) ∧ Aside0 (kq ≤ k) ∧ Aside0 (Kd.R k27 27 w' w.heap.size (fun _ => True) (.slice Ao12 t371.length co12) t371) ∧ Aside0 (Kd.R k39 39 w' w.heap.size (fun _ => True) (.slice Ao13 t374.length co13) t374) ∧ Aside0 (Below w.heap.size w w'))
 case atStart => exact ⟨(0),(by first|rfl|(simp;done)|(simp [*];done)),H',⟨Nat.le_refl _⟩,⟨by (with_reducible repeat (first|apply RA_|apply RN_|apply RD_));exact HO373.out⟩,⟨by (with_reducible repeat (first|apply RA_|apply RN_|apply RD_));exact HO376.out⟩,⟨by repeat (first|(with_reducible first|exact HB.out|apply bA_|apply bN_|apply b1_)|exact HB.out)⟩⟩
 case round =>
  clear H';(try clear c1);(try clear c2);(try clear p2);(try clear c10);(try clear c11);(try clear c12);obtain ⟨x15_1,rfl,HA,HK1,HO_9,HO_10,HB⟩:=hrel;cases gk with
  | zero => exact absurd HA.out (by simp [railplanlaw25_ClosureEarliest.l0])
  | succ k1 =>
   (have H:=HA.out);clear HA;simp only [railplanlaw25_ClosureEarliest.l0] at H
   by_cases c15 : x15_1 ≤ t378
   ·rw [if_pos c15] at H
    (have c15b0:=decide_eq_true c15);clear c15;(have HC16:=am_ H);clear H;(go_upto_region 8 with (fail));(go_cut [44] (fun v44 wc => ∃ (kq : Nat) (x44_15 : Bool),v44 = .bool x44_15 ∧ Aside0 (railplanlaw25_ClosureEarliest.j1 kq t371 t374 t377 t378 t379 t380 x15_1 x44_15 = some r) ∧ Aside0 (kq ≤ k1) ∧ Aside0 (Kd.R k27 27 wc w.heap.size (fun _ => True) (.slice Ao12 t371.length co12) t371) ∧ Aside0 (Kd.R k39 39 wc w.heap.size (fun _ => True) (.slice Ao13 t374.length co13) t374) ∧ Aside0 (Below w.heap.size w wc)))
    case first =>
     (have H:=HC16.out);clear HC16
     by_cases c17 : t380 = true
     ·subst c17
      (have H1 : (railplanlaw25_ClosureEarliest.j1 k1 t371 t374 t377 t378 t379 true x15_1 (x15_1 == t379)) = some r:=by rw [if_pos rfl] at H;exact H);clear H;(have H:=H1);clear H1;(have H':=am_ H);clear H;(go_wp2);(go_meet)
      case rel => exact ⟨_,((x15_1 == t379)),(by first|rfl|(simp;done)|(simp [*];done)),H',⟨by have:=HK1.out;first|omega|exact Nat.le_refl _⟩,⟨by (with_reducible repeat (first|apply RA_|apply RN_|apply RD_));exact HO_9.out⟩,⟨by (with_reducible repeat (first|apply RA_|apply RN_|apply RD_));exact HO_10.out⟩,⟨by repeat (first|(with_reducible first|exact HB.out|apply bA_|apply bN_|apply b1_)|exact HB.out)⟩⟩
     ·replace c17:=Bool.eq_false_iff.mpr c17
      subst c17;(have H1 : (railplanlaw25_ClosureEarliest.j1 k1 t371 t374 t377 t378 t379 false x15_1 false) = some r:=by rw [if_neg (show ¬ (false = true) by decide)] at H;exact H);clear H;(have H:=H1);clear H1;(have H':=am_ H);clear H;(go_wp2);(go_meet)
      case rel => exact ⟨_,(false),(by first|rfl|(simp;done)|(simp [*];done)),H',⟨by have:=HK1.out;first|omega|exact Nat.le_refl _⟩,⟨by (with_reducible repeat (first|apply RA_|apply RN_|apply RD_));exact HO_9.out⟩,⟨by (with_reducible repeat (first|apply RA_|apply RN_|apply RD_));exact HO_10.out⟩,⟨by repeat (first|(with_reducible first|exact HB.out|apply bA_|apply bN_|apply b1_)|exact HB.out)⟩⟩
    case rest =>
     clear HC16;(try clear c1);(try clear c2);(try clear p2);(try clear c10);(try clear c11);(try clear c12);(try clear c15);(try clear c15b0);(try clear c17);(try clear p2);obtain ⟨kq,x44_15,rfl,HA,HJ15,HO_9,HO_10,HB⟩:=hcut;cases kq with
     | zero => exact absurd HA.out (by simp [railplanlaw25_ClosureEarliest.j1])
     | succ kj15 =>
      (have H:=HA.out);clear HA;simp only [railplanlaw25_ClosureEarliest.j1] at H
      by_cases c18 : x44_15 = true
      ·subst c18
       (have H1 : ((closure_Earliest.f kj15 t371 t374 t377 (wrap64 (t378 + 1))).bind fun bt385 => ((railplanlaw25_awake.f kj15).bind fun t387 => (if t387 = true then (if t380 = true then (if t379 ≥ 0 then (if t379 ≤ t378 then ((railplanref24_Enters.f kj15 t371 t374 (wrap64 (t377 + t379))).bind fun t388 => (if t388 = true then (if bt385.1 = t379 then (some bt385.2) else (none)) else (none))) else (none)) else (none)) else (if t379 = 0 then (some true) else (none))) else (none)))) = some r:=by rw [if_pos rfl] at H;exact H);clear H;(have H:=H1);clear H1;replace H:=be_ H;obtain ⟨⟨t385,t386⟩,A190,H⟩:=H;replace H : ((railplanlaw25_awake.f kj15).bind fun t387 => (if t387 = true then (if t380 = true then (if t379 ≥ 0 then (if t379 ≤ t378 then ((railplanref24_Enters.f kj15 t371 t374 (wrap64 (t377 + t379))).bind fun t388 => (if t388 = true then (if t385 = t379 then (some t386) else (none)) else (none))) else (none)) else (none)) else (if t379 = 0 then (some true) else (none))) else (none))) = some r:=H;(have A19:=am_ A190);clear A190;replace H:=be_ H;obtain ⟨t387,A200,H⟩:=H;replace H : (if t387 = true then (if t380 = true then (if t379 ≥ 0 then (if t379 ≤ t378 then ((railplanref24_Enters.f kj15 t371 t374 (wrap64 (t377 + t379))).bind fun t388 => (if t388 = true then (if t385 = t379 then (some t386) else (none)) else (none))) else (none)) else (none)) else (if t379 = 0 then (some true) else (none))) else (none)) = some r:=H;(have A20:=am_ A200);clear A200
       by_cases c21 : t387 = true
       ·subst c21
        (have H1 : (if t380 = true then (if t379 ≥ 0 then (if t379 ≤ t378 then ((railplanref24_Enters.f kj15 t371 t374 (wrap64 (t377 + t379))).bind fun t388 => (if t388 = true then (if t385 = t379 then (some t386) else (none)) else (none))) else (none)) else (none)) else (if t379 = 0 then (some true) else (none))) = some r:=by rw [if_pos rfl] at H;exact H);clear H;(have H:=H1);clear H1
        by_cases c22 : t380 = true
        ·subst c22
         (have H1 : (if t379 ≥ 0 then (if t379 ≤ t378 then ((railplanref24_Enters.f kj15 t371 t374 (wrap64 (t377 + t379))).bind fun t388 => (if t388 = true then (if t385 = t379 then (some t386) else (none)) else (none))) else (none)) else (none)) = some r:=by rw [if_pos rfl] at H;exact H);clear H;(have H:=H1);clear H1
         by_cases c23 : t379 ≥ 0
         ·rw [if_pos c23] at H
          (have c23b0:=decide_eq_true c23);clear c23
          by_cases c24 : t379 ≤ t378
          ·rw [if_pos c24] at H
           (have c24b0:=decide_eq_true c24);clear c24;replace H:=be_ H;obtain ⟨t388,A250,H⟩:=H;replace H : (if t388 = true then (if t385 = t379 then (some t386) else (none)) else (none)) = some r:=H;(have A25:=am_ A250);clear A250
           by_cases c26 : t388 = true
           ·subst c26
            (have H1 : (if t385 = t379 then (some t386) else (none)) = some r:=by rw [if_pos rfl] at H;exact H);clear H;(have H:=H1);clear H1
            by_cases c27 : t385 = t379
            (·rw [if_pos c27] at H;((have c27b0 : (t385 == t379) = true:=beq_iff_eq.mpr c27);(have c27b1 : (t385 != t379) = false:=bne_eq_false_iff_eq.mpr c27);clear c27;obtain rfl:=Option.some.inj H;(go_wp2_with (first|((with_reducible refine gc_ (f:=22) rfl ?_);refine goesL_ (some 57) rfl rfl Try.func22 (by kernel_rfl) rfl #[.slice Ao12 t371.length co12,.slice Ao13 t374.length co13,.int .i64 t377,.int .i64 (wrap64 (t378 + 1))] rfl (by (try simp only [List.map_toArray,List.map_cons,List.map_nil]);first|done|rfl|(simp only [List.length_drop,List.length_take];rfl)) ?_;(with_reducible refine (closure_Earliest.calls kj15 _ _ t371 _ _ t374 t377 (wrap64 (t378 + 1)) t385 t386 _ ?side1 ?side2 ?side3 ?side4 A19.out).mono ?_);(case side1 => repeat (first|exact (RR_ HO_9.out).2.2|(with_reducible first|refine CA_ ?_ _|refine CN_ ?_ _|refine CD_ ?_)));(case side2 => exact (RR_ HO_9.out).2.1);(case side3 => repeat (first|exact (RR_ HO_10.out).2.2|(with_reducible first|refine CA_ ?_ _|refine CN_ ?_ _|refine CD_ ?_)));(case side4 => exact (RR_ HO_10.out).2.1);rintro e w28 ⟨rfl,hb⟩;refine ⟨_,rfl,?_⟩;have n0_:=am_ (RB_ (by (with_reducible repeat (first|apply RA_|apply RN_|apply RD_));exact HO_9.out) hb);have n1_:=am_ (RB_ (by (with_reducible repeat (first|apply RA_|apply RN_|apply RD_));exact HO_10.out) hb);have n2_:=am_ (bs_ (by repeat (first|(with_reducible first|exact HB.out|apply bA_|apply bN_|apply b1_)|exact HB.out)) hb);clear HO_9;clear HO_10;clear HB;have HO_9:=n0_;have HO_10:=n1_;have HB:=n2_;clear n0_ n1_ n2_;(try clear hb);(try clear hb2);(try clear hk);(try clear hi))|((with_reducible refine gc_ (f:=14) rfl ?_);refine goesL_ (some 60) rfl rfl Try.func14 (by kernel_rfl) rfl #[] rfl (by (try simp only [List.map_toArray,List.map_cons,List.map_nil]);first|done|rfl|(simp only [List.length_drop,List.length_take];rfl)) ?_;(with_reducible refine (railplanlaw25_awake.calls kj15  true _ A20.out).mono ?_);rintro e w29 ⟨rfl,hb⟩;refine ⟨_,rfl,?_⟩;have n0_:=am_ (RB_ (by (with_reducible repeat (first|apply RA_|apply RN_|apply RD_));exact HO_9.out) hb);have n1_:=am_ (RB_ (by (with_reducible repeat (first|apply RA_|apply RN_|apply RD_));exact HO_10.out) hb);have n2_:=am_ (bs_ (by repeat (first|(with_reducible first|exact HB.out|apply bA_|apply bN_|apply b1_)|exact HB.out)) hb);clear HO_9;clear HO_10;clear HB;have HO_9:=n0_;have HO_10:=n1_;have HB:=n2_;clear n0_ n1_ n2_;(try clear hb);(try clear hb2);(try clear hk);(try clear hi))|(go_at_call 27;(with_reducible refine (railplanref24_Enters.calls kj15 _ _ t371 _ _ t374 (wrap64 (t377 + t379)) true _ ?side1 ?side2 ?side3 ?side4 A25.out).mono ?_);(case side1 => repeat (first|exact (RR_ HO_9.out).2.2|(with_reducible first|refine CA_ ?_ _|refine CN_ ?_ _|refine CD_ ?_)));(case side2 => exact (RR_ HO_9.out).2.1);(case side3 => repeat (first|exact (RR_ HO_10.out).2.2|(with_reducible first|refine CA_ ?_ _|refine CN_ ?_ _|refine CD_ ?_)));(case side4 => exact (RR_ HO_10.out).2.1);rintro e w30 ⟨rfl,hb⟩;have n0_:=am_ (RB_ (by (with_reducible repeat (first|apply RA_|apply RN_|apply RD_));exact HO_9.out) hb);have n1_:=am_ (RB_ (by (with_reducible repeat (first|apply RA_|apply RN_|apply RD_));exact HO_10.out) hb);have n2_:=am_ (bs_ (by repeat (first|(with_reducible first|exact HB.out|apply bA_|apply bN_|apply b1_)|exact HB.out)) hb);clear HO_9;clear HO_10;clear HB;have HO_9:=n0_;have HO_10:=n1_;have HB:=n2_;clear n0_ n1_ n2_;(try clear hb);(try clear hb2);(try clear hk);(try clear hi))));(go_ret);(exact ⟨by first|rfl|(simp [errW_none,errW_some] <;> rfl)|(simp [*,errW_none,errW_some] <;> rfl),by repeat (first|(with_reducible first|exact HB.out|apply bA_|apply bN_|apply b1_)|exact HB.out)⟩)));(·rw [if_neg c27] at H;(simp at H))
           ·replace c26:=Bool.eq_false_iff.mpr c26;subst c26;(have H1 : (none) = some r:=by rw [if_neg (show ¬ (false = true) by decide)] at H;exact H);clear H;(have H:=H1);clear H1;(simp at H)
          ·rw [if_neg c24] at H;(simp at H)
         ·rw [if_neg c23] at H;(simp at H)
        ·replace c22:=Bool.eq_false_iff.mpr c22
         subst c22;(have H1 : (if t379 = 0 then (some true) else (none)) = some r:=by rw [if_neg (show ¬ (false = true) by decide)] at H;exact H);clear H;(have H:=H1);clear H1
         by_cases c31 : t379 = 0
         (·rw [if_pos c31] at H;((have c31b0 : (t379 == 0) = true:=beq_iff_eq.mpr c31);(have c31b1 : (t379 != 0) = false:=bne_eq_false_iff_eq.mpr c31);clear c31;obtain rfl:=Option.some.inj H;(go_wp2_with (first|((with_reducible refine gc_ (f:=22) rfl ?_);refine goesL_ (some 57) rfl rfl Try.func22 (by kernel_rfl) rfl #[.slice Ao12 t371.length co12,.slice Ao13 t374.length co13,.int .i64 t377,.int .i64 (wrap64 (t378 + 1))] rfl (by (try simp only [List.map_toArray,List.map_cons,List.map_nil]);first|done|rfl|(simp only [List.length_drop,List.length_take];rfl)) ?_;(with_reducible refine (closure_Earliest.calls kj15 _ _ t371 _ _ t374 t377 (wrap64 (t378 + 1)) t385 t386 _ ?side1 ?side2 ?side3 ?side4 A19.out).mono ?_);(case side1 => repeat (first|exact (RR_ HO_9.out).2.2|(with_reducible first|refine CA_ ?_ _|refine CN_ ?_ _|refine CD_ ?_)));(case side2 => exact (RR_ HO_9.out).2.1);(case side3 => repeat (first|exact (RR_ HO_10.out).2.2|(with_reducible first|refine CA_ ?_ _|refine CN_ ?_ _|refine CD_ ?_)));(case side4 => exact (RR_ HO_10.out).2.1);rintro e w32 ⟨rfl,hb⟩;refine ⟨_,rfl,?_⟩;have n0_:=am_ (RB_ (by (with_reducible repeat (first|apply RA_|apply RN_|apply RD_));exact HO_9.out) hb);have n1_:=am_ (RB_ (by (with_reducible repeat (first|apply RA_|apply RN_|apply RD_));exact HO_10.out) hb);have n2_:=am_ (bs_ (by repeat (first|(with_reducible first|exact HB.out|apply bA_|apply bN_|apply b1_)|exact HB.out)) hb);clear HO_9;clear HO_10;clear HB;have HO_9:=n0_;have HO_10:=n1_;have HB:=n2_;clear n0_ n1_ n2_;(try clear hb);(try clear hb2);(try clear hk);(try clear hi))|((with_reducible refine gc_ (f:=14) rfl ?_);refine goesL_ (some 60) rfl rfl Try.func14 (by kernel_rfl) rfl #[] rfl (by (try simp only [List.map_toArray,List.map_cons,List.map_nil]);first|done|rfl|(simp only [List.length_drop,List.length_take];rfl)) ?_;(with_reducible refine (railplanlaw25_awake.calls kj15  true _ A20.out).mono ?_);rintro e w33 ⟨rfl,hb⟩;refine ⟨_,rfl,?_⟩;have n0_:=am_ (RB_ (by (with_reducible repeat (first|apply RA_|apply RN_|apply RD_));exact HO_9.out) hb);have n1_:=am_ (RB_ (by (with_reducible repeat (first|apply RA_|apply RN_|apply RD_));exact HO_10.out) hb);have n2_:=am_ (bs_ (by repeat (first|(with_reducible first|exact HB.out|apply bA_|apply bN_|apply b1_)|exact HB.out)) hb);clear HO_9;clear HO_10;clear HB;have HO_9:=n0_;have HO_10:=n1_;have HB:=n2_;clear n0_ n1_ n2_;(try clear hb);(try clear hb2);(try clear hk);(try clear hi))));(go_ret);(exact ⟨by first|rfl|(simp [errW_none,errW_some] <;> rfl)|(simp [*,errW_none,errW_some] <;> rfl),by repeat (first|(with_reducible first|exact HB.out|apply bA_|apply bN_|apply b1_)|exact HB.out)⟩)));(·rw [if_neg c31] at H;(simp at H))
       ·replace c21:=Bool.eq_false_iff.mpr c21;subst c21;(have H1 : (none) = some r:=by rw [if_neg (show ¬ (false = true) by decide)] at H;exact H);clear H;(have H:=H1);clear H1;(simp at H)
      ·replace c18:=Bool.eq_false_iff.mpr c18
       subst c18;(have H1 : ((closure_Enters.f kj15 t371 t374 (wrap64 (t377 + x15_1))).bind fun t389 => (if t389 = true then (none) else (railplanlaw25_ClosureEarliest.l0 kj15 t371 t374 t377 t378 t379 t380 (wrap64 (x15_1 + 1))))) = some r:=by rw [if_neg (show ¬ (false = true) by decide)] at H;exact H);clear H;(have H:=H1);clear H1;replace H:=be_ H;obtain ⟨t389,A340,H⟩:=H;replace H : (if t389 = true then (none) else (railplanlaw25_ClosureEarliest.l0 kj15 t371 t374 t377 t378 t379 t380 (wrap64 (x15_1 + 1)))) = some r:=H;(have A34:=am_ A340);clear A340
       by_cases c35 : t389 = true
       ·subst c35;((have H1 : (none) = some r:=by rw [if_pos rfl] at H;exact H);clear H;(have H:=H1);clear H1;(simp at H))
       ·replace c35:=Bool.eq_false_iff.mpr c35
        subst c35;(have H1 : (railplanlaw25_ClosureEarliest.l0 kj15 t371 t374 t377 t378 t379 t380 (wrap64 (x15_1 + 1))) = some r:=by rw [if_neg (show ¬ (false = true) by decide)] at H;exact H);clear H;(have H:=H1);clear H1;(have H':=am_ H);clear H;(go_wp2_with (first|((with_reducible refine gc_ (f:=21) rfl ?_);refine goesL_ (some 50) rfl rfl Try.func21 (by kernel_rfl) rfl #[.slice Ao12 t371.length co12,.slice Ao13 t374.length co13,.int .i64 (wrap64 (t377 + x15_1))] rfl (by (try simp only [List.map_toArray,List.map_cons,List.map_nil]);first|done|rfl|(simp only [List.length_drop,List.length_take];rfl)) ?_;(with_reducible refine (closure_Enters.calls kj15 _ _ t371 _ _ t374 (wrap64 (t377 + x15_1)) false _ ?side1 ?side2 ?side3 ?side4 A34.out).mono ?_);(case side1 => repeat (first|exact (RR_ HO_9.out).2.2|(with_reducible first|refine CA_ ?_ _|refine CN_ ?_ _|refine CD_ ?_)));(case side2 => exact (RR_ HO_9.out).2.1);(case side3 => repeat (first|exact (RR_ HO_10.out).2.2|(with_reducible first|refine CA_ ?_ _|refine CN_ ?_ _|refine CD_ ?_)));(case side4 => exact (RR_ HO_10.out).2.1);rintro e w36 ⟨rfl,hb⟩;refine ⟨_,rfl,?_⟩;have n0_:=am_ (RB_ (by (with_reducible repeat (first|apply RA_|apply RN_|apply RD_));exact HO_9.out) hb);have n1_:=am_ (RB_ (by (with_reducible repeat (first|apply RA_|apply RN_|apply RD_));exact HO_10.out) hb);have n2_:=am_ (bs_ (by repeat (first|(with_reducible first|exact HB.out|apply bA_|apply bN_|apply b1_)|exact HB.out)) hb);clear HO_9;clear HO_10;clear HB;have HO_9:=n0_;have HO_10:=n1_;have HB:=n2_;clear n0_ n1_ n2_;(try clear hb);(try clear hb2);(try clear hk);(try clear hi))));(go_roundg kj15)
        case measure => have:=HK1.out;have:=HJ15.out;omega
        case rel => exact ⟨(wrap64 (x15_1 + 1)),(by first|rfl|(simp;done)|(simp [*];done)),H',⟨by have:=HK1.out;have:=HJ15.out;omega⟩,⟨by (with_reducible repeat (first|apply RA_|apply RN_|apply RD_));exact HO_9.out⟩,⟨by (with_reducible repeat (first|apply RA_|apply RN_|apply RD_));exact HO_10.out⟩,⟨by repeat (first|(with_reducible first|exact HB.out|apply bA_|apply bN_|apply b1_)|exact HB.out)⟩⟩
   ·rw [if_neg c15] at H
    (have c15b0:=decide_eq_false c15);clear c15;replace H:=be_ H;obtain ⟨⟨t381,t382⟩,A370,H⟩:=H;replace H : ((railplanlaw25_awake.f k1).bind fun t383 => (if t383 = true then (if t380 = true then (if t379 ≥ 0 then (if t379 ≤ t378 then ((railplanref24_Enters.f k1 t371 t374 (wrap64 (t377 + t379))).bind fun t384 => (if t384 = true then (if t381 = t379 then (some t382) else (none)) else (none))) else (none)) else (none)) else (if t379 = 0 then (some true) else (none))) else (none))) = some r:=H;(have A37:=am_ A370);clear A370;replace H:=be_ H;obtain ⟨t383,A380,H⟩:=H;replace H : (if t383 = true then (if t380 = true then (if t379 ≥ 0 then (if t379 ≤ t378 then ((railplanref24_Enters.f k1 t371 t374 (wrap64 (t377 + t379))).bind fun t384 => (if t384 = true then (if t381 = t379 then (some t382) else (none)) else (none))) else (none)) else (none)) else (if t379 = 0 then (some true) else (none))) else (none)) = some r:=H;(have A38:=am_ A380);clear A380
    by_cases c39 : t383 = true
    ·subst c39
     (have H1 : (if t380 = true then (if t379 ≥ 0 then (if t379 ≤ t378 then ((railplanref24_Enters.f k1 t371 t374 (wrap64 (t377 + t379))).bind fun t384 => (if t384 = true then (if t381 = t379 then (some t382) else (none)) else (none))) else (none)) else (none)) else (if t379 = 0 then (some true) else (none))) = some r:=by rw [if_pos rfl] at H;exact H);clear H;(have H:=H1);clear H1
     by_cases c40 : t380 = true
     ·subst c40
      (have H1 : (if t379 ≥ 0 then (if t379 ≤ t378 then ((railplanref24_Enters.f k1 t371 t374 (wrap64 (t377 + t379))).bind fun t384 => (if t384 = true then (if t381 = t379 then (some t382) else (none)) else (none))) else (none)) else (none)) = some r:=by rw [if_pos rfl] at H;exact H);clear H;(have H:=H1);clear H1
      by_cases c41 : t379 ≥ 0
      ·rw [if_pos c41] at H
       (have c41b0:=decide_eq_true c41);clear c41
       by_cases c42 : t379 ≤ t378
       ·rw [if_pos c42] at H
        (have c42b0:=decide_eq_true c42);clear c42;replace H:=be_ H;obtain ⟨t384,A430,H⟩:=H;replace H : (if t384 = true then (if t381 = t379 then (some t382) else (none)) else (none)) = some r:=H;(have A43:=am_ A430);clear A430
        by_cases c44 : t384 = true
        ·subst c44
         (have H1 : (if t381 = t379 then (some t382) else (none)) = some r:=by rw [if_pos rfl] at H;exact H);clear H;(have H:=H1);clear H1
         by_cases c45 : t381 = t379
         (·rw [if_pos c45] at H;((have c45b0 : (t381 == t379) = true:=beq_iff_eq.mpr c45);(have c45b1 : (t381 != t379) = false:=bne_eq_false_iff_eq.mpr c45);clear c45;obtain rfl:=Option.some.inj H;(go_wp2_with (first|((with_reducible refine gc_ (f:=22) rfl ?_);refine goesL_ (some 57) rfl rfl Try.func22 (by kernel_rfl) rfl #[.slice Ao12 t371.length co12,.slice Ao13 t374.length co13,.int .i64 t377,.int .i64 (wrap64 (t378 + 1))] rfl (by (try simp only [List.map_toArray,List.map_cons,List.map_nil]);first|done|rfl|(simp only [List.length_drop,List.length_take];rfl)) ?_;(with_reducible refine (closure_Earliest.calls k1 _ _ t371 _ _ t374 t377 (wrap64 (t378 + 1)) t381 t382 _ ?side1 ?side2 ?side3 ?side4 A37.out).mono ?_);(case side1 => repeat (first|exact (RR_ HO_9.out).2.2|(with_reducible first|refine CA_ ?_ _|refine CN_ ?_ _|refine CD_ ?_)));(case side2 => exact (RR_ HO_9.out).2.1);(case side3 => repeat (first|exact (RR_ HO_10.out).2.2|(with_reducible first|refine CA_ ?_ _|refine CN_ ?_ _|refine CD_ ?_)));(case side4 => exact (RR_ HO_10.out).2.1);rintro e w46 ⟨rfl,hb⟩;refine ⟨_,rfl,?_⟩;have n0_:=am_ (RB_ (by (with_reducible repeat (first|apply RA_|apply RN_|apply RD_));exact HO_9.out) hb);have n1_:=am_ (RB_ (by (with_reducible repeat (first|apply RA_|apply RN_|apply RD_));exact HO_10.out) hb);have n2_:=am_ (bs_ (by repeat (first|(with_reducible first|exact HB.out|apply bA_|apply bN_|apply b1_)|exact HB.out)) hb);clear HO_9;clear HO_10;clear HB;have HO_9:=n0_;have HO_10:=n1_;have HB:=n2_;clear n0_ n1_ n2_;(try clear hb);(try clear hb2);(try clear hk);(try clear hi))|((with_reducible refine gc_ (f:=14) rfl ?_);refine goesL_ (some 60) rfl rfl Try.func14 (by kernel_rfl) rfl #[] rfl (by (try simp only [List.map_toArray,List.map_cons,List.map_nil]);first|done|rfl|(simp only [List.length_drop,List.length_take];rfl)) ?_;(with_reducible refine (railplanlaw25_awake.calls k1  true _ A38.out).mono ?_);rintro e w47 ⟨rfl,hb⟩;refine ⟨_,rfl,?_⟩;have n0_:=am_ (RB_ (by (with_reducible repeat (first|apply RA_|apply RN_|apply RD_));exact HO_9.out) hb);have n1_:=am_ (RB_ (by (with_reducible repeat (first|apply RA_|apply RN_|apply RD_));exact HO_10.out) hb);have n2_:=am_ (bs_ (by repeat (first|(with_reducible first|exact HB.out|apply bA_|apply bN_|apply b1_)|exact HB.out)) hb);clear HO_9;clear HO_10;clear HB;have HO_9:=n0_;have HO_10:=n1_;have HB:=n2_;clear n0_ n1_ n2_;(try clear hb);(try clear hb2);(try clear hk);(try clear hi))|(go_at_call 27;(with_reducible refine (railplanref24_Enters.calls k1 _ _ t371 _ _ t374 (wrap64 (t377 + t379)) true _ ?side1 ?side2 ?side3 ?side4 A43.out).mono ?_);(case side1 => repeat (first|exact (RR_ HO_9.out).2.2|(with_reducible first|refine CA_ ?_ _|refine CN_ ?_ _|refine CD_ ?_)));(case side2 => exact (RR_ HO_9.out).2.1);(case side3 => repeat (first|exact (RR_ HO_10.out).2.2|(with_reducible first|refine CA_ ?_ _|refine CN_ ?_ _|refine CD_ ?_)));(case side4 => exact (RR_ HO_10.out).2.1);rintro e w48 ⟨rfl,hb⟩;have n0_:=am_ (RB_ (by (with_reducible repeat (first|apply RA_|apply RN_|apply RD_));exact HO_9.out) hb);have n1_:=am_ (RB_ (by (with_reducible repeat (first|apply RA_|apply RN_|apply RD_));exact HO_10.out) hb);have n2_:=am_ (bs_ (by repeat (first|(with_reducible first|exact HB.out|apply bA_|apply bN_|apply b1_)|exact HB.out)) hb);clear HO_9;clear HO_10;clear HB;have HO_9:=n0_;have HO_10:=n1_;have HB:=n2_;clear n0_ n1_ n2_;(try clear hb);(try clear hb2);(try clear hk);(try clear hi))));(go_ret);(exact ⟨by first|rfl|(simp [errW_none,errW_some] <;> rfl)|(simp [*,errW_none,errW_some] <;> rfl),by repeat (first|(with_reducible first|exact HB.out|apply bA_|apply bN_|apply b1_)|exact HB.out)⟩)));(·rw [if_neg c45] at H;(simp at H))
        ·replace c44:=Bool.eq_false_iff.mpr c44;subst c44;(have H1 : (none) = some r:=by rw [if_neg (show ¬ (false = true) by decide)] at H;exact H);clear H;(have H:=H1);clear H1;(simp at H)
       ·rw [if_neg c42] at H;(simp at H)
      ·rw [if_neg c41] at H;(simp at H)
     ·replace c40:=Bool.eq_false_iff.mpr c40
      subst c40;(have H1 : (if t379 = 0 then (some true) else (none)) = some r:=by rw [if_neg (show ¬ (false = true) by decide)] at H;exact H);clear H;(have H:=H1);clear H1
      by_cases c49 : t379 = 0
      (·rw [if_pos c49] at H;((have c49b0 : (t379 == 0) = true:=beq_iff_eq.mpr c49);(have c49b1 : (t379 != 0) = false:=bne_eq_false_iff_eq.mpr c49);clear c49;obtain rfl:=Option.some.inj H;(go_wp2_with (first|((with_reducible refine gc_ (f:=22) rfl ?_);refine goesL_ (some 57) rfl rfl Try.func22 (by kernel_rfl) rfl #[.slice Ao12 t371.length co12,.slice Ao13 t374.length co13,.int .i64 t377,.int .i64 (wrap64 (t378 + 1))] rfl (by (try simp only [List.map_toArray,List.map_cons,List.map_nil]);first|done|rfl|(simp only [List.length_drop,List.length_take];rfl)) ?_;(with_reducible refine (closure_Earliest.calls k1 _ _ t371 _ _ t374 t377 (wrap64 (t378 + 1)) t381 t382 _ ?side1 ?side2 ?side3 ?side4 A37.out).mono ?_);(case side1 => repeat (first|exact (RR_ HO_9.out).2.2|(with_reducible first|refine CA_ ?_ _|refine CN_ ?_ _|refine CD_ ?_)));(case side2 => exact (RR_ HO_9.out).2.1);(case side3 => repeat (first|exact (RR_ HO_10.out).2.2|(with_reducible first|refine CA_ ?_ _|refine CN_ ?_ _|refine CD_ ?_)));(case side4 => exact (RR_ HO_10.out).2.1);rintro e w50 ⟨rfl,hb⟩;refine ⟨_,rfl,?_⟩;have n0_:=am_ (RB_ (by (with_reducible repeat (first|apply RA_|apply RN_|apply RD_));exact HO_9.out) hb);have n1_:=am_ (RB_ (by (with_reducible repeat (first|apply RA_|apply RN_|apply RD_));exact HO_10.out) hb);have n2_:=am_ (bs_ (by repeat (first|(with_reducible first|exact HB.out|apply bA_|apply bN_|apply b1_)|exact HB.out)) hb);clear HO_9;clear HO_10;clear HB;have HO_9:=n0_;have HO_10:=n1_;have HB:=n2_;clear n0_ n1_ n2_;(try clear hb);(try clear hb2);(try clear hk);(try clear hi))|((with_reducible refine gc_ (f:=14) rfl ?_);refine goesL_ (some 60) rfl rfl Try.func14 (by kernel_rfl) rfl #[] rfl (by (try simp only [List.map_toArray,List.map_cons,List.map_nil]);first|done|rfl|(simp only [List.length_drop,List.length_take];rfl)) ?_;(with_reducible refine (railplanlaw25_awake.calls k1  true _ A38.out).mono ?_);rintro e w51 ⟨rfl,hb⟩;refine ⟨_,rfl,?_⟩;have n0_:=am_ (RB_ (by (with_reducible repeat (first|apply RA_|apply RN_|apply RD_));exact HO_9.out) hb);have n1_:=am_ (RB_ (by (with_reducible repeat (first|apply RA_|apply RN_|apply RD_));exact HO_10.out) hb);have n2_:=am_ (bs_ (by repeat (first|(with_reducible first|exact HB.out|apply bA_|apply bN_|apply b1_)|exact HB.out)) hb);clear HO_9;clear HO_10;clear HB;have HO_9:=n0_;have HO_10:=n1_;have HB:=n2_;clear n0_ n1_ n2_;(try clear hb);(try clear hb2);(try clear hk);(try clear hi))));(go_ret);(exact ⟨by first|rfl|(simp [errW_none,errW_some] <;> rfl)|(simp [*,errW_none,errW_some] <;> rfl),by repeat (first|(with_reducible first|exact HB.out|apply bA_|apply bN_|apply b1_)|exact HB.out)⟩)));(·rw [if_neg c49] at H;(simp at H))
    ·replace c39:=Bool.eq_false_iff.mpr c39;subst c39;(have H1 : (none) = some r:=by rw [if_neg (show ¬ (false = true) by decide)] at H;exact H);clear H;(have H:=H1);clear H1;(simp at H)

/-- THE ONE PURE STATEMENT of railplanlaw25_ClosureEarliest: yours. -/
def railplanlaw25_ClosureEarliest.Pure : Prop:=∀ (l0 : List Int) (l1 : List Int) (a2 : Int) (a3 : Int),l0.length ≤ maxLen → l0.length * 8 ≤ 140737488351232 → (∀ x ∈ l0,(Lit.int .i64 x).wf = true) → l1.length ≤ maxLen → l1.length * 8 ≤ 140737488351232 → (∀ x ∈ l1,(Lit.int .i64 x).wf = true) → (Lit.int .i64 a2).wf = true → (Lit.int .i64 a3).wf = true → ∃ k,railplanlaw25_ClosureEarliest.f k l0 l1 a2 a3 = some true
theorem railplanlaw25_ClosureEarliest.walk (P : railplanlaw25_ClosureEarliest.Pure) (a0 : Option Addr) (len0 cap0 : Nat) (z0 : List Int) (a1 : Option Addr) (len1 cap1 : Nat) (z1 : List Int) (a2 : Int) (a3 : Int) (w : World) (w0 : (a0 = none ∧ len0 = 0 ∧ cap0 = 0 ∧ z0 = []) ∨ ∃ x,a0 = some x ∧ len0 ≤ cap0 ∧ cap0 ≤ maxLen ∧ z0.length = cap0 ∧ (∀ i,i < z0.length → w.cell? (x.add i) = some (.int .i64 (z0.getD i 0))) ∧ ∀ n ∈ z0,(Lit.int .i64 n).wf = true) (y0 : len0 * 8 ≤ 140737488351232) (w1 : (a1 = none ∧ len1 = 0 ∧ cap1 = 0 ∧ z1 = []) ∨ ∃ x,a1 = some x ∧ len1 ≤ cap1 ∧ cap1 ≤ maxLen ∧ z1.length = cap1 ∧ (∀ i,i < z1.length → w.cell? (x.add i) = some (.int .i64 (z1.getD i 0))) ∧ ∀ n ∈ z1,(Lit.int .i64 n).wf = true) (y1 : len1 * 8 ≤ 140737488351232) (w2 : (Lit.int .i64 a2).wf = true) (w3 : (Lit.int .i64 a3).wf = true) :
  Calls Try.prog 10 #[.slice a0 len0 cap0,.slice a1 len1 cap1,.int .i64 a2,.int .i64 a3] w fun e w' => e = .returned (.bool true) ∧ Below w.heap.size w w':=by
 obtain ⟨l0,rfl,hr0,hm0,hw0,hc0⟩:=ReadsInt.ofRowC w0
 obtain ⟨l1,rfl,hr1,hm1,hw1,hc1⟩:=ReadsInt.ofRowC w1
 obtain ⟨k,h⟩:=P l0 l1 a2 a3 hm0 y0 hw0 hm1 y1 hw1 w2 w3
 refine (railplanlaw25_ClosureEarliest.calls k _ _ l0 _ _ l1 a2 a3 true w (Kd.C_of_reads (d:=(0 : Int)) (h1:=fun _ => rfl) hr0) hc0 (Kd.C_of_reads (d:=(0 : Int)) (h1:=fun _ => rfl) hr1) hc1 h).mono ?_
 rintro e w' ⟨rfl,hd⟩
 exact ⟨rfl,hd⟩
end Go.Proofs.Ytiohandkjjmemaa.PAll
