-- Packed by wip/tools/pack.py of this session out of what plugprint.py and the kit's print wrote. Lean checks it.
import Derived.Test.YtiohandkjjmemaaKS
import Derived.Test.YtiohandkjjmemaaK0
import Derived.Test.YtiohandkjjmemaaK1
import Derived.Test.YtiohandkjjmemaaK7
import Derived.Test.YtiohandkjjmemaaK8
import Derived.Test.YtiohandkjjmemaaK10
import Derived.Test.YtiohandkjjmemaaK12
namespace Go.Proofs.Ytiohandkjjmemaa.PAll
open Go.RowKit Go.Proofs.YtiohandkjjmemaaW.PrintWords Go.Proofs.YtiohandkjjmemaaW.PrintLast Go.Proofs.YtiohandkjjmemaaW.PrintMore
attribute [local go_sem] max2_int min2_int max_two min_two max_three min_three max_four min_four
set_option linter.unusedVariables false
set_option linter.unusedSimpArgs false
/-! ### railplanlaw25_ClosureNext: function 5 -/
mutual
def railplanlaw25_ClosureNext.l0 : Nat → List (S27) → Int → Int → Option (Bool)
 | 0,_,_,_ => none
 | k + 1,x5,x6,x7 => if x7 < 6 then ((closure_Next.f k x5 x7 x6).bind fun t251 => (if t251 < x6 then (railplanlaw25_ClosureNext.j1 k x5 x6 x7 t251 true) else (if t251 > 95 then (railplanlaw25_ClosureNext.j1 k x5 x6 x7 t251 true) else ((closure_Open.f k x5 x7 t251).bind fun t252 => (railplanlaw25_ClosureNext.j1 k x5 x6 x7 t251 (!t252)))))) else ((railplanlaw25_awake.f k).bind fun t250 => (some t250))
def railplanlaw25_ClosureNext.j1 : Nat → List (S27) → Int → Int → Int → Bool → Option (Bool)
 | 0,_,_,_,_,_ => none
 | k + 1,x5,x6,x7,x8,x35 => if x35 = true then (none) else (railplanlaw25_ClosureNext.l1 k x5 x6 x7 x8 x6)
def railplanlaw25_ClosureNext.l1 : Nat → List (S27) → Int → Int → Int → Int → Option (Bool)
 | 0,_,_,_,_,_ => none
 | k + 1,x5,x6,x7,x8,x9 => if x9 < x8 then ((closure_Open.f k x5 x7 x9).bind fun t253 => (if t253 = true then (none) else ((railplanref24_Open.f k x5 x7 x9).bind fun t254 => (if t254 = true then (none) else (railplanlaw25_ClosureNext.l1 k x5 x6 x7 x8 (wrap64 (x9 + 1))))))) else (railplanlaw25_ClosureNext.l0 k x5 x6 (wrap64 (x7 + 1)))
end
def railplanlaw25_ClosureNext.f (k : Nat) (l0 : List Int) (a1 : Int) : Option (Bool):=(railplankeep2_Closures.f k l0).bind fun t246 => ((railplankeep_Pick.f a1 95).bind fun t249 => (railplanlaw25_ClosureNext.l0 k t246 t249 0))
theorem railplanlaw25_ClosureNext.mono_l : ∀ k,(∀ y0 y1 y2,LeO (railplanlaw25_ClosureNext.l0 k y0 y1 y2) (railplanlaw25_ClosureNext.l0 (k + 1) y0 y1 y2)) ∧ (∀ y0 y1 y2 y3 y4,LeO (railplanlaw25_ClosureNext.j1 k y0 y1 y2 y3 y4) (railplanlaw25_ClosureNext.j1 (k + 1) y0 y1 y2 y3 y4)) ∧ (∀ y0 y1 y2 y3 y4,LeO (railplanlaw25_ClosureNext.l1 k y0 y1 y2 y3 y4) (railplanlaw25_ClosureNext.l1 (k + 1) y0 y1 y2 y3 y4))
 | 0 => ⟨fun _ _ _ r h => by simp [railplanlaw25_ClosureNext.l0] at h,fun _ _ _ _ _ r h => by simp [railplanlaw25_ClosureNext.j1] at h,fun _ _ _ _ _ r h => by simp [railplanlaw25_ClosureNext.l1] at h⟩
 | k + 1 => by
  obtain ⟨ih0,ih1,ih2⟩:=railplanlaw25_ClosureNext.mono_l k;refine ⟨?_,?_,?_⟩
  ·intro y0 y1 y2
   unfold railplanlaw25_ClosureNext.l0
   repeat' first
   | (with_reducible exact ih0 _ _ _)
   | (with_reducible exact ih1 _ _ _ _ _)
   | (with_reducible exact ih2 _ _ _ _ _)
   | (with_reducible exact closure_Next.mono _ _ _ _)
   | (with_reducible exact closure_Open.mono _ _ _ _)
   | (with_reducible exact railplankeep2_Closures.mono _ _)
   | (with_reducible exact railplanlaw25_awake.mono _)
   | (with_reducible exact railplanref24_Open.mono _ _ _ _)
   | (with_reducible exact LeO.refl _)
   | (with_reducible exact LeO.none _)
   | (with_reducible refine LeO.ite ?_ ?_)
   | (with_reducible refine LeO.bind ?_ (fun _ => ?_))
   | exact ih0 _ _ _
   | exact ih1 _ _ _ _ _
   | exact ih2 _ _ _ _ _
   | exact closure_Next.mono _ _ _ _
   | exact closure_Open.mono _ _ _ _
   | exact railplankeep2_Closures.mono _ _
   | exact railplanlaw25_awake.mono _
   | exact railplanref24_Open.mono _ _ _ _
   | exact LeO.none _
   | refine LeO.ite ?_ ?_
   | refine LeO.bind ?_ (fun _ => ?_)
  ·intro y0 y1 y2 y3 y4
   unfold railplanlaw25_ClosureNext.j1
   repeat' first
   | (with_reducible exact ih0 _ _ _)
   | (with_reducible exact ih1 _ _ _ _ _)
   | (with_reducible exact ih2 _ _ _ _ _)
   | (with_reducible exact closure_Next.mono _ _ _ _)
   | (with_reducible exact closure_Open.mono _ _ _ _)
   | (with_reducible exact railplankeep2_Closures.mono _ _)
   | (with_reducible exact railplanlaw25_awake.mono _)
   | (with_reducible exact railplanref24_Open.mono _ _ _ _)
   | (with_reducible exact LeO.refl _)
   | (with_reducible exact LeO.none _)
   | (with_reducible refine LeO.ite ?_ ?_)
   | (with_reducible refine LeO.bind ?_ (fun _ => ?_))
   | exact ih0 _ _ _
   | exact ih1 _ _ _ _ _
   | exact ih2 _ _ _ _ _
   | exact closure_Next.mono _ _ _ _
   | exact closure_Open.mono _ _ _ _
   | exact railplankeep2_Closures.mono _ _
   | exact railplanlaw25_awake.mono _
   | exact railplanref24_Open.mono _ _ _ _
   | exact LeO.none _
   | refine LeO.ite ?_ ?_
   | refine LeO.bind ?_ (fun _ => ?_)
  ·intro y0 y1 y2 y3 y4
   unfold railplanlaw25_ClosureNext.l1
   repeat' first
   | (with_reducible exact ih0 _ _ _)
   | (with_reducible exact ih1 _ _ _ _ _)
   | (with_reducible exact ih2 _ _ _ _ _)
   | (with_reducible exact closure_Next.mono _ _ _ _)
   | (with_reducible exact closure_Open.mono _ _ _ _)
   | (with_reducible exact railplankeep2_Closures.mono _ _)
   | (with_reducible exact railplanlaw25_awake.mono _)
   | (with_reducible exact railplanref24_Open.mono _ _ _ _)
   | (with_reducible exact LeO.refl _)
   | (with_reducible exact LeO.none _)
   | (with_reducible refine LeO.ite ?_ ?_)
   | (with_reducible refine LeO.bind ?_ (fun _ => ?_))
   | exact ih0 _ _ _
   | exact ih1 _ _ _ _ _
   | exact ih2 _ _ _ _ _
   | exact closure_Next.mono _ _ _ _
   | exact closure_Open.mono _ _ _ _
   | exact railplankeep2_Closures.mono _ _
   | exact railplanlaw25_awake.mono _
   | exact railplanref24_Open.mono _ _ _ _
   | exact LeO.none _
   | refine LeO.ite ?_ ?_
   | refine LeO.bind ?_ (fun _ => ?_)
theorem railplanlaw25_ClosureNext.mono : ∀ a0 a1 k,LeO (railplanlaw25_ClosureNext.f k a0 a1) (railplanlaw25_ClosureNext.f (k + 1) a0 a1):=by
 intro a0 a1 k;obtain ⟨ih0,ih1,ih2⟩:=railplanlaw25_ClosureNext.mono_l k;(unfold railplanlaw25_ClosureNext.f)
 repeat' first
   | (with_reducible exact ih0 _ _ _)
   | (with_reducible exact ih1 _ _ _ _ _)
   | (with_reducible exact ih2 _ _ _ _ _)
   | (with_reducible exact closure_Next.mono _ _ _ _)
   | (with_reducible exact closure_Open.mono _ _ _ _)
   | (with_reducible exact railplankeep2_Closures.mono _ _)
   | (with_reducible exact railplanlaw25_awake.mono _)
   | (with_reducible exact railplanref24_Open.mono _ _ _ _)
   | (with_reducible exact LeO.refl _)
   | (with_reducible exact LeO.none _)
   | (with_reducible refine LeO.ite ?_ ?_)
   | (with_reducible refine LeO.bind ?_ (fun _ => ?_))
   | exact ih0 _ _ _
   | exact ih1 _ _ _ _ _
   | exact ih2 _ _ _ _ _
   | exact closure_Next.mono _ _ _ _
   | exact closure_Open.mono _ _ _ _
   | exact railplankeep2_Closures.mono _ _
   | exact railplanlaw25_awake.mono _
   | exact railplanref24_Open.mono _ _ _ _
   | exact LeO.none _
   | refine LeO.ite ?_ ?_
   | refine LeO.bind ?_ (fun _ => ?_)
set_option maxHeartbeats 8000000 in
set_option maxRecDepth 100000 in
theorem railplanlaw25_ClosureNext.calls (k : Nat) (A0 : Option Addr) (c0 : Nat) (l0 : List Int) (a1 : Int) (r : Bool) (w : World) (hr0 : Kd.C (Kd.int .i64) w A0 l0.length l0) (hc0 : l0.length ≤ c0) (h : railplanlaw25_ClosureNext.f k l0 a1 = some r) :
  Calls Try.prog 5 #[.slice A0 l0.length c0,.int .i64 a1] w fun e w' => e = .returned (.bool r) ∧ Below w.heap.size w w':=by
 have HR0:=am_ hr0
 have HC0:=am_ hc0
 clear hr0 hc0
 have HB:=am_ (Below.refl w.heap.size w)
 have H : ((railplankeep2_Closures.f k l0).bind fun t246 => ((railplankeep_Pick.f a1 95).bind fun t249 => (railplanlaw25_ClosureNext.l0 k t246 t249 0))) = some r:=h
 clear h
 replace H:=be_ H
 obtain ⟨t246,A30,H⟩:=H
 replace H : ((railplankeep_Pick.f a1 95).bind fun t249 => (railplanlaw25_ClosureNext.l0 k t246 t249 0)) = some r:=H
 have A3:=am_ A30
 clear A30
 replace H:=be_ H
 obtain ⟨t249,A40,H⟩:=H
 replace H : (railplanlaw25_ClosureNext.l0 k t246 t249 0) = some r:=H
 have A4:=am_ A40
 clear A40
 have H':=am_ H
 clear H
 go_enter Try.func5,Try.ntmps5
 go_wp2_with (first|((with_reducible refine gc_ (f:=11) rfl ?_);refine goesL_ (some 11) rfl rfl Try.func11 (by kernel_rfl) rfl #[.slice A0 l0.length c0] rfl (by (try simp only [List.map_toArray,List.map_cons,List.map_nil]);first|done|rfl|(simp only [List.length_drop,List.length_take];rfl)) ?_;(with_reducible refine (railplankeep2_Closures.calls k _ _ l0 t246 _ ?side1 ?side2 A3.out).mono ?_);(case side1 => repeat (first|exact HR0.out|(with_reducible first|refine CA_ ?_ _|refine CN_ ?_ _|refine CD_ ?_)));(case side2 => exact HC0.out);rintro e w5 ⟨v247,rfl,ho0,hb⟩;refine ⟨_,rfl,?_⟩;have n0_:=am_ (RL_ ho0 (bz_ (by repeat (first|(with_reducible first|exact HB.out|apply bA_|apply bN_|apply b1_)|exact HB.out))));have n1_:=am_ (bs_ (by repeat (first|(with_reducible first|exact HB.out|apply bA_|apply bN_|apply b1_)|exact HB.out)) hb);clear HB;have HO248:=n0_;have HB:=n1_;clear n0_ n1_;(try clear hb);(try clear hb2);(try clear hk);(try clear hi);(try clear ho0))|((with_reducible refine gc_ (f:=12) rfl ?_);refine goesL_ (some 13) rfl rfl Try.func12 (by kernel_rfl) rfl #[.int .i64 a1,.int .i64 95] rfl (by (try simp only [List.map_toArray,List.map_cons,List.map_nil]);first|done|rfl|(simp only [List.length_drop,List.length_take];rfl)) ?_;(with_reducible refine (railplankeep_Pick.calls a1 95 t249 _ A4.out).mono ?_);rintro e w' ⟨rfl,⟨nd,rfl⟩⟩;refine ⟨_,rfl,?_⟩))
 go_loopg [7] k (fun kq v7 w' => ∃ (x7_1 : Int),v7 = .int .i64 x7_1 ∧ Aside0 (railplanlaw25_ClosureNext.l0 kq t246 t249 x7_1 = some r) ∧ Aside0 (kq ≤ k) ∧ Aside0 (Kd.R k27 27 w' w.heap.size (fun _ => True) v247 t246) ∧ Aside0 (Below w.heap.size w w'))
 case atStart => exact ⟨(0),(by first|rfl|(simp;done)|(simp [*];done)),H',⟨Nat.le_refl _⟩,⟨by (with_reducible repeat (first|apply RA_|apply RN_|apply RD_));exact HO248.out⟩,⟨by repeat (first|(with_reducible first|exact HB.out|apply bA_|apply bN_|apply b1_)|exact HB.out)⟩⟩
 case round =>
  clear H';(try clear c1);(try clear p2);(try clear c5);obtain ⟨x7_1,rfl,HA,HK1,HO_5,HB⟩:=hrel;cases gk with
  | zero => exact absurd HA.out (by simp [railplanlaw25_ClosureNext.l0])
  | succ k1 =>
   (have H:=HA.out);clear HA;simp only [railplanlaw25_ClosureNext.l0] at H
   by_cases c6 : x7_1 < 6
   ·rw [if_pos c6] at H
    (have c6b0:=decide_eq_true c6);clear c6;replace H:=be_ H;obtain ⟨t251,A70,H⟩:=H;replace H : (if t251 < t249 then (railplanlaw25_ClosureNext.j1 k1 t246 t249 x7_1 t251 true) else (if t251 > 95 then (railplanlaw25_ClosureNext.j1 k1 t246 t249 x7_1 t251 true) else ((closure_Open.f k1 t246 x7_1 t251).bind fun t252 => (railplanlaw25_ClosureNext.j1 k1 t246 t249 x7_1 t251 (!t252))))) = some r:=H;(have A7:=am_ A70);clear A70;(have HC8:=am_ H);clear H;obtain ⟨Ao9,co9,eo9⟩:=RS_ HO_5.out;subst eo9;(go_upto_region 7 with (first|((with_reducible refine gc_ (f:=19) rfl ?_);refine goesL_ (some 21) rfl rfl Try.func19 (by kernel_rfl) rfl #[.slice Ao9 t246.length co9,.int .i64 x7_1,.int .i64 t249] rfl (by (try simp only [List.map_toArray,List.map_cons,List.map_nil]);first|done|rfl|(simp only [List.length_drop,List.length_take];rfl)) ?_;(with_reducible refine (closure_Next.calls k1 _ _ t246 x7_1 t249 t251 _ ?side1 ?side2 A7.out).mono ?_);(case side1 => repeat (first|exact (RR_ HO_5.out).2.2|(with_reducible first|refine CA_ ?_ _|refine CN_ ?_ _|refine CD_ ?_)));(case side2 => exact (RR_ HO_5.out).2.1);rintro e w10 ⟨rfl,hb⟩;refine ⟨_,rfl,?_⟩;have n0_:=am_ (RB_ (by (with_reducible repeat (first|apply RA_|apply RN_|apply RD_));exact HO_5.out) hb);have n1_:=am_ (bs_ (by repeat (first|(with_reducible first|exact HB.out|apply bA_|apply bN_|apply b1_)|exact HB.out)) hb);clear HO_5;clear HB;have HO_5:=n0_;have HB:=n1_;clear n0_ n1_;(try clear hb);(try clear hb2);(try clear hk);(try clear hi))));(try simp only [Act.put,Lx_,Ly_,Lz_]);(go_cut [35] (fun v35 wc => ∃ (kq : Nat) (x35_7 : Bool),v35 = .bool x35_7 ∧ Aside0 (railplanlaw25_ClosureNext.j1 kq t246 t249 x7_1 t251 x35_7 = some r) ∧ Aside0 (kq ≤ k1) ∧ Aside0 (Kd.R k27 27 wc w.heap.size (fun _ => True) (.slice Ao9 t246.length co9) t246) ∧ Aside0 (Below w.heap.size w wc)))
    case first =>
     (have H:=HC8.out);clear HC8
     by_cases c11 : t251 < t249
     ·rw [if_pos c11] at H
      (have c11b0:=decide_eq_true c11);clear c11;(first|rw [c11b0]|(simp only [i64_w,i32_w];rw [c11b0])|skip);(have H':=am_ H);clear H;(go_wp2);(go_meet)
      case rel => exact ⟨_,(true),(by first|rfl|(simp;done)|(simp [*];done)),H',⟨by have:=HK1.out;first|omega|exact Nat.le_refl _⟩,⟨by (with_reducible repeat (first|apply RA_|apply RN_|apply RD_));exact HO_5.out⟩,⟨by repeat (first|(with_reducible first|exact HB.out|apply bA_|apply bN_|apply b1_)|exact HB.out)⟩⟩
     ·rw [if_neg c11] at H
      (have c11b0:=decide_eq_false c11);clear c11;(first|rw [c11b0]|(simp only [i64_w,i32_w];rw [c11b0])|skip)
      by_cases c12 : t251 > 95
      ·rw [if_pos c12] at H
       (have c12b0:=decide_eq_true c12);clear c12;(have H':=am_ H);clear H;(go_wp2);(go_meet)
       case rel => exact ⟨_,(true),(by first|rfl|(simp;done)|(simp [*];done)),H',⟨by have:=HK1.out;first|omega|exact Nat.le_refl _⟩,⟨by (with_reducible repeat (first|apply RA_|apply RN_|apply RD_));exact HO_5.out⟩,⟨by repeat (first|(with_reducible first|exact HB.out|apply bA_|apply bN_|apply b1_)|exact HB.out)⟩⟩
      ·rw [if_neg c12] at H
       (have c12b0:=decide_eq_false c12);clear c12;replace H:=be_ H;obtain ⟨t252,A130,H⟩:=H;replace H : (railplanlaw25_ClosureNext.j1 k1 t246 t249 x7_1 t251 (!t252)) = some r:=H;(have A13:=am_ A130);clear A130;(have H':=am_ H);clear H;(go_wp2_with (first|(go_at_call 17;(with_reducible refine (closure_Open.calls k1 _ _ t246 x7_1 t251 t252 _ ?side1 ?side2 A13.out).mono ?_);(case side1 => repeat (first|exact (RR_ HO_5.out).2.2|(with_reducible first|refine CA_ ?_ _|refine CN_ ?_ _|refine CD_ ?_)));(case side2 => exact (RR_ HO_5.out).2.1);rintro e w14 ⟨rfl,hb⟩;have n0_:=am_ (RB_ (by (with_reducible repeat (first|apply RA_|apply RN_|apply RD_));exact HO_5.out) hb);have n1_:=am_ (bs_ (by repeat (first|(with_reducible first|exact HB.out|apply bA_|apply bN_|apply b1_)|exact HB.out)) hb);clear HO_5;clear HB;have HO_5:=n0_;have HB:=n1_;clear n0_ n1_;(try clear hb);(try clear hb2);(try clear hk);(try clear hi))));(go_meet)
       case rel => exact ⟨_,(!t252),(by first|rfl|(simp;done)|(simp [*];done)),H',⟨by have:=HK1.out;first|omega|exact Nat.le_refl _⟩,⟨by (with_reducible repeat (first|apply RA_|apply RN_|apply RD_));exact HO_5.out⟩,⟨by repeat (first|(with_reducible first|exact HB.out|apply bA_|apply bN_|apply b1_)|exact HB.out)⟩⟩
    case rest =>
     clear HC8;(try clear c1);(try clear p2);(try clear c5);(try clear c6);(try clear c6b0);(try clear c11);(try clear c11b0);(try clear c12);(try clear c12b0);(try clear p2);obtain ⟨kq,x35_7,rfl,HA,HJ7,HO_5,HB⟩:=hcut;cases kq with
     | zero => exact absurd HA.out (by simp [railplanlaw25_ClosureNext.j1])
     | succ kj7 =>
      (have H:=HA.out);clear HA;simp only [railplanlaw25_ClosureNext.j1] at H
      by_cases c15 : x35_7 = true
      ·subst c15;((have H1 : (none) = some r:=by rw [if_pos rfl] at H;exact H);clear H;(have H:=H1);clear H1;(simp at H))
      ·replace c15:=Bool.eq_false_iff.mpr c15
       subst c15;(have H1 : (railplanlaw25_ClosureNext.l1 kj7 t246 t249 x7_1 t251 t249) = some r:=by rw [if_neg (show ¬ (false = true) by decide)] at H;exact H);clear H;(have H:=H1);clear H1;(have H':=am_ H);clear H;(go_wp2);(go_loopg [9] kj7 (fun kq v9 w' => ∃ (x9_3 : Int),v9 = .int .i64 x9_3 ∧ Aside0 (railplanlaw25_ClosureNext.l1 kq t246 t249 x7_1 t251 x9_3 = some r) ∧ Aside0 (kq ≤ kj7) ∧ Aside0 (Kd.R k27 27 w' w.heap.size (fun _ => True) (.slice Ao9 t246.length co9) t246) ∧ Aside0 (Below w.heap.size w w')))
       case atStart => exact ⟨(t249),(by first|rfl|(simp;done)|(simp [*];done)),H',⟨Nat.le_refl _⟩,⟨by (with_reducible repeat (first|apply RA_|apply RN_|apply RD_));exact HO_5.out⟩,⟨by repeat (first|(with_reducible first|exact HB.out|apply bA_|apply bN_|apply b1_)|exact HB.out)⟩⟩
       case round =>
        clear H';(try clear c1);(try clear p2);(try clear c5);(try clear c6);(try clear c6b0);(try clear c11);(try clear c11b0);(try clear c12);(try clear c12b0);(try clear c15);(try clear p2);obtain ⟨x9_3,rfl,HA,HK3,HO_5,HB⟩:=hrel;cases gk with
        | zero => exact absurd HA.out (by simp [railplanlaw25_ClosureNext.l1])
        | succ k3 =>
         (have H:=HA.out);clear HA;simp only [railplanlaw25_ClosureNext.l1] at H
         by_cases c16 : x9_3 < t251
         ·rw [if_pos c16] at H
          (have c16b0:=decide_eq_true c16);clear c16;replace H:=be_ H;obtain ⟨t253,A170,H⟩:=H;replace H : (if t253 = true then (none) else ((railplanref24_Open.f k3 t246 x7_1 x9_3).bind fun t254 => (if t254 = true then (none) else (railplanlaw25_ClosureNext.l1 k3 t246 t249 x7_1 t251 (wrap64 (x9_3 + 1)))))) = some r:=H;(have A17:=am_ A170);clear A170
          by_cases c18 : t253 = true
          ·subst c18;((have H1 : (none) = some r:=by rw [if_pos rfl] at H;exact H);clear H;(have H:=H1);clear H1;(simp at H))
          ·replace c18:=Bool.eq_false_iff.mpr c18
           subst c18;(have H1 : ((railplanref24_Open.f k3 t246 x7_1 x9_3).bind fun t254 => (if t254 = true then (none) else (railplanlaw25_ClosureNext.l1 k3 t246 t249 x7_1 t251 (wrap64 (x9_3 + 1))))) = some r:=by rw [if_neg (show ¬ (false = true) by decide)] at H;exact H);clear H;(have H:=H1);clear H1;replace H:=be_ H;obtain ⟨t254,A190,H⟩:=H;replace H : (if t254 = true then (none) else (railplanlaw25_ClosureNext.l1 k3 t246 t249 x7_1 t251 (wrap64 (x9_3 + 1)))) = some r:=H;(have A19:=am_ A190);clear A190
           by_cases c20 : t254 = true
           ·subst c20;((have H1 : (none) = some r:=by rw [if_pos rfl] at H;exact H);clear H;(have H:=H1);clear H1;(simp at H))
           ·replace c20:=Bool.eq_false_iff.mpr c20
            subst c20;(have H1 : (railplanlaw25_ClosureNext.l1 k3 t246 t249 x7_1 t251 (wrap64 (x9_3 + 1))) = some r:=by rw [if_neg (show ¬ (false = true) by decide)] at H;exact H);clear H;(have H:=H1);clear H1;(have H':=am_ H);clear H;(go_wp2_with (first|((with_reducible refine gc_ (f:=17) rfl ?_);refine goesL_ (some 45) rfl rfl Try.func17 (by kernel_rfl) rfl #[.slice Ao9 t246.length co9,.int .i64 x7_1,.int .i64 x9_3] rfl (by (try simp only [List.map_toArray,List.map_cons,List.map_nil]);first|done|rfl|(simp only [List.length_drop,List.length_take];rfl)) ?_;(with_reducible refine (closure_Open.calls k3 _ _ t246 x7_1 x9_3 false _ ?side1 ?side2 A17.out).mono ?_);(case side1 => repeat (first|exact (RR_ HO_5.out).2.2|(with_reducible first|refine CA_ ?_ _|refine CN_ ?_ _|refine CD_ ?_)));(case side2 => exact (RR_ HO_5.out).2.1);rintro e w21 ⟨rfl,hb⟩;refine ⟨_,rfl,?_⟩;have n0_:=am_ (RB_ (by (with_reducible repeat (first|apply RA_|apply RN_|apply RD_));exact HO_5.out) hb);have n1_:=am_ (bs_ (by repeat (first|(with_reducible first|exact HB.out|apply bA_|apply bN_|apply b1_)|exact HB.out)) hb);clear HO_5;clear HB;have HO_5:=n0_;have HB:=n1_;clear n0_ n1_;(try clear hb);(try clear hb2);(try clear hk);(try clear hi))|(go_at_call 18;(with_reducible refine (railplanref24_Open.calls k3 _ _ t246 x7_1 x9_3 false _ ?side1 ?side2 A19.out).mono ?_);(case side1 => repeat (first|exact (RR_ HO_5.out).2.2|(with_reducible first|refine CA_ ?_ _|refine CN_ ?_ _|refine CD_ ?_)));(case side2 => exact (RR_ HO_5.out).2.1);rintro e w22 ⟨rfl,hb⟩;have n0_:=am_ (RB_ (by (with_reducible repeat (first|apply RA_|apply RN_|apply RD_));exact HO_5.out) hb);have n1_:=am_ (bs_ (by repeat (first|(with_reducible first|exact HB.out|apply bA_|apply bN_|apply b1_)|exact HB.out)) hb);clear HO_5;clear HB;have HO_5:=n0_;have HB:=n1_;clear n0_ n1_;(try clear hb);(try clear hb2);(try clear hk);(try clear hi))));(go_roundg k3)
            case measure => have:=HK1.out;have:=HJ7.out;have:=HK3.out;omega
            case rel => exact ⟨(wrap64 (x9_3 + 1)),(by first|rfl|(simp;done)|(simp [*];done)),H',⟨by have:=HK1.out;have:=HJ7.out;have:=HK3.out;omega⟩,⟨by (with_reducible repeat (first|apply RA_|apply RN_|apply RD_));exact HO_5.out⟩,⟨by repeat (first|(with_reducible first|exact HB.out|apply bA_|apply bN_|apply b1_)|exact HB.out)⟩⟩
         ·rw [if_neg c16] at H
          (have c16b0:=decide_eq_false c16);clear c16;(have H':=am_ H);clear H;(go_wp2);(go_roundg k3)
          case measure => have:=HK1.out;have:=HJ7.out;have:=HK3.out;omega
          case rel => exact ⟨(wrap64 (x7_1 + 1)),(by first|rfl|(simp;done)|(simp [*];done)),H',⟨by have:=HK1.out;have:=HJ7.out;have:=HK3.out;omega⟩,⟨by (with_reducible repeat (first|apply RA_|apply RN_|apply RD_));exact HO_5.out⟩,⟨by repeat (first|(with_reducible first|exact HB.out|apply bA_|apply bN_|apply b1_)|exact HB.out)⟩⟩
   ·rw [if_neg c6] at H;((have c6b0:=decide_eq_false c6);clear c6;replace H:=be_ H;obtain ⟨t250,A230,H⟩:=H;replace H : (some t250) = some r:=H;(have A23:=am_ A230);clear A230;obtain rfl:=Option.some.inj H;(go_wp2_with (first|((with_reducible refine gc_ (f:=14) rfl ?_);refine goesL_ (some 52) rfl rfl Try.func14 (by kernel_rfl) rfl #[] rfl (by (try simp only [List.map_toArray,List.map_cons,List.map_nil]);first|done|rfl|(simp only [List.length_drop,List.length_take];rfl)) ?_;(with_reducible refine (railplanlaw25_awake.calls k1  t250 _ A23.out).mono ?_);rintro e w24 ⟨rfl,hb⟩;refine ⟨_,rfl,?_⟩;have n0_:=am_ (RB_ (by (with_reducible repeat (first|apply RA_|apply RN_|apply RD_));exact HO_5.out) hb);have n1_:=am_ (bs_ (by repeat (first|(with_reducible first|exact HB.out|apply bA_|apply bN_|apply b1_)|exact HB.out)) hb);clear HO_5;clear HB;have HO_5:=n0_;have HB:=n1_;clear n0_ n1_;(try clear hb);(try clear hb2);(try clear hk);(try clear hi))));(go_ret);(exact ⟨by first|rfl|(simp [errW_none,errW_some] <;> rfl)|(simp [*,errW_none,errW_some] <;> rfl),by repeat (first|(with_reducible first|exact HB.out|apply bA_|apply bN_|apply b1_)|exact HB.out)⟩))

/-- THE ONE PURE STATEMENT of railplanlaw25_ClosureNext: yours. -/
def railplanlaw25_ClosureNext.Pure : Prop:=∀ (l0 : List Int) (a1 : Int),l0.length ≤ maxLen → l0.length * 8 ≤ 140737488351232 → (∀ x ∈ l0,(Lit.int .i64 x).wf = true) → (Lit.int .i64 a1).wf = true → ∃ k,railplanlaw25_ClosureNext.f k l0 a1 = some true
theorem railplanlaw25_ClosureNext.walk (P : railplanlaw25_ClosureNext.Pure) (a0 : Option Addr) (len0 cap0 : Nat) (z0 : List Int) (a1 : Int) (w : World) (w0 : (a0 = none ∧ len0 = 0 ∧ cap0 = 0 ∧ z0 = []) ∨ ∃ x,a0 = some x ∧ len0 ≤ cap0 ∧ cap0 ≤ maxLen ∧ z0.length = cap0 ∧ (∀ i,i < z0.length → w.cell? (x.add i) = some (.int .i64 (z0.getD i 0))) ∧ ∀ n ∈ z0,(Lit.int .i64 n).wf = true) (y0 : len0 * 8 ≤ 140737488351232) (w1 : (Lit.int .i64 a1).wf = true) :
  Calls Try.prog 5 #[.slice a0 len0 cap0,.int .i64 a1] w fun e w' => e = .returned (.bool true) ∧ Below w.heap.size w w':=by
 obtain ⟨l0,rfl,hr0,hm0,hw0,hc0⟩:=ReadsInt.ofRowC w0
 obtain ⟨k,h⟩:=P l0 a1 hm0 y0 hw0 w1
 refine (railplanlaw25_ClosureNext.calls k _ _ l0 a1 true w (Kd.C_of_reads (d:=(0 : Int)) (h1:=fun _ => rfl) hr0) hc0 h).mono ?_
 rintro e w' ⟨rfl,hd⟩
 exact ⟨rfl,hd⟩
end Go.Proofs.Ytiohandkjjmemaa.PAll
