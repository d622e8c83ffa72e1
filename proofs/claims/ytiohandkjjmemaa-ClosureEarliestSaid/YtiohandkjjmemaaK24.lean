-- Packed by wip/tools/pack.py of this session out of what plugprint.py and the kit's print wrote. Lean checks it.
import Derived.Test.YtiohandkjjmemaaKS
import Derived.Test.YtiohandkjjmemaaK22
import Derived.Test.YtiohandkjjmemaaK23
namespace Go.Proofs.Ytiohandkjjmemaa.PAll
open Go.RowKit Go.Proofs.YtiohandkjjmemaaW.PrintWords Go.Proofs.YtiohandkjjmemaaW.PrintLast Go.Proofs.YtiohandkjjmemaaW.PrintMore
attribute [local go_sem] max2_int min2_int max_two min_two max_three min_three max_four min_four
set_option linter.unusedVariables false
set_option linter.unusedSimpArgs false
/-! ### railplanref24_Earliest: function 25 -/
mutual
def railplanref24_Earliest.j0 : Nat → List (S27) → List (S39) → Int → Int → Bool → Option (Int × Bool)
 | 0,_,_,_,_,_ => none
 | k + 1,x0,x1,x2,x3,x21 => if x21 = true then (some (0,false)) else (railplanref24_Earliest.l0 k x0 x1 x2 x3 0)
def railplanref24_Earliest.l0 : Nat → List (S27) → List (S39) → Int → Int → Int → Option (Int × Bool)
 | 0,_,_,_,_,_ => none
 | k + 1,x0,x1,x2,x3,x10 => if x10 ≤ x3 then ((railplanref24_Enters.f k x0 x1 (wrap64 (x2 + x10))).bind fun t315 => (if t315 = true then (some (x10,true)) else (railplanref24_Earliest.l0 k x0 x1 x2 x3 (wrap64 (x10 + 1))))) else (some (0,false))
end
def railplanref24_Earliest.f (k : Nat) (l0 : List (S27)) (l1 : List (S39)) (a2 : Int) (a3 : Int) : Option (Int × Bool):=if a3 < 0 then (railplanref24_Earliest.j0 k l0 l1 a2 a3 true) else (if a3 > 3600 then (railplanref24_Earliest.j0 k l0 l1 a2 a3 true) else ((railplanref24_moderate.f a2).bind fun t314 => (railplanref24_Earliest.j0 k l0 l1 a2 a3 (!t314))))
theorem railplanref24_Earliest.mono_l : ∀ k,(∀ y0 y1 y2 y3 y4,LeO (railplanref24_Earliest.j0 k y0 y1 y2 y3 y4) (railplanref24_Earliest.j0 (k + 1) y0 y1 y2 y3 y4)) ∧ (∀ y0 y1 y2 y3 y4,LeO (railplanref24_Earliest.l0 k y0 y1 y2 y3 y4) (railplanref24_Earliest.l0 (k + 1) y0 y1 y2 y3 y4))
 | 0 => ⟨fun _ _ _ _ _ r h => by simp [railplanref24_Earliest.j0] at h,fun _ _ _ _ _ r h => by simp [railplanref24_Earliest.l0] at h⟩
 | k + 1 => by
  obtain ⟨ih0,ih1⟩:=railplanref24_Earliest.mono_l k;refine ⟨?_,?_⟩
  ·intro y0 y1 y2 y3 y4
   unfold railplanref24_Earliest.j0
   repeat' first
   | (with_reducible exact ih0 _ _ _ _ _)
   | (with_reducible exact ih1 _ _ _ _ _)
   | (with_reducible exact railplanref24_Enters.mono _ _ _ _)
   | (with_reducible exact LeO.refl _)
   | (with_reducible exact LeO.none _)
   | (with_reducible refine LeO.ite ?_ ?_)
   | (with_reducible refine LeO.bind ?_ (fun _ => ?_))
   | exact ih0 _ _ _ _ _
   | exact ih1 _ _ _ _ _
   | exact railplanref24_Enters.mono _ _ _ _
   | exact LeO.none _
   | refine LeO.ite ?_ ?_
   | refine LeO.bind ?_ (fun _ => ?_)
  ·intro y0 y1 y2 y3 y4
   unfold railplanref24_Earliest.l0
   repeat' first
   | (with_reducible exact ih0 _ _ _ _ _)
   | (with_reducible exact ih1 _ _ _ _ _)
   | (with_reducible exact railplanref24_Enters.mono _ _ _ _)
   | (with_reducible exact LeO.refl _)
   | (with_reducible exact LeO.none _)
   | (with_reducible refine LeO.ite ?_ ?_)
   | (with_reducible refine LeO.bind ?_ (fun _ => ?_))
   | exact ih0 _ _ _ _ _
   | exact ih1 _ _ _ _ _
   | exact railplanref24_Enters.mono _ _ _ _
   | exact LeO.none _
   | refine LeO.ite ?_ ?_
   | refine LeO.bind ?_ (fun _ => ?_)
theorem railplanref24_Earliest.mono : ∀ a0 a1 a2 a3 k,LeO (railplanref24_Earliest.f k a0 a1 a2 a3) (railplanref24_Earliest.f (k + 1) a0 a1 a2 a3):=by
 intro a0 a1 a2 a3 k;obtain ⟨ih0,ih1⟩:=railplanref24_Earliest.mono_l k;(unfold railplanref24_Earliest.f)
 repeat' first
   | (with_reducible exact ih0 _ _ _ _ _)
   | (with_reducible exact ih1 _ _ _ _ _)
   | (with_reducible exact railplanref24_Enters.mono _ _ _ _)
   | (with_reducible exact LeO.refl _)
   | (with_reducible exact LeO.none _)
   | (with_reducible refine LeO.ite ?_ ?_)
   | (with_reducible refine LeO.bind ?_ (fun _ => ?_))
   | exact ih0 _ _ _ _ _
   | exact ih1 _ _ _ _ _
   | exact railplanref24_Enters.mono _ _ _ _
   | exact LeO.none _
   | refine LeO.ite ?_ ?_
   | refine LeO.bind ?_ (fun _ => ?_)
set_option maxHeartbeats 8000000 in
set_option maxRecDepth 100000 in
theorem railplanref24_Earliest.calls (k : Nat) (A0 : Option Addr) (c0 : Nat) (l0 : List (S27)) (A1 : Option Addr) (c1 : Nat) (l1 : List (S39)) (a2 : Int) (a3 : Int) (r1 : Int) (r2 : Bool) (w : World) (hr0 : Kd.C k27 w A0 l0.length l0) (hc0 : l0.length ≤ c0) (hr1 : Kd.C k39 w A1 l1.length l1) (hc1 : l1.length ≤ c1) (h : railplanref24_Earliest.f k l0 l1 a2 a3 = some (r1,r2)) :
  Calls Try.prog 25 #[.slice A0 l0.length c0,.slice A1 l1.length c1,.int .i64 a2,.int .i64 a3] w fun e w' => e = .returned (.tuple #[.int .i64 r1,.bool r2]) ∧ Below w.heap.size w w':=by
 have HR0:=am_ hr0
 have HC0:=am_ hc0
 clear hr0 hc0
 have HR1:=am_ hr1
 have HC1:=am_ hc1
 clear hr1 hc1
 have HB:=am_ (Below.refl w.heap.size w)
 have H : (if a3 < 0 then (railplanref24_Earliest.j0 k l0 l1 a2 a3 true) else (if a3 > 3600 then (railplanref24_Earliest.j0 k l0 l1 a2 a3 true) else ((railplanref24_moderate.f a2).bind fun t314 => (railplanref24_Earliest.j0 k l0 l1 a2 a3 (!t314))))) = some (r1,r2):=h
 clear h
 have HC5:=am_ H
 clear H
 go_enter Try.func25,Try.ntmps25
 go_upto_region 1 with (fail)
 go_cut [21] (fun v21 wc => ∃ (kq : Nat) (x21_4 : Bool),v21 = .bool x21_4 ∧ Aside0 (railplanref24_Earliest.j0 kq l0 l1 a2 a3 x21_4 = some (r1,r2)) ∧ Aside0 (kq ≤ k) ∧ Aside0 (Below w.heap.size w wc))
 case first =>
  (have H:=HC5.out);clear HC5
  by_cases c6 : a3 < 0
  ·rw [if_pos c6] at H
   (have c6b0:=decide_eq_true c6);clear c6;(first|rw [c6b0]|(simp only [i64_w,i32_w];rw [c6b0])|skip);(have H':=am_ H);clear H;(go_wp2);(go_meet)
   case rel => exact ⟨_,(true),(by first|rfl|(simp;done)|(simp [*];done)),H',⟨by first|omega|exact Nat.le_refl _⟩,⟨by repeat (first|(with_reducible first|exact HB.out|apply bA_|apply bN_|apply b1_)|exact HB.out)⟩⟩
  ·rw [if_neg c6] at H
   (have c6b0:=decide_eq_false c6);clear c6;(first|rw [c6b0]|(simp only [i64_w,i32_w];rw [c6b0])|skip)
   by_cases c7 : a3 > 3600
   ·rw [if_pos c7] at H
    (have c7b0:=decide_eq_true c7);clear c7;(have H':=am_ H);clear H;(go_wp2);(go_meet)
    case rel => exact ⟨_,(true),(by first|rfl|(simp;done)|(simp [*];done)),H',⟨by first|omega|exact Nat.le_refl _⟩,⟨by repeat (first|(with_reducible first|exact HB.out|apply bA_|apply bN_|apply b1_)|exact HB.out)⟩⟩
   ·rw [if_neg c7] at H
    (have c7b0:=decide_eq_false c7);clear c7;replace H:=be_ H;obtain ⟨t314,A80,H⟩:=H;replace H : (railplanref24_Earliest.j0 k l0 l1 a2 a3 (!t314)) = some (r1,r2):=H;(have A8:=am_ A80);clear A80;(have H':=am_ H);clear H;(go_wp2_with (first|(go_at_call 34;(with_reducible refine (railplanref24_moderate.calls a2 t314 _ A8.out).mono ?_);rintro e w' ⟨rfl,⟨nd,rfl⟩⟩)));(go_meet)
    case rel => exact ⟨_,(!t314),(by first|rfl|(simp;done)|(simp [*];done)),H',⟨by first|omega|exact Nat.le_refl _⟩,⟨by repeat (first|(with_reducible first|exact HB.out|apply bA_|apply bN_|apply b1_)|exact HB.out)⟩⟩
 case rest =>
  clear HC5;(try clear c1);(try clear c2);(try clear p2);(try clear c6);(try clear c6b0);(try clear c7);(try clear c7b0);obtain ⟨kq,x21_4,rfl,HA,HJ4,HB⟩:=hcut;cases kq with
  | zero => exact absurd HA.out (by simp [railplanref24_Earliest.j0])
  | succ kj4 =>
   (have H:=HA.out);clear HA;simp only [railplanref24_Earliest.j0] at H
   by_cases c9 : x21_4 = true
   ·subst c9;((have H1 : (some (0,false)) = some (r1,r2):=by rw [if_pos rfl] at H;exact H);clear H;(have H:=H1);clear H1;simp only [Option.some.injEq,Prod.mk.injEq] at H;obtain ⟨rfl,rfl⟩:=H;(go_wp2);(go_ret2);(exact ⟨by first|rfl|(simp [errW_none,errW_some] <;> rfl)|(simp [*,errW_none,errW_some] <;> rfl),by repeat (first|(with_reducible first|exact HB.out|apply bA_|apply bN_|apply b1_)|exact HB.out)⟩))
   ·replace c9:=Bool.eq_false_iff.mpr c9
    subst c9;(have H1 : (railplanref24_Earliest.l0 kj4 l0 l1 a2 a3 0) = some (r1,r2):=by rw [if_neg (show ¬ (false = true) by decide)] at H;exact H);clear H;(have H:=H1);clear H1;(have H':=am_ H);clear H;(go_wp2);(go_loopg [10] kj4 (fun kq v10 w' => ∃ (x10_2 : Int),v10 = .int .i64 x10_2 ∧ Aside0 (railplanref24_Earliest.l0 kq l0 l1 a2 a3 x10_2 = some (r1,r2)) ∧ Aside0 (kq ≤ kj4) ∧ Aside0 (Below w.heap.size w w')))
    case atStart => exact ⟨(0),(by first|rfl|(simp;done)|(simp [*];done)),H',⟨Nat.le_refl _⟩,⟨by repeat (first|(with_reducible first|exact HB.out|apply bA_|apply bN_|apply b1_)|exact HB.out)⟩⟩
    case round =>
     clear H';(try clear c1);(try clear c2);(try clear p2);(try clear c6);(try clear c6b0);(try clear c7);(try clear c7b0);(try clear c9);(try clear p2);obtain ⟨x10_2,rfl,HA,HK2,HB⟩:=hrel;cases gk with
     | zero => exact absurd HA.out (by simp [railplanref24_Earliest.l0])
     | succ k2 =>
      (have H:=HA.out);clear HA;simp only [railplanref24_Earliest.l0] at H
      by_cases c10 : x10_2 ≤ a3
      ·rw [if_pos c10] at H
       (have c10b0:=decide_eq_true c10);clear c10;replace H:=be_ H;obtain ⟨t315,A110,H⟩:=H;replace H : (if t315 = true then (some (x10_2,true)) else (railplanref24_Earliest.l0 k2 l0 l1 a2 a3 (wrap64 (x10_2 + 1)))) = some (r1,r2):=H;(have A11:=am_ A110);clear A110
       by_cases c12 : t315 = true
       ·subst c12;((have H1 : (some (x10_2,true)) = some (r1,r2):=by rw [if_pos rfl] at H;exact H);clear H;(have H:=H1);clear H1;simp only [Option.some.injEq,Prod.mk.injEq] at H;obtain ⟨rfl,rfl⟩:=H;(go_wp2_with (first|((with_reducible refine gc_ (f:=27) rfl ?_);refine goesL_ (some 32) rfl rfl Try.func27 (by kernel_rfl) rfl #[.slice A0 l0.length c0,.slice A1 l1.length c1,.int .i64 (wrap64 (a2 + x10_2))] rfl (by (try simp only [List.map_toArray,List.map_cons,List.map_nil]);first|done|rfl|(simp only [List.length_drop,List.length_take];rfl)) ?_;(with_reducible refine (railplanref24_Enters.calls k2 _ _ l0 _ _ l1 (wrap64 (a2 + x10_2)) true _ ?side1 ?side2 ?side3 ?side4 A11.out).mono ?_);(case side1 => repeat (first|exact (CB_ HR0.out HB.out)|(with_reducible first|refine CA_ ?_ _|refine CN_ ?_ _|refine CD_ ?_)));(case side2 => exact HC0.out);(case side3 => repeat (first|exact (CB_ HR1.out HB.out)|(with_reducible first|refine CA_ ?_ _|refine CN_ ?_ _|refine CD_ ?_)));(case side4 => exact HC1.out);rintro e w13 ⟨rfl,hb⟩;refine ⟨_,rfl,?_⟩;have n0_:=am_ (bs_ (by repeat (first|(with_reducible first|exact HB.out|apply bA_|apply bN_|apply b1_)|exact HB.out)) hb);clear HB;have HB:=n0_;clear n0_;(try clear hb);(try clear hb2);(try clear hk);(try clear hi))));(go_ret2);(exact ⟨by first|rfl|(simp [errW_none,errW_some] <;> rfl)|(simp [*,errW_none,errW_some] <;> rfl),by repeat (first|(with_reducible first|exact HB.out|apply bA_|apply bN_|apply b1_)|exact HB.out)⟩))
       ·replace c12:=Bool.eq_false_iff.mpr c12
        subst c12;(have H1 : (railplanref24_Earliest.l0 k2 l0 l1 a2 a3 (wrap64 (x10_2 + 1))) = some (r1,r2):=by rw [if_neg (show ¬ (false = true) by decide)] at H;exact H);clear H;(have H:=H1);clear H1;(have H':=am_ H);clear H;(go_wp2_with (first|((with_reducible refine gc_ (f:=27) rfl ?_);refine goesL_ (some 32) rfl rfl Try.func27 (by kernel_rfl) rfl #[.slice A0 l0.length c0,.slice A1 l1.length c1,.int .i64 (wrap64 (a2 + x10_2))] rfl (by (try simp only [List.map_toArray,List.map_cons,List.map_nil]);first|done|rfl|(simp only [List.length_drop,List.length_take];rfl)) ?_;(with_reducible refine (railplanref24_Enters.calls k2 _ _ l0 _ _ l1 (wrap64 (a2 + x10_2)) false _ ?side1 ?side2 ?side3 ?side4 A11.out).mono ?_);(case side1 => repeat (first|exact (CB_ HR0.out HB.out)|(with_reducible first|refine CA_ ?_ _|refine CN_ ?_ _|refine CD_ ?_)));(case side2 => exact HC0.out);(case side3 => repeat (first|exact (CB_ HR1.out HB.out)|(with_reducible first|refine CA_ ?_ _|refine CN_ ?_ _|refine CD_ ?_)));(case side4 => exact HC1.out);rintro e w14 ⟨rfl,hb⟩;refine ⟨_,rfl,?_⟩;have n0_:=am_ (bs_ (by repeat (first|(with_reducible first|exact HB.out|apply bA_|apply bN_|apply b1_)|exact HB.out)) hb);clear HB;have HB:=n0_;clear n0_;(try clear hb);(try clear hb2);(try clear hk);(try clear hi))));(go_roundg k2)
        case measure => have:=HJ4.out;have:=HK2.out;omega
        case rel => exact ⟨(wrap64 (x10_2 + 1)),(by first|rfl|(simp;done)|(simp [*];done)),H',⟨by have:=HJ4.out;have:=HK2.out;omega⟩,⟨by repeat (first|(with_reducible first|exact HB.out|apply bA_|apply bN_|apply b1_)|exact HB.out)⟩⟩
      ·rw [if_neg c10] at H;((have c10b0:=decide_eq_false c10);clear c10;simp only [Option.some.injEq,Prod.mk.injEq] at H;obtain ⟨rfl,rfl⟩:=H;(go_wp2);(go_ret2);(exact ⟨by first|rfl|(simp [errW_none,errW_some] <;> rfl)|(simp [*,errW_none,errW_some] <;> rfl),by repeat (first|(with_reducible first|exact HB.out|apply bA_|apply bN_|apply b1_)|exact HB.out)⟩))
end Go.Proofs.Ytiohandkjjmemaa.PAll
