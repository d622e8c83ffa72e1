-- Packed by wip/tools/pack.py of this session out of what plugprint.py and the kit's print wrote. Lean checks it.
import Derived.Test.YtiohandkjjmemaaKS
import Derived.Test.YtiohandkjjmemaaK8
import Derived.Test.YtiohandkjjmemaaK17
import Derived.Test.YtiohandkjjmemaaK19
namespace Go.Proofs.Ytiohandkjjmemaa.PAll
open Go.RowKit Go.Proofs.YtiohandkjjmemaaW.PrintWords Go.Proofs.YtiohandkjjmemaaW.PrintLast Go.Proofs.YtiohandkjjmemaaW.PrintMore
attribute [local go_sem] max2_int min2_int max_two min_two max_three min_three max_four min_four
set_option linter.unusedVariables false
set_option linter.unusedSimpArgs false
/-! ### railplanlaw25_ClosureExample: function 7 -/
def railplanlaw25_ClosureExample.f (k : Nat)  : Option (Bool):=(some (([(⟨3,10,20⟩ : S27),(⟨3,20,25⟩ : S27)] : List (S27)) : List (S27))).bind fun y293 => ((some (([(⟨3,0,5⟩ : S39)] : List (S39)) : List (S39))).bind fun y296 => ((closure_Earliest.f k y293 y296 10 30).bind fun bt299 => ((railplanlaw25_awake.f k).bind fun t301 => (if t301 = true then ((closure_Enters.f k y293 y296 9).bind fun t302 => (if t302 = true then ((closure_Enters.f k y293 y296 10).bind fun t303 => (if t303 = true then (none) else (if bt299.1 = 15 then (some bt299.2) else (none)))) else (none))) else (none)))))
theorem railplanlaw25_ClosureExample.mono : ∀ k,LeO (railplanlaw25_ClosureExample.f k ) (railplanlaw25_ClosureExample.f (k + 1) ):=by
 intro  k;(unfold railplanlaw25_ClosureExample.f)
 repeat' first
   | (with_reducible exact closure_Earliest.mono _ _ _ _ _)
   | (with_reducible exact closure_Enters.mono _ _ _ _)
   | (with_reducible exact railplanlaw25_awake.mono _)
   | (with_reducible exact LeO.refl _)
   | (with_reducible exact LeO.none _)
   | (with_reducible refine LeO.ite ?_ ?_)
   | (with_reducible refine LeO.bind ?_ (fun _ => ?_))
   | exact closure_Earliest.mono _ _ _ _ _
   | exact closure_Enters.mono _ _ _ _
   | exact railplanlaw25_awake.mono _
   | exact LeO.none _
   | refine LeO.ite ?_ ?_
   | refine LeO.bind ?_ (fun _ => ?_)
set_option maxHeartbeats 8000000 in
set_option maxRecDepth 100000 in
theorem railplanlaw25_ClosureExample.calls (k : Nat)  (r : Bool) (w : World) (h : railplanlaw25_ClosureExample.f k  = some r) :
  Calls Try.prog 7 #[] w fun e w' => e = .returned (.bool r) ∧ Below w.heap.size w w':=by
 have hu27:=Try.underlying27
 have hu39:=Try.underlying39
 have HB:=am_ (Below.refl w.heap.size w)
 have H : ((some (([(⟨3,10,20⟩ : S27),(⟨3,20,25⟩ : S27)] : List (S27)) : List (S27))).bind fun y293 => ((some (([(⟨3,0,5⟩ : S39)] : List (S39)) : List (S39))).bind fun y296 => ((closure_Earliest.f k y293 y296 10 30).bind fun bt299 => ((railplanlaw25_awake.f k).bind fun t301 => (if t301 = true then ((closure_Enters.f k y293 y296 9).bind fun t302 => (if t302 = true then ((closure_Enters.f k y293 y296 10).bind fun t303 => (if t303 = true then (none) else (if bt299.1 = 15 then (some bt299.2) else (none)))) else (none))) else (none)))))) = some r:=h
 clear h
 obtain ⟨y293,hy293⟩ : ∃ y_ : List (S27),y_ = (([(⟨3,10,20⟩ : S27),(⟨3,20,25⟩ : S27)] : List (S27))):=⟨_,rfl⟩
 replace H : ((some (([(⟨3,0,5⟩ : S39)] : List (S39)) : List (S39))).bind fun y296 => ((closure_Earliest.f k y293 y296 10 30).bind fun bt299 => ((railplanlaw25_awake.f k).bind fun t301 => (if t301 = true then ((closure_Enters.f k y293 y296 9).bind fun t302 => (if t302 = true then ((closure_Enters.f k y293 y296 10).bind fun t303 => (if t303 = true then (none) else (if bt299.1 = 15 then (some bt299.2) else (none)))) else (none))) else (none))))) = some r:=by first|(rw [hy293];with_reducible exact H)|(have H2_:=(Option.bind_some _ _).symm.trans H;rw [hy293];with_reducible exact H2_)|(have H2_:=(Option.bind_some _ _).symm.trans H;with_reducible exact H2_)|with_reducible exact H|(rw [hy293];exact H)|exact H
 have Ny293:=am_ hy293
 clear hy293
 obtain ⟨y296,hy296⟩ : ∃ y_ : List (S39),y_ = (([(⟨3,0,5⟩ : S39)] : List (S39))):=⟨_,rfl⟩
 replace H : ((closure_Earliest.f k y293 y296 10 30).bind fun bt299 => ((railplanlaw25_awake.f k).bind fun t301 => (if t301 = true then ((closure_Enters.f k y293 y296 9).bind fun t302 => (if t302 = true then ((closure_Enters.f k y293 y296 10).bind fun t303 => (if t303 = true then (none) else (if bt299.1 = 15 then (some bt299.2) else (none)))) else (none))) else (none)))) = some r:=by first|(rw [hy296];with_reducible exact H)|(have H2_:=(Option.bind_some _ _).symm.trans H;rw [hy296];with_reducible exact H2_)|(have H2_:=(Option.bind_some _ _).symm.trans H;with_reducible exact H2_)|with_reducible exact H|(rw [hy296];exact H)|exact H
 have Ny296:=am_ hy296
 clear hy296
 replace H:=be_ H
 obtain ⟨⟨t299,t300⟩,A10,H⟩:=H
 replace H : ((railplanlaw25_awake.f k).bind fun t301 => (if t301 = true then ((closure_Enters.f k y293 y296 9).bind fun t302 => (if t302 = true then ((closure_Enters.f k y293 y296 10).bind fun t303 => (if t303 = true then (none) else (if t299 = 15 then (some t300) else (none)))) else (none))) else (none))) = some r:=H
 have A1:=am_ A10
 clear A10
 replace H:=be_ H
 obtain ⟨t301,A20,H⟩:=H
 replace H : (if t301 = true then ((closure_Enters.f k y293 y296 9).bind fun t302 => (if t302 = true then ((closure_Enters.f k y293 y296 10).bind fun t303 => (if t303 = true then (none) else (if t299 = 15 then (some t300) else (none)))) else (none))) else (none)) = some r:=H
 have A2:=am_ A20
 clear A20
 by_cases c3 : t301 = true
 ·subst c3
  (have H1 : ((closure_Enters.f k y293 y296 9).bind fun t302 => (if t302 = true then ((closure_Enters.f k y293 y296 10).bind fun t303 => (if t303 = true then (none) else (if t299 = 15 then (some t300) else (none)))) else (none))) = some r:=by rw [if_pos rfl] at H;exact H);clear H;(have H:=H1);clear H1;replace H:=be_ H;obtain ⟨t302,A40,H⟩:=H;replace H : (if t302 = true then ((closure_Enters.f k y293 y296 10).bind fun t303 => (if t303 = true then (none) else (if t299 = 15 then (some t300) else (none)))) else (none)) = some r:=H;(have A4:=am_ A40);clear A40
  by_cases c5 : t302 = true
  ·subst c5
   (have H1 : ((closure_Enters.f k y293 y296 10).bind fun t303 => (if t303 = true then (none) else (if t299 = 15 then (some t300) else (none)))) = some r:=by rw [if_pos rfl] at H;exact H);clear H;(have H:=H1);clear H1;replace H:=be_ H;obtain ⟨t303,A60,H⟩:=H;replace H : (if t303 = true then (none) else (if t299 = 15 then (some t300) else (none))) = some r:=H;(have A6:=am_ A60);clear A60
   by_cases c7 : t303 = true
   ·subst c7;((have H1 : (none) = some r:=by rw [if_pos rfl] at H;exact H);clear H;(have H:=H1);clear H1;(simp at H))
   ·replace c7:=Bool.eq_false_iff.mpr c7
    subst c7;(have H1 : (if t299 = 15 then (some t300) else (none)) = some r:=by rw [if_neg (show ¬ (false = true) by decide)] at H;exact H);clear H;(have H:=H1);clear H1
    by_cases c8 : t299 = 15
    (·rw [if_pos c8] at H;((have c8b0 : (t299 == 15) = true:=beq_iff_eq.mpr c8);(have c8b1 : (t299 != 15) = false:=bne_eq_false_iff_eq.mpr c8);clear c8;obtain rfl:=Option.some.inj H;(go_enter Try.func7,Try.ntmps7);(go_wp2_with (first|((with_reducible refine gd_ (N:=7) rfl ?_);refine Kd.R_lit k27 _ 27 ?hg (N:=7) ?hd (xs:=([(⟨3,10,20⟩ : S27),(⟨3,20,25⟩ : S27)] : List (S27))) (inner:=[.int .i64 3,.int .i64 10,.int .i64 20,.int .i64 3,.int .i64 20,.int .i64 25]) (ok:=fun _ => True) (okp:=fun _ => True) ?hr ?hp (fun _ hk => hk) trivial (Below.refl _ _) (Nat.le_refl _) (by simp) ?_;(case hd => rfl);(case hg => rfl);(case hr => first|(go_simp;done)|(go_simp;rfl));(case hp => exact (Reps.c3 (show Kd.M k27 _ _ _ (⟨3,10,20⟩ : S27) [.int .i64 3,.int .i64 10,.int .i64 20] from (k27_mkM _ _ _ (⟨3,10,20⟩ : S27) )) (Reps.c3 (show Kd.M k27 _ _ _ (⟨3,20,25⟩ : S27) [.int .i64 3,.int .i64 20,.int .i64 25] from (k27_mkM _ _ _ (⟨3,20,25⟩ : S27) )) (Reps.none _ _))));intro v294 w9 ho10 hb hg_ hnew_;clear hg_ hnew_;(first|rw [← Ny293.out] at ho10|(simp only [Int.reduceToNat] at ho10;rw [← Ny293.out] at ho10));have n0_:=am_ (RL_ ho10 (bz_ (by repeat (first|(with_reducible first|exact HB.out|apply bA_|apply bN_|apply b1_)|exact HB.out))));have n1_:=am_ (bs_ (by repeat (first|(with_reducible first|exact HB.out|apply bA_|apply bN_|apply b1_)|exact HB.out)) hb);clear HB;have HO295:=n0_;have HB:=n1_;clear n0_ n1_;clear hb ho10)|((with_reducible refine gd_ (N:=9) rfl ?_);refine Kd.R_lit k39 _ 39 ?hg (N:=9) ?hd (xs:=([(⟨3,0,5⟩ : S39)] : List (S39))) (inner:=[.int .i64 3,.int .i64 0,.int .i64 5]) (ok:=fun _ => True) (okp:=fun _ => True) ?hr ?hp (fun _ hk => hk) trivial (Below.refl _ _) (Nat.le_refl _) (by simp) ?_;(case hd => rfl);(case hg => rfl);(case hr => first|(go_simp;done)|(go_simp;rfl));(case hp => exact (Reps.c3 (show Kd.M k39 _ _ _ (⟨3,0,5⟩ : S39) [.int .i64 3,.int .i64 0,.int .i64 5] from (k39_mkM _ _ _ (⟨3,0,5⟩ : S39) )) (Reps.none _ _)));intro v297 w11 ho12 hb hg_ hnew_;clear hg_ hnew_;(first|rw [← Ny296.out] at ho12|(simp only [Int.reduceToNat] at ho12;rw [← Ny296.out] at ho12));have n0_:=am_ (RB_ (by (with_reducible repeat (first|apply RA_|apply RN_|apply RD_));exact HO295.out) hb);have n1_:=am_ (RL_ ho12 (bz_ (by repeat (first|(with_reducible first|exact HB.out|apply bA_|apply bN_|apply b1_)|exact HB.out))));have n2_:=am_ (bs_ (by repeat (first|(with_reducible first|exact HB.out|apply bA_|apply bN_|apply b1_)|exact HB.out)) hb);clear HO295;clear HB;have HO295:=n0_;have HO298:=n1_;have HB:=n2_;clear n0_ n1_ n2_;clear hb ho12;obtain ⟨Ao13,co13,eo13⟩:=RS_ HO295.out;subst eo13;obtain ⟨Ao14,co14,eo14⟩:=RS_ HO298.out;subst eo14)|((with_reducible refine gc_ (f:=22) rfl ?_);refine goesL_ (some 13) rfl rfl Try.func22 (by kernel_rfl) rfl #[.slice Ao13 y293.length co13,.slice Ao14 y296.length co14,.int .i64 10,.int .i64 30] rfl (by (try simp only [List.map_toArray,List.map_cons,List.map_nil]);first|done|rfl|(simp only [List.length_drop,List.length_take];rfl)) ?_;(with_reducible refine (closure_Earliest.calls k _ _ y293 _ _ y296 10 30 t299 t300 _ ?side1 ?side2 ?side3 ?side4 A1.out).mono ?_);(case side1 => repeat (first|exact (RR_ HO295.out).2.2|(with_reducible first|refine CA_ ?_ _|refine CN_ ?_ _|refine CD_ ?_)));(case side2 => exact (RR_ HO295.out).2.1);(case side3 => repeat (first|exact (RR_ HO298.out).2.2|(with_reducible first|refine CA_ ?_ _|refine CN_ ?_ _|refine CD_ ?_)));(case side4 => exact (RR_ HO298.out).2.1);rintro e w15 ⟨rfl,hb⟩;refine ⟨_,rfl,?_⟩;have n0_:=am_ (RB_ (by (with_reducible repeat (first|apply RA_|apply RN_|apply RD_));exact HO295.out) hb);have n1_:=am_ (RB_ (by (with_reducible repeat (first|apply RA_|apply RN_|apply RD_));exact HO298.out) hb);have n2_:=am_ (bs_ (by repeat (first|(with_reducible first|exact HB.out|apply bA_|apply bN_|apply b1_)|exact HB.out)) hb);clear HO295;clear HO298;clear HB;have HO295:=n0_;have HO298:=n1_;have HB:=n2_;clear n0_ n1_ n2_;(try clear hb);(try clear hb2);(try clear hk);(try clear hi))|((with_reducible refine gc_ (f:=14) rfl ?_);refine goesL_ (some 16) rfl rfl Try.func14 (by kernel_rfl) rfl #[] rfl (by (try simp only [List.map_toArray,List.map_cons,List.map_nil]);first|done|rfl|(simp only [List.length_drop,List.length_take];rfl)) ?_;(with_reducible refine (railplanlaw25_awake.calls k  true _ A2.out).mono ?_);rintro e w16 ⟨rfl,hb⟩;refine ⟨_,rfl,?_⟩;have n0_:=am_ (RB_ (by (with_reducible repeat (first|apply RA_|apply RN_|apply RD_));exact HO295.out) hb);have n1_:=am_ (RB_ (by (with_reducible repeat (first|apply RA_|apply RN_|apply RD_));exact HO298.out) hb);have n2_:=am_ (bs_ (by repeat (first|(with_reducible first|exact HB.out|apply bA_|apply bN_|apply b1_)|exact HB.out)) hb);clear HO295;clear HO298;clear HB;have HO295:=n0_;have HO298:=n1_;have HB:=n2_;clear n0_ n1_ n2_;(try clear hb);(try clear hb2);(try clear hk);(try clear hi))|(go_at_call 21;(with_reducible refine (closure_Enters.calls k _ _ y293 _ _ y296 9 true _ ?side1 ?side2 ?side3 ?side4 A4.out).mono ?_);(case side1 => repeat (first|exact (RR_ HO295.out).2.2|(with_reducible first|refine CA_ ?_ _|refine CN_ ?_ _|refine CD_ ?_)));(case side2 => exact (RR_ HO295.out).2.1);(case side3 => repeat (first|exact (RR_ HO298.out).2.2|(with_reducible first|refine CA_ ?_ _|refine CN_ ?_ _|refine CD_ ?_)));(case side4 => exact (RR_ HO298.out).2.1);rintro e w17 ⟨rfl,hb⟩;have n0_:=am_ (RB_ (by (with_reducible repeat (first|apply RA_|apply RN_|apply RD_));exact HO295.out) hb);have n1_:=am_ (RB_ (by (with_reducible repeat (first|apply RA_|apply RN_|apply RD_));exact HO298.out) hb);have n2_:=am_ (bs_ (by repeat (first|(with_reducible first|exact HB.out|apply bA_|apply bN_|apply b1_)|exact HB.out)) hb);clear HO295;clear HO298;clear HB;have HO295:=n0_;have HO298:=n1_;have HB:=n2_;clear n0_ n1_ n2_;(try clear hb);(try clear hb2);(try clear hk);(try clear hi))|(go_at_call 21;(with_reducible refine (closure_Enters.calls k _ _ y293 _ _ y296 10 false _ ?side1 ?side2 ?side3 ?side4 A6.out).mono ?_);(case side1 => repeat (first|exact (RR_ HO295.out).2.2|(with_reducible first|refine CA_ ?_ _|refine CN_ ?_ _|refine CD_ ?_)));(case side2 => exact (RR_ HO295.out).2.1);(case side3 => repeat (first|exact (RR_ HO298.out).2.2|(with_reducible first|refine CA_ ?_ _|refine CN_ ?_ _|refine CD_ ?_)));(case side4 => exact (RR_ HO298.out).2.1);rintro e w18 ⟨rfl,hb⟩;have n0_:=am_ (RB_ (by (with_reducible repeat (first|apply RA_|apply RN_|apply RD_));exact HO295.out) hb);have n1_:=am_ (RB_ (by (with_reducible repeat (first|apply RA_|apply RN_|apply RD_));exact HO298.out) hb);have n2_:=am_ (bs_ (by repeat (first|(with_reducible first|exact HB.out|apply bA_|apply bN_|apply b1_)|exact HB.out)) hb);clear HO295;clear HO298;clear HB;have HO295:=n0_;have HO298:=n1_;have HB:=n2_;clear n0_ n1_ n2_;(try clear hb);(try clear hb2);(try clear hk);(try clear hi))));(go_ret);(exact ⟨by first|rfl|(simp [errW_none,errW_some] <;> rfl)|(simp [*,errW_none,errW_some] <;> rfl),by repeat (first|(with_reducible first|exact HB.out|apply bA_|apply bN_|apply b1_)|exact HB.out)⟩)));(·rw [if_neg c8] at H;(simp at H))
  ·replace c5:=Bool.eq_false_iff.mpr c5;subst c5;(have H1 : (none) = some r:=by rw [if_neg (show ¬ (false = true) by decide)] at H;exact H);clear H;(have H:=H1);clear H1;(simp at H)
 ·replace c3:=Bool.eq_false_iff.mpr c3;subst c3;(have H1 : (none) = some r:=by rw [if_neg (show ¬ (false = true) by decide)] at H;exact H);clear H;(have H:=H1);clear H1;(simp at H)

/-- THE ONE PURE STATEMENT of railplanlaw25_ClosureExample: yours. -/
def railplanlaw25_ClosureExample.Pure : Prop:=∃ k,railplanlaw25_ClosureExample.f k  = some true
theorem railplanlaw25_ClosureExample.walk (P : railplanlaw25_ClosureExample.Pure)  (w : World)  :
  Calls Try.prog 7 #[] w fun e w' => e = .returned (.bool true) ∧ Below w.heap.size w w':=by
 obtain ⟨k,h⟩:=P  
 refine (railplanlaw25_ClosureExample.calls k  true w h).mono ?_
 rintro e w' ⟨rfl,hd⟩
 exact ⟨rfl,hd⟩
end Go.Proofs.Ytiohandkjjmemaa.PAll
