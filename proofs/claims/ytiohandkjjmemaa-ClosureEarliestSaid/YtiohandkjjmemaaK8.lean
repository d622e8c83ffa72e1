-- Packed by wip/tools/pack.py of this session out of what plugprint.py and the kit's print wrote. Lean checks it.
import Derived.Test.YtiohandkjjmemaaKS
import Derived.Test.YtiohandkjjmemaaK2
import Derived.Test.YtiohandkjjmemaaK5
import Derived.Test.YtiohandkjjmemaaK6
import Derived.Test.YtiohandkjjmemaaK7
namespace Go.Proofs.Ytiohandkjjmemaa.PAll
open Go.RowKit Go.Proofs.YtiohandkjjmemaaW.PrintWords Go.Proofs.YtiohandkjjmemaaW.PrintLast Go.Proofs.YtiohandkjjmemaaW.PrintMore
attribute [local go_sem] max2_int min2_int max_two min_two max_three min_three max_four min_four
set_option linter.unusedVariables false
set_option linter.unusedSimpArgs false
attribute [local go_sem high] eqA27
/-! ### railplanlaw25_awake: function 14 -/
def railplanlaw25_awake.f (k : Nat)  : Option (Bool):=(some (([(⟨3,10,20⟩ : S27),(⟨3,20,25⟩ : S27)] : List (S27)) : List (S27))).bind fun y168 => ((closure_Merge.f k y168).bind fun t171 => ((api_Closure_16.f k t171 (([(⟨3,10,25⟩ : S27)] : List (S27)))).bind fun t177 => (if t177 = true then ((closure_Next.f k y168 3 12).bind fun t178 => (if t178 = 25 then ((closure_Check.f k y168).bind fun t179 => (some t179)) else (none))) else (none))))
theorem railplanlaw25_awake.mono : ∀ k,LeO (railplanlaw25_awake.f k ) (railplanlaw25_awake.f (k + 1) ):=by
 intro  k;(unfold railplanlaw25_awake.f)
 repeat' first
   | (with_reducible exact api_Closure_16.mono _ _ _)
   | (with_reducible exact closure_Check.mono _ _)
   | (with_reducible exact closure_Merge.mono _ _)
   | (with_reducible exact closure_Next.mono _ _ _ _)
   | (with_reducible exact LeO.refl _)
   | (with_reducible exact LeO.none _)
   | (with_reducible refine LeO.ite ?_ ?_)
   | (with_reducible refine LeO.bind ?_ (fun _ => ?_))
   | exact api_Closure_16.mono _ _ _
   | exact closure_Check.mono _ _
   | exact closure_Merge.mono _ _
   | exact closure_Next.mono _ _ _ _
   | exact LeO.none _
   | refine LeO.ite ?_ ?_
   | refine LeO.bind ?_ (fun _ => ?_)
set_option maxHeartbeats 8000000 in
set_option maxRecDepth 100000 in
theorem railplanlaw25_awake.calls (k : Nat)  (r : Bool) (w : World) (h : railplanlaw25_awake.f k  = some r) :
  Calls Try.prog 14 #[] w fun e w' => e = .returned (.bool r) ∧ Below w.heap.size w w':=by
 have hu27:=Try.underlying27
 have HB:=am_ (Below.refl w.heap.size w)
 have H : ((some (([(⟨3,10,20⟩ : S27),(⟨3,20,25⟩ : S27)] : List (S27)) : List (S27))).bind fun y168 => ((closure_Merge.f k y168).bind fun t171 => ((api_Closure_16.f k t171 (([(⟨3,10,25⟩ : S27)] : List (S27)))).bind fun t177 => (if t177 = true then ((closure_Next.f k y168 3 12).bind fun t178 => (if t178 = 25 then ((closure_Check.f k y168).bind fun t179 => (some t179)) else (none))) else (none))))) = some r:=h
 clear h
 obtain ⟨y168,hy168⟩ : ∃ y_ : List (S27),y_ = (([(⟨3,10,20⟩ : S27),(⟨3,20,25⟩ : S27)] : List (S27))):=⟨_,rfl⟩
 replace H : ((closure_Merge.f k y168).bind fun t171 => ((api_Closure_16.f k t171 (([(⟨3,10,25⟩ : S27)] : List (S27)))).bind fun t177 => (if t177 = true then ((closure_Next.f k y168 3 12).bind fun t178 => (if t178 = 25 then ((closure_Check.f k y168).bind fun t179 => (some t179)) else (none))) else (none)))) = some r:=by first|(rw [hy168];with_reducible exact H)|(have H2_:=(Option.bind_some _ _).symm.trans H;rw [hy168];with_reducible exact H2_)|(have H2_:=(Option.bind_some _ _).symm.trans H;with_reducible exact H2_)|with_reducible exact H|(rw [hy168];exact H)|exact H
 have Ny168:=am_ hy168
 clear hy168
 replace H:=be_ H
 obtain ⟨t171,A10,H⟩:=H
 replace H : ((api_Closure_16.f k t171 (([(⟨3,10,25⟩ : S27)] : List (S27)))).bind fun t177 => (if t177 = true then ((closure_Next.f k y168 3 12).bind fun t178 => (if t178 = 25 then ((closure_Check.f k y168).bind fun t179 => (some t179)) else (none))) else (none))) = some r:=H
 have A1:=am_ A10
 clear A10
 obtain ⟨y174,hy174⟩ : ∃ y_ : List (S27),y_ = (([(⟨3,10,25⟩ : S27)] : List (S27))):=⟨_,rfl⟩
 replace H : ((api_Closure_16.f k t171 y174).bind fun t177 => (if t177 = true then ((closure_Next.f k y168 3 12).bind fun t178 => (if t178 = 25 then ((closure_Check.f k y168).bind fun t179 => (some t179)) else (none))) else (none))) = some r:=by first|(rw [hy174];with_reducible exact H)|(have H2_:=(Option.bind_some _ _).symm.trans H;rw [hy174];with_reducible exact H2_)|(have H2_:=(Option.bind_some _ _).symm.trans H;with_reducible exact H2_)|with_reducible exact H|(rw [hy174];exact H)|exact H
 have Ny174:=am_ hy174
 clear hy174
 replace H:=be_ H
 obtain ⟨t177,A20,H⟩:=H
 replace H : (if t177 = true then ((closure_Next.f k y168 3 12).bind fun t178 => (if t178 = 25 then ((closure_Check.f k y168).bind fun t179 => (some t179)) else (none))) else (none)) = some r:=H
 have A2:=am_ A20
 clear A20
 by_cases c3 : t177 = true
 ·subst c3
  (have H1 : ((closure_Next.f k y168 3 12).bind fun t178 => (if t178 = 25 then ((closure_Check.f k y168).bind fun t179 => (some t179)) else (none))) = some r:=by rw [if_pos rfl] at H;exact H);clear H;(have H:=H1);clear H1;replace H:=be_ H;obtain ⟨t178,A40,H⟩:=H;replace H : (if t178 = 25 then ((closure_Check.f k y168).bind fun t179 => (some t179)) else (none)) = some r:=H;(have A4:=am_ A40);clear A40
  by_cases c5 : t178 = 25
  (·rw [if_pos c5] at H;((have c5b0 : (t178 == 25) = true:=beq_iff_eq.mpr c5);(have c5b1 : (t178 != 25) = false:=bne_eq_false_iff_eq.mpr c5);clear c5;replace H:=be_ H;obtain ⟨t179,A60,H⟩:=H;replace H : (some t179) = some r:=H;(have A6:=am_ A60);clear A60;obtain rfl:=Option.some.inj H;(go_enter Try.func14,Try.ntmps14);(go_wp2_with (first|((with_reducible refine gd_ (N:=4) rfl ?_);refine Kd.R_lit k27 _ 27 ?hg (N:=4) ?hd (xs:=([(⟨3,10,20⟩ : S27),(⟨3,20,25⟩ : S27)] : List (S27))) (inner:=[.int .i64 3,.int .i64 10,.int .i64 20,.int .i64 3,.int .i64 20,.int .i64 25]) (ok:=fun _ => True) (okp:=fun _ => True) ?hr ?hp (fun _ hk => hk) trivial (Below.refl _ _) (Nat.le_refl _) (by simp) ?_;(case hd => rfl);(case hg => rfl);(case hr => first|(go_simp;done)|(go_simp;rfl));(case hp => exact (Reps.c3 (show Kd.M k27 _ _ _ (⟨3,10,20⟩ : S27) [.int .i64 3,.int .i64 10,.int .i64 20] from (k27_mkM _ _ _ (⟨3,10,20⟩ : S27) )) (Reps.c3 (show Kd.M k27 _ _ _ (⟨3,20,25⟩ : S27) [.int .i64 3,.int .i64 20,.int .i64 25] from (k27_mkM _ _ _ (⟨3,20,25⟩ : S27) )) (Reps.none _ _))));intro v169 w7 ho8 hb hg_ hnew_;clear hg_ hnew_;(first|rw [← Ny168.out] at ho8|(simp only [Int.reduceToNat] at ho8;rw [← Ny168.out] at ho8));have n0_:=am_ (RL_ ho8 (bz_ (by repeat (first|(with_reducible first|exact HB.out|apply bA_|apply bN_|apply b1_)|exact HB.out))));have n1_:=am_ (bs_ (by repeat (first|(with_reducible first|exact HB.out|apply bA_|apply bN_|apply b1_)|exact HB.out)) hb);clear HB;have HO170:=n0_;have HB:=n1_;clear n0_ n1_;clear hb ho8;obtain ⟨Ao9,co9,eo9⟩:=RS_ HO170.out;subst eo9)|((with_reducible refine gc_ (f:=15) rfl ?_);refine goesL_ (some 6) rfl rfl Try.func15 (by kernel_rfl) rfl #[.slice Ao9 y168.length co9] rfl (by (try simp only [List.map_toArray,List.map_cons,List.map_nil]);first|done|rfl|(simp only [List.length_drop,List.length_take];rfl)) ?_;(with_reducible refine (closure_Merge.calls k _ _ y168 t171 _ ?side1 ?side2 A1.out).mono ?_);(case side1 => repeat (first|exact (RR_ HO170.out).2.2|(with_reducible first|refine CA_ ?_ _|refine CN_ ?_ _|refine CD_ ?_)));(case side2 => exact (RR_ HO170.out).2.1);rintro e w10 ⟨v172,rfl,ho0,hb⟩;refine ⟨_,rfl,?_⟩;have n0_:=am_ (Kd.R_elder' (by (with_reducible repeat (first|apply RA_|apply RN_|apply RD_));exact HO170.out) (Kd.R_base ho0) hb);have n1_:=am_ (RL_ (Kd.R_new' ho0 (Kd.R_lt (by (with_reducible repeat (first|apply RA_|apply RN_|apply RD_));exact HO170.out))) (bz_ (by repeat (first|(with_reducible first|exact HB.out|apply bA_|apply bN_|apply b1_)|exact HB.out))));have n2_:=am_ (bs_ (by repeat (first|(with_reducible first|exact HB.out|apply bA_|apply bN_|apply b1_)|exact HB.out)) hb);clear HO170;clear HB;have HO170:=n0_;have HO173:=n1_;have HB:=n2_;clear n0_ n1_ n2_;(try clear hb);(try clear hb2);(try clear hk);(try clear hi);(try clear ho0))|((with_reducible refine gd_ (N:=8) rfl ?_);refine Kd.R_lit k27 _ 27 ?hg (N:=8) ?hd (xs:=([(⟨3,10,25⟩ : S27)] : List (S27))) (inner:=[.int .i64 3,.int .i64 10,.int .i64 25]) (ok:=fun _ => True) (okp:=fun _ => True) ?hr ?hp (fun _ hk => hk) trivial (Below.refl _ _) (Nat.le_refl _) (by simp) ?_;(case hd => rfl);(case hg => rfl);(case hr => first|(go_simp;done)|(go_simp;rfl));(case hp => exact (Reps.c3 (show Kd.M k27 _ _ _ (⟨3,10,25⟩ : S27) [.int .i64 3,.int .i64 10,.int .i64 25] from (k27_mkM _ _ _ (⟨3,10,25⟩ : S27) )) (Reps.none _ _)));intro v175 w11 ho12 hb hg_ hnew_;clear hg_ hnew_;(first|rw [← Ny174.out] at ho12|(simp only [Int.reduceToNat] at ho12;rw [← Ny174.out] at ho12));have n0_:=am_ (Kd.R_elder' (by (with_reducible repeat (first|apply RA_|apply RN_|apply RD_));exact HO170.out) (Kd.R_base ho12) hb);have n1_:=am_ (Kd.R_elder' (by (with_reducible repeat (first|apply RA_|apply RN_|apply RD_));exact HO173.out) (Kd.R_base ho12) hb);have n2_:=am_ (RL_ (Kd.R_new' (Kd.R_new' ho12 (Kd.R_lt (by (with_reducible repeat (first|apply RA_|apply RN_|apply RD_));exact HO170.out))) (Kd.R_lt (by (with_reducible repeat (first|apply RA_|apply RN_|apply RD_));exact HO173.out))) (bz_ (by repeat (first|(with_reducible first|exact HB.out|apply bA_|apply bN_|apply b1_)|exact HB.out))));have n3_:=am_ (bs_ (by repeat (first|(with_reducible first|exact HB.out|apply bA_|apply bN_|apply b1_)|exact HB.out)) hb);clear HO170;clear HO173;clear HB;have HO170:=n0_;have HO173:=n1_;have HO176:=n2_;have HB:=n3_;clear n0_ n1_ n2_ n3_;clear hb ho12;obtain ⟨Ao13,co13,eo13⟩:=RS_ HO173.out;subst eo13;obtain ⟨Ao14,co14,eo14⟩:=RS_ HO176.out;subst eo14)|((with_reducible refine gc_ (f:=16) rfl ?_);refine goesL_ (some 9) rfl rfl Try.func16 (by kernel_rfl) rfl #[.slice Ao13 t171.length co13,.slice Ao14 y174.length co14] rfl (by (try simp only [List.map_toArray,List.map_cons,List.map_nil]);first|done|rfl|(simp only [List.length_drop,List.length_take];rfl)) ?_;(with_reducible refine (api_Closure_16.calls k _ _ t171 _ _ y174 true _ ?side1 ?side2 ?side3 ?side4 A2.out).mono ?_);(case side1 => repeat (first|exact (RR_ HO173.out).2.2|(with_reducible first|refine CA_ ?_ _|refine CN_ ?_ _|refine CD_ ?_)));(case side2 => exact (RR_ HO173.out).2.1);(case side3 => repeat (first|exact (RR_ HO176.out).2.2|(with_reducible first|refine CA_ ?_ _|refine CN_ ?_ _|refine CD_ ?_)));(case side4 => exact (RR_ HO176.out).2.1);rintro e w' ⟨rfl,⟨nd,rfl⟩⟩;refine ⟨_,rfl,?_⟩)|(go_at_call 19;(with_reducible refine (closure_Next.calls k _ _ y168 3 12 t178 _ ?side1 ?side2 A4.out).mono ?_);(case side1 => repeat (first|exact (RR_ HO170.out).2.2|(with_reducible first|refine CA_ ?_ _|refine CN_ ?_ _|refine CD_ ?_)));(case side2 => exact (RR_ HO170.out).2.1);rintro e w15 ⟨rfl,hb⟩;have n0_:=am_ (RB_ (by (with_reducible repeat (first|apply RA_|apply RN_|apply RD_));exact HO170.out) hb);have n1_:=am_ (RB_ (by (with_reducible repeat (first|apply RA_|apply RN_|apply RD_));exact HO173.out) hb);have n2_:=am_ (RB_ (by (with_reducible repeat (first|apply RA_|apply RN_|apply RD_));exact HO176.out) hb);have n3_:=am_ (bs_ (by repeat (first|(with_reducible first|exact HB.out|apply bA_|apply bN_|apply b1_)|exact HB.out)) hb);clear HO170;clear HO173;clear HO176;clear HB;have HO170:=n0_;have HO173:=n1_;have HO176:=n2_;have HB:=n3_;clear n0_ n1_ n2_ n3_;(try clear hb);(try clear hb2);(try clear hk);(try clear hi))|(go_at_call 13;(with_reducible refine (closure_Check.calls k _ _ y168 t179 _ ?side1 ?side2 A6.out).mono ?_);(case side1 => repeat (first|exact (RR_ HO170.out).2.2|(with_reducible first|refine CA_ ?_ _|refine CN_ ?_ _|refine CD_ ?_)));(case side2 => exact (RR_ HO170.out).2.1);rintro e w16 ⟨rfl,hb⟩;have n0_:=am_ (RB_ (by (with_reducible repeat (first|apply RA_|apply RN_|apply RD_));exact HO170.out) hb);have n1_:=am_ (RB_ (by (with_reducible repeat (first|apply RA_|apply RN_|apply RD_));exact HO173.out) hb);have n2_:=am_ (RB_ (by (with_reducible repeat (first|apply RA_|apply RN_|apply RD_));exact HO176.out) hb);have n3_:=am_ (bs_ (by repeat (first|(with_reducible first|exact HB.out|apply bA_|apply bN_|apply b1_)|exact HB.out)) hb);clear HO170;clear HO173;clear HO176;clear HB;have HO170:=n0_;have HO173:=n1_;have HO176:=n2_;have HB:=n3_;clear n0_ n1_ n2_ n3_;(try clear hb);(try clear hb2);(try clear hk);(try clear hi))));(go_ret);(exact ⟨by first|rfl|(simp [errW_none,errW_some] <;> rfl)|(simp [*,errW_none,errW_some] <;> rfl),by repeat (first|(with_reducible first|exact HB.out|apply bA_|apply bN_|apply b1_)|exact HB.out)⟩)));(·rw [if_neg c5] at H;(simp at H))
 ·replace c3:=Bool.eq_false_iff.mpr c3;subst c3;(have H1 : (none) = some r:=by rw [if_neg (show ¬ (false = true) by decide)] at H;exact H);clear H;(have H:=H1);clear H1;(simp at H)
end Go.Proofs.Ytiohandkjjmemaa.PAll
