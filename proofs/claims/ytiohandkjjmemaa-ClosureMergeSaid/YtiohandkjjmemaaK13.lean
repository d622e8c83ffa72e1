-- Packed by wip/tools/pack.py of this session out of what plugprint.py and the kit's print wrote. Lean checks it.
import Derived.Test.YtiohandkjjmemaaKS
import Derived.Test.YtiohandkjjmemaaK1
import Derived.Test.YtiohandkjjmemaaK2
import Derived.Test.YtiohandkjjmemaaK5
import Derived.Test.YtiohandkjjmemaaK6
import Derived.Test.YtiohandkjjmemaaK8
import Derived.Test.YtiohandkjjmemaaK10
import Derived.Test.YtiohandkjjmemaaK12
namespace Go.Proofs.Ytiohandkjjmemaa.PAll
open Go.RowKit Go.Proofs.YtiohandkjjmemaaW.PrintWords Go.Proofs.YtiohandkjjmemaaW.PrintLast Go.Proofs.YtiohandkjjmemaaW.PrintMore
attribute [local go_sem] max2_int min2_int max_two min_two max_three min_three max_four min_four
set_option linter.unusedVariables false
set_option linter.unusedSimpArgs false
/-! ### railplanlaw25_ClosureMerge: function 4 -/
mutual
def railplanlaw25_ClosureMerge.j0 : Nat → List (S27) → List (S27) → Bool → Option (Bool)
 | 0,_,_,_ => none
 | k + 1,x3,x4,x21 => if x21 = true then (none) else (railplanlaw25_ClosureMerge.l0 k x3 x4 1)
def railplanlaw25_ClosureMerge.l0 : Nat → List (S27) → List (S27) → Int → Option (Bool)
 | 0,_,_,_ => none
 | k + 1,x3,x4,x5 => if x5 < (x4.length : Int) then (if 0 ≤ x5 then (if 0 ≤ (wrap64 (x5 - 1)) then (if (wrap64 (x5 - 1)) < (x4.length : Int) then (if ((rd_T27 x4 x5).f0) < ((rd_T27 x4 (wrap64 (x5 - 1))).f0) then (none) else (if ((rd_T27 x4 x5).f0) = ((rd_T27 x4 (wrap64 (x5 - 1))).f0) then (if ((rd_T27 x4 x5).f1) ≤ ((rd_T27 x4 (wrap64 (x5 - 1))).f2) then (none) else (railplanlaw25_ClosureMerge.l0 k x3 x4 (wrap64 (x5 + 1)))) else (railplanlaw25_ClosureMerge.l0 k x3 x4 (wrap64 (x5 + 1))))) else (none)) else (none)) else (none)) else (railplanlaw25_ClosureMerge.l1 k x3 x4 0)
def railplanlaw25_ClosureMerge.l1 : Nat → List (S27) → List (S27) → Int → Option (Bool)
 | 0,_,_,_ => none
 | k + 1,x3,x4,x6 => if x6 < 6 then (railplanlaw25_ClosureMerge.l2 k x3 x4 x6 0) else ((railplanlaw25_awake.f k).bind fun t241 => (some t241))
def railplanlaw25_ClosureMerge.l2 : Nat → List (S27) → List (S27) → Int → Int → Option (Bool)
 | 0,_,_,_,_ => none
 | k + 1,x3,x4,x6,x7 => if x7 < 95 then ((closure_Open.f k x3 x6 x7).bind fun t242 => ((closure_Open.f k x4 x6 x7).bind fun t243 => (if (t242 != t243) = true then (none) else ((closure_Open.f k x3 x6 x7).bind fun t244 => ((railplanref24_Open.f k x3 x6 x7).bind fun t245 => (if (t244 != t245) = true then (none) else (railplanlaw25_ClosureMerge.l2 k x3 x4 x6 (wrap64 (x7 + 1))))))))) else (railplanlaw25_ClosureMerge.l1 k x3 x4 (wrap64 (x6 + 1)))
end
def railplanlaw25_ClosureMerge.f (k : Nat) (l0 : List Int) : Option (Bool):=(railplankeep2_Closures.f k l0).bind fun t224 => ((closure_Merge.f k t224).bind fun t227 => ((closure_Check.f k t227).bind fun t230 => (if t230 = true then ((closure_Merge.f k t227).bind fun t231 => ((api_Closure_16.f k t231 t227).bind fun t234 => (railplanlaw25_ClosureMerge.j0 k t224 t227 (!t234)))) else (railplanlaw25_ClosureMerge.j0 k t224 t227 true))))
theorem railplanlaw25_ClosureMerge.mono_l : ∀ k,(∀ y0 y1 y2,LeO (railplanlaw25_ClosureMerge.j0 k y0 y1 y2) (railplanlaw25_ClosureMerge.j0 (k + 1) y0 y1 y2)) ∧ (∀ y0 y1 y2,LeO (railplanlaw25_ClosureMerge.l0 k y0 y1 y2) (railplanlaw25_ClosureMerge.l0 (k + 1) y0 y1 y2)) ∧ (∀ y0 y1 y2,LeO (railplanlaw25_ClosureMerge.l1 k y0 y1 y2) (railplanlaw25_ClosureMerge.l1 (k + 1) y0 y1 y2)) ∧ (∀ y0 y1 y2 y3,LeO (railplanlaw25_ClosureMerge.l2 k y0 y1 y2 y3) (railplanlaw25_ClosureMerge.l2 (k + 1) y0 y1 y2 y3))
 | 0 => ⟨fun _ _ _ r h => by simp [railplanlaw25_ClosureMerge.j0] at h,fun _ _ _ r h => by simp [railplanlaw25_ClosureMerge.l0] at h,fun _ _ _ r h => by simp [railplanlaw25_ClosureMerge.l1] at h,fun _ _ _ _ r h => by simp [railplanlaw25_ClosureMerge.l2] at h⟩
 | k + 1 => by
  obtain ⟨ih0,ih1,ih2,ih3⟩:=railplanlaw25_ClosureMerge.mono_l k;refine ⟨?_,?_,?_,?_⟩
  ·intro y0 y1 y2
   unfold railplanlaw25_ClosureMerge.j0
   repeat' first
   | (with_reducible exact ih0 _ _ _)
   | (with_reducible exact ih1 _ _ _)
   | (with_reducible exact ih2 _ _ _)
   | (with_reducible exact ih3 _ _ _ _)
   | (with_reducible exact api_Closure_16.mono _ _ _)
   | (with_reducible exact closure_Check.mono _ _)
   | (with_reducible exact closure_Merge.mono _ _)
   | (with_reducible exact closure_Open.mono _ _ _ _)
   | (with_reducible exact railplankeep2_Closures.mono _ _)
   | (with_reducible exact railplanlaw25_awake.mono _)
   | (with_reducible exact railplanref24_Open.mono _ _ _ _)
   | (with_reducible exact LeO.refl _)
   | (with_reducible exact LeO.none _)
   | (with_reducible refine LeO.ite ?_ ?_)
   | (with_reducible refine LeO.bind ?_ (fun _ => ?_))
   | exact ih0 _ _ _
   | exact ih1 _ _ _
   | exact ih2 _ _ _
   | exact ih3 _ _ _ _
   | exact api_Closure_16.mono _ _ _
   | exact closure_Check.mono _ _
   | exact closure_Merge.mono _ _
   | exact closure_Open.mono _ _ _ _
   | exact railplankeep2_Closures.mono _ _
   | exact railplanlaw25_awake.mono _
   | exact railplanref24_Open.mono _ _ _ _
   | exact LeO.none _
   | refine LeO.ite ?_ ?_
   | refine LeO.bind ?_ (fun _ => ?_)
  ·intro y0 y1 y2
   unfold railplanlaw25_ClosureMerge.l0
   repeat' first
   | (with_reducible exact ih0 _ _ _)
   | (with_reducible exact ih1 _ _ _)
   | (with_reducible exact ih2 _ _ _)
   | (with_reducible exact ih3 _ _ _ _)
   | (with_reducible exact api_Closure_16.mono _ _ _)
   | (with_reducible exact closure_Check.mono _ _)
   | (with_reducible exact closure_Merge.mono _ _)
   | (with_reducible exact closure_Open.mono _ _ _ _)
   | (with_reducible exact railplankeep2_Closures.mono _ _)
   | (with_reducible exact railplanlaw25_awake.mono _)
   | (with_reducible exact railplanref24_Open.mono _ _ _ _)
   | (with_reducible exact LeO.refl _)
   | (with_reducible exact LeO.none _)
   | (with_reducible refine LeO.ite ?_ ?_)
   | (with_reducible refine LeO.bind ?_ (fun _ => ?_))
   | exact ih0 _ _ _
   | exact ih1 _ _ _
   | exact ih2 _ _ _
   | exact ih3 _ _ _ _
   | exact api_Closure_16.mono _ _ _
   | exact closure_Check.mono _ _
   | exact closure_Merge.mono _ _
   | exact closure_Open.mono _ _ _ _
   | exact railplankeep2_Closures.mono _ _
   | exact railplanlaw25_awake.mono _
   | exact railplanref24_Open.mono _ _ _ _
   | exact LeO.none _
   | refine LeO.ite ?_ ?_
   | refine LeO.bind ?_ (fun _ => ?_)
  ·intro y0 y1 y2
   unfold railplanlaw25_ClosureMerge.l1
   repeat' first
   | (with_reducible exact ih0 _ _ _)
   | (with_reducible exact ih1 _ _ _)
   | (with_reducible exact ih2 _ _ _)
   | (with_reducible exact ih3 _ _ _ _)
   | (with_reducible exact api_Closure_16.mono _ _ _)
   | (with_reducible exact closure_Check.mono _ _)
   | (with_reducible exact closure_Merge.mono _ _)
   | (with_reducible exact closure_Open.mono _ _ _ _)
   | (with_reducible exact railplankeep2_Closures.mono _ _)
   | (with_reducible exact railplanlaw25_awake.mono _)
   | (with_reducible exact railplanref24_Open.mono _ _ _ _)
   | (with_reducible exact LeO.refl _)
   | (with_reducible exact LeO.none _)
   | (with_reducible refine LeO.ite ?_ ?_)
   | (with_reducible refine LeO.bind ?_ (fun _ => ?_))
   | exact ih0 _ _ _
   | exact ih1 _ _ _
   | exact ih2 _ _ _
   | exact ih3 _ _ _ _
   | exact api_Closure_16.mono _ _ _
   | exact closure_Check.mono _ _
   | exact closure_Merge.mono _ _
   | exact closure_Open.mono _ _ _ _
   | exact railplankeep2_Closures.mono _ _
   | exact railplanlaw25_awake.mono _
   | exact railplanref24_Open.mono _ _ _ _
   | exact LeO.none _
   | refine LeO.ite ?_ ?_
   | refine LeO.bind ?_ (fun _ => ?_)
  ·intro y0 y1 y2 y3
   unfold railplanlaw25_ClosureMerge.l2
   repeat' first
   | (with_reducible exact ih0 _ _ _)
   | (with_reducible exact ih1 _ _ _)
   | (with_reducible exact ih2 _ _ _)
   | (with_reducible exact ih3 _ _ _ _)
   | (with_reducible exact api_Closure_16.mono _ _ _)
   | (with_reducible exact closure_Check.mono _ _)
   | (with_reducible exact closure_Merge.mono _ _)
   | (with_reducible exact closure_Open.mono _ _ _ _)
   | (with_reducible exact railplankeep2_Closures.mono _ _)
   | (with_reducible exact railplanlaw25_awake.mono _)
   | (with_reducible exact railplanref24_Open.mono _ _ _ _)
   | (with_reducible exact LeO.refl _)
   | (with_reducible exact LeO.none _)
   | (with_reducible refine LeO.ite ?_ ?_)
   | (with_reducible refine LeO.bind ?_ (fun _ => ?_))
   | exact ih0 _ _ _
   | exact ih1 _ _ _
   | exact ih2 _ _ _
   | exact ih3 _ _ _ _
   | exact api_Closure_16.mono _ _ _
   | exact closure_Check.mono _ _
   | exact closure_Merge.mono _ _
   | exact closure_Open.mono _ _ _ _
   | exact railplankeep2_Closures.mono _ _
   | exact railplanlaw25_awake.mono _
   | exact railplanref24_Open.mono _ _ _ _
   | exact LeO.none _
   | refine LeO.ite ?_ ?_
   | refine LeO.bind ?_ (fun _ => ?_)
theorem railplanlaw25_ClosureMerge.mono : ∀ a0 k,LeO (railplanlaw25_ClosureMerge.f k a0) (railplanlaw25_ClosureMerge.f (k + 1) a0):=by
 intro a0 k;obtain ⟨ih0,ih1,ih2,ih3⟩:=railplanlaw25_ClosureMerge.mono_l k;(unfold railplanlaw25_ClosureMerge.f)
 repeat' first
   | (with_reducible exact ih0 _ _ _)
   | (with_reducible exact ih1 _ _ _)
   | (with_reducible exact ih2 _ _ _)
   | (with_reducible exact ih3 _ _ _ _)
   | (with_reducible exact api_Closure_16.mono _ _ _)
   | (with_reducible exact closure_Check.mono _ _)
   | (with_reducible exact closure_Merge.mono _ _)
   | (with_reducible exact closure_Open.mono _ _ _ _)
   | (with_reducible exact railplankeep2_Closures.mono _ _)
   | (with_reducible exact railplanlaw25_awake.mono _)
   | (with_reducible exact railplanref24_Open.mono _ _ _ _)
   | (with_reducible exact LeO.refl _)
   | (with_reducible exact LeO.none _)
   | (with_reducible refine LeO.ite ?_ ?_)
   | (with_reducible refine LeO.bind ?_ (fun _ => ?_))
   | exact ih0 _ _ _
   | exact ih1 _ _ _
   | exact ih2 _ _ _
   | exact ih3 _ _ _ _
   | exact api_Closure_16.mono _ _ _
   | exact closure_Check.mono _ _
   | exact closure_Merge.mono _ _
   | exact closure_Open.mono _ _ _ _
   | exact railplankeep2_Closures.mono _ _
   | exact railplanlaw25_awake.mono _
   | exact railplanref24_Open.mono _ _ _ _
   | exact LeO.none _
   | refine LeO.ite ?_ ?_
   | refine LeO.bind ?_ (fun _ => ?_)
set_option maxHeartbeats 8000000 in
set_option maxRecDepth 100000 in
theorem railplanlaw25_ClosureMerge.calls (k : Nat) (A0 : Option Addr) (c0 : Nat) (l0 : List Int) (r : Bool) (w : World) (hr0 : Kd.C (Kd.int .i64) w A0 l0.length l0) (hc0 : l0.length ≤ c0) (h : railplanlaw25_ClosureMerge.f k l0 = some r) :
  Calls Try.prog 4 #[.slice A0 l0.length c0] w fun e w' => e = .returned (.bool r) ∧ Below w.heap.size w w':=by
 have HR0:=am_ hr0
 have HC0:=am_ hc0
 clear hr0 hc0
 have HB:=am_ (Below.refl w.heap.size w)
 have H : ((railplankeep2_Closures.f k l0).bind fun t224 => ((closure_Merge.f k t224).bind fun t227 => ((closure_Check.f k t227).bind fun t230 => (if t230 = true then ((closure_Merge.f k t227).bind fun t231 => ((api_Closure_16.f k t231 t227).bind fun t234 => (railplanlaw25_ClosureMerge.j0 k t224 t227 (!t234)))) else (railplanlaw25_ClosureMerge.j0 k t224 t227 true))))) = some r:=h
 clear h
 replace H:=be_ H
 obtain ⟨t224,A20,H⟩:=H
 replace H : ((closure_Merge.f k t224).bind fun t227 => ((closure_Check.f k t227).bind fun t230 => (if t230 = true then ((closure_Merge.f k t227).bind fun t231 => ((api_Closure_16.f k t231 t227).bind fun t234 => (railplanlaw25_ClosureMerge.j0 k t224 t227 (!t234)))) else (railplanlaw25_ClosureMerge.j0 k t224 t227 true)))) = some r:=H
 have A2:=am_ A20
 clear A20
 replace H:=be_ H
 obtain ⟨t227,A30,H⟩:=H
 replace H : ((closure_Check.f k t227).bind fun t230 => (if t230 = true then ((closure_Merge.f k t227).bind fun t231 => ((api_Closure_16.f k t231 t227).bind fun t234 => (railplanlaw25_ClosureMerge.j0 k t224 t227 (!t234)))) else (railplanlaw25_ClosureMerge.j0 k t224 t227 true))) = some r:=H
 have A3:=am_ A30
 clear A30
 have HC4:=am_ H
 clear H
 go_enter Try.func4,Try.ntmps4
 go_upto_region 3 with (first|(go_at_call 11;(with_reducible refine (railplankeep2_Closures.calls k _ _ l0 t224 _ ?side1 ?side2 A2.out).mono ?_);(case side1 => repeat (first|exact HR0.out|(with_reducible first|refine CA_ ?_ _|refine CN_ ?_ _|refine CD_ ?_)));(case side2 => exact HC0.out);rintro e w5 ⟨v225,rfl,ho0,hb⟩;have n0_:=am_ (RL_ ho0 (bz_ (by repeat (first|(with_reducible first|exact HB.out|apply bA_|apply bN_|apply b1_)|exact HB.out))));have n1_:=am_ (bs_ (by repeat (first|(with_reducible first|exact HB.out|apply bA_|apply bN_|apply b1_)|exact HB.out)) hb);clear HB;have HO226:=n0_;have HB:=n1_;clear n0_ n1_;(try clear hb);(try clear hb2);(try clear hk);(try clear hi);(try clear ho0);obtain ⟨Ao6,co6,eo6⟩:=RS_ HO226.out;subst eo6)|(go_at_call 15;(with_reducible refine (closure_Merge.calls k _ _ t224 t227 _ ?side1 ?side2 A3.out).mono ?_);(case side1 => repeat (first|exact (RR_ HO226.out).2.2|(with_reducible first|refine CA_ ?_ _|refine CN_ ?_ _|refine CD_ ?_)));(case side2 => exact (RR_ HO226.out).2.1);rintro e w7 ⟨v228,rfl,ho0,hb⟩;have n0_:=am_ (Kd.R_elder' (by (with_reducible repeat (first|apply RA_|apply RN_|apply RD_));exact HO226.out) (Kd.R_base ho0) hb);have n1_:=am_ (RL_ (Kd.R_new' ho0 (Kd.R_lt (by (with_reducible repeat (first|apply RA_|apply RN_|apply RD_));exact HO226.out))) (bz_ (by repeat (first|(with_reducible first|exact HB.out|apply bA_|apply bN_|apply b1_)|exact HB.out))));have n2_:=am_ (bs_ (by repeat (first|(with_reducible first|exact HB.out|apply bA_|apply bN_|apply b1_)|exact HB.out)) hb);clear HO226;clear HB;have HO226:=n0_;have HO229:=n1_;have HB:=n2_;clear n0_ n1_ n2_;(try clear hb);(try clear hb2);(try clear hk);(try clear hi);(try clear ho0)))
 repeat (go_quiet (first|(go_at_call 11;(with_reducible refine (railplankeep2_Closures.calls k _ _ l0 t224 _ ?side1 ?side2 A2.out).mono ?_);(case side1 => repeat (first|exact HR0.out|(with_reducible first|refine CA_ ?_ _|refine CN_ ?_ _|refine CD_ ?_)));(case side2 => exact HC0.out);rintro e w5 ⟨v225,rfl,ho0,hb⟩;have n0_:=am_ (RL_ ho0 (bz_ (by repeat (first|(with_reducible first|exact HB.out|apply bA_|apply bN_|apply b1_)|exact HB.out))));have n1_:=am_ (bs_ (by repeat (first|(with_reducible first|exact HB.out|apply bA_|apply bN_|apply b1_)|exact HB.out)) hb);clear HB;have HO226:=n0_;have HB:=n1_;clear n0_ n1_;(try clear hb);(try clear hb2);(try clear hk);(try clear hi);(try clear ho0);obtain ⟨Ao6,co6,eo6⟩:=RS_ HO226.out;subst eo6)|(go_at_call 15;(with_reducible refine (closure_Merge.calls k _ _ t224 t227 _ ?side1 ?side2 A3.out).mono ?_);(case side1 => repeat (first|exact (RR_ HO226.out).2.2|(with_reducible first|refine CA_ ?_ _|refine CN_ ?_ _|refine CD_ ?_)));(case side2 => exact (RR_ HO226.out).2.1);rintro e w7 ⟨v228,rfl,ho0,hb⟩;have n0_:=am_ (Kd.R_elder' (by (with_reducible repeat (first|apply RA_|apply RN_|apply RD_));exact HO226.out) (Kd.R_base ho0) hb);have n1_:=am_ (RL_ (Kd.R_new' ho0 (Kd.R_lt (by (with_reducible repeat (first|apply RA_|apply RN_|apply RD_));exact HO226.out))) (bz_ (by repeat (first|(with_reducible first|exact HB.out|apply bA_|apply bN_|apply b1_)|exact HB.out))));have n2_:=am_ (bs_ (by repeat (first|(with_reducible first|exact HB.out|apply bA_|apply bN_|apply b1_)|exact HB.out)) hb);clear HO226;clear HB;have HO226:=n0_;have HO229:=n1_;have HB:=n2_;clear n0_ n1_ n2_;(try clear hb);(try clear hb2);(try clear hk);(try clear hi);(try clear ho0)));go_upto_region 3 with (first|(go_at_call 11;(with_reducible refine (railplankeep2_Closures.calls k _ _ l0 t224 _ ?side1 ?side2 A2.out).mono ?_);(case side1 => repeat (first|exact HR0.out|(with_reducible first|refine CA_ ?_ _|refine CN_ ?_ _|refine CD_ ?_)));(case side2 => exact HC0.out);rintro e w5 ⟨v225,rfl,ho0,hb⟩;have n0_:=am_ (RL_ ho0 (bz_ (by repeat (first|(with_reducible first|exact HB.out|apply bA_|apply bN_|apply b1_)|exact HB.out))));have n1_:=am_ (bs_ (by repeat (first|(with_reducible first|exact HB.out|apply bA_|apply bN_|apply b1_)|exact HB.out)) hb);clear HB;have HO226:=n0_;have HB:=n1_;clear n0_ n1_;(try clear hb);(try clear hb2);(try clear hk);(try clear hi);(try clear ho0);obtain ⟨Ao6,co6,eo6⟩:=RS_ HO226.out;subst eo6)|(go_at_call 15;(with_reducible refine (closure_Merge.calls k _ _ t224 t227 _ ?side1 ?side2 A3.out).mono ?_);(case side1 => repeat (first|exact (RR_ HO226.out).2.2|(with_reducible first|refine CA_ ?_ _|refine CN_ ?_ _|refine CD_ ?_)));(case side2 => exact (RR_ HO226.out).2.1);rintro e w7 ⟨v228,rfl,ho0,hb⟩;have n0_:=am_ (Kd.R_elder' (by (with_reducible repeat (first|apply RA_|apply RN_|apply RD_));exact HO226.out) (Kd.R_base ho0) hb);have n1_:=am_ (RL_ (Kd.R_new' ho0 (Kd.R_lt (by (with_reducible repeat (first|apply RA_|apply RN_|apply RD_));exact HO226.out))) (bz_ (by repeat (first|(with_reducible first|exact HB.out|apply bA_|apply bN_|apply b1_)|exact HB.out))));have n2_:=am_ (bs_ (by repeat (first|(with_reducible first|exact HB.out|apply bA_|apply bN_|apply b1_)|exact HB.out)) hb);clear HO226;clear HB;have HO226:=n0_;have HO229:=n1_;have HB:=n2_;clear n0_ n1_ n2_;(try clear hb);(try clear hb2);(try clear hk);(try clear hi);(try clear ho0))))
 (try simp only [Act.put,Lx_,Ly_,Lz_])
 go_cut [21] (fun v21 wc => ∃ (kq : Nat) (x21_3 : Bool),v21 = .bool x21_3 ∧ Aside0 (railplanlaw25_ClosureMerge.j0 kq t224 t227 x21_3 = some r) ∧ Aside0 (kq ≤ k) ∧ Aside0 (Kd.R k27 27 wc w.heap.size (fun k_ => some k_ ≠ (v228 : Value).ownBlock) (.slice Ao6 t224.length co6) t224) ∧ Aside0 (Kd.R k27 27 wc w.heap.size (fun k_ => some k_ ≠ ((.slice Ao6 t224.length co6) : Value).ownBlock) v228 t227) ∧ Aside0 (Below w.heap.size w wc))
 case first =>
  (have H:=HC4.out);clear HC4;replace H:=be_ H;obtain ⟨t230,A80,H⟩:=H;replace H : (if t230 = true then ((closure_Merge.f k t227).bind fun t231 => ((api_Closure_16.f k t231 t227).bind fun t234 => (railplanlaw25_ClosureMerge.j0 k t224 t227 (!t234)))) else (railplanlaw25_ClosureMerge.j0 k t224 t227 true)) = some r:=H;(have A8:=am_ A80);clear A80
  by_cases c9 : t230 = true
  ·subst c9
   (have H1 : ((closure_Merge.f k t227).bind fun t231 => ((api_Closure_16.f k t231 t227).bind fun t234 => (railplanlaw25_ClosureMerge.j0 k t224 t227 (!t234)))) = some r:=by rw [if_pos rfl] at H;exact H);clear H;(have H:=H1);clear H1;replace H:=be_ H;obtain ⟨t231,A100,H⟩:=H;replace H : ((api_Closure_16.f k t231 t227).bind fun t234 => (railplanlaw25_ClosureMerge.j0 k t224 t227 (!t234))) = some r:=H;(have A10:=am_ A100);clear A100;replace H:=be_ H;obtain ⟨t234,A110,H⟩:=H;replace H : (railplanlaw25_ClosureMerge.j0 k t224 t227 (!t234)) = some r:=H;(have A11:=am_ A110);clear A110;(have H':=am_ H);clear H;obtain ⟨Ao12,co12,eo12⟩:=RS_ HO229.out;subst eo12;(go_wp2_with (first|(go_at_call 13;(with_reducible refine (closure_Check.calls k _ _ t227 true _ ?side1 ?side2 A8.out).mono ?_);(case side1 => repeat (first|exact (RR_ HO229.out).2.2|(with_reducible first|refine CA_ ?_ _|refine CN_ ?_ _|refine CD_ ?_)));(case side2 => exact (RR_ HO229.out).2.1);rintro e w13 ⟨rfl,hb⟩;have n0_:=am_ (RB_ (by (with_reducible repeat (first|apply RA_|apply RN_|apply RD_));exact HO226.out) hb);have n1_:=am_ (RB_ (by (with_reducible repeat (first|apply RA_|apply RN_|apply RD_));exact HO229.out) hb);have n2_:=am_ (bs_ (by repeat (first|(with_reducible first|exact HB.out|apply bA_|apply bN_|apply b1_)|exact HB.out)) hb);clear HO226;clear HO229;clear HB;have HO226:=n0_;have HO229:=n1_;have HB:=n2_;clear n0_ n1_ n2_;(try clear hb);(try clear hb2);(try clear hk);(try clear hi))|(go_at_call 15;(with_reducible refine (closure_Merge.calls k _ _ t227 t231 _ ?side1 ?side2 A10.out).mono ?_);(case side1 => repeat (first|exact (RR_ HO229.out).2.2|(with_reducible first|refine CA_ ?_ _|refine CN_ ?_ _|refine CD_ ?_)));(case side2 => exact (RR_ HO229.out).2.1);rintro e w14 ⟨v232,rfl,ho0,hb⟩;have n0_:=am_ (Kd.R_elder' (by (with_reducible repeat (first|apply RA_|apply RN_|apply RD_));exact HO226.out) (Kd.R_base ho0) hb);have n1_:=am_ (Kd.R_elder' (by (with_reducible repeat (first|apply RA_|apply RN_|apply RD_));exact HO229.out) (Kd.R_base ho0) hb);have n2_:=am_ (RL_ (Kd.R_new' (Kd.R_new' ho0 (Kd.R_lt (by (with_reducible repeat (first|apply RA_|apply RN_|apply RD_));exact HO226.out))) (Kd.R_lt (by (with_reducible repeat (first|apply RA_|apply RN_|apply RD_));exact HO229.out))) (bz_ (by repeat (first|(with_reducible first|exact HB.out|apply bA_|apply bN_|apply b1_)|exact HB.out))));have n3_:=am_ (bs_ (by repeat (first|(with_reducible first|exact HB.out|apply bA_|apply bN_|apply b1_)|exact HB.out)) hb);clear HO226;clear HO229;clear HB;have HO226:=n0_;have HO229:=n1_;have HO233:=n2_;have HB:=n3_;clear n0_ n1_ n2_ n3_;(try clear hb);(try clear hb2);(try clear hk);(try clear hi);(try clear ho0);obtain ⟨Ao15,co15,eo15⟩:=RS_ HO233.out;subst eo15)|(go_at_call 16;(with_reducible refine (api_Closure_16.calls k _ _ t231 _ _ t227 t234 _ ?side1 ?side2 ?side3 ?side4 A11.out).mono ?_);(case side1 => repeat (first|exact (RR_ HO233.out).2.2|(with_reducible first|refine CA_ ?_ _|refine CN_ ?_ _|refine CD_ ?_)));(case side2 => exact (RR_ HO233.out).2.1);(case side3 => repeat (first|exact (RR_ HO229.out).2.2|(with_reducible first|refine CA_ ?_ _|refine CN_ ?_ _|refine CD_ ?_)));(case side4 => exact (RR_ HO229.out).2.1);rintro e w' ⟨rfl,⟨nd,rfl⟩⟩;(try first|exact ⟨rfl,_,World.drewN_drewN _ _ _⟩|exact ⟨rfl,_,Eq.trans (World.drewN_drewN _ _ _) (congrArg (World.drewN _) (Nat.add_assoc _ _ _))⟩))));(repeat (go_quiet (first|(go_at_call 13;(with_reducible refine (closure_Check.calls k _ _ t227 true _ ?side1 ?side2 A8.out).mono ?_);(case side1 => repeat (first|exact (RR_ HO229.out).2.2|(with_reducible first|refine CA_ ?_ _|refine CN_ ?_ _|refine CD_ ?_)));(case side2 => exact (RR_ HO229.out).2.1);rintro e w13 ⟨rfl,hb⟩;have n0_:=am_ (RB_ (by (with_reducible repeat (first|apply RA_|apply RN_|apply RD_));exact HO226.out) hb);have n1_:=am_ (RB_ (by (with_reducible repeat (first|apply RA_|apply RN_|apply RD_));exact HO229.out) hb);have n2_:=am_ (bs_ (by repeat (first|(with_reducible first|exact HB.out|apply bA_|apply bN_|apply b1_)|exact HB.out)) hb);clear HO226;clear HO229;clear HB;have HO226:=n0_;have HO229:=n1_;have HB:=n2_;clear n0_ n1_ n2_;(try clear hb);(try clear hb2);(try clear hk);(try clear hi))|(go_at_call 15;(with_reducible refine (closure_Merge.calls k _ _ t227 t231 _ ?side1 ?side2 A10.out).mono ?_);(case side1 => repeat (first|exact (RR_ HO229.out).2.2|(with_reducible first|refine CA_ ?_ _|refine CN_ ?_ _|refine CD_ ?_)));(case side2 => exact (RR_ HO229.out).2.1);rintro e w14 ⟨v232,rfl,ho0,hb⟩;have n0_:=am_ (Kd.R_elder' (by (with_reducible repeat (first|apply RA_|apply RN_|apply RD_));exact HO226.out) (Kd.R_base ho0) hb);have n1_:=am_ (Kd.R_elder' (by (with_reducible repeat (first|apply RA_|apply RN_|apply RD_));exact HO229.out) (Kd.R_base ho0) hb);have n2_:=am_ (RL_ (Kd.R_new' (Kd.R_new' ho0 (Kd.R_lt (by (with_reducible repeat (first|apply RA_|apply RN_|apply RD_));exact HO226.out))) (Kd.R_lt (by (with_reducible repeat (first|apply RA_|apply RN_|apply RD_));exact HO229.out))) (bz_ (by repeat (first|(with_reducible first|exact HB.out|apply bA_|apply bN_|apply b1_)|exact HB.out))));have n3_:=am_ (bs_ (by repeat (first|(with_reducible first|exact HB.out|apply bA_|apply bN_|apply b1_)|exact HB.out)) hb);clear HO226;clear HO229;clear HB;have HO226:=n0_;have HO229:=n1_;have HO233:=n2_;have HB:=n3_;clear n0_ n1_ n2_ n3_;(try clear hb);(try clear hb2);(try clear hk);(try clear hi);(try clear ho0);obtain ⟨Ao15,co15,eo15⟩:=RS_ HO233.out;subst eo15)|(go_at_call 16;(with_reducible refine (api_Closure_16.calls k _ _ t231 _ _ t227 t234 _ ?side1 ?side2 ?side3 ?side4 A11.out).mono ?_);(case side1 => repeat (first|exact (RR_ HO233.out).2.2|(with_reducible first|refine CA_ ?_ _|refine CN_ ?_ _|refine CD_ ?_)));(case side2 => exact (RR_ HO233.out).2.1);(case side3 => repeat (first|exact (RR_ HO229.out).2.2|(with_reducible first|refine CA_ ?_ _|refine CN_ ?_ _|refine CD_ ?_)));(case side4 => exact (RR_ HO229.out).2.1);rintro e w' ⟨rfl,⟨nd,rfl⟩⟩;(try first|exact ⟨rfl,_,World.drewN_drewN _ _ _⟩|exact ⟨rfl,_,Eq.trans (World.drewN_drewN _ _ _) (congrArg (World.drewN _) (Nat.add_assoc _ _ _))⟩)));try go_wp2_with (first|(go_at_call 13;(with_reducible refine (closure_Check.calls k _ _ t227 true _ ?side1 ?side2 A8.out).mono ?_);(case side1 => repeat (first|exact (RR_ HO229.out).2.2|(with_reducible first|refine CA_ ?_ _|refine CN_ ?_ _|refine CD_ ?_)));(case side2 => exact (RR_ HO229.out).2.1);rintro e w13 ⟨rfl,hb⟩;have n0_:=am_ (RB_ (by (with_reducible repeat (first|apply RA_|apply RN_|apply RD_));exact HO226.out) hb);have n1_:=am_ (RB_ (by (with_reducible repeat (first|apply RA_|apply RN_|apply RD_));exact HO229.out) hb);have n2_:=am_ (bs_ (by repeat (first|(with_reducible first|exact HB.out|apply bA_|apply bN_|apply b1_)|exact HB.out)) hb);clear HO226;clear HO229;clear HB;have HO226:=n0_;have HO229:=n1_;have HB:=n2_;clear n0_ n1_ n2_;(try clear hb);(try clear hb2);(try clear hk);(try clear hi))|(go_at_call 15;(with_reducible refine (closure_Merge.calls k _ _ t227 t231 _ ?side1 ?side2 A10.out).mono ?_);(case side1 => repeat (first|exact (RR_ HO229.out).2.2|(with_reducible first|refine CA_ ?_ _|refine CN_ ?_ _|refine CD_ ?_)));(case side2 => exact (RR_ HO229.out).2.1);rintro e w14 ⟨v232,rfl,ho0,hb⟩;have n0_:=am_ (Kd.R_elder' (by (with_reducible repeat (first|apply RA_|apply RN_|apply RD_));exact HO226.out) (Kd.R_base ho0) hb);have n1_:=am_ (Kd.R_elder' (by (with_reducible repeat (first|apply RA_|apply RN_|apply RD_));exact HO229.out) (Kd.R_base ho0) hb);have n2_:=am_ (RL_ (Kd.R_new' (Kd.R_new' ho0 (Kd.R_lt (by (with_reducible repeat (first|apply RA_|apply RN_|apply RD_));exact HO226.out))) (Kd.R_lt (by (with_reducible repeat (first|apply RA_|apply RN_|apply RD_));exact HO229.out))) (bz_ (by repeat (first|(with_reducible first|exact HB.out|apply bA_|apply bN_|apply b1_)|exact HB.out))));have n3_:=am_ (bs_ (by repeat (first|(with_reducible first|exact HB.out|apply bA_|apply bN_|apply b1_)|exact HB.out)) hb);clear HO226;clear HO229;clear HB;have HO226:=n0_;have HO229:=n1_;have HO233:=n2_;have HB:=n3_;clear n0_ n1_ n2_ n3_;(try clear hb);(try clear hb2);(try clear hk);(try clear hi);(try clear ho0);obtain ⟨Ao15,co15,eo15⟩:=RS_ HO233.out;subst eo15)|(go_at_call 16;(with_reducible refine (api_Closure_16.calls k _ _ t231 _ _ t227 t234 _ ?side1 ?side2 ?side3 ?side4 A11.out).mono ?_);(case side1 => repeat (first|exact (RR_ HO233.out).2.2|(with_reducible first|refine CA_ ?_ _|refine CN_ ?_ _|refine CD_ ?_)));(case side2 => exact (RR_ HO233.out).2.1);(case side3 => repeat (first|exact (RR_ HO229.out).2.2|(with_reducible first|refine CA_ ?_ _|refine CN_ ?_ _|refine CD_ ?_)));(case side4 => exact (RR_ HO229.out).2.1);rintro e w' ⟨rfl,⟨nd,rfl⟩⟩;(try first|exact ⟨rfl,_,World.drewN_drewN _ _ _⟩|exact ⟨rfl,_,Eq.trans (World.drewN_drewN _ _ _) (congrArg (World.drewN _) (Nat.add_assoc _ _ _))⟩)))));(go_meet)
   case rel => exact ⟨_,(!t234),(by first|rfl|(simp;done)|(simp [*];done)),H',⟨by first|omega|exact Nat.le_refl _⟩,⟨by (with_reducible repeat (first|apply RA_|apply RN_|apply RD_));exact RM_ HO226.out (fun _ hk => hk.1.2)⟩,⟨by (with_reducible repeat (first|apply RA_|apply RN_|apply RD_));exact RM_ HO229.out (fun _ hk => hk.1.2)⟩,⟨by repeat (first|(with_reducible first|exact HB.out|apply bA_|apply bN_|apply b1_)|exact HB.out)⟩⟩
  ·replace c9:=Bool.eq_false_iff.mpr c9
   subst c9;(have H1 : (railplanlaw25_ClosureMerge.j0 k t224 t227 true) = some r:=by rw [if_neg (show ¬ (false = true) by decide)] at H;exact H);clear H;(have H:=H1);clear H1;(have H':=am_ H);clear H;obtain ⟨Ao16,co16,eo16⟩:=RS_ HO229.out;subst eo16;(go_wp2_with (first|(go_at_call 13;(with_reducible refine (closure_Check.calls k _ _ t227 false _ ?side1 ?side2 A8.out).mono ?_);(case side1 => repeat (first|exact (RR_ HO229.out).2.2|(with_reducible first|refine CA_ ?_ _|refine CN_ ?_ _|refine CD_ ?_)));(case side2 => exact (RR_ HO229.out).2.1);rintro e w17 ⟨rfl,hb⟩;have n0_:=am_ (RB_ (by (with_reducible repeat (first|apply RA_|apply RN_|apply RD_));exact HO226.out) hb);have n1_:=am_ (RB_ (by (with_reducible repeat (first|apply RA_|apply RN_|apply RD_));exact HO229.out) hb);have n2_:=am_ (bs_ (by repeat (first|(with_reducible first|exact HB.out|apply bA_|apply bN_|apply b1_)|exact HB.out)) hb);clear HO226;clear HO229;clear HB;have HO226:=n0_;have HO229:=n1_;have HB:=n2_;clear n0_ n1_ n2_;(try clear hb);(try clear hb2);(try clear hk);(try clear hi))));(repeat (go_quiet (first|(go_at_call 13;(with_reducible refine (closure_Check.calls k _ _ t227 false _ ?side1 ?side2 A8.out).mono ?_);(case side1 => repeat (first|exact (RR_ HO229.out).2.2|(with_reducible first|refine CA_ ?_ _|refine CN_ ?_ _|refine CD_ ?_)));(case side2 => exact (RR_ HO229.out).2.1);rintro e w17 ⟨rfl,hb⟩;have n0_:=am_ (RB_ (by (with_reducible repeat (first|apply RA_|apply RN_|apply RD_));exact HO226.out) hb);have n1_:=am_ (RB_ (by (with_reducible repeat (first|apply RA_|apply RN_|apply RD_));exact HO229.out) hb);have n2_:=am_ (bs_ (by repeat (first|(with_reducible first|exact HB.out|apply bA_|apply bN_|apply b1_)|exact HB.out)) hb);clear HO226;clear HO229;clear HB;have HO226:=n0_;have HO229:=n1_;have HB:=n2_;clear n0_ n1_ n2_;(try clear hb);(try clear hb2);(try clear hk);(try clear hi)));try go_wp2_with (first|(go_at_call 13;(with_reducible refine (closure_Check.calls k _ _ t227 false _ ?side1 ?side2 A8.out).mono ?_);(case side1 => repeat (first|exact (RR_ HO229.out).2.2|(with_reducible first|refine CA_ ?_ _|refine CN_ ?_ _|refine CD_ ?_)));(case side2 => exact (RR_ HO229.out).2.1);rintro e w17 ⟨rfl,hb⟩;have n0_:=am_ (RB_ (by (with_reducible repeat (first|apply RA_|apply RN_|apply RD_));exact HO226.out) hb);have n1_:=am_ (RB_ (by (with_reducible repeat (first|apply RA_|apply RN_|apply RD_));exact HO229.out) hb);have n2_:=am_ (bs_ (by repeat (first|(with_reducible first|exact HB.out|apply bA_|apply bN_|apply b1_)|exact HB.out)) hb);clear HO226;clear HO229;clear HB;have HO226:=n0_;have HO229:=n1_;have HB:=n2_;clear n0_ n1_ n2_;(try clear hb);(try clear hb2);(try clear hk);(try clear hi)))));(go_meet)
   case rel => exact ⟨_,(true),(by first|rfl|(simp;done)|(simp [*];done)),H',⟨by first|omega|exact Nat.le_refl _⟩,⟨by (with_reducible repeat (first|apply RA_|apply RN_|apply RD_));exact RM_ HO226.out (fun _ hk => hk.2)⟩,⟨by (with_reducible repeat (first|apply RA_|apply RN_|apply RD_));exact RM_ HO229.out (fun _ hk => hk.2)⟩,⟨by repeat (first|(with_reducible first|exact HB.out|apply bA_|apply bN_|apply b1_)|exact HB.out)⟩⟩
 case rest =>
  clear HC4;(try clear p2);(try clear c4);(try clear c9);obtain ⟨kq,x21_3,rfl,HA,HJ3,HO_3,HO_4,HB⟩:=hcut;cases kq with
  | zero => exact absurd HA.out (by simp [railplanlaw25_ClosureMerge.j0])
  | succ kj3 =>
   (have H:=HA.out);clear HA;simp only [railplanlaw25_ClosureMerge.j0] at H
   by_cases c18 : x21_3 = true
   ·subst c18;((have H1 : (none) = some r:=by rw [if_pos rfl] at H;exact H);clear H;(have H:=H1);clear H1;(simp at H))
   ·replace c18:=Bool.eq_false_iff.mpr c18
    subst c18;(have H1 : (railplanlaw25_ClosureMerge.l0 kj3 t224 t227 1) = some r:=by rw [if_neg (show ¬ (false = true) by decide)] at H;exact H);clear H;(have H:=H1);clear H1;(have H':=am_ H);clear H;(go_wp2);(repeat (go_quiet (fail);try go_wp2));(go_loopg [5] kj3 (fun kq v5 w' => ∃ (x5_2 : Int),v5 = .int .i64 x5_2 ∧ Aside0 (railplanlaw25_ClosureMerge.l0 kq t224 t227 x5_2 = some r) ∧ Aside0 (kq ≤ kj3) ∧ Aside0 (Kd.R k27 27 w' w.heap.size (fun k_ => some k_ ≠ (v228 : Value).ownBlock) (.slice Ao6 t224.length co6) t224) ∧ Aside0 (Kd.R k27 27 w' w.heap.size (fun k_ => some k_ ≠ ((.slice Ao6 t224.length co6) : Value).ownBlock) v228 t227) ∧ Aside0 (Below w.heap.size w w')))
    case atStart => exact ⟨(1),(by first|rfl|(simp;done)|(simp [*];done)),H',⟨Nat.le_refl _⟩,⟨by (with_reducible repeat (first|apply RA_|apply RN_|apply RD_));exact HO_3.out⟩,⟨by (with_reducible repeat (first|apply RA_|apply RN_|apply RD_));exact HO_4.out⟩,⟨by repeat (first|(with_reducible first|exact HB.out|apply bA_|apply bN_|apply b1_)|exact HB.out)⟩⟩
    case round =>
     clear H';(try clear c1);(try clear p2);(try clear c4);(try clear c9);(try clear c18);(try clear p2);obtain ⟨x5_2,rfl,HA,HK2,HO_3,HO_4,HB⟩:=hrel;cases gk with
     | zero => exact absurd HA.out (by simp [railplanlaw25_ClosureMerge.l0])
     | succ k2 =>
      (have H:=HA.out);clear HA;simp only [railplanlaw25_ClosureMerge.l0] at H
      by_cases c19 : x5_2 < (t227.length : Int)
      ·rw [if_pos c19] at H
       (have c19b0:=decide_eq_true c19);clear c19
       by_cases c20 : 0 ≤ x5_2
       ·rw [if_pos c20] at H
        (have c20b0:=decide_eq_true c20);clear c20;obtain ⟨ji21,hji21⟩ : ∃ j_ : Int,(wrap64 (x5_2 - 1)) = j_:=⟨_,rfl⟩;(replace H : (if 0 ≤ (ji21) then (if (ji21) < (t227.length : Int) then (if ((rd_T27 t227 x5_2).f0) < ((rd_T27 t227 (ji21)).f0) then (none) else (if ((rd_T27 t227 x5_2).f0) = ((rd_T27 t227 (ji21)).f0) then (if ((rd_T27 t227 x5_2).f1) ≤ ((rd_T27 t227 (ji21)).f2) then (none) else (railplanlaw25_ClosureMerge.l0 k2 t224 t227 (wrap64 (x5_2 + 1)))) else (railplanlaw25_ClosureMerge.l0 k2 t224 t227 (wrap64 (x5_2 + 1))))) else (none)) else (none)) = some r:=by first|(rw [hji21] at H;exact H)|(simp only [hji21] at H ⊢;exact H));(have hji21w : (IntKind.i64.wrap (x5_2 - 1)) = ji21:=(i64_w _).trans hji21)
        by_cases c22 : 0 ≤ (ji21)
        ·rw [if_pos c22] at H
         (have c22b0:=decide_eq_true c22);clear c22
         by_cases c23 : (ji21) < (t227.length : Int)
         ·rw [if_pos c23] at H
          (have c23b0:=decide_eq_true c23);clear c23
          by_cases c24 : ((rd_T27 t227 x5_2).f0) < ((rd_T27 t227 (ji21)).f0)
          ·rw [if_pos c24] at H;(simp at H)
          ·rw [if_neg c24] at H
           (have c24b0:=decide_eq_false c24);clear c24
           by_cases c25 : ((rd_T27 t227 x5_2).f0) = ((rd_T27 t227 (ji21)).f0)
           ·rw [if_pos c25] at H
            (have c25b0 : (((rd_T27 t227 x5_2).f0) == ((rd_T27 t227 (ji21)).f0)) = true:=beq_iff_eq.mpr c25);(have c25b1 : (((rd_T27 t227 x5_2).f0) != ((rd_T27 t227 (ji21)).f0)) = false:=bne_eq_false_iff_eq.mpr c25);clear c25
            by_cases c26 : ((rd_T27 t227 x5_2).f1) ≤ ((rd_T27 t227 (ji21)).f2)
            ·rw [if_pos c26] at H;(simp at H)
            ·rw [if_neg c26] at H
             (have c26b0:=decide_eq_false c26);clear c26;(have H':=am_ H);clear H;obtain ⟨Ao27,co27,eo27⟩:=RS_ HO_4.out;subst eo27;(have p235 : 0 ≤ (x5_2 : Int):=of_decide_eq_true (by first|(with_reducible assumption)|assumption));(have q235 : x5_2 < (t227.length : Int):=of_decide_eq_true (by first|(with_reducible assumption)|assumption));obtain ⟨ad235,e235,hx235_0,hx235_1,hx235_2⟩:=at_T27 (RR_ HO_4.out).2.2 x5_2 p235 q235;cases e235;replace p235:=eq_true p235;replace q235:=eq_true q235;(have p236 : 0 ≤ ((ji21) : Int):=of_decide_eq_true (by first|(with_reducible assumption)|assumption));(have q236 : (ji21) < (t227.length : Int):=of_decide_eq_true (by first|(with_reducible assumption)|assumption));obtain ⟨ad236,e236,hx236_0,hx236_1,hx236_2⟩:=at_T27 (RR_ HO_4.out).2.2 (ji21) p236 q236;obtain rfl : ad235 = ad236:=(by injection e236);replace p236:=eq_true p236;replace q236:=eq_true q236;(have p237 : 0 ≤ (x5_2 : Int):=of_decide_eq_true (by first|(with_reducible assumption)|assumption));(have q237 : x5_2 < (t227.length : Int):=of_decide_eq_true (by first|(with_reducible assumption)|assumption));obtain ⟨ad237,e237,hx237_0,hx237_1,hx237_2⟩:=at_T27 (RR_ HO_4.out).2.2 x5_2 p237 q237;obtain rfl : ad235 = ad237:=(by injection e237);replace p237:=eq_true p237;replace q237:=eq_true q237;(have p238 : 0 ≤ ((ji21) : Int):=of_decide_eq_true (by first|(with_reducible assumption)|assumption));(have q238 : (ji21) < (t227.length : Int):=of_decide_eq_true (by first|(with_reducible assumption)|assumption));obtain ⟨ad238,e238,hx238_0,hx238_1,hx238_2⟩:=at_T27 (RR_ HO_4.out).2.2 (ji21) p238 q238;obtain rfl : ad235 = ad238:=(by injection e238);replace p238:=eq_true p238;replace q238:=eq_true q238;(have p239 : 0 ≤ (x5_2 : Int):=of_decide_eq_true (by first|(with_reducible assumption)|assumption));(have q239 : x5_2 < (t227.length : Int):=of_decide_eq_true (by first|(with_reducible assumption)|assumption));obtain ⟨ad239,e239,hx239_0,hx239_1,hx239_2⟩:=at_T27 (RR_ HO_4.out).2.2 x5_2 p239 q239;obtain rfl : ad235 = ad239:=(by injection e239);replace p239:=eq_true p239;replace q239:=eq_true q239;(have p240 : 0 ≤ ((ji21) : Int):=of_decide_eq_true (by first|(with_reducible assumption)|assumption));(have q240 : (ji21) < (t227.length : Int):=of_decide_eq_true (by first|(with_reducible assumption)|assumption));obtain ⟨ad240,e240,hx240_0,hx240_1,hx240_2⟩:=at_T27 (RR_ HO_4.out).2.2 (ji21) p240 q240;obtain rfl : ad235 = ad240:=(by injection e240);replace p240:=eq_true p240;replace q240:=eq_true q240;(go_wp2);(repeat (go_quiet (fail);try go_wp2));(go_roundg k2)
             case measure => have:=HJ3.out;have:=HK2.out;omega
             case rel => exact ⟨(wrap64 (x5_2 + 1)),(by first|rfl|(simp;done)|(simp [*];done)),H',⟨by have:=HJ3.out;have:=HK2.out;omega⟩,⟨by (with_reducible repeat (first|apply RA_|apply RN_|apply RD_));exact HO_3.out⟩,⟨by (with_reducible repeat (first|apply RA_|apply RN_|apply RD_));exact HO_4.out⟩,⟨by repeat (first|(with_reducible first|exact HB.out|apply bA_|apply bN_|apply b1_)|exact HB.out)⟩⟩
           ·rw [if_neg c25] at H
            (have c25b0 : (((rd_T27 t227 x5_2).f0) == ((rd_T27 t227 (ji21)).f0)) = false:=beq_eq_false_iff_ne.mpr c25);(have c25b1 : (((rd_T27 t227 x5_2).f0) != ((rd_T27 t227 (ji21)).f0)) = true:=bne_iff_ne.mpr c25);(have H':=am_ H);clear H;obtain ⟨Ao28,co28,eo28⟩:=RS_ HO_4.out;subst eo28;(have p235 : 0 ≤ (x5_2 : Int):=of_decide_eq_true (by first|(with_reducible assumption)|assumption));(have q235 : x5_2 < (t227.length : Int):=of_decide_eq_true (by first|(with_reducible assumption)|assumption));obtain ⟨ad235,e235,hx235_0,hx235_1,hx235_2⟩:=at_T27 (RR_ HO_4.out).2.2 x5_2 p235 q235;cases e235;replace p235:=eq_true p235;replace q235:=eq_true q235;(have p236 : 0 ≤ ((ji21) : Int):=of_decide_eq_true (by first|(with_reducible assumption)|assumption));(have q236 : (ji21) < (t227.length : Int):=of_decide_eq_true (by first|(with_reducible assumption)|assumption));obtain ⟨ad236,e236,hx236_0,hx236_1,hx236_2⟩:=at_T27 (RR_ HO_4.out).2.2 (ji21) p236 q236;obtain rfl : ad235 = ad236:=(by injection e236);replace p236:=eq_true p236;replace q236:=eq_true q236;(have p237 : 0 ≤ (x5_2 : Int):=of_decide_eq_true (by first|(with_reducible assumption)|assumption));(have q237 : x5_2 < (t227.length : Int):=of_decide_eq_true (by first|(with_reducible assumption)|assumption));obtain ⟨ad237,e237,hx237_0,hx237_1,hx237_2⟩:=at_T27 (RR_ HO_4.out).2.2 x5_2 p237 q237;obtain rfl : ad235 = ad237:=(by injection e237);replace p237:=eq_true p237;replace q237:=eq_true q237;(have p238 : 0 ≤ ((ji21) : Int):=of_decide_eq_true (by first|(with_reducible assumption)|assumption));(have q238 : (ji21) < (t227.length : Int):=of_decide_eq_true (by first|(with_reducible assumption)|assumption));obtain ⟨ad238,e238,hx238_0,hx238_1,hx238_2⟩:=at_T27 (RR_ HO_4.out).2.2 (ji21) p238 q238;obtain rfl : ad235 = ad238:=(by injection e238);replace p238:=eq_true p238;replace q238:=eq_true q238;(go_wp2);(repeat (go_quiet (fail);try go_wp2));(go_roundg k2)
            case measure => have:=HJ3.out;have:=HK2.out;omega
            case rel => exact ⟨(wrap64 (x5_2 + 1)),(by first|rfl|(simp;done)|(simp [*];done)),H',⟨by have:=HJ3.out;have:=HK2.out;omega⟩,⟨by (with_reducible repeat (first|apply RA_|apply RN_|apply RD_));exact HO_3.out⟩,⟨by (with_reducible repeat (first|apply RA_|apply RN_|apply RD_));exact HO_4.out⟩,⟨by repeat (first|(with_reducible first|exact HB.out|apply bA_|apply bN_|apply b1_)|exact HB.out)⟩⟩
         ·rw [if_neg c23] at H;(simp at H)
        ·rw [if_neg c22] at H;(simp at H)
       ·rw [if_neg c20] at H;(simp at H)
      ·rw [if_neg c19] at H
       (have c19b0:=decide_eq_false c19);clear c19;(have H':=am_ H);clear H;obtain ⟨Ao29,co29,eo29⟩:=RS_ HO_4.out;subst eo29;(go_wp2);(repeat (go_quiet (fail);try go_wp2));(go_loopg [6] k2 (fun kq v6 w' => ∃ (x6_3 : Int),v6 = .int .i64 x6_3 ∧ Aside0 (railplanlaw25_ClosureMerge.l1 kq t224 t227 x6_3 = some r) ∧ Aside0 (kq ≤ k2) ∧ Aside0 (Kd.R k27 27 w' w.heap.size (fun k_ => some k_ ≠ ((.slice Ao29 t227.length co29) : Value).ownBlock) (.slice Ao6 t224.length co6) t224) ∧ Aside0 (Kd.R k27 27 w' w.heap.size (fun k_ => some k_ ≠ ((.slice Ao6 t224.length co6) : Value).ownBlock) (.slice Ao29 t227.length co29) t227) ∧ Aside0 (Below w.heap.size w w')))
       case atStart => exact ⟨(0),(by first|rfl|(simp;done)|(simp [*];done)),H',⟨Nat.le_refl _⟩,⟨by (with_reducible repeat (first|apply RA_|apply RN_|apply RD_));exact HO_3.out⟩,⟨by (with_reducible repeat (first|apply RA_|apply RN_|apply RD_));exact HO_4.out⟩,⟨by repeat (first|(with_reducible first|exact HB.out|apply bA_|apply bN_|apply b1_)|exact HB.out)⟩⟩
       case round =>
        clear H';(try clear c1);(try clear c2);(try clear p2);(try clear q2);(try clear hx2);(try clear c4);(try clear p6);(try clear c9);(try clear c18);(try clear c19);(try clear c19b0);(try clear c20);(try clear c20b0);(try clear c22);(try clear c22b0);(try clear c23);(try clear c23b0);(try clear p23);(try clear q23);(try clear hx23);(try clear c24);(try clear c24b0);(try clear p24);(try clear q24);(try clear hx24);(try clear c25);(try clear c25b0);(try clear c25b1);(try clear c26);(try clear c26b0);(try clear hx235_0);(try clear hx235_1);(try clear hx235_2);(try clear hx236_0);(try clear hx236_1);(try clear hx236_2);(try clear hx237_0);(try clear hx237_1);(try clear hx237_2);(try clear hx238_0);(try clear hx238_1);(try clear hx238_2);(try clear hx239_0);(try clear hx239_1);(try clear hx239_2);(try clear hx240_0);(try clear hx240_1);(try clear hx240_2);(try clear p2);(try clear p235);(try clear p236);(try clear p237);(try clear p238);(try clear p239);(try clear p240);(try clear q235);(try clear q236);(try clear q237);(try clear q238);(try clear q239);(try clear q240);obtain ⟨x6_3,rfl,HA,HK3,HO_3,HO_4,HB⟩:=hrel;cases gk with
        | zero => exact absurd HA.out (by simp [railplanlaw25_ClosureMerge.l1])
        | succ k3 =>
         (have H:=HA.out);clear HA;simp only [railplanlaw25_ClosureMerge.l1] at H
         by_cases c30 : x6_3 < 6
         ·rw [if_pos c30] at H
          (have c30b0:=decide_eq_true c30);clear c30;(have H':=am_ H);clear H;(go_wp2);(repeat (go_quiet (fail);try go_wp2));(go_loopg [7] k3 (fun kq v7 w' => ∃ (x7_4 : Int),v7 = .int .i64 x7_4 ∧ Aside0 (railplanlaw25_ClosureMerge.l2 kq t224 t227 x6_3 x7_4 = some r) ∧ Aside0 (kq ≤ k3) ∧ Aside0 (Kd.R k27 27 w' w.heap.size (fun k_ => some k_ ≠ ((.slice Ao29 t227.length co29) : Value).ownBlock) (.slice Ao6 t224.length co6) t224) ∧ Aside0 (Kd.R k27 27 w' w.heap.size (fun k_ => some k_ ≠ ((.slice Ao6 t224.length co6) : Value).ownBlock) (.slice Ao29 t227.length co29) t227) ∧ Aside0 (Below w.heap.size w w')))
          case atStart => exact ⟨(0),(by first|rfl|(simp;done)|(simp [*];done)),H',⟨Nat.le_refl _⟩,⟨by (with_reducible repeat (first|apply RA_|apply RN_|apply RD_));exact HO_3.out⟩,⟨by (with_reducible repeat (first|apply RA_|apply RN_|apply RD_));exact HO_4.out⟩,⟨by repeat (first|(with_reducible first|exact HB.out|apply bA_|apply bN_|apply b1_)|exact HB.out)⟩⟩
          case round =>
           clear H';(try clear c1);(try clear c2);(try clear p2);(try clear q2);(try clear hx2);(try clear c3);(try clear c4);(try clear p6);(try clear c9);(try clear c18);(try clear c19);(try clear c19b0);(try clear c20);(try clear c20b0);(try clear c22);(try clear c22b0);(try clear c23);(try clear c23b0);(try clear p23);(try clear q23);(try clear hx23);(try clear c24);(try clear c24b0);(try clear p24);(try clear q24);(try clear hx24);(try clear c25);(try clear c25b0);(try clear c25b1);(try clear c26);(try clear c26b0);(try clear c30);(try clear c30b0);(try clear hx235_0);(try clear hx235_1);(try clear hx235_2);(try clear hx236_0);(try clear hx236_1);(try clear hx236_2);(try clear hx237_0);(try clear hx237_1);(try clear hx237_2);(try clear hx238_0);(try clear hx238_1);(try clear hx238_2);(try clear hx239_0);(try clear hx239_1);(try clear hx239_2);(try clear hx240_0);(try clear hx240_1);(try clear hx240_2);(try clear p2);(try clear p23);(try clear p235);(try clear p236);(try clear p237);(try clear p238);(try clear p239);(try clear p24);(try clear p240);(try clear p6);(try clear q2);(try clear q23);(try clear q235);(try clear q236);(try clear q237);(try clear q238);(try clear q239);(try clear q24);(try clear q240);obtain ⟨x7_4,rfl,HA,HK4,HO_3,HO_4,HB⟩:=hrel;cases gk with
           | zero => exact absurd HA.out (by simp [railplanlaw25_ClosureMerge.l2])
           | succ k4 =>
            (have H:=HA.out);clear HA;simp only [railplanlaw25_ClosureMerge.l2] at H
            by_cases c31 : x7_4 < 95
            ·rw [if_pos c31] at H
             (have c31b0:=decide_eq_true c31);clear c31;replace H:=be_ H;obtain ⟨t242,A320,H⟩:=H;replace H : ((closure_Open.f k4 t227 x6_3 x7_4).bind fun t243 => (if (t242 != t243) = true then (none) else ((closure_Open.f k4 t224 x6_3 x7_4).bind fun t244 => ((railplanref24_Open.f k4 t224 x6_3 x7_4).bind fun t245 => (if (t244 != t245) = true then (none) else (railplanlaw25_ClosureMerge.l2 k4 t224 t227 x6_3 (wrap64 (x7_4 + 1)))))))) = some r:=H;(have A32:=am_ A320);clear A320;replace H:=be_ H;obtain ⟨t243,A330,H⟩:=H;replace H : (if (t242 != t243) = true then (none) else ((closure_Open.f k4 t224 x6_3 x7_4).bind fun t244 => ((railplanref24_Open.f k4 t224 x6_3 x7_4).bind fun t245 => (if (t244 != t245) = true then (none) else (railplanlaw25_ClosureMerge.l2 k4 t224 t227 x6_3 (wrap64 (x7_4 + 1))))))) = some r:=H;(have A33:=am_ A330);clear A330
             by_cases c34 : (t242 != t243) = true
             ·rw [if_pos c34] at H;(simp at H)
             ·rw [if_neg c34] at H
              (have c34b0 : (t242 != t243) = false:=by simpa using c34);(try (have c34b1 : decide (t242 = t243) = true:=by simpa using c34));(try (have c34b2 : (t242 == t243) = true:=by simpa using c34));clear c34;replace H:=be_ H;obtain ⟨t244,A350,H⟩:=H;replace H : ((railplanref24_Open.f k4 t224 x6_3 x7_4).bind fun t245 => (if (t244 != t245) = true then (none) else (railplanlaw25_ClosureMerge.l2 k4 t224 t227 x6_3 (wrap64 (x7_4 + 1))))) = some r:=H;(have A35:=am_ A350);clear A350;obtain rfl : t242 = t244:=Option.some.inj (A32.out.symm.trans A35.out);replace H:=be_ H;obtain ⟨t245,A360,H⟩:=H;replace H : (if (t242 != t245) = true then (none) else (railplanlaw25_ClosureMerge.l2 k4 t224 t227 x6_3 (wrap64 (x7_4 + 1)))) = some r:=H;(have A36:=am_ A360);clear A360
              by_cases c37 : (t242 != t245) = true
              ·rw [if_pos c37] at H;(simp at H)
              ·rw [if_neg c37] at H
               (have c37b0 : (t242 != t245) = false:=by simpa using c37);(try (have c37b1 : decide (t242 = t245) = true:=by simpa using c37));(try (have c37b2 : (t242 == t245) = true:=by simpa using c37));clear c37;(have H':=am_ H);clear H;(go_wp2_with (first|(go_at_call 17;(with_reducible refine (closure_Open.calls k4 _ _ t224 x6_3 x7_4 t242 _ ?side1 ?side2 A32.out).mono ?_);(case side1 => repeat (first|exact (RR_ HO_3.out).2.2|(with_reducible first|refine CA_ ?_ _|refine CN_ ?_ _|refine CD_ ?_)));(case side2 => exact (RR_ HO_3.out).2.1);rintro e w38 ⟨rfl,hb⟩;have n0_:=am_ (RB_ (by (with_reducible repeat (first|apply RA_|apply RN_|apply RD_));exact HO_3.out) hb);have n1_:=am_ (RB_ (by (with_reducible repeat (first|apply RA_|apply RN_|apply RD_));exact HO_4.out) hb);have n2_:=am_ (bs_ (by repeat (first|(with_reducible first|exact HB.out|apply bA_|apply bN_|apply b1_)|exact HB.out)) hb);clear HO_3;clear HO_4;clear HB;have HO_3:=n0_;have HO_4:=n1_;have HB:=n2_;clear n0_ n1_ n2_;(try clear hb);(try clear hb2);(try clear hk);(try clear hi))|(go_at_call 17;(with_reducible refine (closure_Open.calls k4 _ _ t227 x6_3 x7_4 t243 _ ?side1 ?side2 A33.out).mono ?_);(case side1 => repeat (first|exact (RR_ HO_4.out).2.2|(with_reducible first|refine CA_ ?_ _|refine CN_ ?_ _|refine CD_ ?_)));(case side2 => exact (RR_ HO_4.out).2.1);rintro e w39 ⟨rfl,hb⟩;have n0_:=am_ (RB_ (by (with_reducible repeat (first|apply RA_|apply RN_|apply RD_));exact HO_3.out) hb);have n1_:=am_ (RB_ (by (with_reducible repeat (first|apply RA_|apply RN_|apply RD_));exact HO_4.out) hb);have n2_:=am_ (bs_ (by repeat (first|(with_reducible first|exact HB.out|apply bA_|apply bN_|apply b1_)|exact HB.out)) hb);clear HO_3;clear HO_4;clear HB;have HO_3:=n0_;have HO_4:=n1_;have HB:=n2_;clear n0_ n1_ n2_;(try clear hb);(try clear hb2);(try clear hk);(try clear hi))|(go_at_call 17;(with_reducible refine (closure_Open.calls k4 _ _ t224 x6_3 x7_4 t242 _ ?side1 ?side2 A35.out).mono ?_);(case side1 => repeat (first|exact (RR_ HO_3.out).2.2|(with_reducible first|refine CA_ ?_ _|refine CN_ ?_ _|refine CD_ ?_)));(case side2 => exact (RR_ HO_3.out).2.1);rintro e w40 ⟨rfl,hb⟩;have n0_:=am_ (RB_ (by (with_reducible repeat (first|apply RA_|apply RN_|apply RD_));exact HO_3.out) hb);have n1_:=am_ (RB_ (by (with_reducible repeat (first|apply RA_|apply RN_|apply RD_));exact HO_4.out) hb);have n2_:=am_ (bs_ (by repeat (first|(with_reducible first|exact HB.out|apply bA_|apply bN_|apply b1_)|exact HB.out)) hb);clear HO_3;clear HO_4;clear HB;have HO_3:=n0_;have HO_4:=n1_;have HB:=n2_;clear n0_ n1_ n2_;(try clear hb);(try clear hb2);(try clear hk);(try clear hi))|(go_at_call 18;(with_reducible refine (railplanref24_Open.calls k4 _ _ t224 x6_3 x7_4 t245 _ ?side1 ?side2 A36.out).mono ?_);(case side1 => repeat (first|exact (RR_ HO_3.out).2.2|(with_reducible first|refine CA_ ?_ _|refine CN_ ?_ _|refine CD_ ?_)));(case side2 => exact (RR_ HO_3.out).2.1);rintro e w41 ⟨rfl,hb⟩;have n0_:=am_ (RB_ (by (with_reducible repeat (first|apply RA_|apply RN_|apply RD_));exact HO_3.out) hb);have n1_:=am_ (RB_ (by (with_reducible repeat (first|apply RA_|apply RN_|apply RD_));exact HO_4.out) hb);have n2_:=am_ (bs_ (by repeat (first|(with_reducible first|exact HB.out|apply bA_|apply bN_|apply b1_)|exact HB.out)) hb);clear HO_3;clear HO_4;clear HB;have HO_3:=n0_;have HO_4:=n1_;have HB:=n2_;clear n0_ n1_ n2_;(try clear hb);(try clear hb2);(try clear hk);(try clear hi))));(repeat (go_quiet (first|(go_at_call 17;(with_reducible refine (closure_Open.calls k4 _ _ t224 x6_3 x7_4 t242 _ ?side1 ?side2 A32.out).mono ?_);(case side1 => repeat (first|exact (RR_ HO_3.out).2.2|(with_reducible first|refine CA_ ?_ _|refine CN_ ?_ _|refine CD_ ?_)));(case side2 => exact (RR_ HO_3.out).2.1);rintro e w38 ⟨rfl,hb⟩;have n0_:=am_ (RB_ (by (with_reducible repeat (first|apply RA_|apply RN_|apply RD_));exact HO_3.out) hb);have n1_:=am_ (RB_ (by (with_reducible repeat (first|apply RA_|apply RN_|apply RD_));exact HO_4.out) hb);have n2_:=am_ (bs_ (by repeat (first|(with_reducible first|exact HB.out|apply bA_|apply bN_|apply b1_)|exact HB.out)) hb);clear HO_3;clear HO_4;clear HB;have HO_3:=n0_;have HO_4:=n1_;have HB:=n2_;clear n0_ n1_ n2_;(try clear hb);(try clear hb2);(try clear hk);(try clear hi))|(go_at_call 17;(with_reducible refine (closure_Open.calls k4 _ _ t227 x6_3 x7_4 t243 _ ?side1 ?side2 A33.out).mono ?_);(case side1 => repeat (first|exact (RR_ HO_4.out).2.2|(with_reducible first|refine CA_ ?_ _|refine CN_ ?_ _|refine CD_ ?_)));(case side2 => exact (RR_ HO_4.out).2.1);rintro e w39 ⟨rfl,hb⟩;have n0_:=am_ (RB_ (by (with_reducible repeat (first|apply RA_|apply RN_|apply RD_));exact HO_3.out) hb);have n1_:=am_ (RB_ (by (with_reducible repeat (first|apply RA_|apply RN_|apply RD_));exact HO_4.out) hb);have n2_:=am_ (bs_ (by repeat (first|(with_reducible first|exact HB.out|apply bA_|apply bN_|apply b1_)|exact HB.out)) hb);clear HO_3;clear HO_4;clear HB;have HO_3:=n0_;have HO_4:=n1_;have HB:=n2_;clear n0_ n1_ n2_;(try clear hb);(try clear hb2);(try clear hk);(try clear hi))|(go_at_call 17;(with_reducible refine (closure_Open.calls k4 _ _ t224 x6_3 x7_4 t242 _ ?side1 ?side2 A35.out).mono ?_);(case side1 => repeat (first|exact (RR_ HO_3.out).2.2|(with_reducible first|refine CA_ ?_ _|refine CN_ ?_ _|refine CD_ ?_)));(case side2 => exact (RR_ HO_3.out).2.1);rintro e w40 ⟨rfl,hb⟩;have n0_:=am_ (RB_ (by (with_reducible repeat (first|apply RA_|apply RN_|apply RD_));exact HO_3.out) hb);have n1_:=am_ (RB_ (by (with_reducible repeat (first|apply RA_|apply RN_|apply RD_));exact HO_4.out) hb);have n2_:=am_ (bs_ (by repeat (first|(with_reducible first|exact HB.out|apply bA_|apply bN_|apply b1_)|exact HB.out)) hb);clear HO_3;clear HO_4;clear HB;have HO_3:=n0_;have HO_4:=n1_;have HB:=n2_;clear n0_ n1_ n2_;(try clear hb);(try clear hb2);(try clear hk);(try clear hi))|(go_at_call 18;(with_reducible refine (railplanref24_Open.calls k4 _ _ t224 x6_3 x7_4 t245 _ ?side1 ?side2 A36.out).mono ?_);(case side1 => repeat (first|exact (RR_ HO_3.out).2.2|(with_reducible first|refine CA_ ?_ _|refine CN_ ?_ _|refine CD_ ?_)));(case side2 => exact (RR_ HO_3.out).2.1);rintro e w41 ⟨rfl,hb⟩;have n0_:=am_ (RB_ (by (with_reducible repeat (first|apply RA_|apply RN_|apply RD_));exact HO_3.out) hb);have n1_:=am_ (RB_ (by (with_reducible repeat (first|apply RA_|apply RN_|apply RD_));exact HO_4.out) hb);have n2_:=am_ (bs_ (by repeat (first|(with_reducible first|exact HB.out|apply bA_|apply bN_|apply b1_)|exact HB.out)) hb);clear HO_3;clear HO_4;clear HB;have HO_3:=n0_;have HO_4:=n1_;have HB:=n2_;clear n0_ n1_ n2_;(try clear hb);(try clear hb2);(try clear hk);(try clear hi)));try go_wp2_with (first|(go_at_call 17;(with_reducible refine (closure_Open.calls k4 _ _ t224 x6_3 x7_4 t242 _ ?side1 ?side2 A32.out).mono ?_);(case side1 => repeat (first|exact (RR_ HO_3.out).2.2|(with_reducible first|refine CA_ ?_ _|refine CN_ ?_ _|refine CD_ ?_)));(case side2 => exact (RR_ HO_3.out).2.1);rintro e w38 ⟨rfl,hb⟩;have n0_:=am_ (RB_ (by (with_reducible repeat (first|apply RA_|apply RN_|apply RD_));exact HO_3.out) hb);have n1_:=am_ (RB_ (by (with_reducible repeat (first|apply RA_|apply RN_|apply RD_));exact HO_4.out) hb);have n2_:=am_ (bs_ (by repeat (first|(with_reducible first|exact HB.out|apply bA_|apply bN_|apply b1_)|exact HB.out)) hb);clear HO_3;clear HO_4;clear HB;have HO_3:=n0_;have HO_4:=n1_;have HB:=n2_;clear n0_ n1_ n2_;(try clear hb);(try clear hb2);(try clear hk);(try clear hi))|(go_at_call 17;(with_reducible refine (closure_Open.calls k4 _ _ t227 x6_3 x7_4 t243 _ ?side1 ?side2 A33.out).mono ?_);(case side1 => repeat (first|exact (RR_ HO_4.out).2.2|(with_reducible first|refine CA_ ?_ _|refine CN_ ?_ _|refine CD_ ?_)));(case side2 => exact (RR_ HO_4.out).2.1);rintro e w39 ⟨rfl,hb⟩;have n0_:=am_ (RB_ (by (with_reducible repeat (first|apply RA_|apply RN_|apply RD_));exact HO_3.out) hb);have n1_:=am_ (RB_ (by (with_reducible repeat (first|apply RA_|apply RN_|apply RD_));exact HO_4.out) hb);have n2_:=am_ (bs_ (by repeat (first|(with_reducible first|exact HB.out|apply bA_|apply bN_|apply b1_)|exact HB.out)) hb);clear HO_3;clear HO_4;clear HB;have HO_3:=n0_;have HO_4:=n1_;have HB:=n2_;clear n0_ n1_ n2_;(try clear hb);(try clear hb2);(try clear hk);(try clear hi))|(go_at_call 17;(with_reducible refine (closure_Open.calls k4 _ _ t224 x6_3 x7_4 t242 _ ?side1 ?side2 A35.out).mono ?_);(case side1 => repeat (first|exact (RR_ HO_3.out).2.2|(with_reducible first|refine CA_ ?_ _|refine CN_ ?_ _|refine CD_ ?_)));(case side2 => exact (RR_ HO_3.out).2.1);rintro e w40 ⟨rfl,hb⟩;have n0_:=am_ (RB_ (by (with_reducible repeat (first|apply RA_|apply RN_|apply RD_));exact HO_3.out) hb);have n1_:=am_ (RB_ (by (with_reducible repeat (first|apply RA_|apply RN_|apply RD_));exact HO_4.out) hb);have n2_:=am_ (bs_ (by repeat (first|(with_reducible first|exact HB.out|apply bA_|apply bN_|apply b1_)|exact HB.out)) hb);clear HO_3;clear HO_4;clear HB;have HO_3:=n0_;have HO_4:=n1_;have HB:=n2_;clear n0_ n1_ n2_;(try clear hb);(try clear hb2);(try clear hk);(try clear hi))|(go_at_call 18;(with_reducible refine (railplanref24_Open.calls k4 _ _ t224 x6_3 x7_4 t245 _ ?side1 ?side2 A36.out).mono ?_);(case side1 => repeat (first|exact (RR_ HO_3.out).2.2|(with_reducible first|refine CA_ ?_ _|refine CN_ ?_ _|refine CD_ ?_)));(case side2 => exact (RR_ HO_3.out).2.1);rintro e w41 ⟨rfl,hb⟩;have n0_:=am_ (RB_ (by (with_reducible repeat (first|apply RA_|apply RN_|apply RD_));exact HO_3.out) hb);have n1_:=am_ (RB_ (by (with_reducible repeat (first|apply RA_|apply RN_|apply RD_));exact HO_4.out) hb);have n2_:=am_ (bs_ (by repeat (first|(with_reducible first|exact HB.out|apply bA_|apply bN_|apply b1_)|exact HB.out)) hb);clear HO_3;clear HO_4;clear HB;have HO_3:=n0_;have HO_4:=n1_;have HB:=n2_;clear n0_ n1_ n2_;(try clear hb);(try clear hb2);(try clear hk);(try clear hi)))));(go_roundg k4)
               case measure => have:=HJ3.out;have:=HK2.out;have:=HK3.out;have:=HK4.out;omega
               case rel => exact ⟨(wrap64 (x7_4 + 1)),(by first|rfl|(simp;done)|(simp [*];done)),H',⟨by have:=HJ3.out;have:=HK2.out;have:=HK3.out;have:=HK4.out;omega⟩,⟨by (with_reducible repeat (first|apply RA_|apply RN_|apply RD_));exact HO_3.out⟩,⟨by (with_reducible repeat (first|apply RA_|apply RN_|apply RD_));exact HO_4.out⟩,⟨by repeat (first|(with_reducible first|exact HB.out|apply bA_|apply bN_|apply b1_)|exact HB.out)⟩⟩
            ·rw [if_neg c31] at H
             (have c31b0:=decide_eq_false c31);clear c31;(have H':=am_ H);clear H;(go_wp2);(repeat (go_quiet (fail);try go_wp2));(go_roundg k4)
             case measure => have:=HJ3.out;have:=HK2.out;have:=HK3.out;have:=HK4.out;omega
             case rel => exact ⟨(wrap64 (x6_3 + 1)),(by first|rfl|(simp;done)|(simp [*];done)),H',⟨by have:=HJ3.out;have:=HK2.out;have:=HK3.out;have:=HK4.out;omega⟩,⟨by (with_reducible repeat (first|apply RA_|apply RN_|apply RD_));exact HO_3.out⟩,⟨by (with_reducible repeat (first|apply RA_|apply RN_|apply RD_));exact HO_4.out⟩,⟨by repeat (first|(with_reducible first|exact HB.out|apply bA_|apply bN_|apply b1_)|exact HB.out)⟩⟩
         ·rw [if_neg c30] at H;((have c30b0:=decide_eq_false c30);clear c30;replace H:=be_ H;obtain ⟨t241,A420,H⟩:=H;replace H : (some t241) = some r:=H;(have A42:=am_ A420);clear A420;obtain rfl:=Option.some.inj H;(go_wp2_with (first|(go_at_call 14;(with_reducible refine (railplanlaw25_awake.calls k3  t241 _ A42.out).mono ?_);rintro e w43 ⟨rfl,hb⟩;have n0_:=am_ (RB_ (by (with_reducible repeat (first|apply RA_|apply RN_|apply RD_));exact HO_3.out) hb);have n1_:=am_ (RB_ (by (with_reducible repeat (first|apply RA_|apply RN_|apply RD_));exact HO_4.out) hb);have n2_:=am_ (bs_ (by repeat (first|(with_reducible first|exact HB.out|apply bA_|apply bN_|apply b1_)|exact HB.out)) hb);clear HO_3;clear HO_4;clear HB;have HO_3:=n0_;have HO_4:=n1_;have HB:=n2_;clear n0_ n1_ n2_;(try clear hb);(try clear hb2);(try clear hk);(try clear hi))));(repeat (go_quiet (first|(go_at_call 14;(with_reducible refine (railplanlaw25_awake.calls k3  t241 _ A42.out).mono ?_);rintro e w43 ⟨rfl,hb⟩;have n0_:=am_ (RB_ (by (with_reducible repeat (first|apply RA_|apply RN_|apply RD_));exact HO_3.out) hb);have n1_:=am_ (RB_ (by (with_reducible repeat (first|apply RA_|apply RN_|apply RD_));exact HO_4.out) hb);have n2_:=am_ (bs_ (by repeat (first|(with_reducible first|exact HB.out|apply bA_|apply bN_|apply b1_)|exact HB.out)) hb);clear HO_3;clear HO_4;clear HB;have HO_3:=n0_;have HO_4:=n1_;have HB:=n2_;clear n0_ n1_ n2_;(try clear hb);(try clear hb2);(try clear hk);(try clear hi)));try go_wp2_with (first|(go_at_call 14;(with_reducible refine (railplanlaw25_awake.calls k3  t241 _ A42.out).mono ?_);rintro e w43 ⟨rfl,hb⟩;have n0_:=am_ (RB_ (by (with_reducible repeat (first|apply RA_|apply RN_|apply RD_));exact HO_3.out) hb);have n1_:=am_ (RB_ (by (with_reducible repeat (first|apply RA_|apply RN_|apply RD_));exact HO_4.out) hb);have n2_:=am_ (bs_ (by repeat (first|(with_reducible first|exact HB.out|apply bA_|apply bN_|apply b1_)|exact HB.out)) hb);clear HO_3;clear HO_4;clear HB;have HO_3:=n0_;have HO_4:=n1_;have HB:=n2_;clear n0_ n1_ n2_;(try clear hb);(try clear hb2);(try clear hk);(try clear hi)))));(go_ret);(exact ⟨by first|rfl|(simp [errW_none,errW_some] <;> rfl)|(simp [*,errW_none,errW_some] <;> rfl),by repeat (first|(with_reducible first|exact HB.out|apply bA_|apply bN_|apply b1_)|exact HB.out)⟩))

/-- THE ONE PURE STATEMENT of railplanlaw25_ClosureMerge: yours. -/
def railplanlaw25_ClosureMerge.Pure : Prop:=∀ (l0 : List Int),l0.length ≤ maxLen → l0.length * 8 ≤ 140737488351232 → (∀ x ∈ l0,(Lit.int .i64 x).wf = true) → ∃ k,railplanlaw25_ClosureMerge.f k l0 = some true
theorem railplanlaw25_ClosureMerge.walk (P : railplanlaw25_ClosureMerge.Pure) (a0 : Option Addr) (len0 cap0 : Nat) (z0 : List Int) (w : World) (w0 : (a0 = none ∧ len0 = 0 ∧ cap0 = 0 ∧ z0 = []) ∨ ∃ x,a0 = some x ∧ len0 ≤ cap0 ∧ cap0 ≤ maxLen ∧ z0.length = cap0 ∧ (∀ i,i < z0.length → w.cell? (x.add i) = some (.int .i64 (z0.getD i 0))) ∧ ∀ n ∈ z0,(Lit.int .i64 n).wf = true) (y0 : len0 * 8 ≤ 140737488351232) :
  Calls Try.prog 4 #[.slice a0 len0 cap0] w fun e w' => e = .returned (.bool true) ∧ Below w.heap.size w w':=by
 obtain ⟨l0,rfl,hr0,hm0,hw0,hc0⟩:=ReadsInt.ofRowC w0
 obtain ⟨k,h⟩:=P l0 hm0 y0 hw0
 refine (railplanlaw25_ClosureMerge.calls k _ _ l0 true w (Kd.C_of_reads (d:=(0 : Int)) (h1:=fun _ => rfl) hr0) hc0 h).mono ?_
 rintro e w' ⟨rfl,hd⟩
 exact ⟨rfl,hd⟩
end Go.Proofs.Ytiohandkjjmemaa.PAll
