-- Packed by wip/tools/pack.py of this session out of what plugprint.py and the kit's print wrote. Lean checks it.
import Derived.Test.YtfipfobadpealaaKS
import Derived.Test.YtfipfobadpealaaK30
import Derived.Test.YtfipfobadpealaaK33
namespace Go.Proofs.Ytfipfobadpealaa.PAll
open Go.RowKit Go.Proofs.YtfipfobadpealaaW.PrintWords Go.Proofs.YtfipfobadpealaaW.PrintLast Go.Proofs.YtfipfobadpealaaW.PrintMore
attribute [local go_sem] max2_int min2_int max_two min_two max_three min_three max_four min_four
set_option linter.unusedVariables false
set_option linter.unusedSimpArgs false
/-! ### railplanref19_Loop: function 37 -/
def railplanref19_Loop.l0 : Nat → Int → List Int → Int → Int → Option (Int × Bool × Int)
 | 0,_,_,_,_ => none
 | k + 1,x7,x8,x9,x10 => if x10 < x7 then (if 0 ≤ (wrap64 ((wrap64 (x10 * x7)) + x10)) then (if (wrap64 ((wrap64 (x10 * x7)) + x10)) < (x8.length : Int) then (railplanref19_Loop.l0 k x7 x8 (mn x9 (rd x8 (wrap64 ((wrap64 (x10 * x7)) + x10)))) (wrap64 (x10 + 1))) else (none)) else (none)) else (if x9 = 1152921504606846976 then (some (0,false,0)) else (some (x9,true,0)))
def railplanref19_Loop.f (k : Nat) (a0_0 : Int) (l0_1 : List (S59)) (l0_2 : List (S40)) (l1 : List Int) : Option (Int × Bool × Int):=(railplanref11_Feasible.f k a0_0 l0_1 l0_2 l1).bind fun t509 => (if t509 = true then ((railplanref19_distances.f k a0_0 l0_1 l0_2 l1).bind fun t510 => (railplanref19_Loop.l0 k (l0_1.length : Int) t510 1152921504606846976 0)) else (some (0,false,1)))
theorem railplanref19_Loop.mono_l : ∀ k,(∀ y0 y1 y2 y3,LeO (railplanref19_Loop.l0 k y0 y1 y2 y3) (railplanref19_Loop.l0 (k + 1) y0 y1 y2 y3))
 | 0 => fun _ _ _ _ r h => by simp [railplanref19_Loop.l0] at h
 | k + 1 => by
  have ih0:=railplanref19_Loop.mono_l k
  ·intro y0 y1 y2 y3
   unfold railplanref19_Loop.l0
   repeat' first
   | (with_reducible exact ih0 _ _ _ _)
   | (with_reducible exact railplanref11_Feasible.mono _ _ _ _ _)
   | (with_reducible exact railplanref19_distances.mono _ _ _ _ _)
   | (with_reducible exact LeO.refl _)
   | (with_reducible exact LeO.none _)
   | (with_reducible refine LeO.ite ?_ ?_)
   | (with_reducible refine LeO.bind ?_ (fun _ => ?_))
   | exact ih0 _ _ _ _
   | exact railplanref11_Feasible.mono _ _ _ _ _
   | exact railplanref19_distances.mono _ _ _ _ _
   | exact LeO.none _
   | refine LeO.ite ?_ ?_
   | refine LeO.bind ?_ (fun _ => ?_)
theorem railplanref19_Loop.mono : ∀ a0 a1 a2 a3 k,LeO (railplanref19_Loop.f k a0 a1 a2 a3) (railplanref19_Loop.f (k + 1) a0 a1 a2 a3):=by
 intro a0 a1 a2 a3 k;(have ih0:=railplanref19_Loop.mono_l k);(unfold railplanref19_Loop.f)
 repeat' first
   | (with_reducible exact ih0 _ _ _ _)
   | (with_reducible exact railplanref11_Feasible.mono _ _ _ _ _)
   | (with_reducible exact railplanref19_distances.mono _ _ _ _ _)
   | (with_reducible exact LeO.refl _)
   | (with_reducible exact LeO.none _)
   | (with_reducible refine LeO.ite ?_ ?_)
   | (with_reducible refine LeO.bind ?_ (fun _ => ?_))
   | exact ih0 _ _ _ _
   | exact railplanref11_Feasible.mono _ _ _ _ _
   | exact railplanref19_distances.mono _ _ _ _ _
   | exact LeO.none _
   | refine LeO.ite ?_ ?_
   | refine LeO.bind ?_ (fun _ => ?_)
set_option maxHeartbeats 8000000 in
set_option maxRecDepth 100000 in
theorem railplanref19_Loop.calls (k : Nat) (a0_0 : Int) (A0_1 : Option Addr) (c0_1 : Nat) (l0_1 : List (S59)) (A0_2 : Option Addr) (c0_2 : Nat) (l0_2 : List (S40)) (A1 : Option Addr) (c1 : Nat) (l1 : List Int) (r1 : Int) (r2 : Bool) (r3 : Int) (w : World) (hr0_1 : Kd.C k59 w A0_1 l0_1.length l0_1) (hc0_1 : l0_1.length ≤ c0_1) (hr0_2 : Kd.C k40 w A0_2 l0_2.length l0_2) (hc0_2 : l0_2.length ≤ c0_2) (hr1 : Kd.C (Kd.int .i64) w A1 l1.length l1) (hc1 : l1.length ≤ c1) (h : railplanref19_Loop.f k a0_0 l0_1 l0_2 l1 = some (r1,r2,r3)) :
  Calls Try.prog 37 #[.agg #[.int .i64 a0_0,.slice A0_1 l0_1.length c0_1,.slice A0_2 l0_2.length c0_2],.slice A1 l1.length c1] w fun e w' => e = .returned (.tuple #[.int .i64 r1,.bool r2,.int .i64 r3]) ∧ Below w.heap.size w w':=by
 have hu26:=Try.underlying26
 have HR0_1:=am_ hr0_1
 have HC0_1:=am_ hc0_1
 clear hr0_1 hc0_1
 have HR0_2:=am_ hr0_2
 have HC0_2:=am_ hc0_2
 clear hr0_2 hc0_2
 have HR1:=am_ hr1
 have HC1:=am_ hc1
 clear hr1 hc1
 have HB:=am_ (Below.refl w.heap.size w)
 have H : ((railplanref11_Feasible.f k a0_0 l0_1 l0_2 l1).bind fun t509 => (if t509 = true then ((railplanref19_distances.f k a0_0 l0_1 l0_2 l1).bind fun t510 => (railplanref19_Loop.l0 k (l0_1.length : Int) t510 1152921504606846976 0)) else (some (0,false,1)))) = some (r1,r2,r3):=h
 clear h
 replace H:=be_ H
 obtain ⟨t509,A30,H⟩:=H
 replace H : (if t509 = true then ((railplanref19_distances.f k a0_0 l0_1 l0_2 l1).bind fun t510 => (railplanref19_Loop.l0 k (l0_1.length : Int) t510 1152921504606846976 0)) else (some (0,false,1))) = some (r1,r2,r3):=H
 have A3:=am_ A30
 clear A30
 by_cases c4 : t509 = true
 ·subst c4
  (have H1 : ((railplanref19_distances.f k a0_0 l0_1 l0_2 l1).bind fun t510 => (railplanref19_Loop.l0 k (l0_1.length : Int) t510 1152921504606846976 0)) = some (r1,r2,r3):=by rw [if_pos rfl] at H;exact H);clear H;(have H:=H1);clear H1;replace H:=be_ H;obtain ⟨t510,A50,H⟩:=H;replace H : (railplanref19_Loop.l0 k (l0_1.length : Int) t510 1152921504606846976 0) = some (r1,r2,r3):=H;(have A5:=am_ A50);clear A50;(have H':=am_ H);clear H;(go_enter Try.func37,Try.ntmps37);(go_wp2_with (first|((with_reducible refine gd_ (N:=2) rfl ?_);refine bx_ ?hg (N:=2) ?hd (cs:=#[.int .i64 a0_0,.slice A0_1 l0_1.length c0_1,.slice A0_2 l0_2.length c0_2]) (t:=26) ?hr ?_;(case hd => rfl);(case hg => rfl);(case hr => first|(go_simp;done)|(go_simp;rfl));intro gb508 hg w6 hbox hb;have n0_:=am_ (bs_ (by repeat (first|(with_reducible first|exact HB.out|apply bA_|apply bN_|apply b1_)|exact HB.out)) hb);have n1_:=am_ (hbox);have n2_:=am_ ((by rw [hg];exact (bz_ (by repeat (first|(with_reducible first|exact HB.out|apply bA_|apply bN_|apply b1_)|exact HB.out))) : w.heap.size ≤ gb508));have n3_:=am_ ((by rw [hg];exact (bz_ (by repeat (first|(with_reducible first|exact HB.out|apply bA_|apply bN_|apply b1_)|exact HB.out))) : w.heap.size ≤ gb508));clear HB;have HB:=n0_;have BK508:=n1_;have GW508:=n2_;have GE508:=n3_;clear n0_ n1_ n2_ n3_;clear hb hbox hg;have hcz7_0 : w6.cell? ⟨gb508,0,none⟩ = some (.int .i64 a0_0):=(kC_ BK508.out 0).trans rfl;have hcz7_1 : w6.cell? ⟨gb508,1,none⟩ = some (.slice A0_1 l0_1.length c0_1):=(kC_ BK508.out 1).trans rfl;have hcz7_2 : w6.cell? ⟨gb508,2,none⟩ = some (.slice A0_2 l0_2.length c0_2):=(kC_ BK508.out 2).trans rfl;have hfz7_0:=kF_ BK508.out 0;have hfz7_1:=kF_ BK508.out 1;have hfz7_2:=kF_ BK508.out 2)|((with_reducible refine gc_ (f:=43) rfl ?_);refine goesL_ (some 13) rfl rfl Try.func43 (by kernel_rfl) rfl #[.agg #[.int .i64 a0_0,.slice A0_1 l0_1.length c0_1,.slice A0_2 l0_2.length c0_2],.slice A1 l1.length c1] rfl (by (try simp only [List.map_toArray,List.map_cons,List.map_nil]);first|done|rfl|(simp only [List.length_drop,List.length_take];rfl)) ?_;(with_reducible refine (railplanref11_Feasible.calls k a0_0 _ _ l0_1 _ _ l0_2 _ _ l1 true _ ?side1 ?side2 ?side3 ?side4 ?side5 ?side6 A3.out).mono ?_);(case side1 => repeat (first|exact (CB_ HR0_1.out HB.out)|(with_reducible first|refine CA_ ?_ _|refine CN_ ?_ _|refine CD_ ?_)));(case side2 => exact HC0_1.out);(case side3 => repeat (first|exact (CB_ HR0_2.out HB.out)|(with_reducible first|refine CA_ ?_ _|refine CN_ ?_ _|refine CD_ ?_)));(case side4 => exact HC0_2.out);(case side5 => repeat (first|exact (CB_ HR1.out HB.out)|(with_reducible first|refine CA_ ?_ _|refine CN_ ?_ _|refine CD_ ?_)));(case side6 => exact HC1.out);rintro e w8 ⟨rfl,hb⟩;refine ⟨_,rfl,?_⟩;have n0_:=am_ (kB_ (g:=gb508) (o:=.cells #[.int .i64 a0_0,.slice A0_1 l0_1.length c0_1,.slice A0_2 l0_2.length c0_2] 26 (0,0)) (by (with_reducible repeat (first|refine kN_ ?_ _|refine kD_ ?_|refine kA_ ?_ _));exact BK508.out) hb);have n1_:=am_ (bs_ (by repeat (first|(with_reducible first|exact HB.out|apply bA_|apply bN_|apply b1_|refine bS_ ?_ GE508.out)|exact HB.out)) hb);clear BK508;clear HB;have BK508:=n0_;have HB:=n1_;clear n0_ n1_;(try clear hb);(try clear hb2);(try clear hk);(try clear hi);have hcz9_0 : w8.cell? ⟨gb508,0,none⟩ = some (.int .i64 a0_0):=(kC_ BK508.out 0).trans rfl;have hcz9_1 : w8.cell? ⟨gb508,1,none⟩ = some (.slice A0_1 l0_1.length c0_1):=(kC_ BK508.out 1).trans rfl;have hcz9_2 : w8.cell? ⟨gb508,2,none⟩ = some (.slice A0_2 l0_2.length c0_2):=(kC_ BK508.out 2).trans rfl;have hfz9_0:=kF_ BK508.out 0;have hfz9_1:=kF_ BK508.out 1;have hfz9_2:=kF_ BK508.out 2)|((with_reducible refine gc_ (f:=45) rfl ?_);refine goesL_ (some 20) rfl rfl Try.func45 (by kernel_rfl) rfl #[.agg #[.int .i64 a0_0,.slice A0_1 l0_1.length c0_1,.slice A0_2 l0_2.length c0_2],.slice A1 l1.length c1] rfl (by (try simp only [List.map_toArray,List.map_cons,List.map_nil]);first|done|rfl|(simp only [List.length_drop,List.length_take];rfl)) ?_;(with_reducible refine (railplanref19_distances.calls k a0_0 _ _ l0_1 _ _ l0_2 _ _ l1 t510 _ ?side1 ?side2 ?side3 ?side4 ?side5 ?side6 A5.out).mono ?_);(case side1 => repeat (first|exact (CB_ HR0_1.out HB.out)|(with_reducible first|refine CA_ ?_ _|refine CN_ ?_ _|refine CD_ ?_)));(case side2 => exact HC0_1.out);(case side3 => repeat (first|exact (CB_ HR0_2.out HB.out)|(with_reducible first|refine CA_ ?_ _|refine CN_ ?_ _|refine CD_ ?_)));(case side4 => exact HC0_2.out);(case side5 => repeat (first|exact (CB_ HR1.out HB.out)|(with_reducible first|refine CA_ ?_ _|refine CN_ ?_ _|refine CD_ ?_)));(case side6 => exact HC1.out);rintro e w10 ⟨v511,rfl,ho0,hb⟩;refine ⟨_,rfl,?_⟩;have n0_:=am_ (RL_ ho0 (bz_ (by repeat (first|(with_reducible first|exact HB.out|apply bA_|apply bN_|apply b1_|refine bS_ ?_ GE508.out)|exact HB.out))));have n1_:=am_ (kB_ (g:=gb508) (o:=.cells #[.int .i64 a0_0,.slice A0_1 l0_1.length c0_1,.slice A0_2 l0_2.length c0_2] 26 (0,0)) (by (with_reducible repeat (first|refine kN_ ?_ _|refine kD_ ?_|refine kA_ ?_ _));exact BK508.out) hb);have n2_:=am_ (bs_ (by repeat (first|(with_reducible first|exact HB.out|apply bA_|apply bN_|apply b1_|refine bS_ ?_ GE508.out)|exact HB.out)) hb);clear BK508;clear HB;have HO512:=n0_;have BK508:=n1_;have HB:=n2_;clear n0_ n1_ n2_;(try clear hb);(try clear hb2);(try clear hk);(try clear hi);(try clear ho0))));(go_loopg [9,10] k (fun kq v9 v10 w' => ∃ (x9_1 : Int) (x10_1 : Int),v9 = .int .i64 x9_1 ∧ v10 = .int .i64 x10_1 ∧ Aside0 (railplanref19_Loop.l0 kq (l0_1.length : Int) t510 x9_1 x10_1 = some (r1,r2,r3)) ∧ Aside0 (kq ≤ k) ∧ Aside0 (Kd.R (Kd.int .i64) 3 w' w.heap.size (fun _ => True) v511 t510) ∧ Aside0 (w'.heap[gb508]? = some (.cells #[.int .i64 a0_0,(.slice A0_1 l0_1.length c0_1),(.slice A0_2 l0_2.length c0_2)] 26 (0,0))) ∧ Aside0 (Below w.heap.size w w')))
  case atStart => exact ⟨(1152921504606846976),(0),(by first|rfl|(simp;done)|(simp [*];done)),(by first|rfl|(simp;done)|(simp [*];done)),H',⟨Nat.le_refl _⟩,⟨by (with_reducible repeat (first|apply RA_|apply RN_|apply RD_));exact HO512.out⟩,⟨by (with_reducible repeat (first|refine kN_ ?_ _|refine kD_ ?_|refine kA_ ?_ _));exact BK508.out⟩,⟨by repeat (first|(with_reducible first|exact HB.out|apply bA_|apply bN_|apply b1_|refine bS_ ?_ GE508.out)|exact HB.out)⟩⟩
  case round =>
   clear H';(try clear c1);(try clear p2);(try clear c3);(try clear c4);(try clear hcz7_0);(try clear hcz7_1);(try clear hcz7_2);(try clear hcz9_0);(try clear hcz9_1);(try clear hcz9_2);(try clear hfz7_0);(try clear hfz7_1);(try clear hfz7_2);(try clear hfz9_0);(try clear hfz9_1);(try clear hfz9_2);obtain ⟨x9_1,x10_1,rfl,rfl,HA,HK1,HO_8,BK508,HB⟩:=hrel;cases gk with
   | zero => exact absurd HA.out (by simp [railplanref19_Loop.l0])
   | succ k1 =>
    (have H:=HA.out);clear HA;simp only [railplanref19_Loop.l0] at H
    by_cases c11 : x10_1 < (l0_1.length : Int)
    ·rw [if_pos c11] at H
     (have c11b0:=decide_eq_true c11);clear c11;obtain ⟨ji12,hji12⟩ : ∃ j_ : Int,(wrap64 ((wrap64 (x10_1 * (l0_1.length : Int))) + x10_1)) = j_:=⟨_,rfl⟩;(replace H : (if 0 ≤ (ji12) then (if (ji12) < (t510.length : Int) then (railplanref19_Loop.l0 k1 (l0_1.length : Int) t510 (mn x9_1 (rd t510 (ji12))) (wrap64 (x10_1 + 1))) else (none)) else (none)) = some (r1,r2,r3):=by first|(rw [hji12] at H;exact H)|(simp only [hji12] at H ⊢;exact H));(have hji12w : (IntKind.i64.wrap ((wrap64 (x10_1 * (l0_1.length : Int))) + x10_1)) = ji12:=(i64_w _).trans hji12)
     by_cases c13 : 0 ≤ (ji12)
     ·rw [if_pos c13] at H
      (have c13b0:=decide_eq_true c13);clear c13
      by_cases c14 : (ji12) < (t510.length : Int)
      ·rw [if_pos c14] at H
       (have c14b0:=decide_eq_true c14);clear c14;obtain ⟨ji15,hji15⟩ : ∃ j_ : Int,(mn x9_1 (rd t510 (ji12))) = j_:=⟨_,rfl⟩;(replace H : (railplanref19_Loop.l0 k1 (l0_1.length : Int) t510 ji15 (wrap64 (x10_1 + 1))) = some (r1,r2,r3):=by first|(rw [hji15] at H;exact H)|(simp only [hji15] at H ⊢;exact H));(have hji15_ : (if (rd t510 (ji12)) < x9_1 then (rd t510 (ji12)) else x9_1) = ji15:=hji15);(have H':=am_ H);clear H;obtain ⟨Ao16,co16,eo16⟩:=RS_ HO_8.out;subst eo16;(have p513 : 0 ≤ ((ji12) : Int):=of_decide_eq_true (by first|(with_reducible assumption)|assumption));(have q513 : (ji12) < (t510.length : Int):=of_decide_eq_true (by first|(with_reducible assumption)|assumption));obtain ⟨ad513,e513,hx513_0⟩:=Kd.at_int (RR_ HO_8.out).2.2 (ji12) p513 q513;cases e513;replace p513:=eq_true p513;replace q513:=eq_true q513;(go_wp2);(go_roundg k1)
       case measure => have:=HK1.out;omega
       case rel => exact ⟨(ji15),(wrap64 (x10_1 + 1)),(by first|rfl|(simp;done)|(simp only [← hji15] <;> (first|rfl|simp))|(simp [*];done)),(by first|rfl|(simp;done)|(simp [*];done)),H',⟨by have:=HK1.out;omega⟩,⟨by (with_reducible repeat (first|apply RA_|apply RN_|apply RD_));exact HO_8.out⟩,⟨by (with_reducible repeat (first|refine kN_ ?_ _|refine kD_ ?_|refine kA_ ?_ _));exact BK508.out⟩,⟨by repeat (first|(with_reducible first|exact HB.out|apply bA_|apply bN_|apply b1_|refine bS_ ?_ GE508.out)|exact HB.out)⟩⟩
      ·rw [if_neg c14] at H;(simp at H)
     ·rw [if_neg c13] at H;(simp at H)
    ·rw [if_neg c11] at H
     (have c11b0:=decide_eq_false c11);clear c11
     by_cases c17 : x9_1 = 1152921504606846976
     (·rw [if_pos c17] at H;((have c17b0 : (x9_1 == 1152921504606846976) = true:=beq_iff_eq.mpr c17);(have c17b1 : (x9_1 != 1152921504606846976) = false:=bne_eq_false_iff_eq.mpr c17);clear c17;simp only [Option.some.injEq,Prod.mk.injEq] at H;obtain ⟨rfl,rfl,rfl⟩:=H;(go_wp2);(go_ret3);(exact ⟨by first|rfl|(simp [errW_none,errW_some] <;> rfl)|(simp [*,errW_none,errW_some] <;> rfl),by repeat (first|(with_reducible first|exact HB.out|apply bA_|apply bN_|apply b1_|refine bS_ ?_ GE508.out)|exact HB.out)⟩)));(·rw [if_neg c17] at H;((have c17b0 : (x9_1 == 1152921504606846976) = false:=beq_eq_false_iff_ne.mpr c17);(have c17b1 : (x9_1 != 1152921504606846976) = true:=bne_iff_ne.mpr c17);simp only [Option.some.injEq,Prod.mk.injEq] at H;obtain ⟨rfl,rfl,rfl⟩:=H;(go_wp2);(go_ret3);(exact ⟨by first|rfl|(simp [errW_none,errW_some] <;> rfl)|(simp [*,errW_none,errW_some] <;> rfl),by repeat (first|(with_reducible first|exact HB.out|apply bA_|apply bN_|apply b1_|refine bS_ ?_ GE508.out)|exact HB.out)⟩)))
 ·replace c4:=Bool.eq_false_iff.mpr c4;(subst c4;(have H1 : (some (0,false,1)) = some (r1,r2,r3):=by rw [if_neg (show ¬ (false = true) by decide)] at H;exact H);clear H;(have H:=H1);clear H1;simp only [Option.some.injEq,Prod.mk.injEq] at H;obtain ⟨rfl,rfl,rfl⟩:=H;(go_enter Try.func37,Try.ntmps37);(go_wp2_with (first|((with_reducible refine gd_ (N:=2) rfl ?_);refine bx_ ?hg (N:=2) ?hd (cs:=#[.int .i64 a0_0,.slice A0_1 l0_1.length c0_1,.slice A0_2 l0_2.length c0_2]) (t:=26) ?hr ?_;(case hd => rfl);(case hg => rfl);(case hr => first|(go_simp;done)|(go_simp;rfl));intro gb508 hg w18 hbox hb;have n0_:=am_ (bs_ (by repeat (first|(with_reducible first|exact HB.out|apply bA_|apply bN_|apply b1_)|exact HB.out)) hb);have n1_:=am_ (hbox);have n2_:=am_ ((by rw [hg];exact (bz_ (by repeat (first|(with_reducible first|exact HB.out|apply bA_|apply bN_|apply b1_)|exact HB.out))) : w.heap.size ≤ gb508));have n3_:=am_ ((by rw [hg];exact (bz_ (by repeat (first|(with_reducible first|exact HB.out|apply bA_|apply bN_|apply b1_)|exact HB.out))) : w.heap.size ≤ gb508));clear HB;have HB:=n0_;have BK508:=n1_;have GW508:=n2_;have GE508:=n3_;clear n0_ n1_ n2_ n3_;clear hb hbox hg;have hcz19_0 : w18.cell? ⟨gb508,0,none⟩ = some (.int .i64 a0_0):=(kC_ BK508.out 0).trans rfl;have hcz19_1 : w18.cell? ⟨gb508,1,none⟩ = some (.slice A0_1 l0_1.length c0_1):=(kC_ BK508.out 1).trans rfl;have hcz19_2 : w18.cell? ⟨gb508,2,none⟩ = some (.slice A0_2 l0_2.length c0_2):=(kC_ BK508.out 2).trans rfl;have hfz19_0:=kF_ BK508.out 0;have hfz19_1:=kF_ BK508.out 1;have hfz19_2:=kF_ BK508.out 2)|((with_reducible refine gc_ (f:=43) rfl ?_);refine goesL_ (some 13) rfl rfl Try.func43 (by kernel_rfl) rfl #[.agg #[.int .i64 a0_0,.slice A0_1 l0_1.length c0_1,.slice A0_2 l0_2.length c0_2],.slice A1 l1.length c1] rfl (by (try simp only [List.map_toArray,List.map_cons,List.map_nil]);first|done|rfl|(simp only [List.length_drop,List.length_take];rfl)) ?_;(with_reducible refine (railplanref11_Feasible.calls k a0_0 _ _ l0_1 _ _ l0_2 _ _ l1 false _ ?side1 ?side2 ?side3 ?side4 ?side5 ?side6 A3.out).mono ?_);(case side1 => repeat (first|exact (CB_ HR0_1.out HB.out)|(with_reducible first|refine CA_ ?_ _|refine CN_ ?_ _|refine CD_ ?_)));(case side2 => exact HC0_1.out);(case side3 => repeat (first|exact (CB_ HR0_2.out HB.out)|(with_reducible first|refine CA_ ?_ _|refine CN_ ?_ _|refine CD_ ?_)));(case side4 => exact HC0_2.out);(case side5 => repeat (first|exact (CB_ HR1.out HB.out)|(with_reducible first|refine CA_ ?_ _|refine CN_ ?_ _|refine CD_ ?_)));(case side6 => exact HC1.out);rintro e w20 ⟨rfl,hb⟩;refine ⟨_,rfl,?_⟩;have n0_:=am_ (kB_ (g:=gb508) (o:=.cells #[.int .i64 a0_0,.slice A0_1 l0_1.length c0_1,.slice A0_2 l0_2.length c0_2] 26 (0,0)) (by (with_reducible repeat (first|refine kN_ ?_ _|refine kD_ ?_|refine kA_ ?_ _));exact BK508.out) hb);have n1_:=am_ (bs_ (by repeat (first|(with_reducible first|exact HB.out|apply bA_|apply bN_|apply b1_|refine bS_ ?_ GE508.out)|exact HB.out)) hb);clear BK508;clear HB;have BK508:=n0_;have HB:=n1_;clear n0_ n1_;(try clear hb);(try clear hb2);(try clear hk);(try clear hi))));(go_ret3);(exact ⟨by first|rfl|(simp [errW_none,errW_some] <;> rfl)|(simp [*,errW_none,errW_some] <;> rfl),by repeat (first|(with_reducible first|exact HB.out|apply bA_|apply bN_|apply b1_|refine bS_ ?_ GE508.out)|exact HB.out)⟩))
end Go.Proofs.Ytfipfobadpealaa.PAll
