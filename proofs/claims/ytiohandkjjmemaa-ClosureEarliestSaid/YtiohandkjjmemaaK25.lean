-- Packed by wip/tools/pack.py of this session out of what plugprint.py and the kit's print wrote. Lean checks it.
import Derived.Test.YtiohandkjjmemaaKS
import Derived.Test.YtiohandkjjmemaaK21
import Derived.Test.YtiohandkjjmemaaK22
namespace Go.Proofs.Ytiohandkjjmemaa.PAll
open Go.RowKit Go.Proofs.YtiohandkjjmemaaW.PrintWords Go.Proofs.YtiohandkjjmemaaW.PrintLast Go.Proofs.YtiohandkjjmemaaW.PrintMore
attribute [local go_sem] max2_int min2_int max_two min_two max_three min_three max_four min_four
set_option linter.unusedVariables false
set_option linter.unusedSimpArgs false
/-! ### railplanref24_Merge: function 26 -/
mutual
def railplanref24_Merge.l0 : Nat → List (S27) → List (S27) → Int → Option ((List (S27)))
 | 0,_,_,_ => none
 | k + 1,x0,x3,x4 => if x4 < 144 then (railplanref24_Merge.l1 k x0 x3 x4 0) else (some x3)
def railplanref24_Merge.l1 : Nat → List (S27) → List (S27) → Int → Int → Option ((List (S27)))
 | 0,_,_,_,_ => none
 | k + 1,x0,x3,x4,x5 => railplanref24_Merge.l2 k x0 x3 x4 x5 (-1) x0 (x0.length : Int) 0
def railplanref24_Merge.l2 : Nat → List (S27) → List (S27) → Int → Int → Int → List (S27) → Int → Int → Option ((List (S27)))
 | 0,_,_,_,_,_,_,_,_ => none
 | k + 1,x0,x3,x4,x5,x6,x16,x17,x18 => if x18 < x17 then (if 0 ≤ x18 then (if x18 < (x16.length : Int) then (if ((rd_T27 x16 x18).f0) = x4 then (if ((rd_T27 x16 x18).f1) ≥ x5 then (if x6 < 0 then (railplanref24_Merge.l2 k x0 x3 x4 x5 ((rd_T27 x16 x18).f1) x16 x17 (wrap64 (x18 + 1))) else (if ((rd_T27 x16 x18).f1) < x6 then (railplanref24_Merge.l2 k x0 x3 x4 x5 ((rd_T27 x16 x18).f1) x16 x17 (wrap64 (x18 + 1))) else (railplanref24_Merge.l2 k x0 x3 x4 x5 x6 x16 x17 (wrap64 (x18 + 1))))) else (railplanref24_Merge.l2 k x0 x3 x4 x5 x6 x16 x17 (wrap64 (x18 + 1)))) else (railplanref24_Merge.l2 k x0 x3 x4 x5 x6 x16 x17 (wrap64 (x18 + 1)))) else (none)) else (none)) else (if x6 < 0 then (railplanref24_Merge.l0 k x0 x3 (wrap64 (x4 + 1))) else ((railplanref24_Next.f k x0 x4 x6).bind fun t319 => (if x3.length < 5864062014805 then (railplanref24_Merge.l1 k x0 (x3 ++ [(⟨x4,x6,t319⟩ : S27)]) x4 t319) else (none))))
end
def railplanref24_Merge.f (k : Nat) (l0 : List (S27)) : Option ((List (S27))):=(railplanref24_CheckClosures.f k l0).bind fun t316 => (if t316 = true then (railplanref24_Merge.l0 k l0 ([] : List (S27)) 0) else (some ([] : List (S27))))
theorem railplanref24_Merge.mono_l : ∀ k,(∀ y0 y1 y2,LeO (railplanref24_Merge.l0 k y0 y1 y2) (railplanref24_Merge.l0 (k + 1) y0 y1 y2)) ∧ (∀ y0 y1 y2 y3,LeO (railplanref24_Merge.l1 k y0 y1 y2 y3) (railplanref24_Merge.l1 (k + 1) y0 y1 y2 y3)) ∧ (∀ y0 y1 y2 y3 y4 y5 y6 y7,LeO (railplanref24_Merge.l2 k y0 y1 y2 y3 y4 y5 y6 y7) (railplanref24_Merge.l2 (k + 1) y0 y1 y2 y3 y4 y5 y6 y7))
 | 0 => ⟨fun _ _ _ r h => by simp [railplanref24_Merge.l0] at h,fun _ _ _ _ r h => by simp [railplanref24_Merge.l1] at h,fun _ _ _ _ _ _ _ _ r h => by simp [railplanref24_Merge.l2] at h⟩
 | k + 1 => by
  obtain ⟨ih0,ih1,ih2⟩:=railplanref24_Merge.mono_l k;refine ⟨?_,?_,?_⟩
  ·intro y0 y1 y2
   unfold railplanref24_Merge.l0
   repeat' first
   | (with_reducible exact ih0 _ _ _)
   | (with_reducible exact ih1 _ _ _ _)
   | (with_reducible exact ih2 _ _ _ _ _ _ _ _)
   | (with_reducible exact railplanref24_CheckClosures.mono _ _)
   | (with_reducible exact railplanref24_Next.mono _ _ _ _)
   | (with_reducible exact LeO.refl _)
   | (with_reducible exact LeO.none _)
   | (with_reducible refine LeO.ite ?_ ?_)
   | (with_reducible refine LeO.bind ?_ (fun _ => ?_))
   | exact ih0 _ _ _
   | exact ih1 _ _ _ _
   | exact ih2 _ _ _ _ _ _ _ _
   | exact railplanref24_CheckClosures.mono _ _
   | exact railplanref24_Next.mono _ _ _ _
   | exact LeO.none _
   | refine LeO.ite ?_ ?_
   | refine LeO.bind ?_ (fun _ => ?_)
  ·intro y0 y1 y2 y3
   unfold railplanref24_Merge.l1
   repeat' first
   | (with_reducible exact ih0 _ _ _)
   | (with_reducible exact ih1 _ _ _ _)
   | (with_reducible exact ih2 _ _ _ _ _ _ _ _)
   | (with_reducible exact railplanref24_CheckClosures.mono _ _)
   | (with_reducible exact railplanref24_Next.mono _ _ _ _)
   | (with_reducible exact LeO.refl _)
   | (with_reducible exact LeO.none _)
   | (with_reducible refine LeO.ite ?_ ?_)
   | (with_reducible refine LeO.bind ?_ (fun _ => ?_))
   | exact ih0 _ _ _
   | exact ih1 _ _ _ _
   | exact ih2 _ _ _ _ _ _ _ _
   | exact railplanref24_CheckClosures.mono _ _
   | exact railplanref24_Next.mono _ _ _ _
   | exact LeO.none _
   | refine LeO.ite ?_ ?_
   | refine LeO.bind ?_ (fun _ => ?_)
  ·intro y0 y1 y2 y3 y4 y5 y6 y7
   unfold railplanref24_Merge.l2
   repeat' first
   | (with_reducible exact ih0 _ _ _)
   | (with_reducible exact ih1 _ _ _ _)
   | (with_reducible exact ih2 _ _ _ _ _ _ _ _)
   | (with_reducible exact railplanref24_CheckClosures.mono _ _)
   | (with_reducible exact railplanref24_Next.mono _ _ _ _)
   | (with_reducible exact LeO.refl _)
   | (with_reducible exact LeO.none _)
   | (with_reducible refine LeO.ite ?_ ?_)
   | (with_reducible refine LeO.bind ?_ (fun _ => ?_))
   | exact ih0 _ _ _
   | exact ih1 _ _ _ _
   | exact ih2 _ _ _ _ _ _ _ _
   | exact railplanref24_CheckClosures.mono _ _
   | exact railplanref24_Next.mono _ _ _ _
   | exact LeO.none _
   | refine LeO.ite ?_ ?_
   | refine LeO.bind ?_ (fun _ => ?_)
theorem railplanref24_Merge.mono : ∀ a0 k,LeO (railplanref24_Merge.f k a0) (railplanref24_Merge.f (k + 1) a0):=by
 intro a0 k;obtain ⟨ih0,ih1,ih2⟩:=railplanref24_Merge.mono_l k;(unfold railplanref24_Merge.f)
 repeat' first
   | (with_reducible exact ih0 _ _ _)
   | (with_reducible exact ih1 _ _ _ _)
   | (with_reducible exact ih2 _ _ _ _ _ _ _ _)
   | (with_reducible exact railplanref24_CheckClosures.mono _ _)
   | (with_reducible exact railplanref24_Next.mono _ _ _ _)
   | (with_reducible exact LeO.refl _)
   | (with_reducible exact LeO.none _)
   | (with_reducible refine LeO.ite ?_ ?_)
   | (with_reducible refine LeO.bind ?_ (fun _ => ?_))
   | exact ih0 _ _ _
   | exact ih1 _ _ _ _
   | exact ih2 _ _ _ _ _ _ _ _
   | exact railplanref24_CheckClosures.mono _ _
   | exact railplanref24_Next.mono _ _ _ _
   | exact LeO.none _
   | refine LeO.ite ?_ ?_
   | refine LeO.bind ?_ (fun _ => ?_)
set_option maxHeartbeats 8000000 in
set_option maxRecDepth 100000 in
theorem railplanref24_Merge.calls (k : Nat) (A0 : Option Addr) (c0 : Nat) (l0 : List (S27)) (r : List (S27)) (w : World) (hr0 : Kd.C k27 w A0 l0.length l0) (hc0 : l0.length ≤ c0) (h : railplanref24_Merge.f k l0 = some r) :
  Calls Try.prog 26 #[.slice A0 l0.length c0] w fun e w' => ∃ v0_ : Value,e = .returned (v0_) ∧ Kd.R k27 27 w' w.heap.size (fun _ => True) v0_ r ∧ Below w.heap.size w w':=by
 have hu27:=Try.underlying27
 have HR0:=am_ hr0
 have HC0:=am_ hc0
 clear hr0 hc0
 have HB:=am_ (Below.refl w.heap.size w)
 have H : ((railplanref24_CheckClosures.f k l0).bind fun t316 => (if t316 = true then (railplanref24_Merge.l0 k l0 ([] : List (S27)) 0) else (some ([] : List (S27))))) = some r:=h
 clear h
 replace H:=be_ H
 obtain ⟨t316,A20,H⟩:=H
 replace H : (if t316 = true then (railplanref24_Merge.l0 k l0 ([] : List (S27)) 0) else (some ([] : List (S27)))) = some r:=H
 have A2:=am_ A20
 clear A20
 by_cases c3 : t316 = true
 ·subst c3
  (have H1 : (railplanref24_Merge.l0 k l0 ([] : List (S27)) 0) = some r:=by rw [if_pos rfl] at H;exact H);clear H;(have H:=H1);clear H1;(have H':=am_ H);clear H;(go_enter Try.func26,Try.ntmps26);(go_wp2_with (first|((with_reducible refine gc_ (f:=23) rfl ?_);refine goesL_ (some 10) rfl rfl Try.func23 (by kernel_rfl) rfl #[.slice A0 l0.length c0] rfl (by (try simp only [List.map_toArray,List.map_cons,List.map_nil]);first|done|rfl|(simp only [List.length_drop,List.length_take];rfl)) ?_;(with_reducible refine (railplanref24_CheckClosures.calls k _ _ l0 true _ ?side1 ?side2 A2.out).mono ?_);(case side1 => repeat (first|exact HR0.out|(with_reducible first|refine CA_ ?_ _|refine CN_ ?_ _|refine CD_ ?_)));(case side2 => exact HC0.out);rintro e w4 ⟨rfl,hb⟩;refine ⟨_,rfl,?_⟩;have n0_:=am_ (bs_ (by repeat (first|(with_reducible first|exact HB.out|apply bA_|apply bN_|apply b1_)|exact HB.out)) hb);clear HB;have HB:=n0_;clear n0_;(try clear hb);(try clear hb2);(try clear hk);(try clear hi))));(go_loopg [3,4] k (fun kq v3 v4 w' => ∃ (x3_1 : List (S27)) (x4_1 : Int),v4 = .int .i64 x4_1 ∧ Aside0 (railplanref24_Merge.l0 kq l0 x3_1 x4_1 = some r) ∧ Aside0 (kq ≤ k) ∧ Aside0 (Kd.R k27 27 w' w.heap.size (fun _ => True) v3 x3_1) ∧ Aside0 (Below w.heap.size w w')))
  case atStart => exact ⟨(([] : List (S27))),(0),(by first|rfl|(simp;done)|(simp [*];done)),H',⟨Nat.le_refl _⟩,⟨by first|exact Kd.R_nil _ _ _ _ _|exact Kd.N_nil _ _ _ _ _|exact Kd.V_nil _ _ _ _ _|exact Kd.Q_nil _ _ _ _ _|exact Kd.S_nil _ _ _ _ _⟩,⟨by repeat (first|(with_reducible first|exact HB.out|apply bA_|apply bN_|apply b1_)|exact HB.out)⟩⟩
  case round =>
   clear H';(try clear c2);(try clear p2);(try clear c3);obtain ⟨x3_1,x4_1,rfl,HA,HK1,HO_3,HB⟩:=hrel;cases gk with
   | zero => exact absurd HA.out (by simp [railplanref24_Merge.l0])
   | succ k1 =>
    (have H:=HA.out);clear HA;simp only [railplanref24_Merge.l0] at H
    by_cases c5 : x4_1 < 144
    ·rw [if_pos c5] at H
     (have c5b0:=decide_eq_true c5);clear c5;(have H':=am_ H);clear H;(go_wp2);(go_loopg [3,5] k1 (fun kq v3 v5 w' => ∃ (x3_2 : List (S27)) (x5_2 : Int),v5 = .int .i64 x5_2 ∧ Aside0 (railplanref24_Merge.l1 kq l0 x3_2 x4_1 x5_2 = some r) ∧ Aside0 (kq ≤ k1) ∧ Aside0 (Kd.R k27 27 w' w.heap.size (fun _ => True) v3 x3_2) ∧ Aside0 (Below w.heap.size w w')))
     case atStart => exact ⟨(x3_1),(0),(by first|rfl|(simp;done)|(simp [*];done)),H',⟨Nat.le_refl _⟩,⟨by (with_reducible repeat (first|apply RA_|apply RN_|apply RD_));exact HO_3.out⟩,⟨by repeat (first|(with_reducible first|exact HB.out|apply bA_|apply bN_|apply b1_)|exact HB.out)⟩⟩
     case round =>
      clear H';(try clear c2);(try clear p2);(try clear c3);(try clear c5);(try clear c5b0);(try clear p2);obtain ⟨x3_2,x5_2,rfl,HA,HK2,HO_3,HB⟩:=hrel;cases gk with
      | zero => exact absurd HA.out (by simp [railplanref24_Merge.l1])
      | succ k2 =>
       (have H:=HA.out);clear HA;simp only [railplanref24_Merge.l1] at H;(have H':=am_ H);clear H;(go_wp2);(go_loopg [6,18] k2 (fun kq v6 v18 w' => ∃ (x6_3 : Int) (x18_3 : Int),v6 = .int .i64 x6_3 ∧ v18 = .int .i64 x18_3 ∧ Aside0 (railplanref24_Merge.l2 kq l0 x3_2 x4_1 x5_2 x6_3 l0 (l0.length : Int) x18_3 = some r) ∧ Aside0 (kq ≤ k2) ∧ Aside0 (Kd.R k27 27 w' w.heap.size (fun _ => True) u3 x3_2) ∧ Aside0 (Below w.heap.size w w')))
       case atStart => exact ⟨((-1)),(0),(by first|rfl|(simp;done)|(simp [*];done)),(by first|rfl|(simp;done)|(simp [*];done)),H',⟨Nat.le_refl _⟩,⟨by (with_reducible repeat (first|apply RA_|apply RN_|apply RD_));exact HO_3.out⟩,⟨by repeat (first|(with_reducible first|exact HB.out|apply bA_|apply bN_|apply b1_)|exact HB.out)⟩⟩
       case round =>
        clear H';(try clear c2);(try clear p2);(try clear c3);(try clear c5);(try clear c5b0);(try clear p2);obtain ⟨x6_3,x18_3,rfl,rfl,HA,HK3,HO_3,HB⟩:=hrel;cases gk with
        | zero => exact absurd HA.out (by simp [railplanref24_Merge.l2])
        | succ k3 =>
         (have H:=HA.out);clear HA;simp only [railplanref24_Merge.l2] at H
         by_cases c6 : x18_3 < (l0.length : Int)
         ·rw [if_pos c6] at H
          (have c6b0:=decide_eq_true c6);clear c6
          by_cases c7 : 0 ≤ x18_3
          ·rw [if_pos c7] at H
           (have c7b0:=decide_eq_true c7);clear c7
           by_cases c8 : x18_3 < (l0.length : Int)
           ·rw [if_pos c8] at H
            (have c8b0:=decide_eq_true c8);clear c8
            by_cases c9 : ((rd_T27 l0 x18_3).f0) = x4_1
            ·rw [if_pos c9] at H
             (have c9b0 : (((rd_T27 l0 x18_3).f0) == x4_1) = true:=beq_iff_eq.mpr c9);(have c9b1 : (((rd_T27 l0 x18_3).f0) != x4_1) = false:=bne_eq_false_iff_eq.mpr c9);clear c9
             by_cases c10 : ((rd_T27 l0 x18_3).f1) ≥ x5_2
             ·rw [if_pos c10] at H
              (have c10b0:=decide_eq_true c10);clear c10
              by_cases c11 : x6_3 < 0
              ·rw [if_pos c11] at H
               (have c11b0:=decide_eq_true c11);clear c11;(have H':=am_ H);clear H;(have p317 : 0 ≤ (x18_3 : Int):=of_decide_eq_true (by first|(with_reducible assumption)|assumption));(have q317 : x18_3 < (l0.length : Int):=of_decide_eq_true (by first|(with_reducible assumption)|assumption));obtain ⟨ad317,e317,hx317_0,hx317_1,hx317_2⟩:=at_T27 HR0.out x18_3 p317 q317;cases e317;replace hx317_0:=(HB.out.cell (wl_ w _ hx317_0)).trans hx317_0;replace hx317_1:=(HB.out.cell (wl_ w _ hx317_1)).trans hx317_1;replace hx317_2:=(HB.out.cell (wl_ w _ hx317_2)).trans hx317_2;replace p317:=eq_true p317;replace q317:=eq_true q317;(go_wp2_with (first|((with_reducible refine gd_ (N:=8) rfl ?_);refine bx_ ?hg (N:=8) ?hd (cs:=#[.int .i64 0,.int .i64 0,.int .i64 0]) (t:=27) ?hr ?_;(case hd => rfl);(case hg => rfl);(case hr => first|(go_simp;done)|(go_simp;rfl));intro gb318 hg w12 hbox hb;have n0_:=am_ (RB_ (Kd.R_elderB (by (with_reducible repeat (first|apply RA_|apply RN_|apply RD_));exact HO_3.out) gb318 (Nat.le_of_eq hg.symm)) hb);have n1_:=am_ (bs_ (by repeat (first|(with_reducible first|exact HB.out|apply bA_|apply bN_|apply b1_)|exact HB.out)) hb);have n2_:=am_ (hbox);have n3_:=am_ ((by rw [hg];exact (bz_ (by repeat (first|(with_reducible first|exact HB.out|apply bA_|apply bN_|apply b1_)|exact HB.out))) : w.heap.size ≤ gb318));have n4_:=am_ ((by rw [hg];exact (bz_ (by repeat (first|(with_reducible first|exact HB.out|apply bA_|apply bN_|apply b1_)|exact HB.out))) : w.heap.size ≤ gb318));clear HO_3;clear HB;have HO_3:=n0_;have HB:=n1_;have BK318:=n2_;have GW318:=n3_;have GE318:=n4_;clear n0_ n1_ n2_ n3_ n4_;clear hb hbox hg;have hcz13_0 : w12.cell? ⟨gb318,0,none⟩ = some (.int .i64 0):=(kC_ BK318.out 0).trans rfl;have hcz13_1 : w12.cell? ⟨gb318,1,none⟩ = some (.int .i64 0):=(kC_ BK318.out 1).trans rfl;have hcz13_2 : w12.cell? ⟨gb318,2,none⟩ = some (.int .i64 0):=(kC_ BK318.out 2).trans rfl;have hfz13_0:=kF_ BK318.out 0;have hfz13_1:=kF_ BK318.out 1;have hfz13_2:=kF_ BK318.out 2)));(go_roundg k3)
               case measure => have:=HK1.out;have:=HK2.out;have:=HK3.out;omega
               case rel => exact ⟨((rd_T27 l0 x18_3).f1),(wrap64 (x18_3 + 1)),(by first|rfl|(simp;done)|(simp [*];done)),(by first|rfl|(simp;done)|(simp [*];done)),H',⟨by have:=HK1.out;have:=HK2.out;have:=HK3.out;omega⟩,⟨by (with_reducible repeat (first|apply RA_|apply RN_|apply RD_));exact RM_ (RF_ (p:=⟨gb318,2,none⟩) (RF_ (p:=⟨gb318,1,none⟩) (RF_ (p:=⟨gb318,0,none⟩) (RM_ HO_3.out (fun k_ hk => (⟨hk,hk.2⟩ : _ ∧ k_ ≠ gb318))) (fun _ hk => hk.2) (.int .i64 ((rd_T27 l0 x18_3).f0))) (fun _ hk => hk.2) (.int .i64 ((rd_T27 l0 x18_3).f1))) (fun _ hk => hk.2) (.int .i64 ((rd_T27 l0 x18_3).f2))) (fun _ hk => trivial)⟩,⟨by repeat (first|(with_reducible first|exact HB.out|apply bA_|apply bN_|apply b1_|refine bS_ ?_ GE318.out)|exact HB.out)⟩⟩
              ·rw [if_neg c11] at H
               (have c11b0:=decide_eq_false c11);clear c11
               by_cases c14 : ((rd_T27 l0 x18_3).f1) < x6_3
               ·rw [if_pos c14] at H
                (have c14b0:=decide_eq_true c14);clear c14;(have H':=am_ H);clear H;(have p317 : 0 ≤ (x18_3 : Int):=of_decide_eq_true (by first|(with_reducible assumption)|assumption));(have q317 : x18_3 < (l0.length : Int):=of_decide_eq_true (by first|(with_reducible assumption)|assumption));obtain ⟨ad317,e317,hx317_0,hx317_1,hx317_2⟩:=at_T27 HR0.out x18_3 p317 q317;cases e317;replace hx317_0:=(HB.out.cell (wl_ w _ hx317_0)).trans hx317_0;replace hx317_1:=(HB.out.cell (wl_ w _ hx317_1)).trans hx317_1;replace hx317_2:=(HB.out.cell (wl_ w _ hx317_2)).trans hx317_2;replace p317:=eq_true p317;replace q317:=eq_true q317;(go_wp2_with (first|((with_reducible refine gd_ (N:=8) rfl ?_);refine bx_ ?hg (N:=8) ?hd (cs:=#[.int .i64 0,.int .i64 0,.int .i64 0]) (t:=27) ?hr ?_;(case hd => rfl);(case hg => rfl);(case hr => first|(go_simp;done)|(go_simp;rfl));intro gb318 hg w15 hbox hb;have n0_:=am_ (RB_ (Kd.R_elderB (by (with_reducible repeat (first|apply RA_|apply RN_|apply RD_));exact HO_3.out) gb318 (Nat.le_of_eq hg.symm)) hb);have n1_:=am_ (bs_ (by repeat (first|(with_reducible first|exact HB.out|apply bA_|apply bN_|apply b1_)|exact HB.out)) hb);have n2_:=am_ (hbox);have n3_:=am_ ((by rw [hg];exact (bz_ (by repeat (first|(with_reducible first|exact HB.out|apply bA_|apply bN_|apply b1_)|exact HB.out))) : w.heap.size ≤ gb318));have n4_:=am_ ((by rw [hg];exact (bz_ (by repeat (first|(with_reducible first|exact HB.out|apply bA_|apply bN_|apply b1_)|exact HB.out))) : w.heap.size ≤ gb318));clear HO_3;clear HB;have HO_3:=n0_;have HB:=n1_;have BK318:=n2_;have GW318:=n3_;have GE318:=n4_;clear n0_ n1_ n2_ n3_ n4_;clear hb hbox hg;have hcz16_0 : w15.cell? ⟨gb318,0,none⟩ = some (.int .i64 0):=(kC_ BK318.out 0).trans rfl;have hcz16_1 : w15.cell? ⟨gb318,1,none⟩ = some (.int .i64 0):=(kC_ BK318.out 1).trans rfl;have hcz16_2 : w15.cell? ⟨gb318,2,none⟩ = some (.int .i64 0):=(kC_ BK318.out 2).trans rfl;have hfz16_0:=kF_ BK318.out 0;have hfz16_1:=kF_ BK318.out 1;have hfz16_2:=kF_ BK318.out 2)));(go_roundg k3)
                case measure => have:=HK1.out;have:=HK2.out;have:=HK3.out;omega
                case rel => exact ⟨((rd_T27 l0 x18_3).f1),(wrap64 (x18_3 + 1)),(by first|rfl|(simp;done)|(simp [*];done)),(by first|rfl|(simp;done)|(simp [*];done)),H',⟨by have:=HK1.out;have:=HK2.out;have:=HK3.out;omega⟩,⟨by (with_reducible repeat (first|apply RA_|apply RN_|apply RD_));exact RM_ (RF_ (p:=⟨gb318,2,none⟩) (RF_ (p:=⟨gb318,1,none⟩) (RF_ (p:=⟨gb318,0,none⟩) (RM_ HO_3.out (fun k_ hk => (⟨hk,hk.2⟩ : _ ∧ k_ ≠ gb318))) (fun _ hk => hk.2) (.int .i64 ((rd_T27 l0 x18_3).f0))) (fun _ hk => hk.2) (.int .i64 ((rd_T27 l0 x18_3).f1))) (fun _ hk => hk.2) (.int .i64 ((rd_T27 l0 x18_3).f2))) (fun _ hk => trivial)⟩,⟨by repeat (first|(with_reducible first|exact HB.out|apply bA_|apply bN_|apply b1_|refine bS_ ?_ GE318.out)|exact HB.out)⟩⟩
               ·rw [if_neg c14] at H
                (have c14b0:=decide_eq_false c14);clear c14;(have H':=am_ H);clear H;(have p317 : 0 ≤ (x18_3 : Int):=of_decide_eq_true (by first|(with_reducible assumption)|assumption));(have q317 : x18_3 < (l0.length : Int):=of_decide_eq_true (by first|(with_reducible assumption)|assumption));obtain ⟨ad317,e317,hx317_0,hx317_1,hx317_2⟩:=at_T27 HR0.out x18_3 p317 q317;cases e317;replace hx317_0:=(HB.out.cell (wl_ w _ hx317_0)).trans hx317_0;replace hx317_1:=(HB.out.cell (wl_ w _ hx317_1)).trans hx317_1;replace hx317_2:=(HB.out.cell (wl_ w _ hx317_2)).trans hx317_2;replace p317:=eq_true p317;replace q317:=eq_true q317;(go_wp2_with (first|((with_reducible refine gd_ (N:=8) rfl ?_);refine bx_ ?hg (N:=8) ?hd (cs:=#[.int .i64 0,.int .i64 0,.int .i64 0]) (t:=27) ?hr ?_;(case hd => rfl);(case hg => rfl);(case hr => first|(go_simp;done)|(go_simp;rfl));intro gb318 hg w17 hbox hb;have n0_:=am_ (RB_ (Kd.R_elderB (by (with_reducible repeat (first|apply RA_|apply RN_|apply RD_));exact HO_3.out) gb318 (Nat.le_of_eq hg.symm)) hb);have n1_:=am_ (bs_ (by repeat (first|(with_reducible first|exact HB.out|apply bA_|apply bN_|apply b1_)|exact HB.out)) hb);have n2_:=am_ (hbox);have n3_:=am_ ((by rw [hg];exact (bz_ (by repeat (first|(with_reducible first|exact HB.out|apply bA_|apply bN_|apply b1_)|exact HB.out))) : w.heap.size ≤ gb318));have n4_:=am_ ((by rw [hg];exact (bz_ (by repeat (first|(with_reducible first|exact HB.out|apply bA_|apply bN_|apply b1_)|exact HB.out))) : w.heap.size ≤ gb318));clear HO_3;clear HB;have HO_3:=n0_;have HB:=n1_;have BK318:=n2_;have GW318:=n3_;have GE318:=n4_;clear n0_ n1_ n2_ n3_ n4_;clear hb hbox hg;have hcz18_0 : w17.cell? ⟨gb318,0,none⟩ = some (.int .i64 0):=(kC_ BK318.out 0).trans rfl;have hcz18_1 : w17.cell? ⟨gb318,1,none⟩ = some (.int .i64 0):=(kC_ BK318.out 1).trans rfl;have hcz18_2 : w17.cell? ⟨gb318,2,none⟩ = some (.int .i64 0):=(kC_ BK318.out 2).trans rfl;have hfz18_0:=kF_ BK318.out 0;have hfz18_1:=kF_ BK318.out 1;have hfz18_2:=kF_ BK318.out 2)));(go_roundg k3)
                case measure => have:=HK1.out;have:=HK2.out;have:=HK3.out;omega
                case rel => exact ⟨(x6_3),(wrap64 (x18_3 + 1)),(by first|rfl|(simp;done)|(simp [*];done)),(by first|rfl|(simp;done)|(simp [*];done)),H',⟨by have:=HK1.out;have:=HK2.out;have:=HK3.out;omega⟩,⟨by (with_reducible repeat (first|apply RA_|apply RN_|apply RD_));exact RM_ (RF_ (p:=⟨gb318,2,none⟩) (RF_ (p:=⟨gb318,1,none⟩) (RF_ (p:=⟨gb318,0,none⟩) (RM_ HO_3.out (fun k_ hk => (⟨hk,hk.2⟩ : _ ∧ k_ ≠ gb318))) (fun _ hk => hk.2) (.int .i64 ((rd_T27 l0 x18_3).f0))) (fun _ hk => hk.2) (.int .i64 ((rd_T27 l0 x18_3).f1))) (fun _ hk => hk.2) (.int .i64 ((rd_T27 l0 x18_3).f2))) (fun _ hk => trivial)⟩,⟨by repeat (first|(with_reducible first|exact HB.out|apply bA_|apply bN_|apply b1_|refine bS_ ?_ GE318.out)|exact HB.out)⟩⟩
             ·rw [if_neg c10] at H
              (have c10b0:=decide_eq_false c10);clear c10;(have H':=am_ H);clear H;(have p317 : 0 ≤ (x18_3 : Int):=of_decide_eq_true (by first|(with_reducible assumption)|assumption));(have q317 : x18_3 < (l0.length : Int):=of_decide_eq_true (by first|(with_reducible assumption)|assumption));obtain ⟨ad317,e317,hx317_0,hx317_1,hx317_2⟩:=at_T27 HR0.out x18_3 p317 q317;cases e317;replace hx317_0:=(HB.out.cell (wl_ w _ hx317_0)).trans hx317_0;replace hx317_1:=(HB.out.cell (wl_ w _ hx317_1)).trans hx317_1;replace hx317_2:=(HB.out.cell (wl_ w _ hx317_2)).trans hx317_2;replace p317:=eq_true p317;replace q317:=eq_true q317;(go_wp2_with (first|((with_reducible refine gd_ (N:=8) rfl ?_);refine bx_ ?hg (N:=8) ?hd (cs:=#[.int .i64 0,.int .i64 0,.int .i64 0]) (t:=27) ?hr ?_;(case hd => rfl);(case hg => rfl);(case hr => first|(go_simp;done)|(go_simp;rfl));intro gb318 hg w19 hbox hb;have n0_:=am_ (RB_ (Kd.R_elderB (by (with_reducible repeat (first|apply RA_|apply RN_|apply RD_));exact HO_3.out) gb318 (Nat.le_of_eq hg.symm)) hb);have n1_:=am_ (bs_ (by repeat (first|(with_reducible first|exact HB.out|apply bA_|apply bN_|apply b1_)|exact HB.out)) hb);have n2_:=am_ (hbox);have n3_:=am_ ((by rw [hg];exact (bz_ (by repeat (first|(with_reducible first|exact HB.out|apply bA_|apply bN_|apply b1_)|exact HB.out))) : w.heap.size ≤ gb318));have n4_:=am_ ((by rw [hg];exact (bz_ (by repeat (first|(with_reducible first|exact HB.out|apply bA_|apply bN_|apply b1_)|exact HB.out))) : w.heap.size ≤ gb318));clear HO_3;clear HB;have HO_3:=n0_;have HB:=n1_;have BK318:=n2_;have GW318:=n3_;have GE318:=n4_;clear n0_ n1_ n2_ n3_ n4_;clear hb hbox hg;have hcz20_0 : w19.cell? ⟨gb318,0,none⟩ = some (.int .i64 0):=(kC_ BK318.out 0).trans rfl;have hcz20_1 : w19.cell? ⟨gb318,1,none⟩ = some (.int .i64 0):=(kC_ BK318.out 1).trans rfl;have hcz20_2 : w19.cell? ⟨gb318,2,none⟩ = some (.int .i64 0):=(kC_ BK318.out 2).trans rfl;have hfz20_0:=kF_ BK318.out 0;have hfz20_1:=kF_ BK318.out 1;have hfz20_2:=kF_ BK318.out 2)));(go_roundg k3)
              case measure => have:=HK1.out;have:=HK2.out;have:=HK3.out;omega
              case rel => exact ⟨(x6_3),(wrap64 (x18_3 + 1)),(by first|rfl|(simp;done)|(simp [*];done)),(by first|rfl|(simp;done)|(simp [*];done)),H',⟨by have:=HK1.out;have:=HK2.out;have:=HK3.out;omega⟩,⟨by (with_reducible repeat (first|apply RA_|apply RN_|apply RD_));exact RM_ (RF_ (p:=⟨gb318,2,none⟩) (RF_ (p:=⟨gb318,1,none⟩) (RF_ (p:=⟨gb318,0,none⟩) (RM_ HO_3.out (fun k_ hk => (⟨hk,hk.2⟩ : _ ∧ k_ ≠ gb318))) (fun _ hk => hk.2) (.int .i64 ((rd_T27 l0 x18_3).f0))) (fun _ hk => hk.2) (.int .i64 ((rd_T27 l0 x18_3).f1))) (fun _ hk => hk.2) (.int .i64 ((rd_T27 l0 x18_3).f2))) (fun _ hk => trivial)⟩,⟨by repeat (first|(with_reducible first|exact HB.out|apply bA_|apply bN_|apply b1_|refine bS_ ?_ GE318.out)|exact HB.out)⟩⟩
            ·rw [if_neg c9] at H
             (have c9b0 : (((rd_T27 l0 x18_3).f0) == x4_1) = false:=beq_eq_false_iff_ne.mpr c9);(have c9b1 : (((rd_T27 l0 x18_3).f0) != x4_1) = true:=bne_iff_ne.mpr c9);(have H':=am_ H);clear H;(have p317 : 0 ≤ (x18_3 : Int):=of_decide_eq_true (by first|(with_reducible assumption)|assumption));(have q317 : x18_3 < (l0.length : Int):=of_decide_eq_true (by first|(with_reducible assumption)|assumption));obtain ⟨ad317,e317,hx317_0,hx317_1,hx317_2⟩:=at_T27 HR0.out x18_3 p317 q317;cases e317;replace hx317_0:=(HB.out.cell (wl_ w _ hx317_0)).trans hx317_0;replace hx317_1:=(HB.out.cell (wl_ w _ hx317_1)).trans hx317_1;replace hx317_2:=(HB.out.cell (wl_ w _ hx317_2)).trans hx317_2;replace p317:=eq_true p317;replace q317:=eq_true q317;(go_wp2_with (first|((with_reducible refine gd_ (N:=8) rfl ?_);refine bx_ ?hg (N:=8) ?hd (cs:=#[.int .i64 0,.int .i64 0,.int .i64 0]) (t:=27) ?hr ?_;(case hd => rfl);(case hg => rfl);(case hr => first|(go_simp;done)|(go_simp;rfl));intro gb318 hg w21 hbox hb;have n0_:=am_ (RB_ (Kd.R_elderB (by (with_reducible repeat (first|apply RA_|apply RN_|apply RD_));exact HO_3.out) gb318 (Nat.le_of_eq hg.symm)) hb);have n1_:=am_ (bs_ (by repeat (first|(with_reducible first|exact HB.out|apply bA_|apply bN_|apply b1_)|exact HB.out)) hb);have n2_:=am_ (hbox);have n3_:=am_ ((by rw [hg];exact (bz_ (by repeat (first|(with_reducible first|exact HB.out|apply bA_|apply bN_|apply b1_)|exact HB.out))) : w.heap.size ≤ gb318));have n4_:=am_ ((by rw [hg];exact (bz_ (by repeat (first|(with_reducible first|exact HB.out|apply bA_|apply bN_|apply b1_)|exact HB.out))) : w.heap.size ≤ gb318));clear HO_3;clear HB;have HO_3:=n0_;have HB:=n1_;have BK318:=n2_;have GW318:=n3_;have GE318:=n4_;clear n0_ n1_ n2_ n3_ n4_;clear hb hbox hg;have hcz22_0 : w21.cell? ⟨gb318,0,none⟩ = some (.int .i64 0):=(kC_ BK318.out 0).trans rfl;have hcz22_1 : w21.cell? ⟨gb318,1,none⟩ = some (.int .i64 0):=(kC_ BK318.out 1).trans rfl;have hcz22_2 : w21.cell? ⟨gb318,2,none⟩ = some (.int .i64 0):=(kC_ BK318.out 2).trans rfl;have hfz22_0:=kF_ BK318.out 0;have hfz22_1:=kF_ BK318.out 1;have hfz22_2:=kF_ BK318.out 2)));(go_roundg k3)
             case measure => have:=HK1.out;have:=HK2.out;have:=HK3.out;omega
             case rel => exact ⟨(x6_3),(wrap64 (x18_3 + 1)),(by first|rfl|(simp;done)|(simp [*];done)),(by first|rfl|(simp;done)|(simp [*];done)),H',⟨by have:=HK1.out;have:=HK2.out;have:=HK3.out;omega⟩,⟨by (with_reducible repeat (first|apply RA_|apply RN_|apply RD_));exact RM_ (RF_ (p:=⟨gb318,2,none⟩) (RF_ (p:=⟨gb318,1,none⟩) (RF_ (p:=⟨gb318,0,none⟩) (RM_ HO_3.out (fun k_ hk => (⟨hk,hk.2⟩ : _ ∧ k_ ≠ gb318))) (fun _ hk => hk.2) (.int .i64 ((rd_T27 l0 x18_3).f0))) (fun _ hk => hk.2) (.int .i64 ((rd_T27 l0 x18_3).f1))) (fun _ hk => hk.2) (.int .i64 ((rd_T27 l0 x18_3).f2))) (fun _ hk => trivial)⟩,⟨by repeat (first|(with_reducible first|exact HB.out|apply bA_|apply bN_|apply b1_|refine bS_ ?_ GE318.out)|exact HB.out)⟩⟩
           ·rw [if_neg c8] at H;(simp at H)
          ·rw [if_neg c7] at H;(simp at H)
         ·rw [if_neg c6] at H
          (have c6b0:=decide_eq_false c6);clear c6
          by_cases c23 : x6_3 < 0
          ·rw [if_pos c23] at H
           (have c23b0:=decide_eq_true c23);clear c23;(have H':=am_ H);clear H;(go_wp2);(go_roundg k3)
           case measure => have:=HK1.out;have:=HK2.out;have:=HK3.out;omega
           case rel => exact ⟨(x3_2),(wrap64 (x4_1 + 1)),(by first|rfl|(simp;done)|(simp [*];done)),H',⟨by have:=HK1.out;have:=HK2.out;have:=HK3.out;omega⟩,⟨by (with_reducible repeat (first|apply RA_|apply RN_|apply RD_));exact HO_3.out⟩,⟨by repeat (first|(with_reducible first|exact HB.out|apply bA_|apply bN_|apply b1_)|exact HB.out)⟩⟩
          ·rw [if_neg c23] at H
           (have c23b0:=decide_eq_false c23);clear c23;replace H:=be_ H;obtain ⟨t319,A240,H⟩:=H;replace H : (if x3_2.length < 5864062014805 then (railplanref24_Merge.l1 k3 l0 (x3_2 ++ [(⟨x4_1,x6_3,t319⟩ : S27)]) x4_1 t319) else (none)) = some r:=H;(have A24:=am_ A240);clear A240
           by_cases c25 : x3_2.length < 5864062014805
           ·rw [if_pos c25] at H
            (have LMc25:=am_ c25);clear c25;obtain ⟨y320,hy320⟩ : ∃ y_ : List (S27),y_ = (x3_2 ++ [(⟨x4_1,x6_3,t319⟩ : S27)]):=⟨_,rfl⟩;(replace H : (railplanref24_Merge.l1 k3 l0 y320 x4_1 t319) = some r:=by first|(rw [hy320];with_reducible exact H)|(have H2_:=(Option.bind_some _ _).symm.trans H;rw [hy320];with_reducible exact H2_)|(have H2_:=(Option.bind_some _ _).symm.trans H;with_reducible exact H2_)|with_reducible exact H|(rw [hy320];exact H)|exact H);(have Ny320:=am_ hy320);clear hy320;(have H':=am_ H);clear H;(go_wp2_with (first|((with_reducible refine gc_ (f:=24) rfl ?_);refine goesL_ (some 50) rfl rfl Try.func24 (by kernel_rfl) rfl #[.slice A0 l0.length c0,.int .i64 x4_1,.int .i64 x6_3] rfl (by (try simp only [List.map_toArray,List.map_cons,List.map_nil]);first|done|rfl|(simp only [List.length_drop,List.length_take];rfl)) ?_;(with_reducible refine (railplanref24_Next.calls k3 _ _ l0 x4_1 x6_3 t319 _ ?side1 ?side2 A24.out).mono ?_);(case side1 => repeat (first|exact (CB_ HR0.out HB.out)|(with_reducible first|refine CA_ ?_ _|refine CN_ ?_ _|refine CD_ ?_)));(case side2 => exact HC0.out);rintro e w26 ⟨rfl,hb⟩;refine ⟨_,rfl,?_⟩;have n0_:=am_ (RB_ (by (with_reducible repeat (first|apply RA_|apply RN_|apply RD_));exact HO_3.out) hb);have n1_:=am_ (bs_ (by repeat (first|(with_reducible first|exact HB.out|apply bA_|apply bN_|apply b1_)|exact HB.out)) hb);clear HO_3;clear HB;have HO_3:=n0_;have HB:=n1_;clear n0_ n1_;(try clear hb);(try clear hb2);(try clear hk);(try clear hi))|((with_reducible refine gate_builtin (b:=.append) (xs:=#[.tmp 51,.tmp 56]) rfl ?_);at_builtin;refine Kd.R_append k27 (w0:=w) w.heap.size rfl (.tmp 51) (.tmp 56) 23 27 (.agg #[(.int .i64 0),(.int .i64 0),(.int .i64 0)]) 24 rfl Try.underlying23 info27 rfl (by decide) (by omega) u3 x3_2 (⟨x4_1,x6_3,t319⟩ : S27) [.int .i64 x4_1,.int .i64 x6_3,.int .i64 t319] (fun _ => True) (fun _ => False) rfl rfl ?aP (fun _ hk => hk.elim) ?aF ?aO ?aB ?aS ?aL ?_;(case aP => exact k27_mkM _ _ _ (⟨x4_1,x6_3,t319⟩ : S27));(case aB => exact (by repeat (first|(with_reducible first|exact HB.out|apply bA_|apply bN_|apply b1_)|exact HB.out)));(case aF => exact (fun _ _ => trivial));(case aO => exact (by (with_reducible repeat (first|apply RA_|apply RN_|apply RD_));exact HO_3.out));(case aS => exact (bz_ (by repeat (first|(with_reducible first|exact HB.out|apply bA_|apply bN_|apply b1_)|exact HB.out))));(case aL => have:=LMc25.out;omega);intro v321 w27 ho hb hg hat;rw [← Ny320.out] at ho;have n0_:=am_ (hb);have n1_:=am_ (ho);clear HB;clear HO_3;have HB:=n0_;have HO322:=n1_;clear n0_ n1_;clear ho hb hg hat)));(go_roundg k3)
            case measure => have:=HK1.out;have:=HK2.out;have:=HK3.out;omega
            case rel => exact ⟨(y320),(t319),(by first|rfl|(simp;done)|(simp [*];done)),H',⟨by have:=HK1.out;have:=HK2.out;have:=HK3.out;omega⟩,⟨by (with_reducible repeat (first|apply RA_|apply RN_|apply RD_));exact HO322.out⟩,⟨by repeat (first|(with_reducible first|exact HB.out|apply bA_|apply bN_|apply b1_)|exact HB.out)⟩⟩
           ·rw [if_neg c25] at H;(simp at H)
    ·rw [if_neg c5] at H;((have c5b0:=decide_eq_false c5);clear c5;obtain rfl:=Option.some.inj H;(go_wp2);(go_ret);(exact ⟨_,by first|rfl|(simp [errW_none,errW_some] <;> rfl)|(simp [*,errW_none,errW_some] <;> rfl),by (with_reducible repeat (first|apply RA_|apply RN_|apply RD_));exact HO_3.out,by repeat (first|(with_reducible first|exact HB.out|apply bA_|apply bN_|apply b1_)|exact HB.out)⟩))
 ·replace c3:=Bool.eq_false_iff.mpr c3;(subst c3;(have H1 : (some ([] : List (S27))) = some r:=by rw [if_neg (show ¬ (false = true) by decide)] at H;exact H);clear H;(have H:=H1);clear H1;obtain rfl:=Option.some.inj H;(go_enter Try.func26,Try.ntmps26);(go_wp2_with (first|((with_reducible refine gc_ (f:=23) rfl ?_);refine goesL_ (some 10) rfl rfl Try.func23 (by kernel_rfl) rfl #[.slice A0 l0.length c0] rfl (by (try simp only [List.map_toArray,List.map_cons,List.map_nil]);first|done|rfl|(simp only [List.length_drop,List.length_take];rfl)) ?_;(with_reducible refine (railplanref24_CheckClosures.calls k _ _ l0 false _ ?side1 ?side2 A2.out).mono ?_);(case side1 => repeat (first|exact HR0.out|(with_reducible first|refine CA_ ?_ _|refine CN_ ?_ _|refine CD_ ?_)));(case side2 => exact HC0.out);rintro e w28 ⟨rfl,hb⟩;refine ⟨_,rfl,?_⟩;have n0_:=am_ (bs_ (by repeat (first|(with_reducible first|exact HB.out|apply bA_|apply bN_|apply b1_)|exact HB.out)) hb);clear HB;have HB:=n0_;clear n0_;(try clear hb);(try clear hb2);(try clear hk);(try clear hi))));(go_ret);(exact ⟨_,by first|rfl|(simp [errW_none,errW_some] <;> rfl)|(simp [*,errW_none,errW_some] <;> rfl),by first|exact Kd.R_nil _ _ _ _ _|exact Kd.N_nil _ _ _ _ _|exact Kd.V_nil _ _ _ _ _|exact Kd.Q_nil _ _ _ _ _|exact Kd.S_nil _ _ _ _ _,by repeat (first|(with_reducible first|exact HB.out|apply bA_|apply bN_|apply b1_)|exact HB.out)⟩))
end Go.Proofs.Ytiohandkjjmemaa.PAll
