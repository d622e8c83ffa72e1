-- Packed by wip/tools/pack.py of this session out of what plugprint.py and the kit's print wrote. Lean checks it.
import Derived.Test.YtiohandkjjmemaaKS
namespace Go.Proofs.Ytiohandkjjmemaa.PAll
open Go.RowKit Go.Proofs.YtiohandkjjmemaaW.PrintWords Go.Proofs.YtiohandkjjmemaaW.PrintLast Go.Proofs.YtiohandkjjmemaaW.PrintMore
attribute [local go_sem] max2_int min2_int max_two min_two max_three min_three max_four min_four
set_option linter.unusedVariables false
set_option linter.unusedSimpArgs false
/-! ### closure_Check: function 13 -/
def closure_Check.l0 : Nat → List (S27) → List (S27) → Int → Int → Option (Bool)
 | 0,_,_,_,_ => none
 | k + 1,x0,x5,x6,x7 => if x7 < x6 then (if 0 ≤ x7 then (if x7 < (x5.length : Int) then (if ((rd_T27 x5 x7).f0) < 0 then (some false) else (if ((rd_T27 x5 x7).f0) ≥ 144 then (some false) else (if ((rd_T27 x5 x7).f1) < 0 then (some false) else (if ((rd_T27 x5 x7).f1) ≥ ((rd_T27 x5 x7).f2) then (some false) else (if ((rd_T27 x5 x7).f2) > 4194304 then (some false) else (closure_Check.l0 k x0 x5 x6 (wrap64 (x7 + 1)))))))) else (none)) else (none)) else (some (decide ((x0.length : Int) ≤ 32)))
def closure_Check.f (k : Nat) (l0 : List (S27)) : Option (Bool):=closure_Check.l0 k l0 l0 (l0.length : Int) 0
theorem closure_Check.mono_l : ∀ k,(∀ y0 y1 y2 y3,LeO (closure_Check.l0 k y0 y1 y2 y3) (closure_Check.l0 (k + 1) y0 y1 y2 y3))
 | 0 => fun _ _ _ _ r h => by simp [closure_Check.l0] at h
 | k + 1 => by
  have ih0:=closure_Check.mono_l k
  ·intro y0 y1 y2 y3
   unfold closure_Check.l0
   repeat' first
   | (with_reducible exact ih0 _ _ _ _)
   | (with_reducible exact LeO.refl _)
   | (with_reducible exact LeO.none _)
   | (with_reducible refine LeO.ite ?_ ?_)
   | (with_reducible refine LeO.bind ?_ (fun _ => ?_))
   | exact ih0 _ _ _ _
   | exact LeO.none _
   | refine LeO.ite ?_ ?_
   | refine LeO.bind ?_ (fun _ => ?_)
theorem closure_Check.mono : ∀ a0 k,LeO (closure_Check.f k a0) (closure_Check.f (k + 1) a0):=by
 intro a0 k;(have ih0:=closure_Check.mono_l k);(unfold closure_Check.f)
 repeat' first
   | (with_reducible exact ih0 _ _ _ _)
   | (with_reducible exact LeO.refl _)
   | (with_reducible exact LeO.none _)
   | (with_reducible refine LeO.ite ?_ ?_)
   | (with_reducible refine LeO.bind ?_ (fun _ => ?_))
   | exact ih0 _ _ _ _
   | exact LeO.none _
   | refine LeO.ite ?_ ?_
   | refine LeO.bind ?_ (fun _ => ?_)
set_option maxHeartbeats 8000000 in
set_option maxRecDepth 100000 in
theorem closure_Check.calls (k : Nat) (A0 : Option Addr) (c0 : Nat) (l0 : List (S27)) (r : Bool) (w : World) (hr0 : Kd.C k27 w A0 l0.length l0) (hc0 : l0.length ≤ c0) (h : closure_Check.f k l0 = some r) :
  Calls Try.prog 13 #[.slice A0 l0.length c0] w fun e w' => e = .returned (.bool r) ∧ Below w.heap.size w w':=by
 have hu27:=Try.underlying27
 have HR0:=am_ hr0
 have HC0:=am_ hc0
 clear hr0 hc0
 have HB:=am_ (Below.refl w.heap.size w)
 have H : (closure_Check.l0 k l0 l0 (l0.length : Int) 0) = some r:=h
 clear h
 have H':=am_ H
 clear H
 go_enter Try.func13,Try.ntmps13
 go_wp2
 go_loopg [7] k (fun kq v7 w' => ∃ (x7_1 : Int),v7 = .int .i64 x7_1 ∧ Aside0 (closure_Check.l0 kq l0 l0 (l0.length : Int) x7_1 = some r) ∧ Aside0 (kq ≤ k) ∧ Aside0 (Below w.heap.size w w'))
 case atStart => exact ⟨(0),(by first|rfl|(simp;done)|(simp [*];done)),H',⟨Nat.le_refl _⟩,⟨by repeat (first|(with_reducible first|exact HB.out|apply bA_|apply bN_|apply b1_)|exact HB.out)⟩⟩
 case round =>
  clear H';(try clear c1);obtain ⟨x7_1,rfl,HA,HK1,HB⟩:=hrel;cases gk with
  | zero => exact absurd HA.out (by simp [closure_Check.l0])
  | succ k1 =>
   (have H:=HA.out);clear HA;simp only [closure_Check.l0] at H
   by_cases c2 : x7_1 < (l0.length : Int)
   ·rw [if_pos c2] at H
    (have c2b0:=decide_eq_true c2);clear c2
    by_cases c3 : 0 ≤ x7_1
    ·rw [if_pos c3] at H
     (have c3b0:=decide_eq_true c3);clear c3
     by_cases c4 : x7_1 < (l0.length : Int)
     ·rw [if_pos c4] at H
      (have c4b0:=decide_eq_true c4);clear c4
      by_cases c5 : ((rd_T27 l0 x7_1).f0) < 0
      ·rw [if_pos c5] at H;((have c5b0:=decide_eq_true c5);clear c5;obtain rfl:=Option.some.inj H;(have p118 : 0 ≤ (x7_1 : Int):=of_decide_eq_true (by first|(with_reducible assumption)|assumption));(have q118 : x7_1 < (l0.length : Int):=of_decide_eq_true (by first|(with_reducible assumption)|assumption));obtain ⟨ad118,e118,hx118_0,hx118_1,hx118_2⟩:=at_T27 HR0.out x7_1 p118 q118;cases e118;replace hx118_0:=(HB.out.cell (wl_ w _ hx118_0)).trans hx118_0;replace hx118_1:=(HB.out.cell (wl_ w _ hx118_1)).trans hx118_1;replace hx118_2:=(HB.out.cell (wl_ w _ hx118_2)).trans hx118_2;replace p118:=eq_true p118;replace q118:=eq_true q118;(go_wp2_with (first|((with_reducible refine gd_ (N:=4) rfl ?_);refine bx_ ?hg (N:=4) ?hd (cs:=#[.int .i64 0,.int .i64 0,.int .i64 0]) (t:=27) ?hr ?_;(case hd => rfl);(case hg => rfl);(case hr => first|(go_simp;done)|(go_simp;rfl));intro gb119 hg w6 hbox hb;have n0_:=am_ (bs_ (by repeat (first|(with_reducible first|exact HB.out|apply bA_|apply bN_|apply b1_)|exact HB.out)) hb);have n1_:=am_ (hbox);have n2_:=am_ ((by rw [hg];exact (bz_ (by repeat (first|(with_reducible first|exact HB.out|apply bA_|apply bN_|apply b1_)|exact HB.out))) : w.heap.size ≤ gb119));have n3_:=am_ ((by rw [hg];exact (bz_ (by repeat (first|(with_reducible first|exact HB.out|apply bA_|apply bN_|apply b1_)|exact HB.out))) : w.heap.size ≤ gb119));clear HB;have HB:=n0_;have BK119:=n1_;have GW119:=n2_;have GE119:=n3_;clear n0_ n1_ n2_ n3_;clear hb hbox hg;have hcz7_0 : w6.cell? ⟨gb119,0,none⟩ = some (.int .i64 0):=(kC_ BK119.out 0).trans rfl;have hcz7_1 : w6.cell? ⟨gb119,1,none⟩ = some (.int .i64 0):=(kC_ BK119.out 1).trans rfl;have hcz7_2 : w6.cell? ⟨gb119,2,none⟩ = some (.int .i64 0):=(kC_ BK119.out 2).trans rfl;have hfz7_0:=kF_ BK119.out 0;have hfz7_1:=kF_ BK119.out 1;have hfz7_2:=kF_ BK119.out 2)));(go_ret);(exact ⟨by first|rfl|(simp [errW_none,errW_some] <;> rfl)|(simp [*,errW_none,errW_some] <;> rfl),by repeat (first|(with_reducible first|exact HB.out|apply bA_|apply bN_|apply b1_|refine bS_ ?_ GE119.out)|exact HB.out)⟩))
      ·rw [if_neg c5] at H
       (have c5b0:=decide_eq_false c5);clear c5
       by_cases c8 : ((rd_T27 l0 x7_1).f0) ≥ 144
       ·rw [if_pos c8] at H;((have c8b0:=decide_eq_true c8);clear c8;obtain rfl:=Option.some.inj H;(have p118 : 0 ≤ (x7_1 : Int):=of_decide_eq_true (by first|(with_reducible assumption)|assumption));(have q118 : x7_1 < (l0.length : Int):=of_decide_eq_true (by first|(with_reducible assumption)|assumption));obtain ⟨ad118,e118,hx118_0,hx118_1,hx118_2⟩:=at_T27 HR0.out x7_1 p118 q118;cases e118;replace hx118_0:=(HB.out.cell (wl_ w _ hx118_0)).trans hx118_0;replace hx118_1:=(HB.out.cell (wl_ w _ hx118_1)).trans hx118_1;replace hx118_2:=(HB.out.cell (wl_ w _ hx118_2)).trans hx118_2;replace p118:=eq_true p118;replace q118:=eq_true q118;(go_wp2_with (first|((with_reducible refine gd_ (N:=4) rfl ?_);refine bx_ ?hg (N:=4) ?hd (cs:=#[.int .i64 0,.int .i64 0,.int .i64 0]) (t:=27) ?hr ?_;(case hd => rfl);(case hg => rfl);(case hr => first|(go_simp;done)|(go_simp;rfl));intro gb119 hg w9 hbox hb;have n0_:=am_ (bs_ (by repeat (first|(with_reducible first|exact HB.out|apply bA_|apply bN_|apply b1_)|exact HB.out)) hb);have n1_:=am_ (hbox);have n2_:=am_ ((by rw [hg];exact (bz_ (by repeat (first|(with_reducible first|exact HB.out|apply bA_|apply bN_|apply b1_)|exact HB.out))) : w.heap.size ≤ gb119));have n3_:=am_ ((by rw [hg];exact (bz_ (by repeat (first|(with_reducible first|exact HB.out|apply bA_|apply bN_|apply b1_)|exact HB.out))) : w.heap.size ≤ gb119));clear HB;have HB:=n0_;have BK119:=n1_;have GW119:=n2_;have GE119:=n3_;clear n0_ n1_ n2_ n3_;clear hb hbox hg;have hcz10_0 : w9.cell? ⟨gb119,0,none⟩ = some (.int .i64 0):=(kC_ BK119.out 0).trans rfl;have hcz10_1 : w9.cell? ⟨gb119,1,none⟩ = some (.int .i64 0):=(kC_ BK119.out 1).trans rfl;have hcz10_2 : w9.cell? ⟨gb119,2,none⟩ = some (.int .i64 0):=(kC_ BK119.out 2).trans rfl;have hfz10_0:=kF_ BK119.out 0;have hfz10_1:=kF_ BK119.out 1;have hfz10_2:=kF_ BK119.out 2)));(go_ret);(exact ⟨by first|rfl|(simp [errW_none,errW_some] <;> rfl)|(simp [*,errW_none,errW_some] <;> rfl),by repeat (first|(with_reducible first|exact HB.out|apply bA_|apply bN_|apply b1_|refine bS_ ?_ GE119.out)|exact HB.out)⟩))
       ·rw [if_neg c8] at H
        (have c8b0:=decide_eq_false c8);clear c8
        by_cases c11 : ((rd_T27 l0 x7_1).f1) < 0
        ·rw [if_pos c11] at H;((have c11b0:=decide_eq_true c11);clear c11;obtain rfl:=Option.some.inj H;(have p118 : 0 ≤ (x7_1 : Int):=of_decide_eq_true (by first|(with_reducible assumption)|assumption));(have q118 : x7_1 < (l0.length : Int):=of_decide_eq_true (by first|(with_reducible assumption)|assumption));obtain ⟨ad118,e118,hx118_0,hx118_1,hx118_2⟩:=at_T27 HR0.out x7_1 p118 q118;cases e118;replace hx118_0:=(HB.out.cell (wl_ w _ hx118_0)).trans hx118_0;replace hx118_1:=(HB.out.cell (wl_ w _ hx118_1)).trans hx118_1;replace hx118_2:=(HB.out.cell (wl_ w _ hx118_2)).trans hx118_2;replace p118:=eq_true p118;replace q118:=eq_true q118;(go_wp2_with (first|((with_reducible refine gd_ (N:=4) rfl ?_);refine bx_ ?hg (N:=4) ?hd (cs:=#[.int .i64 0,.int .i64 0,.int .i64 0]) (t:=27) ?hr ?_;(case hd => rfl);(case hg => rfl);(case hr => first|(go_simp;done)|(go_simp;rfl));intro gb119 hg w12 hbox hb;have n0_:=am_ (bs_ (by repeat (first|(with_reducible first|exact HB.out|apply bA_|apply bN_|apply b1_)|exact HB.out)) hb);have n1_:=am_ (hbox);have n2_:=am_ ((by rw [hg];exact (bz_ (by repeat (first|(with_reducible first|exact HB.out|apply bA_|apply bN_|apply b1_)|exact HB.out))) : w.heap.size ≤ gb119));have n3_:=am_ ((by rw [hg];exact (bz_ (by repeat (first|(with_reducible first|exact HB.out|apply bA_|apply bN_|apply b1_)|exact HB.out))) : w.heap.size ≤ gb119));clear HB;have HB:=n0_;have BK119:=n1_;have GW119:=n2_;have GE119:=n3_;clear n0_ n1_ n2_ n3_;clear hb hbox hg;have hcz13_0 : w12.cell? ⟨gb119,0,none⟩ = some (.int .i64 0):=(kC_ BK119.out 0).trans rfl;have hcz13_1 : w12.cell? ⟨gb119,1,none⟩ = some (.int .i64 0):=(kC_ BK119.out 1).trans rfl;have hcz13_2 : w12.cell? ⟨gb119,2,none⟩ = some (.int .i64 0):=(kC_ BK119.out 2).trans rfl;have hfz13_0:=kF_ BK119.out 0;have hfz13_1:=kF_ BK119.out 1;have hfz13_2:=kF_ BK119.out 2)));(go_ret);(exact ⟨by first|rfl|(simp [errW_none,errW_some] <;> rfl)|(simp [*,errW_none,errW_some] <;> rfl),by repeat (first|(with_reducible first|exact HB.out|apply bA_|apply bN_|apply b1_|refine bS_ ?_ GE119.out)|exact HB.out)⟩))
        ·rw [if_neg c11] at H
         (have c11b0:=decide_eq_false c11);clear c11
         by_cases c14 : ((rd_T27 l0 x7_1).f1) ≥ ((rd_T27 l0 x7_1).f2)
         ·rw [if_pos c14] at H;((have c14b0:=decide_eq_true c14);clear c14;obtain rfl:=Option.some.inj H;(have p118 : 0 ≤ (x7_1 : Int):=of_decide_eq_true (by first|(with_reducible assumption)|assumption));(have q118 : x7_1 < (l0.length : Int):=of_decide_eq_true (by first|(with_reducible assumption)|assumption));obtain ⟨ad118,e118,hx118_0,hx118_1,hx118_2⟩:=at_T27 HR0.out x7_1 p118 q118;cases e118;replace hx118_0:=(HB.out.cell (wl_ w _ hx118_0)).trans hx118_0;replace hx118_1:=(HB.out.cell (wl_ w _ hx118_1)).trans hx118_1;replace hx118_2:=(HB.out.cell (wl_ w _ hx118_2)).trans hx118_2;replace p118:=eq_true p118;replace q118:=eq_true q118;(go_wp2_with (first|((with_reducible refine gd_ (N:=4) rfl ?_);refine bx_ ?hg (N:=4) ?hd (cs:=#[.int .i64 0,.int .i64 0,.int .i64 0]) (t:=27) ?hr ?_;(case hd => rfl);(case hg => rfl);(case hr => first|(go_simp;done)|(go_simp;rfl));intro gb119 hg w15 hbox hb;have n0_:=am_ (bs_ (by repeat (first|(with_reducible first|exact HB.out|apply bA_|apply bN_|apply b1_)|exact HB.out)) hb);have n1_:=am_ (hbox);have n2_:=am_ ((by rw [hg];exact (bz_ (by repeat (first|(with_reducible first|exact HB.out|apply bA_|apply bN_|apply b1_)|exact HB.out))) : w.heap.size ≤ gb119));have n3_:=am_ ((by rw [hg];exact (bz_ (by repeat (first|(with_reducible first|exact HB.out|apply bA_|apply bN_|apply b1_)|exact HB.out))) : w.heap.size ≤ gb119));clear HB;have HB:=n0_;have BK119:=n1_;have GW119:=n2_;have GE119:=n3_;clear n0_ n1_ n2_ n3_;clear hb hbox hg;have hcz16_0 : w15.cell? ⟨gb119,0,none⟩ = some (.int .i64 0):=(kC_ BK119.out 0).trans rfl;have hcz16_1 : w15.cell? ⟨gb119,1,none⟩ = some (.int .i64 0):=(kC_ BK119.out 1).trans rfl;have hcz16_2 : w15.cell? ⟨gb119,2,none⟩ = some (.int .i64 0):=(kC_ BK119.out 2).trans rfl;have hfz16_0:=kF_ BK119.out 0;have hfz16_1:=kF_ BK119.out 1;have hfz16_2:=kF_ BK119.out 2)));(go_ret);(exact ⟨by first|rfl|(simp [errW_none,errW_some] <;> rfl)|(simp [*,errW_none,errW_some] <;> rfl),by repeat (first|(with_reducible first|exact HB.out|apply bA_|apply bN_|apply b1_|refine bS_ ?_ GE119.out)|exact HB.out)⟩))
         ·rw [if_neg c14] at H
          (have c14b0:=decide_eq_false c14);clear c14
          by_cases c17 : ((rd_T27 l0 x7_1).f2) > 4194304
          ·rw [if_pos c17] at H;((have c17b0:=decide_eq_true c17);clear c17;obtain rfl:=Option.some.inj H;(have p118 : 0 ≤ (x7_1 : Int):=of_decide_eq_true (by first|(with_reducible assumption)|assumption));(have q118 : x7_1 < (l0.length : Int):=of_decide_eq_true (by first|(with_reducible assumption)|assumption));obtain ⟨ad118,e118,hx118_0,hx118_1,hx118_2⟩:=at_T27 HR0.out x7_1 p118 q118;cases e118;replace hx118_0:=(HB.out.cell (wl_ w _ hx118_0)).trans hx118_0;replace hx118_1:=(HB.out.cell (wl_ w _ hx118_1)).trans hx118_1;replace hx118_2:=(HB.out.cell (wl_ w _ hx118_2)).trans hx118_2;replace p118:=eq_true p118;replace q118:=eq_true q118;(go_wp2_with (first|((with_reducible refine gd_ (N:=4) rfl ?_);refine bx_ ?hg (N:=4) ?hd (cs:=#[.int .i64 0,.int .i64 0,.int .i64 0]) (t:=27) ?hr ?_;(case hd => rfl);(case hg => rfl);(case hr => first|(go_simp;done)|(go_simp;rfl));intro gb119 hg w18 hbox hb;have n0_:=am_ (bs_ (by repeat (first|(with_reducible first|exact HB.out|apply bA_|apply bN_|apply b1_)|exact HB.out)) hb);have n1_:=am_ (hbox);have n2_:=am_ ((by rw [hg];exact (bz_ (by repeat (first|(with_reducible first|exact HB.out|apply bA_|apply bN_|apply b1_)|exact HB.out))) : w.heap.size ≤ gb119));have n3_:=am_ ((by rw [hg];exact (bz_ (by repeat (first|(with_reducible first|exact HB.out|apply bA_|apply bN_|apply b1_)|exact HB.out))) : w.heap.size ≤ gb119));clear HB;have HB:=n0_;have BK119:=n1_;have GW119:=n2_;have GE119:=n3_;clear n0_ n1_ n2_ n3_;clear hb hbox hg;have hcz19_0 : w18.cell? ⟨gb119,0,none⟩ = some (.int .i64 0):=(kC_ BK119.out 0).trans rfl;have hcz19_1 : w18.cell? ⟨gb119,1,none⟩ = some (.int .i64 0):=(kC_ BK119.out 1).trans rfl;have hcz19_2 : w18.cell? ⟨gb119,2,none⟩ = some (.int .i64 0):=(kC_ BK119.out 2).trans rfl;have hfz19_0:=kF_ BK119.out 0;have hfz19_1:=kF_ BK119.out 1;have hfz19_2:=kF_ BK119.out 2)));(go_ret);(exact ⟨by first|rfl|(simp [errW_none,errW_some] <;> rfl)|(simp [*,errW_none,errW_some] <;> rfl),by repeat (first|(with_reducible first|exact HB.out|apply bA_|apply bN_|apply b1_|refine bS_ ?_ GE119.out)|exact HB.out)⟩))
          ·rw [if_neg c17] at H
           (have c17b0:=decide_eq_false c17);clear c17;(have H':=am_ H);clear H;(have p118 : 0 ≤ (x7_1 : Int):=of_decide_eq_true (by first|(with_reducible assumption)|assumption));(have q118 : x7_1 < (l0.length : Int):=of_decide_eq_true (by first|(with_reducible assumption)|assumption));obtain ⟨ad118,e118,hx118_0,hx118_1,hx118_2⟩:=at_T27 HR0.out x7_1 p118 q118;cases e118;replace hx118_0:=(HB.out.cell (wl_ w _ hx118_0)).trans hx118_0;replace hx118_1:=(HB.out.cell (wl_ w _ hx118_1)).trans hx118_1;replace hx118_2:=(HB.out.cell (wl_ w _ hx118_2)).trans hx118_2;replace p118:=eq_true p118;replace q118:=eq_true q118;(go_wp2_with (first|((with_reducible refine gd_ (N:=4) rfl ?_);refine bx_ ?hg (N:=4) ?hd (cs:=#[.int .i64 0,.int .i64 0,.int .i64 0]) (t:=27) ?hr ?_;(case hd => rfl);(case hg => rfl);(case hr => first|(go_simp;done)|(go_simp;rfl));intro gb119 hg w20 hbox hb;have n0_:=am_ (bs_ (by repeat (first|(with_reducible first|exact HB.out|apply bA_|apply bN_|apply b1_)|exact HB.out)) hb);have n1_:=am_ (hbox);have n2_:=am_ ((by rw [hg];exact (bz_ (by repeat (first|(with_reducible first|exact HB.out|apply bA_|apply bN_|apply b1_)|exact HB.out))) : w.heap.size ≤ gb119));have n3_:=am_ ((by rw [hg];exact (bz_ (by repeat (first|(with_reducible first|exact HB.out|apply bA_|apply bN_|apply b1_)|exact HB.out))) : w.heap.size ≤ gb119));clear HB;have HB:=n0_;have BK119:=n1_;have GW119:=n2_;have GE119:=n3_;clear n0_ n1_ n2_ n3_;clear hb hbox hg;have hcz21_0 : w20.cell? ⟨gb119,0,none⟩ = some (.int .i64 0):=(kC_ BK119.out 0).trans rfl;have hcz21_1 : w20.cell? ⟨gb119,1,none⟩ = some (.int .i64 0):=(kC_ BK119.out 1).trans rfl;have hcz21_2 : w20.cell? ⟨gb119,2,none⟩ = some (.int .i64 0):=(kC_ BK119.out 2).trans rfl;have hfz21_0:=kF_ BK119.out 0;have hfz21_1:=kF_ BK119.out 1;have hfz21_2:=kF_ BK119.out 2)));(go_roundg k1)
           case measure => have:=HK1.out;omega
           case rel => exact ⟨(wrap64 (x7_1 + 1)),(by first|rfl|(simp;done)|(simp [*];done)),H',⟨by have:=HK1.out;omega⟩,⟨by repeat (first|(with_reducible first|exact HB.out|apply bA_|apply bN_|apply b1_|refine bS_ ?_ GE119.out)|exact HB.out)⟩⟩
     ·rw [if_neg c4] at H;(simp at H)
    ·rw [if_neg c3] at H;(simp at H)
   ·rw [if_neg c2] at H;((have c2b0:=decide_eq_false c2);clear c2;obtain rfl:=Option.some.inj H;(go_wp2);(go_ret);(exact ⟨by first|rfl|(simp [errW_none,errW_some] <;> rfl)|(simp [*,errW_none,errW_some] <;> rfl),by repeat (first|(with_reducible first|exact HB.out|apply bA_|apply bN_|apply b1_)|exact HB.out)⟩))
end Go.Proofs.Ytiohandkjjmemaa.PAll
