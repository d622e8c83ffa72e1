-- Packed by wip/tools/pack.py of this session out of what plugprint.py and the kit's print wrote. Lean checks it.
import Derived.Test.YtiohandkjjmemaaKS
namespace Go.Proofs.Ytiohandkjjmemaa.PAll
open Go.RowKit Go.Proofs.YtiohandkjjmemaaW.PrintWords Go.Proofs.YtiohandkjjmemaaW.PrintLast Go.Proofs.YtiohandkjjmemaaW.PrintMore
attribute [local go_sem] max2_int min2_int max_two min_two max_three min_three max_four min_four
set_option linter.unusedVariables false
set_option linter.unusedSimpArgs false
/-! ### railplanref24_CheckClosures: function 23 -/
def railplanref24_CheckClosures.l0 : Nat → List (S27) → Int → Int → Option (Bool)
 | 0,_,_,_ => none
 | k + 1,x8,x9,x10 => if x10 < x9 then (if 0 ≤ x10 then (if x10 < (x8.length : Int) then (if ((rd_T27 x8 x10).f0) < 0 then (some false) else (if ((rd_T27 x8 x10).f0) ≥ 144 then (some false) else (if ((rd_T27 x8 x10).f1) < 0 then (some false) else (if ((rd_T27 x8 x10).f2) ≤ ((rd_T27 x8 x10).f1) then (some false) else (if ((rd_T27 x8 x10).f2) > 4194304 then (some false) else (railplanref24_CheckClosures.l0 k x8 x9 (wrap64 (x10 + 1)))))))) else (none)) else (none)) else (some true)
def railplanref24_CheckClosures.f (k : Nat) (l0 : List (S27)) : Option (Bool):=if (l0.length : Int) > 32 then (some false) else (railplanref24_CheckClosures.l0 k l0 (l0.length : Int) 0)
theorem railplanref24_CheckClosures.mono_l : ∀ k,(∀ y0 y1 y2,LeO (railplanref24_CheckClosures.l0 k y0 y1 y2) (railplanref24_CheckClosures.l0 (k + 1) y0 y1 y2))
 | 0 => fun _ _ _ r h => by simp [railplanref24_CheckClosures.l0] at h
 | k + 1 => by
  have ih0:=railplanref24_CheckClosures.mono_l k
  ·intro y0 y1 y2
   unfold railplanref24_CheckClosures.l0
   repeat' first
   | (with_reducible exact ih0 _ _ _)
   | (with_reducible exact LeO.refl _)
   | (with_reducible exact LeO.none _)
   | (with_reducible refine LeO.ite ?_ ?_)
   | (with_reducible refine LeO.bind ?_ (fun _ => ?_))
   | exact ih0 _ _ _
   | exact LeO.none _
   | refine LeO.ite ?_ ?_
   | refine LeO.bind ?_ (fun _ => ?_)
theorem railplanref24_CheckClosures.mono : ∀ a0 k,LeO (railplanref24_CheckClosures.f k a0) (railplanref24_CheckClosures.f (k + 1) a0):=by
 intro a0 k;(have ih0:=railplanref24_CheckClosures.mono_l k);(unfold railplanref24_CheckClosures.f)
 repeat' first
   | (with_reducible exact ih0 _ _ _)
   | (with_reducible exact LeO.refl _)
   | (with_reducible exact LeO.none _)
   | (with_reducible refine LeO.ite ?_ ?_)
   | (with_reducible refine LeO.bind ?_ (fun _ => ?_))
   | exact ih0 _ _ _
   | exact LeO.none _
   | refine LeO.ite ?_ ?_
   | refine LeO.bind ?_ (fun _ => ?_)
set_option maxHeartbeats 8000000 in
set_option maxRecDepth 100000 in
theorem railplanref24_CheckClosures.calls (k : Nat) (A0 : Option Addr) (c0 : Nat) (l0 : List (S27)) (r : Bool) (w : World) (hr0 : Kd.C k27 w A0 l0.length l0) (hc0 : l0.length ≤ c0) (h : railplanref24_CheckClosures.f k l0 = some r) :
  Calls Try.prog 23 #[.slice A0 l0.length c0] w fun e w' => e = .returned (.bool r) ∧ Below w.heap.size w w':=by
 have hu27:=Try.underlying27
 have HR0:=am_ hr0
 have HC0:=am_ hc0
 clear hr0 hc0
 have HB:=am_ (Below.refl w.heap.size w)
 have H : (if (l0.length : Int) > 32 then (some false) else (railplanref24_CheckClosures.l0 k l0 (l0.length : Int) 0)) = some r:=h
 clear h
 by_cases c2 : (l0.length : Int) > 32
 ·rw [if_pos c2] at H;((have c2b0:=decide_eq_true c2);(have c2b1 : decide (32 < l0.length) = true:=decide_eq_true (by omega));clear c2;obtain rfl:=Option.some.inj H;(go_enter Try.func23,Try.ntmps23);(go_wp2);(go_ret);(exact ⟨by first|rfl|(simp [errW_none,errW_some] <;> rfl)|(simp [*,errW_none,errW_some] <;> rfl),by repeat (first|(with_reducible first|exact HB.out|apply bA_|apply bN_|apply b1_)|exact HB.out)⟩))
 ·rw [if_neg c2] at H
  (have c2b0:=decide_eq_false c2);(have c2b1 : decide (32 < l0.length) = false:=decide_eq_false (by omega));clear c2;(have H':=am_ H);clear H;(go_enter Try.func23,Try.ntmps23);(go_wp2);(go_loopg [10] k (fun kq v10 w' => ∃ (x10_1 : Int),v10 = .int .i64 x10_1 ∧ Aside0 (railplanref24_CheckClosures.l0 kq l0 (l0.length : Int) x10_1 = some r) ∧ Aside0 (kq ≤ k) ∧ Aside0 (Below w.heap.size w w')))
  case atStart => exact ⟨(0),(by first|rfl|(simp;done)|(simp [*];done)),H',⟨Nat.le_refl _⟩,⟨by repeat (first|(with_reducible first|exact HB.out|apply bA_|apply bN_|apply b1_)|exact HB.out)⟩⟩
  case round =>
   clear H';(try clear c2);(try clear c2b0);(try clear c2b1);(try clear p2);obtain ⟨x10_1,rfl,HA,HK1,HB⟩:=hrel;cases gk with
   | zero => exact absurd HA.out (by simp [railplanref24_CheckClosures.l0])
   | succ k1 =>
    (have H:=HA.out);clear HA;simp only [railplanref24_CheckClosures.l0] at H
    by_cases c3 : x10_1 < (l0.length : Int)
    ·rw [if_pos c3] at H
     (have c3b0:=decide_eq_true c3);clear c3
     by_cases c4 : 0 ≤ x10_1
     ·rw [if_pos c4] at H
      (have c4b0:=decide_eq_true c4);clear c4
      by_cases c5 : x10_1 < (l0.length : Int)
      ·rw [if_pos c5] at H
       (have c5b0:=decide_eq_true c5);clear c5
       by_cases c6 : ((rd_T27 l0 x10_1).f0) < 0
       ·rw [if_pos c6] at H;((have c6b0:=decide_eq_true c6);clear c6;obtain rfl:=Option.some.inj H;(have p304 : 0 ≤ (x10_1 : Int):=of_decide_eq_true (by first|(with_reducible assumption)|assumption));(have q304 : x10_1 < (l0.length : Int):=of_decide_eq_true (by first|(with_reducible assumption)|assumption));obtain ⟨ad304,e304,hx304_0,hx304_1,hx304_2⟩:=at_T27 HR0.out x10_1 p304 q304;cases e304;replace hx304_0:=(HB.out.cell (wl_ w _ hx304_0)).trans hx304_0;replace hx304_1:=(HB.out.cell (wl_ w _ hx304_1)).trans hx304_1;replace hx304_2:=(HB.out.cell (wl_ w _ hx304_2)).trans hx304_2;replace p304:=eq_true p304;replace q304:=eq_true q304;(go_wp2_with (first|((with_reducible refine gd_ (N:=4) rfl ?_);refine bx_ ?hg (N:=4) ?hd (cs:=#[.int .i64 0,.int .i64 0,.int .i64 0]) (t:=27) ?hr ?_;(case hd => rfl);(case hg => rfl);(case hr => first|(go_simp;done)|(go_simp;rfl));intro gb305 hg w7 hbox hb;have n0_:=am_ (bs_ (by repeat (first|(with_reducible first|exact HB.out|apply bA_|apply bN_|apply b1_)|exact HB.out)) hb);have n1_:=am_ (hbox);have n2_:=am_ ((by rw [hg];exact (bz_ (by repeat (first|(with_reducible first|exact HB.out|apply bA_|apply bN_|apply b1_)|exact HB.out))) : w.heap.size ≤ gb305));have n3_:=am_ ((by rw [hg];exact (bz_ (by repeat (first|(with_reducible first|exact HB.out|apply bA_|apply bN_|apply b1_)|exact HB.out))) : w.heap.size ≤ gb305));clear HB;have HB:=n0_;have BK305:=n1_;have GW305:=n2_;have GE305:=n3_;clear n0_ n1_ n2_ n3_;clear hb hbox hg;have hcz8_0 : w7.cell? ⟨gb305,0,none⟩ = some (.int .i64 0):=(kC_ BK305.out 0).trans rfl;have hcz8_1 : w7.cell? ⟨gb305,1,none⟩ = some (.int .i64 0):=(kC_ BK305.out 1).trans rfl;have hcz8_2 : w7.cell? ⟨gb305,2,none⟩ = some (.int .i64 0):=(kC_ BK305.out 2).trans rfl;have hfz8_0:=kF_ BK305.out 0;have hfz8_1:=kF_ BK305.out 1;have hfz8_2:=kF_ BK305.out 2)));(go_ret);(exact ⟨by first|rfl|(simp [errW_none,errW_some] <;> rfl)|(simp [*,errW_none,errW_some] <;> rfl),by repeat (first|(with_reducible first|exact HB.out|apply bA_|apply bN_|apply b1_|refine bS_ ?_ GE305.out)|exact HB.out)⟩))
       ·rw [if_neg c6] at H
        (have c6b0:=decide_eq_false c6);clear c6
        by_cases c9 : ((rd_T27 l0 x10_1).f0) ≥ 144
        ·rw [if_pos c9] at H;((have c9b0:=decide_eq_true c9);clear c9;obtain rfl:=Option.some.inj H;(have p304 : 0 ≤ (x10_1 : Int):=of_decide_eq_true (by first|(with_reducible assumption)|assumption));(have q304 : x10_1 < (l0.length : Int):=of_decide_eq_true (by first|(with_reducible assumption)|assumption));obtain ⟨ad304,e304,hx304_0,hx304_1,hx304_2⟩:=at_T27 HR0.out x10_1 p304 q304;cases e304;replace hx304_0:=(HB.out.cell (wl_ w _ hx304_0)).trans hx304_0;replace hx304_1:=(HB.out.cell (wl_ w _ hx304_1)).trans hx304_1;replace hx304_2:=(HB.out.cell (wl_ w _ hx304_2)).trans hx304_2;replace p304:=eq_true p304;replace q304:=eq_true q304;(go_wp2_with (first|((with_reducible refine gd_ (N:=4) rfl ?_);refine bx_ ?hg (N:=4) ?hd (cs:=#[.int .i64 0,.int .i64 0,.int .i64 0]) (t:=27) ?hr ?_;(case hd => rfl);(case hg => rfl);(case hr => first|(go_simp;done)|(go_simp;rfl));intro gb305 hg w10 hbox hb;have n0_:=am_ (bs_ (by repeat (first|(with_reducible first|exact HB.out|apply bA_|apply bN_|apply b1_)|exact HB.out)) hb);have n1_:=am_ (hbox);have n2_:=am_ ((by rw [hg];exact (bz_ (by repeat (first|(with_reducible first|exact HB.out|apply bA_|apply bN_|apply b1_)|exact HB.out))) : w.heap.size ≤ gb305));have n3_:=am_ ((by rw [hg];exact (bz_ (by repeat (first|(with_reducible first|exact HB.out|apply bA_|apply bN_|apply b1_)|exact HB.out))) : w.heap.size ≤ gb305));clear HB;have HB:=n0_;have BK305:=n1_;have GW305:=n2_;have GE305:=n3_;clear n0_ n1_ n2_ n3_;clear hb hbox hg;have hcz11_0 : w10.cell? ⟨gb305,0,none⟩ = some (.int .i64 0):=(kC_ BK305.out 0).trans rfl;have hcz11_1 : w10.cell? ⟨gb305,1,none⟩ = some (.int .i64 0):=(kC_ BK305.out 1).trans rfl;have hcz11_2 : w10.cell? ⟨gb305,2,none⟩ = some (.int .i64 0):=(kC_ BK305.out 2).trans rfl;have hfz11_0:=kF_ BK305.out 0;have hfz11_1:=kF_ BK305.out 1;have hfz11_2:=kF_ BK305.out 2)));(go_ret);(exact ⟨by first|rfl|(simp [errW_none,errW_some] <;> rfl)|(simp [*,errW_none,errW_some] <;> rfl),by repeat (first|(with_reducible first|exact HB.out|apply bA_|apply bN_|apply b1_|refine bS_ ?_ GE305.out)|exact HB.out)⟩))
        ·rw [if_neg c9] at H
         (have c9b0:=decide_eq_false c9);clear c9
         by_cases c12 : ((rd_T27 l0 x10_1).f1) < 0
         ·rw [if_pos c12] at H;((have c12b0:=decide_eq_true c12);clear c12;obtain rfl:=Option.some.inj H;(have p304 : 0 ≤ (x10_1 : Int):=of_decide_eq_true (by first|(with_reducible assumption)|assumption));(have q304 : x10_1 < (l0.length : Int):=of_decide_eq_true (by first|(with_reducible assumption)|assumption));obtain ⟨ad304,e304,hx304_0,hx304_1,hx304_2⟩:=at_T27 HR0.out x10_1 p304 q304;cases e304;replace hx304_0:=(HB.out.cell (wl_ w _ hx304_0)).trans hx304_0;replace hx304_1:=(HB.out.cell (wl_ w _ hx304_1)).trans hx304_1;replace hx304_2:=(HB.out.cell (wl_ w _ hx304_2)).trans hx304_2;replace p304:=eq_true p304;replace q304:=eq_true q304;(go_wp2_with (first|((with_reducible refine gd_ (N:=4) rfl ?_);refine bx_ ?hg (N:=4) ?hd (cs:=#[.int .i64 0,.int .i64 0,.int .i64 0]) (t:=27) ?hr ?_;(case hd => rfl);(case hg => rfl);(case hr => first|(go_simp;done)|(go_simp;rfl));intro gb305 hg w13 hbox hb;have n0_:=am_ (bs_ (by repeat (first|(with_reducible first|exact HB.out|apply bA_|apply bN_|apply b1_)|exact HB.out)) hb);have n1_:=am_ (hbox);have n2_:=am_ ((by rw [hg];exact (bz_ (by repeat (first|(with_reducible first|exact HB.out|apply bA_|apply bN_|apply b1_)|exact HB.out))) : w.heap.size ≤ gb305));have n3_:=am_ ((by rw [hg];exact (bz_ (by repeat (first|(with_reducible first|exact HB.out|apply bA_|apply bN_|apply b1_)|exact HB.out))) : w.heap.size ≤ gb305));clear HB;have HB:=n0_;have BK305:=n1_;have GW305:=n2_;have GE305:=n3_;clear n0_ n1_ n2_ n3_;clear hb hbox hg;have hcz14_0 : w13.cell? ⟨gb305,0,none⟩ = some (.int .i64 0):=(kC_ BK305.out 0).trans rfl;have hcz14_1 : w13.cell? ⟨gb305,1,none⟩ = some (.int .i64 0):=(kC_ BK305.out 1).trans rfl;have hcz14_2 : w13.cell? ⟨gb305,2,none⟩ = some (.int .i64 0):=(kC_ BK305.out 2).trans rfl;have hfz14_0:=kF_ BK305.out 0;have hfz14_1:=kF_ BK305.out 1;have hfz14_2:=kF_ BK305.out 2)));(go_ret);(exact ⟨by first|rfl|(simp [errW_none,errW_some] <;> rfl)|(simp [*,errW_none,errW_some] <;> rfl),by repeat (first|(with_reducible first|exact HB.out|apply bA_|apply bN_|apply b1_|refine bS_ ?_ GE305.out)|exact HB.out)⟩))
         ·rw [if_neg c12] at H
          (have c12b0:=decide_eq_false c12);clear c12
          by_cases c15 : ((rd_T27 l0 x10_1).f2) ≤ ((rd_T27 l0 x10_1).f1)
          ·rw [if_pos c15] at H;((have c15b0:=decide_eq_true c15);clear c15;obtain rfl:=Option.some.inj H;(have p304 : 0 ≤ (x10_1 : Int):=of_decide_eq_true (by first|(with_reducible assumption)|assumption));(have q304 : x10_1 < (l0.length : Int):=of_decide_eq_true (by first|(with_reducible assumption)|assumption));obtain ⟨ad304,e304,hx304_0,hx304_1,hx304_2⟩:=at_T27 HR0.out x10_1 p304 q304;cases e304;replace hx304_0:=(HB.out.cell (wl_ w _ hx304_0)).trans hx304_0;replace hx304_1:=(HB.out.cell (wl_ w _ hx304_1)).trans hx304_1;replace hx304_2:=(HB.out.cell (wl_ w _ hx304_2)).trans hx304_2;replace p304:=eq_true p304;replace q304:=eq_true q304;(go_wp2_with (first|((with_reducible refine gd_ (N:=4) rfl ?_);refine bx_ ?hg (N:=4) ?hd (cs:=#[.int .i64 0,.int .i64 0,.int .i64 0]) (t:=27) ?hr ?_;(case hd => rfl);(case hg => rfl);(case hr => first|(go_simp;done)|(go_simp;rfl));intro gb305 hg w16 hbox hb;have n0_:=am_ (bs_ (by repeat (first|(with_reducible first|exact HB.out|apply bA_|apply bN_|apply b1_)|exact HB.out)) hb);have n1_:=am_ (hbox);have n2_:=am_ ((by rw [hg];exact (bz_ (by repeat (first|(with_reducible first|exact HB.out|apply bA_|apply bN_|apply b1_)|exact HB.out))) : w.heap.size ≤ gb305));have n3_:=am_ ((by rw [hg];exact (bz_ (by repeat (first|(with_reducible first|exact HB.out|apply bA_|apply bN_|apply b1_)|exact HB.out))) : w.heap.size ≤ gb305));clear HB;have HB:=n0_;have BK305:=n1_;have GW305:=n2_;have GE305:=n3_;clear n0_ n1_ n2_ n3_;clear hb hbox hg;have hcz17_0 : w16.cell? ⟨gb305,0,none⟩ = some (.int .i64 0):=(kC_ BK305.out 0).trans rfl;have hcz17_1 : w16.cell? ⟨gb305,1,none⟩ = some (.int .i64 0):=(kC_ BK305.out 1).trans rfl;have hcz17_2 : w16.cell? ⟨gb305,2,none⟩ = some (.int .i64 0):=(kC_ BK305.out 2).trans rfl;have hfz17_0:=kF_ BK305.out 0;have hfz17_1:=kF_ BK305.out 1;have hfz17_2:=kF_ BK305.out 2)));(go_ret);(exact ⟨by first|rfl|(simp [errW_none,errW_some] <;> rfl)|(simp [*,errW_none,errW_some] <;> rfl),by repeat (first|(with_reducible first|exact HB.out|apply bA_|apply bN_|apply b1_|refine bS_ ?_ GE305.out)|exact HB.out)⟩))
          ·rw [if_neg c15] at H
           (have c15b0:=decide_eq_false c15);clear c15
           by_cases c18 : ((rd_T27 l0 x10_1).f2) > 4194304
           ·rw [if_pos c18] at H;((have c18b0:=decide_eq_true c18);clear c18;obtain rfl:=Option.some.inj H;(have p304 : 0 ≤ (x10_1 : Int):=of_decide_eq_true (by first|(with_reducible assumption)|assumption));(have q304 : x10_1 < (l0.length : Int):=of_decide_eq_true (by first|(with_reducible assumption)|assumption));obtain ⟨ad304,e304,hx304_0,hx304_1,hx304_2⟩:=at_T27 HR0.out x10_1 p304 q304;cases e304;replace hx304_0:=(HB.out.cell (wl_ w _ hx304_0)).trans hx304_0;replace hx304_1:=(HB.out.cell (wl_ w _ hx304_1)).trans hx304_1;replace hx304_2:=(HB.out.cell (wl_ w _ hx304_2)).trans hx304_2;replace p304:=eq_true p304;replace q304:=eq_true q304;(go_wp2_with (first|((with_reducible refine gd_ (N:=4) rfl ?_);refine bx_ ?hg (N:=4) ?hd (cs:=#[.int .i64 0,.int .i64 0,.int .i64 0]) (t:=27) ?hr ?_;(case hd => rfl);(case hg => rfl);(case hr => first|(go_simp;done)|(go_simp;rfl));intro gb305 hg w19 hbox hb;have n0_:=am_ (bs_ (by repeat (first|(with_reducible first|exact HB.out|apply bA_|apply bN_|apply b1_)|exact HB.out)) hb);have n1_:=am_ (hbox);have n2_:=am_ ((by rw [hg];exact (bz_ (by repeat (first|(with_reducible first|exact HB.out|apply bA_|apply bN_|apply b1_)|exact HB.out))) : w.heap.size ≤ gb305));have n3_:=am_ ((by rw [hg];exact (bz_ (by repeat (first|(with_reducible first|exact HB.out|apply bA_|apply bN_|apply b1_)|exact HB.out))) : w.heap.size ≤ gb305));clear HB;have HB:=n0_;have BK305:=n1_;have GW305:=n2_;have GE305:=n3_;clear n0_ n1_ n2_ n3_;clear hb hbox hg;have hcz20_0 : w19.cell? ⟨gb305,0,none⟩ = some (.int .i64 0):=(kC_ BK305.out 0).trans rfl;have hcz20_1 : w19.cell? ⟨gb305,1,none⟩ = some (.int .i64 0):=(kC_ BK305.out 1).trans rfl;have hcz20_2 : w19.cell? ⟨gb305,2,none⟩ = some (.int .i64 0):=(kC_ BK305.out 2).trans rfl;have hfz20_0:=kF_ BK305.out 0;have hfz20_1:=kF_ BK305.out 1;have hfz20_2:=kF_ BK305.out 2)));(go_ret);(exact ⟨by first|rfl|(simp [errW_none,errW_some] <;> rfl)|(simp [*,errW_none,errW_some] <;> rfl),by repeat (first|(with_reducible first|exact HB.out|apply bA_|apply bN_|apply b1_|refine bS_ ?_ GE305.out)|exact HB.out)⟩))
           ·rw [if_neg c18] at H
            (have c18b0:=decide_eq_false c18);clear c18;(have H':=am_ H);clear H;(have p304 : 0 ≤ (x10_1 : Int):=of_decide_eq_true (by first|(with_reducible assumption)|assumption));(have q304 : x10_1 < (l0.length : Int):=of_decide_eq_true (by first|(with_reducible assumption)|assumption));obtain ⟨ad304,e304,hx304_0,hx304_1,hx304_2⟩:=at_T27 HR0.out x10_1 p304 q304;cases e304;replace hx304_0:=(HB.out.cell (wl_ w _ hx304_0)).trans hx304_0;replace hx304_1:=(HB.out.cell (wl_ w _ hx304_1)).trans hx304_1;replace hx304_2:=(HB.out.cell (wl_ w _ hx304_2)).trans hx304_2;replace p304:=eq_true p304;replace q304:=eq_true q304;(go_wp2_with (first|((with_reducible refine gd_ (N:=4) rfl ?_);refine bx_ ?hg (N:=4) ?hd (cs:=#[.int .i64 0,.int .i64 0,.int .i64 0]) (t:=27) ?hr ?_;(case hd => rfl);(case hg => rfl);(case hr => first|(go_simp;done)|(go_simp;rfl));intro gb305 hg w21 hbox hb;have n0_:=am_ (bs_ (by repeat (first|(with_reducible first|exact HB.out|apply bA_|apply bN_|apply b1_)|exact HB.out)) hb);have n1_:=am_ (hbox);have n2_:=am_ ((by rw [hg];exact (bz_ (by repeat (first|(with_reducible first|exact HB.out|apply bA_|apply bN_|apply b1_)|exact HB.out))) : w.heap.size ≤ gb305));have n3_:=am_ ((by rw [hg];exact (bz_ (by repeat (first|(with_reducible first|exact HB.out|apply bA_|apply bN_|apply b1_)|exact HB.out))) : w.heap.size ≤ gb305));clear HB;have HB:=n0_;have BK305:=n1_;have GW305:=n2_;have GE305:=n3_;clear n0_ n1_ n2_ n3_;clear hb hbox hg;have hcz22_0 : w21.cell? ⟨gb305,0,none⟩ = some (.int .i64 0):=(kC_ BK305.out 0).trans rfl;have hcz22_1 : w21.cell? ⟨gb305,1,none⟩ = some (.int .i64 0):=(kC_ BK305.out 1).trans rfl;have hcz22_2 : w21.cell? ⟨gb305,2,none⟩ = some (.int .i64 0):=(kC_ BK305.out 2).trans rfl;have hfz22_0:=kF_ BK305.out 0;have hfz22_1:=kF_ BK305.out 1;have hfz22_2:=kF_ BK305.out 2)));(go_roundg k1)
            case measure => have:=HK1.out;omega
            case rel => exact ⟨(wrap64 (x10_1 + 1)),(by first|rfl|(simp;done)|(simp [*];done)),H',⟨by have:=HK1.out;omega⟩,⟨by repeat (first|(with_reducible first|exact HB.out|apply bA_|apply bN_|apply b1_|refine bS_ ?_ GE305.out)|exact HB.out)⟩⟩
      ·rw [if_neg c5] at H;(simp at H)
     ·rw [if_neg c4] at H;(simp at H)
    ·rw [if_neg c3] at H;((have c3b0:=decide_eq_false c3);clear c3;obtain rfl:=Option.some.inj H;(go_wp2);(go_ret);(exact ⟨by first|rfl|(simp [errW_none,errW_some] <;> rfl)|(simp [*,errW_none,errW_some] <;> rfl),by repeat (first|(with_reducible first|exact HB.out|apply bA_|apply bN_|apply b1_)|exact HB.out)⟩))
end Go.Proofs.Ytiohandkjjmemaa.PAll
