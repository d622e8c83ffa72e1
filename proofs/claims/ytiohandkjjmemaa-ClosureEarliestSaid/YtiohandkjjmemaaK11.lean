-- Packed by wip/tools/pack.py of this session out of what plugprint.py and the kit's print wrote. Lean checks it.
import Derived.Test.YtiohandkjjmemaaKS
namespace Go.Proofs.Ytiohandkjjmemaa.PAll
open Go.RowKit Go.Proofs.YtiohandkjjmemaaW.PrintWords Go.Proofs.YtiohandkjjmemaaW.PrintLast Go.Proofs.YtiohandkjjmemaaW.PrintMore
attribute [local go_sem] max2_int min2_int max_two min_two max_three min_three max_four min_four
set_option linter.unusedVariables false
set_option linter.unusedSimpArgs false
/-! ### railplanref24_covering: function 32 -/
def railplanref24_covering.l0 : Nat → Int → Int → List (S27) → Int → Int → Option (Int)
 | 0,_,_,_,_,_ => none
 | k + 1,x1,x2,x9,x10,x11 => if x11 < x10 then (if 0 ≤ x11 then (if x11 < (x9.length : Int) then (if ((rd_T27 x9 x11).f0) = x1 then (if ((rd_T27 x9 x11).f1) ≤ x2 then (if x2 < ((rd_T27 x9 x11).f2) then (some x11) else (railplanref24_covering.l0 k x1 x2 x9 x10 (wrap64 (x11 + 1)))) else (railplanref24_covering.l0 k x1 x2 x9 x10 (wrap64 (x11 + 1)))) else (railplanref24_covering.l0 k x1 x2 x9 x10 (wrap64 (x11 + 1)))) else (none)) else (none)) else (some (-1))
def railplanref24_covering.f (k : Nat) (l0 : List (S27)) (a1 : Int) (a2 : Int) : Option (Int):=railplanref24_covering.l0 k a1 a2 l0 (l0.length : Int) 0
theorem railplanref24_covering.mono_l : ∀ k,(∀ y0 y1 y2 y3 y4,LeO (railplanref24_covering.l0 k y0 y1 y2 y3 y4) (railplanref24_covering.l0 (k + 1) y0 y1 y2 y3 y4))
 | 0 => fun _ _ _ _ _ r h => by simp [railplanref24_covering.l0] at h
 | k + 1 => by
  have ih0:=railplanref24_covering.mono_l k
  ·intro y0 y1 y2 y3 y4
   unfold railplanref24_covering.l0
   repeat' first
   | (with_reducible exact ih0 _ _ _ _ _)
   | (with_reducible exact LeO.refl _)
   | (with_reducible exact LeO.none _)
   | (with_reducible refine LeO.ite ?_ ?_)
   | (with_reducible refine LeO.bind ?_ (fun _ => ?_))
   | exact ih0 _ _ _ _ _
   | exact LeO.none _
   | refine LeO.ite ?_ ?_
   | refine LeO.bind ?_ (fun _ => ?_)
theorem railplanref24_covering.mono : ∀ a0 a1 a2 k,LeO (railplanref24_covering.f k a0 a1 a2) (railplanref24_covering.f (k + 1) a0 a1 a2):=by
 intro a0 a1 a2 k;(have ih0:=railplanref24_covering.mono_l k);(unfold railplanref24_covering.f)
 repeat' first
   | (with_reducible exact ih0 _ _ _ _ _)
   | (with_reducible exact LeO.refl _)
   | (with_reducible exact LeO.none _)
   | (with_reducible refine LeO.ite ?_ ?_)
   | (with_reducible refine LeO.bind ?_ (fun _ => ?_))
   | exact ih0 _ _ _ _ _
   | exact LeO.none _
   | refine LeO.ite ?_ ?_
   | refine LeO.bind ?_ (fun _ => ?_)
set_option maxHeartbeats 8000000 in
set_option maxRecDepth 100000 in
theorem railplanref24_covering.calls (k : Nat) (A0 : Option Addr) (c0 : Nat) (l0 : List (S27)) (a1 : Int) (a2 : Int) (r : Int) (w : World) (hr0 : Kd.C k27 w A0 l0.length l0) (hc0 : l0.length ≤ c0) (h : railplanref24_covering.f k l0 a1 a2 = some r) :
  Calls Try.prog 32 #[.slice A0 l0.length c0,.int .i64 a1,.int .i64 a2] w fun e w' => e = .returned (.int .i64 r) ∧ Below w.heap.size w w':=by
 have hu27:=Try.underlying27
 have HR0:=am_ hr0
 have HC0:=am_ hc0
 clear hr0 hc0
 have HB:=am_ (Below.refl w.heap.size w)
 have H : (railplanref24_covering.l0 k a1 a2 l0 (l0.length : Int) 0) = some r:=h
 clear h
 have H':=am_ H
 clear H
 go_enter Try.func32,Try.ntmps32
 go_wp2
 go_loopg [11] k (fun kq v11 w' => ∃ (x11_1 : Int),v11 = .int .i64 x11_1 ∧ Aside0 (railplanref24_covering.l0 kq a1 a2 l0 (l0.length : Int) x11_1 = some r) ∧ Aside0 (kq ≤ k) ∧ Aside0 (Below w.heap.size w w'))
 case atStart => exact ⟨(0),(by first|rfl|(simp;done)|(simp [*];done)),H',⟨Nat.le_refl _⟩,⟨by repeat (first|(with_reducible first|exact HB.out|apply bA_|apply bN_|apply b1_)|exact HB.out)⟩⟩
 case round =>
  clear H';(try clear p2);(try clear c3);obtain ⟨x11_1,rfl,HA,HK1,HB⟩:=hrel;cases gk with
  | zero => exact absurd HA.out (by simp [railplanref24_covering.l0])
  | succ k1 =>
   (have H:=HA.out);clear HA;simp only [railplanref24_covering.l0] at H
   by_cases c4 : x11_1 < (l0.length : Int)
   ·rw [if_pos c4] at H
    (have c4b0:=decide_eq_true c4);clear c4
    by_cases c5 : 0 ≤ x11_1
    ·rw [if_pos c5] at H
     (have c5b0:=decide_eq_true c5);clear c5
     by_cases c6 : x11_1 < (l0.length : Int)
     ·rw [if_pos c6] at H
      (have c6b0:=decide_eq_true c6);clear c6
      by_cases c7 : ((rd_T27 l0 x11_1).f0) = a1
      ·rw [if_pos c7] at H
       (have c7b0 : (((rd_T27 l0 x11_1).f0) == a1) = true:=beq_iff_eq.mpr c7);(have c7b1 : (((rd_T27 l0 x11_1).f0) != a1) = false:=bne_eq_false_iff_eq.mpr c7);clear c7
       by_cases c8 : ((rd_T27 l0 x11_1).f1) ≤ a2
       ·rw [if_pos c8] at H
        (have c8b0:=decide_eq_true c8);clear c8
        by_cases c9 : a2 < ((rd_T27 l0 x11_1).f2)
        ·rw [if_pos c9] at H;((have c9b0:=decide_eq_true c9);clear c9;obtain rfl:=Option.some.inj H;(have p221 : 0 ≤ (x11_1 : Int):=of_decide_eq_true (by first|(with_reducible assumption)|assumption));(have q221 : x11_1 < (l0.length : Int):=of_decide_eq_true (by first|(with_reducible assumption)|assumption));obtain ⟨ad221,e221,hx221_0,hx221_1,hx221_2⟩:=at_T27 HR0.out x11_1 p221 q221;cases e221;replace hx221_0:=(HB.out.cell (wl_ w _ hx221_0)).trans hx221_0;replace hx221_1:=(HB.out.cell (wl_ w _ hx221_1)).trans hx221_1;replace hx221_2:=(HB.out.cell (wl_ w _ hx221_2)).trans hx221_2;replace p221:=eq_true p221;replace q221:=eq_true q221;(go_wp2_with (first|((with_reducible refine gd_ (N:=8) rfl ?_);refine bx_ ?hg (N:=8) ?hd (cs:=#[.int .i64 0,.int .i64 0,.int .i64 0]) (t:=27) ?hr ?_;(case hd => rfl);(case hg => rfl);(case hr => first|(go_simp;done)|(go_simp;rfl));intro gb222 hg w10 hbox hb;have n0_:=am_ (bs_ (by repeat (first|(with_reducible first|exact HB.out|apply bA_|apply bN_|apply b1_)|exact HB.out)) hb);have n1_:=am_ (hbox);have n2_:=am_ ((by rw [hg];exact (bz_ (by repeat (first|(with_reducible first|exact HB.out|apply bA_|apply bN_|apply b1_)|exact HB.out))) : w.heap.size ≤ gb222));have n3_:=am_ ((by rw [hg];exact (bz_ (by repeat (first|(with_reducible first|exact HB.out|apply bA_|apply bN_|apply b1_)|exact HB.out))) : w.heap.size ≤ gb222));clear HB;have HB:=n0_;have BK222:=n1_;have GW222:=n2_;have GE222:=n3_;clear n0_ n1_ n2_ n3_;clear hb hbox hg;have hcz11_0 : w10.cell? ⟨gb222,0,none⟩ = some (.int .i64 0):=(kC_ BK222.out 0).trans rfl;have hcz11_1 : w10.cell? ⟨gb222,1,none⟩ = some (.int .i64 0):=(kC_ BK222.out 1).trans rfl;have hcz11_2 : w10.cell? ⟨gb222,2,none⟩ = some (.int .i64 0):=(kC_ BK222.out 2).trans rfl;have hfz11_0:=kF_ BK222.out 0;have hfz11_1:=kF_ BK222.out 1;have hfz11_2:=kF_ BK222.out 2)));(go_ret);(exact ⟨by first|rfl|(simp [errW_none,errW_some] <;> rfl)|(simp [*,errW_none,errW_some] <;> rfl),by repeat (first|(with_reducible first|exact HB.out|apply bA_|apply bN_|apply b1_|refine bS_ ?_ GE222.out)|exact HB.out)⟩))
        ·rw [if_neg c9] at H
         (have c9b0:=decide_eq_false c9);clear c9;(have H':=am_ H);clear H;(have p221 : 0 ≤ (x11_1 : Int):=of_decide_eq_true (by first|(with_reducible assumption)|assumption));(have q221 : x11_1 < (l0.length : Int):=of_decide_eq_true (by first|(with_reducible assumption)|assumption));obtain ⟨ad221,e221,hx221_0,hx221_1,hx221_2⟩:=at_T27 HR0.out x11_1 p221 q221;cases e221;replace hx221_0:=(HB.out.cell (wl_ w _ hx221_0)).trans hx221_0;replace hx221_1:=(HB.out.cell (wl_ w _ hx221_1)).trans hx221_1;replace hx221_2:=(HB.out.cell (wl_ w _ hx221_2)).trans hx221_2;replace p221:=eq_true p221;replace q221:=eq_true q221;(go_wp2_with (first|((with_reducible refine gd_ (N:=8) rfl ?_);refine bx_ ?hg (N:=8) ?hd (cs:=#[.int .i64 0,.int .i64 0,.int .i64 0]) (t:=27) ?hr ?_;(case hd => rfl);(case hg => rfl);(case hr => first|(go_simp;done)|(go_simp;rfl));intro gb222 hg w12 hbox hb;have n0_:=am_ (bs_ (by repeat (first|(with_reducible first|exact HB.out|apply bA_|apply bN_|apply b1_)|exact HB.out)) hb);have n1_:=am_ (hbox);have n2_:=am_ ((by rw [hg];exact (bz_ (by repeat (first|(with_reducible first|exact HB.out|apply bA_|apply bN_|apply b1_)|exact HB.out))) : w.heap.size ≤ gb222));have n3_:=am_ ((by rw [hg];exact (bz_ (by repeat (first|(with_reducible first|exact HB.out|apply bA_|apply bN_|apply b1_)|exact HB.out))) : w.heap.size ≤ gb222));clear HB;have HB:=n0_;have BK222:=n1_;have GW222:=n2_;have GE222:=n3_;clear n0_ n1_ n2_ n3_;clear hb hbox hg;have hcz13_0 : w12.cell? ⟨gb222,0,none⟩ = some (.int .i64 0):=(kC_ BK222.out 0).trans rfl;have hcz13_1 : w12.cell? ⟨gb222,1,none⟩ = some (.int .i64 0):=(kC_ BK222.out 1).trans rfl;have hcz13_2 : w12.cell? ⟨gb222,2,none⟩ = some (.int .i64 0):=(kC_ BK222.out 2).trans rfl;have hfz13_0:=kF_ BK222.out 0;have hfz13_1:=kF_ BK222.out 1;have hfz13_2:=kF_ BK222.out 2)));(go_roundg k1)
         case measure => have:=HK1.out;omega
         case rel => exact ⟨(wrap64 (x11_1 + 1)),(by first|rfl|(simp;done)|(simp [*];done)),H',⟨by have:=HK1.out;omega⟩,⟨by repeat (first|(with_reducible first|exact HB.out|apply bA_|apply bN_|apply b1_|refine bS_ ?_ GE222.out)|exact HB.out)⟩⟩
       ·rw [if_neg c8] at H
        (have c8b0:=decide_eq_false c8);clear c8;(have H':=am_ H);clear H;(have p221 : 0 ≤ (x11_1 : Int):=of_decide_eq_true (by first|(with_reducible assumption)|assumption));(have q221 : x11_1 < (l0.length : Int):=of_decide_eq_true (by first|(with_reducible assumption)|assumption));obtain ⟨ad221,e221,hx221_0,hx221_1,hx221_2⟩:=at_T27 HR0.out x11_1 p221 q221;cases e221;replace hx221_0:=(HB.out.cell (wl_ w _ hx221_0)).trans hx221_0;replace hx221_1:=(HB.out.cell (wl_ w _ hx221_1)).trans hx221_1;replace hx221_2:=(HB.out.cell (wl_ w _ hx221_2)).trans hx221_2;replace p221:=eq_true p221;replace q221:=eq_true q221;(go_wp2_with (first|((with_reducible refine gd_ (N:=8) rfl ?_);refine bx_ ?hg (N:=8) ?hd (cs:=#[.int .i64 0,.int .i64 0,.int .i64 0]) (t:=27) ?hr ?_;(case hd => rfl);(case hg => rfl);(case hr => first|(go_simp;done)|(go_simp;rfl));intro gb222 hg w14 hbox hb;have n0_:=am_ (bs_ (by repeat (first|(with_reducible first|exact HB.out|apply bA_|apply bN_|apply b1_)|exact HB.out)) hb);have n1_:=am_ (hbox);have n2_:=am_ ((by rw [hg];exact (bz_ (by repeat (first|(with_reducible first|exact HB.out|apply bA_|apply bN_|apply b1_)|exact HB.out))) : w.heap.size ≤ gb222));have n3_:=am_ ((by rw [hg];exact (bz_ (by repeat (first|(with_reducible first|exact HB.out|apply bA_|apply bN_|apply b1_)|exact HB.out))) : w.heap.size ≤ gb222));clear HB;have HB:=n0_;have BK222:=n1_;have GW222:=n2_;have GE222:=n3_;clear n0_ n1_ n2_ n3_;clear hb hbox hg;have hcz15_0 : w14.cell? ⟨gb222,0,none⟩ = some (.int .i64 0):=(kC_ BK222.out 0).trans rfl;have hcz15_1 : w14.cell? ⟨gb222,1,none⟩ = some (.int .i64 0):=(kC_ BK222.out 1).trans rfl;have hcz15_2 : w14.cell? ⟨gb222,2,none⟩ = some (.int .i64 0):=(kC_ BK222.out 2).trans rfl;have hfz15_0:=kF_ BK222.out 0;have hfz15_1:=kF_ BK222.out 1;have hfz15_2:=kF_ BK222.out 2)));(go_roundg k1)
        case measure => have:=HK1.out;omega
        case rel => exact ⟨(wrap64 (x11_1 + 1)),(by first|rfl|(simp;done)|(simp [*];done)),H',⟨by have:=HK1.out;omega⟩,⟨by repeat (first|(with_reducible first|exact HB.out|apply bA_|apply bN_|apply b1_|refine bS_ ?_ GE222.out)|exact HB.out)⟩⟩
      ·rw [if_neg c7] at H
       (have c7b0 : (((rd_T27 l0 x11_1).f0) == a1) = false:=beq_eq_false_iff_ne.mpr c7);(have c7b1 : (((rd_T27 l0 x11_1).f0) != a1) = true:=bne_iff_ne.mpr c7);(have H':=am_ H);clear H;(have p221 : 0 ≤ (x11_1 : Int):=of_decide_eq_true (by first|(with_reducible assumption)|assumption));(have q221 : x11_1 < (l0.length : Int):=of_decide_eq_true (by first|(with_reducible assumption)|assumption));obtain ⟨ad221,e221,hx221_0,hx221_1,hx221_2⟩:=at_T27 HR0.out x11_1 p221 q221;cases e221;replace hx221_0:=(HB.out.cell (wl_ w _ hx221_0)).trans hx221_0;replace hx221_1:=(HB.out.cell (wl_ w _ hx221_1)).trans hx221_1;replace hx221_2:=(HB.out.cell (wl_ w _ hx221_2)).trans hx221_2;replace p221:=eq_true p221;replace q221:=eq_true q221;(go_wp2_with (first|((with_reducible refine gd_ (N:=8) rfl ?_);refine bx_ ?hg (N:=8) ?hd (cs:=#[.int .i64 0,.int .i64 0,.int .i64 0]) (t:=27) ?hr ?_;(case hd => rfl);(case hg => rfl);(case hr => first|(go_simp;done)|(go_simp;rfl));intro gb222 hg w16 hbox hb;have n0_:=am_ (bs_ (by repeat (first|(with_reducible first|exact HB.out|apply bA_|apply bN_|apply b1_)|exact HB.out)) hb);have n1_:=am_ (hbox);have n2_:=am_ ((by rw [hg];exact (bz_ (by repeat (first|(with_reducible first|exact HB.out|apply bA_|apply bN_|apply b1_)|exact HB.out))) : w.heap.size ≤ gb222));have n3_:=am_ ((by rw [hg];exact (bz_ (by repeat (first|(with_reducible first|exact HB.out|apply bA_|apply bN_|apply b1_)|exact HB.out))) : w.heap.size ≤ gb222));clear HB;have HB:=n0_;have BK222:=n1_;have GW222:=n2_;have GE222:=n3_;clear n0_ n1_ n2_ n3_;clear hb hbox hg;have hcz17_0 : w16.cell? ⟨gb222,0,none⟩ = some (.int .i64 0):=(kC_ BK222.out 0).trans rfl;have hcz17_1 : w16.cell? ⟨gb222,1,none⟩ = some (.int .i64 0):=(kC_ BK222.out 1).trans rfl;have hcz17_2 : w16.cell? ⟨gb222,2,none⟩ = some (.int .i64 0):=(kC_ BK222.out 2).trans rfl;have hfz17_0:=kF_ BK222.out 0;have hfz17_1:=kF_ BK222.out 1;have hfz17_2:=kF_ BK222.out 2)));(go_roundg k1)
       case measure => have:=HK1.out;omega
       case rel => exact ⟨(wrap64 (x11_1 + 1)),(by first|rfl|(simp;done)|(simp [*];done)),H',⟨by have:=HK1.out;omega⟩,⟨by repeat (first|(with_reducible first|exact HB.out|apply bA_|apply bN_|apply b1_|refine bS_ ?_ GE222.out)|exact HB.out)⟩⟩
     ·rw [if_neg c6] at H;(simp at H)
    ·rw [if_neg c5] at H;(simp at H)
   ·rw [if_neg c4] at H;((have c4b0:=decide_eq_false c4);clear c4;obtain rfl:=Option.some.inj H;(go_wp2);(go_ret);(exact ⟨by first|rfl|(simp [errW_none,errW_some] <;> rfl)|(simp [*,errW_none,errW_some] <;> rfl),by repeat (first|(with_reducible first|exact HB.out|apply bA_|apply bN_|apply b1_)|exact HB.out)⟩))
end Go.Proofs.Ytiohandkjjmemaa.PAll
