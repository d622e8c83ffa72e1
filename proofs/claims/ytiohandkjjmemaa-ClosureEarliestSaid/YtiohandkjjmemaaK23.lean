-- Packed by wip/tools/pack.py of this session out of what plugprint.py and the kit's print wrote. Lean checks it.
import Derived.Test.YtiohandkjjmemaaKS
import Derived.Test.YtiohandkjjmemaaK12
import Derived.Test.YtiohandkjjmemaaK22
namespace Go.Proofs.Ytiohandkjjmemaa.PAll
open Go.RowKit Go.Proofs.YtiohandkjjmemaaW.PrintWords Go.Proofs.YtiohandkjjmemaaW.PrintLast Go.Proofs.YtiohandkjjmemaaW.PrintMore
attribute [local go_sem] max2_int min2_int max_two min_two max_three min_three max_four min_four
set_option linter.unusedVariables false
set_option linter.unusedSimpArgs false
/-! ### railplanref24_Enters: function 27 -/
def railplanref24_Enters.l0 : Nat → List (S27) → Int → List (S39) → Int → Int → Option (Bool)
 | 0,_,_,_,_,_ => none
 | k + 1,x0,x2,x12,x13,x14 => if x14 < x13 then (if 0 ≤ x14 then (if x14 < (x12.length : Int) then ((railplanref24_moderate.f ((rd_T39 x12 x14).f1)).bind fun t312 => (if t312 = true then ((railplanref24_Open.f k x0 ((rd_T39 x12 x14).f0) (wrap64 (x2 + ((rd_T39 x12 x14).f1)))).bind fun t313 => (if t313 = true then (railplanref24_Enters.l0 k x0 x2 x12 x13 (wrap64 (x14 + 1))) else (some false))) else (some false))) else (none)) else (none)) else (some true)
def railplanref24_Enters.f (k : Nat) (l0 : List (S27)) (l1 : List (S39)) (a2 : Int) : Option (Bool):=(railplanref24_moderate.f a2).bind fun t309 => (if t309 = true then (railplanref24_Enters.l0 k l0 a2 l1 (l1.length : Int) 0) else (some false))
theorem railplanref24_Enters.mono_l : ∀ k,(∀ y0 y1 y2 y3 y4,LeO (railplanref24_Enters.l0 k y0 y1 y2 y3 y4) (railplanref24_Enters.l0 (k + 1) y0 y1 y2 y3 y4))
 | 0 => fun _ _ _ _ _ r h => by simp [railplanref24_Enters.l0] at h
 | k + 1 => by
  have ih0:=railplanref24_Enters.mono_l k
  ·intro y0 y1 y2 y3 y4
   unfold railplanref24_Enters.l0
   repeat' first
   | (with_reducible exact ih0 _ _ _ _ _)
   | (with_reducible exact railplanref24_Open.mono _ _ _ _)
   | (with_reducible exact LeO.refl _)
   | (with_reducible exact LeO.none _)
   | (with_reducible refine LeO.ite ?_ ?_)
   | (with_reducible refine LeO.bind ?_ (fun _ => ?_))
   | exact ih0 _ _ _ _ _
   | exact railplanref24_Open.mono _ _ _ _
   | exact LeO.none _
   | refine LeO.ite ?_ ?_
   | refine LeO.bind ?_ (fun _ => ?_)
theorem railplanref24_Enters.mono : ∀ a0 a1 a2 k,LeO (railplanref24_Enters.f k a0 a1 a2) (railplanref24_Enters.f (k + 1) a0 a1 a2):=by
 intro a0 a1 a2 k;(have ih0:=railplanref24_Enters.mono_l k);(unfold railplanref24_Enters.f)
 repeat' first
   | (with_reducible exact ih0 _ _ _ _ _)
   | (with_reducible exact railplanref24_Open.mono _ _ _ _)
   | (with_reducible exact LeO.refl _)
   | (with_reducible exact LeO.none _)
   | (with_reducible refine LeO.ite ?_ ?_)
   | (with_reducible refine LeO.bind ?_ (fun _ => ?_))
   | exact ih0 _ _ _ _ _
   | exact railplanref24_Open.mono _ _ _ _
   | exact LeO.none _
   | refine LeO.ite ?_ ?_
   | refine LeO.bind ?_ (fun _ => ?_)
set_option maxHeartbeats 8000000 in
set_option maxRecDepth 100000 in
theorem railplanref24_Enters.calls (k : Nat) (A0 : Option Addr) (c0 : Nat) (l0 : List (S27)) (A1 : Option Addr) (c1 : Nat) (l1 : List (S39)) (a2 : Int) (r : Bool) (w : World) (hr0 : Kd.C k27 w A0 l0.length l0) (hc0 : l0.length ≤ c0) (hr1 : Kd.C k39 w A1 l1.length l1) (hc1 : l1.length ≤ c1) (h : railplanref24_Enters.f k l0 l1 a2 = some r) :
  Calls Try.prog 27 #[.slice A0 l0.length c0,.slice A1 l1.length c1,.int .i64 a2] w fun e w' => e = .returned (.bool r) ∧ Below w.heap.size w w':=by
 have hu39:=Try.underlying39
 have HR0:=am_ hr0
 have HC0:=am_ hc0
 clear hr0 hc0
 have HR1:=am_ hr1
 have HC1:=am_ hc1
 clear hr1 hc1
 have HB:=am_ (Below.refl w.heap.size w)
 have H : ((railplanref24_moderate.f a2).bind fun t309 => (if t309 = true then (railplanref24_Enters.l0 k l0 a2 l1 (l1.length : Int) 0) else (some false))) = some r:=h
 clear h
 replace H:=be_ H
 obtain ⟨t309,A40,H⟩:=H
 replace H : (if t309 = true then (railplanref24_Enters.l0 k l0 a2 l1 (l1.length : Int) 0) else (some false)) = some r:=H
 have A4:=am_ A40
 clear A40
 by_cases c5 : t309 = true
 ·subst c5
  (have H1 : (railplanref24_Enters.l0 k l0 a2 l1 (l1.length : Int) 0) = some r:=by rw [if_pos rfl] at H;exact H);clear H;(have H:=H1);clear H1;(have H':=am_ H);clear H;(go_enter Try.func27,Try.ntmps27);(go_wp2_with (first|((with_reducible refine gc_ (f:=34) rfl ?_);refine goesL_ (some 10) rfl rfl Try.func34 (by kernel_rfl) rfl #[.int .i64 a2] rfl (by (try simp only [List.map_toArray,List.map_cons,List.map_nil]);first|done|rfl|(simp only [List.length_drop,List.length_take];rfl)) ?_;(with_reducible refine (railplanref24_moderate.calls a2 true _ A4.out).mono ?_);rintro e w' ⟨rfl,⟨nd,rfl⟩⟩;refine ⟨_,rfl,?_⟩)));(go_loopg [14] k (fun kq v14 w' => ∃ (x14_1 : Int),v14 = .int .i64 x14_1 ∧ Aside0 (railplanref24_Enters.l0 kq l0 a2 l1 (l1.length : Int) x14_1 = some r) ∧ Aside0 (kq ≤ k) ∧ Aside0 (Below w.heap.size w w')))
  case atStart => exact ⟨(0),(by first|rfl|(simp;done)|(simp [*];done)),H',⟨Nat.le_refl _⟩,⟨by repeat (first|(with_reducible first|exact HB.out|apply bA_|apply bN_|apply b1_)|exact HB.out)⟩⟩
  case round =>
   clear H';(try clear c1);(try clear c2);(try clear p2);(try clear c3);(try clear c5);obtain ⟨x14_1,rfl,HA,HK1,HB⟩:=hrel;cases gk with
   | zero => exact absurd HA.out (by simp [railplanref24_Enters.l0])
   | succ k1 =>
    (have H:=HA.out);clear HA;simp only [railplanref24_Enters.l0] at H
    by_cases c6 : x14_1 < (l1.length : Int)
    ·rw [if_pos c6] at H
     (have c6b0:=decide_eq_true c6);clear c6
     by_cases c7 : 0 ≤ x14_1
     ·rw [if_pos c7] at H
      (have c7b0:=decide_eq_true c7);clear c7
      by_cases c8 : x14_1 < (l1.length : Int)
      ·rw [if_pos c8] at H
       (have c8b0:=decide_eq_true c8);clear c8;replace H:=be_ H;obtain ⟨t312,A90,H⟩:=H;replace H : (if t312 = true then ((railplanref24_Open.f k1 l0 ((rd_T39 l1 x14_1).f0) (wrap64 (a2 + ((rd_T39 l1 x14_1).f1)))).bind fun t313 => (if t313 = true then (railplanref24_Enters.l0 k1 l0 a2 l1 (l1.length : Int) (wrap64 (x14_1 + 1))) else (some false))) else (some false)) = some r:=H;(have A9:=am_ A90);clear A90
       by_cases c10 : t312 = true
       ·subst c10
        (have H1 : ((railplanref24_Open.f k1 l0 ((rd_T39 l1 x14_1).f0) (wrap64 (a2 + ((rd_T39 l1 x14_1).f1)))).bind fun t313 => (if t313 = true then (railplanref24_Enters.l0 k1 l0 a2 l1 (l1.length : Int) (wrap64 (x14_1 + 1))) else (some false))) = some r:=by rw [if_pos rfl] at H;exact H);clear H;(have H:=H1);clear H1;replace H:=be_ H;obtain ⟨t313,A110,H⟩:=H;replace H : (if t313 = true then (railplanref24_Enters.l0 k1 l0 a2 l1 (l1.length : Int) (wrap64 (x14_1 + 1))) else (some false)) = some r:=H;(have A11:=am_ A110);clear A110
        by_cases c12 : t313 = true
        ·subst c12
         (have H1 : (railplanref24_Enters.l0 k1 l0 a2 l1 (l1.length : Int) (wrap64 (x14_1 + 1))) = some r:=by rw [if_pos rfl] at H;exact H);clear H;(have H:=H1);clear H1;(have H':=am_ H);clear H;(have p310 : 0 ≤ (x14_1 : Int):=of_decide_eq_true (by first|(with_reducible assumption)|assumption));(have q310 : x14_1 < (l1.length : Int):=of_decide_eq_true (by first|(with_reducible assumption)|assumption));obtain ⟨ad310,e310,hx310_0,hx310_1,hx310_2⟩:=at_T39 HR1.out x14_1 p310 q310;cases e310;replace hx310_0:=(HB.out.cell (wl_ w _ hx310_0)).trans hx310_0;replace hx310_1:=(HB.out.cell (wl_ w _ hx310_1)).trans hx310_1;replace hx310_2:=(HB.out.cell (wl_ w _ hx310_2)).trans hx310_2;replace p310:=eq_true p310;replace q310:=eq_true q310;(go_wp2_with (first|((with_reducible refine gd_ (N:=8) rfl ?_);refine bx_ ?hg (N:=8) ?hd (cs:=#[.int .i64 0,.int .i64 0,.int .i64 0]) (t:=39) ?hr ?_;(case hd => rfl);(case hg => rfl);(case hr => first|(go_simp;done)|(go_simp;rfl));intro gb311 hg w13 hbox hb;have n0_:=am_ (bs_ (by repeat (first|(with_reducible first|exact HB.out|apply bA_|apply bN_|apply b1_)|exact HB.out)) hb);have n1_:=am_ (hbox);have n2_:=am_ ((by rw [hg];exact (bz_ (by repeat (first|(with_reducible first|exact HB.out|apply bA_|apply bN_|apply b1_)|exact HB.out))) : w.heap.size ≤ gb311));have n3_:=am_ ((by rw [hg];exact (bz_ (by repeat (first|(with_reducible first|exact HB.out|apply bA_|apply bN_|apply b1_)|exact HB.out))) : w.heap.size ≤ gb311));clear HB;have HB:=n0_;have BK311:=n1_;have GW311:=n2_;have GE311:=n3_;clear n0_ n1_ n2_ n3_;clear hb hbox hg;have hcz14_0 : w13.cell? ⟨gb311,0,none⟩ = some (.int .i64 0):=(kC_ BK311.out 0).trans rfl;have hcz14_1 : w13.cell? ⟨gb311,1,none⟩ = some (.int .i64 0):=(kC_ BK311.out 1).trans rfl;have hcz14_2 : w13.cell? ⟨gb311,2,none⟩ = some (.int .i64 0):=(kC_ BK311.out 2).trans rfl;have hfz14_0:=kF_ BK311.out 0;have hfz14_1:=kF_ BK311.out 1;have hfz14_2:=kF_ BK311.out 2)|((with_reducible refine gc_ (f:=34) rfl ?_);refine goesL_ (some 20) rfl rfl Try.func34 (by kernel_rfl) rfl #[.int .i64 ((rd_T39 l1 x14_1).f1)] rfl (by (try simp only [List.map_toArray,List.map_cons,List.map_nil]);first|done|rfl|(simp only [List.length_drop,List.length_take];rfl)) ?_;(with_reducible refine (railplanref24_moderate.calls ((rd_T39 l1 x14_1).f1) true _ A9.out).mono ?_);rintro e w' ⟨rfl,⟨nd,rfl⟩⟩;refine ⟨_,rfl,?_⟩)|(go_at_call 18;(with_reducible refine (railplanref24_Open.calls k1 _ _ l0 ((rd_T39 l1 x14_1).f0) (wrap64 (a2 + ((rd_T39 l1 x14_1).f1))) true _ ?side1 ?side2 A11.out).mono ?_);(case side1 => exact CB_ HR0.out (by repeat (first|(with_reducible first|exact HB.out|apply bA_|apply bN_|apply b1_|refine bS_ ?_ GE311.out)|exact HB.out)));(case side2 => exact HC0.out);rintro e w15 ⟨rfl,hb⟩;have n0_:=am_ (kB_ (g:=gb311) (o:=.cells #[.int .i64 ((rd_T39 l1 x14_1).f0),.int .i64 ((rd_T39 l1 x14_1).f1),.int .i64 ((rd_T39 l1 x14_1).f2)] 39 (0,0)) (by (with_reducible repeat (first|refine kN_ ?_ _|refine kD_ ?_|refine kA_ ?_ _));refine blk_put (cs:=#[.int .i64 ((rd_T39 l1 x14_1).f0),.int .i64 ((rd_T39 l1 x14_1).f1),.int .i64 0]) ?_ 2 _ rfl;(with_reducible repeat (first|refine kN_ ?_ _|refine kD_ ?_|refine kA_ ?_ _));refine blk_put (cs:=#[.int .i64 ((rd_T39 l1 x14_1).f0),.int .i64 0,.int .i64 0]) ?_ 1 _ rfl;(with_reducible repeat (first|refine kN_ ?_ _|refine kD_ ?_|refine kA_ ?_ _));refine blk_put (cs:=#[.int .i64 0,.int .i64 0,.int .i64 0]) ?_ 0 _ rfl;(with_reducible repeat (first|refine kN_ ?_ _|refine kD_ ?_|refine kA_ ?_ _));exact BK311.out) hb);have n1_:=am_ (bs_ (by repeat (first|(with_reducible first|exact HB.out|apply bA_|apply bN_|apply b1_|refine bS_ ?_ GE311.out)|exact HB.out)) hb);clear BK311;clear HB;have BK311:=n0_;have HB:=n1_;clear n0_ n1_;(try clear hb);(try clear hb2);(try clear hk);(try clear hi))));(go_roundg k1)
         case measure => have:=HK1.out;omega
         case rel => exact ⟨(wrap64 (x14_1 + 1)),(by first|rfl|(simp;done)|(simp [*];done)),H',⟨by have:=HK1.out;omega⟩,⟨by repeat (first|(with_reducible first|exact HB.out|apply bA_|apply bN_|apply b1_|refine bS_ ?_ GE311.out)|exact HB.out)⟩⟩
        ·replace c12:=Bool.eq_false_iff.mpr c12;(subst c12;(have H1 : (some false) = some r:=by rw [if_neg (show ¬ (false = true) by decide)] at H;exact H);clear H;(have H:=H1);clear H1;obtain rfl:=Option.some.inj H;(have p310 : 0 ≤ (x14_1 : Int):=of_decide_eq_true (by first|(with_reducible assumption)|assumption));(have q310 : x14_1 < (l1.length : Int):=of_decide_eq_true (by first|(with_reducible assumption)|assumption));obtain ⟨ad310,e310,hx310_0,hx310_1,hx310_2⟩:=at_T39 HR1.out x14_1 p310 q310;cases e310;replace hx310_0:=(HB.out.cell (wl_ w _ hx310_0)).trans hx310_0;replace hx310_1:=(HB.out.cell (wl_ w _ hx310_1)).trans hx310_1;replace hx310_2:=(HB.out.cell (wl_ w _ hx310_2)).trans hx310_2;replace p310:=eq_true p310;replace q310:=eq_true q310;(go_wp2_with (first|((with_reducible refine gd_ (N:=8) rfl ?_);refine bx_ ?hg (N:=8) ?hd (cs:=#[.int .i64 0,.int .i64 0,.int .i64 0]) (t:=39) ?hr ?_;(case hd => rfl);(case hg => rfl);(case hr => first|(go_simp;done)|(go_simp;rfl));intro gb311 hg w16 hbox hb;have n0_:=am_ (bs_ (by repeat (first|(with_reducible first|exact HB.out|apply bA_|apply bN_|apply b1_)|exact HB.out)) hb);have n1_:=am_ (hbox);have n2_:=am_ ((by rw [hg];exact (bz_ (by repeat (first|(with_reducible first|exact HB.out|apply bA_|apply bN_|apply b1_)|exact HB.out))) : w.heap.size ≤ gb311));have n3_:=am_ ((by rw [hg];exact (bz_ (by repeat (first|(with_reducible first|exact HB.out|apply bA_|apply bN_|apply b1_)|exact HB.out))) : w.heap.size ≤ gb311));clear HB;have HB:=n0_;have BK311:=n1_;have GW311:=n2_;have GE311:=n3_;clear n0_ n1_ n2_ n3_;clear hb hbox hg;have hcz17_0 : w16.cell? ⟨gb311,0,none⟩ = some (.int .i64 0):=(kC_ BK311.out 0).trans rfl;have hcz17_1 : w16.cell? ⟨gb311,1,none⟩ = some (.int .i64 0):=(kC_ BK311.out 1).trans rfl;have hcz17_2 : w16.cell? ⟨gb311,2,none⟩ = some (.int .i64 0):=(kC_ BK311.out 2).trans rfl;have hfz17_0:=kF_ BK311.out 0;have hfz17_1:=kF_ BK311.out 1;have hfz17_2:=kF_ BK311.out 2)|((with_reducible refine gc_ (f:=34) rfl ?_);refine goesL_ (some 20) rfl rfl Try.func34 (by kernel_rfl) rfl #[.int .i64 ((rd_T39 l1 x14_1).f1)] rfl (by (try simp only [List.map_toArray,List.map_cons,List.map_nil]);first|done|rfl|(simp only [List.length_drop,List.length_take];rfl)) ?_;(with_reducible refine (railplanref24_moderate.calls ((rd_T39 l1 x14_1).f1) true _ A9.out).mono ?_);rintro e w' ⟨rfl,⟨nd,rfl⟩⟩;refine ⟨_,rfl,?_⟩)|(go_at_call 18;(with_reducible refine (railplanref24_Open.calls k1 _ _ l0 ((rd_T39 l1 x14_1).f0) (wrap64 (a2 + ((rd_T39 l1 x14_1).f1))) false _ ?side1 ?side2 A11.out).mono ?_);(case side1 => exact CB_ HR0.out (by repeat (first|(with_reducible first|exact HB.out|apply bA_|apply bN_|apply b1_|refine bS_ ?_ GE311.out)|exact HB.out)));(case side2 => exact HC0.out);rintro e w18 ⟨rfl,hb⟩;have n0_:=am_ (kB_ (g:=gb311) (o:=.cells #[.int .i64 ((rd_T39 l1 x14_1).f0),.int .i64 ((rd_T39 l1 x14_1).f1),.int .i64 ((rd_T39 l1 x14_1).f2)] 39 (0,0)) (by (with_reducible repeat (first|refine kN_ ?_ _|refine kD_ ?_|refine kA_ ?_ _));refine blk_put (cs:=#[.int .i64 ((rd_T39 l1 x14_1).f0),.int .i64 ((rd_T39 l1 x14_1).f1),.int .i64 0]) ?_ 2 _ rfl;(with_reducible repeat (first|refine kN_ ?_ _|refine kD_ ?_|refine kA_ ?_ _));refine blk_put (cs:=#[.int .i64 ((rd_T39 l1 x14_1).f0),.int .i64 0,.int .i64 0]) ?_ 1 _ rfl;(with_reducible repeat (first|refine kN_ ?_ _|refine kD_ ?_|refine kA_ ?_ _));refine blk_put (cs:=#[.int .i64 0,.int .i64 0,.int .i64 0]) ?_ 0 _ rfl;(with_reducible repeat (first|refine kN_ ?_ _|refine kD_ ?_|refine kA_ ?_ _));exact BK311.out) hb);have n1_:=am_ (bs_ (by repeat (first|(with_reducible first|exact HB.out|apply bA_|apply bN_|apply b1_|refine bS_ ?_ GE311.out)|exact HB.out)) hb);clear BK311;clear HB;have BK311:=n0_;have HB:=n1_;clear n0_ n1_;(try clear hb);(try clear hb2);(try clear hk);(try clear hi))));(go_ret);(exact ⟨by first|rfl|(simp [errW_none,errW_some] <;> rfl)|(simp [*,errW_none,errW_some] <;> rfl),by repeat (first|(with_reducible first|exact HB.out|apply bA_|apply bN_|apply b1_|refine bS_ ?_ GE311.out)|exact HB.out)⟩))
       ·replace c10:=Bool.eq_false_iff.mpr c10;(subst c10;(have H1 : (some false) = some r:=by rw [if_neg (show ¬ (false = true) by decide)] at H;exact H);clear H;(have H:=H1);clear H1;obtain rfl:=Option.some.inj H;(have p310 : 0 ≤ (x14_1 : Int):=of_decide_eq_true (by first|(with_reducible assumption)|assumption));(have q310 : x14_1 < (l1.length : Int):=of_decide_eq_true (by first|(with_reducible assumption)|assumption));obtain ⟨ad310,e310,hx310_0,hx310_1,hx310_2⟩:=at_T39 HR1.out x14_1 p310 q310;cases e310;replace hx310_0:=(HB.out.cell (wl_ w _ hx310_0)).trans hx310_0;replace hx310_1:=(HB.out.cell (wl_ w _ hx310_1)).trans hx310_1;replace hx310_2:=(HB.out.cell (wl_ w _ hx310_2)).trans hx310_2;replace p310:=eq_true p310;replace q310:=eq_true q310;(go_wp2_with (first|((with_reducible refine gd_ (N:=8) rfl ?_);refine bx_ ?hg (N:=8) ?hd (cs:=#[.int .i64 0,.int .i64 0,.int .i64 0]) (t:=39) ?hr ?_;(case hd => rfl);(case hg => rfl);(case hr => first|(go_simp;done)|(go_simp;rfl));intro gb311 hg w19 hbox hb;have n0_:=am_ (bs_ (by repeat (first|(with_reducible first|exact HB.out|apply bA_|apply bN_|apply b1_)|exact HB.out)) hb);have n1_:=am_ (hbox);have n2_:=am_ ((by rw [hg];exact (bz_ (by repeat (first|(with_reducible first|exact HB.out|apply bA_|apply bN_|apply b1_)|exact HB.out))) : w.heap.size ≤ gb311));have n3_:=am_ ((by rw [hg];exact (bz_ (by repeat (first|(with_reducible first|exact HB.out|apply bA_|apply bN_|apply b1_)|exact HB.out))) : w.heap.size ≤ gb311));clear HB;have HB:=n0_;have BK311:=n1_;have GW311:=n2_;have GE311:=n3_;clear n0_ n1_ n2_ n3_;clear hb hbox hg;have hcz20_0 : w19.cell? ⟨gb311,0,none⟩ = some (.int .i64 0):=(kC_ BK311.out 0).trans rfl;have hcz20_1 : w19.cell? ⟨gb311,1,none⟩ = some (.int .i64 0):=(kC_ BK311.out 1).trans rfl;have hcz20_2 : w19.cell? ⟨gb311,2,none⟩ = some (.int .i64 0):=(kC_ BK311.out 2).trans rfl;have hfz20_0:=kF_ BK311.out 0;have hfz20_1:=kF_ BK311.out 1;have hfz20_2:=kF_ BK311.out 2)|((with_reducible refine gc_ (f:=34) rfl ?_);refine goesL_ (some 20) rfl rfl Try.func34 (by kernel_rfl) rfl #[.int .i64 ((rd_T39 l1 x14_1).f1)] rfl (by (try simp only [List.map_toArray,List.map_cons,List.map_nil]);first|done|rfl|(simp only [List.length_drop,List.length_take];rfl)) ?_;(with_reducible refine (railplanref24_moderate.calls ((rd_T39 l1 x14_1).f1) false _ A9.out).mono ?_);rintro e w' ⟨rfl,⟨nd,rfl⟩⟩;refine ⟨_,rfl,?_⟩)));(go_ret);(exact ⟨by first|rfl|(simp [errW_none,errW_some] <;> rfl)|(simp [*,errW_none,errW_some] <;> rfl),by repeat (first|(with_reducible first|exact HB.out|apply bA_|apply bN_|apply b1_|refine bS_ ?_ GE311.out)|exact HB.out)⟩))
      ·rw [if_neg c8] at H;(simp at H)
     ·rw [if_neg c7] at H;(simp at H)
    ·rw [if_neg c6] at H;((have c6b0:=decide_eq_false c6);clear c6;obtain rfl:=Option.some.inj H;(go_wp2);(go_ret);(exact ⟨by first|rfl|(simp [errW_none,errW_some] <;> rfl)|(simp [*,errW_none,errW_some] <;> rfl),by repeat (first|(with_reducible first|exact HB.out|apply bA_|apply bN_|apply b1_)|exact HB.out)⟩))
 ·replace c5:=Bool.eq_false_iff.mpr c5;(subst c5;(have H1 : (some false) = some r:=by rw [if_neg (show ¬ (false = true) by decide)] at H;exact H);clear H;(have H:=H1);clear H1;obtain rfl:=Option.some.inj H;(go_enter Try.func27,Try.ntmps27);(go_wp2_with (first|((with_reducible refine gc_ (f:=34) rfl ?_);refine goesL_ (some 10) rfl rfl Try.func34 (by kernel_rfl) rfl #[.int .i64 a2] rfl (by (try simp only [List.map_toArray,List.map_cons,List.map_nil]);first|done|rfl|(simp only [List.length_drop,List.length_take];rfl)) ?_;(with_reducible refine (railplanref24_moderate.calls a2 false _ A4.out).mono ?_);rintro e w' ⟨rfl,⟨nd,rfl⟩⟩;refine ⟨_,rfl,?_⟩)));(go_ret);(exact ⟨by first|rfl|(simp [errW_none,errW_some] <;> rfl)|(simp [*,errW_none,errW_some] <;> rfl),by repeat (first|(with_reducible first|exact HB.out|apply bA_|apply bN_|apply b1_)|exact HB.out)⟩))
end Go.Proofs.Ytiohandkjjmemaa.PAll
