-- Packed by wip/tools/pack.py of this session out of what plugprint.py and the kit's print wrote. Lean checks it.
import Derived.Test.YtiohandkjjmemaaKS
namespace Go.Proofs.Ytiohandkjjmemaa.PAll
open Go.RowKit Go.Proofs.YtiohandkjjmemaaW.PrintWords Go.Proofs.YtiohandkjjmemaaW.PrintLast Go.Proofs.YtiohandkjjmemaaW.PrintMore
attribute [local go_sem] max2_int min2_int max_two min_two max_three min_three max_four min_four
set_option linter.unusedVariables false
set_option linter.unusedSimpArgs false
attribute [local go_sem high] eqA27
/-! ### closure_Next: function 19 -/
mutual
def closure_Next.l0 : Nat → List (S27) → Int → Int → Bool → Option (Int)
 | 0,_,_,_,_ => none
 | k + 1,x0,x1,x2,x7 => if x7 = true then (closure_Next.l1 k x0 x1 x2 false x0 (x0.length : Int) 0) else (some x2)
def closure_Next.l1 : Nat → List (S27) → Int → Int → Bool → List (S27) → Int → Int → Option (Int)
 | 0,_,_,_,_,_,_,_ => none
 | k + 1,x0,x1,x2,x7,x11,x12,x13 => if x13 < x12 then (if 0 ≤ x13 then (if x13 < (x11.length : Int) then (if ((rd_T27 x11 x13).f0) = x1 then (if ((rd_T27 x11 x13).f1) ≤ x2 then (if x2 < ((rd_T27 x11 x13).f2) then (closure_Next.l1 k x0 x1 ((rd_T27 x11 x13).f2) true x11 x12 (wrap64 (x13 + 1))) else (closure_Next.l1 k x0 x1 x2 x7 x11 x12 (wrap64 (x13 + 1)))) else (closure_Next.l1 k x0 x1 x2 x7 x11 x12 (wrap64 (x13 + 1)))) else (closure_Next.l1 k x0 x1 x2 x7 x11 x12 (wrap64 (x13 + 1)))) else (none)) else (none)) else (closure_Next.l0 k x0 x1 x2 x7)
end
def closure_Next.f (k : Nat) (l0 : List (S27)) (a1 : Int) (a2 : Int) : Option (Int):=closure_Next.l0 k l0 a1 a2 true
theorem closure_Next.mono_l : ∀ k,(∀ y0 y1 y2 y3,LeO (closure_Next.l0 k y0 y1 y2 y3) (closure_Next.l0 (k + 1) y0 y1 y2 y3)) ∧ (∀ y0 y1 y2 y3 y4 y5 y6,LeO (closure_Next.l1 k y0 y1 y2 y3 y4 y5 y6) (closure_Next.l1 (k + 1) y0 y1 y2 y3 y4 y5 y6))
 | 0 => ⟨fun _ _ _ _ r h => by simp [closure_Next.l0] at h,fun _ _ _ _ _ _ _ r h => by simp [closure_Next.l1] at h⟩
 | k + 1 => by
  obtain ⟨ih0,ih1⟩:=closure_Next.mono_l k;refine ⟨?_,?_⟩
  ·intro y0 y1 y2 y3
   unfold closure_Next.l0
   repeat' first
   | (with_reducible exact ih0 _ _ _ _)
   | (with_reducible exact ih1 _ _ _ _ _ _ _)
   | (with_reducible exact LeO.refl _)
   | (with_reducible exact LeO.none _)
   | (with_reducible refine LeO.ite ?_ ?_)
   | (with_reducible refine LeO.bind ?_ (fun _ => ?_))
   | exact ih0 _ _ _ _
   | exact ih1 _ _ _ _ _ _ _
   | exact LeO.none _
   | refine LeO.ite ?_ ?_
   | refine LeO.bind ?_ (fun _ => ?_)
  ·intro y0 y1 y2 y3 y4 y5 y6
   unfold closure_Next.l1
   repeat' first
   | (with_reducible exact ih0 _ _ _ _)
   | (with_reducible exact ih1 _ _ _ _ _ _ _)
   | (with_reducible exact LeO.refl _)
   | (with_reducible exact LeO.none _)
   | (with_reducible refine LeO.ite ?_ ?_)
   | (with_reducible refine LeO.bind ?_ (fun _ => ?_))
   | exact ih0 _ _ _ _
   | exact ih1 _ _ _ _ _ _ _
   | exact LeO.none _
   | refine LeO.ite ?_ ?_
   | refine LeO.bind ?_ (fun _ => ?_)
theorem closure_Next.mono : ∀ a0 a1 a2 k,LeO (closure_Next.f k a0 a1 a2) (closure_Next.f (k + 1) a0 a1 a2):=by
 intro a0 a1 a2 k;obtain ⟨ih0,ih1⟩:=closure_Next.mono_l k;(unfold closure_Next.f)
 repeat' first
   | (with_reducible exact ih0 _ _ _ _)
   | (with_reducible exact ih1 _ _ _ _ _ _ _)
   | (with_reducible exact LeO.refl _)
   | (with_reducible exact LeO.none _)
   | (with_reducible refine LeO.ite ?_ ?_)
   | (with_reducible refine LeO.bind ?_ (fun _ => ?_))
   | exact ih0 _ _ _ _
   | exact ih1 _ _ _ _ _ _ _
   | exact LeO.none _
   | refine LeO.ite ?_ ?_
   | refine LeO.bind ?_ (fun _ => ?_)
set_option maxHeartbeats 8000000 in
set_option maxRecDepth 100000 in
theorem closure_Next.calls (k : Nat) (A0 : Option Addr) (c0 : Nat) (l0 : List (S27)) (a1 : Int) (a2 : Int) (r : Int) (w : World) (hr0 : Kd.C k27 w A0 l0.length l0) (hc0 : l0.length ≤ c0) (h : closure_Next.f k l0 a1 a2 = some r) :
  Calls Try.prog 19 #[.slice A0 l0.length c0,.int .i64 a1,.int .i64 a2] w fun e w' => e = .returned (.int .i64 r) ∧ Below w.heap.size w w':=by
 have hu27:=Try.underlying27
 have HR0:=am_ hr0
 have HC0:=am_ hc0
 clear hr0 hc0
 have HB:=am_ (Below.refl w.heap.size w)
 have H : (closure_Next.l0 k l0 a1 a2 true) = some r:=h
 clear h
 have H':=am_ H
 clear H
 go_enter Try.func19,Try.ntmps19
 go_wp2
 go_loopg [2,7] k (fun kq v2 v7 w' => ∃ (x2_1 : Int) (x7_1 : Bool),v2 = .int .i64 x2_1 ∧ v7 = .bool x7_1 ∧ Aside0 (closure_Next.l0 kq l0 a1 x2_1 x7_1 = some r) ∧ Aside0 (kq ≤ k) ∧ Aside0 (Below w.heap.size w w'))
 case atStart => exact ⟨(a2),(true),(by first|rfl|(simp;done)|(simp [*];done)),(by first|rfl|(simp;done)|(simp [*];done)),H',⟨Nat.le_refl _⟩,⟨by repeat (first|(with_reducible first|exact HB.out|apply bA_|apply bN_|apply b1_)|exact HB.out)⟩⟩
 case round =>
  clear H';(try clear c1);(try clear p2);obtain ⟨x2_1,x7_1,rfl,rfl,HA,HK1,HB⟩:=hrel;cases gk with
  | zero => exact absurd HA.out (by simp [closure_Next.l0])
  | succ k1 =>
   (have H:=HA.out);clear HA;simp only [closure_Next.l0] at H
   by_cases c4 : x7_1 = true
   ·subst c4
    (have H1 : (closure_Next.l1 k1 l0 a1 x2_1 false l0 (l0.length : Int) 0) = some r:=by rw [if_pos rfl] at H;exact H);clear H;(have H:=H1);clear H1;(have H':=am_ H);clear H;(go_wp2);(go_loopg [2,7,13] k1 (fun kq v2 v7 v13 w' => ∃ (x2_2 : Int) (x7_2 : Bool) (x13_2 : Int),v2 = .int .i64 x2_2 ∧ v7 = .bool x7_2 ∧ v13 = .int .i64 x13_2 ∧ Aside0 (closure_Next.l1 kq l0 a1 x2_2 x7_2 l0 (l0.length : Int) x13_2 = some r) ∧ Aside0 (kq ≤ k1) ∧ Aside0 (Below w.heap.size w w')))
    case atStart => exact ⟨(x2_1),(false),(0),(by first|rfl|(simp;done)|(simp [*];done)),(by first|rfl|(simp;done)|(simp [*];done)),(by first|rfl|(simp;done)|(simp [*];done)),H',⟨Nat.le_refl _⟩,⟨by repeat (first|(with_reducible first|exact HB.out|apply bA_|apply bN_|apply b1_)|exact HB.out)⟩⟩
    case round =>
     clear H';(try clear c1);(try clear p2);(try clear c4);(try clear p2);obtain ⟨x2_2,x7_2,x13_2,rfl,rfl,rfl,HA,HK2,HB⟩:=hrel;cases gk with
     | zero => exact absurd HA.out (by simp [closure_Next.l1])
     | succ k2 =>
      (have H:=HA.out);clear HA;simp only [closure_Next.l1] at H
      by_cases c5 : x13_2 < (l0.length : Int)
      ·rw [if_pos c5] at H
       (have c5b0:=decide_eq_true c5);clear c5
       by_cases c6 : 0 ≤ x13_2
       ·rw [if_pos c6] at H
        (have c6b0:=decide_eq_true c6);clear c6
        by_cases c7 : x13_2 < (l0.length : Int)
        ·rw [if_pos c7] at H
         (have c7b0:=decide_eq_true c7);clear c7
         by_cases c8 : ((rd_T27 l0 x13_2).f0) = a1
         ·rw [if_pos c8] at H
          (have c8b0 : (((rd_T27 l0 x13_2).f0) == a1) = true:=beq_iff_eq.mpr c8);(have c8b1 : (((rd_T27 l0 x13_2).f0) != a1) = false:=bne_eq_false_iff_eq.mpr c8);clear c8
          by_cases c9 : ((rd_T27 l0 x13_2).f1) ≤ x2_2
          ·rw [if_pos c9] at H
           (have c9b0:=decide_eq_true c9);clear c9
           by_cases c10 : x2_2 < ((rd_T27 l0 x13_2).f2)
           ·rw [if_pos c10] at H
            (have c10b0:=decide_eq_true c10);clear c10;(have H':=am_ H);clear H;(have p166 : 0 ≤ (x13_2 : Int):=of_decide_eq_true (by first|(with_reducible assumption)|assumption));(have q166 : x13_2 < (l0.length : Int):=of_decide_eq_true (by first|(with_reducible assumption)|assumption));obtain ⟨ad166,e166,hx166_0,hx166_1,hx166_2⟩:=at_T27 HR0.out x13_2 p166 q166;cases e166;replace hx166_0:=(HB.out.cell (wl_ w _ hx166_0)).trans hx166_0;replace hx166_1:=(HB.out.cell (wl_ w _ hx166_1)).trans hx166_1;replace hx166_2:=(HB.out.cell (wl_ w _ hx166_2)).trans hx166_2;replace p166:=eq_true p166;replace q166:=eq_true q166;(go_wp2_with (first|((with_reducible refine gd_ (N:=9) rfl ?_);refine bx_ ?hg (N:=9) ?hd (cs:=#[.int .i64 0,.int .i64 0,.int .i64 0]) (t:=27) ?hr ?_;(case hd => rfl);(case hg => rfl);(case hr => first|(go_simp;done)|(go_simp;rfl));intro gb167 hg w11 hbox hb;have n0_:=am_ (bs_ (by repeat (first|(with_reducible first|exact HB.out|apply bA_|apply bN_|apply b1_)|exact HB.out)) hb);have n1_:=am_ (hbox);have n2_:=am_ ((by rw [hg];exact (bz_ (by repeat (first|(with_reducible first|exact HB.out|apply bA_|apply bN_|apply b1_)|exact HB.out))) : w.heap.size ≤ gb167));have n3_:=am_ ((by rw [hg];exact (bz_ (by repeat (first|(with_reducible first|exact HB.out|apply bA_|apply bN_|apply b1_)|exact HB.out))) : w.heap.size ≤ gb167));clear HB;have HB:=n0_;have BK167:=n1_;have GW167:=n2_;have GE167:=n3_;clear n0_ n1_ n2_ n3_;clear hb hbox hg;have hcz12_0 : w11.cell? ⟨gb167,0,none⟩ = some (.int .i64 0):=(kC_ BK167.out 0).trans rfl;have hcz12_1 : w11.cell? ⟨gb167,1,none⟩ = some (.int .i64 0):=(kC_ BK167.out 1).trans rfl;have hcz12_2 : w11.cell? ⟨gb167,2,none⟩ = some (.int .i64 0):=(kC_ BK167.out 2).trans rfl;have hfz12_0:=kF_ BK167.out 0;have hfz12_1:=kF_ BK167.out 1;have hfz12_2:=kF_ BK167.out 2)));(go_roundg k2)
            case measure => have:=HK1.out;have:=HK2.out;omega
            case rel => exact ⟨((rd_T27 l0 x13_2).f2),(true),(wrap64 (x13_2 + 1)),(by first|rfl|(simp;done)|(simp [*];done)),(by first|rfl|(simp;done)|(simp [*];done)),(by first|rfl|(simp;done)|(simp [*];done)),H',⟨by have:=HK1.out;have:=HK2.out;omega⟩,⟨by repeat (first|(with_reducible first|exact HB.out|apply bA_|apply bN_|apply b1_|refine bS_ ?_ GE167.out)|exact HB.out)⟩⟩
           ·rw [if_neg c10] at H
            (have c10b0:=decide_eq_false c10);clear c10;(have H':=am_ H);clear H;(have p166 : 0 ≤ (x13_2 : Int):=of_decide_eq_true (by first|(with_reducible assumption)|assumption));(have q166 : x13_2 < (l0.length : Int):=of_decide_eq_true (by first|(with_reducible assumption)|assumption));obtain ⟨ad166,e166,hx166_0,hx166_1,hx166_2⟩:=at_T27 HR0.out x13_2 p166 q166;cases e166;replace hx166_0:=(HB.out.cell (wl_ w _ hx166_0)).trans hx166_0;replace hx166_1:=(HB.out.cell (wl_ w _ hx166_1)).trans hx166_1;replace hx166_2:=(HB.out.cell (wl_ w _ hx166_2)).trans hx166_2;replace p166:=eq_true p166;replace q166:=eq_true q166;(go_wp2_with (first|((with_reducible refine gd_ (N:=9) rfl ?_);refine bx_ ?hg (N:=9) ?hd (cs:=#[.int .i64 0,.int .i64 0,.int .i64 0]) (t:=27) ?hr ?_;(case hd => rfl);(case hg => rfl);(case hr => first|(go_simp;done)|(go_simp;rfl));intro gb167 hg w13 hbox hb;have n0_:=am_ (bs_ (by repeat (first|(with_reducible first|exact HB.out|apply bA_|apply bN_|apply b1_)|exact HB.out)) hb);have n1_:=am_ (hbox);have n2_:=am_ ((by rw [hg];exact (bz_ (by repeat (first|(with_reducible first|exact HB.out|apply bA_|apply bN_|apply b1_)|exact HB.out))) : w.heap.size ≤ gb167));have n3_:=am_ ((by rw [hg];exact (bz_ (by repeat (first|(with_reducible first|exact HB.out|apply bA_|apply bN_|apply b1_)|exact HB.out))) : w.heap.size ≤ gb167));clear HB;have HB:=n0_;have BK167:=n1_;have GW167:=n2_;have GE167:=n3_;clear n0_ n1_ n2_ n3_;clear hb hbox hg;have hcz14_0 : w13.cell? ⟨gb167,0,none⟩ = some (.int .i64 0):=(kC_ BK167.out 0).trans rfl;have hcz14_1 : w13.cell? ⟨gb167,1,none⟩ = some (.int .i64 0):=(kC_ BK167.out 1).trans rfl;have hcz14_2 : w13.cell? ⟨gb167,2,none⟩ = some (.int .i64 0):=(kC_ BK167.out 2).trans rfl;have hfz14_0:=kF_ BK167.out 0;have hfz14_1:=kF_ BK167.out 1;have hfz14_2:=kF_ BK167.out 2)));(go_roundg k2)
            case measure => have:=HK1.out;have:=HK2.out;omega
            case rel => exact ⟨(x2_2),(x7_2),(wrap64 (x13_2 + 1)),(by first|rfl|(simp;done)|(simp [*];done)),(by first|rfl|(simp;done)|(simp [*];done)),(by first|rfl|(simp;done)|(simp [*];done)),H',⟨by have:=HK1.out;have:=HK2.out;omega⟩,⟨by repeat (first|(with_reducible first|exact HB.out|apply bA_|apply bN_|apply b1_|refine bS_ ?_ GE167.out)|exact HB.out)⟩⟩
          ·rw [if_neg c9] at H
           (have c9b0:=decide_eq_false c9);clear c9;(have H':=am_ H);clear H;(have p166 : 0 ≤ (x13_2 : Int):=of_decide_eq_true (by first|(with_reducible assumption)|assumption));(have q166 : x13_2 < (l0.length : Int):=of_decide_eq_true (by first|(with_reducible assumption)|assumption));obtain ⟨ad166,e166,hx166_0,hx166_1,hx166_2⟩:=at_T27 HR0.out x13_2 p166 q166;cases e166;replace hx166_0:=(HB.out.cell (wl_ w _ hx166_0)).trans hx166_0;replace hx166_1:=(HB.out.cell (wl_ w _ hx166_1)).trans hx166_1;replace hx166_2:=(HB.out.cell (wl_ w _ hx166_2)).trans hx166_2;replace p166:=eq_true p166;replace q166:=eq_true q166;(go_wp2_with (first|((with_reducible refine gd_ (N:=9) rfl ?_);refine bx_ ?hg (N:=9) ?hd (cs:=#[.int .i64 0,.int .i64 0,.int .i64 0]) (t:=27) ?hr ?_;(case hd => rfl);(case hg => rfl);(case hr => first|(go_simp;done)|(go_simp;rfl));intro gb167 hg w15 hbox hb;have n0_:=am_ (bs_ (by repeat (first|(with_reducible first|exact HB.out|apply bA_|apply bN_|apply b1_)|exact HB.out)) hb);have n1_:=am_ (hbox);have n2_:=am_ ((by rw [hg];exact (bz_ (by repeat (first|(with_reducible first|exact HB.out|apply bA_|apply bN_|apply b1_)|exact HB.out))) : w.heap.size ≤ gb167));have n3_:=am_ ((by rw [hg];exact (bz_ (by repeat (first|(with_reducible first|exact HB.out|apply bA_|apply bN_|apply b1_)|exact HB.out))) : w.heap.size ≤ gb167));clear HB;have HB:=n0_;have BK167:=n1_;have GW167:=n2_;have GE167:=n3_;clear n0_ n1_ n2_ n3_;clear hb hbox hg;have hcz16_0 : w15.cell? ⟨gb167,0,none⟩ = some (.int .i64 0):=(kC_ BK167.out 0).trans rfl;have hcz16_1 : w15.cell? ⟨gb167,1,none⟩ = some (.int .i64 0):=(kC_ BK167.out 1).trans rfl;have hcz16_2 : w15.cell? ⟨gb167,2,none⟩ = some (.int .i64 0):=(kC_ BK167.out 2).trans rfl;have hfz16_0:=kF_ BK167.out 0;have hfz16_1:=kF_ BK167.out 1;have hfz16_2:=kF_ BK167.out 2)));(go_roundg k2)
           case measure => have:=HK1.out;have:=HK2.out;omega
           case rel => exact ⟨(x2_2),(x7_2),(wrap64 (x13_2 + 1)),(by first|rfl|(simp;done)|(simp [*];done)),(by first|rfl|(simp;done)|(simp [*];done)),(by first|rfl|(simp;done)|(simp [*];done)),H',⟨by have:=HK1.out;have:=HK2.out;omega⟩,⟨by repeat (first|(with_reducible first|exact HB.out|apply bA_|apply bN_|apply b1_|refine bS_ ?_ GE167.out)|exact HB.out)⟩⟩
         ·rw [if_neg c8] at H
          (have c8b0 : (((rd_T27 l0 x13_2).f0) == a1) = false:=beq_eq_false_iff_ne.mpr c8);(have c8b1 : (((rd_T27 l0 x13_2).f0) != a1) = true:=bne_iff_ne.mpr c8);(have H':=am_ H);clear H;(have p166 : 0 ≤ (x13_2 : Int):=of_decide_eq_true (by first|(with_reducible assumption)|assumption));(have q166 : x13_2 < (l0.length : Int):=of_decide_eq_true (by first|(with_reducible assumption)|assumption));obtain ⟨ad166,e166,hx166_0,hx166_1,hx166_2⟩:=at_T27 HR0.out x13_2 p166 q166;cases e166;replace hx166_0:=(HB.out.cell (wl_ w _ hx166_0)).trans hx166_0;replace hx166_1:=(HB.out.cell (wl_ w _ hx166_1)).trans hx166_1;replace hx166_2:=(HB.out.cell (wl_ w _ hx166_2)).trans hx166_2;replace p166:=eq_true p166;replace q166:=eq_true q166;(go_wp2_with (first|((with_reducible refine gd_ (N:=9) rfl ?_);refine bx_ ?hg (N:=9) ?hd (cs:=#[.int .i64 0,.int .i64 0,.int .i64 0]) (t:=27) ?hr ?_;(case hd => rfl);(case hg => rfl);(case hr => first|(go_simp;done)|(go_simp;rfl));intro gb167 hg w17 hbox hb;have n0_:=am_ (bs_ (by repeat (first|(with_reducible first|exact HB.out|apply bA_|apply bN_|apply b1_)|exact HB.out)) hb);have n1_:=am_ (hbox);have n2_:=am_ ((by rw [hg];exact (bz_ (by repeat (first|(with_reducible first|exact HB.out|apply bA_|apply bN_|apply b1_)|exact HB.out))) : w.heap.size ≤ gb167));have n3_:=am_ ((by rw [hg];exact (bz_ (by repeat (first|(with_reducible first|exact HB.out|apply bA_|apply bN_|apply b1_)|exact HB.out))) : w.heap.size ≤ gb167));clear HB;have HB:=n0_;have BK167:=n1_;have GW167:=n2_;have GE167:=n3_;clear n0_ n1_ n2_ n3_;clear hb hbox hg;have hcz18_0 : w17.cell? ⟨gb167,0,none⟩ = some (.int .i64 0):=(kC_ BK167.out 0).trans rfl;have hcz18_1 : w17.cell? ⟨gb167,1,none⟩ = some (.int .i64 0):=(kC_ BK167.out 1).trans rfl;have hcz18_2 : w17.cell? ⟨gb167,2,none⟩ = some (.int .i64 0):=(kC_ BK167.out 2).trans rfl;have hfz18_0:=kF_ BK167.out 0;have hfz18_1:=kF_ BK167.out 1;have hfz18_2:=kF_ BK167.out 2)));(go_roundg k2)
          case measure => have:=HK1.out;have:=HK2.out;omega
          case rel => exact ⟨(x2_2),(x7_2),(wrap64 (x13_2 + 1)),(by first|rfl|(simp;done)|(simp [*];done)),(by first|rfl|(simp;done)|(simp [*];done)),(by first|rfl|(simp;done)|(simp [*];done)),H',⟨by have:=HK1.out;have:=HK2.out;omega⟩,⟨by repeat (first|(with_reducible first|exact HB.out|apply bA_|apply bN_|apply b1_|refine bS_ ?_ GE167.out)|exact HB.out)⟩⟩
        ·rw [if_neg c7] at H;(simp at H)
       ·rw [if_neg c6] at H;(simp at H)
      ·rw [if_neg c5] at H
       (have c5b0:=decide_eq_false c5);clear c5;(have H':=am_ H);clear H;(go_wp2);(go_roundg k2)
       case measure => have:=HK1.out;have:=HK2.out;omega
       case rel => exact ⟨(x2_2),(x7_2),(by first|rfl|(simp;done)|(simp [*];done)),(by first|rfl|(simp;done)|(simp [*];done)),H',⟨by have:=HK1.out;have:=HK2.out;omega⟩,⟨by repeat (first|(with_reducible first|exact HB.out|apply bA_|apply bN_|apply b1_)|exact HB.out)⟩⟩
   ·replace c4:=Bool.eq_false_iff.mpr c4;(subst c4;(have H1 : (some x2_1) = some r:=by rw [if_neg (show ¬ (false = true) by decide)] at H;exact H);clear H;(have H:=H1);clear H1;obtain rfl:=Option.some.inj H;(go_wp2);(go_ret);(exact ⟨by first|rfl|(simp [errW_none,errW_some] <;> rfl)|(simp [*,errW_none,errW_some] <;> rfl),by repeat (first|(with_reducible first|exact HB.out|apply bA_|apply bN_|apply b1_)|exact HB.out)⟩))
end Go.Proofs.Ytiohandkjjmemaa.PAll
