-- Packed by wip/tools/pack.py of this session out of what plugprint.py and the kit's print wrote. Lean checks it.
import Derived.Test.YtgbcgbfoejkieaaES
import Derived.Test.YtgbcgbfoejkieaaE15
import Derived.Test.YtgbcgbfoejkieaaE16
namespace Go.Proofs.Ytgbcgbfoejkieaa.PAll
open Go.RowKit Go.Proofs.YtgbcgbfoejkieaaW.PrintWords Go.Proofs.YtgbcgbfoejkieaaW.PrintLast Go.Proofs.YtgbcgbfoejkieaaW.PrintMore
attribute [local go_sem] max2_int min2_int max_two min_two max_three min_three max_four min_four
set_option linter.unusedVariables false
set_option linter.unusedSimpArgs false
/-! ### inequality_Separate: function 21 -/
def inequality_Separate.l0 : Nat → List Int → Int → Int → List (S32) → Int → Int → Int → List (S60) → List (S62) → Option (Int × Int × Int)
 | 0,_,_,_,_,_,_,_,_,_ => none
 | k + 1,x2,x6,x7,x14,x15,x16,x428000,x428001,x428002 => if x16 < x15 then (if 0 ≤ x16 then (if x16 < (x14.length : Int) then ((inequality_Left.f k x428000 x428001 x428002 ((rd_T32 x14 x16).f0) ((rd_T32 x14 x16).f1) x2).bind fun bt430 => (if bt430.2 = 0 then ((inequality_Right.f k x428000 x428001 x428002 ((rd_T32 x14 x16).f0) ((rd_T32 x14 x16).f1)).bind fun t432 => (if (wrap64 (t432 - bt430.1)) > x7 then (inequality_Separate.l0 k x2 x16 (wrap64 (t432 - bt430.1)) x14 x15 (wrap64 (x16 + 1)) x428000 x428001 x428002) else (inequality_Separate.l0 k x2 x6 x7 x14 x15 (wrap64 (x16 + 1)) x428000 x428001 x428002))) else (some (0,0,bt430.2)))) else (none)) else (none)) else (some (x6,x7,0))
def inequality_Separate.f (k : Nat) (a0_0 : Int) (l0_1 : List (S60)) (l0_2 : List (S62)) (l1 : List (S32)) (l2 : List Int) : Option (Int × Int × Int):=inequality_Separate.l0 k l2 (-1) 0 l1 (l1.length : Int) 0 a0_0 l0_1 l0_2
theorem inequality_Separate.mono_l : ∀ k,(∀ y0 y1 y2 y3 y4 y5 y6 y7 y8,LeO (inequality_Separate.l0 k y0 y1 y2 y3 y4 y5 y6 y7 y8) (inequality_Separate.l0 (k + 1) y0 y1 y2 y3 y4 y5 y6 y7 y8))
 | 0 => fun _ _ _ _ _ _ _ _ _ r h => by simp [inequality_Separate.l0] at h
 | k + 1 => by
  have ih0:=inequality_Separate.mono_l k
  ·intro y0 y1 y2 y3 y4 y5 y6 y7 y8
   unfold inequality_Separate.l0
   repeat' first
   | (with_reducible exact ih0 _ _ _ _ _ _ _ _ _)
   | (with_reducible exact inequality_Left.mono _ _ _ _ _ _ _)
   | (with_reducible exact inequality_Right.mono _ _ _ _ _ _)
   | (with_reducible exact LeO.refl _)
   | (with_reducible exact LeO.none _)
   | (with_reducible refine LeO.ite ?_ ?_)
   | (with_reducible refine LeO.bind ?_ (fun _ => ?_))
   | exact ih0 _ _ _ _ _ _ _ _ _
   | exact inequality_Left.mono _ _ _ _ _ _ _
   | exact inequality_Right.mono _ _ _ _ _ _
   | exact LeO.none _
   | refine LeO.ite ?_ ?_
   | refine LeO.bind ?_ (fun _ => ?_)
theorem inequality_Separate.mono : ∀ a0 a1 a2 a3 a4 k,LeO (inequality_Separate.f k a0 a1 a2 a3 a4) (inequality_Separate.f (k + 1) a0 a1 a2 a3 a4):=by
 intro a0 a1 a2 a3 a4 k;have ih0:=inequality_Separate.mono_l k;(unfold inequality_Separate.f)
 repeat' first
   | (with_reducible exact ih0 _ _ _ _ _ _ _ _ _)
   | (with_reducible exact inequality_Left.mono _ _ _ _ _ _ _)
   | (with_reducible exact inequality_Right.mono _ _ _ _ _ _)
   | (with_reducible exact LeO.refl _)
   | (with_reducible exact LeO.none _)
   | (with_reducible refine LeO.ite ?_ ?_)
   | (with_reducible refine LeO.bind ?_ (fun _ => ?_))
   | exact ih0 _ _ _ _ _ _ _ _ _
   | exact inequality_Left.mono _ _ _ _ _ _ _
   | exact inequality_Right.mono _ _ _ _ _ _
   | exact LeO.none _
   | refine LeO.ite ?_ ?_
   | refine LeO.bind ?_ (fun _ => ?_)
set_option maxHeartbeats 8000000 in
set_option maxRecDepth 100000 in
theorem inequality_Separate.calls (k : Nat) (a0_0 : Int) (A0_1 : Option Addr) (c0_1 : Nat) (l0_1 : List (S60)) (A0_2 : Option Addr) (c0_2 : Nat) (l0_2 : List (S62)) (A1 : Option Addr) (c1 : Nat) (l1 : List (S32)) (A2 : Option Addr) (c2 : Nat) (l2 : List Int) (r1 : Int) (r2 : Int) (r3 : Int) (w : World) (hr0_1 : Kd.C k60 w A0_1 l0_1.length l0_1) (hc0_1 : l0_1.length ≤ c0_1) (hr0_2 : Kd.C k62 w A0_2 l0_2.length l0_2) (hc0_2 : l0_2.length ≤ c0_2) (hr1 : Kd.C k32 w A1 l1.length l1) (hc1 : l1.length ≤ c1) (hr2 : Kd.C (Kd.int .i64) w A2 l2.length l2) (hc2 : l2.length ≤ c2) (h : inequality_Separate.f k a0_0 l0_1 l0_2 l1 l2 = some (r1,r2,r3)) :
  Calls Try.prog 21 #[.agg #[.int .i64 a0_0,.slice A0_1 l0_1.length c0_1,.slice A0_2 l0_2.length c0_2],.slice A1 l1.length c1,.slice A2 l2.length c2] w fun e w' => e = .returned (.tuple #[.int .i64 r1,.int .i64 r2,.int .i64 r3]) ∧ Below w.heap.size w w':=by
 have hu26:=Try.underlying26
 have hu32:=Try.underlying32
 have HR0_1:=am_ hr0_1
 have HC0_1:=am_ hc0_1
 clear hr0_1 hc0_1
 have HR0_2:=am_ hr0_2
 have HC0_2:=am_ hc0_2
 clear hr0_2 hc0_2
 have HR1:=am_ hr1
 have HC1:=am_ hc1
 clear hr1 hc1
 have HR2:=am_ hr2
 have HC2:=am_ hc2
 clear hr2 hc2
 have HB:=am_ (Below.refl w.heap.size w)
 have H : (inequality_Separate.l0 k l2 (-1) 0 l1 (l1.length : Int) 0 a0_0 l0_1 l0_2) = some (r1,r2,r3):=h
 clear h
 have H':=am_ H
 clear H
 go_enter Try.func21,Try.ntmps21
 go_wp2_with (first|((with_reducible refine gd_ (N:=3) rfl ?_);refine bx2_ 3 #[.int .i64 a0_0,.slice A0_1 l0_1.length c0_1,.slice A0_2 l0_2.length c0_2] 26 (fun gb427 hg w4 hbox hb => ?_);have n0_:=hb_ HB hb;have n1_:=am_ (hbox);have n2_ : Aside0 (w.heap.size ≤ gb427):=gz_ hg HB;have n3_ : Aside0 (w.heap.size ≤ gb427):=gz_ hg HB;revert n0_ n1_ n2_ n3_;clear HB;intro HB BK427 GW427 GE427;clear hb hbox hg))
 go_loopg [6,7,16] k (fun kq v6 v7 v16 w' => ∃ (x6_1 : Int) (x7_1 : Int) (x16_1 : Int),v6 = .int .i64 x6_1 ∧ v7 = .int .i64 x7_1 ∧ v16 = .int .i64 x16_1 ∧ Aside0 (inequality_Separate.l0 kq l2 x6_1 x7_1 l1 (l1.length : Int) x16_1 a0_0 l0_1 l0_2 = some (r1,r2,r3)) ∧ Aside0 (kq ≤ k) ∧ Aside0 (w'.heap[gb427]? = some (.cells #[.int .i64 a0_0,(.slice A0_1 l0_1.length c0_1),(.slice A0_2 l0_2.length c0_2)] 26 (0,0))) ∧ Aside0 (Below w.heap.size w w'))
 case atStart => exact ⟨((-1)),(0),(0),(by first|rfl|(simp;done)|(simp [*];done)),(by first|rfl|(simp;done)|(simp [*];done)),(by first|rfl|(simp;done)|(simp [*];done)),H',⟨Nat.le_refl _⟩,kk_ BK427,hh_ HB⟩
 case round =>
  clear H';(try clear c1);(try clear c2);(try clear p2);obtain ⟨x6_1,x7_1,x16_1,rfl,rfl,rfl,HA,HK1,BK427,HB⟩:=hrel;cases gk with
  | zero => exact absurd HA.out (by simp [inequality_Separate.l0])
  | succ k1 =>
   have H:=HA.out;clear HA;simp only [inequality_Separate.l0] at H
   by_cases c5 : x16_1 < (l1.length : Int)
   ·rw [if_pos c5] at H
    have c5b0:=decide_eq_true c5;clear c5
    by_cases c6 : 0 ≤ x16_1
    ·rw [if_pos c6] at H
     have c6b0:=decide_eq_true c6;clear c6
     by_cases c7 : x16_1 < (l1.length : Int)
     ·rw [if_pos c7] at H
      have c7b0:=decide_eq_true c7;clear c7;replace H:=be_ H;obtain ⟨⟨t430,t431⟩,A80,H⟩:=H;(try dsimp only at H);have A8:=am_ A80;clear A80
      by_cases c9 : t431 = 0
      ·rw [if_pos c9] at H
       have c9b0 : (t431 == 0) = true:=beq_iff_eq.mpr c9;have c9b1 : (t431 != 0) = false:=bne_eq_false_iff_eq.mpr c9;clear c9;replace H:=be_ H;obtain ⟨t432,A100,H⟩:=H;have A10:=am_ A100;clear A100
       by_cases c11 : (wrap64 (t432 - t430)) > x7_1
       ·rw [if_pos c11] at H
        have c11b0:=decide_eq_true c11;clear c11;have H':=am_ H;clear H;have p428:=de_ (0 ≤ (x16_1 : Int));have q428:=de_ (x16_1 < (l1.length : Int));obtain ⟨ad428,A428_0,c428_0,A428_1,c428_1,e428,hx428_0,hx428_1,hl428_0,hi428_0,hl428_1,hi428_1⟩:=at_T32 HR1.out x16_1 p428 q428;cases e428;replace hx428_0:=cl_ HB hx428_0;replace hx428_1:=cl_ HB hx428_1;have HR428_0:=am_ hi428_0;have HC428_0:=am_ hl428_0;clear hi428_0 hl428_0;have HR428_1:=am_ hi428_1;have HC428_1:=am_ hl428_1;clear hi428_1 hl428_1;replace p428:=eq_true p428;replace q428:=eq_true q428;(go_wp2_with (first|((with_reducible refine gd_ (N:=10) rfl ?_);refine bx2_ 10 #[.slice none 0 0,.slice none 0 0] 32 (fun gb429 hg w12 hbox hb => ?_);have n0_:=kb_ BK427 hb;have n1_:=hb_ HB hb;have n2_:=am_ (hbox);have n3_ : Aside0 (w.heap.size ≤ gb429):=gz_ hg HB;have n4_ : Aside0 (w.heap.size ≤ gb429):=gz_ hg HB;have n5_:=nl_ hg BK427;have n6_:=ng_ hg BK427;revert n0_ n1_ n2_ n3_ n4_ n5_ n6_;clear BK427 HB;intro BK427 HB BK429 GW429 GE429 NB427_429 NB429_427;clear hb hbox hg;have hnb13:=NB429_427.out;have hnc13:=NB427_429.out;have hcz14_0:=cA_ BK429;have hfz14_0:=fA_ BK429;have hcz15_0:=cA_ BK427;have hfz15_0:=fA_ BK427)|((with_reducible refine gc_ (f:=16) rfl ?_);refine gl_ (some 25) Try.func16 #[.agg #[.int .i64 a0_0,.slice A0_1 l0_1.length c0_1,.slice A0_2 l0_2.length c0_2],.agg #[.slice A428_0 ((rd_T32 l1 x16_1).f0).length c428_0,.slice A428_1 ((rd_T32 l1 x16_1).f1).length c428_1],.slice A2 l2.length c2] ?_;(with_reducible refine (inequality_Left.calls k1 a0_0 _ _ l0_1 _ _ l0_2 _ _ ((rd_T32 l1 x16_1).f0) _ _ ((rd_T32 l1 x16_1).f1) _ _ l2 t430 t431 _ ?side1 HC0_1.out ?side3 HC0_2.out ?side5 HC428_0.out ?side7 HC428_1.out ?side9 HC2.out A8.out).mono ?_);(case side1 => exact CB_ HR0_1.out (hB_ HB));(case side3 => exact CB_ HR0_2.out (hB_ HB));(case side5 => exact CB_ HR428_0.out (hB_ HB));(case side7 => exact CB_ HR428_1.out (hB_ HB));(case side9 => exact CB_ HR2.out (hB_ HB));rintro e w16 ⟨rfl,hb⟩;refine ⟨_,rfl,?_⟩;have n0_:=am_ (kB_ (g:=gb427) (o:=.cells #[.int .i64 a0_0,.slice A0_1 l0_1.length c0_1,.slice A0_2 l0_2.length c0_2] 26 (0,0)) (by (with_reducible repeat (first|refine kN_ ?_ _|refine kD_ ?_|refine kA_ ?_ _));refine blk_far ?_ NB427_429.out _;refine blk_far ?_ NB427_429.out _;(with_reducible repeat (first|refine kN_ ?_ _|refine kD_ ?_|refine kA_ ?_ _));exact BK427.out) hb);have n1_:=am_ (kB_ (g:=gb429) (o:=.cells #[.slice A428_0 ((rd_T32 l1 x16_1).f0).length c428_0,.slice A428_1 ((rd_T32 l1 x16_1).f1).length c428_1] 32 (0,0)) (by (with_reducible repeat (first|refine kN_ ?_ _|refine kD_ ?_|refine kA_ ?_ _));refine blk_put (cs:=#[.slice A428_0 ((rd_T32 l1 x16_1).f0).length c428_0,.slice none 0 0]) ?_ 1 _ rfl;refine blk_put (cs:=#[.slice none 0 0,.slice none 0 0]) ?_ 0 _ rfl;(with_reducible repeat (first|refine kN_ ?_ _|refine kD_ ?_|refine kA_ ?_ _));exact BK429.out) hb);have n2_:=hb_ HB hb;revert n0_ n1_ n2_;clear BK427 BK429 HB;intro BK427 BK429 HB;(try clear hb);(try clear hb2);(try clear hk);(try clear hi);have hcz17_0:=cA_ BK427;have hfz17_0:=fA_ BK427;have hcz18_0:=cA_ BK429;have hfz18_0:=fA_ BK429)|((with_reducible refine gc_ (f:=19) rfl ?_);refine gl_ (some 33) Try.func19 #[.agg #[.int .i64 a0_0,.slice A0_1 l0_1.length c0_1,.slice A0_2 l0_2.length c0_2],.agg #[.slice A428_0 ((rd_T32 l1 x16_1).f0).length c428_0,.slice A428_1 ((rd_T32 l1 x16_1).f1).length c428_1]] ?_;(with_reducible refine (inequality_Right.calls k1 a0_0 _ _ l0_1 _ _ l0_2 _ _ ((rd_T32 l1 x16_1).f0) _ _ ((rd_T32 l1 x16_1).f1) t432 _ (cr_ (CB_ HR0_1.out HB.out)) HC0_1.out (cr_ (CB_ HR0_2.out HB.out)) HC0_2.out (cr_ (CB_ HR428_0.out HB.out)) HC428_0.out (cr_ (CB_ HR428_1.out HB.out)) HC428_1.out A10.out).mono ?_);rintro e w19 ⟨rfl,hb⟩;refine ⟨_,rfl,?_⟩;have n0_:=kb_ BK427 hb;have n1_:=kb_ BK429 hb;have n2_:=hb_ HB hb;revert n0_ n1_ n2_;clear BK427 BK429 HB;intro BK427 BK429 HB;(try clear hb);(try clear hb2);(try clear hk);(try clear hi))));(go_roundg k1)
        case measure => have:=HK1.out;omega
        case rel => exact ⟨(x16_1),(wrap64 (t432 - t430)),(wrap64 (x16_1 + 1)),(by first|rfl|(simp;done)|(simp [*];done)),(by first|rfl|(simp;done)|(simp [*];done)),(by first|rfl|(simp;done)|(simp [*];done)),H',⟨by have:=HK1.out;omega⟩,kk_ BK427,hh_ HB⟩
       ·rw [if_neg c11] at H
        have c11b0:=decide_eq_false c11;clear c11;have H':=am_ H;clear H;have p428:=de_ (0 ≤ (x16_1 : Int));have q428:=de_ (x16_1 < (l1.length : Int));obtain ⟨ad428,A428_0,c428_0,A428_1,c428_1,e428,hx428_0,hx428_1,hl428_0,hi428_0,hl428_1,hi428_1⟩:=at_T32 HR1.out x16_1 p428 q428;cases e428;replace hx428_0:=cl_ HB hx428_0;replace hx428_1:=cl_ HB hx428_1;have HR428_0:=am_ hi428_0;have HC428_0:=am_ hl428_0;clear hi428_0 hl428_0;have HR428_1:=am_ hi428_1;have HC428_1:=am_ hl428_1;clear hi428_1 hl428_1;replace p428:=eq_true p428;replace q428:=eq_true q428;(go_wp2_with (first|((with_reducible refine gd_ (N:=10) rfl ?_);refine bx2_ 10 #[.slice none 0 0,.slice none 0 0] 32 (fun gb429 hg w20 hbox hb => ?_);have n0_:=kb_ BK427 hb;have n1_:=hb_ HB hb;have n2_:=am_ (hbox);have n3_ : Aside0 (w.heap.size ≤ gb429):=gz_ hg HB;have n4_ : Aside0 (w.heap.size ≤ gb429):=gz_ hg HB;have n5_:=nl_ hg BK427;have n6_:=ng_ hg BK427;revert n0_ n1_ n2_ n3_ n4_ n5_ n6_;clear BK427 HB;intro BK427 HB BK429 GW429 GE429 NB427_429 NB429_427;clear hb hbox hg;have hnb21:=NB429_427.out;have hnc21:=NB427_429.out;have hcz22_0:=cA_ BK429;have hfz22_0:=fA_ BK429;have hcz23_0:=cA_ BK427;have hfz23_0:=fA_ BK427)|((with_reducible refine gc_ (f:=16) rfl ?_);refine gl_ (some 25) Try.func16 #[.agg #[.int .i64 a0_0,.slice A0_1 l0_1.length c0_1,.slice A0_2 l0_2.length c0_2],.agg #[.slice A428_0 ((rd_T32 l1 x16_1).f0).length c428_0,.slice A428_1 ((rd_T32 l1 x16_1).f1).length c428_1],.slice A2 l2.length c2] ?_;(with_reducible refine (inequality_Left.calls k1 a0_0 _ _ l0_1 _ _ l0_2 _ _ ((rd_T32 l1 x16_1).f0) _ _ ((rd_T32 l1 x16_1).f1) _ _ l2 t430 t431 _ ?side1 HC0_1.out ?side3 HC0_2.out ?side5 HC428_0.out ?side7 HC428_1.out ?side9 HC2.out A8.out).mono ?_);(case side1 => exact CB_ HR0_1.out (hB_ HB));(case side3 => exact CB_ HR0_2.out (hB_ HB));(case side5 => exact CB_ HR428_0.out (hB_ HB));(case side7 => exact CB_ HR428_1.out (hB_ HB));(case side9 => exact CB_ HR2.out (hB_ HB));rintro e w24 ⟨rfl,hb⟩;refine ⟨_,rfl,?_⟩;have n0_:=am_ (kB_ (g:=gb427) (o:=.cells #[.int .i64 a0_0,.slice A0_1 l0_1.length c0_1,.slice A0_2 l0_2.length c0_2] 26 (0,0)) (by (with_reducible repeat (first|refine kN_ ?_ _|refine kD_ ?_|refine kA_ ?_ _));refine blk_far ?_ NB427_429.out _;refine blk_far ?_ NB427_429.out _;(with_reducible repeat (first|refine kN_ ?_ _|refine kD_ ?_|refine kA_ ?_ _));exact BK427.out) hb);have n1_:=am_ (kB_ (g:=gb429) (o:=.cells #[.slice A428_0 ((rd_T32 l1 x16_1).f0).length c428_0,.slice A428_1 ((rd_T32 l1 x16_1).f1).length c428_1] 32 (0,0)) (by (with_reducible repeat (first|refine kN_ ?_ _|refine kD_ ?_|refine kA_ ?_ _));refine blk_put (cs:=#[.slice A428_0 ((rd_T32 l1 x16_1).f0).length c428_0,.slice none 0 0]) ?_ 1 _ rfl;refine blk_put (cs:=#[.slice none 0 0,.slice none 0 0]) ?_ 0 _ rfl;(with_reducible repeat (first|refine kN_ ?_ _|refine kD_ ?_|refine kA_ ?_ _));exact BK429.out) hb);have n2_:=hb_ HB hb;revert n0_ n1_ n2_;clear BK427 BK429 HB;intro BK427 BK429 HB;(try clear hb);(try clear hb2);(try clear hk);(try clear hi);have hcz25_0:=cA_ BK427;have hfz25_0:=fA_ BK427;have hcz26_0:=cA_ BK429;have hfz26_0:=fA_ BK429)|((with_reducible refine gc_ (f:=19) rfl ?_);refine gl_ (some 33) Try.func19 #[.agg #[.int .i64 a0_0,.slice A0_1 l0_1.length c0_1,.slice A0_2 l0_2.length c0_2],.agg #[.slice A428_0 ((rd_T32 l1 x16_1).f0).length c428_0,.slice A428_1 ((rd_T32 l1 x16_1).f1).length c428_1]] ?_;(with_reducible refine (inequality_Right.calls k1 a0_0 _ _ l0_1 _ _ l0_2 _ _ ((rd_T32 l1 x16_1).f0) _ _ ((rd_T32 l1 x16_1).f1) t432 _ (cr_ (CB_ HR0_1.out HB.out)) HC0_1.out (cr_ (CB_ HR0_2.out HB.out)) HC0_2.out (cr_ (CB_ HR428_0.out HB.out)) HC428_0.out (cr_ (CB_ HR428_1.out HB.out)) HC428_1.out A10.out).mono ?_);rintro e w27 ⟨rfl,hb⟩;refine ⟨_,rfl,?_⟩;have n0_:=kb_ BK427 hb;have n1_:=kb_ BK429 hb;have n2_:=hb_ HB hb;revert n0_ n1_ n2_;clear BK427 BK429 HB;intro BK427 BK429 HB;(try clear hb);(try clear hb2);(try clear hk);(try clear hi))));(go_roundg k1)
        case measure => have:=HK1.out;omega
        case rel => exact ⟨(x6_1),(x7_1),(wrap64 (x16_1 + 1)),(by first|rfl|(simp;done)|(simp [*];done)),(by first|rfl|(simp;done)|(simp [*];done)),(by first|rfl|(simp;done)|(simp [*];done)),H',⟨by have:=HK1.out;omega⟩,kk_ BK427,hh_ HB⟩
      ·rw [if_neg c9] at H;(have c9b0 : (t431 == 0) = false:=beq_eq_false_iff_ne.mpr c9;have c9b1 : (t431 != 0) = true:=bne_iff_ne.mpr c9;simp only [Option.some.injEq,Prod.mk.injEq] at H;obtain ⟨rfl,rfl,rfl⟩:=H;have p428:=de_ (0 ≤ (x16_1 : Int));have q428:=de_ (x16_1 < (l1.length : Int));obtain ⟨ad428,A428_0,c428_0,A428_1,c428_1,e428,hx428_0,hx428_1,hl428_0,hi428_0,hl428_1,hi428_1⟩:=at_T32 HR1.out x16_1 p428 q428;cases e428;replace hx428_0:=cl_ HB hx428_0;replace hx428_1:=cl_ HB hx428_1;have HR428_0:=am_ hi428_0;have HC428_0:=am_ hl428_0;clear hi428_0 hl428_0;have HR428_1:=am_ hi428_1;have HC428_1:=am_ hl428_1;clear hi428_1 hl428_1;replace p428:=eq_true p428;replace q428:=eq_true q428;(go_wp2_with (first|((with_reducible refine gd_ (N:=10) rfl ?_);refine bx2_ 10 #[.slice none 0 0,.slice none 0 0] 32 (fun gb429 hg w28 hbox hb => ?_);have n0_:=kb_ BK427 hb;have n1_:=hb_ HB hb;have n2_:=am_ (hbox);have n3_ : Aside0 (w.heap.size ≤ gb429):=gz_ hg HB;have n4_ : Aside0 (w.heap.size ≤ gb429):=gz_ hg HB;have n5_:=nl_ hg BK427;have n6_:=ng_ hg BK427;revert n0_ n1_ n2_ n3_ n4_ n5_ n6_;clear BK427 HB;intro BK427 HB BK429 GW429 GE429 NB427_429 NB429_427;clear hb hbox hg;have hnb29:=NB429_427.out;have hnc29:=NB427_429.out;have hcz30_0:=cA_ BK429;have hfz30_0:=fA_ BK429;have hcz31_0:=cA_ BK427;have hfz31_0:=fA_ BK427)|((with_reducible refine gc_ (f:=16) rfl ?_);refine gl_ (some 25) Try.func16 #[.agg #[.int .i64 a0_0,.slice A0_1 l0_1.length c0_1,.slice A0_2 l0_2.length c0_2],.agg #[.slice A428_0 ((rd_T32 l1 x16_1).f0).length c428_0,.slice A428_1 ((rd_T32 l1 x16_1).f1).length c428_1],.slice A2 l2.length c2] ?_;(with_reducible refine (inequality_Left.calls k1 a0_0 _ _ l0_1 _ _ l0_2 _ _ ((rd_T32 l1 x16_1).f0) _ _ ((rd_T32 l1 x16_1).f1) _ _ l2 t430 t431 _ ?side1 HC0_1.out ?side3 HC0_2.out ?side5 HC428_0.out ?side7 HC428_1.out ?side9 HC2.out A8.out).mono ?_);(case side1 => exact CB_ HR0_1.out (hB_ HB));(case side3 => exact CB_ HR0_2.out (hB_ HB));(case side5 => exact CB_ HR428_0.out (hB_ HB));(case side7 => exact CB_ HR428_1.out (hB_ HB));(case side9 => exact CB_ HR2.out (hB_ HB));rintro e w32 ⟨rfl,hb⟩;refine ⟨_,rfl,?_⟩;have n0_:=am_ (kB_ (g:=gb427) (o:=.cells #[.int .i64 a0_0,.slice A0_1 l0_1.length c0_1,.slice A0_2 l0_2.length c0_2] 26 (0,0)) (by (with_reducible repeat (first|refine kN_ ?_ _|refine kD_ ?_|refine kA_ ?_ _));refine blk_far ?_ NB427_429.out _;refine blk_far ?_ NB427_429.out _;(with_reducible repeat (first|refine kN_ ?_ _|refine kD_ ?_|refine kA_ ?_ _));exact BK427.out) hb);have n1_:=am_ (kB_ (g:=gb429) (o:=.cells #[.slice A428_0 ((rd_T32 l1 x16_1).f0).length c428_0,.slice A428_1 ((rd_T32 l1 x16_1).f1).length c428_1] 32 (0,0)) (by (with_reducible repeat (first|refine kN_ ?_ _|refine kD_ ?_|refine kA_ ?_ _));refine blk_put (cs:=#[.slice A428_0 ((rd_T32 l1 x16_1).f0).length c428_0,.slice none 0 0]) ?_ 1 _ rfl;refine blk_put (cs:=#[.slice none 0 0,.slice none 0 0]) ?_ 0 _ rfl;(with_reducible repeat (first|refine kN_ ?_ _|refine kD_ ?_|refine kA_ ?_ _));exact BK429.out) hb);have n2_:=hb_ HB hb;revert n0_ n1_ n2_;clear BK427 BK429 HB;intro BK427 BK429 HB;(try clear hb);(try clear hb2);(try clear hk);(try clear hi))));(go_ret3);(exact ⟨by first|rfl|(simp [errW_none,errW_some] <;> rfl)|(simp [*,errW_none,errW_some] <;> rfl),hB_ HB⟩))
     ·rw [if_neg c7] at H;(simp at H)
    ·rw [if_neg c6] at H;(simp at H)
   ·rw [if_neg c5] at H;(have c5b0:=decide_eq_false c5;clear c5;simp only [Option.some.injEq,Prod.mk.injEq] at H;obtain ⟨rfl,rfl,rfl⟩:=H;(go_wp2);(go_ret3);(exact ⟨by first|rfl|(simp [errW_none,errW_some] <;> rfl)|(simp [*,errW_none,errW_some] <;> rfl),hB_ HB⟩))
end Go.Proofs.Ytgbcgbfoejkieaa.PAll
