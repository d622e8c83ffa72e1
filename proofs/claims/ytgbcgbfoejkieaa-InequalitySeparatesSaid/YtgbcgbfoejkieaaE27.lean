-- Packed by wip/tools/pack.py of this session out of what plugprint.py and the kit's print wrote. Lean checks it.
import Derived.Test.YtgbcgbfoejkieaaES
import Derived.Test.YtgbcgbfoejkieaaE25
import Derived.Test.YtgbcgbfoejkieaaE26
namespace Go.Proofs.Ytgbcgbfoejkieaa.PAll
open Go.RowKit Go.Proofs.YtgbcgbfoejkieaaW.PrintWords Go.Proofs.YtgbcgbfoejkieaaW.PrintLast Go.Proofs.YtgbcgbfoejkieaaW.PrintMore
attribute [local go_sem] max2_int min2_int max_two min_two max_three min_three max_four min_four
set_option linter.unusedVariables false
set_option linter.unusedSimpArgs false
/-! ### railplanref13_Separate: function 22 -/
def railplanref13_Separate.l0 : Nat → List (S32) → List Int → Int → Int → Int → Int → List (S60) → List (S62) → Option (Int × Int × Int)
 | 0,_,_,_,_,_,_,_,_ => none
 | k + 1,x1,x2,x9,x10,x11,x507000,x507001,x507002 => if x11 < (x1.length : Int) then (if 0 ≤ x11 then ((railplanref13_Left.f k x507000 x507001 x507002 ((rd_T32 x1 x11).f0) ((rd_T32 x1 x11).f1) x2).bind fun bt508 => (if bt508.2 = 0 then ((railplanref13_Right.f k x507000 x507001 x507002 ((rd_T32 x1 x11).f0) ((rd_T32 x1 x11).f1)).bind fun t511 => (if (wrap64 (t511 - bt508.1)) > x10 then (railplanref13_Separate.l0 k x1 x2 x11 (wrap64 (t511 - bt508.1)) (wrap64 (x11 + 1)) x507000 x507001 x507002) else (railplanref13_Separate.l0 k x1 x2 x9 x10 (wrap64 (x11 + 1)) x507000 x507001 x507002))) else (some (0,0,bt508.2)))) else (none)) else (some (x9,x10,0))
def railplanref13_Separate.f (k : Nat) (a0_0 : Int) (l0_1 : List (S60)) (l0_2 : List (S62)) (l1 : List (S32)) (l2 : List Int) : Option (Int × Int × Int):=railplanref13_Separate.l0 k l1 l2 (-1) 0 0 a0_0 l0_1 l0_2
theorem railplanref13_Separate.mono_l : ∀ k,(∀ y0 y1 y2 y3 y4 y5 y6 y7,LeO (railplanref13_Separate.l0 k y0 y1 y2 y3 y4 y5 y6 y7) (railplanref13_Separate.l0 (k + 1) y0 y1 y2 y3 y4 y5 y6 y7))
 | 0 => fun _ _ _ _ _ _ _ _ r h => by simp [railplanref13_Separate.l0] at h
 | k + 1 => by
  have ih0:=railplanref13_Separate.mono_l k
  ·intro y0 y1 y2 y3 y4 y5 y6 y7
   unfold railplanref13_Separate.l0
   repeat' first
   | (with_reducible exact ih0 _ _ _ _ _ _ _ _)
   | (with_reducible exact railplanref13_Left.mono _ _ _ _ _ _ _)
   | (with_reducible exact railplanref13_Right.mono _ _ _ _ _ _)
   | (with_reducible exact LeO.refl _)
   | (with_reducible exact LeO.none _)
   | (with_reducible refine LeO.ite ?_ ?_)
   | (with_reducible refine LeO.bind ?_ (fun _ => ?_))
   | exact ih0 _ _ _ _ _ _ _ _
   | exact railplanref13_Left.mono _ _ _ _ _ _ _
   | exact railplanref13_Right.mono _ _ _ _ _ _
   | exact LeO.none _
   | refine LeO.ite ?_ ?_
   | refine LeO.bind ?_ (fun _ => ?_)
theorem railplanref13_Separate.mono : ∀ a0 a1 a2 a3 a4 k,LeO (railplanref13_Separate.f k a0 a1 a2 a3 a4) (railplanref13_Separate.f (k + 1) a0 a1 a2 a3 a4):=by
 intro a0 a1 a2 a3 a4 k;have ih0:=railplanref13_Separate.mono_l k;(unfold railplanref13_Separate.f)
 repeat' first
   | (with_reducible exact ih0 _ _ _ _ _ _ _ _)
   | (with_reducible exact railplanref13_Left.mono _ _ _ _ _ _ _)
   | (with_reducible exact railplanref13_Right.mono _ _ _ _ _ _)
   | (with_reducible exact LeO.refl _)
   | (with_reducible exact LeO.none _)
   | (with_reducible refine LeO.ite ?_ ?_)
   | (with_reducible refine LeO.bind ?_ (fun _ => ?_))
   | exact ih0 _ _ _ _ _ _ _ _
   | exact railplanref13_Left.mono _ _ _ _ _ _ _
   | exact railplanref13_Right.mono _ _ _ _ _ _
   | exact LeO.none _
   | refine LeO.ite ?_ ?_
   | refine LeO.bind ?_ (fun _ => ?_)
def railplanref13_Separate.T5 : Bool × List (List Nat × List Nat):=(true,[([],[]),([],[]),([],[]),([1,2],[1,2]),([3],[3]),([],[]),([0,4,5],[0,4,5]),([6],[6]),([7],[7]),([7],[7]),([8,6,0,1,2,3,4,5,6,7,8],[8]),([9,10,0,1,2,3,4,5,6,7,8,9,10],[9])])
def railplanref13_Separate.B5 : List Nat:=[0,0,0,6,14,0,63,127,255,255,511,2047]
theorem railplanref13_Separate.tab5 : rtab .any (opsOf Try.f22 5) = railplanref13_Separate.T5:=by kernel_rfl
theorem railplanref13_Separate.bits5 : waitsOk railplanref13_Separate.T5.2 railplanref13_Separate.B5 = true:=by kernel_rfl
def railplanref13_Separate.T8 : Bool × List (List Nat × List Nat):=(true,[([],[]),([],[]),([],[]),([1,2],[1,2]),([3],[3]),([0,4],[0,4]),([],[]),([5,6],[5,6]),([7,5,0,1,2,3,4,5,6,7],[7])])
def railplanref13_Separate.B8 : List Nat:=[0,0,0,6,14,31,0,127,255]
theorem railplanref13_Separate.tab8 : rtab .any (opsOf Try.f22 8) = railplanref13_Separate.T8:=by kernel_rfl
theorem railplanref13_Separate.bits8 : waitsOk railplanref13_Separate.T8.2 railplanref13_Separate.B8 = true:=by kernel_rfl
set_option maxHeartbeats 8000000 in
set_option maxRecDepth 100000 in
theorem railplanref13_Separate.calls (k : Nat) (a0_0 : Int) (A0_1 : Option Addr) (c0_1 : Nat) (l0_1 : List (S60)) (A0_2 : Option Addr) (c0_2 : Nat) (l0_2 : List (S62)) (A1 : Option Addr) (c1 : Nat) (l1 : List (S32)) (A2 : Option Addr) (c2 : Nat) (l2 : List Int) (r1 : Int) (r2 : Int) (r3 : Int) (w : World) (hr0_1 : Kd.C k60 w A0_1 l0_1.length l0_1) (hc0_1 : l0_1.length ≤ c0_1) (hr0_2 : Kd.C k62 w A0_2 l0_2.length l0_2) (hc0_2 : l0_2.length ≤ c0_2) (hr1 : Kd.C k32 w A1 l1.length l1) (hc1 : l1.length ≤ c1) (hr2 : Kd.C (Kd.int .i64) w A2 l2.length l2) (hc2 : l2.length ≤ c2) (h : railplanref13_Separate.f k a0_0 l0_1 l0_2 l1 l2 = some (r1,r2,r3)) :
  Calls Try.prog 22 #[.agg #[.int .i64 a0_0,.slice A0_1 l0_1.length c0_1,.slice A0_2 l0_2.length c0_2],.slice A1 l1.length c1,.slice A2 l2.length c2] w fun e w' => e = .returned (.tuple #[.int .i64 r1,.int .i64 r2,.int .i64 r3]) ∧ Below w.heap.size w w':=by
 have hu26:=Try.underlying26
 have hu32:=Try.underlying32
 have HR0_1:=am_ hr0_1
 have HC0_1:=am_ hc0_1
 clear hr0_1 hc0_1
 have HR0_2:=am_ hr0_2
 have HC0_2:=am_ hc0_2
 clear hr0_2 hc0_2
 have HR1:=am_ hr1
 have HC1:=am_ hc1
 clear hr1 hc1
 have HR2:=am_ hr2
 have HC2:=am_ hc2
 clear hr2 hc2
 have HB:=am_ (Below.refl w.heap.size w)
 have H : (railplanref13_Separate.l0 k l1 l2 (-1) 0 0 a0_0 l0_1 l0_2) = some (r1,r2,r3):=h
 clear h
 have H':=am_ H
 clear H
 go_enter Try.func22,Try.ntmps22
 go_wp2_with (first|((with_reducible refine gd_ (N:=3) rfl ?_);refine bx2_ 3 #[.int .i64 a0_0,.slice A0_1 l0_1.length c0_1,.slice A0_2 l0_2.length c0_2] 26 (fun gb506 hg w4 hbox hb => ?_);have n0_:=hb_ HB hb;have n1_:=am_ (hbox);have n2_ : Aside0 (w.heap.size ≤ gb506):=gz_ hg HB;have n3_ : Aside0 (w.heap.size ≤ gb506):=gz_ hg HB;revert n0_ n1_ n2_ n3_;clear HB;intro HB BK506 GW506 GE506;clear hb hbox hg))
 go_loopg [9,10,11] k (fun kq v9 v10 v11 w' => ∃ (x9_1 : Int) (x10_1 : Int) (x11_1 : Int),v9 = .int .i64 x9_1 ∧ v10 = .int .i64 x10_1 ∧ v11 = .int .i64 x11_1 ∧ Aside0 (railplanref13_Separate.l0 kq l1 l2 x9_1 x10_1 x11_1 a0_0 l0_1 l0_2 = some (r1,r2,r3)) ∧ Aside0 (kq ≤ k) ∧ Aside0 (w'.heap[gb506]? = some (.cells #[.int .i64 a0_0,(.slice A0_1 l0_1.length c0_1),(.slice A0_2 l0_2.length c0_2)] 26 (0,0))) ∧ Aside0 (Below w.heap.size w w'))
 case atStart => exact ⟨((-1)),(0),(0),(by first|rfl|(simp;done)|(simp [*];done)),(by first|rfl|(simp;done)|(simp [*];done)),(by first|rfl|(simp;done)|(simp [*];done)),H',⟨Nat.le_refl _⟩,kk_ BK506,hh_ HB⟩
 case round =>
  clear H';(try clear c1);(try clear c2);(try clear p2);obtain ⟨x9_1,x10_1,x11_1,rfl,rfl,rfl,HA,HK1,BK506,HB⟩:=hrel;cases gk with
  | zero => exact absurd HA.out (by simp [railplanref13_Separate.l0])
  | succ k1 =>
   have H:=HA.out;clear HA;simp only [railplanref13_Separate.l0] at H
   by_cases c5 : x11_1 < (l1.length : Int)
   ·rw [if_pos c5] at H
    have c5b0:=decide_eq_true c5;clear c5
    by_cases c6 : 0 ≤ x11_1
    ·rw [if_pos c6] at H
     have c6b0:=decide_eq_true c6;clear c6;replace H:=be_ H;obtain ⟨⟨t508,t509⟩,A70,H⟩:=H;(try dsimp only at H);have A7:=am_ A70;clear A70
     by_cases c8 : t509 = 0
     ·rw [if_pos c8] at H
      have c8b0 : (t509 == 0) = true:=beq_iff_eq.mpr c8;have c8b1 : (t509 != 0) = false:=bne_eq_false_iff_eq.mpr c8;clear c8;replace H:=be_ H;obtain ⟨t511,A90,H⟩:=H;have A9:=am_ A90;clear A90
      by_cases c10 : (wrap64 (t511 - t508)) > x10_1
      ·rw [if_pos c10] at H
       have c10b0:=decide_eq_true c10;clear c10;have H':=am_ H;clear H;(try go_wp2);have n0_:=am_ (kD_ BK506.out);have n1_:=am_ (b1_ HB.out)
       revert n0_ n1_
       clear BK506 HB;intro BK506 HB;have p507:=de_ (0 ≤ (x11_1 : Int));have q507:=de_ (x11_1 < (l1.length : Int));obtain ⟨ad507,A507_0,c507_0,A507_1,c507_1,e507,hx507_0,hx507_1,hl507_0,hi507_0,hl507_1,hi507_1⟩:=at_T32 HR1.out x11_1 p507 q507;have hw507_1:=hx507_1;have hw507_0:=hx507_0;cases e507;replace hx507_0:=cl_ HB hx507_0;replace hx507_1:=cl_ HB hx507_1;have HR507_0:=am_ hi507_0;have HC507_0:=am_ hl507_0;clear hi507_0 hl507_0;have HR507_1:=am_ hi507_1;have HC507_1:=am_ hl507_1;clear hi507_1 hl507_1;replace p507:=eq_true p507;replace q507:=eq_true q507;refine start_ (n:=12) (S:=fun w' => c_ w' gb506 0 (.int .i64 a0_0) ∧ c_ w' gb506 1 (.slice A0_1 l0_1.length c0_1) ∧ c_ w' gb506 2 (.slice A0_2 l0_2.length c0_2) ∧ w'.cell? (ad507.add ((x11_1).toNat * 2)) = some (.slice A507_0 ((rd_T32 l1 x11_1).f0).length c507_0) ∧ w'.cell? ⟨(ad507.add ((x11_1).toNat * 2)).block,(ad507.add ((x11_1).toNat * 2)).off + 1,none⟩ = some (.slice A507_1 ((rd_T32 l1 x11_1).f1).length c507_1)) (ds:=[]) (bm 12 0) (by kernel_rfl) rfl rfl ⟨cq_ BK506 0,cq_ BK506 1,cq_ BK506 2,(cl_ HB hw507_0 :),(cl_ HB hw507_1 :)⟩ (fun hHeld => ?_);refine with_tabW railplanref13_Separate.tab5 railplanref13_Separate.bits5 (fun HT_ HW_ => ?_);generalize wr.drew = w11 at BK506 HB HR507_0 HR507_1 hx507_0 hx507_1 hHeld ⊢;refine pu_ 1 23 (bm 12 2) ?_;refine pu_ 2 24 (bm 12 6) ?_;refine pu_ 3 25 (bm 12 14) ?_;refine pu_ 5 27 (bm 12 46) ?_;refine ta_ 0 22 (bm 12 47) ?_;refine ta_ 4 26 (bm 12 63) ?_;refine on_ 6 28 (bm 12 127) (fun K hK => ?_);refine gs_ Try.func40 #[.agg #[.int .i64 a0_0,.slice A0_1 l0_1.length c0_1,.slice A0_2 l0_2.length c0_2],.agg #[.slice A507_0 ((rd_T32 l1 x11_1).f0).length c507_0,.slice A507_1 ((rd_T32 l1 x11_1).f1).length c507_1],.slice A2 l2.length c2] ?_;(with_reducible refine (railplanref13_Left.calls k1 a0_0 _ _ l0_1 _ _ l0_2 _ _ ((rd_T32 l1 x11_1).f0) _ _ ((rd_T32 l1 x11_1).f1) _ _ l2 t508 t509 _ (cr_ (CB_ HR0_1.out HB.out)) HC0_1.out (cr_ (CB_ HR0_2.out HB.out)) HC0_2.out (cr_ (CB_ HR507_0.out HB.out)) HC507_0.out (cr_ (CB_ HR507_1.out HB.out)) HC507_1.out (cr_ (CB_ HR2.out HB.out)) HC2.out A7.out).mono ?_);rintro e w12 ⟨rfl,hb⟩;refine ⟨_,rfl,?_⟩;have n0_:=kb_ BK506 hb;have n1_:=hb_ HB hb
       revert n0_ n1_
       clear BK506 HB;intro BK506 HB;(try clear hb);refine hK.out _ _ ⟨cq_ BK506 0,cq_ BK506 1,cq_ BK506 2,(cl_ HB hw507_0 :),(cl_ HB hw507_1 :)⟩ (fun hHeld => ?_);clear hK K;refine nm_ 28 ?_;refine pu_ 7 21 (bm 12 255) ?_;refine pu_ 8 29 (bm 12 511) ?_;refine pu_ 9 30 (bm 12 1023) ?_;refine pu_ 10 12 (bm 12 2047) ?_;refine pu_ 11 13 (bm 12 4095) ?_;refine done_ (done_of HT_.out (by kernel_rfl)) ?_;(try go_wp2);have n0_:=am_ (kD_ BK506.out);have n1_:=am_ (b1_ HB.out)
       revert n0_ n1_
       clear BK506 HB;intro BK506 HB;have p510:=de_ (0 ≤ (x11_1 : Int));have q510:=de_ (x11_1 < (l1.length : Int));obtain ⟨ad510,A510_0,c510_0,A510_1,c510_1,e510,hx510_0,hx510_1,hl510_0,hi510_0,hl510_1,hi510_1⟩:=at_T32 HR1.out x11_1 p510 q510;have hw510_1:=hx510_1;have hw510_0:=hx510_0;obtain rfl : ad507 = ad510:=(by injection e510);replace hx510_0:=cl_ HB hx510_0;replace hx510_1:=cl_ HB hx510_1;have HR510_0:=am_ hi510_0;have HC510_0:=am_ hl510_0;clear hi510_0 hl510_0;have HR510_1:=am_ hi510_1;have HC510_1:=am_ hl510_1;clear hi510_1 hl510_1;replace p510:=eq_true p510;replace q510:=eq_true q510;refine start_ (n:=9) (S:=fun w' => c_ w' gb506 0 (.int .i64 a0_0) ∧ c_ w' gb506 1 (.slice A0_1 l0_1.length c0_1) ∧ c_ w' gb506 2 (.slice A0_2 l0_2.length c0_2) ∧ w'.cell? (ad507.add ((x11_1).toNat * 2)) = some (.slice A510_0 ((rd_T32 l1 x11_1).f0).length c510_0) ∧ w'.cell? ⟨(ad507.add ((x11_1).toNat * 2)).block,(ad507.add ((x11_1).toNat * 2)).off + 1,none⟩ = some (.slice A510_1 ((rd_T32 l1 x11_1).f1).length c510_1)) (ds:=[]) (bm 9 0) (by kernel_rfl) rfl rfl ⟨cq_ BK506 0,cq_ BK506 1,cq_ BK506 2,(cl_ HB hw510_0 :),(cl_ HB hw510_1 :)⟩ (fun hHeld => ?_);refine with_tabW railplanref13_Separate.tab8 railplanref13_Separate.bits8 (fun HT_ HW_ => ?_);generalize w12.drew = w13 at BK506 HB HR510_0 HR510_1 hx510_0 hx510_1 hHeld ⊢;refine pu_ 1 35 (bm 9 2) ?_;refine pu_ 2 36 (bm 9 6) ?_;refine pu_ 3 37 (bm 9 14) ?_;refine pu_ 6 40 (bm 9 78) ?_;refine ta_ 0 34 (bm 9 79) ?_;refine ta_ 4 38 (bm 9 95) ?_;refine on_ 5 39 (bm 9 127) (fun K hK => ?_);refine gs_ Try.func41 #[.agg #[.int .i64 a0_0,.slice A0_1 l0_1.length c0_1,.slice A0_2 l0_2.length c0_2],.agg #[.slice A510_0 ((rd_T32 l1 x11_1).f0).length c510_0,.slice A510_1 ((rd_T32 l1 x11_1).f1).length c510_1]] ?_;(with_reducible refine (railplanref13_Right.calls k1 a0_0 _ _ l0_1 _ _ l0_2 _ _ ((rd_T32 l1 x11_1).f0) _ _ ((rd_T32 l1 x11_1).f1) t511 _ (cr_ (CB_ HR0_1.out HB.out)) HC0_1.out (cr_ (CB_ HR0_2.out HB.out)) HC0_2.out (cr_ (CB_ HR510_0.out HB.out)) HC510_0.out (cr_ (CB_ HR510_1.out HB.out)) HC510_1.out A9.out).mono ?_);rintro e w14 ⟨rfl,hb⟩;refine ⟨_,rfl,?_⟩;have n0_:=kb_ BK506 hb;have n1_:=hb_ HB hb
       revert n0_ n1_
       clear BK506 HB;intro BK506 HB;(try clear hb);refine hK.out _ _ ⟨cq_ BK506 0,cq_ BK506 1,cq_ BK506 2,(cl_ HB hw510_0 :),(cl_ HB hw510_1 :)⟩ (fun hHeld => ?_);clear hK K;refine nm_ 39 ?_;refine pu_ 7 41 (bm 9 255) ?_;refine pu_ 8 14 (bm 9 511) ?_;refine done_ (done_of HT_.out (by kernel_rfl)) ?_;(try go_wp2);(go_roundg k1)
       case measure => have:=HK1.out;omega
       case rel => exact ⟨(x11_1),(wrap64 (t511 - t508)),(wrap64 (x11_1 + 1)),(by first|rfl|(simp;done)|(simp [*];done)),(by first|rfl|(simp;done)|(simp [*];done)),(by first|rfl|(simp;done)|(simp [*];done)),H',⟨by have:=HK1.out;omega⟩,kk_ BK506,hh_ HB⟩
      ·rw [if_neg c10] at H
       have c10b0:=decide_eq_false c10;clear c10;have H':=am_ H;clear H;(try go_wp2);have n0_:=am_ (kD_ BK506.out);have n1_:=am_ (b1_ HB.out)
       revert n0_ n1_
       clear BK506 HB;intro BK506 HB;have p507:=de_ (0 ≤ (x11_1 : Int));have q507:=de_ (x11_1 < (l1.length : Int));obtain ⟨ad507,A507_0,c507_0,A507_1,c507_1,e507,hx507_0,hx507_1,hl507_0,hi507_0,hl507_1,hi507_1⟩:=at_T32 HR1.out x11_1 p507 q507;have hw507_1:=hx507_1;have hw507_0:=hx507_0;cases e507;replace hx507_0:=cl_ HB hx507_0;replace hx507_1:=cl_ HB hx507_1;have HR507_0:=am_ hi507_0;have HC507_0:=am_ hl507_0;clear hi507_0 hl507_0;have HR507_1:=am_ hi507_1;have HC507_1:=am_ hl507_1;clear hi507_1 hl507_1;replace p507:=eq_true p507;replace q507:=eq_true q507;refine start_ (n:=12) (S:=fun w' => c_ w' gb506 0 (.int .i64 a0_0) ∧ c_ w' gb506 1 (.slice A0_1 l0_1.length c0_1) ∧ c_ w' gb506 2 (.slice A0_2 l0_2.length c0_2) ∧ w'.cell? (ad507.add ((x11_1).toNat * 2)) = some (.slice A507_0 ((rd_T32 l1 x11_1).f0).length c507_0) ∧ w'.cell? ⟨(ad507.add ((x11_1).toNat * 2)).block,(ad507.add ((x11_1).toNat * 2)).off + 1,none⟩ = some (.slice A507_1 ((rd_T32 l1 x11_1).f1).length c507_1)) (ds:=[]) (bm 12 0) (by kernel_rfl) rfl rfl ⟨cq_ BK506 0,cq_ BK506 1,cq_ BK506 2,(cl_ HB hw507_0 :),(cl_ HB hw507_1 :)⟩ (fun hHeld => ?_);refine with_tabW railplanref13_Separate.tab5 railplanref13_Separate.bits5 (fun HT_ HW_ => ?_);generalize wr.drew = w15 at BK506 HB HR507_0 HR507_1 hx507_0 hx507_1 hHeld ⊢;refine pu_ 1 23 (bm 12 2) ?_;refine pu_ 2 24 (bm 12 6) ?_;refine pu_ 3 25 (bm 12 14) ?_;refine pu_ 5 27 (bm 12 46) ?_;refine ta_ 0 22 (bm 12 47) ?_;refine ta_ 4 26 (bm 12 63) ?_;refine on_ 6 28 (bm 12 127) (fun K hK => ?_);refine gs_ Try.func40 #[.agg #[.int .i64 a0_0,.slice A0_1 l0_1.length c0_1,.slice A0_2 l0_2.length c0_2],.agg #[.slice A507_0 ((rd_T32 l1 x11_1).f0).length c507_0,.slice A507_1 ((rd_T32 l1 x11_1).f1).length c507_1],.slice A2 l2.length c2] ?_;(with_reducible refine (railplanref13_Left.calls k1 a0_0 _ _ l0_1 _ _ l0_2 _ _ ((rd_T32 l1 x11_1).f0) _ _ ((rd_T32 l1 x11_1).f1) _ _ l2 t508 t509 _ (cr_ (CB_ HR0_1.out HB.out)) HC0_1.out (cr_ (CB_ HR0_2.out HB.out)) HC0_2.out (cr_ (CB_ HR507_0.out HB.out)) HC507_0.out (cr_ (CB_ HR507_1.out HB.out)) HC507_1.out (cr_ (CB_ HR2.out HB.out)) HC2.out A7.out).mono ?_);rintro e w16 ⟨rfl,hb⟩;refine ⟨_,rfl,?_⟩;have n0_:=kb_ BK506 hb;have n1_:=hb_ HB hb
       revert n0_ n1_
       clear BK506 HB;intro BK506 HB;(try clear hb);refine hK.out _ _ ⟨cq_ BK506 0,cq_ BK506 1,cq_ BK506 2,(cl_ HB hw507_0 :),(cl_ HB hw507_1 :)⟩ (fun hHeld => ?_);clear hK K;refine nm_ 28 ?_;refine pu_ 7 21 (bm 12 255) ?_;refine pu_ 8 29 (bm 12 511) ?_;refine pu_ 9 30 (bm 12 1023) ?_;refine pu_ 10 12 (bm 12 2047) ?_;refine pu_ 11 13 (bm 12 4095) ?_;refine done_ (done_of HT_.out (by kernel_rfl)) ?_;(try go_wp2);have n0_:=am_ (kD_ BK506.out);have n1_:=am_ (b1_ HB.out)
       revert n0_ n1_
       clear BK506 HB;intro BK506 HB;have p510:=de_ (0 ≤ (x11_1 : Int));have q510:=de_ (x11_1 < (l1.length : Int));obtain ⟨ad510,A510_0,c510_0,A510_1,c510_1,e510,hx510_0,hx510_1,hl510_0,hi510_0,hl510_1,hi510_1⟩:=at_T32 HR1.out x11_1 p510 q510;have hw510_1:=hx510_1;have hw510_0:=hx510_0;obtain rfl : ad507 = ad510:=(by injection e510);replace hx510_0:=cl_ HB hx510_0;replace hx510_1:=cl_ HB hx510_1;have HR510_0:=am_ hi510_0;have HC510_0:=am_ hl510_0;clear hi510_0 hl510_0;have HR510_1:=am_ hi510_1;have HC510_1:=am_ hl510_1;clear hi510_1 hl510_1;replace p510:=eq_true p510;replace q510:=eq_true q510;refine start_ (n:=9) (S:=fun w' => c_ w' gb506 0 (.int .i64 a0_0) ∧ c_ w' gb506 1 (.slice A0_1 l0_1.length c0_1) ∧ c_ w' gb506 2 (.slice A0_2 l0_2.length c0_2) ∧ w'.cell? (ad507.add ((x11_1).toNat * 2)) = some (.slice A510_0 ((rd_T32 l1 x11_1).f0).length c510_0) ∧ w'.cell? ⟨(ad507.add ((x11_1).toNat * 2)).block,(ad507.add ((x11_1).toNat * 2)).off + 1,none⟩ = some (.slice A510_1 ((rd_T32 l1 x11_1).f1).length c510_1)) (ds:=[]) (bm 9 0) (by kernel_rfl) rfl rfl ⟨cq_ BK506 0,cq_ BK506 1,cq_ BK506 2,(cl_ HB hw510_0 :),(cl_ HB hw510_1 :)⟩ (fun hHeld => ?_);refine with_tabW railplanref13_Separate.tab8 railplanref13_Separate.bits8 (fun HT_ HW_ => ?_);generalize w16.drew = w17 at BK506 HB HR510_0 HR510_1 hx510_0 hx510_1 hHeld ⊢;refine pu_ 1 35 (bm 9 2) ?_;refine pu_ 2 36 (bm 9 6) ?_;refine pu_ 3 37 (bm 9 14) ?_;refine pu_ 6 40 (bm 9 78) ?_;refine ta_ 0 34 (bm 9 79) ?_;refine ta_ 4 38 (bm 9 95) ?_;refine on_ 5 39 (bm 9 127) (fun K hK => ?_);refine gs_ Try.func41 #[.agg #[.int .i64 a0_0,.slice A0_1 l0_1.length c0_1,.slice A0_2 l0_2.length c0_2],.agg #[.slice A510_0 ((rd_T32 l1 x11_1).f0).length c510_0,.slice A510_1 ((rd_T32 l1 x11_1).f1).length c510_1]] ?_;(with_reducible refine (railplanref13_Right.calls k1 a0_0 _ _ l0_1 _ _ l0_2 _ _ ((rd_T32 l1 x11_1).f0) _ _ ((rd_T32 l1 x11_1).f1) t511 _ (cr_ (CB_ HR0_1.out HB.out)) HC0_1.out (cr_ (CB_ HR0_2.out HB.out)) HC0_2.out (cr_ (CB_ HR510_0.out HB.out)) HC510_0.out (cr_ (CB_ HR510_1.out HB.out)) HC510_1.out A9.out).mono ?_);rintro e w18 ⟨rfl,hb⟩;refine ⟨_,rfl,?_⟩;have n0_:=kb_ BK506 hb;have n1_:=hb_ HB hb
       revert n0_ n1_
       clear BK506 HB;intro BK506 HB;(try clear hb);refine hK.out _ _ ⟨cq_ BK506 0,cq_ BK506 1,cq_ BK506 2,(cl_ HB hw510_0 :),(cl_ HB hw510_1 :)⟩ (fun hHeld => ?_);clear hK K;refine nm_ 39 ?_;refine pu_ 7 41 (bm 9 255) ?_;refine pu_ 8 14 (bm 9 511) ?_;refine done_ (done_of HT_.out (by kernel_rfl)) ?_;(try go_wp2);(go_roundg k1)
       case measure => have:=HK1.out;omega
       case rel => exact ⟨(x9_1),(x10_1),(wrap64 (x11_1 + 1)),(by first|rfl|(simp;done)|(simp [*];done)),(by first|rfl|(simp;done)|(simp [*];done)),(by first|rfl|(simp;done)|(simp [*];done)),H',⟨by have:=HK1.out;omega⟩,kk_ BK506,hh_ HB⟩
     ·rw [if_neg c8] at H
      have c8b0 : (t509 == 0) = false:=beq_eq_false_iff_ne.mpr c8;have c8b1 : (t509 != 0) = true:=bne_iff_ne.mpr c8;simp only [Option.some.injEq,Prod.mk.injEq] at H;obtain ⟨rfl,rfl,rfl⟩:=H;(try go_wp2);have n0_:=am_ (kD_ BK506.out);have n1_:=am_ (b1_ HB.out)
      revert n0_ n1_
      clear BK506 HB;intro BK506 HB;have p507:=de_ (0 ≤ (x11_1 : Int));have q507:=de_ (x11_1 < (l1.length : Int));obtain ⟨ad507,A507_0,c507_0,A507_1,c507_1,e507,hx507_0,hx507_1,hl507_0,hi507_0,hl507_1,hi507_1⟩:=at_T32 HR1.out x11_1 p507 q507;have hw507_1:=hx507_1;have hw507_0:=hx507_0;cases e507;replace hx507_0:=cl_ HB hx507_0;replace hx507_1:=cl_ HB hx507_1;have HR507_0:=am_ hi507_0;have HC507_0:=am_ hl507_0;clear hi507_0 hl507_0;have HR507_1:=am_ hi507_1;have HC507_1:=am_ hl507_1;clear hi507_1 hl507_1;replace p507:=eq_true p507;replace q507:=eq_true q507;refine start_ (n:=12) (S:=fun w' => c_ w' gb506 0 (.int .i64 a0_0) ∧ c_ w' gb506 1 (.slice A0_1 l0_1.length c0_1) ∧ c_ w' gb506 2 (.slice A0_2 l0_2.length c0_2) ∧ w'.cell? (ad507.add ((x11_1).toNat * 2)) = some (.slice A507_0 ((rd_T32 l1 x11_1).f0).length c507_0) ∧ w'.cell? ⟨(ad507.add ((x11_1).toNat * 2)).block,(ad507.add ((x11_1).toNat * 2)).off + 1,none⟩ = some (.slice A507_1 ((rd_T32 l1 x11_1).f1).length c507_1)) (ds:=[]) (bm 12 0) (by kernel_rfl) rfl rfl ⟨cq_ BK506 0,cq_ BK506 1,cq_ BK506 2,(cl_ HB hw507_0 :),(cl_ HB hw507_1 :)⟩ (fun hHeld => ?_);refine with_tabW railplanref13_Separate.tab5 railplanref13_Separate.bits5 (fun HT_ HW_ => ?_);generalize wr.drew = w19 at BK506 HB HR507_0 HR507_1 hx507_0 hx507_1 hHeld ⊢;refine pu_ 1 23 (bm 12 2) ?_;refine pu_ 2 24 (bm 12 6) ?_;refine pu_ 3 25 (bm 12 14) ?_;refine pu_ 5 27 (bm 12 46) ?_;refine ta_ 0 22 (bm 12 47) ?_;refine ta_ 4 26 (bm 12 63) ?_;refine on_ 6 28 (bm 12 127) (fun K hK => ?_);refine gs_ Try.func40 #[.agg #[.int .i64 a0_0,.slice A0_1 l0_1.length c0_1,.slice A0_2 l0_2.length c0_2],.agg #[.slice A507_0 ((rd_T32 l1 x11_1).f0).length c507_0,.slice A507_1 ((rd_T32 l1 x11_1).f1).length c507_1],.slice A2 l2.length c2] ?_;(with_reducible refine (railplanref13_Left.calls k1 a0_0 _ _ l0_1 _ _ l0_2 _ _ ((rd_T32 l1 x11_1).f0) _ _ ((rd_T32 l1 x11_1).f1) _ _ l2 t508 t509 _ (cr_ (CB_ HR0_1.out HB.out)) HC0_1.out (cr_ (CB_ HR0_2.out HB.out)) HC0_2.out (cr_ (CB_ HR507_0.out HB.out)) HC507_0.out (cr_ (CB_ HR507_1.out HB.out)) HC507_1.out (cr_ (CB_ HR2.out HB.out)) HC2.out A7.out).mono ?_);rintro e w20 ⟨rfl,hb⟩;refine ⟨_,rfl,?_⟩;have n0_:=kb_ BK506 hb;have n1_:=hb_ HB hb
      revert n0_ n1_
      clear BK506 HB;intro BK506 HB;(try clear hb);refine hK.out _ _ ⟨cq_ BK506 0,cq_ BK506 1,cq_ BK506 2,(cl_ HB hw507_0 :),(cl_ HB hw507_1 :)⟩ (fun hHeld => ?_);clear hK K;refine nm_ 28 ?_;refine pu_ 7 21 (bm 12 255) ?_;refine pu_ 8 29 (bm 12 511) ?_;refine pu_ 9 30 (bm 12 1023) ?_;refine pu_ 10 12 (bm 12 2047) ?_;refine pu_ 11 13 (bm 12 4095) ?_;refine done_ (done_of HT_.out (by kernel_rfl)) ?_;(try go_wp2);(go_ret3);(exact ⟨by first|rfl|(simp [errW_none,errW_some] <;> rfl)|(simp [*,errW_none,errW_some] <;> rfl),hB_ HB⟩)
    ·rw [if_neg c6] at H;(simp at H)
   ·rw [if_neg c5] at H;(have c5b0:=decide_eq_false c5;clear c5;simp only [Option.some.injEq,Prod.mk.injEq] at H;obtain ⟨rfl,rfl,rfl⟩:=H;(go_wp2);(go_ret3);(exact ⟨by first|rfl|(simp [errW_none,errW_some] <;> rfl)|(simp [*,errW_none,errW_some] <;> rfl),hB_ HB⟩))
end Go.Proofs.Ytgbcgbfoejkieaa.PAll
