-- Packed by wip/tools/pack.py of this session out of what plugprint.py and the kit's print wrote. Lean checks it.
import Derived.Test.YtgbcgbfoejkieaaIS
import Derived.Test.YtgbcgbfoejkieaaI23
import Derived.Test.YtgbcgbfoejkieaaI37
import Derived.Test.YtgbcgbfoejkieaaI38
namespace Go.Proofs.Ytgbcgbfoejkieaa.PAll
open Go.RowKit Go.Proofs.YtgbcgbfoejkieaaW.PrintWords Go.Proofs.YtgbcgbfoejkieaaW.PrintLast Go.Proofs.YtgbcgbfoejkieaaW.PrintMore
attribute [local go_sem] max2_int min2_int max_two min_two max_three min_three max_four min_four
set_option linter.unusedVariables false
set_option linter.unusedSimpArgs false
/-! ### railplanref13_Gap: function 50 -/
def railplanref13_Gap.l0 : Nat → Int → Int → Int → Int → Int → List (S60) → List (S62) → Option (Int × Bool)
 | 0,_,_,_,_,_,_,_ => none
 | k + 1,x7,x9,x12,x13,x801000,x801001,x801002 => if x13 ≤ x7 then ((railplanref13_abs.f (wrap64 ((wrap64 (x13 * x801000)) - x9))).bind fun t809 => (railplanref13_Gap.l0 k x7 x9 (mn x12 t809) (wrap64 (x13 + 1)) x801000 x801001 x801002)) else (some (x12,true))
def railplanref13_Gap.f (k : Nat) (a0_0 : Int) (l0_1 : List (S60)) (l0_2 : List (S62)) (l1_0 : List Int) (l1_1 : List Int) : Option (Int × Bool):=(railplanref13_Windings.f k a0_0 l0_1 l0_2 l1_0 l1_1).bind fun bt802 => (if bt802.2.2 = true then ((railplanref13_sums.f k a0_0 l0_1 l0_2 l1_0 l1_1).bind fun bt805 => ((railplanref13_abs.f (wrap64 ((wrap64 (bt802.1 * a0_0)) - bt805.1))).bind fun t808 => (railplanref13_Gap.l0 k bt802.2.1 bt805.1 t808 bt802.1 a0_0 l0_1 l0_2))) else (some (0,false)))
theorem railplanref13_Gap.mono_l : ∀ k,(∀ y0 y1 y2 y3 y4 y5 y6,LeO (railplanref13_Gap.l0 k y0 y1 y2 y3 y4 y5 y6) (railplanref13_Gap.l0 (k + 1) y0 y1 y2 y3 y4 y5 y6))
 | 0 => fun _ _ _ _ _ _ _ r h => by simp [railplanref13_Gap.l0] at h
 | k + 1 => by
  have ih0:=railplanref13_Gap.mono_l k
  ·intro y0 y1 y2 y3 y4 y5 y6
   unfold railplanref13_Gap.l0
   repeat' first
   | (with_reducible exact ih0 _ _ _ _ _ _ _)
   | (with_reducible exact railplanref13_Windings.mono _ _ _ _ _ _)
   | (with_reducible exact railplanref13_sums.mono _ _ _ _ _ _)
   | (with_reducible exact LeO.refl _)
   | (with_reducible exact LeO.none _)
   | (with_reducible refine LeO.ite ?_ ?_)
   | (with_reducible refine LeO.bind ?_ (fun _ => ?_))
   | exact ih0 _ _ _ _ _ _ _
   | exact railplanref13_Windings.mono _ _ _ _ _ _
   | exact railplanref13_sums.mono _ _ _ _ _ _
   | exact LeO.none _
   | refine LeO.ite ?_ ?_
   | refine LeO.bind ?_ (fun _ => ?_)
theorem railplanref13_Gap.mono : ∀ a0 a1 a2 a3 a4 k,LeO (railplanref13_Gap.f k a0 a1 a2 a3 a4) (railplanref13_Gap.f (k + 1) a0 a1 a2 a3 a4):=by
 intro a0 a1 a2 a3 a4 k;have ih0:=railplanref13_Gap.mono_l k;(unfold railplanref13_Gap.f)
 repeat' first
   | (with_reducible exact ih0 _ _ _ _ _ _ _)
   | (with_reducible exact railplanref13_Windings.mono _ _ _ _ _ _)
   | (with_reducible exact railplanref13_sums.mono _ _ _ _ _ _)
   | (with_reducible exact LeO.refl _)
   | (with_reducible exact LeO.none _)
   | (with_reducible refine LeO.ite ?_ ?_)
   | (with_reducible refine LeO.bind ?_ (fun _ => ?_))
   | exact ih0 _ _ _ _ _ _ _
   | exact railplanref13_Windings.mono _ _ _ _ _ _
   | exact railplanref13_sums.mono _ _ _ _ _ _
   | exact LeO.none _
   | refine LeO.ite ?_ ?_
   | refine LeO.bind ?_ (fun _ => ?_)
set_option maxHeartbeats 8000000 in
set_option maxRecDepth 100000 in
theorem railplanref13_Gap.calls (k : Nat) (a0_0 : Int) (A0_1 : Option Addr) (c0_1 : Nat) (l0_1 : List (S60)) (A0_2 : Option Addr) (c0_2 : Nat) (l0_2 : List (S62)) (A1_0 : Option Addr) (c1_0 : Nat) (l1_0 : List Int) (A1_1 : Option Addr) (c1_1 : Nat) (l1_1 : List Int) (r1 : Int) (r2 : Bool) (w : World) (hr0_1 : Kd.C k60 w A0_1 l0_1.length l0_1) (hc0_1 : l0_1.length ≤ c0_1) (hr0_2 : Kd.C k62 w A0_2 l0_2.length l0_2) (hc0_2 : l0_2.length ≤ c0_2) (hr1_0 : Kd.C (Kd.int .i64) w A1_0 l1_0.length l1_0) (hc1_0 : l1_0.length ≤ c1_0) (hr1_1 : Kd.C (Kd.int .i64) w A1_1 l1_1.length l1_1) (hc1_1 : l1_1.length ≤ c1_1) (h : railplanref13_Gap.f k a0_0 l0_1 l0_2 l1_0 l1_1 = some (r1,r2)) :
  Calls Try.prog 50 #[.agg #[.int .i64 a0_0,.slice A0_1 l0_1.length c0_1,.slice A0_2 l0_2.length c0_2],.agg #[.slice A1_0 l1_0.length c1_0,.slice A1_1 l1_1.length c1_1]] w fun e w' => e = .returned (.tuple #[.int .i64 r1,.bool r2]) ∧ Below w.heap.size w w':=by
 have hu26:=Try.underlying26
 have hu32:=Try.underlying32
 have HR0_1:=am_ hr0_1
 have HC0_1:=am_ hc0_1
 clear hr0_1 hc0_1
 have HR0_2:=am_ hr0_2
 have HC0_2:=am_ hc0_2
 clear hr0_2 hc0_2
 have HR1_0:=am_ hr1_0
 have HC1_0:=am_ hc1_0
 clear hr1_0 hc1_0
 have HR1_1:=am_ hr1_1
 have HC1_1:=am_ hc1_1
 clear hr1_1 hc1_1
 have HB:=am_ (Below.refl w.heap.size w)
 have H : ((railplanref13_Windings.f k a0_0 l0_1 l0_2 l1_0 l1_1).bind fun bt802 => (if bt802.2.2 = true then ((railplanref13_sums.f k a0_0 l0_1 l0_2 l1_0 l1_1).bind fun bt805 => ((railplanref13_abs.f (wrap64 ((wrap64 (bt802.1 * a0_0)) - bt805.1))).bind fun t808 => (railplanref13_Gap.l0 k bt802.2.1 bt805.1 t808 bt802.1 a0_0 l0_1 l0_2))) else (some (0,false)))) = some (r1,r2):=h
 clear h
 replace H:=be_ H
 obtain ⟨⟨t802,t803,t804⟩,A30,H⟩:=H
 (try dsimp only at H)
 have A3:=am_ A30
 clear A30
 by_cases c4 : t804 = true
 ·subst c4
  rw [if_pos rfl] at H;replace H:=be_ H;obtain ⟨⟨t805,t806,t807⟩,A50,H⟩:=H;(try dsimp only at H);have A5:=am_ A50;clear A50;replace H:=be_ H;obtain ⟨t808,A60,H⟩:=H;have A6:=am_ A60;clear A60;have H':=am_ H;clear H;(go_enter Try.func50,Try.ntmps50);(go_wp2_with (first|((with_reducible refine gd_ (N:=2) rfl ?_);refine bx2_ 2 #[.int .i64 a0_0,.slice A0_1 l0_1.length c0_1,.slice A0_2 l0_2.length c0_2] 26 (fun gb800 hg w7 hbox hb => ?_);have n0_:=hb_ HB hb;have n1_:=am_ (hbox);have n2_ : Aside0 (w.heap.size ≤ gb800):=gz_ hg HB;have n3_ : Aside0 (w.heap.size ≤ gb800):=gz_ hg HB;revert n0_ n1_ n2_ n3_;clear HB;intro HB BK800 GW800 GE800;clear hb hbox hg)|((with_reducible refine gd_ (N:=3) rfl ?_);refine bx2_ 3 #[.slice A1_0 l1_0.length c1_0,.slice A1_1 l1_1.length c1_1] 32 (fun gb801 hg w8 hbox hb => ?_);have n0_:=kb_ BK800 hb;have n1_:=hb_ HB hb;have n2_:=am_ (hbox);have n3_ : Aside0 (w.heap.size ≤ gb801):=gz_ hg HB;have n4_ : Aside0 (w.heap.size ≤ gb801):=gz_ hg HB;have n5_:=nl_ hg BK800;have n6_:=ng_ hg BK800;revert n0_ n1_ n2_ n3_ n4_ n5_ n6_;clear BK800 HB;intro BK800 HB BK801 GW801 GE801 NB800_801 NB801_800;clear hb hbox hg;have hnb9:=NB800_801.out;have hnc9:=NB801_800.out;have hcz10_0:=cA_ BK800;have hfz10_0:=fA_ BK800;have hcz11_0:=cA_ BK801;have hfz11_0:=fA_ BK801)|((with_reducible refine gc_ (f:=49) rfl ?_);refine gl_ (some 17) Try.func49 #[.agg #[.int .i64 a0_0,.slice A0_1 l0_1.length c0_1,.slice A0_2 l0_2.length c0_2],.agg #[.slice A1_0 l1_0.length c1_0,.slice A1_1 l1_1.length c1_1]] ?_;(with_reducible refine (railplanref13_Windings.calls k a0_0 _ _ l0_1 _ _ l0_2 _ _ l1_0 _ _ l1_1 t802 t803 true _ (cr_ (CB_ HR0_1.out HB.out)) HC0_1.out (cr_ (CB_ HR0_2.out HB.out)) HC0_2.out (cr_ (CB_ HR1_0.out HB.out)) HC1_0.out (cr_ (CB_ HR1_1.out HB.out)) HC1_1.out A3.out).mono ?_);rintro e w12 ⟨rfl,hb⟩;refine ⟨_,rfl,?_⟩;have n0_:=kb_ BK800 hb;have n1_:=kb_ BK801 hb;have n2_:=hb_ HB hb;revert n0_ n1_ n2_;clear BK800 BK801 HB;intro BK800 BK801 HB;(try clear hb);(try clear hb2);(try clear hk);(try clear hi);have hcz13_0:=cA_ BK800;have hfz13_0:=fA_ BK800;have hcz14_0:=cA_ BK801;have hfz14_0:=fA_ BK801)|((with_reducible refine gc_ (f:=63) rfl ?_);refine gl_ (some 26) Try.func63 #[.agg #[.int .i64 a0_0,.slice A0_1 l0_1.length c0_1,.slice A0_2 l0_2.length c0_2],.agg #[.slice A1_0 l1_0.length c1_0,.slice A1_1 l1_1.length c1_1]] ?_;(with_reducible refine (railplanref13_sums.calls k a0_0 _ _ l0_1 _ _ l0_2 _ _ l1_0 _ _ l1_1 t805 t806 t807 _ (cr_ (CB_ HR0_1.out HB.out)) HC0_1.out (cr_ (CB_ HR0_2.out HB.out)) HC0_2.out (cr_ (CB_ HR1_0.out HB.out)) HC1_0.out (cr_ (CB_ HR1_1.out HB.out)) HC1_1.out A5.out).mono ?_);rintro e w15 ⟨rfl,hb⟩;refine ⟨_,rfl,?_⟩;have n0_:=kb_ BK800 hb;have n1_:=kb_ BK801 hb;have n2_:=hb_ HB hb;revert n0_ n1_ n2_;clear BK800 BK801 HB;intro BK800 BK801 HB;(try clear hb);(try clear hb2);(try clear hk);(try clear hi);have hcz16_0:=cA_ BK800;have hfz16_0:=fA_ BK800)|((with_reducible refine gc_ (f:=66) rfl ?_);refine gl_ (some 36) Try.func66 #[.int .i64 (wrap64 ((wrap64 (t802 * a0_0)) - t805))] ?_;(with_reducible refine (railplanref13_abs.calls (wrap64 ((wrap64 (t802 * a0_0)) - t805)) t808 _ A6.out).mono ?_);rintro e w17 ⟨rfl,hb⟩;refine ⟨_,rfl,?_⟩;have n0_:=kb_ BK800 hb;have n1_:=kb_ BK801 hb;have n2_:=hb_ HB hb;revert n0_ n1_ n2_;clear BK800 BK801 HB;intro BK800 BK801 HB;(try clear hb);(try clear hb2);(try clear hk);(try clear hi))));(go_loopg [12,13] k (fun kq v12 v13 w' => ∃ (x12_1 : Int) (x13_1 : Int),v12 = .int .i64 x12_1 ∧ v13 = .int .i64 x13_1 ∧ Aside0 (railplanref13_Gap.l0 kq t803 t805 x12_1 x13_1 a0_0 l0_1 l0_2 = some (r1,r2)) ∧ Aside0 (kq ≤ k) ∧ Aside0 (w'.heap[gb800]? = some (.cells #[.int .i64 a0_0,(.slice A0_1 l0_1.length c0_1),(.slice A0_2 l0_2.length c0_2)] 26 (0,0))) ∧ Aside0 (w'.heap[gb801]? = some (.cells #[(.slice A1_0 l1_0.length c1_0),(.slice A1_1 l1_1.length c1_1)] 32 (0,0))) ∧ Aside0 (Below w.heap.size w w')))
  case atStart => exact ⟨(t808),(t802),(by first|rfl|(simp;done)|(simp [*];done)),(by first|rfl|(simp;done)|(simp [*];done)),H',⟨Nat.le_refl _⟩,kk_ BK800,kk_ BK801,hh_ HB⟩
  case round =>
   clear H';(try clear c1);(try clear p2);(try clear c4);(try clear c5);(try clear c6);(try clear p6);(try clear c9);(try clear hcz10_0);(try clear hcz11_0);(try clear hcz13_0);(try clear hcz14_0);(try clear hcz16_0);(try clear hfz10_0);(try clear hfz11_0);(try clear hfz13_0);(try clear hfz14_0);(try clear hfz16_0);obtain ⟨x12_1,x13_1,rfl,rfl,HA,HK1,BK800,BK801,HB⟩:=hrel;cases gk with
   | zero => exact absurd HA.out (by simp [railplanref13_Gap.l0])
   | succ k1 =>
    have H:=HA.out;clear HA;simp only [railplanref13_Gap.l0] at H
    by_cases c18 : x13_1 ≤ t803
    ·rw [if_pos c18] at H
     have c18b0:=decide_eq_true c18;clear c18;replace H:=be_ H;obtain ⟨t809,A190,H⟩:=H;have A19:=am_ A190;clear A190;obtain ⟨ji20,hji20⟩ : ∃ j_ : Int,(mn x12_1 t809) = j_:=⟨_,rfl⟩;(first|rw [hji20] at H|simp only [hji20] at H);(try rw [hji20] at A19);have hji20_ : (if t809 < x12_1 then t809 else x12_1) = ji20:=hji20;have H':=am_ H;clear H;have hnb21:=NB800_801.out;have hnc21:=NB801_800.out;have hcz22_0:=cA_ BK800;have hfz22_0:=fA_ BK800;(go_wp2_with (first|((with_reducible refine gc_ (f:=66) rfl ?_);refine gl_ (some 50) Try.func66 #[.int .i64 (wrap64 ((wrap64 (x13_1 * a0_0)) - t805))] ?_;(with_reducible refine (railplanref13_abs.calls (wrap64 ((wrap64 (x13_1 * a0_0)) - t805)) t809 _ A19.out).mono ?_);rintro e w23 ⟨rfl,hb⟩;refine ⟨_,rfl,?_⟩;have n0_:=kb_ BK800 hb;have n1_:=kb_ BK801 hb;have n2_:=hb_ HB hb;revert n0_ n1_ n2_;clear BK800 BK801 HB;intro BK800 BK801 HB;(try clear hb);(try clear hb2);(try clear hk);(try clear hi))));(go_roundg k1)
     case measure => have:=HK1.out;omega
     case rel => exact ⟨(ji20),(wrap64 (x13_1 + 1)),(by first|rfl|(simp;done)|(simp only [← hji20] <;> (first|rfl|simp))|(simp [*];done)),(by first|rfl|(simp;done)|(simp [*];done)),H',⟨by have:=HK1.out;omega⟩,kk_ BK800,kk_ BK801,hh_ HB⟩
    ·rw [if_neg c18] at H;(have c18b0:=decide_eq_false c18;clear c18;simp only [Option.some.injEq,Prod.mk.injEq] at H;obtain ⟨rfl,rfl⟩:=H;(go_wp2);(go_ret2);(exact ⟨by first|rfl|(simp [errW_none,errW_some] <;> rfl)|(simp [*,errW_none,errW_some] <;> rfl),hB_ HB⟩))
 ·replace c4:=Bool.eq_false_iff.mpr c4;(subst c4;rw [if_neg (show ¬ (false = true) by decide)] at H;simp only [Option.some.injEq,Prod.mk.injEq] at H;obtain ⟨rfl,rfl⟩:=H;(go_enter Try.func50,Try.ntmps50);(go_wp2_with (first|((with_reducible refine gd_ (N:=2) rfl ?_);refine bx2_ 2 #[.int .i64 a0_0,.slice A0_1 l0_1.length c0_1,.slice A0_2 l0_2.length c0_2] 26 (fun gb800 hg w24 hbox hb => ?_);have n0_:=hb_ HB hb;have n1_:=am_ (hbox);have n2_ : Aside0 (w.heap.size ≤ gb800):=gz_ hg HB;have n3_ : Aside0 (w.heap.size ≤ gb800):=gz_ hg HB;revert n0_ n1_ n2_ n3_;clear HB;intro HB BK800 GW800 GE800;clear hb hbox hg)|((with_reducible refine gd_ (N:=3) rfl ?_);refine bx2_ 3 #[.slice A1_0 l1_0.length c1_0,.slice A1_1 l1_1.length c1_1] 32 (fun gb801 hg w25 hbox hb => ?_);have n0_:=kb_ BK800 hb;have n1_:=hb_ HB hb;have n2_:=am_ (hbox);have n3_ : Aside0 (w.heap.size ≤ gb801):=gz_ hg HB;have n4_ : Aside0 (w.heap.size ≤ gb801):=gz_ hg HB;have n5_:=nl_ hg BK800;have n6_:=ng_ hg BK800;revert n0_ n1_ n2_ n3_ n4_ n5_ n6_;clear BK800 HB;intro BK800 HB BK801 GW801 GE801 NB800_801 NB801_800;clear hb hbox hg;have hnb26:=NB800_801.out;have hnc26:=NB801_800.out;have hcz27_0:=cA_ BK800;have hfz27_0:=fA_ BK800;have hcz28_0:=cA_ BK801;have hfz28_0:=fA_ BK801)|((with_reducible refine gc_ (f:=49) rfl ?_);refine gl_ (some 17) Try.func49 #[.agg #[.int .i64 a0_0,.slice A0_1 l0_1.length c0_1,.slice A0_2 l0_2.length c0_2],.agg #[.slice A1_0 l1_0.length c1_0,.slice A1_1 l1_1.length c1_1]] ?_;(with_reducible refine (railplanref13_Windings.calls k a0_0 _ _ l0_1 _ _ l0_2 _ _ l1_0 _ _ l1_1 t802 t803 false _ (cr_ (CB_ HR0_1.out HB.out)) HC0_1.out (cr_ (CB_ HR0_2.out HB.out)) HC0_2.out (cr_ (CB_ HR1_0.out HB.out)) HC1_0.out (cr_ (CB_ HR1_1.out HB.out)) HC1_1.out A3.out).mono ?_);rintro e w29 ⟨rfl,hb⟩;refine ⟨_,rfl,?_⟩;have n0_:=kb_ BK800 hb;have n1_:=kb_ BK801 hb;have n2_:=hb_ HB hb;revert n0_ n1_ n2_;clear BK800 BK801 HB;intro BK800 BK801 HB;(try clear hb);(try clear hb2);(try clear hk);(try clear hi))));(go_ret2);(exact ⟨by first|rfl|(simp [errW_none,errW_some] <;> rfl)|(simp [*,errW_none,errW_some] <;> rfl),hB_ HB⟩))
end Go.Proofs.Ytgbcgbfoejkieaa.PAll
