-- Packed by wip/tools/pack.py of this session out of what plugprint.py and the kit's print wrote. Lean checks it.
import Derived.Test.YtgbcgbfoejkieaaIS
import Derived.Test.YtgbcgbfoejkieaaI14
import Derived.Test.YtgbcgbfoejkieaaI33
import Derived.Test.YtgbcgbfoejkieaaI34
namespace Go.Proofs.Ytgbcgbfoejkieaa.PAll
open Go.RowKit Go.Proofs.YtgbcgbfoejkieaaW.PrintWords Go.Proofs.YtgbcgbfoejkieaaW.PrintLast Go.Proofs.YtgbcgbfoejkieaaW.PrintMore
attribute [local go_sem] max2_int min2_int max_two min_two max_three min_three max_four min_four
set_option linter.unusedVariables false
set_option linter.unusedSimpArgs false
/-! ### inequality_Gap: function 27 -/
def inequality_Gap.l0 : Nat → Int → Int → Int → Int → List Int → Int → Int → Int → List (S60) → List (S62) → Option (Int × Bool)
 | 0,_,_,_,_,_,_,_,_,_,_ => none
 | k + 1,x6,x7,x9,x12,x39,x40,x41,x630000,x630001,x630002 => if x41 < x40 then (if 0 ≤ x41 then (if x41 < (x39.length : Int) then (if x12 < 0 then (inequality_Gap.l0 k x6 x7 x9 (mx (wrap64 ((wrap64 ((mn (mx (rd x39 x41) x6) x7) * x630000)) - x9)) (wrap64 (-(wrap64 ((wrap64 ((mn (mx (rd x39 x41) x6) x7) * x630000)) - x9))))) x39 x40 (wrap64 (x41 + 1)) x630000 x630001 x630002) else (if (mx (wrap64 ((wrap64 ((mn (mx (rd x39 x41) x6) x7) * x630000)) - x9)) (wrap64 (-(wrap64 ((wrap64 ((mn (mx (rd x39 x41) x6) x7) * x630000)) - x9))))) < x12 then (inequality_Gap.l0 k x6 x7 x9 (mx (wrap64 ((wrap64 ((mn (mx (rd x39 x41) x6) x7) * x630000)) - x9)) (wrap64 (-(wrap64 ((wrap64 ((mn (mx (rd x39 x41) x6) x7) * x630000)) - x9))))) x39 x40 (wrap64 (x41 + 1)) x630000 x630001 x630002) else (inequality_Gap.l0 k x6 x7 x9 x12 x39 x40 (wrap64 (x41 + 1)) x630000 x630001 x630002))) else (none)) else (none)) else (some (x12,true))
def inequality_Gap.f (k : Nat) (a0_0 : Int) (l0_1 : List (S60)) (l0_2 : List (S62)) (l1_0 : List Int) (l1_1 : List Int) : Option (Int × Bool):=(inequality_Windings.f k a0_0 l0_1 l0_2 l1_0 l1_1).bind fun bt631 => (if bt631.2.2 = true then ((inequality_of.f k a0_0 l0_1 l0_2 l1_0 l1_1).bind fun bt634 => ((arith_FloorDiv.f bt634.1 a0_0).bind fun bt637 => ((some (([bt637.1,wrap64 (bt637.1 + 1)] : List Int) : List Int)).bind fun y639 => (inequality_Gap.l0 k bt631.1 bt631.2.1 bt634.1 (-1) y639 (y639.length : Int) 0 a0_0 l0_1 l0_2)))) else (some (0,false)))
theorem inequality_Gap.mono_l : ∀ k,(∀ y0 y1 y2 y3 y4 y5 y6 y7 y8 y9,LeO (inequality_Gap.l0 k y0 y1 y2 y3 y4 y5 y6 y7 y8 y9) (inequality_Gap.l0 (k + 1) y0 y1 y2 y3 y4 y5 y6 y7 y8 y9))
 | 0 => fun _ _ _ _ _ _ _ _ _ _ r h => by simp [inequality_Gap.l0] at h
 | k + 1 => by
  have ih0:=inequality_Gap.mono_l k
  ·intro y0 y1 y2 y3 y4 y5 y6 y7 y8 y9
   unfold inequality_Gap.l0
   repeat' first
   | (with_reducible exact ih0 _ _ _ _ _ _ _ _ _ _)
   | (with_reducible exact inequality_Windings.mono _ _ _ _ _ _)
   | (with_reducible exact inequality_of.mono _ _ _ _ _ _)
   | (with_reducible exact LeO.refl _)
   | (with_reducible exact LeO.none _)
   | (with_reducible refine LeO.ite ?_ ?_)
   | (with_reducible refine LeO.bind ?_ (fun _ => ?_))
   | exact ih0 _ _ _ _ _ _ _ _ _ _
   | exact inequality_Windings.mono _ _ _ _ _ _
   | exact inequality_of.mono _ _ _ _ _ _
   | exact LeO.none _
   | refine LeO.ite ?_ ?_
   | refine LeO.bind ?_ (fun _ => ?_)
theorem inequality_Gap.mono : ∀ a0 a1 a2 a3 a4 k,LeO (inequality_Gap.f k a0 a1 a2 a3 a4) (inequality_Gap.f (k + 1) a0 a1 a2 a3 a4):=by
 intro a0 a1 a2 a3 a4 k;have ih0:=inequality_Gap.mono_l k;(unfold inequality_Gap.f)
 repeat' first
   | (with_reducible exact ih0 _ _ _ _ _ _ _ _ _ _)
   | (with_reducible exact inequality_Windings.mono _ _ _ _ _ _)
   | (with_reducible exact inequality_of.mono _ _ _ _ _ _)
   | (with_reducible exact LeO.refl _)
   | (with_reducible exact LeO.none _)
   | (with_reducible refine LeO.ite ?_ ?_)
   | (with_reducible refine LeO.bind ?_ (fun _ => ?_))
   | exact ih0 _ _ _ _ _ _ _ _ _ _
   | exact inequality_Windings.mono _ _ _ _ _ _
   | exact inequality_of.mono _ _ _ _ _ _
   | exact LeO.none _
   | refine LeO.ite ?_ ?_
   | refine LeO.bind ?_ (fun _ => ?_)
attribute [local go_sem] Go.Instr.field Go.asAgg in
set_option maxHeartbeats 8000000 in
set_option maxRecDepth 100000 in
theorem inequality_Gap.calls (k : Nat) (a0_0 : Int) (A0_1 : Option Addr) (c0_1 : Nat) (l0_1 : List (S60)) (A0_2 : Option Addr) (c0_2 : Nat) (l0_2 : List (S62)) (A1_0 : Option Addr) (c1_0 : Nat) (l1_0 : List Int) (A1_1 : Option Addr) (c1_1 : Nat) (l1_1 : List Int) (r1 : Int) (r2 : Bool) (w : World) (hr0_1 : Kd.C k60 w A0_1 l0_1.length l0_1) (hc0_1 : l0_1.length ≤ c0_1) (hr0_2 : Kd.C k62 w A0_2 l0_2.length l0_2) (hc0_2 : l0_2.length ≤ c0_2) (hr1_0 : Kd.C (Kd.int .i64) w A1_0 l1_0.length l1_0) (hc1_0 : l1_0.length ≤ c1_0) (hr1_1 : Kd.C (Kd.int .i64) w A1_1 l1_1.length l1_1) (hc1_1 : l1_1.length ≤ c1_1) (h : inequality_Gap.f k a0_0 l0_1 l0_2 l1_0 l1_1 = some (r1,r2)) :
  Calls Try.prog 27 #[.agg #[.int .i64 a0_0,.slice A0_1 l0_1.length c0_1,.slice A0_2 l0_2.length c0_2],.agg #[.slice A1_0 l1_0.length c1_0,.slice A1_1 l1_1.length c1_1]] w fun e w' => e = .returned (.tuple #[.int .i64 r1,.bool r2]) ∧ Below w.heap.size w w':=by
 have hu75:=Try.underlying75
 have hu26:=Try.underlying26
 have hu32:=Try.underlying32
 have HR0_1:=am_ hr0_1
 have HC0_1:=am_ hc0_1
 clear hr0_1 hc0_1
 have HR0_2:=am_ hr0_2
 have HC0_2:=am_ hc0_2
 clear hr0_2 hc0_2
 have HR1_0:=am_ hr1_0
 have HC1_0:=am_ hc1_0
 clear hr1_0 hc1_0
 have HR1_1:=am_ hr1_1
 have HC1_1:=am_ hc1_1
 clear hr1_1 hc1_1
 have HB:=am_ (Below.refl w.heap.size w)
 have H : ((inequality_Windings.f k a0_0 l0_1 l0_2 l1_0 l1_1).bind fun bt631 => (if bt631.2.2 = true then ((inequality_of.f k a0_0 l0_1 l0_2 l1_0 l1_1).bind fun bt634 => ((arith_FloorDiv.f bt634.1 a0_0).bind fun bt637 => ((some (([bt637.1,wrap64 (bt637.1 + 1)] : List Int) : List Int)).bind fun y639 => (inequality_Gap.l0 k bt631.1 bt631.2.1 bt634.1 (-1) y639 (y639.length : Int) 0 a0_0 l0_1 l0_2)))) else (some (0,false)))) = some (r1,r2):=h
 clear h
 replace H:=be_ H
 obtain ⟨⟨t631,t632,t633⟩,A30,H⟩:=H
 (try dsimp only at H)
 have A3:=am_ A30
 clear A30
 by_cases c4 : t633 = true
 ·subst c4
  rw [if_pos rfl] at H;replace H:=be_ H;obtain ⟨⟨t634,t635,t636⟩,A50,H⟩:=H;(try dsimp only at H);have A5:=am_ A50;clear A50;replace H:=be_ H;obtain ⟨⟨t637,t638⟩,A60,H⟩:=H;(try dsimp only at H);have A6:=am_ A60;clear A60;obtain ⟨y639,hy639⟩ : ∃ y_ : List Int,y_ = (([t637,wrap64 (t637 + 1)] : List Int)):=⟨_,rfl⟩;replace H:=bsn_ H hy639;have Ny639:=am_ hy639;clear hy639;have H':=am_ H;clear H;(go_enter Try.func27,Try.ntmps27);(go_wp2_with (first|((with_reducible refine gd_ (N:=2) rfl ?_);refine bx2_ 2 #[.int .i64 a0_0,.slice A0_1 l0_1.length c0_1,.slice A0_2 l0_2.length c0_2] 26 (fun gb629 hg w7 hbox hb => ?_);have n0_:=hb_ HB hb;have n1_:=am_ (hbox);have n2_ : Aside0 (w.heap.size ≤ gb629):=gz_ hg HB;have n3_ : Aside0 (w.heap.size ≤ gb629):=gz_ hg HB;revert n0_ n1_ n2_ n3_;clear HB;intro HB BK629 GW629 GE629;clear hb hbox hg)|((with_reducible refine gd_ (N:=3) rfl ?_);refine bx2_ 3 #[.slice A1_0 l1_0.length c1_0,.slice A1_1 l1_1.length c1_1] 32 (fun gb630 hg w8 hbox hb => ?_);have n0_:=kb_ BK629 hb;have n1_:=hb_ HB hb;have n2_:=am_ (hbox);have n3_ : Aside0 (w.heap.size ≤ gb630):=gz_ hg HB;have n4_ : Aside0 (w.heap.size ≤ gb630):=gz_ hg HB;have n5_:=nl_ hg BK629;have n6_:=ng_ hg BK629;revert n0_ n1_ n2_ n3_ n4_ n5_ n6_;clear BK629 HB;intro BK629 HB BK630 GW630 GE630 NB629_630 NB630_629;clear hb hbox hg;have hnb9:=NB629_630.out;have hnc9:=NB630_629.out;have hcz10_0:=cA_ BK629;have hfz10_0:=fA_ BK629;have hcz11_0:=cA_ BK630;have hfz11_0:=fA_ BK630)|((with_reducible refine gc_ (f:=26) rfl ?_);refine gl_ (some 19) Try.func26 #[.agg #[.int .i64 a0_0,.slice A0_1 l0_1.length c0_1,.slice A0_2 l0_2.length c0_2],.agg #[.slice A1_0 l1_0.length c1_0,.slice A1_1 l1_1.length c1_1]] ?_;(with_reducible refine (inequality_Windings.calls k a0_0 _ _ l0_1 _ _ l0_2 _ _ l1_0 _ _ l1_1 t631 t632 true _ (cr_ (CB_ HR0_1.out HB.out)) HC0_1.out (cr_ (CB_ HR0_2.out HB.out)) HC0_2.out (cr_ (CB_ HR1_0.out HB.out)) HC1_0.out (cr_ (CB_ HR1_1.out HB.out)) HC1_1.out A3.out).mono ?_);rintro e w12 ⟨rfl,hb⟩;refine ⟨_,rfl,?_⟩;have n0_:=kb_ BK629 hb;have n1_:=kb_ BK630 hb;have n2_:=hb_ HB hb;revert n0_ n1_ n2_;clear BK629 BK630 HB;intro BK629 BK630 HB;(try clear hb);(try clear hb2);(try clear hk);(try clear hi);have hcz13_0:=cA_ BK629;have hfz13_0:=fA_ BK629;have hcz14_0:=cA_ BK630;have hfz14_0:=fA_ BK630)|((with_reducible refine gc_ (f:=45) rfl ?_);refine gl_ (some 27) Try.func45 #[.agg #[.int .i64 a0_0,.slice A0_1 l0_1.length c0_1,.slice A0_2 l0_2.length c0_2],.agg #[.slice A1_0 l1_0.length c1_0,.slice A1_1 l1_1.length c1_1]] ?_;(with_reducible refine (inequality_of.calls k a0_0 _ _ l0_1 _ _ l0_2 _ _ l1_0 _ _ l1_1 t634 t635 t636 _ (cr_ (CB_ HR0_1.out HB.out)) HC0_1.out (cr_ (CB_ HR0_2.out HB.out)) HC0_2.out (cr_ (CB_ HR1_0.out HB.out)) HC1_0.out (cr_ (CB_ HR1_1.out HB.out)) HC1_1.out A5.out).mono ?_);rintro e w15 ⟨rfl,hb⟩;refine ⟨_,rfl,?_⟩;have n0_:=kb_ BK629 hb;have n1_:=kb_ BK630 hb;have n2_:=hb_ HB hb;revert n0_ n1_ n2_;clear BK629 BK630 HB;intro BK629 BK630 HB;(try clear hb);(try clear hb2);(try clear hk);(try clear hi);have hcz16_0:=cA_ BK629;have hfz16_0:=fA_ BK629)|((with_reducible refine gc_ (f:=47) rfl ?_);refine gl_ (some 33) Try.func47 #[.int .i64 t634,.int .i64 a0_0] ?_;(with_reducible refine (arith_FloorDiv.calls t634 a0_0 t637 t638 _ A6.out).mono ?_);rintro e w' ⟨rfl,⟨nd,rfl⟩⟩;refine ⟨_,rfl,?_⟩)|((with_reducible refine gd_ (N:=39) rfl ?_);refine Kd.R_lit (Kd.int .i64) _ 3 ?hg (N:=39) ?hd (xs:=([t637,wrap64 (t637 + 1)] : List Int)) (inner:=[.int .i64 t637,.int .i64 (wrap64 (t637 + 1))]) (ok:=fun _ => True) (okp:=fun _ => True) ?hr ?hp (fun _ hk => hk) trivial (Below.refl _ _) (Nat.le_refl _) (by simp) ?_;(case hd => rfl);(case hg => rfl);(case hr => first|(go_simp;done)|(go_simp;rfl));(case hp => exact (Reps.one (show Kd.M (Kd.int .i64) _ _ _ t637 [.int .i64 t637] from rfl) (Reps.one (show Kd.M (Kd.int .i64) _ _ _ (wrap64 (t637 + 1)) [.int .i64 (wrap64 (t637 + 1))] from rfl) (Reps.none _ _))));intro v640 w17 ho18 hb hg_ hnew_;clear hg_ hnew_;(first|rw [← Ny639.out] at ho18|(simp only [Int.reduceToNat] at ho18;rw [← Ny639.out] at ho18));have n0_:=am_ (RL_ ho18 (bz_ (hB_ HB)));have n1_:=kb_ BK629 hb;have n2_:=kb_ BK630 hb;have n3_:=hb_ HB hb;revert n0_ n1_ n2_ n3_;clear BK629 BK630 HB;intro HO641 BK629 BK630 HB;clear hb ho18;obtain ⟨Ao19,co19,eo19⟩:=RS_ HO641.out;subst eo19)));(go_loopg [12,41] k (fun kq v12 v41 w' => ∃ (x12_1 : Int) (x41_1 : Int),v12 = .int .i64 x12_1 ∧ v41 = .int .i64 x41_1 ∧ Aside0 (inequality_Gap.l0 kq t631 t632 t634 x12_1 y639 (y639.length : Int) x41_1 a0_0 l0_1 l0_2 = some (r1,r2)) ∧ Aside0 (kq ≤ k) ∧ Aside0 (Kd.R (Kd.int .i64) 3 w' w.heap.size (fun _ => True) (.slice Ao19 y639.length co19) y639) ∧ Aside0 (w'.heap[gb629]? = some (.cells #[.int .i64 a0_0,(.slice A0_1 l0_1.length c0_1),(.slice A0_2 l0_2.length c0_2)] 26 (0,0))) ∧ Aside0 (w'.heap[gb630]? = some (.cells #[(.slice A1_0 l1_0.length c1_0),(.slice A1_1 l1_1.length c1_1)] 32 (0,0))) ∧ Aside0 (Below w.heap.size w w')))
  case atStart => exact ⟨((-1)),(0),(by first|rfl|(simp;done)|(simp [*];done)),(by first|rfl|(simp;done)|(simp [*];done)),H',⟨Nat.le_refl _⟩,rr_ HO641,kk_ BK629,kk_ BK630,hh_ HB⟩
  case round =>
   clear H';(try clear c1);(try clear c2);(try clear p2);(try clear c4);(try clear p6);(try clear c9);(try clear hcz10_0);(try clear hcz11_0);(try clear hcz13_0);(try clear hcz14_0);(try clear hcz16_0);(try clear hfz10_0);(try clear hfz11_0);(try clear hfz13_0);(try clear hfz14_0);(try clear hfz16_0);obtain ⟨x12_1,x41_1,rfl,rfl,HA,HK1,HO_39,BK629,BK630,HB⟩:=hrel;cases gk with
   | zero => exact absurd HA.out (by simp [inequality_Gap.l0])
   | succ k1 =>
    have H:=HA.out;clear HA;simp only [inequality_Gap.l0] at H
    by_cases c20 : x41_1 < (y639.length : Int)
    ·rw [if_pos c20] at H
     have c20b0:=decide_eq_true c20;clear c20
     by_cases c21 : 0 ≤ x41_1
     ·rw [if_pos c21] at H
      have c21b0:=decide_eq_true c21;clear c21
      by_cases c22 : x41_1 < (y639.length : Int)
      ·rw [if_pos c22] at H
       have c22b0:=decide_eq_true c22;clear c22;obtain ⟨ji23,hji23⟩ : ∃ j_ : Int,(mx (rd y639 x41_1) t631) = j_:=⟨_,rfl⟩;(first|rw [hji23] at H|simp only [hji23] at H);have hji23_ : (if (rd y639 x41_1) < t631 then t631 else (rd y639 x41_1)) = ji23:=hji23;obtain ⟨ji24,hji24⟩ : ∃ j_ : Int,(mn (ji23) t632) = j_:=⟨_,rfl⟩;(first|rw [hji24] at H|simp only [hji24] at H);have hji24_ : (if t632 < (ji23) then t632 else (ji23)) = ji24:=hji24;obtain ⟨ji25,hji25⟩ : ∃ j_ : Int,(mx (wrap64 ((wrap64 ((ji24) * a0_0)) - t634)) (wrap64 (-(wrap64 ((wrap64 ((ji24) * a0_0)) - t634))))) = j_:=⟨_,rfl⟩;(first|rw [hji25] at H|simp only [hji25] at H);have hji25_ : (if (wrap64 ((wrap64 ((ji24) * a0_0)) - t634)) < (wrap64 (-(wrap64 ((wrap64 ((ji24) * a0_0)) - t634)))) then (wrap64 (-(wrap64 ((wrap64 ((ji24) * a0_0)) - t634)))) else (wrap64 ((wrap64 ((ji24) * a0_0)) - t634))) = ji25:=hji25
       by_cases c26 : x12_1 < 0
       ·rw [if_pos c26] at H
        have c26b0:=decide_eq_true c26;clear c26;have H':=am_ H;clear H;have p642:=de_ (0 ≤ (x41_1 : Int));have q642:=de_ (x41_1 < (y639.length : Int));obtain ⟨ad642,e642,hx642_0⟩:=Kd.at_int (RR_ HO_39.out).2.2 x41_1 p642 q642;cases e642;replace p642:=eq_true p642;replace q642:=eq_true q642;have hnb27:=NB629_630.out;have hnc27:=NB630_629.out;have hcz28_0:=cA_ BK629;have hfz28_0:=fA_ BK629;(go_wp2);(go_roundg k1)
        case measure => have:=HK1.out;omega
        case rel => exact ⟨(ji25),(wrap64 (x41_1 + 1)),(by first|rfl|(simp;done)|(simp only [← hji25] <;> (first|rfl|simp))|(simp [*];done)),(by first|rfl|(simp;done)|(simp [*];done)),H',⟨by have:=HK1.out;omega⟩,rr_ HO_39,kk_ BK629,kk_ BK630,hh_ HB⟩
       ·rw [if_neg c26] at H
        have c26b0:=decide_eq_false c26;clear c26
        by_cases c29 : (ji25) < x12_1
        ·rw [if_pos c29] at H
         have c29b0:=decide_eq_true c29;clear c29;have H':=am_ H;clear H;have p642:=de_ (0 ≤ (x41_1 : Int));have q642:=de_ (x41_1 < (y639.length : Int));obtain ⟨ad642,e642,hx642_0⟩:=Kd.at_int (RR_ HO_39.out).2.2 x41_1 p642 q642;cases e642;replace p642:=eq_true p642;replace q642:=eq_true q642;have hnb30:=NB629_630.out;have hnc30:=NB630_629.out;have hcz31_0:=cA_ BK629;have hfz31_0:=fA_ BK629;(go_wp2);(go_roundg k1)
         case measure => have:=HK1.out;omega
         case rel => exact ⟨(ji25),(wrap64 (x41_1 + 1)),(by first|rfl|(simp;done)|(simp only [← hji25] <;> (first|rfl|simp))|(simp [*];done)),(by first|rfl|(simp;done)|(simp [*];done)),H',⟨by have:=HK1.out;omega⟩,rr_ HO_39,kk_ BK629,kk_ BK630,hh_ HB⟩
        ·rw [if_neg c29] at H
         have c29b0:=decide_eq_false c29;clear c29;have H':=am_ H;clear H;have p642:=de_ (0 ≤ (x41_1 : Int));have q642:=de_ (x41_1 < (y639.length : Int));obtain ⟨ad642,e642,hx642_0⟩:=Kd.at_int (RR_ HO_39.out).2.2 x41_1 p642 q642;cases e642;replace p642:=eq_true p642;replace q642:=eq_true q642;have hnb32:=NB629_630.out;have hnc32:=NB630_629.out;have hcz33_0:=cA_ BK629;have hfz33_0:=fA_ BK629;(go_wp2);(go_roundg k1)
         case measure => have:=HK1.out;omega
         case rel => exact ⟨(x12_1),(wrap64 (x41_1 + 1)),(by first|rfl|(simp;done)|(simp [*];done)),(by first|rfl|(simp;done)|(simp [*];done)),H',⟨by have:=HK1.out;omega⟩,rr_ HO_39,kk_ BK629,kk_ BK630,hh_ HB⟩
      ·rw [if_neg c22] at H;(simp at H)
     ·rw [if_neg c21] at H;(simp at H)
    ·rw [if_neg c20] at H;(have c20b0:=decide_eq_false c20;clear c20;simp only [Option.some.injEq,Prod.mk.injEq] at H;obtain ⟨rfl,rfl⟩:=H;(go_wp2);(go_ret2);(exact ⟨by first|rfl|(simp [errW_none,errW_some] <;> rfl)|(simp [*,errW_none,errW_some] <;> rfl),hB_ HB⟩))
 ·replace c4:=Bool.eq_false_iff.mpr c4;(subst c4;rw [if_neg (show ¬ (false = true) by decide)] at H;simp only [Option.some.injEq,Prod.mk.injEq] at H;obtain ⟨rfl,rfl⟩:=H;(go_enter Try.func27,Try.ntmps27);(go_wp2_with (first|((with_reducible refine gd_ (N:=2) rfl ?_);refine bx2_ 2 #[.int .i64 a0_0,.slice A0_1 l0_1.length c0_1,.slice A0_2 l0_2.length c0_2] 26 (fun gb629 hg w34 hbox hb => ?_);have n0_:=hb_ HB hb;have n1_:=am_ (hbox);have n2_ : Aside0 (w.heap.size ≤ gb629):=gz_ hg HB;have n3_ : Aside0 (w.heap.size ≤ gb629):=gz_ hg HB;revert n0_ n1_ n2_ n3_;clear HB;intro HB BK629 GW629 GE629;clear hb hbox hg)|((with_reducible refine gd_ (N:=3) rfl ?_);refine bx2_ 3 #[.slice A1_0 l1_0.length c1_0,.slice A1_1 l1_1.length c1_1] 32 (fun gb630 hg w35 hbox hb => ?_);have n0_:=kb_ BK629 hb;have n1_:=hb_ HB hb;have n2_:=am_ (hbox);have n3_ : Aside0 (w.heap.size ≤ gb630):=gz_ hg HB;have n4_ : Aside0 (w.heap.size ≤ gb630):=gz_ hg HB;have n5_:=nl_ hg BK629;have n6_:=ng_ hg BK629;revert n0_ n1_ n2_ n3_ n4_ n5_ n6_;clear BK629 HB;intro BK629 HB BK630 GW630 GE630 NB629_630 NB630_629;clear hb hbox hg;have hnb36:=NB629_630.out;have hnc36:=NB630_629.out;have hcz37_0:=cA_ BK629;have hfz37_0:=fA_ BK629;have hcz38_0:=cA_ BK630;have hfz38_0:=fA_ BK630)|((with_reducible refine gc_ (f:=26) rfl ?_);refine gl_ (some 19) Try.func26 #[.agg #[.int .i64 a0_0,.slice A0_1 l0_1.length c0_1,.slice A0_2 l0_2.length c0_2],.agg #[.slice A1_0 l1_0.length c1_0,.slice A1_1 l1_1.length c1_1]] ?_;(with_reducible refine (inequality_Windings.calls k a0_0 _ _ l0_1 _ _ l0_2 _ _ l1_0 _ _ l1_1 t631 t632 false _ (cr_ (CB_ HR0_1.out HB.out)) HC0_1.out (cr_ (CB_ HR0_2.out HB.out)) HC0_2.out (cr_ (CB_ HR1_0.out HB.out)) HC1_0.out (cr_ (CB_ HR1_1.out HB.out)) HC1_1.out A3.out).mono ?_);rintro e w39 ⟨rfl,hb⟩;refine ⟨_,rfl,?_⟩;have n0_:=kb_ BK629 hb;have n1_:=kb_ BK630 hb;have n2_:=hb_ HB hb;revert n0_ n1_ n2_;clear BK629 BK630 HB;intro BK629 BK630 HB;(try clear hb);(try clear hb2);(try clear hk);(try clear hi))));(go_ret2);(exact ⟨by first|rfl|(simp [errW_none,errW_some] <;> rfl)|(simp [*,errW_none,errW_some] <;> rfl),hB_ HB⟩))
end Go.Proofs.Ytgbcgbfoejkieaa.PAll
