-- Packed by wip/tools/pack.py of this session out of what plugprint.py and the kit's print wrote. Lean checks it.
import Derived.Test.YtgbcgbfoejkieaaGS
import Derived.Test.YtgbcgbfoejkieaaG17
import Derived.Test.YtgbcgbfoejkieaaG22
namespace Go.Proofs.Ytgbcgbfoejkieaa.PAll
open Go.RowKit Go.Proofs.YtgbcgbfoejkieaaW.PrintWords Go.Proofs.YtgbcgbfoejkieaaW.PrintLast Go.Proofs.YtgbcgbfoejkieaaW.PrintMore
attribute [local go_sem] max2_int min2_int max_two min_two max_three min_three max_four min_four
set_option linter.unusedVariables false
set_option linter.unusedSimpArgs false
/-! ### railplanref11_First: function 42 -/
def railplanref11_First.l0 : Nat → List Int → Int → Int → List (S60) → List (S62) → Option (Int × Bool)
 | 0,_,_,_,_,_ => none
 | k + 1,x1,x6,x579000,x579001,x579002 => if x6 < (x579002.length : Int) then (if 0 ≤ x6 then ((railplanref11_Lasts.f x579000 x579001 x579002 x1 ((rd_T62 x579002 x6).f0) ((rd_T62 x579002 x6).f1) ((rd_T62 x579002 x6).f2) ((rd_T62 x579002 x6).f3) ((rd_T62 x579002 x6).f4) ((rd_T62 x579002 x6).f5)).bind fun t581 => (if t581 > ((rd_T62 x579002 x6).f4) then (some (x6,true)) else (railplanref11_First.l0 k x1 (wrap64 (x6 + 1)) x579000 x579001 x579002))) else (none)) else (some (0,false))
def railplanref11_First.f (k : Nat) (a0_0 : Int) (l0_1 : List (S60)) (l0_2 : List (S62)) (l1 : List Int) : Option (Int × Bool):=(railplanref11_Good.f k a0_0 l0_1 l0_2 l1).bind fun t579 => (if t579 = true then (railplanref11_First.l0 k l1 0 a0_0 l0_1 l0_2) else (some (0,false)))
theorem railplanref11_First.mono_l : ∀ k,(∀ y0 y1 y2 y3 y4,LeO (railplanref11_First.l0 k y0 y1 y2 y3 y4) (railplanref11_First.l0 (k + 1) y0 y1 y2 y3 y4))
 | 0 => fun _ _ _ _ _ r h => by simp [railplanref11_First.l0] at h
 | k + 1 => by
  have ih0:=railplanref11_First.mono_l k
  ·intro y0 y1 y2 y3 y4
   unfold railplanref11_First.l0
   repeat' first
   | (with_reducible exact ih0 _ _ _ _ _)
   | (with_reducible exact railplanref11_Good.mono _ _ _ _ _)
   | (with_reducible exact LeO.refl _)
   | (with_reducible exact LeO.none _)
   | (with_reducible refine LeO.ite ?_ ?_)
   | (with_reducible refine LeO.bind ?_ (fun _ => ?_))
   | exact ih0 _ _ _ _ _
   | exact railplanref11_Good.mono _ _ _ _ _
   | exact LeO.none _
   | refine LeO.ite ?_ ?_
   | refine LeO.bind ?_ (fun _ => ?_)
theorem railplanref11_First.mono : ∀ a0 a1 a2 a3 k,LeO (railplanref11_First.f k a0 a1 a2 a3) (railplanref11_First.f (k + 1) a0 a1 a2 a3):=by
 intro a0 a1 a2 a3 k;have ih0:=railplanref11_First.mono_l k;(unfold railplanref11_First.f)
 repeat' first
   | (with_reducible exact ih0 _ _ _ _ _)
   | (with_reducible exact railplanref11_Good.mono _ _ _ _ _)
   | (with_reducible exact LeO.refl _)
   | (with_reducible exact LeO.none _)
   | (with_reducible refine LeO.ite ?_ ?_)
   | (with_reducible refine LeO.bind ?_ (fun _ => ?_))
   | exact ih0 _ _ _ _ _
   | exact railplanref11_Good.mono _ _ _ _ _
   | exact LeO.none _
   | refine LeO.ite ?_ ?_
   | refine LeO.bind ?_ (fun _ => ?_)
def railplanref11_First.T6 : Bool × List (List Nat × List Nat):=(true,[([],[]),([],[]),([],[]),([2],[2]),([],[]),([3,4],[3,4]),([5],[5]),([0,1,6],[0,1,6]),([],[]),([8],[8]),([],[]),([9,10],[9,10]),([11],[11]),([12],[12]),([7,13],[7,13])])
def railplanref11_First.B6 : List Nat:=[0,0,0,4,0,28,60,127,0,256,0,1792,3840,7936,16383]
theorem railplanref11_First.tab6 : rtab .any (opsOf Try.f42 6) = railplanref11_First.T6:=by kernel_rfl
theorem railplanref11_First.bits6 : waitsOk railplanref11_First.T6.2 railplanref11_First.B6 = true:=by kernel_rfl
set_option maxHeartbeats 8000000 in
set_option maxRecDepth 100000 in
theorem railplanref11_First.calls (k : Nat) (a0_0 : Int) (A0_1 : Option Addr) (c0_1 : Nat) (l0_1 : List (S60)) (A0_2 : Option Addr) (c0_2 : Nat) (l0_2 : List (S62)) (A1 : Option Addr) (c1 : Nat) (l1 : List Int) (r1 : Int) (r2 : Bool) (w : World) (hr0_1 : Kd.C k60 w A0_1 l0_1.length l0_1) (hc0_1 : l0_1.length ≤ c0_1) (hr0_2 : Kd.C k62 w A0_2 l0_2.length l0_2) (hc0_2 : l0_2.length ≤ c0_2) (hr1 : Kd.C (Kd.int .i64) w A1 l1.length l1) (hc1 : l1.length ≤ c1) (h : railplanref11_First.f k a0_0 l0_1 l0_2 l1 = some (r1,r2)) :
  Calls Try.prog 42 #[.agg #[.int .i64 a0_0,.slice A0_1 l0_1.length c0_1,.slice A0_2 l0_2.length c0_2],.slice A1 l1.length c1] w fun e w' => e = .returned (.tuple #[.int .i64 r1,.bool r2]) ∧ Below w.heap.size w w':=by
 have hu26:=Try.underlying26
 have hu62:=Try.underlying62
 have HR0_1:=am_ hr0_1
 have HC0_1:=am_ hc0_1
 clear hr0_1 hc0_1
 have HR0_2:=am_ hr0_2
 have HC0_2:=am_ hc0_2
 clear hr0_2 hc0_2
 have HR1:=am_ hr1
 have HC1:=am_ hc1
 clear hr1 hc1
 have HB:=am_ (Below.refl w.heap.size w)
 have H : ((railplanref11_Good.f k a0_0 l0_1 l0_2 l1).bind fun t579 => (if t579 = true then (railplanref11_First.l0 k l1 0 a0_0 l0_1 l0_2) else (some (0,false)))) = some (r1,r2):=h
 clear h
 replace H:=be_ H
 obtain ⟨t579,A30,H⟩:=H
 replace H : (if t579 = true then (railplanref11_First.l0 k l1 0 a0_0 l0_1 l0_2) else (some (0,false))) = some (r1,r2):=H
 have A3:=am_ A30
 clear A30
 by_cases c4 : t579 = true
 ·subst c4
  (have H1 : (railplanref11_First.l0 k l1 0 a0_0 l0_1 l0_2) = some (r1,r2):=by rw [if_pos rfl] at H;exact H);clear H;have H:=H1;clear H1;have H':=am_ H;clear H;(go_enter Try.func42,Try.ntmps42);(go_wp2_with (first|((with_reducible refine gd_ (N:=2) rfl ?_);refine bx2_ 2 #[.int .i64 a0_0,.slice A0_1 l0_1.length c0_1,.slice A0_2 l0_2.length c0_2] 26 (fun gb578 hg w5 hbox hb => ?_);have n0_:=hb_ HB hb;have n1_:=am_ (hbox);have n2_ : Aside0 (w.heap.size ≤ gb578):=gz_ hg HB;have n3_ : Aside0 (w.heap.size ≤ gb578):=gz_ hg HB;revert n0_ n1_ n2_ n3_;clear HB;intro HB BK578 GW578 GE578;clear hb hbox hg;have hcz6_0:=cA_ BK578;have hfz6_0:=fA_ BK578)|((with_reducible refine gc_ (f:=43) rfl ?_);refine gl_ (some 9) Try.func43 #[.agg #[.int .i64 a0_0,.slice A0_1 l0_1.length c0_1,.slice A0_2 l0_2.length c0_2],.slice A1 l1.length c1] ?_;(with_reducible refine (railplanref11_Good.calls k a0_0 _ _ l0_1 _ _ l0_2 _ _ l1 true _ (cr_ (CB_ HR0_1.out HB.out)) HC0_1.out (cr_ (CB_ HR0_2.out HB.out)) HC0_2.out (cr_ (CB_ HR1.out HB.out)) HC1.out A3.out).mono ?_);rintro e w7 ⟨rfl,hb⟩;refine ⟨_,rfl,?_⟩;have n0_:=kb_ BK578 hb;have n1_:=hb_ HB hb;revert n0_ n1_;clear BK578 HB;intro BK578 HB;(try clear hb);(try clear hb2);(try clear hk);(try clear hi))));(go_loopg [6] k (fun kq v6 w' => ∃ (x6_1 : Int),v6 = .int .i64 x6_1 ∧ Aside0 (railplanref11_First.l0 kq l1 x6_1 a0_0 l0_1 l0_2 = some (r1,r2)) ∧ Aside0 (kq ≤ k) ∧ Aside0 (w'.heap[gb578]? = some (.cells #[.int .i64 a0_0,(.slice A0_1 l0_1.length c0_1),(.slice A0_2 l0_2.length c0_2)] 26 (0,0))) ∧ Aside0 (Below w.heap.size w w')))
  case atStart => exact ⟨(0),(by first|rfl|(simp;done)|(simp [*];done)),H',⟨Nat.le_refl _⟩,kk_ BK578,hh_ HB⟩
  case round =>
   clear H';(try clear c1);(try clear p2);(try clear c4);(try clear hcz6_0);(try clear hfz6_0);obtain ⟨x6_1,rfl,HA,HK1,BK578,HB⟩:=hrel;cases gk with
   | zero => exact absurd HA.out (by simp [railplanref11_First.l0])
   | succ k1 =>
    have H:=HA.out;clear HA;simp only [railplanref11_First.l0] at H
    by_cases c8 : x6_1 < (l0_2.length : Int)
    ·rw [if_pos c8] at H
     have c8b0:=decide_eq_true c8;clear c8
     by_cases c9 : 0 ≤ x6_1
     ·rw [if_pos c9] at H
      have c9b0:=decide_eq_true c9;clear c9;replace H:=be_ H;obtain ⟨t581,A100,H⟩:=H;replace H : (if t581 > ((rd_T62 l0_2 x6_1).f4) then (some (x6_1,true)) else (railplanref11_First.l0 k1 l1 (wrap64 (x6_1 + 1)) a0_0 l0_1 l0_2)) = some (r1,r2):=H;have A10:=am_ A100;clear A100
      by_cases c11 : t581 > ((rd_T62 l0_2 x6_1).f4)
      ·rw [if_pos c11] at H
       have c11b0:=decide_eq_true c11;clear c11;simp only [Option.some.injEq,Prod.mk.injEq] at H;obtain ⟨rfl,rfl⟩:=H;have hcz12_0:=cA_ BK578;have hfz12_0:=fA_ BK578;(try go_wp2);have n0_:=am_ (kD_ BK578.out);have n1_:=am_ (b1_ HB.out)
       revert n0_ n1_
       clear BK578 HB;intro BK578 HB;have p580:=de_ (0 ≤ (x6_1 : Int));have q580:=de_ (x6_1 < (l0_2.length : Int));obtain ⟨ad580,e580,hx580_0,hx580_1,hx580_2,hx580_3,hx580_4,hx580_5⟩:=at_T62 HR0_2.out x6_1 p580 q580;have hw580_5:=hx580_5;have hw580_4:=hx580_4;have hw580_3:=hx580_3;have hw580_2:=hx580_2;have hw580_1:=hx580_1;have hw580_0:=hx580_0;cases e580;replace hx580_0:=cl_ HB hx580_0;replace hx580_1:=cl_ HB hx580_1;replace hx580_2:=cl_ HB hx580_2;replace hx580_3:=cl_ HB hx580_3;replace hx580_4:=cl_ HB hx580_4;replace hx580_5:=cl_ HB hx580_5;replace p580:=eq_true p580;replace q580:=eq_true q580;have p582:=de_ (0 ≤ (x6_1 : Int));have q582:=de_ (x6_1 < (l0_2.length : Int));obtain ⟨ad582,e582,hx582_0,hx582_1,hx582_2,hx582_3,hx582_4,hx582_5⟩:=at_T62 HR0_2.out x6_1 p582 q582;have hw582_5:=hx582_5;have hw582_4:=hx582_4;have hw582_3:=hx582_3;have hw582_2:=hx582_2;have hw582_1:=hx582_1;have hw582_0:=hx582_0;obtain rfl : ad580 = ad582:=(by injection e582);replace hx582_0:=cl_ HB hx582_0;replace hx582_1:=cl_ HB hx582_1;replace hx582_2:=cl_ HB hx582_2;replace hx582_3:=cl_ HB hx582_3;replace hx582_4:=cl_ HB hx582_4;replace hx582_5:=cl_ HB hx582_5;replace p582:=eq_true p582;replace q582:=eq_true q582;refine start_ (n:=15) (S:=fun w' => c_ w' gb578 0 (.int .i64 a0_0) ∧ c_ w' gb578 1 (.slice A0_1 l0_1.length c0_1) ∧ c_ w' gb578 2 (.slice (some ad580) l0_2.length c0_2) ∧ w'.cell? (ad580.add ((x6_1).toNat * 6)) = some (.int .i64 ((rd_T62 l0_2 x6_1).f0)) ∧ w'.cell? ⟨(ad580.add ((x6_1).toNat * 6)).block,(ad580.add ((x6_1).toNat * 6)).off + 1,none⟩ = some (.int .i64 ((rd_T62 l0_2 x6_1).f1)) ∧ w'.cell? ⟨(ad580.add ((x6_1).toNat * 6)).block,(ad580.add ((x6_1).toNat * 6)).off + 2,none⟩ = some (.int .i64 ((rd_T62 l0_2 x6_1).f2)) ∧ w'.cell? ⟨(ad580.add ((x6_1).toNat * 6)).block,(ad580.add ((x6_1).toNat * 6)).off + 3,none⟩ = some (.int .i64 ((rd_T62 l0_2 x6_1).f3)) ∧ w'.cell? ⟨(ad580.add ((x6_1).toNat * 6)).block,(ad580.add ((x6_1).toNat * 6)).off + 4,none⟩ = some (.int .i64 ((rd_T62 l0_2 x6_1).f4)) ∧ w'.cell? ⟨(ad580.add ((x6_1).toNat * 6)).block,(ad580.add ((x6_1).toNat * 6)).off + 5,none⟩ = some (.int .i64 ((rd_T62 l0_2 x6_1).f5)) ∧ w'.cell? (ad580.add ((x6_1).toNat * 6)) = some (.int .i64 ((rd_T62 l0_2 x6_1).f0)) ∧ w'.cell? ⟨(ad580.add ((x6_1).toNat * 6)).block,(ad580.add ((x6_1).toNat * 6)).off + 1,none⟩ = some (.int .i64 ((rd_T62 l0_2 x6_1).f1)) ∧ w'.cell? ⟨(ad580.add ((x6_1).toNat * 6)).block,(ad580.add ((x6_1).toNat * 6)).off + 2,none⟩ = some (.int .i64 ((rd_T62 l0_2 x6_1).f2)) ∧ w'.cell? ⟨(ad580.add ((x6_1).toNat * 6)).block,(ad580.add ((x6_1).toNat * 6)).off + 3,none⟩ = some (.int .i64 ((rd_T62 l0_2 x6_1).f3)) ∧ w'.cell? ⟨(ad580.add ((x6_1).toNat * 6)).block,(ad580.add ((x6_1).toNat * 6)).off + 4,none⟩ = some (.int .i64 ((rd_T62 l0_2 x6_1).f4)) ∧ w'.cell? ⟨(ad580.add ((x6_1).toNat * 6)).block,(ad580.add ((x6_1).toNat * 6)).off + 5,none⟩ = some (.int .i64 ((rd_T62 l0_2 x6_1).f5))) (ds:=[]) (bm 15 0) (by kernel_rfl) rfl rfl ⟨cq_ BK578 0,cq_ BK578 1,cq_ BK578 2,(cl_ HB hw580_0 :),(cl_ HB hw580_1 :),(cl_ HB hw580_2 :),(cl_ HB hw580_3 :),(cl_ HB hw580_4 :),(cl_ HB hw580_5 :),(cl_ HB hw582_0 :),(cl_ HB hw582_1 :),(cl_ HB hw582_2 :),(cl_ HB hw582_3 :),(cl_ HB hw582_4 :),(cl_ HB hw582_5 :)⟩ (fun hHeld => ?_);refine with_tabW railplanref11_First.tab6 railplanref11_First.bits6 (fun HT_ HW_ => ?_);generalize wr.drew = w13 at BK578 HB hx580_0 hx580_1 hx580_2 hx580_3 hx580_4 hx580_5 hx582_0 hx582_1 hx582_2 hx582_3 hx582_4 hx582_5 hHeld ⊢;refine pu_ 1 19 (bm 15 2) ?_;refine pu_ 2 20 (bm 15 6) ?_;refine pu_ 4 22 (bm 15 22) ?_;refine pu_ 8 26 (bm 15 278) ?_;refine pu_ 10 28 (bm 15 1302) ?_;refine ta_ 0 18 (bm 15 1303) ?_;refine ta_ 3 21 (bm 15 1311) ?_;refine pu_ 5 23 (bm 15 1343) ?_;refine ta_ 6 24 (bm 15 1407) ?_;refine ta_ 9 27 (bm 15 1919) ?_;refine pu_ 11 29 (bm 15 3967) ?_;refine pu_ 12 30 (bm 15 8063) ?_;refine ta_ 13 31 (bm 15 16255) ?_;refine on_ 7 25 (bm 15 16383) (fun K hK => ?_);refine gs_ Try.func39 #[.agg #[.int .i64 a0_0,.slice A0_1 l0_1.length c0_1,.slice (some ad580) l0_2.length c0_2],.slice A1 l1.length c1,.agg #[.int .i64 ((rd_T62 l0_2 x6_1).f0),.int .i64 ((rd_T62 l0_2 x6_1).f1),.int .i64 ((rd_T62 l0_2 x6_1).f2),.int .i64 ((rd_T62 l0_2 x6_1).f3),.int .i64 ((rd_T62 l0_2 x6_1).f4),.int .i64 ((rd_T62 l0_2 x6_1).f5)]] ?_;(with_reducible refine (railplanref11_Lasts.calls a0_0 _ _ l0_1 _ _ l0_2 _ _ l1 ((rd_T62 l0_2 x6_1).f0) ((rd_T62 l0_2 x6_1).f1) ((rd_T62 l0_2 x6_1).f2) ((rd_T62 l0_2 x6_1).f3) ((rd_T62 l0_2 x6_1).f4) ((rd_T62 l0_2 x6_1).f5) t581 _ (cr_ (CB_ HR0_1.out HB.out)) HC0_1.out (cr_ (CB_ HR0_2.out HB.out)) HC0_2.out (cr_ (CB_ HR1.out HB.out)) HC1.out A10.out).mono ?_);rintro e w14 ⟨rfl,hb⟩;refine ⟨_,rfl,?_⟩;have n0_:=kb_ BK578 hb;have n1_:=hb_ HB hb
       revert n0_ n1_
       clear BK578 HB;intro BK578 HB;(try clear hb);(try clear hb2);(try clear hk);(try clear hi);refine hK.out _ _ ⟨cq_ BK578 0,cq_ BK578 1,cq_ BK578 2,(cl_ HB hw580_0 :),(cl_ HB hw580_1 :),(cl_ HB hw580_2 :),(cl_ HB hw580_3 :),(cl_ HB hw580_4 :),(cl_ HB hw580_5 :),(cl_ HB hw582_0 :),(cl_ HB hw582_1 :),(cl_ HB hw582_2 :),(cl_ HB hw582_3 :),(cl_ HB hw582_4 :),(cl_ HB hw582_5 :)⟩ (fun hHeld => ?_);clear hK K;refine nm_ 25 ?_;refine pu_ 14 32 (bm 15 32767) ?_;refine done_ (done_of HT_.out (by kernel_rfl)) ?_;(try go_wp2);(go_ret2);(exact ⟨by first|rfl|(simp [errW_none,errW_some] <;> rfl)|(simp [*,errW_none,errW_some] <;> rfl),hB_ HB⟩)
      ·rw [if_neg c11] at H
       have c11b0:=decide_eq_false c11;clear c11;have H':=am_ H;clear H;have hcz15_0:=cA_ BK578;have hfz15_0:=fA_ BK578;(try go_wp2);have n0_:=am_ (kD_ BK578.out);have n1_:=am_ (b1_ HB.out)
       revert n0_ n1_
       clear BK578 HB;intro BK578 HB;have p580:=de_ (0 ≤ (x6_1 : Int));have q580:=de_ (x6_1 < (l0_2.length : Int));obtain ⟨ad580,e580,hx580_0,hx580_1,hx580_2,hx580_3,hx580_4,hx580_5⟩:=at_T62 HR0_2.out x6_1 p580 q580;have hw580_5:=hx580_5;have hw580_4:=hx580_4;have hw580_3:=hx580_3;have hw580_2:=hx580_2;have hw580_1:=hx580_1;have hw580_0:=hx580_0;cases e580;replace hx580_0:=cl_ HB hx580_0;replace hx580_1:=cl_ HB hx580_1;replace hx580_2:=cl_ HB hx580_2;replace hx580_3:=cl_ HB hx580_3;replace hx580_4:=cl_ HB hx580_4;replace hx580_5:=cl_ HB hx580_5;replace p580:=eq_true p580;replace q580:=eq_true q580;have p582:=de_ (0 ≤ (x6_1 : Int));have q582:=de_ (x6_1 < (l0_2.length : Int));obtain ⟨ad582,e582,hx582_0,hx582_1,hx582_2,hx582_3,hx582_4,hx582_5⟩:=at_T62 HR0_2.out x6_1 p582 q582;have hw582_5:=hx582_5;have hw582_4:=hx582_4;have hw582_3:=hx582_3;have hw582_2:=hx582_2;have hw582_1:=hx582_1;have hw582_0:=hx582_0;obtain rfl : ad580 = ad582:=(by injection e582);replace hx582_0:=cl_ HB hx582_0;replace hx582_1:=cl_ HB hx582_1;replace hx582_2:=cl_ HB hx582_2;replace hx582_3:=cl_ HB hx582_3;replace hx582_4:=cl_ HB hx582_4;replace hx582_5:=cl_ HB hx582_5;replace p582:=eq_true p582;replace q582:=eq_true q582;refine start_ (n:=15) (S:=fun w' => c_ w' gb578 0 (.int .i64 a0_0) ∧ c_ w' gb578 1 (.slice A0_1 l0_1.length c0_1) ∧ c_ w' gb578 2 (.slice (some ad580) l0_2.length c0_2) ∧ w'.cell? (ad580.add ((x6_1).toNat * 6)) = some (.int .i64 ((rd_T62 l0_2 x6_1).f0)) ∧ w'.cell? ⟨(ad580.add ((x6_1).toNat * 6)).block,(ad580.add ((x6_1).toNat * 6)).off + 1,none⟩ = some (.int .i64 ((rd_T62 l0_2 x6_1).f1)) ∧ w'.cell? ⟨(ad580.add ((x6_1).toNat * 6)).block,(ad580.add ((x6_1).toNat * 6)).off + 2,none⟩ = some (.int .i64 ((rd_T62 l0_2 x6_1).f2)) ∧ w'.cell? ⟨(ad580.add ((x6_1).toNat * 6)).block,(ad580.add ((x6_1).toNat * 6)).off + 3,none⟩ = some (.int .i64 ((rd_T62 l0_2 x6_1).f3)) ∧ w'.cell? ⟨(ad580.add ((x6_1).toNat * 6)).block,(ad580.add ((x6_1).toNat * 6)).off + 4,none⟩ = some (.int .i64 ((rd_T62 l0_2 x6_1).f4)) ∧ w'.cell? ⟨(ad580.add ((x6_1).toNat * 6)).block,(ad580.add ((x6_1).toNat * 6)).off + 5,none⟩ = some (.int .i64 ((rd_T62 l0_2 x6_1).f5)) ∧ w'.cell? (ad580.add ((x6_1).toNat * 6)) = some (.int .i64 ((rd_T62 l0_2 x6_1).f0)) ∧ w'.cell? ⟨(ad580.add ((x6_1).toNat * 6)).block,(ad580.add ((x6_1).toNat * 6)).off + 1,none⟩ = some (.int .i64 ((rd_T62 l0_2 x6_1).f1)) ∧ w'.cell? ⟨(ad580.add ((x6_1).toNat * 6)).block,(ad580.add ((x6_1).toNat * 6)).off + 2,none⟩ = some (.int .i64 ((rd_T62 l0_2 x6_1).f2)) ∧ w'.cell? ⟨(ad580.add ((x6_1).toNat * 6)).block,(ad580.add ((x6_1).toNat * 6)).off + 3,none⟩ = some (.int .i64 ((rd_T62 l0_2 x6_1).f3)) ∧ w'.cell? ⟨(ad580.add ((x6_1).toNat * 6)).block,(ad580.add ((x6_1).toNat * 6)).off + 4,none⟩ = some (.int .i64 ((rd_T62 l0_2 x6_1).f4)) ∧ w'.cell? ⟨(ad580.add ((x6_1).toNat * 6)).block,(ad580.add ((x6_1).toNat * 6)).off + 5,none⟩ = some (.int .i64 ((rd_T62 l0_2 x6_1).f5))) (ds:=[]) (bm 15 0) (by kernel_rfl) rfl rfl ⟨cq_ BK578 0,cq_ BK578 1,cq_ BK578 2,(cl_ HB hw580_0 :),(cl_ HB hw580_1 :),(cl_ HB hw580_2 :),(cl_ HB hw580_3 :),(cl_ HB hw580_4 :),(cl_ HB hw580_5 :),(cl_ HB hw582_0 :),(cl_ HB hw582_1 :),(cl_ HB hw582_2 :),(cl_ HB hw582_3 :),(cl_ HB hw582_4 :),(cl_ HB hw582_5 :)⟩ (fun hHeld => ?_);refine with_tabW railplanref11_First.tab6 railplanref11_First.bits6 (fun HT_ HW_ => ?_);generalize wr.drew = w16 at BK578 HB hx580_0 hx580_1 hx580_2 hx580_3 hx580_4 hx580_5 hx582_0 hx582_1 hx582_2 hx582_3 hx582_4 hx582_5 hHeld ⊢;refine pu_ 1 19 (bm 15 2) ?_;refine pu_ 2 20 (bm 15 6) ?_;refine pu_ 4 22 (bm 15 22) ?_;refine pu_ 8 26 (bm 15 278) ?_;refine pu_ 10 28 (bm 15 1302) ?_;refine ta_ 0 18 (bm 15 1303) ?_;refine ta_ 3 21 (bm 15 1311) ?_;refine pu_ 5 23 (bm 15 1343) ?_;refine ta_ 6 24 (bm 15 1407) ?_;refine ta_ 9 27 (bm 15 1919) ?_;refine pu_ 11 29 (bm 15 3967) ?_;refine pu_ 12 30 (bm 15 8063) ?_;refine ta_ 13 31 (bm 15 16255) ?_;refine on_ 7 25 (bm 15 16383) (fun K hK => ?_);refine gs_ Try.func39 #[.agg #[.int .i64 a0_0,.slice A0_1 l0_1.length c0_1,.slice (some ad580) l0_2.length c0_2],.slice A1 l1.length c1,.agg #[.int .i64 ((rd_T62 l0_2 x6_1).f0),.int .i64 ((rd_T62 l0_2 x6_1).f1),.int .i64 ((rd_T62 l0_2 x6_1).f2),.int .i64 ((rd_T62 l0_2 x6_1).f3),.int .i64 ((rd_T62 l0_2 x6_1).f4),.int .i64 ((rd_T62 l0_2 x6_1).f5)]] ?_;(with_reducible refine (railplanref11_Lasts.calls a0_0 _ _ l0_1 _ _ l0_2 _ _ l1 ((rd_T62 l0_2 x6_1).f0) ((rd_T62 l0_2 x6_1).f1) ((rd_T62 l0_2 x6_1).f2) ((rd_T62 l0_2 x6_1).f3) ((rd_T62 l0_2 x6_1).f4) ((rd_T62 l0_2 x6_1).f5) t581 _ (cr_ (CB_ HR0_1.out HB.out)) HC0_1.out (cr_ (CB_ HR0_2.out HB.out)) HC0_2.out (cr_ (CB_ HR1.out HB.out)) HC1.out A10.out).mono ?_);rintro e w17 ⟨rfl,hb⟩;refine ⟨_,rfl,?_⟩;have n0_:=kb_ BK578 hb;have n1_:=hb_ HB hb
       revert n0_ n1_
       clear BK578 HB;intro BK578 HB;(try clear hb);(try clear hb2);(try clear hk);(try clear hi);refine hK.out _ _ ⟨cq_ BK578 0,cq_ BK578 1,cq_ BK578 2,(cl_ HB hw580_0 :),(cl_ HB hw580_1 :),(cl_ HB hw580_2 :),(cl_ HB hw580_3 :),(cl_ HB hw580_4 :),(cl_ HB hw580_5 :),(cl_ HB hw582_0 :),(cl_ HB hw582_1 :),(cl_ HB hw582_2 :),(cl_ HB hw582_3 :),(cl_ HB hw582_4 :),(cl_ HB hw582_5 :)⟩ (fun hHeld => ?_);clear hK K;refine nm_ 25 ?_;refine pu_ 14 32 (bm 15 32767) ?_;refine done_ (done_of HT_.out (by kernel_rfl)) ?_;(try go_wp2);(go_roundg k1)
       case measure => have:=HK1.out;omega
       case rel => exact ⟨(wrap64 (x6_1 + 1)),(by first|rfl|(simp;done)|(simp [*];done)),H',⟨by have:=HK1.out;omega⟩,kk_ BK578,hh_ HB⟩
     ·rw [if_neg c9] at H;(simp at H)
    ·rw [if_neg c8] at H;(have c8b0:=decide_eq_false c8;clear c8;simp only [Option.some.injEq,Prod.mk.injEq] at H;obtain ⟨rfl,rfl⟩:=H;have hcz18_0:=cA_ BK578;have hfz18_0:=fA_ BK578;(go_wp2);(go_ret2);(exact ⟨by first|rfl|(simp [errW_none,errW_some] <;> rfl)|(simp [*,errW_none,errW_some] <;> rfl),hB_ HB⟩))
 ·replace c4:=Bool.eq_false_iff.mpr c4;(subst c4;(have H1 : (some (0,false)) = some (r1,r2):=by rw [if_neg (show ¬ (false = true) by decide)] at H;exact H);clear H;have H:=H1;clear H1;simp only [Option.some.injEq,Prod.mk.injEq] at H;obtain ⟨rfl,rfl⟩:=H;(go_enter Try.func42,Try.ntmps42);(go_wp2_with (first|((with_reducible refine gd_ (N:=2) rfl ?_);refine bx2_ 2 #[.int .i64 a0_0,.slice A0_1 l0_1.length c0_1,.slice A0_2 l0_2.length c0_2] 26 (fun gb578 hg w19 hbox hb => ?_);have n0_:=hb_ HB hb;have n1_:=am_ (hbox);have n2_ : Aside0 (w.heap.size ≤ gb578):=gz_ hg HB;have n3_ : Aside0 (w.heap.size ≤ gb578):=gz_ hg HB;revert n0_ n1_ n2_ n3_;clear HB;intro HB BK578 GW578 GE578;clear hb hbox hg;have hcz20_0:=cA_ BK578;have hfz20_0:=fA_ BK578)|((with_reducible refine gc_ (f:=43) rfl ?_);refine gl_ (some 9) Try.func43 #[.agg #[.int .i64 a0_0,.slice A0_1 l0_1.length c0_1,.slice A0_2 l0_2.length c0_2],.slice A1 l1.length c1] ?_;(with_reducible refine (railplanref11_Good.calls k a0_0 _ _ l0_1 _ _ l0_2 _ _ l1 false _ (cr_ (CB_ HR0_1.out HB.out)) HC0_1.out (cr_ (CB_ HR0_2.out HB.out)) HC0_2.out (cr_ (CB_ HR1.out HB.out)) HC1.out A3.out).mono ?_);rintro e w21 ⟨rfl,hb⟩;refine ⟨_,rfl,?_⟩;have n0_:=kb_ BK578 hb;have n1_:=hb_ HB hb;revert n0_ n1_;clear BK578 HB;intro BK578 HB;(try clear hb);(try clear hb2);(try clear hk);(try clear hi))));(go_ret2);(exact ⟨by first|rfl|(simp [errW_none,errW_some] <;> rfl)|(simp [*,errW_none,errW_some] <;> rfl),hB_ HB⟩))
end Go.Proofs.Ytgbcgbfoejkieaa.PAll
