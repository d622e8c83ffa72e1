-- Packed by wip/tools/pack.py of this session out of what plugprint.py and the kit's print wrote. Lean checks it.
import Derived.Test.YtgbcgbfoejkieaaKS
import Derived.Test.YtgbcgbfoejkieaaK17
namespace Go.Proofs.Ytgbcgbfoejkieaa.PAll
open Go.RowKit Go.Proofs.YtgbcgbfoejkieaaW.PrintWords Go.Proofs.YtgbcgbfoejkieaaW.PrintLast Go.Proofs.YtgbcgbfoejkieaaW.PrintMore
attribute [local go_sem] max2_int min2_int max_two min_two max_three min_three max_four min_four
set_option linter.unusedVariables false
set_option linter.unusedSimpArgs false
/-! ### railplanlaw14_slacks: function 17 -/
def railplanlaw14_slacks.l0 : Nat → List Int → List Int → Int → Int → Int → List (S60) → List (S62) → Option (List Int)
 | 0,_,_,_,_,_,_,_ => none
 | k + 1,x1,x5,x9,x10,x377000,x377001,x377002 => if x10 < x9 then (if 0 ≤ x10 then (if x10 < (x377002.length : Int) then ((railplanref11_Lasts.f x377000 x377001 x377002 x1 ((rd_T62 x377002 x10).f0) ((rd_T62 x377002 x10).f1) ((rd_T62 x377002 x10).f2) ((rd_T62 x377002 x10).f3) ((rd_T62 x377002 x10).f4) ((rd_T62 x377002 x10).f5)).bind fun t378 => (if x5.length < 17592186044416 then (railplanlaw14_slacks.l0 k x1 (x5 ++ [wrap64 (t378 - ((rd_T62 x377002 x10).f3))]) x9 (wrap64 (x10 + 1)) x377000 x377001 x377002) else (none))) else (none)) else (none)) else (some x5)
def railplanlaw14_slacks.f (k : Nat) (a0_0 : Int) (l0_1 : List (S60)) (l0_2 : List (S62)) (l1 : List Int) : Option (List Int):=railplanlaw14_slacks.l0 k l1 ([] : List Int) (l0_2.length : Int) 0 a0_0 l0_1 l0_2
theorem railplanlaw14_slacks.mono_l : ∀ k,(∀ y0 y1 y2 y3 y4 y5 y6,LeO (railplanlaw14_slacks.l0 k y0 y1 y2 y3 y4 y5 y6) (railplanlaw14_slacks.l0 (k + 1) y0 y1 y2 y3 y4 y5 y6))
 | 0 => fun _ _ _ _ _ _ _ r h => by simp [railplanlaw14_slacks.l0] at h
 | k + 1 => by
  have ih0:=railplanlaw14_slacks.mono_l k
  ·intro y0 y1 y2 y3 y4 y5 y6
   unfold railplanlaw14_slacks.l0
   repeat' first
   | (with_reducible exact ih0 _ _ _ _ _ _ _)
   | (with_reducible exact LeO.refl _)
   | (with_reducible exact LeO.none _)
   | (with_reducible refine LeO.ite ?_ ?_)
   | (with_reducible refine LeO.bind ?_ (fun _ => ?_))
   | exact ih0 _ _ _ _ _ _ _
   | exact LeO.none _
   | refine LeO.ite ?_ ?_
   | refine LeO.bind ?_ (fun _ => ?_)
theorem railplanlaw14_slacks.mono : ∀ a0 a1 a2 a3 k,LeO (railplanlaw14_slacks.f k a0 a1 a2 a3) (railplanlaw14_slacks.f (k + 1) a0 a1 a2 a3):=by
 intro a0 a1 a2 a3 k;have ih0:=railplanlaw14_slacks.mono_l k;(unfold railplanlaw14_slacks.f)
 repeat' first
   | (with_reducible exact ih0 _ _ _ _ _ _ _)
   | (with_reducible exact LeO.refl _)
   | (with_reducible exact LeO.none _)
   | (with_reducible refine LeO.ite ?_ ?_)
   | (with_reducible refine LeO.bind ?_ (fun _ => ?_))
   | exact ih0 _ _ _ _ _ _ _
   | exact LeO.none _
   | refine LeO.ite ?_ ?_
   | refine LeO.bind ?_ (fun _ => ?_)
def railplanlaw14_slacks.T5 : Bool × List (List Nat × List Nat):=(true,[([],[]),([],[]),([],[]),([],[]),([3],[3]),([],[]),([4,5],[4,5]),([6],[6]),([1,2,7],[1,2,7]),([],[]),([9],[9]),([],[]),([10,11],[10,11]),([12],[12]),([13],[13]),([8,14],[8,14]),([15],[15]),([0,16,8],[0,16]),([17,17,0,1,2,3,4,5,6,7,8,9,10,11,12,13,14,15,16,17],[0,17])])
def railplanlaw14_slacks.B5 : List Nat:=[0,0,0,0,8,0,56,120,254,0,512,0,3584,7680,15872,32766,65534,131071,262143]
theorem railplanlaw14_slacks.tab5 : rtab .any (opsOf Try.f17 5) = railplanlaw14_slacks.T5:=by kernel_rfl
theorem railplanlaw14_slacks.bits5 : waitsOk railplanlaw14_slacks.T5.2 railplanlaw14_slacks.B5 = true:=by kernel_rfl
set_option maxHeartbeats 8000000 in
set_option maxRecDepth 100000 in
theorem railplanlaw14_slacks.calls (k : Nat) (a0_0 : Int) (A0_1 : Option Addr) (c0_1 : Nat) (l0_1 : List (S60)) (A0_2 : Option Addr) (c0_2 : Nat) (l0_2 : List (S62)) (A1 : Option Addr) (c1 : Nat) (l1 : List Int) (r : List Int) (w : World) (hr0_1 : Kd.C k60 w A0_1 l0_1.length l0_1) (hc0_1 : l0_1.length ≤ c0_1) (hr0_2 : Kd.C k62 w A0_2 l0_2.length l0_2) (hc0_2 : l0_2.length ≤ c0_2) (hr1 : Kd.C (Kd.int .i64) w A1 l1.length l1) (hc1 : l1.length ≤ c1) (h : railplanlaw14_slacks.f k a0_0 l0_1 l0_2 l1 = some r) :
  Calls Try.prog 17 #[.agg #[.int .i64 a0_0,.slice A0_1 l0_1.length c0_1,.slice A0_2 l0_2.length c0_2],.slice A1 l1.length c1] w fun e w' => ∃ v0_ : Value,e = .returned (v0_) ∧ Kd.R (Kd.int .i64) 3 w' w.heap.size (fun _ => True) v0_ r ∧ Below w.heap.size w w':=by
 have hu26:=Try.underlying26
 have hu62:=Try.underlying62
 have HR0_1:=am_ hr0_1
 have HC0_1:=am_ hc0_1
 clear hr0_1 hc0_1
 have HR0_2:=am_ hr0_2
 have HC0_2:=am_ hc0_2
 clear hr0_2 hc0_2
 have HR1:=am_ hr1
 have HC1:=am_ hc1
 clear hr1 hc1
 have HB:=am_ (Below.refl w.heap.size w)
 have H : (railplanlaw14_slacks.l0 k l1 ([] : List Int) (l0_2.length : Int) 0 a0_0 l0_1 l0_2) = some r:=h
 clear h
 have H':=am_ H
 clear H
 go_enter Try.func17,Try.ntmps17
 go_wp2_with (first|((with_reducible refine gd_ (N:=2) rfl ?_);refine bx2_ 2 #[.int .i64 a0_0,.slice A0_1 l0_1.length c0_1,.slice A0_2 l0_2.length c0_2] 26 (fun gb376 hg w3 hbox hb => ?_);have n0_:=hb_ HB hb;have n1_:=am_ (hbox);have n2_ : Aside0 (w.heap.size ≤ gb376):=gz_ hg HB;have n3_ : Aside0 (w.heap.size ≤ gb376):=gz_ hg HB;revert n0_ n1_ n2_ n3_;clear HB;intro HB BK376 GW376 GE376;clear hb hbox hg;have hcz4_0:=cA_ BK376;have hfz4_0:=fA_ BK376))
 go_loopg [5,10] k (fun kq v5 v10 w' => ∃ (x5_1 : List Int) (x10_1 : Int),v10 = .int .i64 x10_1 ∧ Aside0 (railplanlaw14_slacks.l0 kq l1 x5_1 (l0_2.length : Int) x10_1 a0_0 l0_1 l0_2 = some r) ∧ Aside0 (kq ≤ k) ∧ Aside0 (Kd.R (Kd.int .i64) 3 w' w.heap.size (fun _ => True) v5 x5_1) ∧ Aside0 (w'.heap[gb376]? = some (.cells #[.int .i64 a0_0,(.slice A0_1 l0_1.length c0_1),(.slice A0_2 l0_2.length c0_2)] 26 (0,0))) ∧ Aside0 (Below w.heap.size w w'))
 case atStart => exact ⟨(([] : List Int)),(0),(by first|rfl|(simp;done)|(simp [*];done)),H',⟨Nat.le_refl _⟩,⟨by first|exact Kd.R_nil _ _ _ _ _|exact Kd.N_nil _ _ _ _ _|exact Kd.V_nil _ _ _ _ _|exact Kd.Q_nil _ _ _ _ _|exact Kd.S_nil _ _ _ _ _⟩,kk_ BK376,hh_ HB⟩
 case round =>
  clear H';(try clear c1);(try clear p2);(try clear hcz4_0);(try clear hfz4_0);obtain ⟨x5_1,x10_1,rfl,HA,HK1,HO_5,BK376,HB⟩:=hrel;cases gk with
  | zero => exact absurd HA.out (by simp [railplanlaw14_slacks.l0])
  | succ k1 =>
   have H:=HA.out;clear HA;simp only [railplanlaw14_slacks.l0] at H
   by_cases c5 : x10_1 < (l0_2.length : Int)
   ·rw [if_pos c5] at H
    have c5b0:=decide_eq_true c5;clear c5
    by_cases c6 : 0 ≤ x10_1
    ·rw [if_pos c6] at H
     have c6b0:=decide_eq_true c6;clear c6
     by_cases c7 : x10_1 < (l0_2.length : Int)
     ·rw [if_pos c7] at H
      have c7b0:=decide_eq_true c7;clear c7;replace H:=be_ H;obtain ⟨t378,A80,H⟩:=H;replace H : (if x5_1.length < 17592186044416 then (railplanlaw14_slacks.l0 k1 l1 (x5_1 ++ [wrap64 (t378 - ((rd_T62 l0_2 x10_1).f3))]) (l0_2.length : Int) (wrap64 (x10_1 + 1)) a0_0 l0_1 l0_2) else (none)) = some r:=H;have A8:=am_ A80;clear A80
      by_cases c9 : x5_1.length < 17592186044416
      ·rw [if_pos c9] at H
       have LMc9:=am_ c9;clear c9;obtain ⟨y380,hy380⟩ : ∃ y_ : List Int,y_ = (x5_1 ++ [wrap64 (t378 - ((rd_T62 l0_2 x10_1).f3))]):=⟨_,rfl⟩;(replace H : (railplanlaw14_slacks.l0 k1 l1 y380 (l0_2.length : Int) (wrap64 (x10_1 + 1)) a0_0 l0_1 l0_2) = some r:=by first|(rw [hy380];with_reducible exact H)|(have H2_:=(Option.bind_some _ _).symm.trans H;rw [hy380];with_reducible exact H2_)|(have H2_:=(Option.bind_some _ _).symm.trans H;with_reducible exact H2_)|with_reducible exact H|(rw [hy380];exact H)|exact H);have Ny380:=am_ hy380;clear hy380;have H':=am_ H;clear H;(try go_wp2);have n0_:=am_ (RD_ HO_5.out);have n1_:=am_ (kD_ BK376.out);have n2_:=am_ (b1_ HB.out)
       revert n0_ n1_ n2_
       clear HO_5 BK376 HB;intro HO_5 BK376 HB;have p377:=de_ (0 ≤ (x10_1 : Int));have q377:=de_ (x10_1 < (l0_2.length : Int));obtain ⟨ad377,e377,hx377_0,hx377_1,hx377_2,hx377_3,hx377_4,hx377_5⟩:=at_T62 HR0_2.out x10_1 p377 q377;have hw377_5:=hx377_5;have hw377_4:=hx377_4;have hw377_3:=hx377_3;have hw377_2:=hx377_2;have hw377_1:=hx377_1;have hw377_0:=hx377_0;cases e377;replace hx377_0:=cl_ HB hx377_0;replace hx377_1:=cl_ HB hx377_1;replace hx377_2:=cl_ HB hx377_2;replace hx377_3:=cl_ HB hx377_3;replace hx377_4:=cl_ HB hx377_4;replace hx377_5:=cl_ HB hx377_5;replace p377:=eq_true p377;replace q377:=eq_true q377;have p379:=de_ (0 ≤ (x10_1 : Int));have q379:=de_ (x10_1 < (l0_2.length : Int));obtain ⟨ad379,e379,hx379_0,hx379_1,hx379_2,hx379_3,hx379_4,hx379_5⟩:=at_T62 HR0_2.out x10_1 p379 q379;have hw379_5:=hx379_5;have hw379_4:=hx379_4;have hw379_3:=hx379_3;have hw379_2:=hx379_2;have hw379_1:=hx379_1;have hw379_0:=hx379_0;obtain rfl : ad377 = ad379:=(by injection e379);replace hx379_0:=cl_ HB hx379_0;replace hx379_1:=cl_ HB hx379_1;replace hx379_2:=cl_ HB hx379_2;replace hx379_3:=cl_ HB hx379_3;replace hx379_4:=cl_ HB hx379_4;replace hx379_5:=cl_ HB hx379_5;replace p379:=eq_true p379;replace q379:=eq_true q379;refine start_ (n:=19) (S:=fun w' => c_ w' gb376 0 (.int .i64 a0_0) ∧ c_ w' gb376 1 (.slice A0_1 l0_1.length c0_1) ∧ c_ w' gb376 2 (.slice (some ad377) l0_2.length c0_2) ∧ w'.cell? (ad377.add ((x10_1).toNat * 6)) = some (.int .i64 ((rd_T62 l0_2 x10_1).f0)) ∧ w'.cell? ⟨(ad377.add ((x10_1).toNat * 6)).block,(ad377.add ((x10_1).toNat * 6)).off + 1,none⟩ = some (.int .i64 ((rd_T62 l0_2 x10_1).f1)) ∧ w'.cell? ⟨(ad377.add ((x10_1).toNat * 6)).block,(ad377.add ((x10_1).toNat * 6)).off + 2,none⟩ = some (.int .i64 ((rd_T62 l0_2 x10_1).f2)) ∧ w'.cell? ⟨(ad377.add ((x10_1).toNat * 6)).block,(ad377.add ((x10_1).toNat * 6)).off + 3,none⟩ = some (.int .i64 ((rd_T62 l0_2 x10_1).f3)) ∧ w'.cell? ⟨(ad377.add ((x10_1).toNat * 6)).block,(ad377.add ((x10_1).toNat * 6)).off + 4,none⟩ = some (.int .i64 ((rd_T62 l0_2 x10_1).f4)) ∧ w'.cell? ⟨(ad377.add ((x10_1).toNat * 6)).block,(ad377.add ((x10_1).toNat * 6)).off + 5,none⟩ = some (.int .i64 ((rd_T62 l0_2 x10_1).f5)) ∧ w'.cell? (ad377.add ((x10_1).toNat * 6)) = some (.int .i64 ((rd_T62 l0_2 x10_1).f0)) ∧ w'.cell? ⟨(ad377.add ((x10_1).toNat * 6)).block,(ad377.add ((x10_1).toNat * 6)).off + 1,none⟩ = some (.int .i64 ((rd_T62 l0_2 x10_1).f1)) ∧ w'.cell? ⟨(ad377.add ((x10_1).toNat * 6)).block,(ad377.add ((x10_1).toNat * 6)).off + 2,none⟩ = some (.int .i64 ((rd_T62 l0_2 x10_1).f2)) ∧ w'.cell? ⟨(ad377.add ((x10_1).toNat * 6)).block,(ad377.add ((x10_1).toNat * 6)).off + 3,none⟩ = some (.int .i64 ((rd_T62 l0_2 x10_1).f3)) ∧ w'.cell? ⟨(ad377.add ((x10_1).toNat * 6)).block,(ad377.add ((x10_1).toNat * 6)).off + 4,none⟩ = some (.int .i64 ((rd_T62 l0_2 x10_1).f4)) ∧ w'.cell? ⟨(ad377.add ((x10_1).toNat * 6)).block,(ad377.add ((x10_1).toNat * 6)).off + 5,none⟩ = some (.int .i64 ((rd_T62 l0_2 x10_1).f5))) (ds:=[]) (bm 19 0) (by kernel_rfl) rfl rfl ⟨cq_ BK376 0,cq_ BK376 1,cq_ BK376 2,(cl_ HB hw377_0 :),(cl_ HB hw377_1 :),(cl_ HB hw377_2 :),(cl_ HB hw377_3 :),(cl_ HB hw377_4 :),(cl_ HB hw377_5 :),(cl_ HB hw379_0 :),(cl_ HB hw379_1 :),(cl_ HB hw379_2 :),(cl_ HB hw379_3 :),(cl_ HB hw379_4 :),(cl_ HB hw379_5 :)⟩ (fun hHeld => ?_);refine with_tabW railplanlaw14_slacks.tab5 railplanlaw14_slacks.bits5 (fun HT_ HW_ => ?_);generalize wr.drew = w10 at HO_5 BK376 HB hx377_0 hx377_1 hx377_2 hx377_3 hx377_4 hx377_5 hx379_0 hx379_1 hx379_2 hx379_3 hx379_4 hx379_5 hHeld ⊢;refine pu_ 0 13 (bm 19 1) ?_;refine pu_ 2 15 (bm 19 5) ?_;refine pu_ 3 16 (bm 19 13) ?_;refine pu_ 5 18 (bm 19 45) ?_;refine pu_ 9 22 (bm 19 557) ?_;refine pu_ 11 24 (bm 19 2605) ?_;refine ta_ 1 14 (bm 19 2607) ?_;refine ta_ 4 17 (bm 19 2623) ?_;refine pu_ 6 19 (bm 19 2687) ?_;refine ta_ 7 20 (bm 19 2815) ?_;refine ta_ 10 23 (bm 19 3839) ?_;refine pu_ 12 25 (bm 19 7935) ?_;refine pu_ 13 26 (bm 19 16127) ?_;refine ta_ 14 27 (bm 19 32511) ?_;refine on_ 8 21 (bm 19 32767) (fun K hK => ?_);refine gs_ Try.func39 #[.agg #[.int .i64 a0_0,.slice A0_1 l0_1.length c0_1,.slice (some ad377) l0_2.length c0_2],.slice A1 l1.length c1,.agg #[.int .i64 ((rd_T62 l0_2 x10_1).f0),.int .i64 ((rd_T62 l0_2 x10_1).f1),.int .i64 ((rd_T62 l0_2 x10_1).f2),.int .i64 ((rd_T62 l0_2 x10_1).f3),.int .i64 ((rd_T62 l0_2 x10_1).f4),.int .i64 ((rd_T62 l0_2 x10_1).f5)]] ?_;(with_reducible refine (railplanref11_Lasts.calls a0_0 _ _ l0_1 _ _ l0_2 _ _ l1 ((rd_T62 l0_2 x10_1).f0) ((rd_T62 l0_2 x10_1).f1) ((rd_T62 l0_2 x10_1).f2) ((rd_T62 l0_2 x10_1).f3) ((rd_T62 l0_2 x10_1).f4) ((rd_T62 l0_2 x10_1).f5) t378 _ (cr_ (CB_ HR0_1.out HB.out)) HC0_1.out (cr_ (CB_ HR0_2.out HB.out)) HC0_2.out (cr_ (CB_ HR1.out HB.out)) HC1.out A8.out).mono ?_);rintro e w11 ⟨rfl,hb⟩;refine ⟨_,rfl,?_⟩;have n0_:=rb_ HO_5 hb;have n1_:=kb_ BK376 hb;have n2_:=hb_ HB hb
       revert n0_ n1_ n2_
       clear HO_5 BK376 HB;intro HO_5 BK376 HB;(try clear hb);refine hK.out _ _ ⟨cq_ BK376 0,cq_ BK376 1,cq_ BK376 2,(cl_ HB hw377_0 :),(cl_ HB hw377_1 :),(cl_ HB hw377_2 :),(cl_ HB hw377_3 :),(cl_ HB hw377_4 :),(cl_ HB hw377_5 :),(cl_ HB hw379_0 :),(cl_ HB hw379_1 :),(cl_ HB hw379_2 :),(cl_ HB hw379_3 :),(cl_ HB hw379_4 :),(cl_ HB hw379_5 :)⟩ (fun hHeld => ?_);clear hK K;refine nm_ 21 ?_;refine pu_ 15 28 (bm 19 65535) ?_;refine on_ 16 29 (bm 19 131071) (fun K hK => ?_);refine value_ (w1:=?_) (v:=?_) (by rfl) rfl ?_ ?_;rotate_left 2
       ·go_simp
        constructor
        (·rfl);(·rfl)
       refine hK.out _ _ ⟨(kC_ (kA_ BK376.out _) 0).trans rfl,(kC_ (kA_ BK376.out _) 1).trans rfl,(kC_ (kA_ BK376.out _) 2).trans rfl,(World.cell?_alloc_lt _ _ _ (wl_ _ _ ((cl_ HB hw377_0 :)))).trans ((cl_ HB hw377_0 :)),(World.cell?_alloc_lt _ _ _ (wl_ _ _ ((cl_ HB hw377_1 :)))).trans ((cl_ HB hw377_1 :)),(World.cell?_alloc_lt _ _ _ (wl_ _ _ ((cl_ HB hw377_2 :)))).trans ((cl_ HB hw377_2 :)),(World.cell?_alloc_lt _ _ _ (wl_ _ _ ((cl_ HB hw377_3 :)))).trans ((cl_ HB hw377_3 :)),(World.cell?_alloc_lt _ _ _ (wl_ _ _ ((cl_ HB hw377_4 :)))).trans ((cl_ HB hw377_4 :)),(World.cell?_alloc_lt _ _ _ (wl_ _ _ ((cl_ HB hw377_5 :)))).trans ((cl_ HB hw377_5 :)),(World.cell?_alloc_lt _ _ _ (wl_ _ _ ((cl_ HB hw379_0 :)))).trans ((cl_ HB hw379_0 :)),(World.cell?_alloc_lt _ _ _ (wl_ _ _ ((cl_ HB hw379_1 :)))).trans ((cl_ HB hw379_1 :)),(World.cell?_alloc_lt _ _ _ (wl_ _ _ ((cl_ HB hw379_2 :)))).trans ((cl_ HB hw379_2 :)),(World.cell?_alloc_lt _ _ _ (wl_ _ _ ((cl_ HB hw379_3 :)))).trans ((cl_ HB hw379_3 :)),(World.cell?_alloc_lt _ _ _ (wl_ _ _ ((cl_ HB hw379_4 :)))).trans ((cl_ HB hw379_4 :)),(World.cell?_alloc_lt _ _ _ (wl_ _ _ ((cl_ HB hw379_5 :)))).trans ((cl_ HB hw379_5 :))⟩ (fun hHeld => ?_);clear hK K;refine nm_ 29 ?_;refine on_ 17 30 (bm 19 262143) (fun K hK => ?_);refine Kd.R_append_step (Kd.int .i64) (w0:=w) w.heap.size (by rfl) (.tmp 13) (.tmp 29) 22 3 (.int .i64 0) 8 rfl Try.underlying22 info3 rfl (by decide) (by omega) u5 x5_1 (wrap64 (t378 - ((rd_T62 l0_2 x10_1).f3))) [.int .i64 (wrap64 (t378 - ((rd_T62 l0_2 x10_1).f3)))] (fun _ => True) (fun _ => False) rfl rfl ?aP (fun _ hk => hk.elim) ?aF ?aO ?aB ?aS ?aL ?_;(case aP => exact rfl);(case aB => exact (hB_ HB));(case aF => exact (fun _ _ => trivial));(case aO => exact (ra_ HO_5.out));(case aS => exact (bz_ (hB_ HB)));(case aL => have:=LMc9.out;omega);intro v381 w12 ho hb hg hat;rw [← Ny380.out] at ho;have n0_:=kg_ BK376 hg (Kd.R_ne HO_5.out BK376.out (by decide));have n1_:=am_ (hb);have n2_:=am_ (ho)
       revert n0_ n1_ n2_
       clear BK376 HB HO_5;intro BK376 HB HO382;clear ho hb hg hat;refine hK.out _ _ ⟨cq_ BK376 0,cq_ BK376 1,cq_ BK376 2,(cl_ HB hw377_0 :),(cl_ HB hw377_1 :),(cl_ HB hw377_2 :),(cl_ HB hw377_3 :),(cl_ HB hw377_4 :),(cl_ HB hw377_5 :),(cl_ HB hw379_0 :),(cl_ HB hw379_1 :),(cl_ HB hw379_2 :),(cl_ HB hw379_3 :),(cl_ HB hw379_4 :),(cl_ HB hw379_5 :)⟩ (fun hHeld => ?_);clear hK K;refine nm_ 30 ?_;refine pu_ 18 5 (bm 19 524287) ?_;refine done_ (done_of HT_.out (by kernel_rfl)) ?_;(try go_wp2);(go_roundg k1)
       case measure => have:=HK1.out;omega
       case rel => exact ⟨(y380),(wrap64 (x10_1 + 1)),(by first|rfl|(simp;done)|(simp [*];done)),H',⟨by have:=HK1.out;omega⟩,rr_ HO382,kk_ BK376,hh_ HB⟩
      ·rw [if_neg c9] at H;(simp at H)
     ·rw [if_neg c7] at H;(simp at H)
    ·rw [if_neg c6] at H;(simp at H)
   ·rw [if_neg c5] at H;(have c5b0:=decide_eq_false c5;clear c5;obtain rfl:=Option.some.inj H;(go_wp2);(go_ret);(exact ⟨_,by first|rfl|(simp [errW_none,errW_some] <;> rfl)|(simp [*,errW_none,errW_some] <;> rfl),by (with_reducible repeat (first|apply RA_|apply RN_|apply RD_));exact HO_5.out,hB_ HB⟩))
end Go.Proofs.Ytgbcgbfoejkieaa.PAll
