-- Packed by wip/tools/pack.py of this session out of what plugprint.py and the kit's print wrote. Lean checks it.
import Derived.Test.YtpclhbcflkncnaaAS
import Derived.Test.YtpclhbcflkncnaaA16
namespace Go.Proofs.Ytpclhbcflkncnaa.PAll
open Go.RowKit Go.Proofs.YtpclhbcflkncnaaW.PrintWords Go.Proofs.YtpclhbcflkncnaaW.PrintLast Go.Proofs.YtpclhbcflkncnaaW.PrintMore
attribute [local go_sem] max2_int min2_int max_two min_two max_three min_three max_four min_four
set_option linter.unusedVariables false
set_option linter.unusedSimpArgs false
/-! ### railplanref41_Find: function 24 -/
def railplanref41_Find.l0 : Nat → List (S28) → Int → Int → Int → Int → List Int → List Int → Option (Int)
 | 0,_,_,_,_,_,_,_ => none
 | k + 1,x0,x7,x8,x453000,x453001,x453002,x453003 => if x8 < x7 then (if 0 ≤ x8 then (if x8 < (x0.length : Int) then ((railplanref41_order.f k ((rd_T28 x0 x8).f0) ((rd_T28 x0 x8).f1) ((rd_T28 x0 x8).f2) ((rd_T28 x0 x8).f3) x453000 x453001 x453002 x453003).bind fun t454 => (if t454 = 0 then (some x8) else (railplanref41_Find.l0 k x0 x7 (wrap64 (x8 + 1)) x453000 x453001 x453002 x453003))) else (none)) else (none)) else (some (-1))
def railplanref41_Find.f (k : Nat) (l0 : List (S28)) (a1_0 : Int) (a1_1 : Int) (l1_2 : List Int) (l1_3 : List Int) : Option (Int):=railplanref41_Find.l0 k l0 (l0.length : Int) 0 a1_0 a1_1 l1_2 l1_3
theorem railplanref41_Find.mono_l : ∀ k,(∀ y0 y1 y2 y3 y4 y5 y6,LeO (railplanref41_Find.l0 k y0 y1 y2 y3 y4 y5 y6) (railplanref41_Find.l0 (k + 1) y0 y1 y2 y3 y4 y5 y6))
 | 0 => fun _ _ _ _ _ _ _ r h => by simp [railplanref41_Find.l0] at h
 | k + 1 => by
  have ih0:=railplanref41_Find.mono_l k
  ·intro y0 y1 y2 y3 y4 y5 y6
   unfold railplanref41_Find.l0
   repeat' first
   | (with_reducible exact ih0 _ _ _ _ _ _ _)
   | (with_reducible exact railplanref41_order.mono _ _ _ _ _ _ _ _ _)
   | (with_reducible exact LeO.refl _)
   | (with_reducible exact LeO.none _)
   | (with_reducible refine LeO.ite ?_ ?_)
   | (with_reducible refine LeO.bind ?_ (fun _ => ?_))
   | exact ih0 _ _ _ _ _ _ _
   | exact railplanref41_order.mono _ _ _ _ _ _ _ _ _
   | exact LeO.none _
   | refine LeO.ite ?_ ?_
   | refine LeO.bind ?_ (fun _ => ?_)
theorem railplanref41_Find.mono : ∀ a0 a1 a2 a3 a4 k,LeO (railplanref41_Find.f k a0 a1 a2 a3 a4) (railplanref41_Find.f (k + 1) a0 a1 a2 a3 a4):=by
 intro a0 a1 a2 a3 a4 k;have ih0:=railplanref41_Find.mono_l k;(unfold railplanref41_Find.f)
 repeat' first
   | (with_reducible exact ih0 _ _ _ _ _ _ _)
   | (with_reducible exact railplanref41_order.mono _ _ _ _ _ _ _ _ _)
   | (with_reducible exact LeO.refl _)
   | (with_reducible exact LeO.none _)
   | (with_reducible refine LeO.ite ?_ ?_)
   | (with_reducible refine LeO.bind ?_ (fun _ => ?_))
   | exact ih0 _ _ _ _ _ _ _
   | exact railplanref41_order.mono _ _ _ _ _ _ _ _ _
   | exact LeO.none _
   | refine LeO.ite ?_ ?_
   | refine LeO.bind ?_ (fun _ => ?_)
set_option maxHeartbeats 8000000 in
set_option maxRecDepth 100000 in
theorem railplanref41_Find.calls (k : Nat) (A0 : Option Addr) (c0 : Nat) (l0 : List (S28)) (a1_0 : Int) (a1_1 : Int) (A1_2 : Option Addr) (c1_2 : Nat) (l1_2 : List Int) (A1_3 : Option Addr) (c1_3 : Nat) (l1_3 : List Int) (r : Int) (w : World) (hr0 : Kd.C k28 w A0 l0.length l0) (hc0 : l0.length ≤ c0) (hr1_2 : Kd.C (Kd.int .i64) w A1_2 l1_2.length l1_2) (hc1_2 : l1_2.length ≤ c1_2) (hr1_3 : Kd.C (Kd.int .i64) w A1_3 l1_3.length l1_3) (hc1_3 : l1_3.length ≤ c1_3) (h : railplanref41_Find.f k l0 a1_0 a1_1 l1_2 l1_3 = some r) :
  Calls Try.prog 24 #[.slice A0 l0.length c0,.agg #[.int .i64 a1_0,.int .i64 a1_1,.slice A1_2 l1_2.length c1_2,.slice A1_3 l1_3.length c1_3]] w fun e w' => e = .returned (.int .i64 r) ∧ Below w.heap.size w w':=by
 have hu28:=Try.underlying28
 have HR0:=am_ hr0
 have HC0:=am_ hc0
 clear hr0 hc0
 have HR1_2:=am_ hr1_2
 have HC1_2:=am_ hc1_2
 clear hr1_2 hc1_2
 have HR1_3:=am_ hr1_3
 have HC1_3:=am_ hc1_3
 clear hr1_3 hc1_3
 have HB:=am_ (Below.refl w.heap.size w)
 have H : (railplanref41_Find.l0 k l0 (l0.length : Int) 0 a1_0 a1_1 l1_2 l1_3) = some r:=h
 clear h
 have H':=am_ H
 clear H
 go_enter Try.func24,Try.ntmps24
 go_wp2_with (first|((with_reducible refine gd_ (N:=3) rfl ?_);refine bx2_ 3 #[.int .i64 a1_0,.int .i64 a1_1,.slice A1_2 l1_2.length c1_2,.slice A1_3 l1_3.length c1_3] 28 (fun gb452 hg w3 hbox hb => ?_);have n0_:=hb_ HB hb;have n1_:=am_ (hbox);have n2_ : Aside0 (w.heap.size ≤ gb452):=gz_ hg HB;have n3_ : Aside0 (w.heap.size ≤ gb452):=gz_ hg HB;revert n0_ n1_ n2_ n3_;clear HB;intro HB BK452 GW452 GE452;clear hb hbox hg))
 go_loopg [8] k (fun kq v8 w' => ∃ (x8_1 : Int),v8 = .int .i64 x8_1 ∧ Aside0 (railplanref41_Find.l0 kq l0 (l0.length : Int) x8_1 a1_0 a1_1 l1_2 l1_3 = some r) ∧ Aside0 (kq ≤ k) ∧ Aside0 (w'.heap[gb452]? = some (.cells #[.int .i64 a1_0,.int .i64 a1_1,(.slice A1_2 l1_2.length c1_2),(.slice A1_3 l1_3.length c1_3)] 28 (0,0))) ∧ Aside0 (Below w.heap.size w w'))
 case atStart => exact ⟨(0),(by first|rfl|(simp;done)|(simp [*];done)),H',⟨Nat.le_refl _⟩,kk_ BK452,hh_ HB⟩
 case round =>
  clear H';(try clear c1);(try clear c2);(try clear p2);obtain ⟨x8_1,rfl,HA,HK1,BK452,HB⟩:=hrel;cases gk with
  | zero => exact absurd HA.out (by simp [railplanref41_Find.l0])
  | succ k1 =>
   have H:=HA.out;clear HA;simp only [railplanref41_Find.l0] at H
   by_cases c4 : x8_1 < (l0.length : Int)
   ·rw [if_pos c4] at H
    have c4b0:=decide_eq_true c4;clear c4
    by_cases c5 : 0 ≤ x8_1
    ·rw [if_pos c5] at H
     have c5b0:=decide_eq_true c5;clear c5
     by_cases c6 : x8_1 < (l0.length : Int)
     ·rw [if_pos c6] at H
      have c6b0:=decide_eq_true c6;clear c6;replace H:=be_ H;obtain ⟨t454,A70,H⟩:=H;have A7:=am_ A70;clear A70
      by_cases c8 : t454 = 0
      ·rw [if_pos c8] at H
       have c8b0 : (t454 == 0) = true:=beq_iff_eq.mpr c8;have c8b1 : (t454 != 0) = false:=bne_eq_false_iff_eq.mpr c8;clear c8;obtain rfl:=Option.some.inj H;(try go_wp2);have n0_:=am_ (kD_ BK452.out);have n1_:=am_ (b1_ HB.out)
       revert n0_ n1_
       clear BK452 HB;intro BK452 HB;have p453:=de_ (0 ≤ (x8_1 : Int));have q453:=de_ (x8_1 < (l0.length : Int));obtain ⟨ad453,A453_2,c453_2,A453_3,c453_3,e453,hx453_0,hx453_1,hx453_2,hx453_3,hl453_2,hi453_2,hl453_3,hi453_3⟩:=at_T28 HR0.out x8_1 p453 q453;have hw453_3:=hx453_3;have hw453_2:=hx453_2;have hw453_1:=hx453_1;have hw453_0:=hx453_0;cases e453;replace hx453_0:=cl_ HB hx453_0;replace hx453_1:=cl_ HB hx453_1;replace hx453_2:=cl_ HB hx453_2;replace hx453_3:=cl_ HB hx453_3;have HR453_2:=am_ hi453_2;have HC453_2:=am_ hl453_2;clear hi453_2 hl453_2;have HR453_3:=am_ hi453_3;have HC453_3:=am_ hl453_3;clear hi453_3 hl453_3;replace p453:=eq_true p453;replace q453:=eq_true q453;refine start_ (n:=7) (S:=fun w' => c_ w' gb452 0 (.int .i64 a1_0) ∧ c_ w' gb452 1 (.int .i64 a1_1) ∧ c_ w' gb452 2 (.slice A1_2 l1_2.length c1_2) ∧ c_ w' gb452 3 (.slice A1_3 l1_3.length c1_3) ∧ w'.cell? (ad453.add ((x8_1).toNat * 4)) = some (.int .i64 ((rd_T28 l0 x8_1).f0)) ∧ w'.cell? ⟨(ad453.add ((x8_1).toNat * 4)).block,(ad453.add ((x8_1).toNat * 4)).off + 1,none⟩ = some (.int .i64 ((rd_T28 l0 x8_1).f1)) ∧ w'.cell? ⟨(ad453.add ((x8_1).toNat * 4)).block,(ad453.add ((x8_1).toNat * 4)).off + 2,none⟩ = some (.slice A453_2 ((rd_T28 l0 x8_1).f2).length c453_2) ∧ w'.cell? ⟨(ad453.add ((x8_1).toNat * 4)).block,(ad453.add ((x8_1).toNat * 4)).off + 3,none⟩ = some (.slice A453_3 ((rd_T28 l0 x8_1).f3).length c453_3)) (ds:=[]) (bm 7 0) (by kernel_rfl) rfl rfl ⟨cq_ BK452 0,cq_ BK452 1,cq_ BK452 2,cq_ BK452 3,(cl_ HB hw453_0 :),(cl_ HB hw453_1 :),(cl_ HB hw453_2 :),(cl_ HB hw453_3 :)⟩ (fun hHeld => ?_);generalize wr.drew = w9 at BK452 HB HR453_2 HR453_3 hx453_0 hx453_1 hx453_2 hx453_3 hHeld ⊢;refine pw_ 0 11 (bm 7 1) ?_;refine pw_ 1 12 (bm 7 3) ?_;refine pw_ 2 13 (bm 7 7) ?_;refine take_ (i:=3) (N:=some 14) (v:=?_) (a':=?_) (bm 7 15) rfl rfl (by kernel_rfl) (fun _ _ _ h => h) (Or.inl ⟨by rfl,?_⟩) hHeld ?_ ?_;rotate_left;((·rintro w' ⟨s0,s1,s2,s3,s4,s5,s6,s7⟩;go_simp;(with_reducible rfl));rotate_left;((·simp only [Act.put,Lx_,Ly_,Lz_,i64_w,i32_w];rfl);refine take_ (i:=4) (N:=some 15) (v:=?_) (a':=?_) (bm 7 31) rfl rfl (by kernel_rfl) (fun _ _ _ h => h) (Or.inl ⟨by rfl,?_⟩) hHeld ?_ ?_;rotate_left));((·rintro w' ⟨s0,s1,s2,s3,s4,s5,s6,s7⟩;go_simp;(with_reducible rfl));rotate_left;((·simp only [Act.put,Lx_,Ly_,Lz_,i64_w,i32_w];rfl);refine one_ (i:=5) (N:=some 16) (bm 7 63) rfl rfl (by kernel_rfl) (by decide) (fun K hK => ?_);refine gs_ Try.func36 #[.agg #[.int .i64 ((rd_T28 l0 x8_1).f0),.int .i64 ((rd_T28 l0 x8_1).f1),.slice A453_2 ((rd_T28 l0 x8_1).f2).length c453_2,.slice A453_3 ((rd_T28 l0 x8_1).f3).length c453_3],.agg #[.int .i64 a1_0,.int .i64 a1_1,.slice A1_2 l1_2.length c1_2,.slice A1_3 l1_3.length c1_3]] ?_;(with_reducible refine (railplanref41_order.calls k1 ((rd_T28 l0 x8_1).f0) ((rd_T28 l0 x8_1).f1) _ _ ((rd_T28 l0 x8_1).f2) _ _ ((rd_T28 l0 x8_1).f3) a1_0 a1_1 _ _ l1_2 _ _ l1_3 t454 _ (cr_ (CB_ HR453_2.out HB.out)) HC453_2.out (cr_ (CB_ HR453_3.out HB.out)) HC453_3.out (cr_ (CB_ HR1_2.out HB.out)) HC1_2.out (cr_ (CB_ HR1_3.out HB.out)) HC1_3.out A7.out).mono ?_);rintro e w10 ⟨rfl,hb⟩;refine ⟨_,rfl,?_⟩;have n0_:=kb_ BK452 hb;have n1_:=hb_ HB hb))
       revert n0_ n1_
       clear BK452 HB;intro BK452 HB;(try clear hb);refine hK.out _ _ ⟨cq_ BK452 0,cq_ BK452 1,cq_ BK452 2,cq_ BK452 3,(cl_ HB hw453_0 :),(cl_ HB hw453_1 :),(cl_ HB hw453_2 :),(cl_ HB hw453_3 :)⟩ (fun hHeld => ?_);clear hK K;refine nm_ 16 ?_;refine pw_ 6 17 (bm 7 127) ?_;refine done_ (by kernel_rfl) ?_;(try go_wp2);(go_ret);(exact ⟨by first|rfl|(simp [errW_none,errW_some] <;> rfl)|(simp [*,errW_none,errW_some] <;> rfl),hB_ HB⟩)
      ·rw [if_neg c8] at H
       have c8b0 : (t454 == 0) = false:=beq_eq_false_iff_ne.mpr c8;have c8b1 : (t454 != 0) = true:=bne_iff_ne.mpr c8;have H':=am_ H;clear H;(try go_wp2);have n0_:=am_ (kD_ BK452.out);have n1_:=am_ (b1_ HB.out)
       revert n0_ n1_
       clear BK452 HB;intro BK452 HB;have p453:=de_ (0 ≤ (x8_1 : Int));have q453:=de_ (x8_1 < (l0.length : Int));obtain ⟨ad453,A453_2,c453_2,A453_3,c453_3,e453,hx453_0,hx453_1,hx453_2,hx453_3,hl453_2,hi453_2,hl453_3,hi453_3⟩:=at_T28 HR0.out x8_1 p453 q453;have hw453_3:=hx453_3;have hw453_2:=hx453_2;have hw453_1:=hx453_1;have hw453_0:=hx453_0;cases e453;replace hx453_0:=cl_ HB hx453_0;replace hx453_1:=cl_ HB hx453_1;replace hx453_2:=cl_ HB hx453_2;replace hx453_3:=cl_ HB hx453_3;have HR453_2:=am_ hi453_2;have HC453_2:=am_ hl453_2;clear hi453_2 hl453_2;have HR453_3:=am_ hi453_3;have HC453_3:=am_ hl453_3;clear hi453_3 hl453_3;replace p453:=eq_true p453;replace q453:=eq_true q453;refine start_ (n:=7) (S:=fun w' => c_ w' gb452 0 (.int .i64 a1_0) ∧ c_ w' gb452 1 (.int .i64 a1_1) ∧ c_ w' gb452 2 (.slice A1_2 l1_2.length c1_2) ∧ c_ w' gb452 3 (.slice A1_3 l1_3.length c1_3) ∧ w'.cell? (ad453.add ((x8_1).toNat * 4)) = some (.int .i64 ((rd_T28 l0 x8_1).f0)) ∧ w'.cell? ⟨(ad453.add ((x8_1).toNat * 4)).block,(ad453.add ((x8_1).toNat * 4)).off + 1,none⟩ = some (.int .i64 ((rd_T28 l0 x8_1).f1)) ∧ w'.cell? ⟨(ad453.add ((x8_1).toNat * 4)).block,(ad453.add ((x8_1).toNat * 4)).off + 2,none⟩ = some (.slice A453_2 ((rd_T28 l0 x8_1).f2).length c453_2) ∧ w'.cell? ⟨(ad453.add ((x8_1).toNat * 4)).block,(ad453.add ((x8_1).toNat * 4)).off + 3,none⟩ = some (.slice A453_3 ((rd_T28 l0 x8_1).f3).length c453_3)) (ds:=[]) (bm 7 0) (by kernel_rfl) rfl rfl ⟨cq_ BK452 0,cq_ BK452 1,cq_ BK452 2,cq_ BK452 3,(cl_ HB hw453_0 :),(cl_ HB hw453_1 :),(cl_ HB hw453_2 :),(cl_ HB hw453_3 :)⟩ (fun hHeld => ?_);generalize wr.drew = w11 at BK452 HB HR453_2 HR453_3 hx453_0 hx453_1 hx453_2 hx453_3 hHeld ⊢;refine pw_ 0 11 (bm 7 1) ?_;refine pw_ 1 12 (bm 7 3) ?_;refine pw_ 2 13 (bm 7 7) ?_;refine take_ (i:=3) (N:=some 14) (v:=?_) (a':=?_) (bm 7 15) rfl rfl (by kernel_rfl) (fun _ _ _ h => h) (Or.inl ⟨by rfl,?_⟩) hHeld ?_ ?_;rotate_left;((·rintro w' ⟨s0,s1,s2,s3,s4,s5,s6,s7⟩;go_simp;(with_reducible rfl));rotate_left;((·simp only [Act.put,Lx_,Ly_,Lz_,i64_w,i32_w];rfl);refine take_ (i:=4) (N:=some 15) (v:=?_) (a':=?_) (bm 7 31) rfl rfl (by kernel_rfl) (fun _ _ _ h => h) (Or.inl ⟨by rfl,?_⟩) hHeld ?_ ?_;rotate_left));((·rintro w' ⟨s0,s1,s2,s3,s4,s5,s6,s7⟩;go_simp;(with_reducible rfl));rotate_left;((·simp only [Act.put,Lx_,Ly_,Lz_,i64_w,i32_w];rfl);refine one_ (i:=5) (N:=some 16) (bm 7 63) rfl rfl (by kernel_rfl) (by decide) (fun K hK => ?_);refine gs_ Try.func36 #[.agg #[.int .i64 ((rd_T28 l0 x8_1).f0),.int .i64 ((rd_T28 l0 x8_1).f1),.slice A453_2 ((rd_T28 l0 x8_1).f2).length c453_2,.slice A453_3 ((rd_T28 l0 x8_1).f3).length c453_3],.agg #[.int .i64 a1_0,.int .i64 a1_1,.slice A1_2 l1_2.length c1_2,.slice A1_3 l1_3.length c1_3]] ?_;(with_reducible refine (railplanref41_order.calls k1 ((rd_T28 l0 x8_1).f0) ((rd_T28 l0 x8_1).f1) _ _ ((rd_T28 l0 x8_1).f2) _ _ ((rd_T28 l0 x8_1).f3) a1_0 a1_1 _ _ l1_2 _ _ l1_3 t454 _ (cr_ (CB_ HR453_2.out HB.out)) HC453_2.out (cr_ (CB_ HR453_3.out HB.out)) HC453_3.out (cr_ (CB_ HR1_2.out HB.out)) HC1_2.out (cr_ (CB_ HR1_3.out HB.out)) HC1_3.out A7.out).mono ?_);rintro e w12 ⟨rfl,hb⟩;refine ⟨_,rfl,?_⟩;have n0_:=kb_ BK452 hb;have n1_:=hb_ HB hb))
       revert n0_ n1_
       clear BK452 HB;intro BK452 HB;(try clear hb);refine hK.out _ _ ⟨cq_ BK452 0,cq_ BK452 1,cq_ BK452 2,cq_ BK452 3,(cl_ HB hw453_0 :),(cl_ HB hw453_1 :),(cl_ HB hw453_2 :),(cl_ HB hw453_3 :)⟩ (fun hHeld => ?_);clear hK K;refine nm_ 16 ?_;refine pw_ 6 17 (bm 7 127) ?_;refine done_ (by kernel_rfl) ?_;(try go_wp2);(go_roundg k1)
       case measure => have:=HK1.out;omega
       case rel => exact ⟨(wrap64 (x8_1 + 1)),(by first|rfl|(simp;done)|(simp [*];done)),H',⟨by have:=HK1.out;omega⟩,kk_ BK452,hh_ HB⟩
     ·rw [if_neg c6] at H;(simp at H)
    ·rw [if_neg c5] at H;(simp at H)
   ·rw [if_neg c4] at H;(have c4b0:=decide_eq_false c4;clear c4;obtain rfl:=Option.some.inj H;(go_wp2);(go_ret);(exact ⟨by first|rfl|(simp [errW_none,errW_some] <;> rfl)|(simp [*,errW_none,errW_some] <;> rfl),hB_ HB⟩))
end Go.Proofs.Ytpclhbcflkncnaa.PAll
