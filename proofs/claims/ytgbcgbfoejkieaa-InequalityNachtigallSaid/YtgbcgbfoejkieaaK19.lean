-- Packed by wip/tools/pack.py of this session out of what plugprint.py and the kit's print wrote. Lean checks it.
import Derived.Test.YtgbcgbfoejkieaaKS
import Derived.Test.YtgbcgbfoejkieaaK0
namespace Go.Proofs.Ytgbcgbfoejkieaa.PAll
open Go.RowKit Go.Proofs.YtgbcgbfoejkieaaW.PrintWords Go.Proofs.YtgbcgbfoejkieaaW.PrintLast Go.Proofs.YtgbcgbfoejkieaaW.PrintMore
attribute [local go_sem] max2_int min2_int max_two min_two max_three min_three max_four min_four
set_option linter.unusedVariables false
set_option linter.unusedSimpArgs false
/-! ### railplankeep_Times: function 18 -/
def railplankeep_Times.l0 : Nat → List Int → Int → Int → Int → List (S60) → List (S62) → List Int → Int → Option (List Int)
 | 0,_,_,_,_,_,_,_,_ => none
 | k + 1,x6,x15,x16,x384000,x384001,x384002,x387000,x387001 => if x16 < x15 then ((railplankeep_Source_Next.f x387000 x387001 x384000).bind fun bt390 => (if 0 ≤ x16 then (if x16 < (x6.length : Int) then (railplankeep_Times.l0 k (x6.set (x16 : Int).toNat bt390.1) x15 (wrap64 (x16 + 1)) x384000 x384001 x384002 x387000 bt390.2) else (none)) else (none))) else (some x6)
def railplankeep_Times.f (k : Nat) (a0_0 : Int) (l0_1 : List (S60)) (l0_2 : List (S62)) (l1 : List Int) : Option (List Int):=(railplankeep_From.f l1).bind fun bt384 => (if 0 ≤ (l0_1.length : Int) then (if ((l0_1.length : Int) : Int).toNat ≤ 35184372088832 then ((some (List.replicate ((l0_1.length : Int) : Int).toNat 0 : List Int)).bind fun y387 => (railplankeep_Times.l0 k y387 (y387.length : Int) 0 a0_0 l0_1 l0_2 bt384.1 bt384.2)) else (none)) else (none))
theorem railplankeep_Times.mono_l : ∀ k,(∀ y0 y1 y2 y3 y4 y5 y6 y7,LeO (railplankeep_Times.l0 k y0 y1 y2 y3 y4 y5 y6 y7) (railplankeep_Times.l0 (k + 1) y0 y1 y2 y3 y4 y5 y6 y7))
 | 0 => fun _ _ _ _ _ _ _ _ r h => by simp [railplankeep_Times.l0] at h
 | k + 1 => by
  have ih0:=railplankeep_Times.mono_l k
  ·intro y0 y1 y2 y3 y4 y5 y6 y7
   unfold railplankeep_Times.l0
   repeat' first
   | (with_reducible exact ih0 _ _ _ _ _ _ _ _)
   | (with_reducible exact LeO.refl _)
   | (with_reducible exact LeO.none _)
   | (with_reducible refine LeO.ite ?_ ?_)
   | (with_reducible refine LeO.bind ?_ (fun _ => ?_))
   | exact ih0 _ _ _ _ _ _ _ _
   | exact LeO.none _
   | refine LeO.ite ?_ ?_
   | refine LeO.bind ?_ (fun _ => ?_)
theorem railplankeep_Times.mono : ∀ a0 a1 a2 a3 k,LeO (railplankeep_Times.f k a0 a1 a2 a3) (railplankeep_Times.f (k + 1) a0 a1 a2 a3):=by
 intro a0 a1 a2 a3 k;have ih0:=railplankeep_Times.mono_l k;(unfold railplankeep_Times.f)
 repeat' first
   | (with_reducible exact ih0 _ _ _ _ _ _ _ _)
   | (with_reducible exact LeO.refl _)
   | (with_reducible exact LeO.none _)
   | (with_reducible refine LeO.ite ?_ ?_)
   | (with_reducible refine LeO.bind ?_ (fun _ => ?_))
   | exact ih0 _ _ _ _ _ _ _ _
   | exact LeO.none _
   | refine LeO.ite ?_ ?_
   | refine LeO.bind ?_ (fun _ => ?_)
set_option maxHeartbeats 8000000 in
set_option maxRecDepth 100000 in
theorem railplankeep_Times.calls (k : Nat) (a0_0 : Int) (A0_1 : Option Addr) (c0_1 : Nat) (l0_1 : List (S60)) (A0_2 : Option Addr) (c0_2 : Nat) (l0_2 : List (S62)) (A1 : Option Addr) (c1 : Nat) (l1 : List Int) (r : List Int) (w : World) (hr0_1 : Kd.C k60 w A0_1 l0_1.length l0_1) (hc0_1 : l0_1.length ≤ c0_1) (hr0_2 : Kd.C k62 w A0_2 l0_2.length l0_2) (hc0_2 : l0_2.length ≤ c0_2) (hr1 : Kd.C (Kd.int .i64) w A1 l1.length l1) (hc1 : l1.length ≤ c1) (h : railplankeep_Times.f k a0_0 l0_1 l0_2 l1 = some r) :
  Calls Try.prog 18 #[.agg #[.int .i64 a0_0,.slice A0_1 l0_1.length c0_1,.slice A0_2 l0_2.length c0_2],.slice A1 l1.length c1] w fun e w' => ∃ v0_ : Value,e = .returned (v0_) ∧ Kd.R (Kd.int .i64) 3 w' w.heap.size (fun _ => True) v0_ r ∧ Below w.heap.size w w':=by
 have hu26:=Try.underlying26
 have HR0_1:=am_ hr0_1
 have HC0_1:=am_ hc0_1
 clear hr0_1 hc0_1
 have HR0_2:=am_ hr0_2
 have HC0_2:=am_ hc0_2
 clear hr0_2 hc0_2
 have HR1:=am_ hr1
 have HC1:=am_ hc1
 clear hr1 hc1
 have HB:=am_ (Below.refl w.heap.size w)
 have H : ((railplankeep_From.f l1).bind fun bt384 => (if 0 ≤ (l0_1.length : Int) then (if ((l0_1.length : Int) : Int).toNat ≤ 35184372088832 then ((some (List.replicate ((l0_1.length : Int) : Int).toNat 0 : List Int)).bind fun y387 => (railplankeep_Times.l0 k y387 (y387.length : Int) 0 a0_0 l0_1 l0_2 bt384.1 bt384.2)) else (none)) else (none))) = some r:=h
 clear h
 replace H:=be_ H
 obtain ⟨⟨t384,t385⟩,A30,H⟩:=H
 replace H : (if 0 ≤ (l0_1.length : Int) then (if ((l0_1.length : Int) : Int).toNat ≤ 35184372088832 then ((some (List.replicate ((l0_1.length : Int) : Int).toNat 0 : List Int)).bind fun y387 => (railplankeep_Times.l0 k y387 (y387.length : Int) 0 a0_0 l0_1 l0_2 t384 t385)) else (none)) else (none)) = some r:=H
 have A3:=am_ A30
 clear A30
 by_cases c4 : 0 ≤ (l0_1.length : Int)
 ·rw [if_pos c4] at H
  have c4b0:=eq_true c4;have c4b1:=decide_eq_true c4;clear c4
  by_cases c5 : ((l0_1.length : Int) : Int).toNat ≤ 35184372088832
  ·rw [if_pos c5] at H
   have c5b0:=eq_true c5;have c5b1:=decide_eq_true c5;clear c5;obtain ⟨y387,hy387⟩ : ∃ y_ : List Int,y_ = (List.replicate ((l0_1.length : Int) : Int).toNat 0):=⟨_,rfl⟩;(replace H : (railplankeep_Times.l0 k y387 (y387.length : Int) 0 a0_0 l0_1 l0_2 t384 t385) = some r:=by first|(rw [hy387];with_reducible exact H)|(have H2_:=(Option.bind_some _ _).symm.trans H;rw [hy387];with_reducible exact H2_)|(have H2_:=(Option.bind_some _ _).symm.trans H;with_reducible exact H2_)|with_reducible exact H|(rw [hy387];exact H)|exact H);have Ny387:=am_ hy387;clear hy387;have H':=am_ H;clear H;(go_enter Try.func18,Try.ntmps18);(go_wp2_with (first|((with_reducible refine gd_ (N:=2) rfl ?_);refine bx2_ 2 #[.int .i64 a0_0,.slice A0_1 l0_1.length c0_1,.slice A0_2 l0_2.length c0_2] 26 (fun gb383 hg w6 hbox hb => ?_);have n0_:=hb_ HB hb;have n1_:=am_ (hbox);have n2_ : Aside0 (w.heap.size ≤ gb383):=gz_ hg HB;have n3_ : Aside0 (w.heap.size ≤ gb383):=gz_ hg HB;revert n0_ n1_ n2_ n3_;clear HB;intro HB BK383 GW383 GE383;clear hb hbox hg)|((with_reducible refine gc_ (f:=32) rfl ?_);refine gl_ (some 9) Try.func32 #[.slice A1 l1.length c1] ?_;(with_reducible refine (railplankeep_From.calls _ _ l1 t384 t385 w _ ?side1 HR1.out HC1.out A3.out).mono ?_);(case side1 => repeat (first|(with_reducible first|exact HB.out|apply bA_|apply bN_|apply b1_|refine bS_ ?_ GE383.out)|exact HB.out));rintro e w7 ⟨g386,rfl,hi,hb,hb2⟩;refine ⟨_,rfl,?_⟩;have n0_:=am_ (kB_ (g:=gb383) (o:=.cells #[.int .i64 a0_0,.slice A0_1 l0_1.length c0_1,.slice A0_2 l0_2.length c0_2] 26 (0,0)) (ka_ BK383.out) hb2);have n1_:=am_ (hb);have n2_:=am_ (hi);have n3_:=am_ (IsS79.ne_blk hi (kB_ (g:=gb383) (o:=.cells #[.int .i64 a0_0,.slice A0_1 l0_1.length c0_1,.slice A0_2 l0_2.length c0_2] 26 (0,0)) (ka_ BK383.out) hb2) (by decide));have n4_:=am_ (Ne.symm (IsS79.ne_blk hi (kB_ (g:=gb383) (o:=.cells #[.int .i64 a0_0,.slice A0_1 l0_1.length c0_1,.slice A0_2 l0_2.length c0_2] 26 (0,0)) (ka_ BK383.out) hb2) (by decide)));revert n0_ n1_ n2_ n3_ n4_;clear BK383 HB;intro BK383 HB HI386 NB386_383 NB383_386;(try clear hb);(try clear hb2);(try clear hk);(try clear hi);have hnb8:=NB383_386.out;have hnc8:=NB386_383.out;have hcz9_0:=cA_ BK383;have hfz9_0:=fA_ BK383)|((with_reducible refine gd_ (N:=13) rfl ?_);refine Kd.R_make (Kd.int .i64) _ 3 rfl (N:=13) rfl 22 _ _ rfl (l0_1.length : Int) rfl rfl Try.underlying22 (.int .i64 0) 8 info3 rfl (by decide) (by omega) 0 (ok:=fun _ => True) (okp:=fun _ => True) rfl (fun _ hk => hk) trivial (of_decide_eq_true (by first|(with_reducible assumption)|assumption)) (Nat.le_trans (Nat.mul_le_mul_right _ (of_decide_eq_true (by first|(with_reducible assumption)|assumption) : (l0_1.length : Int).toNat ≤ 35184372088832)) (by omega)) (Below.refl _ _) (Nat.le_refl _) ?_;intro v388 w10 ho11 hb hg_ hnew_;clear hg_ hnew_;(first|rw [← Ny387.out] at ho11|(simp only [Int.reduceToNat] at ho11;rw [← Ny387.out] at ho11));have n0_:=am_ (RL_ ho11 (bz_ (by repeat (first|(with_reducible first|exact HB.out|apply bA_|apply bN_|apply b1_|refine bS_ ?_ (IsS79.ge HI386.out)|refine bS_ ?_ GE383.out)|exact HB.out))));have n1_:=kb_ BK383 hb;have n2_:=am_ (IsS79.below (by repeat (first|(with_reducible first|exact HI386.out|apply IsS79.alloc|apply IsS79.drewN|apply IsS79.drew|apply IsS79.set_1|refine IsS79.far ?_ NB386_383.out _)|exact HI386.out)) hb);have n3_:=am_ (bs_ (by repeat (first|(with_reducible first|exact HB.out|apply bA_|apply bN_|apply b1_|refine bS_ ?_ (IsS79.ge HI386.out)|refine bS_ ?_ GE383.out)|exact HB.out)) hb);revert n0_ n1_ n2_ n3_;clear BK383 HI386 HB;intro HO389 BK383 HI386 HB;clear hb ho11;obtain ⟨Ao12,co12,eo12⟩:=RS_ HO389.out;subst eo12)));(go_loopg [16] k (fun kq v16 w' => ∃ (x6_1 : List Int) (x16_1 : Int) (x387001_1 : Int),v16 = .int .i64 x16_1 ∧ Aside0 (railplankeep_Times.l0 kq x6_1 (y387.length : Int) x16_1 a0_0 l0_1 l0_2 t384 x387001_1 = some r) ∧ Aside0 (kq ≤ k) ∧ Aside0 (Kd.R (Kd.int .i64) 3 w' w.heap.size (fun _ => True) (.slice Ao12 y387.length co12) x6_1) ∧ Aside0 (w'.heap[gb383]? = some (.cells #[.int .i64 a0_0,(.slice A0_1 l0_1.length c0_1),(.slice A0_2 l0_2.length c0_2)] 26 (0,0))) ∧ Aside0 (IsS79 w w' g386 t384 x387001_1) ∧ Aside0 (Below w.heap.size w w')))
   case atStart => exact ⟨(y387),(0),(t385),(by first|rfl|(simp;done)|(simp [*];done)),H',⟨Nat.le_refl _⟩,rr_ HO389,kk_ BK383,⟨by repeat (first|(with_reducible first|exact HI386.out|apply IsS79.alloc|apply IsS79.drewN|apply IsS79.drew|apply IsS79.set_1|refine IsS79.far ?_ NB386_383.out _)|exact HI386.out)⟩,⟨by repeat (first|(with_reducible first|exact HB.out|apply bA_|apply bN_|apply b1_|refine bS_ ?_ (IsS79.ge HI386.out)|refine bS_ ?_ GE383.out)|exact HB.out)⟩⟩
   case round =>
    clear H';(try clear c1);(try clear p2);(try clear c3);(try clear c4);(try clear c4b0);(try clear c4b1);(try clear c5);(try clear c5b0);(try clear c5b1);(try clear c8);(try clear hcz9_0);(try clear hfz9_0);obtain ⟨x6_1,x16_1,x387001_1,rfl,HA,HK1,HO_6,BK383,HI386,HB⟩:=hrel;have hl6_1:=(RR_ HO_6.out).1;rw [hl6_1] at HO_6;(try simp only [hl6_1]);(try simp only [hl6_1] at BK383);cases gk with
    | zero => exact absurd HA.out (by simp [railplankeep_Times.l0])
    | succ k1 =>
     have H:=HA.out;clear HA;simp only [railplankeep_Times.l0] at H
     by_cases c13 : x16_1 < (y387.length : Int)
     ·rw [if_pos c13] at H
      have c13b0:=decide_eq_true c13;(try simp only [hl6_1] at c13b0);clear c13;replace H:=be_ H;obtain ⟨⟨t390,t391⟩,A140,H⟩:=H;replace H : (if 0 ≤ x16_1 then (if x16_1 < (x6_1.length : Int) then (railplankeep_Times.l0 k1 (x6_1.set (x16_1 : Int).toNat t390) (y387.length : Int) (wrap64 (x16_1 + 1)) a0_0 l0_1 l0_2 t384 t391) else (none)) else (none)) = some r:=H;have A14:=am_ A140;clear A140
      by_cases c15 : 0 ≤ x16_1
      ·rw [if_pos c15] at H
       have c15b0:=decide_eq_true c15;clear c15
       by_cases c16 : x16_1 < (x6_1.length : Int)
       ·rw [if_pos c16] at H
        have c16b0:=decide_eq_true c16;clear c16;obtain ⟨y392,hy392⟩ : ∃ y_ : List Int,y_ = (x6_1.set (x16_1 : Int).toNat t390):=⟨_,rfl⟩;(replace H : (railplankeep_Times.l0 k1 y392 (y387.length : Int) (wrap64 (x16_1 + 1)) a0_0 l0_1 l0_2 t384 t391) = some r:=by first|(rw [hy392];with_reducible exact H)|(have H2_:=(Option.bind_some _ _).symm.trans H;rw [hy392];with_reducible exact H2_)|(have H2_:=(Option.bind_some _ _).symm.trans H;with_reducible exact H2_)|with_reducible exact H|(rw [hy392];exact H)|exact H);have Ny392:=am_ hy392;clear hy392;have H':=am_ H;clear H;have hnb18:=NB383_386.out;have hnc18:=NB386_383.out;have hcz19_0:=cA_ BK383;have hfz19_0:=fA_ BK383;(go_wp2_with (first|((with_reducible refine gc_ (f:=33) rfl ?_);refine gl_ (some 24) Try.func33 #[.pointer (some ⟨g386,0,none⟩),.int .i64 a0_0] ?_;(with_reducible refine (railplankeep_Source_Next.calls g386 t384 x387001_1 a0_0 t390 t391 w _ ?side1 ?side2 A14.out).mono ?_);(case side1 => repeat (first|(with_reducible first|exact HI386.out|apply IsS79.alloc|apply IsS79.drewN|apply IsS79.drew|apply IsS79.set_1|refine IsS79.far ?_ NB386_383.out _)|exact HI386.out));(case side2 => repeat (first|(with_reducible first|exact HB.out|apply bA_|apply bN_|apply b1_|refine bS_ ?_ (IsS79.ge HI386.out)|refine bS_ ?_ GE383.out)|exact HB.out));rintro e w20 ⟨rfl,hi,hb,hk⟩;refine ⟨_,rfl,?_⟩;have n0_:=am_ (RM_ (Kd.R_keep (IsS79.apart (show IsS79 w _ g386 t384 x387001_1 from by repeat (first|(with_reducible first|exact HI386.out|apply IsS79.alloc|apply IsS79.drewN|apply IsS79.drew|apply IsS79.set_1|refine IsS79.far ?_ NB386_383.out _)|exact HI386.out)) (ra_ HO_6.out) (by decide)) hk (fun _ h => h.2)) (fun _ h => h.1));have n1_:=am_ (KeepBut.blk hk (g':=gb383) (o:=.cells #[.int .i64 a0_0,.slice A0_1 l0_1.length c0_1,.slice A0_2 l0_2.length c0_2] 26 (0,0)) (ka_ BK383.out) NB383_386.out (by simp));have n2_:=am_ (hb);have n3_:=am_ (hi);revert n0_ n1_ n2_ n3_;clear HO_6 BK383 HB HI386;intro HO_6 BK383 HB HI386;(try clear hb);(try clear hb2);(try clear hk);(try clear hi);have p17:=de_ (0 ≤ (x16_1 : Int));have q17:=de_ ((x16_1 : Int) < ((x6_1.length : Int) : Int));obtain ⟨go17,co17,eo17,gb17,gl17,cl17,HG17⟩:=Kd.R_form HO_6.out (by omega);(first|cases eo17|(injection eo17 with ea_ en_ ec_;(first|subst ea_|(injection ea_ with ea_;subst ea_));subst ec_;clear en_));have GB17:=am_ gb17;have GG17:=am_ HG17;clear gb17 gl17 HG17;obtain ⟨hx17_0,hf17_0⟩:=Kd.R_celln 0 HO_6.out (x16_1 : Int) p17 q17;replace p17:=eq_true p17;replace q17:=eq_true q17;obtain ⟨hy21_,hz21_⟩:=Kd.R_celln 0 HO_6.out (x16_1 : Int) (of_decide_eq_true (by first|(with_reducible assumption)|assumption)) (of_decide_eq_true (by first|(with_reducible assumption)|assumption));have HP21:=Kd.R_putg HO_6.out (x16_1 : Int) t390)|((with_reducible refine gate_store (t:=3) (p:=25) rfl ?_);refine store_event (t:=3) (p:=25) (v:=?vo_w22) (w1:=(w20.setCell ⟨go17,(x16_1 : Int).toNat,none⟩ (.int .i64 t390))) ?hg ?ho ?hn ?hr ?_;(case ho => rfl);(case hg => rfl);(case hn => rfl);(case hr => first|(go_simp;done)|(go_simp;rfl));intro w22 hw;have hg : w20.grownBy w22 (some go17):=(by rw [hw];exact HP21.2);have hp_ : Kd.R (Kd.int .i64) 3 w22 w.heap.size (fun _ => True) (.slice (some ⟨go17,0,none⟩) x6_1.length co12) y392:=(by rw [hw,Ny392.out];exact HP21.1);clear HP21;have n0_:=am_ (hp_);have n1_:=kg_ BK383 hg (Kd.R_ne HO_6.out BK383.out (by decide));have n2_:=am_ (IsS79.grown (show IsS79 w _ g386 t384 t391 from by repeat (first|(with_reducible first|exact HI386.out|apply IsS79.alloc|apply IsS79.drewN|apply IsS79.drew|apply IsS79.set_1|refine IsS79.far ?_ NB386_383.out _)|exact HI386.out)) hg (IsS79.own_ne HI386.out HO_6.out (by decide)));have n3_:=am_ ((by rw [hw];exact bS_ (HB.out) GB17.out : Below w.heap.size w w22));revert n0_ n1_ n2_ n3_;clear HO_6 BK383 HI386 HB;intro HO_6 BK383 HI386 HB;clear hg hw hp_)));(try simp only [← hl6_1]);(go_roundg k1)
        case measure => have:=HK1.out;omega
        case rel => exact ⟨(y392),(wrap64 (x16_1 + 1)),(t391),(by first|rfl|(simp;done)|(simp [*];done)),H',⟨by have:=HK1.out;omega⟩,⟨by (try simp only [hl6_1]);(with_reducible repeat (first|apply RA_|apply RN_|apply RD_));exact HO_6.out⟩,⟨by (try simp only [hl6_1]);(with_reducible repeat (first|refine kN_ ?_ _|refine kD_ ?_|refine kA_ ?_ _));exact BK383.out⟩,⟨by repeat (first|(with_reducible first|exact HI386.out|apply IsS79.alloc|apply IsS79.drewN|apply IsS79.drew|apply IsS79.set_1|refine IsS79.far ?_ NB386_383.out _)|exact HI386.out)⟩,⟨by repeat (first|(with_reducible first|exact HB.out|apply bA_|apply bN_|apply b1_|refine bS_ ?_ (IsS79.ge HI386.out)|refine bS_ ?_ GE383.out)|exact HB.out)⟩⟩
       ·rw [if_neg c16] at H;(simp at H)
      ·rw [if_neg c15] at H;(simp at H)
     ·rw [if_neg c13] at H;(have c13b0:=decide_eq_false c13;(try simp only [hl6_1] at c13b0);clear c13;obtain rfl:=Option.some.inj H;(go_wp2);(go_ret);(exact ⟨_,by first|rfl|(simp [errW_none,errW_some] <;> rfl)|(simp [*,errW_none,errW_some] <;> rfl),by (with_reducible repeat (first|apply RA_|apply RN_|apply RD_));exact HO_6.out,by repeat (first|(with_reducible first|exact HB.out|apply bA_|apply bN_|apply b1_|refine bS_ ?_ (IsS79.ge HI386.out)|refine bS_ ?_ GE383.out)|exact HB.out)⟩))
  ·rw [if_neg c5] at H;(simp at H)
 ·rw [if_neg c4] at H;(simp at H)
end Go.Proofs.Ytgbcgbfoejkieaa.PAll
