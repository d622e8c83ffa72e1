-- Packed by wip/tools/pack.py of this session out of what plugprint.py and the kit's print wrote. Lean checks it.
import Derived.Test.YtgbcgbfoejkieaaES
import Derived.Test.YtgbcgbfoejkieaaE1
import Derived.Test.YtgbcgbfoejkieaaE10
import Derived.Test.YtgbcgbfoejkieaaE15
import Derived.Test.YtgbcgbfoejkieaaE20
import Derived.Test.YtgbcgbfoejkieaaE21
import Derived.Test.YtgbcgbfoejkieaaE27
namespace Go.Proofs.Ytgbcgbfoejkieaa.PAll
open Go.RowKit Go.Proofs.YtgbcgbfoejkieaaW.PrintWords Go.Proofs.YtgbcgbfoejkieaaW.PrintLast Go.Proofs.YtgbcgbfoejkieaaW.PrintMore
attribute [local go_sem] max2_int min2_int max_two min_two max_three min_three max_four min_four
set_option linter.unusedVariables false
set_option linter.unusedSimpArgs false
/-! ### railplanlaw14_InequalitySeparates: function 4 -/
def railplanlaw14_InequalitySeparates.j0 : Nat → List (S32) → List Int → Bool → Int → List (S60) → List (S62) → Option (Bool)
 | 0,_,_,_,_,_,_ => none
 | k + 1,x8,x9,x33,x520000,x520001,x520002 => if x33 = true then (if 1 ≤ (x9.length : Int) then ((some (x9.drop (1 : Int).toNat : List Int)).bind fun y526 => ((inequality_Separate.f k x520000 x520001 x520002 x8 y526).bind fun bt529 => ((railplanref13_Separate.f k x520000 x520001 x520002 x8 y526).bind fun bt532 => ((railplanlaw14_awake.f k).bind fun t535 => (if t535 = true then (if bt529.1 = bt532.1 then (if bt529.2.1 = bt532.2.1 then (some (bt529.2.2 == bt532.2.2)) else (none)) else (none)) else (none)))))) else (none)) else ((inequality_Separate.f k x520000 x520001 x520002 x8 x9).bind fun bt536 => ((railplanref13_Separate.f k x520000 x520001 x520002 x8 x9).bind fun bt539 => ((railplanlaw14_awake.f k).bind fun t542 => (if t542 = true then (if bt536.1 = bt539.1 then (if bt536.2.1 = bt539.2.1 then (some (bt536.2.2 == bt539.2.2)) else (none)) else (none)) else (none)))))
def railplanlaw14_InequalitySeparates.f (k : Nat) (l0 : List Int) (l1 : List Int) (a2 : Bool) : Option (Bool):=(railplankeep_Network.f k l0).bind fun bt512 => ((railplanlaw14_fundamental.f k bt512.1 bt512.2.1 bt512.2.2).bind fun t520 => ((railplanlaw14_list.f k l1 (bt512.2.2.length : Int) (wrap64 (Int.tdiv bt512.1 2))).bind fun t523 => (if a2 = true then (railplanlaw14_InequalitySeparates.j0 k t520 t523 (decide ((t523.length : Int) > 0)) bt512.1 bt512.2.1 bt512.2.2) else (railplanlaw14_InequalitySeparates.j0 k t520 t523 false bt512.1 bt512.2.1 bt512.2.2))))
theorem railplanlaw14_InequalitySeparates.mono_l : ∀ k,(∀ y0 y1 y2 y3 y4 y5,LeO (railplanlaw14_InequalitySeparates.j0 k y0 y1 y2 y3 y4 y5) (railplanlaw14_InequalitySeparates.j0 (k + 1) y0 y1 y2 y3 y4 y5))
 | 0 => fun _ _ _ _ _ _ r h => by simp [railplanlaw14_InequalitySeparates.j0] at h
 | k + 1 => by
  have ih0:=railplanlaw14_InequalitySeparates.mono_l k
  ·intro y0 y1 y2 y3 y4 y5
   unfold railplanlaw14_InequalitySeparates.j0
   repeat' first
   | (with_reducible exact ih0 _ _ _ _ _ _)
   | (with_reducible exact inequality_Separate.mono _ _ _ _ _ _)
   | (with_reducible exact railplankeep_Network.mono _ _)
   | (with_reducible exact railplanlaw14_awake.mono _)
   | (with_reducible exact railplanlaw14_fundamental.mono _ _ _ _)
   | (with_reducible exact railplanlaw14_list.mono _ _ _ _)
   | (with_reducible exact railplanref13_Separate.mono _ _ _ _ _ _)
   | (with_reducible exact LeO.refl _)
   | (with_reducible exact LeO.none _)
   | (with_reducible refine LeO.ite ?_ ?_)
   | (with_reducible refine LeO.bind ?_ (fun _ => ?_))
   | exact ih0 _ _ _ _ _ _
   | exact inequality_Separate.mono _ _ _ _ _ _
   | exact railplankeep_Network.mono _ _
   | exact railplanlaw14_awake.mono _
   | exact railplanlaw14_fundamental.mono _ _ _ _
   | exact railplanlaw14_list.mono _ _ _ _
   | exact railplanref13_Separate.mono _ _ _ _ _ _
   | exact LeO.none _
   | refine LeO.ite ?_ ?_
   | refine LeO.bind ?_ (fun _ => ?_)
theorem railplanlaw14_InequalitySeparates.mono : ∀ a0 a1 a2 k,LeO (railplanlaw14_InequalitySeparates.f k a0 a1 a2) (railplanlaw14_InequalitySeparates.f (k + 1) a0 a1 a2):=by
 intro a0 a1 a2 k;have ih0:=railplanlaw14_InequalitySeparates.mono_l k;(unfold railplanlaw14_InequalitySeparates.f)
 repeat' first
   | (with_reducible exact ih0 _ _ _ _ _ _)
   | (with_reducible exact inequality_Separate.mono _ _ _ _ _ _)
   | (with_reducible exact railplankeep_Network.mono _ _)
   | (with_reducible exact railplanlaw14_awake.mono _)
   | (with_reducible exact railplanlaw14_fundamental.mono _ _ _ _)
   | (with_reducible exact railplanlaw14_list.mono _ _ _ _)
   | (with_reducible exact railplanref13_Separate.mono _ _ _ _ _ _)
   | (with_reducible exact LeO.refl _)
   | (with_reducible exact LeO.none _)
   | (with_reducible refine LeO.ite ?_ ?_)
   | (with_reducible refine LeO.bind ?_ (fun _ => ?_))
   | exact ih0 _ _ _ _ _ _
   | exact inequality_Separate.mono _ _ _ _ _ _
   | exact railplankeep_Network.mono _ _
   | exact railplanlaw14_awake.mono _
   | exact railplanlaw14_fundamental.mono _ _ _ _
   | exact railplanlaw14_list.mono _ _ _ _
   | exact railplanref13_Separate.mono _ _ _ _ _ _
   | exact LeO.none _
   | refine LeO.ite ?_ ?_
   | refine LeO.bind ?_ (fun _ => ?_)
set_option maxHeartbeats 8000000 in
set_option maxRecDepth 100000 in
theorem railplanlaw14_InequalitySeparates.calls (k : Nat) (A0 : Option Addr) (c0 : Nat) (l0 : List Int) (A1 : Option Addr) (c1 : Nat) (l1 : List Int) (a2 : Bool) (r : Bool) (w : World) (hr0 : Kd.C (Kd.int .i64) w A0 l0.length l0) (hc0 : l0.length ≤ c0) (hr1 : Kd.C (Kd.int .i64) w A1 l1.length l1) (hc1 : l1.length ≤ c1) (h : railplanlaw14_InequalitySeparates.f k l0 l1 a2 = some r) :
  Calls Try.prog 4 #[.slice A0 l0.length c0,.slice A1 l1.length c1,.bool a2] w fun e w' => e = .returned (.bool r) ∧ Below w.heap.size w w':=by
 have hu26:=Try.underlying26
 have HR0:=am_ hr0
 have HC0:=am_ hc0
 clear hr0 hc0
 have HR1:=am_ hr1
 have HC1:=am_ hc1
 clear hr1 hc1
 have HB:=am_ (Below.refl w.heap.size w)
 have H : ((railplankeep_Network.f k l0).bind fun bt512 => ((railplanlaw14_fundamental.f k bt512.1 bt512.2.1 bt512.2.2).bind fun t520 => ((railplanlaw14_list.f k l1 (bt512.2.2.length : Int) (wrap64 (Int.tdiv bt512.1 2))).bind fun t523 => (if a2 = true then (railplanlaw14_InequalitySeparates.j0 k t520 t523 (decide ((t523.length : Int) > 0)) bt512.1 bt512.2.1 bt512.2.2) else (railplanlaw14_InequalitySeparates.j0 k t520 t523 false bt512.1 bt512.2.1 bt512.2.2))))) = some r:=h
 clear h
 replace H:=be_ H
 obtain ⟨⟨t512,t513,t516⟩,A40,H⟩:=H
 (try dsimp only at H)
 have A4:=am_ A40
 clear A40
 replace H:=be_ H
 obtain ⟨t520,A50,H⟩:=H
 have A5:=am_ A50
 clear A50
 replace H:=be_ H
 obtain ⟨t523,A60,H⟩:=H
 have A6:=am_ A60
 clear A60
 have HC7:=am_ H
 clear H
 go_enter Try.func4,Try.ntmps4
 go_upto_region 4 with (first|((with_reducible refine gc_ (f:=12) rfl ?_);refine gl_ (some 17) Try.func12 #[.slice A0 l0.length c0] ?_;(with_reducible refine (railplankeep_Network.calls k _ _ l0 t512 t513 t516 _ (cr_ HR0.out) HC0.out A4.out).mono ?_);rintro e w8 ⟨v514,v517,rfl,ho0,ho1,hb⟩;refine ⟨_,rfl,?_⟩;have n0_:=am_ (RL_ ho0 (bz_ (hB_ HB)));have n1_:=am_ (RL_ ho1 (bz_ (hB_ HB)));have n2_:=hb_ HB hb;revert n0_ n1_ n2_;clear HB;intro HO515 HO518 HB;(try clear hb);(try clear hb2);(try clear hk);(try clear hi);(try clear ho0);(try clear ho1))|((with_reducible refine gd_ (N:=7) rfl ?_);(try (refine gate_guard (by rfl) ?_;dsimp only));refine bx2_ 7 #[.int .i64 0,.slice none 0 0,.slice none 0 0] 26 (fun gb519 hg w9 hbox hb => ?_);have n0_:=rb_ HO515 hb;have n1_:=rb_ HO518 hb;have n2_:=hb_ HB hb;have n3_:=am_ (hbox);have n4_ : Aside0 (w.heap.size ≤ gb519):=gz_ hg HB;have n5_ : Aside0 (w.heap.size ≤ gb519):=gz_ hg HB;revert n0_ n1_ n2_ n3_ n4_ n5_;clear HO515 HO518 HB;intro HO515 HO518 HB BK519 GW519 GE519;clear hb hbox hg;have hcz10_0:=cA_ BK519;have hfz10_0:=fA_ BK519;obtain ⟨Ao11,co11,eo11⟩:=RS_ HO515.out;subst eo11;obtain ⟨Ao12,co12,eo12⟩:=RS_ HO518.out;subst eo12)|((with_reducible refine gc_ (f:=13) rfl ?_);refine gl_ (some 19) Try.func13 #[.agg #[.int .i64 t512,.slice Ao11 t513.length co11,.slice Ao12 t516.length co12]] ?_;(with_reducible refine (railplanlaw14_fundamental.calls k t512 _ _ t513 _ _ t516 t520 _ ?side1 (RR_ HO515.out).2.1 ?side3 (RR_ HO518.out).2.1 A5.out).mono ?_);(case side1 => refine (RR_ (e:=60) (base:=w.heap.size) (ok:=fun k_ => True) (n:=t513.length) (c:=co11) ?_).2.2;exact (ra_ (RM_ (rf_ 2 (rf_ 1 (rf_ 0 (rt_ HO515 BK519) (.int .i64 t512)) (.slice Ao11 t513.length co11)) (.slice Ao12 t516.length co12)) (fun _ h_ => h_.1))));(case side3 => refine (RR_ (e:=62) (base:=w.heap.size) (ok:=fun k_ => True) (n:=t516.length) (c:=co12) ?_).2.2;exact (ra_ (RM_ (rf_ 2 (rf_ 1 (rf_ 0 (rt_ HO518 BK519) (.int .i64 t512)) (.slice Ao11 t513.length co11)) (.slice Ao12 t516.length co12)) (fun _ h_ => h_.1))));rintro e w13 ⟨v521,rfl,ho0,hb⟩;refine ⟨_,rfl,?_⟩;have n0_:=am_ (RB_ (ra_ (RM_ (rf_ 2 (rf_ 1 (rf_ 0 (rt_ HO515 BK519) (.int .i64 t512)) (.slice Ao11 t513.length co11)) (.slice Ao12 t516.length co12)) (fun _ h_ => h_.1))) hb);have n1_:=am_ (RB_ (ra_ (RM_ (rf_ 2 (rf_ 1 (rf_ 0 (rt_ HO518 BK519) (.int .i64 t512)) (.slice Ao11 t513.length co11)) (.slice Ao12 t516.length co12)) (fun _ h_ => h_.1))) hb);have n2_:=am_ (Kd.S_lower ho0 (bz_ (hB_ HB)));have n3_:=am_ (kB_ (g:=gb519) (o:=.cells #[.int .i64 t512,.slice Ao11 t513.length co11,.slice Ao12 t516.length co12] 26 (0,0)) (by (with_reducible repeat (first|refine kN_ ?_ _|refine kD_ ?_|refine kA_ ?_ _));refine blk_put (cs:=#[.int .i64 t512,.slice Ao11 t513.length co11,.slice none 0 0]) ?_ 2 _ rfl;refine blk_put (cs:=#[.int .i64 t512,.slice none 0 0,.slice none 0 0]) ?_ 1 _ rfl;refine blk_put (cs:=#[.int .i64 0,.slice none 0 0,.slice none 0 0]) ?_ 0 _ rfl;(with_reducible repeat (first|refine kN_ ?_ _|refine kD_ ?_|refine kA_ ?_ _));exact BK519.out) hb);have n4_:=hb_ HB hb;revert n0_ n1_ n2_ n3_ n4_;clear HO515 HO518 BK519 HB;intro HO515 HO518 HO522 BK519 HB;(try clear hb);(try clear hb2);(try clear hk);(try clear hi);(try clear ho0);have hcz14_0:=cA_ BK519;have hfz14_0:=fA_ BK519)|((with_reducible refine gc_ (f:=20) rfl ?_);refine gl_ (some 27) Try.func20 #[.slice A1 l1.length c1,.int .i64 (t516.length : Int),.int .i64 (wrap64 (Int.tdiv t512 2))] ?_;(with_reducible refine (railplanlaw14_list.calls k _ _ l1 (t516.length : Int) (wrap64 (Int.tdiv t512 2)) t523 _ (cr_ (CB_ HR1.out HB.out)) HC1.out A6.out).mono ?_);rintro e w15 ⟨v524,rfl,ho0,hb⟩;refine ⟨_,rfl,?_⟩;have n0_:=rb_ HO515 hb;have n1_:=rb_ HO518 hb;have n2_:=am_ (Kd.S_elder' (by (with_reducible repeat (first|apply Kd.S_alloc|apply Kd.S_drewN|apply Kd.S_drew));exact HO522.out) (Kd.R_base ho0) hb);have n3_:=am_ (RL_ ho0 (bz_ (hB_ HB)));have n4_:=kb_ BK519 hb;have n5_:=hb_ HB hb;revert n0_ n1_ n2_ n3_ n4_ n5_;clear HO515 HO518 HO522 BK519 HB;intro HO515 HO518 HO522 HO525 BK519 HB;(try clear hb);(try clear hb2);(try clear hk);(try clear hi);(try clear ho0)))
 (try simp only [Act.put,Lx_,Ly_,Lz_])
 go_cut [33] (fun v33 wc => ∃ (kq : Nat) (x33_6 : Bool),v33 = .bool x33_6 ∧ Aside0 (railplanlaw14_InequalitySeparates.j0 kq t520 t523 x33_6 t512 t513 t516 = some r) ∧ Aside0 (kq ≤ k) ∧ Aside0 (Kd.S k32 32 wc w.heap.size (fun k_ => some k_ ≠ (v524 : Value).ownBlock) v521 t520) ∧ Aside0 (Kd.Q (Kd.int .i64) 3 wc w.heap.size (fun _ => True) v524 t523) ∧ Aside0 (Kd.R k60 60 wc w.heap.size (fun _ => True) (.slice Ao11 t513.length co11) t513) ∧ Aside0 (Kd.R k62 62 wc w.heap.size (fun _ => True) (.slice Ao12 t516.length co12) t516) ∧ Aside0 (wc.heap[gb519]? = some (.cells #[.int .i64 t512,(.slice Ao11 t513.length co11),(.slice Ao12 t516.length co12)] 26 (0,0))) ∧ Aside0 (Below w.heap.size w wc))
 case first =>
  have H:=HC7.out;clear HC7
  by_cases c16 : a2 = true
  ·subst c16
   rw [if_pos rfl] at H;have H':=am_ H;clear H;obtain ⟨Ao17,co17,eo17⟩:=RS_ HO525.out;subst eo17;(go_wp2);(go_meet)
   case rel => exact ⟨_,(decide ((t523.length : Int) > 0)),(by first|rfl|(simp;done)|(simp [*];done)),H',⟨by first|omega|exact Nat.le_refl _⟩,⟨by (with_reducible repeat (first|apply Kd.S_alloc|apply Kd.S_drewN|apply Kd.S_drew));exact Kd.S_mono HO522.out (fun _ hk => hk.2)⟩,⟨Kd.Q_of_R (ra_ HO525.out)⟩,rr_ HO515,rr_ HO518,kk_ BK519,hh_ HB⟩
  ·replace c16:=Bool.eq_false_iff.mpr c16
   subst c16;rw [if_neg (show ¬ (false = true) by decide)] at H;have H':=am_ H;clear H;(go_wp2);(go_meet)
   case rel => exact ⟨_,(false),(by first|rfl|(simp;done)|(simp [*];done)),H',⟨by first|omega|exact Nat.le_refl _⟩,⟨by (with_reducible repeat (first|apply Kd.S_alloc|apply Kd.S_drewN|apply Kd.S_drew));exact Kd.S_mono HO522.out (fun _ hk => hk.2)⟩,⟨Kd.Q_of_R (ra_ HO525.out)⟩,rr_ HO515,rr_ HO518,kk_ BK519,hh_ HB⟩
 case rest =>
  clear HC7;(try clear c1);(try clear c2);(try clear p2);(try clear c4);(try clear p6);(try clear c12);(try clear c13);(try clear c16);(try clear hcz10_0);(try clear hcz14_0);(try clear hfz10_0);(try clear hfz14_0);obtain ⟨kq,x33_6,rfl,HA,HJ6,HO_8,HO_9,HO_520001,HO_520002,BK519,HB⟩:=hcut;cases kq with
  | zero => exact absurd HA.out (by simp [railplanlaw14_InequalitySeparates.j0])
  | succ kj6 =>
   have H:=HA.out;clear HA;simp only [railplanlaw14_InequalitySeparates.j0] at H
   by_cases c18 : x33_6 = true
   ·subst c18
    rw [if_pos rfl] at H
    by_cases c19 : 1 ≤ (t523.length : Int)
    ·rw [if_pos c19] at H
     have c19b0:=eq_true c19;have c19b1:=decide_eq_true c19;clear c19;obtain ⟨y526,hy526⟩ : ∃ y_ : List Int,y_ = (t523.drop (1 : Int).toNat):=⟨_,rfl⟩;replace H:=bsn_ H hy526;have Ny526:=am_ hy526;clear hy526;replace H:=be_ H;obtain ⟨⟨t529,t530,t531⟩,A200,H⟩:=H;(try dsimp only at H);have A20:=am_ A200;clear A200;replace H:=be_ H;obtain ⟨⟨t532,t533,t534⟩,A210,H⟩:=H;(try dsimp only at H);have A21:=am_ A210;clear A210;replace H:=be_ H;obtain ⟨t535,A220,H⟩:=H;have A22:=am_ A220;clear A220
     by_cases c23 : t535 = true
     ·subst c23
      rw [if_pos rfl] at H
      by_cases c24 : t529 = t532
      ·rw [if_pos c24] at H
       have c24b0 : (t529 == t532) = true:=beq_iff_eq.mpr c24;have c24b1 : (t529 != t532) = false:=bne_eq_false_iff_eq.mpr c24;clear c24
       by_cases c25 : t530 = t533
       (·rw [if_pos c25] at H;(have c25b0 : (t530 == t533) = true:=beq_iff_eq.mpr c25;have c25b1 : (t530 != t533) = false:=bne_eq_false_iff_eq.mpr c25;clear c25;obtain rfl:=Option.some.inj H;obtain ⟨Ao26,co26,eo26,_⟩:=Kd.Q_slice HO_9.out;subst eo26;have q27:=de_ ((1 : Int) ≤ ((t523.length : Int) : Int));obtain ⟨i027,hi027,_,hsz27,_⟩:=info_parts info3;have hcut27:=cut_from (P:=Try.prog) 22 3 .i64 Try.underlying22 hi027 1 hsz27 Ao26 t523.length co26 1 (by omega) q27;have hr27:=Kd.Q_drop (k:=(1 : Int).toNat) HO_9.out (by omega);obtain ⟨A27,hA27⟩ : ∃ A1,A1 = (if co26 = (1 : Int).toNat then Ao26 else (Ao26 : Option Addr).map (·.add ((1 : Int).toNat * 1))):=⟨_,rfl⟩;obtain ⟨c27,hc27⟩ : ∃ c1,c1 = co26 - (1 : Int).toNat:=⟨_,rfl⟩;have hy27 : y526.length = t523.length - (1 : Int).toNat:=(by rw [Ny526.out,List.length_drop]);rw [← Ny526.out] at hr27;rw [← hy27,← hA27,← hc27] at hcut27;replace hr27 : Kd.Q (Kd.int .i64) 3 wc w.heap.size (fun _ => True) (.slice A27 y526.length c27) y526:=(by rw [hA27,hc27,hy27];exact hr27);(have HE27 : Aside0 ((Value.slice A27 y526.length c27).ownBlock = (.slice Ao26 t523.length co26 : Value).ownBlock):=⟨by rw [hA27];split <;> (cases (Ao26 : Option Addr) <;> rfl)⟩);clear hy27 hi027 hsz27 HO_9 hA27 hc27;have HO528:=am_ hr27;clear hr27;replace q27:=eq_true q27;have n_:=am_ (Kd.S_mono (ok':=fun k_ => some k_ ≠ (.slice A27 y526.length c27 : Value).ownBlock) HO_8.out (fun k_ hk => (by rw [HE27.out];exact hk)));clear HO_8;have HO_8:=n_;clear n_;have hcz28_0:=cA_ BK519;have hfz28_0:=fA_ BK519;obtain ⟨Ao29,co29,eo29⟩:=Kd.S_slice HO_8.out;subst eo29;(go_wp2_with (first|((with_reducible refine gc_ (f:=21) rfl ?_);refine gl_ (some 40) Try.func21 #[.agg #[.int .i64 t512,.slice Ao11 t513.length co11,.slice Ao12 t516.length co12],.slice Ao29 t520.length co29,.slice A27 y526.length c27] ?_;(with_reducible refine (inequality_Separate.calls kj6 t512 _ _ t513 _ _ t516 _ _ t520 _ _ y526 t529 t530 t531 _ (cr_ (RR_ HO_520001.out).2.2) (RR_ HO_520001.out).2.1 (cr_ (RR_ HO_520002.out).2.2) (RR_ HO_520002.out).2.1 (cr_ (Kd.S_reads' HO_8.out).2.2) ?side6 (cr_ (Kd.Q_reads' HO528.out).2.2) ?side8 A20.out).mono ?_);(case side6 => exact (Kd.S_reads' HO_8.out).2.1);(case side8 => exact (Kd.Q_reads' HO528.out).2.1);rintro e w30 ⟨rfl,hb⟩;refine ⟨_,rfl,?_⟩;have n0_:=am_ (Kd.S_below (by (with_reducible repeat (first|apply Kd.S_alloc|apply Kd.S_drewN|apply Kd.S_drew));exact HO_8.out) hb);have n1_:=am_ (Kd.Q_below (by (with_reducible repeat (first|apply Kd.Q_alloc|apply Kd.Q_drewN|apply Kd.Q_drew));exact HO528.out) hb);have n2_:=rb_ HO_520001 hb;have n3_:=rb_ HO_520002 hb;have n4_:=kb_ BK519 hb;have n5_:=hb_ HB hb;revert n0_ n1_ n2_ n3_ n4_ n5_;clear HO_8 HO528 HO_520001 HO_520002 BK519 HB;intro HO_8 HO528 HO_520001 HO_520002 BK519 HB;(try clear hb);(try clear hb2);(try clear hk);(try clear hi);have hcz31_0:=cA_ BK519;have hfz31_0:=fA_ BK519)|((with_reducible refine gc_ (f:=22) rfl ?_);refine gl_ (some 48) Try.func22 #[.agg #[.int .i64 t512,.slice Ao11 t513.length co11,.slice Ao12 t516.length co12],.slice Ao29 t520.length co29,.slice A27 y526.length c27] ?_;(with_reducible refine (railplanref13_Separate.calls kj6 t512 _ _ t513 _ _ t516 _ _ t520 _ _ y526 t532 t533 t534 _ (cr_ (RR_ HO_520001.out).2.2) (RR_ HO_520001.out).2.1 (cr_ (RR_ HO_520002.out).2.2) (RR_ HO_520002.out).2.1 (cr_ (Kd.S_reads' HO_8.out).2.2) ?side6 (cr_ (Kd.Q_reads' HO528.out).2.2) ?side8 A21.out).mono ?_);(case side6 => exact (Kd.S_reads' HO_8.out).2.1);(case side8 => exact (Kd.Q_reads' HO528.out).2.1);rintro e w32 ⟨rfl,hb⟩;refine ⟨_,rfl,?_⟩;have n0_:=am_ (Kd.S_below (by (with_reducible repeat (first|apply Kd.S_alloc|apply Kd.S_drewN|apply Kd.S_drew));exact HO_8.out) hb);have n1_:=am_ (Kd.Q_below (by (with_reducible repeat (first|apply Kd.Q_alloc|apply Kd.Q_drewN|apply Kd.Q_drew));exact HO528.out) hb);have n2_:=rb_ HO_520001 hb;have n3_:=rb_ HO_520002 hb;have n4_:=kb_ BK519 hb;have n5_:=hb_ HB hb;revert n0_ n1_ n2_ n3_ n4_ n5_;clear HO_8 HO528 HO_520001 HO_520002 BK519 HB;intro HO_8 HO528 HO_520001 HO_520002 BK519 HB;(try clear hb);(try clear hb2);(try clear hk);(try clear hi))|((with_reducible refine gc_ (f:=14) rfl ?_);refine gl_ (some 52) Try.func14 #[] ?_;(with_reducible refine (railplanlaw14_awake.calls kj6  true _ A22.out).mono ?_);rintro e w33 ⟨rfl,hb⟩;refine ⟨_,rfl,?_⟩;have n0_:=am_ (Kd.S_below (by (with_reducible repeat (first|apply Kd.S_alloc|apply Kd.S_drewN|apply Kd.S_drew));exact HO_8.out) hb);have n1_:=am_ (Kd.Q_below (by (with_reducible repeat (first|apply Kd.Q_alloc|apply Kd.Q_drewN|apply Kd.Q_drew));exact HO528.out) hb);have n2_:=rb_ HO_520001 hb;have n3_:=rb_ HO_520002 hb;have n4_:=kb_ BK519 hb;have n5_:=hb_ HB hb;revert n0_ n1_ n2_ n3_ n4_ n5_;clear HO_8 HO528 HO_520001 HO_520002 BK519 HB;intro HO_8 HO528 HO_520001 HO_520002 BK519 HB;(try clear hb);(try clear hb2);(try clear hk);(try clear hi))));(go_ret);(exact ⟨by first|rfl|(simp [errW_none,errW_some] <;> rfl)|(simp [*,errW_none,errW_some] <;> rfl),hB_ HB⟩)));(·rw [if_neg c25] at H;(simp at H))
      ·rw [if_neg c24] at H;(simp at H)
     ·replace c23:=Bool.eq_false_iff.mpr c23;subst c23;rw [if_neg (show ¬ (false = true) by decide)] at H;(simp at H)
    ·rw [if_neg c19] at H;(simp at H)
   ·replace c18:=Bool.eq_false_iff.mpr c18
    subst c18;rw [if_neg (show ¬ (false = true) by decide)] at H;replace H:=be_ H;obtain ⟨⟨t536,t537,t538⟩,A340,H⟩:=H;(try dsimp only at H);have A34:=am_ A340;clear A340;replace H:=be_ H;obtain ⟨⟨t539,t540,t541⟩,A350,H⟩:=H;(try dsimp only at H);have A35:=am_ A350;clear A350;replace H:=be_ H;obtain ⟨t542,A360,H⟩:=H;have A36:=am_ A360;clear A360
    by_cases c37 : t542 = true
    ·subst c37
     rw [if_pos rfl] at H
     by_cases c38 : t536 = t539
     ·rw [if_pos c38] at H
      have c38b0 : (t536 == t539) = true:=beq_iff_eq.mpr c38;have c38b1 : (t536 != t539) = false:=bne_eq_false_iff_eq.mpr c38;clear c38
      by_cases c39 : t537 = t540
      (·rw [if_pos c39] at H;(have c39b0 : (t537 == t540) = true:=beq_iff_eq.mpr c39;have c39b1 : (t537 != t540) = false:=bne_eq_false_iff_eq.mpr c39;clear c39;obtain rfl:=Option.some.inj H;have hcz40_0:=cA_ BK519;have hfz40_0:=fA_ BK519;obtain ⟨Ao41,co41,eo41⟩:=Kd.S_slice HO_8.out;subst eo41;obtain ⟨Ao42,co42,eo42,_⟩:=Kd.Q_slice HO_9.out;subst eo42;(go_wp2_with (first|((with_reducible refine gc_ (f:=21) rfl ?_);refine gl_ (some 40) Try.func21 #[.agg #[.int .i64 t512,.slice Ao11 t513.length co11,.slice Ao12 t516.length co12],.slice Ao41 t520.length co41,.slice Ao42 t523.length co42] ?_;(with_reducible refine (inequality_Separate.calls kj6 t512 _ _ t513 _ _ t516 _ _ t520 _ _ t523 t536 t537 t538 _ (cr_ (RR_ HO_520001.out).2.2) (RR_ HO_520001.out).2.1 (cr_ (RR_ HO_520002.out).2.2) (RR_ HO_520002.out).2.1 (cr_ (Kd.S_reads' HO_8.out).2.2) ?side6 (cr_ (Kd.Q_reads' HO_9.out).2.2) ?side8 A34.out).mono ?_);(case side6 => exact (Kd.S_reads' HO_8.out).2.1);(case side8 => exact (Kd.Q_reads' HO_9.out).2.1);rintro e w43 ⟨rfl,hb⟩;refine ⟨_,rfl,?_⟩;have n0_:=am_ (Kd.S_below (by (with_reducible repeat (first|apply Kd.S_alloc|apply Kd.S_drewN|apply Kd.S_drew));exact HO_8.out) hb);have n1_:=am_ (Kd.Q_below (by (with_reducible repeat (first|apply Kd.Q_alloc|apply Kd.Q_drewN|apply Kd.Q_drew));exact HO_9.out) hb);have n2_:=rb_ HO_520001 hb;have n3_:=rb_ HO_520002 hb;have n4_:=kb_ BK519 hb;have n5_:=hb_ HB hb;revert n0_ n1_ n2_ n3_ n4_ n5_;clear HO_8 HO_9 HO_520001 HO_520002 BK519 HB;intro HO_8 HO_9 HO_520001 HO_520002 BK519 HB;(try clear hb);(try clear hb2);(try clear hk);(try clear hi);have hcz44_0:=cA_ BK519;have hfz44_0:=fA_ BK519)|((with_reducible refine gc_ (f:=22) rfl ?_);refine gl_ (some 48) Try.func22 #[.agg #[.int .i64 t512,.slice Ao11 t513.length co11,.slice Ao12 t516.length co12],.slice Ao41 t520.length co41,.slice Ao42 t523.length co42] ?_;(with_reducible refine (railplanref13_Separate.calls kj6 t512 _ _ t513 _ _ t516 _ _ t520 _ _ t523 t539 t540 t541 _ (cr_ (RR_ HO_520001.out).2.2) (RR_ HO_520001.out).2.1 (cr_ (RR_ HO_520002.out).2.2) (RR_ HO_520002.out).2.1 (cr_ (Kd.S_reads' HO_8.out).2.2) ?side6 (cr_ (Kd.Q_reads' HO_9.out).2.2) ?side8 A35.out).mono ?_);(case side6 => exact (Kd.S_reads' HO_8.out).2.1);(case side8 => exact (Kd.Q_reads' HO_9.out).2.1);rintro e w45 ⟨rfl,hb⟩;refine ⟨_,rfl,?_⟩;have n0_:=am_ (Kd.S_below (by (with_reducible repeat (first|apply Kd.S_alloc|apply Kd.S_drewN|apply Kd.S_drew));exact HO_8.out) hb);have n1_:=am_ (Kd.Q_below (by (with_reducible repeat (first|apply Kd.Q_alloc|apply Kd.Q_drewN|apply Kd.Q_drew));exact HO_9.out) hb);have n2_:=rb_ HO_520001 hb;have n3_:=rb_ HO_520002 hb;have n4_:=kb_ BK519 hb;have n5_:=hb_ HB hb;revert n0_ n1_ n2_ n3_ n4_ n5_;clear HO_8 HO_9 HO_520001 HO_520002 BK519 HB;intro HO_8 HO_9 HO_520001 HO_520002 BK519 HB;(try clear hb);(try clear hb2);(try clear hk);(try clear hi))|((with_reducible refine gc_ (f:=14) rfl ?_);refine gl_ (some 52) Try.func14 #[] ?_;(with_reducible refine (railplanlaw14_awake.calls kj6  true _ A36.out).mono ?_);rintro e w46 ⟨rfl,hb⟩;refine ⟨_,rfl,?_⟩;have n0_:=am_ (Kd.S_below (by (with_reducible repeat (first|apply Kd.S_alloc|apply Kd.S_drewN|apply Kd.S_drew));exact HO_8.out) hb);have n1_:=am_ (Kd.Q_below (by (with_reducible repeat (first|apply Kd.Q_alloc|apply Kd.Q_drewN|apply Kd.Q_drew));exact HO_9.out) hb);have n2_:=rb_ HO_520001 hb;have n3_:=rb_ HO_520002 hb;have n4_:=kb_ BK519 hb;have n5_:=hb_ HB hb;revert n0_ n1_ n2_ n3_ n4_ n5_;clear HO_8 HO_9 HO_520001 HO_520002 BK519 HB;intro HO_8 HO_9 HO_520001 HO_520002 BK519 HB;(try clear hb);(try clear hb2);(try clear hk);(try clear hi))));(go_ret);(exact ⟨by first|rfl|(simp [errW_none,errW_some] <;> rfl)|(simp [*,errW_none,errW_some] <;> rfl),hB_ HB⟩)));(·rw [if_neg c39] at H;(simp at H))
     ·rw [if_neg c38] at H;(simp at H)
    ·replace c37:=Bool.eq_false_iff.mpr c37;subst c37;rw [if_neg (show ¬ (false = true) by decide)] at H;(simp at H)

/-- THE ONE PURE STATEMENT of railplanlaw14_InequalitySeparates: yours. -/
def railplanlaw14_InequalitySeparates.Pure : Prop:=∀ (l0 : List Int) (l1 : List Int) (a2 : Bool),l0.length ≤ maxLen → l0.length * 8 ≤ 140737488351232 → (∀ x ∈ l0,(Lit.int .i64 x).wf = true) → l1.length ≤ maxLen → l1.length * 8 ≤ 140737488351232 → (∀ x ∈ l1,(Lit.int .i64 x).wf = true) → ∃ k,railplanlaw14_InequalitySeparates.f k l0 l1 a2 = some true
theorem railplanlaw14_InequalitySeparates.walk (P : railplanlaw14_InequalitySeparates.Pure) (a0 : Option Addr) (len0 cap0 : Nat) (z0 : List Int) (a1 : Option Addr) (len1 cap1 : Nat) (z1 : List Int) (a2 : Bool) (w : World) (w0 : (a0 = none ∧ len0 = 0 ∧ cap0 = 0 ∧ z0 = []) ∨ ∃ x,a0 = some x ∧ len0 ≤ cap0 ∧ cap0 ≤ maxLen ∧ z0.length = cap0 ∧ (∀ i,i < z0.length → w.cell? (x.add i) = some (.int .i64 (z0.getD i 0))) ∧ ∀ n ∈ z0,(Lit.int .i64 n).wf = true) (y0 : len0 * 8 ≤ 140737488351232) (w1 : (a1 = none ∧ len1 = 0 ∧ cap1 = 0 ∧ z1 = []) ∨ ∃ x,a1 = some x ∧ len1 ≤ cap1 ∧ cap1 ≤ maxLen ∧ z1.length = cap1 ∧ (∀ i,i < z1.length → w.cell? (x.add i) = some (.int .i64 (z1.getD i 0))) ∧ ∀ n ∈ z1,(Lit.int .i64 n).wf = true) (y1 : len1 * 8 ≤ 140737488351232) :
  Calls Try.prog 4 #[.slice a0 len0 cap0,.slice a1 len1 cap1,.bool a2] w fun e w' => e = .returned (.bool true) ∧ Below w.heap.size w w':=by
 obtain ⟨l0,rfl,hr0,hm0,hw0,hc0⟩:=ReadsInt.ofRowC w0
 obtain ⟨l1,rfl,hr1,hm1,hw1,hc1⟩:=ReadsInt.ofRowC w1
 obtain ⟨k,h⟩:=P l0 l1 a2 hm0 y0 hw0 hm1 y1 hw1
 refine (railplanlaw14_InequalitySeparates.calls k _ _ l0 _ _ l1 a2 true w (Kd.C_of_reads (d:=(0 : Int)) (h1:=fun _ => rfl) hr0) hc0 (Kd.C_of_reads (d:=(0 : Int)) (h1:=fun _ => rfl) hr1) hc1 h).mono ?_
 rintro e w' ⟨rfl,hd⟩
 exact ⟨rfl,hd⟩
end Go.Proofs.Ytgbcgbfoejkieaa.PAll
