-- Packed by wip/tools/pack.py of this session out of what plugprint.py and the kit's print wrote. Lean checks it.
import Derived.Test.YtgbcgbfoejkieaaIS
import Derived.Test.YtgbcgbfoejkieaaI8
import Derived.Test.YtgbcgbfoejkieaaI9
namespace Go.Proofs.Ytgbcgbfoejkieaa.PAll
open Go.RowKit Go.Proofs.YtgbcgbfoejkieaaW.PrintWords Go.Proofs.YtgbcgbfoejkieaaW.PrintLast Go.Proofs.YtgbcgbfoejkieaaW.PrintMore
attribute [local go_sem] max2_int min2_int max_two min_two max_three min_three max_four min_four
set_option linter.unusedVariables false
set_option linter.unusedSimpArgs false
/-! ### railplanlaw14_fundamental: function 13 -/
def railplanlaw14_fundamental.f (k : Nat) (a0_0 : Int) (l0_1 : List (S60)) (l0_2 : List (S62)) : Option ((List (S32))):=(railplanref11_Tree.f k a0_0 l0_1 l0_2).bind fun t273 => ((railplanref11_Fundamental.f k a0_0 l0_1 l0_2 t273).bind fun bt276 => (some bt276.1))
theorem railplanlaw14_fundamental.mono : ∀ a0 a1 a2 k,LeO (railplanlaw14_fundamental.f k a0 a1 a2) (railplanlaw14_fundamental.f (k + 1) a0 a1 a2):=by
 intro a0 a1 a2 k;(unfold railplanlaw14_fundamental.f)
 repeat' first
   | (with_reducible exact railplanref11_Fundamental.mono _ _ _ _ _)
   | (with_reducible exact railplanref11_Tree.mono _ _ _ _)
   | (with_reducible exact LeO.refl _)
   | (with_reducible exact LeO.none _)
   | (with_reducible refine LeO.ite ?_ ?_)
   | (with_reducible refine LeO.bind ?_ (fun _ => ?_))
   | exact railplanref11_Fundamental.mono _ _ _ _ _
   | exact railplanref11_Tree.mono _ _ _ _
   | exact LeO.none _
   | refine LeO.ite ?_ ?_
   | refine LeO.bind ?_ (fun _ => ?_)
def railplanlaw14_fundamental.T1 : Bool × List (List Nat × List Nat):=(true,[([],[]),([],[]),([1],[1]),([0,2,2],[0,2]),([3],[3]),([4],[4]),([4],[4]),([5,3,0,1,2,3,4,5],[5]),([6,7,0,1,2,3,4,5,6,7],[6])])
def railplanlaw14_fundamental.B1 : List Nat:=[0,0,2,7,15,31,31,63,255]
theorem railplanlaw14_fundamental.tab1 : rtab .any (opsOf Try.f13 1) = railplanlaw14_fundamental.T1:=by kernel_rfl
theorem railplanlaw14_fundamental.bits1 : waitsOk railplanlaw14_fundamental.T1.2 railplanlaw14_fundamental.B1 = true:=by kernel_rfl
set_option maxHeartbeats 8000000 in
set_option maxRecDepth 100000 in
theorem railplanlaw14_fundamental.calls (k : Nat) (a0_0 : Int) (A0_1 : Option Addr) (c0_1 : Nat) (l0_1 : List (S60)) (A0_2 : Option Addr) (c0_2 : Nat) (l0_2 : List (S62)) (r : List (S32)) (w : World) (hr0_1 : Kd.C k60 w A0_1 l0_1.length l0_1) (hc0_1 : l0_1.length ≤ c0_1) (hr0_2 : Kd.C k62 w A0_2 l0_2.length l0_2) (hc0_2 : l0_2.length ≤ c0_2) (h : railplanlaw14_fundamental.f k a0_0 l0_1 l0_2 = some r) :
  Calls Try.prog 13 #[.agg #[.int .i64 a0_0,.slice A0_1 l0_1.length c0_1,.slice A0_2 l0_2.length c0_2]] w fun e w' => ∃ v0_ : Value,e = .returned (v0_) ∧ Kd.S k32 32 w' w.heap.size (fun _ => True) v0_ r ∧ Below w.heap.size w w':=by
 have hu26:=Try.underlying26
 have HR0_1:=am_ hr0_1
 have HC0_1:=am_ hc0_1
 clear hr0_1 hc0_1
 have HR0_2:=am_ hr0_2
 have HC0_2:=am_ hc0_2
 clear hr0_2 hc0_2
 have HB:=am_ (Below.refl w.heap.size w)
 have H : ((railplanref11_Tree.f k a0_0 l0_1 l0_2).bind fun t273 => ((railplanref11_Fundamental.f k a0_0 l0_1 l0_2 t273).bind fun bt276 => (some bt276.1))) = some r:=h
 clear h
 replace H:=be_ H
 obtain ⟨t273,A20,H⟩:=H
 have A2:=am_ A20
 clear A20
 replace H:=be_ H
 obtain ⟨⟨t276,t279⟩,A30,H⟩:=H
 (try dsimp only at H)
 have A3:=am_ A30
 clear A30
 obtain rfl:=Option.some.inj H
 go_enter Try.func13,Try.ntmps13
 try go_wp2_with (first|((with_reducible refine gd_ (N:=1) rfl ?_);refine bx2_ 1 #[.int .i64 a0_0,.slice A0_1 l0_1.length c0_1,.slice A0_2 l0_2.length c0_2] 26 (fun gb272 hg w4 hbox hb => ?_);have n0_:=hb_ HB hb;have n1_:=am_ (hbox);have n2_ : Aside0 (w.heap.size ≤ gb272):=gz_ hg HB;have n3_ : Aside0 (w.heap.size ≤ gb272):=gz_ hg HB;revert n0_ n1_ n2_ n3_;clear HB;intro HB BK272 GW272 GE272;clear hb hbox hg))
 have n0_:=am_ (kD_ BK272.out)
 have n1_:=am_ (b1_ HB.out)
 revert n0_ n1_
 clear BK272 HB
 intro BK272 HB
 refine start_ (n:=9) (S:=fun w' => c_ w' gb272 0 (.int .i64 a0_0) ∧ c_ w' gb272 1 (.slice A0_1 l0_1.length c0_1) ∧ c_ w' gb272 2 (.slice A0_2 l0_2.length c0_2)) (ds:=[]) (bm 9 0) (by kernel_rfl) rfl rfl ⟨cq_ BK272 0,cq_ BK272 1,cq_ BK272 2⟩ (fun hHeld => ?_);refine with_tabW railplanlaw14_fundamental.tab1 railplanlaw14_fundamental.bits1 (fun HT_ HW_ => ?_)
 generalize w4.drew = w5 at BK272 HB hHeld ⊢
 refine ta_ 0 6 (bm 9 1) ?_
 refine ta_ 1 7 (bm 9 3) ?_
 refine on_ 2 8 (bm 9 7) (fun K hK => ?_)
 refine gs_ Try.func35 #[.agg #[.int .i64 a0_0,.slice A0_1 l0_1.length c0_1,.slice A0_2 l0_2.length c0_2]] ?_
 with_reducible refine (railplanref11_Tree.calls k a0_0 _ _ l0_1 _ _ l0_2 t273 _ (cr_ (CB_ HR0_1.out HB.out)) HC0_1.out (cr_ (CB_ HR0_2.out HB.out)) HC0_2.out A2.out).mono ?_
 rintro e w6 ⟨v274,rfl,ho0,hb⟩
 refine ⟨_,rfl,?_⟩
 have n0_:=am_ (RL_ ho0 (bz_ (hB_ HB)))
 have n1_:=kb_ BK272 hb
 have n2_:=hb_ HB hb
 revert n0_ n1_ n2_
 clear BK272 HB
 intro HO275 BK272 HB
 (try clear hb)
 (try clear ho0)
 obtain ⟨Ao7,co7,eo7⟩:=RS_ HO275.out
 (first|subst eo7|(injection eo7 with f1_ f2_ f3_;have f4_:=f1_.symm;have f5_:=f3_.symm;clear f1_ f2_ f3_;subst f4_;subst f5_))
 refine hK.out _ _ ⟨cq_ BK272 0,cq_ BK272 1,cq_ BK272 2⟩ (fun hHeld => ?_)
 clear hK K
 refine nm_ 8 ?_
 refine on_ 3 9 (bm 9 15) (fun K hK => ?_)
 refine gs_ Try.func34 #[.agg #[.int .i64 a0_0,.slice A0_1 l0_1.length c0_1,.slice A0_2 l0_2.length c0_2],.slice Ao7 t273.length co7] ?_
 with_reducible refine (railplanref11_Fundamental.calls k a0_0 _ _ l0_1 _ _ l0_2 _ _ t273 t276 t279 _ (cr_ (CB_ HR0_1.out HB.out)) HC0_1.out (cr_ (CB_ HR0_2.out HB.out)) HC0_2.out (cr_ (RR_ HO275.out).2.2) (RR_ HO275.out).2.1 A3.out).mono ?_
 rintro e w8 ⟨v277,rfl,ho0,hb⟩
 refine ⟨_,rfl,?_⟩
 have n0_:=rb_ HO275 hb
 have n1_:=am_ (Kd.S_lower (Kd.S_new' ho0 (Kd.R_lt (ra_ HO275.out))) (bz_ (hB_ HB)))
 have n2_:=kb_ BK272 hb
 have n3_:=hb_ HB hb
 revert n0_ n1_ n2_ n3_
 clear HO275 BK272 HB
 intro HO275 HO278 BK272 HB
 (try clear hb)
 (try clear ho0)
 refine hK.out _ _ ⟨cq_ BK272 0,cq_ BK272 1,cq_ BK272 2⟩ (fun hHeld => ?_)
 clear hK K
 refine nm_ 9 ?_
 refine pu_ 4 5 (bm 9 31) ?_
 refine pu_ 5 10 (bm 9 63) ?_
 refine pu_ 6 11 (bm 9 127) ?_
 refine pu_ 7 3 (bm 9 255) ?_
 refine pu_ 8 4 (bm 9 511) ?_
 refine done_ (done_of HT_.out (by kernel_rfl)) ?_
 try go_wp2
 go_ret
 exact ⟨_,by first|rfl|(simp [errW_none,errW_some] <;> rfl)|(simp [*,errW_none,errW_some] <;> rfl),by (with_reducible repeat (first|apply Kd.S_alloc|apply Kd.S_drewN|apply Kd.S_drew));exact Kd.S_mono HO278.out (fun _ hk => trivial),hB_ HB⟩
/-! ### network_within: function 67 -/
def network_within.f (a0 : Int) (a1 : Int) (a2 : Int) : Option (Bool):=if a0 ≥ a1 then (some (decide (a0 ≤ a2))) else (some false)
set_option maxHeartbeats 8000000 in
set_option maxRecDepth 100000 in
theorem network_within.calls (a0 : Int) (a1 : Int) (a2 : Int) (r : Bool) (w : World) (h : network_within.f a0 a1 a2 = some r) :
  Calls Try.prog 67 #[.int .i64 a0,.int .i64 a1,.int .i64 a2] w fun e w' => e = .returned (.bool r) ∧ Drawn0 w w':=by
 have H : (if a0 ≥ a1 then (some (decide (a0 ≤ a2))) else (some false)) = some r:=h
 clear h
 by_cases c4 : a0 ≥ a1
 ·rw [if_pos c4] at H;have c4b0:=decide_eq_true c4;clear c4;obtain rfl:=Option.some.inj H;(go_enter Try.func67,Try.ntmps67);(go_wp2);(go_ret);exact ⟨by first|rfl|(simp;done)|(simp [*];done),by repeat (first|exact Drawn0.refl _|apply Drawn0.step)⟩
 ·rw [if_neg c4] at H;have c4b0:=decide_eq_false c4;clear c4;obtain rfl:=Option.some.inj H;(go_enter Try.func67,Try.ntmps67);(go_wp2);(go_ret);exact ⟨by first|rfl|(simp;done)|(simp [*];done),by repeat (first|exact Drawn0.refl _|apply Drawn0.step)⟩

-- NOT PRINTED: function 71 (api_Activity_71)

-- NOT PRINTED: function 68 (api_Activity_68)
end Go.Proofs.Ytgbcgbfoejkieaa.PAll
