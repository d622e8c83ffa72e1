-- Packed by wip/tools/pack.py of this session out of what plugprint.py and the kit's print wrote. Lean checks it.
import Derived.Test.YtgbcgbfoejkieaaGS
import Derived.Test.YtgbcgbfoejkieaaG2
import Derived.Test.YtgbcgbfoejkieaaG3
namespace Go.Proofs.Ytgbcgbfoejkieaa.PAll
open Go.RowKit Go.Proofs.YtgbcgbfoejkieaaW.PrintWords Go.Proofs.YtgbcgbfoejkieaaW.PrintLast Go.Proofs.YtgbcgbfoejkieaaW.PrintMore
attribute [local go_sem] max2_int min2_int max_two min_two max_three min_three max_four min_four
set_option linter.unusedVariables false
set_option linter.unusedSimpArgs false
/-! ### railplanref11_Good: function 43 -/
mutual
def railplanref11_Good.j0 : Nat → List Int → Bool → Int → List (S60) → List (S62) → Option (Bool)
 | 0,_,_,_,_,_ => none
 | k + 1,x1,x16,x575000,x575001,x575002 => if x16 = true then (some false) else (railplanref11_Good.l0 k x1 0 x575000 x575001 x575002)
def railplanref11_Good.l0 : Nat → List Int → Int → Int → List (S60) → List (S62) → Option (Bool)
 | 0,_,_,_,_,_ => none
 | k + 1,x1,x5,x575000,x575001,x575002 => if x5 < (x1.length : Int) then (if 0 ≤ x5 then ((railplanref11_in.f (rd x1 x5) 0 (wrap64 (x575000 - 1))).bind fun t577 => (if t577 = true then (railplanref11_Good.l0 k x1 (wrap64 (x5 + 1)) x575000 x575001 x575002) else (some false))) else (none)) else (some true)
end
def railplanref11_Good.f (k : Nat) (a0_0 : Int) (l0_1 : List (S60)) (l0_2 : List (S62)) (l1 : List Int) : Option (Bool):=(railplanref11_Check.f k a0_0 l0_1 l0_2).bind fun t575 => (if t575 = true then (railplanref11_Good.j0 k l1 ((l1.length : Int) != (l0_1.length : Int)) a0_0 l0_1 l0_2) else (railplanref11_Good.j0 k l1 true a0_0 l0_1 l0_2))
theorem railplanref11_Good.mono_l : ∀ k,(∀ y0 y1 y2 y3 y4,LeO (railplanref11_Good.j0 k y0 y1 y2 y3 y4) (railplanref11_Good.j0 (k + 1) y0 y1 y2 y3 y4)) ∧ (∀ y0 y1 y2 y3 y4,LeO (railplanref11_Good.l0 k y0 y1 y2 y3 y4) (railplanref11_Good.l0 (k + 1) y0 y1 y2 y3 y4))
 | 0 => ⟨fun _ _ _ _ _ r h => by simp [railplanref11_Good.j0] at h,fun _ _ _ _ _ r h => by simp [railplanref11_Good.l0] at h⟩
 | k + 1 => by
  obtain ⟨ih0,ih1⟩:=railplanref11_Good.mono_l k;(refine ⟨?_,?_⟩ <;> intros <;> (first|unfold railplanref11_Good.j0|unfold railplanref11_Good.l0) <;> (repeat' first|(with_reducible exact ih0 _ _ _ _ _)|(with_reducible exact ih1 _ _ _ _ _)|(with_reducible exact railplanref11_Check.mono _ _ _ _)|(with_reducible exact LeO.refl _)|(with_reducible exact LeO.none _)|(with_reducible refine LeO.ite ?_ ?_)|(with_reducible refine LeO.bind ?_ (fun _ => ?_))|exact ih0 _ _ _ _ _|exact ih1 _ _ _ _ _|exact railplanref11_Check.mono _ _ _ _|exact LeO.none _|refine LeO.ite ?_ ?_|refine LeO.bind ?_ (fun _ => ?_)))
theorem railplanref11_Good.mono : ∀ a0 a1 a2 a3 k,LeO (railplanref11_Good.f k a0 a1 a2 a3) (railplanref11_Good.f (k + 1) a0 a1 a2 a3):=by
 intro a0 a1 a2 a3 k;obtain ⟨ih0,ih1⟩:=railplanref11_Good.mono_l k;(unfold railplanref11_Good.f)
 repeat' first
   | (with_reducible exact ih0 _ _ _ _ _)
   | (with_reducible exact ih1 _ _ _ _ _)
   | (with_reducible exact railplanref11_Check.mono _ _ _ _)
   | (with_reducible exact LeO.refl _)
   | (with_reducible exact LeO.none _)
   | (with_reducible refine LeO.ite ?_ ?_)
   | (with_reducible refine LeO.bind ?_ (fun _ => ?_))
   | exact ih0 _ _ _ _ _
   | exact ih1 _ _ _ _ _
   | exact railplanref11_Check.mono _ _ _ _
   | exact LeO.none _
   | refine LeO.ite ?_ ?_
   | refine LeO.bind ?_ (fun _ => ?_)
set_option maxHeartbeats 8000000 in
set_option maxRecDepth 100000 in
theorem railplanref11_Good.calls (k : Nat) (a0_0 : Int) (A0_1 : Option Addr) (c0_1 : Nat) (l0_1 : List (S60)) (A0_2 : Option Addr) (c0_2 : Nat) (l0_2 : List (S62)) (A1 : Option Addr) (c1 : Nat) (l1 : List Int) (r : Bool) (w : World) (hr0_1 : Kd.C k60 w A0_1 l0_1.length l0_1) (hc0_1 : l0_1.length ≤ c0_1) (hr0_2 : Kd.C k62 w A0_2 l0_2.length l0_2) (hc0_2 : l0_2.length ≤ c0_2) (hr1 : Kd.C (Kd.int .i64) w A1 l1.length l1) (hc1 : l1.length ≤ c1) (h : railplanref11_Good.f k a0_0 l0_1 l0_2 l1 = some r) :
  Calls Try.prog 43 #[.agg #[.int .i64 a0_0,.slice A0_1 l0_1.length c0_1,.slice A0_2 l0_2.length c0_2],.slice A1 l1.length c1] w fun e w' => e = .returned (.bool r) ∧ Below w.heap.size w w':=by
 have hu26:=Try.underlying26
 have HR0_1:=am_ hr0_1
 have HC0_1:=am_ hc0_1
 clear hr0_1 hc0_1
 have HR0_2:=am_ hr0_2
 have HC0_2:=am_ hc0_2
 clear hr0_2 hc0_2
 have HR1:=am_ hr1
 have HC1:=am_ hc1
 clear hr1 hc1
 have HB:=am_ (Below.refl w.heap.size w)
 have H : ((railplanref11_Check.f k a0_0 l0_1 l0_2).bind fun t575 => (if t575 = true then (railplanref11_Good.j0 k l1 ((l1.length : Int) != (l0_1.length : Int)) a0_0 l0_1 l0_2) else (railplanref11_Good.j0 k l1 true a0_0 l0_1 l0_2))) = some r:=h
 clear h
 have HC3:=am_ H
 clear H
 go_enter Try.func43,Try.ntmps43
 go_upto_region 1 with (first|((with_reducible refine gd_ (N:=2) rfl ?_);(try (refine gate_guard (by rfl) ?_;dsimp only));refine bx2_ 2 #[.int .i64 a0_0,.slice A0_1 l0_1.length c0_1,.slice A0_2 l0_2.length c0_2] 26 (fun gb574 hg w4 hbox hb => ?_);have n0_:=hb_ HB hb;have n1_:=am_ (hbox);have n2_ : Aside0 (w.heap.size ≤ gb574):=gz_ hg HB;have n3_ : Aside0 (w.heap.size ≤ gb574):=gz_ hg HB;revert n0_ n1_ n2_ n3_;clear HB;intro HB BK574 GW574 GE574;clear hb hbox hg))
 repeat (go_quiet (first|((with_reducible refine gd_ (N:=2) rfl ?_);(try (refine gate_guard (by rfl) ?_;dsimp only));refine bx2_ 2 #[.int .i64 a0_0,.slice A0_1 l0_1.length c0_1,.slice A0_2 l0_2.length c0_2] 26 (fun gb574 hg w4 hbox hb => ?_);have n0_:=hb_ HB hb;have n1_:=am_ (hbox);have n2_ : Aside0 (w.heap.size ≤ gb574):=gz_ hg HB;have n3_ : Aside0 (w.heap.size ≤ gb574):=gz_ hg HB;revert n0_ n1_ n2_ n3_;clear HB;intro HB BK574 GW574 GE574;clear hb hbox hg));go_upto_region 1 with (first|((with_reducible refine gd_ (N:=2) rfl ?_);(try (refine gate_guard (by rfl) ?_;dsimp only));refine bx2_ 2 #[.int .i64 a0_0,.slice A0_1 l0_1.length c0_1,.slice A0_2 l0_2.length c0_2] 26 (fun gb574 hg w4 hbox hb => ?_);have n0_:=hb_ HB hb;have n1_:=am_ (hbox);have n2_ : Aside0 (w.heap.size ≤ gb574):=gz_ hg HB;have n3_ : Aside0 (w.heap.size ≤ gb574):=gz_ hg HB;revert n0_ n1_ n2_ n3_;clear HB;intro HB BK574 GW574 GE574;clear hb hbox hg)))
 (try simp only [Act.put,Lx_,Ly_,Lz_])
 go_cut [16] (fun v16 wc => ∃ (kq : Nat) (x16_2 : Bool),v16 = .bool x16_2 ∧ Aside0 (railplanref11_Good.j0 kq l1 x16_2 a0_0 l0_1 l0_2 = some r) ∧ Aside0 (kq ≤ k) ∧ Aside0 (wc.heap[gb574]? = some (.cells #[.int .i64 a0_0,(.slice A0_1 l0_1.length c0_1),(.slice A0_2 l0_2.length c0_2)] 26 (0,0))) ∧ Aside0 (Below w.heap.size w wc))
 case first =>
  have H:=HC3.out;clear HC3;replace H:=be_ H;obtain ⟨t575,A50,H⟩:=H;replace H : (if t575 = true then (railplanref11_Good.j0 k l1 ((l1.length : Int) != (l0_1.length : Int)) a0_0 l0_1 l0_2) else (railplanref11_Good.j0 k l1 true a0_0 l0_1 l0_2)) = some r:=H;have A5:=am_ A50;clear A50
  by_cases c6 : t575 = true
  ·subst c6
   (have H1 : (railplanref11_Good.j0 k l1 ((l1.length : Int) != (l0_1.length : Int)) a0_0 l0_1 l0_2) = some r:=by rw [if_pos rfl] at H;exact H);clear H;have H:=H1;clear H1;have H':=am_ H;clear H;have hcz7_0:=cA_ BK574;have hfz7_0:=fA_ BK574;(go_wp2_with (first|(go_at_call 55;(with_reducible refine (railplanref11_Check.calls k a0_0 _ _ l0_1 _ _ l0_2 true _ (cr_ (CB_ HR0_1.out HB.out)) HC0_1.out (cr_ (CB_ HR0_2.out HB.out)) HC0_2.out A5.out).mono ?_);rintro e w8 ⟨rfl,hb⟩;have n0_:=kb_ BK574 hb;have n1_:=hb_ HB hb;revert n0_ n1_;clear BK574 HB;intro BK574 HB;(try clear hb);(try clear hb2);(try clear hk);(try clear hi);have hcz9_0:=cA_ BK574;have hfz9_0:=fA_ BK574)));(repeat (go_quiet (first|(go_at_call 55;(with_reducible refine (railplanref11_Check.calls k a0_0 _ _ l0_1 _ _ l0_2 true _ (cr_ (CB_ HR0_1.out HB.out)) HC0_1.out (cr_ (CB_ HR0_2.out HB.out)) HC0_2.out A5.out).mono ?_);rintro e w8 ⟨rfl,hb⟩;have n0_:=kb_ BK574 hb;have n1_:=hb_ HB hb;revert n0_ n1_;clear BK574 HB;intro BK574 HB;(try clear hb);(try clear hb2);(try clear hk);(try clear hi);have hcz9_0:=cA_ BK574;have hfz9_0:=fA_ BK574));try go_wp2_with (first|(go_at_call 55;(with_reducible refine (railplanref11_Check.calls k a0_0 _ _ l0_1 _ _ l0_2 true _ (cr_ (CB_ HR0_1.out HB.out)) HC0_1.out (cr_ (CB_ HR0_2.out HB.out)) HC0_2.out A5.out).mono ?_);rintro e w8 ⟨rfl,hb⟩;have n0_:=kb_ BK574 hb;have n1_:=hb_ HB hb;revert n0_ n1_;clear BK574 HB;intro BK574 HB;(try clear hb);(try clear hb2);(try clear hk);(try clear hi);have hcz9_0:=cA_ BK574;have hfz9_0:=fA_ BK574))));(go_meet)
   case rel => exact ⟨_,(((l1.length : Int) != (l0_1.length : Int))),(by first|rfl|(simp;done)|(simp [*];done)),H',⟨by first|omega|exact Nat.le_refl _⟩,kk_ BK574,hh_ HB⟩
  ·replace c6:=Bool.eq_false_iff.mpr c6
   subst c6;(have H1 : (railplanref11_Good.j0 k l1 true a0_0 l0_1 l0_2) = some r:=by rw [if_neg (show ¬ (false = true) by decide)] at H;exact H);clear H;have H:=H1;clear H1;have H':=am_ H;clear H;have hcz10_0:=cA_ BK574;have hfz10_0:=fA_ BK574;(go_wp2_with (first|(go_at_call 55;(with_reducible refine (railplanref11_Check.calls k a0_0 _ _ l0_1 _ _ l0_2 false _ (cr_ (CB_ HR0_1.out HB.out)) HC0_1.out (cr_ (CB_ HR0_2.out HB.out)) HC0_2.out A5.out).mono ?_);rintro e w11 ⟨rfl,hb⟩;have n0_:=kb_ BK574 hb;have n1_:=hb_ HB hb;revert n0_ n1_;clear BK574 HB;intro BK574 HB;(try clear hb);(try clear hb2);(try clear hk);(try clear hi))));(repeat (go_quiet (first|(go_at_call 55;(with_reducible refine (railplanref11_Check.calls k a0_0 _ _ l0_1 _ _ l0_2 false _ (cr_ (CB_ HR0_1.out HB.out)) HC0_1.out (cr_ (CB_ HR0_2.out HB.out)) HC0_2.out A5.out).mono ?_);rintro e w11 ⟨rfl,hb⟩;have n0_:=kb_ BK574 hb;have n1_:=hb_ HB hb;revert n0_ n1_;clear BK574 HB;intro BK574 HB;(try clear hb);(try clear hb2);(try clear hk);(try clear hi)));try go_wp2_with (first|(go_at_call 55;(with_reducible refine (railplanref11_Check.calls k a0_0 _ _ l0_1 _ _ l0_2 false _ (cr_ (CB_ HR0_1.out HB.out)) HC0_1.out (cr_ (CB_ HR0_2.out HB.out)) HC0_2.out A5.out).mono ?_);rintro e w11 ⟨rfl,hb⟩;have n0_:=kb_ BK574 hb;have n1_:=hb_ HB hb;revert n0_ n1_;clear BK574 HB;intro BK574 HB;(try clear hb);(try clear hb2);(try clear hk);(try clear hi)))));(go_meet)
   case rel => exact ⟨_,(true),(by first|rfl|(simp;done)|(simp [*];done)),H',⟨by first|omega|exact Nat.le_refl _⟩,kk_ BK574,hh_ HB⟩
 case rest =>
  clear HC3;(try clear c1);(try clear p2);(try clear c4);(try clear c6);(try clear hcz10_0);(try clear hcz7_0);(try clear hcz9_0);(try clear hfz10_0);(try clear hfz7_0);(try clear hfz9_0);obtain ⟨kq,x16_2,rfl,HA,HJ2,BK574,HB⟩:=hcut;cases kq with
  | zero => exact absurd HA.out (by simp [railplanref11_Good.j0])
  | succ kj2 =>
   have H:=HA.out;clear HA;simp only [railplanref11_Good.j0] at H
   by_cases c12 : x16_2 = true
   ·subst c12;((have H1 : (some false) = some r:=by rw [if_pos rfl] at H;exact H);clear H;have H:=H1;clear H1;obtain rfl:=Option.some.inj H;(go_wp2);(repeat (go_quiet (fail);try go_wp2));(go_ret);(exact ⟨by first|rfl|(simp [errW_none,errW_some] <;> rfl)|(simp [*,errW_none,errW_some] <;> rfl),hB_ HB⟩))
   ·replace c12:=Bool.eq_false_iff.mpr c12
    subst c12;(have H1 : (railplanref11_Good.l0 kj2 l1 0 a0_0 l0_1 l0_2) = some r:=by rw [if_neg (show ¬ (false = true) by decide)] at H;exact H);clear H;have H:=H1;clear H1;have H':=am_ H;clear H;(go_wp2);(repeat (go_quiet (fail);try go_wp2));(go_loopg [5] kj2 (fun kq v5 w' => ∃ (x5_2 : Int),v5 = .int .i64 x5_2 ∧ Aside0 (railplanref11_Good.l0 kq l1 x5_2 a0_0 l0_1 l0_2 = some r) ∧ Aside0 (kq ≤ kj2) ∧ Aside0 (w'.heap[gb574]? = some (.cells #[.int .i64 a0_0,(.slice A0_1 l0_1.length c0_1),(.slice A0_2 l0_2.length c0_2)] 26 (0,0))) ∧ Aside0 (Below w.heap.size w w')))
    case atStart => exact ⟨(0),(by first|rfl|(simp;done)|(simp [*];done)),H',⟨Nat.le_refl _⟩,kk_ BK574,hh_ HB⟩
    case round =>
     clear H';(try clear c1);(try clear p2);(try clear c4);(try clear c6);(try clear c12);(try clear hcz10_0);(try clear hcz7_0);(try clear hcz9_0);(try clear hfz10_0);(try clear hfz7_0);(try clear hfz9_0);(try clear p2);obtain ⟨x5_2,rfl,HA,HK2,BK574,HB⟩:=hrel;cases gk with
     | zero => exact absurd HA.out (by simp [railplanref11_Good.l0])
     | succ k2 =>
      have H:=HA.out;clear HA;simp only [railplanref11_Good.l0] at H
      by_cases c13 : x5_2 < (l1.length : Int)
      ·rw [if_pos c13] at H
       have c13b0:=decide_eq_true c13;clear c13
       by_cases c14 : 0 ≤ x5_2
       ·rw [if_pos c14] at H
        have c14b0:=decide_eq_true c14;clear c14;replace H:=be_ H;obtain ⟨t577,A150,H⟩:=H;replace H : (if t577 = true then (railplanref11_Good.l0 k2 l1 (wrap64 (x5_2 + 1)) a0_0 l0_1 l0_2) else (some false)) = some r:=H;have A15:=am_ A150;clear A150
        by_cases c16 : t577 = true
        ·subst c16
         (have H1 : (railplanref11_Good.l0 k2 l1 (wrap64 (x5_2 + 1)) a0_0 l0_1 l0_2) = some r:=by rw [if_pos rfl] at H;exact H);clear H;have H:=H1;clear H1;have H':=am_ H;clear H;have p576:=de_ (0 ≤ (x5_2 : Int));have q576:=de_ (x5_2 < (l1.length : Int));obtain ⟨ad576,e576,hx576_0⟩:=Kd.at_int HR1.out x5_2 p576 q576;cases e576;replace hx576_0:=cl_ HB hx576_0;replace p576:=eq_true p576;replace q576:=eq_true q576;have hcz17_0:=cA_ BK574;have hfz17_0:=fA_ BK574;(go_wp2_with (first|(go_at_call 44;(with_reducible refine (railplanref11_in.calls (rd l1 x5_2) 0 (wrap64 (a0_0 - 1)) true _ A15.out).mono ?_);rintro e w' ⟨rfl,⟨nd,rfl⟩⟩;(try first|exact ⟨rfl,_,World.drewN_drewN _ _ _⟩|exact ⟨rfl,_,Eq.trans (World.drewN_drewN _ _ _) (congrArg (World.drewN _) (Nat.add_assoc _ _ _))⟩))));(repeat (go_quiet (first|(go_at_call 44;(with_reducible refine (railplanref11_in.calls (rd l1 x5_2) 0 (wrap64 (a0_0 - 1)) true _ A15.out).mono ?_);rintro e w' ⟨rfl,⟨nd,rfl⟩⟩;(try first|exact ⟨rfl,_,World.drewN_drewN _ _ _⟩|exact ⟨rfl,_,Eq.trans (World.drewN_drewN _ _ _) (congrArg (World.drewN _) (Nat.add_assoc _ _ _))⟩)));try go_wp2_with (first|(go_at_call 44;(with_reducible refine (railplanref11_in.calls (rd l1 x5_2) 0 (wrap64 (a0_0 - 1)) true _ A15.out).mono ?_);rintro e w' ⟨rfl,⟨nd,rfl⟩⟩;(try first|exact ⟨rfl,_,World.drewN_drewN _ _ _⟩|exact ⟨rfl,_,Eq.trans (World.drewN_drewN _ _ _) (congrArg (World.drewN _) (Nat.add_assoc _ _ _))⟩)))));(go_roundg k2)
         case measure => have:=HJ2.out;have:=HK2.out;omega
         case rel => exact ⟨(wrap64 (x5_2 + 1)),(by first|rfl|(simp;done)|(simp [*];done)),H',⟨by have:=HJ2.out;have:=HK2.out;omega⟩,kk_ BK574,hh_ HB⟩
        ·replace c16:=Bool.eq_false_iff.mpr c16;(subst c16;(have H1 : (some false) = some r:=by rw [if_neg (show ¬ (false = true) by decide)] at H;exact H);clear H;have H:=H1;clear H1;obtain rfl:=Option.some.inj H;have p576:=de_ (0 ≤ (x5_2 : Int));have q576:=de_ (x5_2 < (l1.length : Int));obtain ⟨ad576,e576,hx576_0⟩:=Kd.at_int HR1.out x5_2 p576 q576;cases e576;replace hx576_0:=cl_ HB hx576_0;replace p576:=eq_true p576;replace q576:=eq_true q576;have hcz18_0:=cA_ BK574;have hfz18_0:=fA_ BK574;(go_wp2_with (first|(go_at_call 44;(with_reducible refine (railplanref11_in.calls (rd l1 x5_2) 0 (wrap64 (a0_0 - 1)) false _ A15.out).mono ?_);rintro e w' ⟨rfl,⟨nd,rfl⟩⟩;(try first|exact ⟨rfl,_,World.drewN_drewN _ _ _⟩|exact ⟨rfl,_,Eq.trans (World.drewN_drewN _ _ _) (congrArg (World.drewN _) (Nat.add_assoc _ _ _))⟩))));(repeat (go_quiet (first|(go_at_call 44;(with_reducible refine (railplanref11_in.calls (rd l1 x5_2) 0 (wrap64 (a0_0 - 1)) false _ A15.out).mono ?_);rintro e w' ⟨rfl,⟨nd,rfl⟩⟩;(try first|exact ⟨rfl,_,World.drewN_drewN _ _ _⟩|exact ⟨rfl,_,Eq.trans (World.drewN_drewN _ _ _) (congrArg (World.drewN _) (Nat.add_assoc _ _ _))⟩)));try go_wp2_with (first|(go_at_call 44;(with_reducible refine (railplanref11_in.calls (rd l1 x5_2) 0 (wrap64 (a0_0 - 1)) false _ A15.out).mono ?_);rintro e w' ⟨rfl,⟨nd,rfl⟩⟩;(try first|exact ⟨rfl,_,World.drewN_drewN _ _ _⟩|exact ⟨rfl,_,Eq.trans (World.drewN_drewN _ _ _) (congrArg (World.drewN _) (Nat.add_assoc _ _ _))⟩)))));(go_ret);(exact ⟨by first|rfl|(simp [errW_none,errW_some] <;> rfl)|(simp [*,errW_none,errW_some] <;> rfl),hB_ HB⟩))
       ·rw [if_neg c14] at H;(simp at H)
      ·rw [if_neg c13] at H;(have c13b0:=decide_eq_false c13;clear c13;obtain rfl:=Option.some.inj H;(go_wp2);(repeat (go_quiet (fail);try go_wp2));(go_ret);(exact ⟨by first|rfl|(simp [errW_none,errW_some] <;> rfl)|(simp [*,errW_none,errW_some] <;> rfl),hB_ HB⟩))
end Go.Proofs.Ytgbcgbfoejkieaa.PAll
