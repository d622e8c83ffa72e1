-- Packed by wip/tools/pack.py of this session out of what plugprint.py and the kit's print wrote. Lean checks it.
import Derived.Test.YtgbcgbfoejkieaaIS
import Derived.Test.YtgbcgbfoejkieaaI0
namespace Go.Proofs.Ytgbcgbfoejkieaa.PAll
open Go.RowKit Go.Proofs.YtgbcgbfoejkieaaW.PrintWords Go.Proofs.YtgbcgbfoejkieaaW.PrintLast Go.Proofs.YtgbcgbfoejkieaaW.PrintMore
attribute [local go_sem] max2_int min2_int max_two min_two max_three min_three max_four min_four
set_option linter.unusedVariables false
set_option linter.unusedSimpArgs false
/-! ### railplanlaw14_list: function 20 -/
def railplanlaw14_list.l0 : Nat → Int → List Int → Int → Int → List Int → Int → Option (List Int)
 | 0,_,_,_,_,_,_ => none
 | k + 1,x2,x8,x15,x16,x421000,x421001 => if x16 < x15 then ((railplankeep_Source_Next.f x421000 x421001 (wrap64 (x2 + 1))).bind fun bt424 => (if 0 ≤ x16 then (if x16 < (x8.length : Int) then (railplanlaw14_list.l0 k x2 (x8.set (x16 : Int).toNat bt424.1) x15 (wrap64 (x16 + 1)) x421000 bt424.2) else (none)) else (none))) else (some x8)
def railplanlaw14_list.f (k : Nat) (l0 : List Int) (a1 : Int) (a2 : Int) : Option (List Int):=(railplankeep_From.f l0).bind fun bt418 => (if 0 ≤ a1 then (if (a1 : Int).toNat ≤ 35184372088832 then ((some (List.replicate (a1 : Int).toNat 0 : List Int)).bind fun y421 => (railplanlaw14_list.l0 k a2 y421 (y421.length : Int) 0 bt418.1 bt418.2)) else (none)) else (none))
theorem railplanlaw14_list.mono_l : ∀ k,(∀ y0 y1 y2 y3 y4 y5,LeO (railplanlaw14_list.l0 k y0 y1 y2 y3 y4 y5) (railplanlaw14_list.l0 (k + 1) y0 y1 y2 y3 y4 y5))
 | 0 => fun _ _ _ _ _ _ r h => by simp [railplanlaw14_list.l0] at h
 | k + 1 => by
  have ih0:=railplanlaw14_list.mono_l k
  ·intro y0 y1 y2 y3 y4 y5
   unfold railplanlaw14_list.l0
   repeat' first
   | (with_reducible exact ih0 _ _ _ _ _ _)
   | (with_reducible exact LeO.refl _)
   | (with_reducible exact LeO.none _)
   | (with_reducible refine LeO.ite ?_ ?_)
   | (with_reducible refine LeO.bind ?_ (fun _ => ?_))
   | exact ih0 _ _ _ _ _ _
   | exact LeO.none _
   | refine LeO.ite ?_ ?_
   | refine LeO.bind ?_ (fun _ => ?_)
theorem railplanlaw14_list.mono : ∀ a0 a1 a2 k,LeO (railplanlaw14_list.f k a0 a1 a2) (railplanlaw14_list.f (k + 1) a0 a1 a2):=by
 intro a0 a1 a2 k;have ih0:=railplanlaw14_list.mono_l k;(unfold railplanlaw14_list.f)
 repeat' first
   | (with_reducible exact ih0 _ _ _ _ _ _)
   | (with_reducible exact LeO.refl _)
   | (with_reducible exact LeO.none _)
   | (with_reducible refine LeO.ite ?_ ?_)
   | (with_reducible refine LeO.bind ?_ (fun _ => ?_))
   | exact ih0 _ _ _ _ _ _
   | exact LeO.none _
   | refine LeO.ite ?_ ?_
   | refine LeO.bind ?_ (fun _ => ?_)
set_option maxHeartbeats 8000000 in
set_option maxRecDepth 100000 in
theorem railplanlaw14_list.calls (k : Nat) (A0 : Option Addr) (c0 : Nat) (l0 : List Int) (a1 : Int) (a2 : Int) (r : List Int) (w : World) (hr0 : Kd.C (Kd.int .i64) w A0 l0.length l0) (hc0 : l0.length ≤ c0) (h : railplanlaw14_list.f k l0 a1 a2 = some r) :
  Calls Try.prog 20 #[.slice A0 l0.length c0,.int .i64 a1,.int .i64 a2] w fun e w' => ∃ v0_ : Value,e = .returned (v0_) ∧ Kd.R (Kd.int .i64) 3 w' w.heap.size (fun _ => True) v0_ r ∧ Below w.heap.size w w':=by
 have HR0:=am_ hr0
 have HC0:=am_ hc0
 clear hr0 hc0
 have HB:=am_ (Below.refl w.heap.size w)
 have H : ((railplankeep_From.f l0).bind fun bt418 => (if 0 ≤ a1 then (if (a1 : Int).toNat ≤ 35184372088832 then ((some (List.replicate (a1 : Int).toNat 0 : List Int)).bind fun y421 => (railplanlaw14_list.l0 k a2 y421 (y421.length : Int) 0 bt418.1 bt418.2)) else (none)) else (none))) = some r:=h
 clear h
 replace H:=be_ H
 obtain ⟨⟨t418,t419⟩,A40,H⟩:=H
 (try dsimp only at H)
 have A4:=am_ A40
 clear A40
 by_cases c5 : 0 ≤ a1
 ·rw [if_pos c5] at H
  have c5b0:=eq_true c5;have c5b1:=decide_eq_true c5;clear c5
  by_cases c6 : (a1 : Int).toNat ≤ 35184372088832
  ·rw [if_pos c6] at H
   have c6b0:=eq_true c6;have c6b1:=decide_eq_true c6;clear c6;obtain ⟨y421,hy421⟩ : ∃ y_ : List Int,y_ = (List.replicate (a1 : Int).toNat 0):=⟨_,rfl⟩;replace H:=bsn_ H hy421;have Ny421:=am_ hy421;clear hy421;have H':=am_ H;clear H;(go_enter Try.func20,Try.ntmps20);(go_wp2_with (first|((with_reducible refine gc_ (f:=32) rfl ?_);refine gl_ (some 11) Try.func32 #[.slice A0 l0.length c0] ?_;(with_reducible refine (railplankeep_From.calls _ _ l0 t418 t419 w _ ?side1 HR0.out HC0.out A4.out).mono ?_);(case side1 => repeat (first|(with_reducible first|exact HB.out|apply bA_|apply bN_|apply b1_)|exact HB.out));rintro e w7 ⟨g420,rfl,hi,hb,hb2⟩;refine ⟨_,rfl,?_⟩;have n0_:=am_ (hb);have n1_:=am_ (hi);revert n0_ n1_;clear HB;intro HB HI420;(try clear hb);(try clear hb2);(try clear hk);(try clear hi))|((with_reducible refine gd_ (N:=13) rfl ?_);refine Kd.R_make (Kd.int .i64) _ 3 rfl (N:=13) rfl 22 _ _ rfl a1 rfl rfl Try.underlying22 (.int .i64 0) 8 info3 rfl (by decide) (by omega) 0 (ok:=fun _ => True) (okp:=fun _ => True) rfl (fun _ hk => hk) trivial (of_decide_eq_true (by first|(with_reducible assumption)|assumption)) (Nat.le_trans (Nat.mul_le_mul_right _ (of_decide_eq_true (by first|(with_reducible assumption)|assumption) : a1.toNat ≤ 35184372088832)) (by omega)) (Below.refl _ _) (Nat.le_refl _) ?_;intro v422 w8 ho9 hb hg_ hnew_;clear hg_ hnew_;(first|rw [← Ny421.out] at ho9|(simp only [Int.reduceToNat] at ho9;rw [← Ny421.out] at ho9));have n0_:=am_ (RL_ ho9 (bz_ (by repeat (first|(with_reducible first|exact HB.out|apply bA_|apply bN_|apply b1_|refine bS_ ?_ (IsS79.ge HI420.out))|exact HB.out))));have n1_:=am_ (IsS79.below (by repeat (first|(with_reducible first|exact HI420.out|apply IsS79.alloc|apply IsS79.drewN|apply IsS79.drew|apply IsS79.set_1)|exact HI420.out)) hb);have n2_:=am_ (bs_ (by repeat (first|(with_reducible first|exact HB.out|apply bA_|apply bN_|apply b1_|refine bS_ ?_ (IsS79.ge HI420.out))|exact HB.out)) hb);revert n0_ n1_ n2_;clear HI420 HB;intro HO423 HI420 HB;clear hb ho9;obtain ⟨Ao10,co10,eo10⟩:=RS_ HO423.out;subst eo10)));(go_loopg [16] k (fun kq v16 w' => ∃ (x8_1 : List Int) (x16_1 : Int) (x421001_1 : Int),v16 = .int .i64 x16_1 ∧ Aside0 (railplanlaw14_list.l0 kq a2 x8_1 (y421.length : Int) x16_1 t418 x421001_1 = some r) ∧ Aside0 (kq ≤ k) ∧ Aside0 (Kd.R (Kd.int .i64) 3 w' w.heap.size (fun _ => True) (.slice Ao10 y421.length co10) x8_1) ∧ Aside0 (IsS79 w w' g420 t418 x421001_1) ∧ Aside0 (Below w.heap.size w w')))
   case atStart => exact ⟨(y421),(0),(t419),(by first|rfl|(simp;done)|(simp [*];done)),H',⟨Nat.le_refl _⟩,rr_ HO423,⟨by repeat (first|(with_reducible first|exact HI420.out|apply IsS79.alloc|apply IsS79.drewN|apply IsS79.drew|apply IsS79.set_1)|exact HI420.out)⟩,⟨by repeat (first|(with_reducible first|exact HB.out|apply bA_|apply bN_|apply b1_|refine bS_ ?_ (IsS79.ge HI420.out))|exact HB.out)⟩⟩
   case round =>
    clear H';(try clear c2);(try clear p2);(try clear c3);(try clear c5);(try clear c5b0);(try clear c5b1);(try clear c6);(try clear c6b0);(try clear c6b1);obtain ⟨x8_1,x16_1,x421001_1,rfl,HA,HK1,HO_8,HI420,HB⟩:=hrel;have hl8_1:=(RR_ HO_8.out).1;rw [hl8_1] at HO_8;(try simp only [hl8_1]);cases gk with
    | zero => exact absurd HA.out (by simp [railplanlaw14_list.l0])
    | succ k1 =>
     have H:=HA.out;clear HA;simp only [railplanlaw14_list.l0] at H
     by_cases c11 : x16_1 < (y421.length : Int)
     ·rw [if_pos c11] at H
      have c11b0:=decide_eq_true c11;(try simp only [hl8_1] at c11b0);clear c11;replace H:=be_ H;obtain ⟨⟨t424,t425⟩,A120,H⟩:=H;(try dsimp only at H);have A12:=am_ A120;clear A120
      by_cases c13 : 0 ≤ x16_1
      ·rw [if_pos c13] at H
       have c13b0:=decide_eq_true c13;clear c13
       by_cases c14 : x16_1 < (x8_1.length : Int)
       ·rw [if_pos c14] at H
        have c14b0:=decide_eq_true c14;clear c14;obtain ⟨y426,hy426⟩ : ∃ y_ : List Int,y_ = (x8_1.set (x16_1 : Int).toNat t424):=⟨_,rfl⟩;(replace H : (railplanlaw14_list.l0 k1 a2 y426 (y421.length : Int) (wrap64 (x16_1 + 1)) t418 t425) = some r:=by first|(rw [hy426];with_reducible exact H)|(have H2_:=(Option.bind_some _ _).symm.trans H;rw [hy426];with_reducible exact H2_)|(have H2_:=(Option.bind_some _ _).symm.trans H;with_reducible exact H2_)|with_reducible exact H|(rw [hy426];exact H)|exact H);have Ny426:=am_ hy426;clear hy426;have H':=am_ H;clear H;(go_wp2_with (first|((with_reducible refine gc_ (f:=33) rfl ?_);refine gl_ (some 24) Try.func33 #[.pointer (some ⟨g420,0,none⟩),.int .i64 (wrap64 (a2 + 1))] ?_;(with_reducible refine (railplankeep_Source_Next.calls g420 t418 x421001_1 (wrap64 (a2 + 1)) t424 t425 w _ ?side1 ?side2 A12.out).mono ?_);(case side1 => repeat (first|(with_reducible first|exact HI420.out|apply IsS79.alloc|apply IsS79.drewN|apply IsS79.drew|apply IsS79.set_1)|exact HI420.out));(case side2 => repeat (first|(with_reducible first|exact HB.out|apply bA_|apply bN_|apply b1_|refine bS_ ?_ (IsS79.ge HI420.out))|exact HB.out));rintro e w16 ⟨rfl,hi,hb,hk⟩;refine ⟨_,rfl,?_⟩;have n0_:=am_ (RM_ (Kd.R_keep (IsS79.apart (show IsS79 w _ g420 t418 x421001_1 from by repeat (first|(with_reducible first|exact HI420.out|apply IsS79.alloc|apply IsS79.drewN|apply IsS79.drew|apply IsS79.set_1)|exact HI420.out)) (ra_ HO_8.out) (by decide)) hk (fun _ h => h.2)) (fun _ h => h.1));have n1_:=am_ (hb);have n2_:=am_ (hi);revert n0_ n1_ n2_;clear HO_8 HB HI420;intro HO_8 HB HI420;(try clear hb);(try clear hb2);(try clear hk);(try clear hi);have p15:=de_ (0 ≤ (x16_1 : Int));have q15:=de_ ((x16_1 : Int) < ((x8_1.length : Int) : Int));obtain ⟨go15,co15,eo15,gb15,gl15,cl15,HG15⟩:=Kd.R_form HO_8.out (by omega);(first|cases eo15|(injection eo15 with ea_ en_ ec_;(first|subst ea_|(injection ea_ with ea_;subst ea_));subst ec_;clear en_));have GB15:=am_ gb15;have GG15:=am_ HG15;clear gb15 gl15 HG15;obtain ⟨hx15_0,hf15_0⟩:=Kd.R_celln 0 HO_8.out (x16_1 : Int) p15 q15;replace p15:=eq_true p15;replace q15:=eq_true q15;obtain ⟨hy17_,hz17_⟩:=Kd.R_celln 0 HO_8.out (x16_1 : Int) (of_decide_eq_true (by first|(with_reducible assumption)|assumption)) (of_decide_eq_true (by first|(with_reducible assumption)|assumption));have HP17:=Kd.R_putg HO_8.out (x16_1 : Int) t424)|((with_reducible refine gate_store (t:=3) (p:=25) rfl ?_);refine store_event (t:=3) (p:=25) (v:=?vo_w18) (w1:=(w16.setCell ⟨go15,(x16_1 : Int).toNat,none⟩ (.int .i64 t424))) ?hg ?ho ?hn ?hr ?_;(case ho => rfl);(case hg => rfl);(case hn => rfl);(case hr => first|(go_simp;done)|(go_simp;rfl));intro w18 hw;have hg : w16.grownBy w18 (some go15):=(by rw [hw];exact HP17.2);have hp_ : Kd.R (Kd.int .i64) 3 w18 w.heap.size (fun _ => True) (.slice (some ⟨go15,0,none⟩) x8_1.length co10) y426:=(by rw [hw,Ny426.out];exact HP17.1);clear HP17;have n0_:=am_ (hp_);have n1_:=am_ (IsS79.grown (show IsS79 w _ g420 t418 t425 from by repeat (first|(with_reducible first|exact HI420.out|apply IsS79.alloc|apply IsS79.drewN|apply IsS79.drew|apply IsS79.set_1)|exact HI420.out)) hg (IsS79.own_ne HI420.out HO_8.out (by decide)));have n2_:=am_ ((by rw [hw];exact bS_ (HB.out) GB15.out : Below w.heap.size w w18));revert n0_ n1_ n2_;clear HO_8 HI420 HB;intro HO_8 HI420 HB;clear hg hw hp_)));(try simp only [← hl8_1]);(go_roundg k1)
        case measure => have:=HK1.out;omega
        case rel => exact ⟨(y426),(wrap64 (x16_1 + 1)),(t425),(by first|rfl|(simp;done)|(simp [*];done)),H',⟨by have:=HK1.out;omega⟩,⟨by (try simp only [hl8_1]);(with_reducible repeat (first|apply RA_|apply RN_|apply RD_));exact HO_8.out⟩,⟨by repeat (first|(with_reducible first|exact HI420.out|apply IsS79.alloc|apply IsS79.drewN|apply IsS79.drew|apply IsS79.set_1)|exact HI420.out)⟩,⟨by repeat (first|(with_reducible first|exact HB.out|apply bA_|apply bN_|apply b1_|refine bS_ ?_ (IsS79.ge HI420.out))|exact HB.out)⟩⟩
       ·rw [if_neg c14] at H;(simp at H)
      ·rw [if_neg c13] at H;(simp at H)
     ·rw [if_neg c11] at H;(have c11b0:=decide_eq_false c11;(try simp only [hl8_1] at c11b0);clear c11;obtain rfl:=Option.some.inj H;(go_wp2);(go_ret);(exact ⟨_,by first|rfl|(simp [errW_none,errW_some] <;> rfl)|(simp [*,errW_none,errW_some] <;> rfl),by (with_reducible repeat (first|apply RA_|apply RN_|apply RD_));exact HO_8.out,by repeat (first|(with_reducible first|exact HB.out|apply bA_|apply bN_|apply b1_|refine bS_ ?_ (IsS79.ge HI420.out))|exact HB.out)⟩))
  ·rw [if_neg c6] at H;(simp at H)
 ·rw [if_neg c5] at H;(simp at H)
end Go.Proofs.Ytgbcgbfoejkieaa.PAll
