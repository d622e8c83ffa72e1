-- Packed by wip/tools/pack.py of this session out of what plugprint.py and the kit's print wrote. Lean checks it.
import Derived.Test.YtiohandkjjmemaaKS
import Derived.Test.YtiohandkjjmemaaK0
namespace Go.Proofs.Ytiohandkjjmemaa.PAll
open Go.RowKit Go.Proofs.YtiohandkjjmemaaW.PrintWords Go.Proofs.YtiohandkjjmemaaW.PrintLast Go.Proofs.YtiohandkjjmemaaW.PrintMore
attribute [local go_sem] max2_int min2_int max_two min_two max_three min_three max_four min_four
set_option linter.unusedVariables false
set_option linter.unusedSimpArgs false
/-! ### railplankeep_Occupations: function 20 -/
def railplankeep_Occupations.l0 : Nat → List (S39) → Int → List Int → Int → Option ((List (S39)))
 | 0,_,_,_,_ => none
 | k + 1,x4,x5,x258000,x258001 => if x5 < 6 then ((railplankeep_Source_Next.f x258000 x258001 3).bind fun bt258 => (if bt258.1 > 0 then ((railplankeep_Source_Next.f x258000 bt258.2 60).bind fun bt260 => ((railplankeep_Source_Next.f x258000 bt260.2 20).bind fun bt262 => (if x4.length < 5864062014805 then (railplankeep_Occupations.l0 k (x4 ++ [(⟨x5,wrap64 (bt260.1 - 20),wrap64 ((wrap64 ((wrap64 (bt260.1 - 20)) + 1)) + bt262.1)⟩ : S39)]) (wrap64 (x5 + 1)) x258000 bt262.2) else (none)))) else (railplankeep_Occupations.l0 k x4 (wrap64 (x5 + 1)) x258000 bt258.2))) else (some x4)
def railplankeep_Occupations.f (k : Nat) (l0 : List Int) : Option ((List (S39))):=(railplankeep_From.f l0).bind fun bt255 => (railplankeep_Occupations.l0 k ([] : List (S39)) 0 bt255.1 bt255.2)
theorem railplankeep_Occupations.mono_l : ∀ k,(∀ y0 y1 y2 y3,LeO (railplankeep_Occupations.l0 k y0 y1 y2 y3) (railplankeep_Occupations.l0 (k + 1) y0 y1 y2 y3))
 | 0 => fun _ _ _ _ r h => by simp [railplankeep_Occupations.l0] at h
 | k + 1 => by
  have ih0:=railplankeep_Occupations.mono_l k
  ·intro y0 y1 y2 y3
   unfold railplankeep_Occupations.l0
   repeat' first
   | (with_reducible exact ih0 _ _ _ _)
   | (with_reducible exact LeO.refl _)
   | (with_reducible exact LeO.none _)
   | (with_reducible refine LeO.ite ?_ ?_)
   | (with_reducible refine LeO.bind ?_ (fun _ => ?_))
   | exact ih0 _ _ _ _
   | exact LeO.none _
   | refine LeO.ite ?_ ?_
   | refine LeO.bind ?_ (fun _ => ?_)
theorem railplankeep_Occupations.mono : ∀ a0 k,LeO (railplankeep_Occupations.f k a0) (railplankeep_Occupations.f (k + 1) a0):=by
 intro a0 k;(have ih0:=railplankeep_Occupations.mono_l k);(unfold railplankeep_Occupations.f)
 repeat' first
   | (with_reducible exact ih0 _ _ _ _)
   | (with_reducible exact LeO.refl _)
   | (with_reducible exact LeO.none _)
   | (with_reducible refine LeO.ite ?_ ?_)
   | (with_reducible refine LeO.bind ?_ (fun _ => ?_))
   | exact ih0 _ _ _ _
   | exact LeO.none _
   | refine LeO.ite ?_ ?_
   | refine LeO.bind ?_ (fun _ => ?_)
set_option maxHeartbeats 8000000 in
set_option maxRecDepth 100000 in
theorem railplankeep_Occupations.calls (k : Nat) (A0 : Option Addr) (c0 : Nat) (l0 : List Int) (r : List (S39)) (w : World) (hr0 : Kd.C (Kd.int .i64) w A0 l0.length l0) (hc0 : l0.length ≤ c0) (h : railplankeep_Occupations.f k l0 = some r) :
  Calls Try.prog 20 #[.slice A0 l0.length c0] w fun e w' => ∃ v0_ : Value,e = .returned (v0_) ∧ Kd.R k39 39 w' w.heap.size (fun _ => True) v0_ r ∧ Below w.heap.size w w':=by
 have hu39:=Try.underlying39
 have HR0:=am_ hr0
 have HC0:=am_ hc0
 clear hr0 hc0
 have HB:=am_ (Below.refl w.heap.size w)
 have H : ((railplankeep_From.f l0).bind fun bt255 => (railplankeep_Occupations.l0 k ([] : List (S39)) 0 bt255.1 bt255.2)) = some r:=h
 clear h
 replace H:=be_ H
 obtain ⟨⟨t255,t256⟩,A20,H⟩:=H
 replace H : (railplankeep_Occupations.l0 k ([] : List (S39)) 0 t255 t256) = some r:=H
 have A2:=am_ A20
 clear A20
 have H':=am_ H
 clear H
 go_enter Try.func20,Try.ntmps20
 go_wp2_with (first|((with_reducible refine gc_ (f:=28) rfl ?_);refine goesL_ (some 8) rfl rfl Try.func28 (by kernel_rfl) rfl #[.slice A0 l0.length c0] rfl (by (try simp only [List.map_toArray,List.map_cons,List.map_nil]);first|done|rfl|(simp only [List.length_drop,List.length_take];rfl)) ?_;(with_reducible refine (railplankeep_From.calls _ _ l0 t255 t256 w _ ?side1 ?side2 ?side3 A2.out).mono ?_);(case side1 => repeat (first|(with_reducible first|exact HB.out|apply bA_|apply bN_|apply b1_)|exact HB.out));(case side2 => exact HR0.out);(case side3 => exact HC0.out);rintro e w3 ⟨g257,rfl,hi,hb,hb2⟩;refine ⟨_,rfl,?_⟩;have n0_:=am_ (hb);have n1_:=am_ (hi);clear HB;have HB:=n0_;have HI257:=n1_;clear n0_ n1_;(try clear hb);(try clear hb2);(try clear hk);(try clear hi)))
 go_loopg [4,5] k (fun kq v4 v5 w' => ∃ (x4_1 : List (S39)) (x5_1 : Int) (x258001_1 : Int),v5 = .int .i64 x5_1 ∧ Aside0 (railplankeep_Occupations.l0 kq x4_1 x5_1 t255 x258001_1 = some r) ∧ Aside0 (kq ≤ k) ∧ Aside0 (Kd.R k39 39 w' w.heap.size (fun _ => True) v4 x4_1) ∧ Aside0 (IsS53 w w' g257 t255 x258001_1) ∧ Aside0 (Below w.heap.size w w'))
 case atStart => exact ⟨(([] : List (S39))),(0),(t256),(by first|rfl|(simp;done)|(simp [*];done)),H',⟨Nat.le_refl _⟩,⟨by first|exact Kd.R_nil _ _ _ _ _|exact Kd.N_nil _ _ _ _ _|exact Kd.V_nil _ _ _ _ _|exact Kd.Q_nil _ _ _ _ _|exact Kd.S_nil _ _ _ _ _⟩,⟨by repeat (first|(with_reducible first|exact HI257.out|apply IsS53.alloc|apply IsS53.drewN|apply IsS53.drew|apply IsS53.set_1)|exact HI257.out)⟩,⟨by repeat (first|(with_reducible first|exact HB.out|apply bA_|apply bN_|apply b1_|refine bS_ ?_ (IsS53.ge HI257.out))|exact HB.out)⟩⟩
 case round =>
  clear H';(try clear c2);(try clear p2);obtain ⟨x4_1,x5_1,x258001_1,rfl,HA,HK1,HO_4,HI257,HB⟩:=hrel;cases gk with
  | zero => exact absurd HA.out (by simp [railplankeep_Occupations.l0])
  | succ k1 =>
   (have H:=HA.out);clear HA;simp only [railplankeep_Occupations.l0] at H
   by_cases c4 : x5_1 < 6
   ·rw [if_pos c4] at H
    (have c4b0:=decide_eq_true c4);clear c4;replace H:=be_ H;obtain ⟨⟨t258,t259⟩,A50,H⟩:=H;replace H : (if t258 > 0 then ((railplankeep_Source_Next.f t255 t259 60).bind fun bt260 => ((railplankeep_Source_Next.f t255 bt260.2 20).bind fun bt262 => (if x4_1.length < 5864062014805 then (railplankeep_Occupations.l0 k1 (x4_1 ++ [(⟨x5_1,wrap64 (bt260.1 - 20),wrap64 ((wrap64 ((wrap64 (bt260.1 - 20)) + 1)) + bt262.1)⟩ : S39)]) (wrap64 (x5_1 + 1)) t255 bt262.2) else (none)))) else (railplankeep_Occupations.l0 k1 x4_1 (wrap64 (x5_1 + 1)) t255 t259)) = some r:=H;(have A5:=am_ A50);clear A50
    by_cases c6 : t258 > 0
    ·rw [if_pos c6] at H
     (have c6b0:=decide_eq_true c6);clear c6;replace H:=be_ H;obtain ⟨⟨t260,t261⟩,A70,H⟩:=H;replace H : ((railplankeep_Source_Next.f t255 t261 20).bind fun bt262 => (if x4_1.length < 5864062014805 then (railplankeep_Occupations.l0 k1 (x4_1 ++ [(⟨x5_1,wrap64 (t260 - 20),wrap64 ((wrap64 ((wrap64 (t260 - 20)) + 1)) + bt262.1)⟩ : S39)]) (wrap64 (x5_1 + 1)) t255 bt262.2) else (none))) = some r:=H;(have A7:=am_ A70);clear A70;replace H:=be_ H;obtain ⟨⟨t262,t263⟩,A80,H⟩:=H;replace H : (if x4_1.length < 5864062014805 then (railplankeep_Occupations.l0 k1 (x4_1 ++ [(⟨x5_1,wrap64 (t260 - 20),wrap64 ((wrap64 ((wrap64 (t260 - 20)) + 1)) + t262)⟩ : S39)]) (wrap64 (x5_1 + 1)) t255 t263) else (none)) = some r:=H;(have A8:=am_ A80);clear A80
     by_cases c9 : x4_1.length < 5864062014805
     ·rw [if_pos c9] at H
      (have LMc9:=am_ c9);clear c9;obtain ⟨y264,hy264⟩ : ∃ y_ : List (S39),y_ = (x4_1 ++ [(⟨x5_1,wrap64 (t260 - 20),wrap64 ((wrap64 ((wrap64 (t260 - 20)) + 1)) + t262)⟩ : S39)]):=⟨_,rfl⟩;(replace H : (railplankeep_Occupations.l0 k1 y264 (wrap64 (x5_1 + 1)) t255 t263) = some r:=by first|(rw [hy264];with_reducible exact H)|(have H2_:=(Option.bind_some _ _).symm.trans H;rw [hy264];with_reducible exact H2_)|(have H2_:=(Option.bind_some _ _).symm.trans H;with_reducible exact H2_)|with_reducible exact H|(rw [hy264];exact H)|exact H);(have Ny264:=am_ hy264);clear hy264;(have H':=am_ H);clear H;(go_wp2_with (first|((with_reducible refine gc_ (f:=29) rfl ?_);refine goesL_ (some 14) rfl rfl Try.func29 (by kernel_rfl) rfl #[.pointer (some ⟨g257,0,none⟩),.int .i64 3] rfl (by (try simp only [List.map_toArray,List.map_cons,List.map_nil]);first|done|rfl|(simp only [List.length_drop,List.length_take];rfl)) ?_;(with_reducible refine (railplankeep_Source_Next.calls g257 t255 x258001_1 3 t258 t259 w _ ?side1 ?side2 A5.out).mono ?_);(case side1 => repeat (first|(with_reducible first|exact HI257.out|apply IsS53.alloc|apply IsS53.drewN|apply IsS53.drew|apply IsS53.set_1)|exact HI257.out));(case side2 => repeat (first|(with_reducible first|exact HB.out|apply bA_|apply bN_|apply b1_|refine bS_ ?_ (IsS53.ge HI257.out))|exact HB.out));rintro e w10 ⟨rfl,hi,hb,hk⟩;refine ⟨_,rfl,?_⟩;have n0_:=am_ (RM_ (Kd.R_keep (IsS53.apart (show IsS53 w _ g257 t255 x258001_1 from by repeat (first|(with_reducible first|exact HI257.out|apply IsS53.alloc|apply IsS53.drewN|apply IsS53.drew|apply IsS53.set_1)|exact HI257.out)) (by (with_reducible repeat (first|apply RA_|apply RN_|apply RD_));exact HO_4.out) (by decide)) hk (fun _ h => h.2)) (fun _ h => h.1));have n1_:=am_ (hb);have n2_:=am_ (hi);clear HO_4;clear HB;clear HI257;have HO_4:=n0_;have HB:=n1_;have HI257:=n2_;clear n0_ n1_ n2_;(try clear hb);(try clear hb2);(try clear hk);(try clear hi))|((with_reducible refine gc_ (f:=29) rfl ?_);refine goesL_ (some 17) rfl rfl Try.func29 (by kernel_rfl) rfl #[.pointer (some ⟨g257,0,none⟩),.int .i64 60] rfl (by (try simp only [List.map_toArray,List.map_cons,List.map_nil]);first|done|rfl|(simp only [List.length_drop,List.length_take];rfl)) ?_;(with_reducible refine (railplankeep_Source_Next.calls g257 t255 t259 60 t260 t261 w _ ?side1 ?side2 A7.out).mono ?_);(case side1 => repeat (first|(with_reducible first|exact HI257.out|apply IsS53.alloc|apply IsS53.drewN|apply IsS53.drew|apply IsS53.set_1)|exact HI257.out));(case side2 => repeat (first|(with_reducible first|exact HB.out|apply bA_|apply bN_|apply b1_|refine bS_ ?_ (IsS53.ge HI257.out))|exact HB.out));rintro e w11 ⟨rfl,hi,hb,hk⟩;refine ⟨_,rfl,?_⟩;have n0_:=am_ (RM_ (Kd.R_keep (IsS53.apart (show IsS53 w _ g257 t255 t259 from by repeat (first|(with_reducible first|exact HI257.out|apply IsS53.alloc|apply IsS53.drewN|apply IsS53.drew|apply IsS53.set_1)|exact HI257.out)) (by (with_reducible repeat (first|apply RA_|apply RN_|apply RD_));exact HO_4.out) (by decide)) hk (fun _ h => h.2)) (fun _ h => h.1));have n1_:=am_ (hb);have n2_:=am_ (hi);clear HO_4;clear HB;clear HI257;have HO_4:=n0_;have HB:=n1_;have HI257:=n2_;clear n0_ n1_ n2_;(try clear hb);(try clear hb2);(try clear hk);(try clear hi))|((with_reducible refine gc_ (f:=29) rfl ?_);refine goesL_ (some 25) rfl rfl Try.func29 (by kernel_rfl) rfl #[.pointer (some ⟨g257,0,none⟩),.int .i64 20] rfl (by (try simp only [List.map_toArray,List.map_cons,List.map_nil]);first|done|rfl|(simp only [List.length_drop,List.length_take];rfl)) ?_;(with_reducible refine (railplankeep_Source_Next.calls g257 t255 t261 20 t262 t263 w _ ?side1 ?side2 A8.out).mono ?_);(case side1 => repeat (first|(with_reducible first|exact HI257.out|apply IsS53.alloc|apply IsS53.drewN|apply IsS53.drew|apply IsS53.set_1)|exact HI257.out));(case side2 => repeat (first|(with_reducible first|exact HB.out|apply bA_|apply bN_|apply b1_|refine bS_ ?_ (IsS53.ge HI257.out))|exact HB.out));rintro e w12 ⟨rfl,hi,hb,hk⟩;refine ⟨_,rfl,?_⟩;have n0_:=am_ (RM_ (Kd.R_keep (IsS53.apart (show IsS53 w _ g257 t255 t261 from by repeat (first|(with_reducible first|exact HI257.out|apply IsS53.alloc|apply IsS53.drewN|apply IsS53.drew|apply IsS53.set_1)|exact HI257.out)) (by (with_reducible repeat (first|apply RA_|apply RN_|apply RD_));exact HO_4.out) (by decide)) hk (fun _ h => h.2)) (fun _ h => h.1));have n1_:=am_ (hb);have n2_:=am_ (hi);clear HO_4;clear HB;clear HI257;have HO_4:=n0_;have HB:=n1_;have HI257:=n2_;clear n0_ n1_ n2_;(try clear hb);(try clear hb2);(try clear hk);(try clear hi))|((with_reducible refine gate_builtin (b:=.append) (xs:=#[.tmp 19,.tmp 28]) rfl ?_);at_builtin;refine Kd.R_append k39 (w0:=w) w.heap.size rfl (.tmp 19) (.tmp 28) 37 39 (.agg #[(.int .i64 0),(.int .i64 0),(.int .i64 0)]) 24 rfl Try.underlying37 info39 rfl (by decide) (by omega) u4 x4_1 (⟨x5_1,wrap64 (t260 - 20),wrap64 ((wrap64 ((wrap64 (t260 - 20)) + 1)) + t262)⟩ : S39) [.int .i64 x5_1,.int .i64 (wrap64 (t260 - 20)),.int .i64 (wrap64 ((wrap64 ((wrap64 (t260 - 20)) + 1)) + t262))] (fun _ => True) (fun _ => False) rfl rfl ?aP (fun _ hk => hk.elim) ?aF ?aO ?aB ?aS ?aL ?_;(case aP => exact k39_mkM _ _ _ (⟨x5_1,wrap64 (t260 - 20),wrap64 ((wrap64 ((wrap64 (t260 - 20)) + 1)) + t262)⟩ : S39));(case aB => exact (by repeat (first|(with_reducible first|exact HB.out|apply bA_|apply bN_|apply b1_|refine bS_ ?_ (IsS53.ge HI257.out))|exact HB.out)));(case aF => exact (fun _ _ => trivial));(case aO => exact (by (with_reducible repeat (first|apply RA_|apply RN_|apply RD_));exact HO_4.out));(case aS => exact (bz_ (by repeat (first|(with_reducible first|exact HB.out|apply bA_|apply bN_|apply b1_|refine bS_ ?_ (IsS53.ge HI257.out))|exact HB.out))));(case aL => have:=LMc9.out;omega);intro v265 w13 ho hb hg hat;rw [← Ny264.out] at ho;have n0_:=am_ (IsS53.grown (show IsS53 w _ g257 t255 t263 from by repeat (first|(with_reducible first|exact HI257.out|apply IsS53.alloc|apply IsS53.drewN|apply IsS53.drew|apply IsS53.set_1)|exact HI257.out)) hg (IsS53.own_ne HI257.out HO_4.out (by decide)));have n1_:=am_ (hb);have n2_:=am_ (ho);clear HI257;clear HB;clear HO_4;have HI257:=n0_;have HB:=n1_;have HO266:=n2_;clear n0_ n1_ n2_;clear ho hb hg hat)));(go_roundg k1)
      case measure => have:=HK1.out;omega
      case rel => exact ⟨(y264),(wrap64 (x5_1 + 1)),(t263),(by first|rfl|(simp;done)|(simp [*];done)),H',⟨by have:=HK1.out;omega⟩,⟨by (with_reducible repeat (first|apply RA_|apply RN_|apply RD_));exact HO266.out⟩,⟨by repeat (first|(with_reducible first|exact HI257.out|apply IsS53.alloc|apply IsS53.drewN|apply IsS53.drew|apply IsS53.set_1)|exact HI257.out)⟩,⟨by repeat (first|(with_reducible first|exact HB.out|apply bA_|apply bN_|apply b1_|refine bS_ ?_ (IsS53.ge HI257.out))|exact HB.out)⟩⟩
     ·rw [if_neg c9] at H;(simp at H)
    ·rw [if_neg c6] at H
     (have c6b0:=decide_eq_false c6);clear c6;(have H':=am_ H);clear H;(go_wp2_with (first|((with_reducible refine gc_ (f:=29) rfl ?_);refine goesL_ (some 14) rfl rfl Try.func29 (by kernel_rfl) rfl #[.pointer (some ⟨g257,0,none⟩),.int .i64 3] rfl (by (try simp only [List.map_toArray,List.map_cons,List.map_nil]);first|done|rfl|(simp only [List.length_drop,List.length_take];rfl)) ?_;(with_reducible refine (railplankeep_Source_Next.calls g257 t255 x258001_1 3 t258 t259 w _ ?side1 ?side2 A5.out).mono ?_);(case side1 => repeat (first|(with_reducible first|exact HI257.out|apply IsS53.alloc|apply IsS53.drewN|apply IsS53.drew|apply IsS53.set_1)|exact HI257.out));(case side2 => repeat (first|(with_reducible first|exact HB.out|apply bA_|apply bN_|apply b1_|refine bS_ ?_ (IsS53.ge HI257.out))|exact HB.out));rintro e w14 ⟨rfl,hi,hb,hk⟩;refine ⟨_,rfl,?_⟩;have n0_:=am_ (RM_ (Kd.R_keep (IsS53.apart (show IsS53 w _ g257 t255 x258001_1 from by repeat (first|(with_reducible first|exact HI257.out|apply IsS53.alloc|apply IsS53.drewN|apply IsS53.drew|apply IsS53.set_1)|exact HI257.out)) (by (with_reducible repeat (first|apply RA_|apply RN_|apply RD_));exact HO_4.out) (by decide)) hk (fun _ h => h.2)) (fun _ h => h.1));have n1_:=am_ (hb);have n2_:=am_ (hi);clear HO_4;clear HB;clear HI257;have HO_4:=n0_;have HB:=n1_;have HI257:=n2_;clear n0_ n1_ n2_;(try clear hb);(try clear hb2);(try clear hk);(try clear hi))));(go_roundg k1)
     case measure => have:=HK1.out;omega
     case rel => exact ⟨(x4_1),(wrap64 (x5_1 + 1)),(t259),(by first|rfl|(simp;done)|(simp [*];done)),H',⟨by have:=HK1.out;omega⟩,⟨by (with_reducible repeat (first|apply RA_|apply RN_|apply RD_));exact HO_4.out⟩,⟨by repeat (first|(with_reducible first|exact HI257.out|apply IsS53.alloc|apply IsS53.drewN|apply IsS53.drew|apply IsS53.set_1)|exact HI257.out)⟩,⟨by repeat (first|(with_reducible first|exact HB.out|apply bA_|apply bN_|apply b1_|refine bS_ ?_ (IsS53.ge HI257.out))|exact HB.out)⟩⟩
   ·rw [if_neg c4] at H;((have c4b0:=decide_eq_false c4);clear c4;obtain rfl:=Option.some.inj H;(go_wp2);(go_ret);(exact ⟨_,by first|rfl|(simp [errW_none,errW_some] <;> rfl)|(simp [*,errW_none,errW_some] <;> rfl),by (with_reducible repeat (first|apply RA_|apply RN_|apply RD_));exact HO_4.out,by repeat (first|(with_reducible first|exact HB.out|apply bA_|apply bN_|apply b1_|refine bS_ ?_ (IsS53.ge HI257.out))|exact HB.out)⟩))
end Go.Proofs.Ytiohandkjjmemaa.PAll
