-- Packed by wip/tools/pack.py of this session out of what plugprint.py and the kit's print wrote. Lean checks it.
import Derived.Test.YtiohandkjjmemaaKS
import Derived.Test.YtiohandkjjmemaaK0
namespace Go.Proofs.Ytiohandkjjmemaa.PAll
open Go.RowKit Go.Proofs.YtiohandkjjmemaaW.PrintWords Go.Proofs.YtiohandkjjmemaaW.PrintLast Go.Proofs.YtiohandkjjmemaaW.PrintMore
attribute [local go_sem] max2_int min2_int max_two min_two max_three min_three max_four min_four
set_option linter.unusedVariables false
set_option linter.unusedSimpArgs false
/-! ### railplankeep2_Closures: function 11 -/
def railplankeep2_Closures.l0 : Nat → List (S27) → Int → List Int → Int → Option ((List (S27)))
 | 0,_,_,_,_ => none
 | k + 1,x4,x5,x107000,x107001 => if x5 > 0 then ((railplankeep_Source_Next.f x107000 x107001 60).bind fun bt109 => ((railplankeep_Source_Next.f x107000 bt109.2 6).bind fun bt111 => ((railplankeep_Source_Next.f x107000 bt111.2 30).bind fun bt113 => (if x4.length < 5864062014805 then (railplankeep2_Closures.l0 k (x4 ++ [(⟨bt111.1,bt109.1,wrap64 ((wrap64 (bt109.1 + 1)) + bt113.1)⟩ : S27)]) (wrap64 (x5 - 1)) x107000 bt113.2) else (none))))) else (some x4)
def railplankeep2_Closures.f (k : Nat) (l0 : List Int) : Option ((List (S27))):=(railplankeep_From.f l0).bind fun bt104 => ((railplankeep_Source_Next.f bt104.1 bt104.2 6).bind fun bt107 => (railplankeep2_Closures.l0 k ([] : List (S27)) bt107.1 bt104.1 bt107.2))
theorem railplankeep2_Closures.mono_l : ∀ k,(∀ y0 y1 y2 y3,LeO (railplankeep2_Closures.l0 k y0 y1 y2 y3) (railplankeep2_Closures.l0 (k + 1) y0 y1 y2 y3))
 | 0 => fun _ _ _ _ r h => by simp [railplankeep2_Closures.l0] at h
 | k + 1 => by
  have ih0:=railplankeep2_Closures.mono_l k
  ·intro y0 y1 y2 y3
   unfold railplankeep2_Closures.l0
   repeat' first
   | (with_reducible exact ih0 _ _ _ _)
   | (with_reducible exact LeO.refl _)
   | (with_reducible exact LeO.none _)
   | (with_reducible refine LeO.ite ?_ ?_)
   | (with_reducible refine LeO.bind ?_ (fun _ => ?_))
   | exact ih0 _ _ _ _
   | exact LeO.none _
   | refine LeO.ite ?_ ?_
   | refine LeO.bind ?_ (fun _ => ?_)
theorem railplankeep2_Closures.mono : ∀ a0 k,LeO (railplankeep2_Closures.f k a0) (railplankeep2_Closures.f (k + 1) a0):=by
 intro a0 k;(have ih0:=railplankeep2_Closures.mono_l k);(unfold railplankeep2_Closures.f)
 repeat' first
   | (with_reducible exact ih0 _ _ _ _)
   | (with_reducible exact LeO.refl _)
   | (with_reducible exact LeO.none _)
   | (with_reducible refine LeO.ite ?_ ?_)
   | (with_reducible refine LeO.bind ?_ (fun _ => ?_))
   | exact ih0 _ _ _ _
   | exact LeO.none _
   | refine LeO.ite ?_ ?_
   | refine LeO.bind ?_ (fun _ => ?_)
set_option maxHeartbeats 8000000 in
set_option maxRecDepth 100000 in
theorem railplankeep2_Closures.calls (k : Nat) (A0 : Option Addr) (c0 : Nat) (l0 : List Int) (r : List (S27)) (w : World) (hr0 : Kd.C (Kd.int .i64) w A0 l0.length l0) (hc0 : l0.length ≤ c0) (h : railplankeep2_Closures.f k l0 = some r) :
  Calls Try.prog 11 #[.slice A0 l0.length c0] w fun e w' => ∃ v0_ : Value,e = .returned (v0_) ∧ Kd.R k27 27 w' w.heap.size (fun _ => True) v0_ r ∧ Below w.heap.size w w':=by
 have hu27:=Try.underlying27
 have HR0:=am_ hr0
 have HC0:=am_ hc0
 clear hr0 hc0
 have HB:=am_ (Below.refl w.heap.size w)
 have H : ((railplankeep_From.f l0).bind fun bt104 => ((railplankeep_Source_Next.f bt104.1 bt104.2 6).bind fun bt107 => (railplankeep2_Closures.l0 k ([] : List (S27)) bt107.1 bt104.1 bt107.2))) = some r:=h
 clear h
 replace H:=be_ H
 obtain ⟨⟨t104,t105⟩,A20,H⟩:=H
 replace H : ((railplankeep_Source_Next.f t104 t105 6).bind fun bt107 => (railplankeep2_Closures.l0 k ([] : List (S27)) bt107.1 t104 bt107.2)) = some r:=H
 have A2:=am_ A20
 clear A20
 replace H:=be_ H
 obtain ⟨⟨t107,t108⟩,A30,H⟩:=H
 replace H : (railplankeep2_Closures.l0 k ([] : List (S27)) t107 t104 t108) = some r:=H
 have A3:=am_ A30
 clear A30
 have H':=am_ H
 clear H
 go_enter Try.func11,Try.ntmps11
 go_wp2_with (first|((with_reducible refine gc_ (f:=28) rfl ?_);refine goesL_ (some 8) rfl rfl Try.func28 (by kernel_rfl) rfl #[.slice A0 l0.length c0] rfl (by (try simp only [List.map_toArray,List.map_cons,List.map_nil]);first|done|rfl|(simp only [List.length_drop,List.length_take];rfl)) ?_;(with_reducible refine (railplankeep_From.calls _ _ l0 t104 t105 w _ ?side1 ?side2 ?side3 A2.out).mono ?_);(case side1 => repeat (first|(with_reducible first|exact HB.out|apply bA_|apply bN_|apply b1_)|exact HB.out));(case side2 => exact HR0.out);(case side3 => exact HC0.out);rintro e w4 ⟨g106,rfl,hi,hb,hb2⟩;refine ⟨_,rfl,?_⟩;have n0_:=am_ (hb);have n1_:=am_ (hi);clear HB;have HB:=n0_;have HI106:=n1_;clear n0_ n1_;(try clear hb);(try clear hb2);(try clear hk);(try clear hi))|((with_reducible refine gc_ (f:=29) rfl ?_);refine goesL_ (some 10) rfl rfl Try.func29 (by kernel_rfl) rfl #[.pointer (some ⟨g106,0,none⟩),.int .i64 6] rfl (by (try simp only [List.map_toArray,List.map_cons,List.map_nil]);first|done|rfl|(simp only [List.length_drop,List.length_take];rfl)) ?_;(with_reducible refine (railplankeep_Source_Next.calls g106 t104 t105 6 t107 t108 w _ ?side1 ?side2 A3.out).mono ?_);(case side1 => repeat (first|(with_reducible first|exact HI106.out|apply IsS53.alloc|apply IsS53.drewN|apply IsS53.drew|apply IsS53.set_1)|exact HI106.out));(case side2 => repeat (first|(with_reducible first|exact HB.out|apply bA_|apply bN_|apply b1_|refine bS_ ?_ (IsS53.ge HI106.out))|exact HB.out));rintro e w5 ⟨rfl,hi,hb,hk⟩;refine ⟨_,rfl,?_⟩;have n0_:=am_ (hb);have n1_:=am_ (hi);clear HB;clear HI106;have HB:=n0_;have HI106:=n1_;clear n0_ n1_;(try clear hb);(try clear hb2);(try clear hk);(try clear hi)))
 go_loopg [4,5] k (fun kq v4 v5 w' => ∃ (x4_1 : List (S27)) (x5_1 : Int) (x107001_1 : Int),v5 = .int .i64 x5_1 ∧ Aside0 (railplankeep2_Closures.l0 kq x4_1 x5_1 t104 x107001_1 = some r) ∧ Aside0 (kq ≤ k) ∧ Aside0 (Kd.R k27 27 w' w.heap.size (fun _ => True) v4 x4_1) ∧ Aside0 (IsS53 w w' g106 t104 x107001_1) ∧ Aside0 (Below w.heap.size w w'))
 case atStart => exact ⟨(([] : List (S27))),(t107),(t108),(by first|rfl|(simp;done)|(simp [*];done)),H',⟨Nat.le_refl _⟩,⟨by first|exact Kd.R_nil _ _ _ _ _|exact Kd.N_nil _ _ _ _ _|exact Kd.V_nil _ _ _ _ _|exact Kd.Q_nil _ _ _ _ _|exact Kd.S_nil _ _ _ _ _⟩,⟨by repeat (first|(with_reducible first|exact HI106.out|apply IsS53.alloc|apply IsS53.drewN|apply IsS53.drew|apply IsS53.set_1)|exact HI106.out)⟩,⟨by repeat (first|(with_reducible first|exact HB.out|apply bA_|apply bN_|apply b1_|refine bS_ ?_ (IsS53.ge HI106.out))|exact HB.out)⟩⟩
 case round =>
  clear H';(try clear c1);(try clear c2);(try clear p2);obtain ⟨x4_1,x5_1,x107001_1,rfl,HA,HK1,HO_4,HI106,HB⟩:=hrel;cases gk with
  | zero => exact absurd HA.out (by simp [railplankeep2_Closures.l0])
  | succ k1 =>
   (have H:=HA.out);clear HA;simp only [railplankeep2_Closures.l0] at H
   by_cases c6 : x5_1 > 0
   ·rw [if_pos c6] at H
    (have c6b0:=decide_eq_true c6);clear c6;replace H:=be_ H;obtain ⟨⟨t109,t110⟩,A70,H⟩:=H;replace H : ((railplankeep_Source_Next.f t104 t110 6).bind fun bt111 => ((railplankeep_Source_Next.f t104 bt111.2 30).bind fun bt113 => (if x4_1.length < 5864062014805 then (railplankeep2_Closures.l0 k1 (x4_1 ++ [(⟨bt111.1,t109,wrap64 ((wrap64 (t109 + 1)) + bt113.1)⟩ : S27)]) (wrap64 (x5_1 - 1)) t104 bt113.2) else (none)))) = some r:=H;(have A7:=am_ A70);clear A70;replace H:=be_ H;obtain ⟨⟨t111,t112⟩,A80,H⟩:=H;replace H : ((railplankeep_Source_Next.f t104 t112 30).bind fun bt113 => (if x4_1.length < 5864062014805 then (railplankeep2_Closures.l0 k1 (x4_1 ++ [(⟨t111,t109,wrap64 ((wrap64 (t109 + 1)) + bt113.1)⟩ : S27)]) (wrap64 (x5_1 - 1)) t104 bt113.2) else (none))) = some r:=H;(have A8:=am_ A80);clear A80;replace H:=be_ H;obtain ⟨⟨t113,t114⟩,A90,H⟩:=H;replace H : (if x4_1.length < 5864062014805 then (railplankeep2_Closures.l0 k1 (x4_1 ++ [(⟨t111,t109,wrap64 ((wrap64 (t109 + 1)) + t113)⟩ : S27)]) (wrap64 (x5_1 - 1)) t104 t114) else (none)) = some r:=H;(have A9:=am_ A90);clear A90
    by_cases c10 : x4_1.length < 5864062014805
    ·rw [if_pos c10] at H
     (have LMc10:=am_ c10);clear c10;obtain ⟨y115,hy115⟩ : ∃ y_ : List (S27),y_ = (x4_1 ++ [(⟨t111,t109,wrap64 ((wrap64 (t109 + 1)) + t113)⟩ : S27)]):=⟨_,rfl⟩;(replace H : (railplankeep2_Closures.l0 k1 y115 (wrap64 (x5_1 - 1)) t104 t114) = some r:=by first|(rw [hy115];with_reducible exact H)|(have H2_:=(Option.bind_some _ _).symm.trans H;rw [hy115];with_reducible exact H2_)|(have H2_:=(Option.bind_some _ _).symm.trans H;with_reducible exact H2_)|with_reducible exact H|(rw [hy115];exact H)|exact H);(have Ny115:=am_ hy115);clear hy115;(have H':=am_ H);clear H;(go_wp2_with (first|((with_reducible refine gc_ (f:=29) rfl ?_);refine goesL_ (some 16) rfl rfl Try.func29 (by kernel_rfl) rfl #[.pointer (some ⟨g106,0,none⟩),.int .i64 60] rfl (by (try simp only [List.map_toArray,List.map_cons,List.map_nil]);first|done|rfl|(simp only [List.length_drop,List.length_take];rfl)) ?_;(with_reducible refine (railplankeep_Source_Next.calls g106 t104 x107001_1 60 t109 t110 w _ ?side1 ?side2 A7.out).mono ?_);(case side1 => repeat (first|(with_reducible first|exact HI106.out|apply IsS53.alloc|apply IsS53.drewN|apply IsS53.drew|apply IsS53.set_1)|exact HI106.out));(case side2 => repeat (first|(with_reducible first|exact HB.out|apply bA_|apply bN_|apply b1_|refine bS_ ?_ (IsS53.ge HI106.out))|exact HB.out));rintro e w11 ⟨rfl,hi,hb,hk⟩;refine ⟨_,rfl,?_⟩;have n0_:=am_ (RM_ (Kd.R_keep (IsS53.apart (show IsS53 w _ g106 t104 x107001_1 from by repeat (first|(with_reducible first|exact HI106.out|apply IsS53.alloc|apply IsS53.drewN|apply IsS53.drew|apply IsS53.set_1)|exact HI106.out)) (by (with_reducible repeat (first|apply RA_|apply RN_|apply RD_));exact HO_4.out) (by decide)) hk (fun _ h => h.2)) (fun _ h => h.1));have n1_:=am_ (hb);have n2_:=am_ (hi);clear HO_4;clear HB;clear HI106;have HO_4:=n0_;have HB:=n1_;have HI106:=n2_;clear n0_ n1_ n2_;(try clear hb);(try clear hb2);(try clear hk);(try clear hi))|((with_reducible refine gc_ (f:=29) rfl ?_);refine goesL_ (some 19) rfl rfl Try.func29 (by kernel_rfl) rfl #[.pointer (some ⟨g106,0,none⟩),.int .i64 6] rfl (by (try simp only [List.map_toArray,List.map_cons,List.map_nil]);first|done|rfl|(simp only [List.length_drop,List.length_take];rfl)) ?_;(with_reducible refine (railplankeep_Source_Next.calls g106 t104 t110 6 t111 t112 w _ ?side1 ?side2 A8.out).mono ?_);(case side1 => repeat (first|(with_reducible first|exact HI106.out|apply IsS53.alloc|apply IsS53.drewN|apply IsS53.drew|apply IsS53.set_1)|exact HI106.out));(case side2 => repeat (first|(with_reducible first|exact HB.out|apply bA_|apply bN_|apply b1_|refine bS_ ?_ (IsS53.ge HI106.out))|exact HB.out));rintro e w12 ⟨rfl,hi,hb,hk⟩;refine ⟨_,rfl,?_⟩;have n0_:=am_ (RM_ (Kd.R_keep (IsS53.apart (show IsS53 w _ g106 t104 t110 from by repeat (first|(with_reducible first|exact HI106.out|apply IsS53.alloc|apply IsS53.drewN|apply IsS53.drew|apply IsS53.set_1)|exact HI106.out)) (by (with_reducible repeat (first|apply RA_|apply RN_|apply RD_));exact HO_4.out) (by decide)) hk (fun _ h => h.2)) (fun _ h => h.1));have n1_:=am_ (hb);have n2_:=am_ (hi);clear HO_4;clear HB;clear HI106;have HO_4:=n0_;have HB:=n1_;have HI106:=n2_;clear n0_ n1_ n2_;(try clear hb);(try clear hb2);(try clear hk);(try clear hi))|((with_reducible refine gc_ (f:=29) rfl ?_);refine goesL_ (some 24) rfl rfl Try.func29 (by kernel_rfl) rfl #[.pointer (some ⟨g106,0,none⟩),.int .i64 30] rfl (by (try simp only [List.map_toArray,List.map_cons,List.map_nil]);first|done|rfl|(simp only [List.length_drop,List.length_take];rfl)) ?_;(with_reducible refine (railplankeep_Source_Next.calls g106 t104 t112 30 t113 t114 w _ ?side1 ?side2 A9.out).mono ?_);(case side1 => repeat (first|(with_reducible first|exact HI106.out|apply IsS53.alloc|apply IsS53.drewN|apply IsS53.drew|apply IsS53.set_1)|exact HI106.out));(case side2 => repeat (first|(with_reducible first|exact HB.out|apply bA_|apply bN_|apply b1_|refine bS_ ?_ (IsS53.ge HI106.out))|exact HB.out));rintro e w13 ⟨rfl,hi,hb,hk⟩;refine ⟨_,rfl,?_⟩;have n0_:=am_ (RM_ (Kd.R_keep (IsS53.apart (show IsS53 w _ g106 t104 t112 from by repeat (first|(with_reducible first|exact HI106.out|apply IsS53.alloc|apply IsS53.drewN|apply IsS53.drew|apply IsS53.set_1)|exact HI106.out)) (by (with_reducible repeat (first|apply RA_|apply RN_|apply RD_));exact HO_4.out) (by decide)) hk (fun _ h => h.2)) (fun _ h => h.1));have n1_:=am_ (hb);have n2_:=am_ (hi);clear HO_4;clear HB;clear HI106;have HO_4:=n0_;have HB:=n1_;have HI106:=n2_;clear n0_ n1_ n2_;(try clear hb);(try clear hb2);(try clear hk);(try clear hi))|((with_reducible refine gate_builtin (b:=.append) (xs:=#[.tmp 17,.tmp 27]) rfl ?_);at_builtin;refine Kd.R_append k27 (w0:=w) w.heap.size rfl (.tmp 17) (.tmp 27) 23 27 (.agg #[(.int .i64 0),(.int .i64 0),(.int .i64 0)]) 24 rfl Try.underlying23 info27 rfl (by decide) (by omega) u4 x4_1 (⟨t111,t109,wrap64 ((wrap64 (t109 + 1)) + t113)⟩ : S27) [.int .i64 t111,.int .i64 t109,.int .i64 (wrap64 ((wrap64 (t109 + 1)) + t113))] (fun _ => True) (fun _ => False) rfl rfl ?aP (fun _ hk => hk.elim) ?aF ?aO ?aB ?aS ?aL ?_;(case aP => exact k27_mkM _ _ _ (⟨t111,t109,wrap64 ((wrap64 (t109 + 1)) + t113)⟩ : S27));(case aB => exact (by repeat (first|(with_reducible first|exact HB.out|apply bA_|apply bN_|apply b1_|refine bS_ ?_ (IsS53.ge HI106.out))|exact HB.out)));(case aF => exact (fun _ _ => trivial));(case aO => exact (by (with_reducible repeat (first|apply RA_|apply RN_|apply RD_));exact HO_4.out));(case aS => exact (bz_ (by repeat (first|(with_reducible first|exact HB.out|apply bA_|apply bN_|apply b1_|refine bS_ ?_ (IsS53.ge HI106.out))|exact HB.out))));(case aL => have:=LMc10.out;omega);intro v116 w14 ho hb hg hat;rw [← Ny115.out] at ho;have n0_:=am_ (IsS53.grown (show IsS53 w _ g106 t104 t114 from by repeat (first|(with_reducible first|exact HI106.out|apply IsS53.alloc|apply IsS53.drewN|apply IsS53.drew|apply IsS53.set_1)|exact HI106.out)) hg (IsS53.own_ne HI106.out HO_4.out (by decide)));have n1_:=am_ (hb);have n2_:=am_ (ho);clear HI106;clear HB;clear HO_4;have HI106:=n0_;have HB:=n1_;have HO117:=n2_;clear n0_ n1_ n2_;clear ho hb hg hat)));(go_roundg k1)
     case measure => have:=HK1.out;omega
     case rel => exact ⟨(y115),(wrap64 (x5_1 - 1)),(t114),(by first|rfl|(simp;done)|(simp [*];done)),H',⟨by have:=HK1.out;omega⟩,⟨by (with_reducible repeat (first|apply RA_|apply RN_|apply RD_));exact HO117.out⟩,⟨by repeat (first|(with_reducible first|exact HI106.out|apply IsS53.alloc|apply IsS53.drewN|apply IsS53.drew|apply IsS53.set_1)|exact HI106.out)⟩,⟨by repeat (first|(with_reducible first|exact HB.out|apply bA_|apply bN_|apply b1_|refine bS_ ?_ (IsS53.ge HI106.out))|exact HB.out)⟩⟩
    ·rw [if_neg c10] at H;(simp at H)
   ·rw [if_neg c6] at H;((have c6b0:=decide_eq_false c6);clear c6;obtain rfl:=Option.some.inj H;(go_wp2);(go_ret);(exact ⟨_,by first|rfl|(simp [errW_none,errW_some] <;> rfl)|(simp [*,errW_none,errW_some] <;> rfl),by (with_reducible repeat (first|apply RA_|apply RN_|apply RD_));exact HO_4.out,by repeat (first|(with_reducible first|exact HB.out|apply bA_|apply bN_|apply b1_|refine bS_ ?_ (IsS53.ge HI106.out))|exact HB.out)⟩))
end Go.Proofs.Ytiohandkjjmemaa.PAll
