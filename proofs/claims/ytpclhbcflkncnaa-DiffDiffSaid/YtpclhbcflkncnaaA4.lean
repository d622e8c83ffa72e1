-- Packed by wip/tools/pack.py of this session out of what plugprint.py and the kit's print wrote. Lean checks it.
import Derived.Test.YtpclhbcflkncnaaAS
namespace Go.Proofs.Ytpclhbcflkncnaa.PAll
open Go.RowKit Go.Proofs.YtpclhbcflkncnaaW.PrintWords Go.Proofs.YtpclhbcflkncnaaW.PrintLast Go.Proofs.YtpclhbcflkncnaaW.PrintMore
attribute [local go_sem] max2_int min2_int max_two min_two max_three min_three max_four min_four
set_option linter.unusedVariables false
set_option linter.unusedSimpArgs false
/-! ### slices_Clone_int_int: function 53 -/
def slices_Clone_int_int.f (l0 : List Int) : Option (List Int):=(some (([] : List Int) : List Int)).bind fun y149 => (if y149.length + l0.length < 17592186044416 then (some (y149 ++ l0)) else (none))
set_option maxHeartbeats 8000000 in
set_option maxRecDepth 100000 in
theorem slices_Clone_int_int.callsS (ad0_ : Addr) (c0 : Nat) (l0 : List Int) (r : List Int) (w : World) (hr0 : Kd.C (Kd.int .i64) w (some ad0_) l0.length l0) (hc0 : l0.length ≤ c0) (h : slices_Clone_int_int.f l0 = some r) :
  Calls Try.prog 53 #[.slice (some ad0_) l0.length c0] w fun e w' => ∃ v0_ : Value,e = .returned (v0_) ∧ Kd.R (Kd.int .i64) 3 w' w.heap.size (fun _ => True) v0_ r ∧ Below w.heap.size w w':=by
 have qN_ : ∀ (w : World),(binOp .eql 23 (.slice (some ad0_) l0.length c0) (.slice none 0 0)).run Try.prog w = .ok (.bool false) w:=fun w => Go.Lib.run_eql_slice_nil w _ _ _ _ _ _ _ Try.underlying23
 have HR0:=am_ hr0
 have HC0:=am_ hc0
 clear hr0 hc0
 have HB:=am_ (Below.refl w.heap.size w)
 have H : ((some (([] : List Int) : List Int)).bind fun y149 => (if y149.length + l0.length < 17592186044416 then (some (y149 ++ l0)) else (none))) = some r:=h
 clear h
 obtain ⟨y149,hy149⟩ : ∃ y_ : List Int,y_ = (([] : List Int)):=⟨_,rfl⟩
 replace H:=bsn_ H hy149
 have Ny149:=am_ hy149
 clear hy149
 by_cases c2 : y149.length + l0.length < 17592186044416
 ·rw [if_pos c2] at H;(have LMc2:=am_ c2;clear c2;obtain ⟨y152,hy152⟩ : ∃ y_ : List Int,y_ = (y149 ++ l0):=⟨_,rfl⟩;(replace H : (some y152) = some r:=by first|(rw [hy152];with_reducible exact H)|(have H2_:=(Option.bind_some _ _).symm.trans H;rw [hy152];with_reducible exact H2_)|(have H2_:=(Option.bind_some _ _).symm.trans H;with_reducible exact H2_)|with_reducible exact H|(rw [hy152];exact H)|exact H);have Ny152:=am_ hy152;clear hy152;obtain rfl:=Option.some.inj H;(go_enter Try.func53,Try.ntmps53);(go_wp2_with (first|((with_reducible refine gd_ (N:=5) rfl ?_);refine Kd.R_lit (Kd.int .i64) _ 3 ?hg (N:=5) ?hd (xs:=([] : List Int)) (inner:=[]) (ok:=fun _ => True) (okp:=fun _ => True) ?hr ?hp (fun _ hk => hk) trivial (Below.refl _ _) (Nat.le_refl _) (by simp) ?_;(case hd => rfl);(case hg => rfl);(case hr => first|(go_simp;done)|(go_simp;rfl));(case hp => exact (Reps.none _ _));intro v150 w3 ho4 hb hg_ hnew_;clear hg_ hnew_;(first|rw [← Ny149.out] at ho4|(simp only [Int.reduceToNat] at ho4;rw [← Ny149.out] at ho4));have n0_:=am_ (RL_ ho4 (bz_ (hB_ HB)));have n1_:=hb_ HB hb;revert n0_ n1_;clear HB;intro HO151 HB;clear hb ho4)|((with_reducible refine gate_builtin (b:=.append) (xs:=#[.tmp 5,.tmp 6]) rfl ?_);at_builtin;refine Kd.R_append_rows (Kd.int .i64) (w0:=w) w.heap.size rfl (.tmp 5) (.tmp 6) 23 3 (.int .i64 0) 8 rfl Try.underlying23 info3 rfl (by decide) (by omega) v150 y149 l0 _ _ _ (fun _ => True) (fun _ => False) rfl rfl ?aO ?aR (fun _ _ h => h) (fun _ h => h.elim) ?aF ?aB ?aS ?aL ?_;(case aR => repeat (first|exact (CB_ HR0.out HB.out)|(with_reducible first|refine CA_ ?_ _|refine CN_ ?_ _|refine CD_ ?_)));(case aB => exact (hB_ HB));(case aF => exact (fun _ _ => trivial));(case aO => exact (ra_ HO151.out));(case aS => exact (bz_ (hB_ HB)));(case aL => have:=LMc2.out;omega);intro v153 w5 ho hb hg hat;rw [← Ny152.out] at ho;have n0_:=am_ (hb);have n1_:=am_ (ho);revert n0_ n1_;clear HB HO151;intro HB HO154;clear ho hb hg hat)));(go_ret);(exact ⟨_,by first|rfl|(simp [errW_none,errW_some] <;> rfl)|(simp [*,errW_none,errW_some] <;> rfl),by (with_reducible repeat (first|apply RA_|apply RN_|apply RD_));exact HO154.out,hB_ HB⟩))
 ·rw [if_neg c2] at H;(simp at H)

theorem slices_Clone_int_int.callsZ (c0 : Nat) (w : World) :
  Calls Try.prog 53 #[.slice none 0 c0] w fun e w' => e = .returned (.slice none 0 0) ∧ Below w.heap.size w w':=by
 have qN_ : ∀ (w : World),(binOp .eql 23 (.slice none 0 c0) (.slice none 0 0)).run Try.prog w = .ok (.bool true) w:=fun w => Go.Lib.run_eql_slice_nil w _ _ _ _ _ _ _ Try.underlying23
 go_enter Try.func53,Try.ntmps53
 go_wp2
 go_ret
 exact ⟨rfl,Below.refl _ _⟩
theorem slices_Clone_int_int.calls (A0 : Option Addr) (c0 : Nat) (l0 : List Int) (r : List Int) (w : World) (hr0 : Kd.C (Kd.int .i64) w A0 l0.length l0) (hc0 : l0.length ≤ c0) (h : slices_Clone_int_int.f l0 = some r) :
  Calls Try.prog 53 #[.slice A0 l0.length c0] w fun e w' => ∃ v0_ : Value,e = .returned (v0_) ∧ Kd.R (Kd.int .i64) 3 w' w.heap.size (fun _ => True) v0_ r ∧ Below w.heap.size w w':=by
 cases A0 with
 | some ad0_ => exact slices_Clone_int_int.callsS ad0_ c0 l0 r w hr0 hc0 h
 | none =>
  obtain rfl : l0 = []:=List.length_eq_zero_iff.mp (Nat.eq_zero_of_not_pos (fun hp_ => by obtain ⟨ad_,he_,_⟩:=hr0.2.2 hp_;cases he_))
  have hz_ : r = []:=by
   (unfold slices_Clone_int_int.f at h);(simpa using h.symm)
  subst hz_;exact (slices_Clone_int_int.callsZ c0 w).mono fun e w' ⟨he,hb⟩ => ⟨_,he,Kd.R_nil _ _ _ _ _,hb⟩
/-! ### diff_own: function 37 -/
def diff_own.f (a0_0 : Int) (a0_1 : Int) (l0_2 : List Int) (l0_3 : List Int) : Option (Int × Int × List Int × List Int):=(slices_Clone_int_int.f l0_2).bind fun t157 => ((slices_Clone_int_int.f l0_3).bind fun t160 => (some (a0_0,a0_1,t157,t160)))
def diff_own.T1 : Bool × List (List Nat × List Nat):=(true,[([],[]),([0],[0]),([],[]),([2],[2]),([],[]),([4],[4]),([5],[5]),([],[]),([7],[7]),([8,6],[8]),([1,3,6,9],[1,3,6,9]),([10,9,0,1,2,3,4,5,6,7,8,9,10],[10])])
def diff_own.B1 : List Nat:=[0,1,0,4,0,16,48,0,128,496,1023,2047]
theorem diff_own.tab1 : rtab .any (opsOf Try.f37 1) = diff_own.T1:=by kernel_rfl
theorem diff_own.bits1 : waitsOk diff_own.T1.2 diff_own.B1 = true:=by kernel_rfl
set_option maxHeartbeats 8000000 in
set_option maxRecDepth 100000 in
theorem diff_own.calls (a0_0 : Int) (a0_1 : Int) (A0_2 : Option Addr) (c0_2 : Nat) (l0_2 : List Int) (A0_3 : Option Addr) (c0_3 : Nat) (l0_3 : List Int) (r1 : Int) (r2 : Int) (r3 : List Int) (r4 : List Int) (w : World) (hr0_2 : Kd.C (Kd.int .i64) w A0_2 l0_2.length l0_2) (hc0_2 : l0_2.length ≤ c0_2) (hr0_3 : Kd.C (Kd.int .i64) w A0_3 l0_3.length l0_3) (hc0_3 : l0_3.length ≤ c0_3) (h : diff_own.f a0_0 a0_1 l0_2 l0_3 = some (r1,r2,r3,r4)) :
  Calls Try.prog 37 #[.agg #[.int .i64 a0_0,.int .i64 a0_1,.slice A0_2 l0_2.length c0_2,.slice A0_3 l0_3.length c0_3]] w fun e w' => ∃ v2_ v3_ : Value,e = .returned (.agg #[.int .i64 r1,.int .i64 r2,v2_,v3_]) ∧ Kd.R (Kd.int .i64) 3 w' w.heap.size (fun k_ => some k_ ≠ (v3_ : Value).ownBlock) v2_ r3 ∧ Kd.R (Kd.int .i64) 3 w' w.heap.size (fun k_ => some k_ ≠ (v2_ : Value).ownBlock) v3_ r4 ∧ Below w.heap.size w w':=by
 have hu28:=Try.underlying28
 have HR0_2:=am_ hr0_2
 have HC0_2:=am_ hc0_2
 clear hr0_2 hc0_2
 have HR0_3:=am_ hr0_3
 have HC0_3:=am_ hc0_3
 clear hr0_3 hc0_3
 have HB:=am_ (Below.refl w.heap.size w)
 have H : ((slices_Clone_int_int.f l0_2).bind fun t157 => ((slices_Clone_int_int.f l0_3).bind fun t160 => (some (a0_0,a0_1,t157,t160)))) = some (r1,r2,r3,r4):=h
 clear h
 replace H:=be_ H
 obtain ⟨t157,A20,H⟩:=H
 have A2:=am_ A20
 clear A20
 replace H:=be_ H
 obtain ⟨t160,A30,H⟩:=H
 have A3:=am_ A30
 clear A30
 simp only [Option.some.injEq,Prod.mk.injEq] at H
 obtain ⟨rfl,rfl,rfl,rfl⟩:=H
 go_enter Try.func37,Try.ntmps37
 try go_wp2_with (first|((with_reducible refine gd_ (N:=1) rfl ?_);refine bx2_ 1 #[.int .i64 a0_0,.int .i64 a0_1,.slice A0_2 l0_2.length c0_2,.slice A0_3 l0_3.length c0_3] 28 (fun gb155 hg w4 hbox hb => ?_);have n0_:=hb_ HB hb;have n1_:=am_ (hbox);have n2_ : Aside0 (w.heap.size ≤ gb155):=gz_ hg HB;have n3_ : Aside0 (w.heap.size ≤ gb155):=gz_ hg HB;revert n0_ n1_ n2_ n3_;clear HB;intro HB BK155 GW155 GE155;clear hb hbox hg)|((with_reducible refine gd_ (N:=2) rfl ?_);refine bx2_ 2 #[.int .i64 0,.int .i64 0,.slice none 0 0,.slice none 0 0] 28 (fun gb156 hg w5 hbox hb => ?_);have n0_:=kb_ BK155 hb;have n1_:=hb_ HB hb;have n2_:=am_ (hbox);have n3_ : Aside0 (w.heap.size ≤ gb156):=gz_ hg HB;have n4_ : Aside0 (w.heap.size ≤ gb156):=gz_ hg HB;have n5_:=nl_ hg BK155;have n6_:=ng_ hg BK155;revert n0_ n1_ n2_ n3_ n4_ n5_ n6_;clear BK155 HB;intro BK155 HB BK156 GW156 GE156 NB155_156 NB156_155;clear hb hbox hg))
 have n0_:=am_ (kD_ BK155.out)
 have n1_:=am_ (kD_ BK156.out)
 have n2_:=am_ (b1_ HB.out)
 revert n0_ n1_ n2_
 clear BK155 BK156 HB
 intro BK155 BK156 HB
 refine start_ (n:=12) (S:=fun w' => c_ w' gb155 0 (.int .i64 a0_0) ∧ c_ w' gb155 1 (.int .i64 a0_1) ∧ c_ w' gb155 2 (.slice A0_2 l0_2.length c0_2) ∧ c_ w' gb155 3 (.slice A0_3 l0_3.length c0_3)) (ds:=[]) (bm 12 0) (by kernel_rfl) rfl rfl ⟨cq_ BK155 0,cq_ BK155 1,cq_ BK155 2,cq_ BK155 3⟩ (fun hHeld => ?_);refine with_tabW diff_own.tab1 diff_own.bits1 (fun HT_ HW_ => ?_)
 generalize w5.drew = w6 at BK155 BK156 HB hHeld ⊢
 refine pu_ 0 3 (bm 12 1) ?_
 refine pu_ 2 5 (bm 12 5) ?_
 refine pu_ 4 7 (bm 12 21) ?_
 refine pu_ 7 10 (bm 12 149) ?_
 refine ta_ 1 4 (bm 12 151) ?_
 refine ta_ 3 6 (bm 12 159) ?_
 refine ta_ 5 8 (bm 12 191) ?_
 refine ta_ 8 11 (bm 12 447) ?_
 refine on_ 6 9 (bm 12 511) (fun K hK => ?_)
 refine gs_ Try.func53 #[.slice A0_2 l0_2.length c0_2] ?_
 with_reducible refine (slices_Clone_int_int.calls _ _ l0_2 t157 _ (cr_ (CB_ HR0_2.out HB.out)) HC0_2.out A2.out).mono ?_
 rintro e w7 ⟨v158,rfl,ho0,hb⟩
 refine ⟨_,rfl,?_⟩
 have n0_:=am_ (RL_ ho0 (bz_ (hB_ HB)))
 have n1_:=kb_ BK155 hb
 have n2_:=kb_ BK156 hb
 have n3_:=hb_ HB hb
 revert n0_ n1_ n2_ n3_
 clear BK155 BK156 HB
 intro HO159 BK155 BK156 HB
 (try clear hb)
 (try clear ho0)
 refine hK.out _ _ ⟨cq_ BK155 0,cq_ BK155 1,cq_ BK155 2,cq_ BK155 3⟩ (fun hHeld => ?_)
 clear hK K
 refine nm_ 9 ?_
 refine on_ 9 12 (bm 12 1023) (fun K hK => ?_)
 refine gs_ Try.func53 #[.slice A0_3 l0_3.length c0_3] ?_
 with_reducible refine (slices_Clone_int_int.calls _ _ l0_3 t160 _ (cr_ (CB_ HR0_3.out HB.out)) HC0_3.out A3.out).mono ?_
 rintro e w8 ⟨v161,rfl,ho0,hb⟩
 refine ⟨_,rfl,?_⟩
 have n0_:=am_ (Kd.R_elder' (ra_ HO159.out) (Kd.R_base ho0) hb)
 have n1_:=am_ (RL_ (Kd.R_new' ho0 (Kd.R_lt (ra_ HO159.out))) (bz_ (hB_ HB)))
 have n2_:=kb_ BK155 hb
 have n3_:=kb_ BK156 hb
 have n4_:=hb_ HB hb
 revert n0_ n1_ n2_ n3_ n4_
 clear HO159 BK155 BK156 HB
 intro HO159 HO162 BK155 BK156 HB
 (try clear hb)
 (try clear ho0)
 obtain ⟨Ao9,co9,eo9⟩:=RS_ HO162.out
 (first|subst eo9|(injection eo9 with f1_ f2_ f3_;have f4_:=f1_.symm;have f5_:=f3_.symm;clear f1_ f2_ f3_;subst f4_;subst f5_))
 obtain ⟨Ao10,co10,eo10⟩:=RS_ HO159.out
 (first|subst eo10|(injection eo10 with f1_ f2_ f3_;have f4_:=f1_.symm;have f5_:=f3_.symm;clear f1_ f2_ f3_;subst f4_;subst f5_))
 refine hK.out _ _ ⟨cq_ BK155 0,cq_ BK155 1,cq_ BK155 2,cq_ BK155 3⟩ (fun hHeld => ?_)
 clear hK K
 refine nm_ 12 ?_
 refine pu_ 10 13 (bm 12 2047) ?_
 refine one_ (i:=11) (N:=none) (bm 12 4095) rfl rfl (one_of HT_.out (by kernel_rfl)) (by decide) (fun K hK => ?_)
 have hs11 : w8.cell? ⟨gb156,0,none⟩ = some (.int .i64 0):=(kC_ BK156.out 0).trans rfl
 have hfs11:=kF_ BK156.out 0
 have hns11_0:=NB155_156.out
 have hms11_0:=NB156_155.out
 have hs12 : w8.cell? ⟨gb156,1,none⟩ = some (.int .i64 0):=(kC_ BK156.out 1).trans rfl
 have hfs12:=kF_ BK156.out 1
 have hns12_0:=NB155_156.out
 have hms12_0:=NB156_155.out
 have hs13 : w8.cell? ⟨gb156,2,none⟩ = some (.slice none 0 0):=(kC_ BK156.out 2).trans rfl
 have hfs13:=kF_ BK156.out 2
 have hns13_0:=NB155_156.out
 have hms13_0:=NB156_155.out
 have hs14 : w8.cell? ⟨gb156,3,none⟩ = some (.slice none 0 0):=(kC_ BK156.out 3).trans rfl
 have hfs14:=kF_ BK156.out 3
 have hns14_0:=NB155_156.out
 have hms14_0:=NB156_155.out
 refine skip_ (w1:=?_) (by rfl) rfl ?_ ?_
 rotate_left
 ·go_simp;rfl
 refine hK.out _ _ ⟨(cf3_ NB155_156.out ((cf1_ NB155_156.out hHeld.1))),(cf3_ NB155_156.out ((cf1_ NB155_156.out hHeld.2.1))),(cf3_ NB155_156.out ((cf1_ NB155_156.out hHeld.2.2.1))),(cf3_ NB155_156.out ((cf1_ NB155_156.out hHeld.2.2.2)))⟩ (fun hHeld => ?_)
 clear hK K
 refine done_ (done_of HT_.out (by kernel_rfl)) ?_
 try go_wp2
 refine bodyPost_ret (results_cell_row rfl _ _ gb156 28 #[.int .i64 a0_0,.int .i64 a0_1,.slice Ao10 t157.length co10,.slice Ao9 t160.length co9] (0,0) _ rfl (by (with_reducible repeat (first|refine kN_ ?_ _|refine kD_ ?_|refine kA_ ?_ _));refine blk_put (cs:=#[.int .i64 a0_0,.int .i64 a0_1,.slice Ao10 t157.length co10,.slice none 0 0]) ?_ 3 _ rfl;refine blk_put (cs:=#[.int .i64 a0_0,.int .i64 a0_1,.slice none 0 0,.slice none 0 0]) ?_ 2 _ rfl;refine blk_put (cs:=#[.int .i64 a0_0,.int .i64 0,.slice none 0 0,.slice none 0 0]) ?_ 1 _ rfl;refine blk_put (cs:=#[.int .i64 0,.int .i64 0,.slice none 0 0,.slice none 0 0]) ?_ 0 _ rfl;(with_reducible repeat (first|refine kN_ ?_ _|refine kD_ ?_|refine kA_ ?_ _));exact BK156.out) Try.underlying28 rfl (by kernel_rfl)) rfl ?_
 exact ⟨_,_,by first|rfl|(simp [errW_none,errW_some] <;> rfl)|(simp [*,errW_none,errW_some] <;> rfl),by (with_reducible repeat (first|apply RA_|apply RN_|apply RD_));exact RM_ (rf_ 3 (rf_ 2 (rf_ 1 (rf_ 0 (rt_ HO159 BK156) (.int .i64 a0_0)) (.int .i64 a0_1)) (.slice Ao10 t157.length co10)) (.slice Ao9 t160.length co9)) (fun _ hk => hk.1.2),by (with_reducible repeat (first|apply RA_|apply RN_|apply RD_));exact RM_ (rf_ 3 (rf_ 2 (rf_ 1 (rf_ 0 (rt_ HO162 BK156) (.int .i64 a0_0)) (.int .i64 a0_1)) (.slice Ao10 t157.length co10)) (.slice Ao9 t160.length co9)) (fun _ hk => hk.1.2),hB_ HB⟩
/-! ### slices_Equal_int_int: function 54 -/
def slices_Equal_int_int.l0 : Nat → List Int → List Int → Int → Int → Option (Bool)
 | 0,_,_,_,_ => none
 | k + 1,x0,x1,x12,x13 => if x13 < x12 then (if 0 ≤ x13 then (if x13 < (x0.length : Int) then (if x13 < (x1.length : Int) then (if (rd x0 x13) = (rd x1 x13) then (slices_Equal_int_int.l0 k x0 x1 x12 (wrap64 (x13 + 1))) else (some false)) else (none)) else (none)) else (none)) else (some true)
def slices_Equal_int_int.f (k : Nat) (l0 : List Int) (l1 : List Int) : Option (Bool):=if (l0.length : Int) = (l1.length : Int) then (slices_Equal_int_int.l0 k l0 l1 (l0.length : Int) 0) else (some false)
theorem slices_Equal_int_int.mono_l : ∀ k,(∀ y0 y1 y2 y3,LeO (slices_Equal_int_int.l0 k y0 y1 y2 y3) (slices_Equal_int_int.l0 (k + 1) y0 y1 y2 y3))
 | 0 => fun _ _ _ _ r h => by simp [slices_Equal_int_int.l0] at h
 | k + 1 => by
  have ih0:=slices_Equal_int_int.mono_l k
  ·intro y0 y1 y2 y3
   unfold slices_Equal_int_int.l0
   repeat' first
   | (with_reducible exact ih0 _ _ _ _)
   | (with_reducible exact LeO.refl _)
   | (with_reducible exact LeO.none _)
   | (with_reducible refine LeO.ite ?_ ?_)
   | (with_reducible refine LeO.bind ?_ (fun _ => ?_))
   | exact ih0 _ _ _ _
   | exact LeO.none _
   | refine LeO.ite ?_ ?_
   | refine LeO.bind ?_ (fun _ => ?_)
theorem slices_Equal_int_int.mono : ∀ a0 a1 k,LeO (slices_Equal_int_int.f k a0 a1) (slices_Equal_int_int.f (k + 1) a0 a1):=by
 intro a0 a1 k;have ih0:=slices_Equal_int_int.mono_l k;(unfold slices_Equal_int_int.f)
 repeat' first
   | (with_reducible exact ih0 _ _ _ _)
   | (with_reducible exact LeO.refl _)
   | (with_reducible exact LeO.none _)
   | (with_reducible refine LeO.ite ?_ ?_)
   | (with_reducible refine LeO.bind ?_ (fun _ => ?_))
   | exact ih0 _ _ _ _
   | exact LeO.none _
   | refine LeO.ite ?_ ?_
   | refine LeO.bind ?_ (fun _ => ?_)
set_option maxHeartbeats 8000000 in
set_option maxRecDepth 100000 in
theorem slices_Equal_int_int.calls (k : Nat) (A0 : Option Addr) (c0 : Nat) (l0 : List Int) (A1 : Option Addr) (c1 : Nat) (l1 : List Int) (r : Bool) (w : World) (hr0 : Kd.C (Kd.int .i64) w A0 l0.length l0) (hc0 : l0.length ≤ c0) (hr1 : Kd.C (Kd.int .i64) w A1 l1.length l1) (hc1 : l1.length ≤ c1) (h : slices_Equal_int_int.f k l0 l1 = some r) :
  Calls Try.prog 54 #[.slice A0 l0.length c0,.slice A1 l1.length c1] w fun e w' => e = .returned (.bool r) ∧ Drawn0 w w':=by
 have HR0:=am_ hr0
 have HC0:=am_ hc0
 clear hr0 hc0
 have HR1:=am_ hr1
 have HC1:=am_ hc1
 clear hr1 hc1
 have H : (if (l0.length : Int) = (l1.length : Int) then (slices_Equal_int_int.l0 k l0 l1 (l0.length : Int) 0) else (some false)) = some r:=h
 clear h
 by_cases c3 : (l0.length : Int) = (l1.length : Int)
 ·rw [if_pos c3] at H
  have c3b0 : ((l0.length : Int) == (l1.length : Int)) = true:=beq_iff_eq.mpr c3;have c3b1 : ((l0.length : Int) != (l1.length : Int)) = false:=bne_eq_false_iff_eq.mpr c3;(have c3b2 : (l0.length == l1.length) = true:=by first|simpa using c3|(simp at c3 ⊢;omega));clear c3;have H':=am_ H;clear H;(go_enter Try.func54,Try.ntmps54);(go_wp2);(repeat (go_quiet (fail);try go_wp2));(go_loopg [13] k (fun kq v13 w' => ∃ (x13_1 : Int),v13 = .int .i64 x13_1 ∧ Aside0 (slices_Equal_int_int.l0 kq l0 l1 (l0.length : Int) x13_1 = some r) ∧ Aside0 (kq ≤ k) ∧ Drawn0 w w'))
  case atStart => exact ⟨(0),(by first|rfl|(simp;done)|(simp [*];done)),H',⟨Nat.le_refl _⟩,by repeat (first|exact Drawn0.refl _|apply Drawn0.step)⟩
  case round =>
   clear H';(try clear c1);(try clear p2);(try clear c3);(try clear c3b0);(try clear c3b1);(try clear c3b2);obtain ⟨x13_1,rfl,HA,HK1,⟨m1,rfl⟩⟩:=hrel;cases gk with
   | zero => exact absurd HA.out (by simp [slices_Equal_int_int.l0])
   | succ k1 =>
    have H:=HA.out;clear HA;simp only [slices_Equal_int_int.l0] at H
    by_cases c4 : x13_1 < (l0.length : Int)
    ·rw [if_pos c4] at H
     have c4b0:=decide_eq_true c4;clear c4
     by_cases c5 : 0 ≤ x13_1
     ·rw [if_pos c5] at H
      have c5b0:=decide_eq_true c5;clear c5
      by_cases c6 : x13_1 < (l0.length : Int)
      ·rw [if_pos c6] at H
       have c6b0:=decide_eq_true c6;clear c6
       by_cases c7 : x13_1 < (l1.length : Int)
       ·rw [if_pos c7] at H
        have c7b0:=decide_eq_true c7;clear c7
        by_cases c8 : (rd l0 x13_1) = (rd l1 x13_1)
        ·rw [if_pos c8] at H
         have c8b0 : ((rd l0 x13_1) == (rd l1 x13_1)) = true:=beq_iff_eq.mpr c8;have c8b1 : ((rd l0 x13_1) != (rd l1 x13_1)) = false:=bne_eq_false_iff_eq.mpr c8;clear c8;have H':=am_ H;clear H;have p163:=de_ (0 ≤ (x13_1 : Int));have q163:=de_ (x13_1 < (l0.length : Int));obtain ⟨ad163,e163,hx163_0⟩:=Kd.at_int HR0.out x13_1 p163 q163;cases e163;replace p163:=eq_true p163;replace q163:=eq_true q163;have p164:=de_ (0 ≤ (x13_1 : Int));have q164:=de_ (x13_1 < (l1.length : Int));obtain ⟨ad164,e164,hx164_0⟩:=Kd.at_int HR1.out x13_1 p164 q164;cases e164;replace p164:=eq_true p164;replace q164:=eq_true q164;(go_wp2);(repeat (go_quiet (fail);try go_wp2));(go_roundg k1)
         case measure => have:=HK1.out;omega
         case rel => exact ⟨(wrap64 (x13_1 + 1)),(by first|rfl|(simp;done)|(simp [*];done)),H',⟨by have:=HK1.out;omega⟩,by repeat (first|exact Drawn0.refl _|apply Drawn0.step)⟩
        ·rw [if_neg c8] at H;have c8b0 : ((rd l0 x13_1) == (rd l1 x13_1)) = false:=beq_eq_false_iff_ne.mpr c8;have c8b1 : ((rd l0 x13_1) != (rd l1 x13_1)) = true:=bne_iff_ne.mpr c8;obtain rfl:=Option.some.inj H;have p163:=de_ (0 ≤ (x13_1 : Int));have q163:=de_ (x13_1 < (l0.length : Int));obtain ⟨ad163,e163,hx163_0⟩:=Kd.at_int HR0.out x13_1 p163 q163;cases e163;replace p163:=eq_true p163;replace q163:=eq_true q163;have p164:=de_ (0 ≤ (x13_1 : Int));have q164:=de_ (x13_1 < (l1.length : Int));obtain ⟨ad164,e164,hx164_0⟩:=Kd.at_int HR1.out x13_1 p164 q164;cases e164;replace p164:=eq_true p164;replace q164:=eq_true q164;(go_wp2);(repeat (go_quiet (fail);try go_wp2));(go_ret);exact ⟨by first|rfl|(simp;done)|(simp [*];done),by repeat (first|exact Drawn0.refl _|apply Drawn0.step)⟩
       ·rw [if_neg c7] at H;(simp at H)
      ·rw [if_neg c6] at H;(simp at H)
     ·rw [if_neg c5] at H;(simp at H)
    ·rw [if_neg c4] at H;have c4b0:=decide_eq_false c4;clear c4;obtain rfl:=Option.some.inj H;(go_wp2);(repeat (go_quiet (fail);try go_wp2));(go_ret);exact ⟨by first|rfl|(simp;done)|(simp [*];done),by repeat (first|exact Drawn0.refl _|apply Drawn0.step)⟩
 ·rw [if_neg c3] at H;have c3b0 : ((l0.length : Int) == (l1.length : Int)) = false:=beq_eq_false_iff_ne.mpr c3;have c3b1 : ((l0.length : Int) != (l1.length : Int)) = true:=bne_iff_ne.mpr c3;(have c3b2 : (l0.length == l1.length) = false:=by first|simpa using c3|(simp at c3 ⊢;omega));obtain rfl:=Option.some.inj H;(go_enter Try.func54,Try.ntmps54);(go_wp2);(repeat (go_quiet (fail);try go_wp2));(go_ret);exact ⟨by first|rfl|(simp;done)|(simp [*];done),by repeat (first|exact Drawn0.refl _|apply Drawn0.step)⟩
/-! ### diff_equal: function 38 -/
def diff_equal.f (k : Nat) (a0_0 : Int) (a0_1 : Int) (l0_2 : List Int) (l0_3 : List Int) (a1_0 : Int) (a1_1 : Int) (l1_2 : List Int) (l1_3 : List Int) : Option (Bool):=if a0_0 = a1_0 then (if a0_1 = a1_1 then ((slices_Equal_int_int.f k l0_2 l1_2).bind fun t167 => (if t167 = true then ((slices_Equal_int_int.f k l0_3 l1_3).bind fun t168 => (some t168)) else (some false))) else (some false)) else (some false)
theorem diff_equal.mono : ∀ a0 a1 a2 a3 a4 a5 a6 a7 k,LeO (diff_equal.f k a0 a1 a2 a3 a4 a5 a6 a7) (diff_equal.f (k + 1) a0 a1 a2 a3 a4 a5 a6 a7):=by
 intro a0 a1 a2 a3 a4 a5 a6 a7 k;(unfold diff_equal.f)
 repeat' first
   | (with_reducible exact slices_Equal_int_int.mono _ _ _)
   | (with_reducible exact LeO.refl _)
   | (with_reducible exact LeO.none _)
   | (with_reducible refine LeO.ite ?_ ?_)
   | (with_reducible refine LeO.bind ?_ (fun _ => ?_))
   | exact slices_Equal_int_int.mono _ _ _
   | exact LeO.none _
   | refine LeO.ite ?_ ?_
   | refine LeO.bind ?_ (fun _ => ?_)
set_option maxHeartbeats 8000000 in
set_option maxRecDepth 100000 in
theorem diff_equal.calls (k : Nat) (a0_0 : Int) (a0_1 : Int) (A0_2 : Option Addr) (c0_2 : Nat) (l0_2 : List Int) (A0_3 : Option Addr) (c0_3 : Nat) (l0_3 : List Int) (a1_0 : Int) (a1_1 : Int) (A1_2 : Option Addr) (c1_2 : Nat) (l1_2 : List Int) (A1_3 : Option Addr) (c1_3 : Nat) (l1_3 : List Int) (r : Bool) (w : World) (hr0_2 : Kd.C (Kd.int .i64) w A0_2 l0_2.length l0_2) (hc0_2 : l0_2.length ≤ c0_2) (hr0_3 : Kd.C (Kd.int .i64) w A0_3 l0_3.length l0_3) (hc0_3 : l0_3.length ≤ c0_3) (hr1_2 : Kd.C (Kd.int .i64) w A1_2 l1_2.length l1_2) (hc1_2 : l1_2.length ≤ c1_2) (hr1_3 : Kd.C (Kd.int .i64) w A1_3 l1_3.length l1_3) (hc1_3 : l1_3.length ≤ c1_3) (h : diff_equal.f k a0_0 a0_1 l0_2 l0_3 a1_0 a1_1 l1_2 l1_3 = some r) :
  Calls Try.prog 38 #[.agg #[.int .i64 a0_0,.int .i64 a0_1,.slice A0_2 l0_2.length c0_2,.slice A0_3 l0_3.length c0_3],.agg #[.int .i64 a1_0,.int .i64 a1_1,.slice A1_2 l1_2.length c1_2,.slice A1_3 l1_3.length c1_3]] w fun e w' => e = .returned (.bool r) ∧ Below w.heap.size w w':=by
 have hu28:=Try.underlying28
 have HR0_2:=am_ hr0_2
 have HC0_2:=am_ hc0_2
 clear hr0_2 hc0_2
 have HR0_3:=am_ hr0_3
 have HC0_3:=am_ hc0_3
 clear hr0_3 hc0_3
 have HR1_2:=am_ hr1_2
 have HC1_2:=am_ hc1_2
 clear hr1_2 hc1_2
 have HR1_3:=am_ hr1_3
 have HC1_3:=am_ hc1_3
 clear hr1_3 hc1_3
 have HB:=am_ (Below.refl w.heap.size w)
 have H : (if a0_0 = a1_0 then (if a0_1 = a1_1 then ((slices_Equal_int_int.f k l0_2 l1_2).bind fun t167 => (if t167 = true then ((slices_Equal_int_int.f k l0_3 l1_3).bind fun t168 => (some t168)) else (some false))) else (some false)) else (some false)) = some r:=h
 clear h
 by_cases c3 : a0_0 = a1_0
 ·rw [if_pos c3] at H
  have c3b0 : (a0_0 == a1_0) = true:=beq_iff_eq.mpr c3;have c3b1 : (a0_0 != a1_0) = false:=bne_eq_false_iff_eq.mpr c3;clear c3
  by_cases c4 : a0_1 = a1_1
  ·rw [if_pos c4] at H
   have c4b0 : (a0_1 == a1_1) = true:=beq_iff_eq.mpr c4;have c4b1 : (a0_1 != a1_1) = false:=bne_eq_false_iff_eq.mpr c4;clear c4;replace H:=be_ H;obtain ⟨t167,A50,H⟩:=H;have A5:=am_ A50;clear A50
   by_cases c6 : t167 = true
   (·subst c6;(rw [if_pos rfl] at H;replace H:=be_ H;obtain ⟨t168,A70,H⟩:=H;have A7:=am_ A70;clear A70;obtain rfl:=Option.some.inj H;(go_enter Try.func38,Try.ntmps38);(go_wp2_with (first|((with_reducible refine gd_ (N:=2) rfl ?_);refine bx2_ 2 #[.int .i64 a0_0,.int .i64 a0_1,.slice A0_2 l0_2.length c0_2,.slice A0_3 l0_3.length c0_3] 28 (fun gb165 hg w8 hbox hb => ?_);have n0_:=hb_ HB hb;have n1_:=am_ (hbox);have n2_ : Aside0 (w.heap.size ≤ gb165):=gz_ hg HB;have n3_ : Aside0 (w.heap.size ≤ gb165):=gz_ hg HB;revert n0_ n1_ n2_ n3_;clear HB;intro HB BK165 GW165 GE165;clear hb hbox hg)|((with_reducible refine gd_ (N:=3) rfl ?_);refine bx2_ 3 #[.int .i64 a1_0,.int .i64 a1_1,.slice A1_2 l1_2.length c1_2,.slice A1_3 l1_3.length c1_3] 28 (fun gb166 hg w9 hbox hb => ?_);have n0_:=kb_ BK165 hb;have n1_:=hb_ HB hb;have n2_:=am_ (hbox);have n3_ : Aside0 (w.heap.size ≤ gb166):=gz_ hg HB;have n4_ : Aside0 (w.heap.size ≤ gb166):=gz_ hg HB;have n5_:=nl_ hg BK165;have n6_:=ng_ hg BK165;revert n0_ n1_ n2_ n3_ n4_ n5_ n6_;clear BK165 HB;intro BK165 HB BK166 GW166 GE166 NB165_166 NB166_165;clear hb hbox hg;have hnb10:=NB165_166.out;have hnc10:=NB166_165.out;have hcz11_0:=cA_ BK165;have hfz11_0:=fA_ BK165;have hcz12_0:=cA_ BK166;have hfz12_0:=fA_ BK166)|(go_at_call 54;(with_reducible refine (slices_Equal_int_int.calls k _ _ l0_2 _ _ l1_2 true _ (cr_ (CB_ HR0_2.out HB.out)) HC0_2.out (cr_ (CB_ HR1_2.out HB.out)) HC1_2.out A5.out).mono ?_);rintro e w' ⟨rfl,⟨nd,rfl⟩⟩)|(go_at_call 54;(with_reducible refine (slices_Equal_int_int.calls k _ _ l0_3 _ _ l1_3 t168 _ ?side1 HC0_3.out ?side3 HC1_3.out A7.out).mono ?_);(case side1 => repeat (first|exact (CB_ HR0_3.out (hB_ HB))|(with_reducible first|refine CA_ ?_ _|refine CN_ ?_ _|refine CD_ ?_)));(case side3 => repeat (first|exact (CB_ HR1_3.out (hB_ HB))|(with_reducible first|refine CA_ ?_ _|refine CN_ ?_ _|refine CD_ ?_)));rintro e w' ⟨rfl,⟨nd,rfl⟩⟩)));(go_ret);(exact ⟨by first|rfl|(simp [errW_none,errW_some] <;> rfl)|(simp [*,errW_none,errW_some] <;> rfl),hB_ HB⟩)));(·replace c6:=Bool.eq_false_iff.mpr c6;(subst c6;rw [if_neg (show ¬ (false = true) by decide)] at H;obtain rfl:=Option.some.inj H;(go_enter Try.func38,Try.ntmps38);(go_wp2_with (first|((with_reducible refine gd_ (N:=2) rfl ?_);refine bx2_ 2 #[.int .i64 a0_0,.int .i64 a0_1,.slice A0_2 l0_2.length c0_2,.slice A0_3 l0_3.length c0_3] 28 (fun gb165 hg w13 hbox hb => ?_);have n0_:=hb_ HB hb;have n1_:=am_ (hbox);have n2_ : Aside0 (w.heap.size ≤ gb165):=gz_ hg HB;have n3_ : Aside0 (w.heap.size ≤ gb165):=gz_ hg HB;revert n0_ n1_ n2_ n3_;clear HB;intro HB BK165 GW165 GE165;clear hb hbox hg)|((with_reducible refine gd_ (N:=3) rfl ?_);refine bx2_ 3 #[.int .i64 a1_0,.int .i64 a1_1,.slice A1_2 l1_2.length c1_2,.slice A1_3 l1_3.length c1_3] 28 (fun gb166 hg w14 hbox hb => ?_);have n0_:=kb_ BK165 hb;have n1_:=hb_ HB hb;have n2_:=am_ (hbox);have n3_ : Aside0 (w.heap.size ≤ gb166):=gz_ hg HB;have n4_ : Aside0 (w.heap.size ≤ gb166):=gz_ hg HB;have n5_:=nl_ hg BK165;have n6_:=ng_ hg BK165;revert n0_ n1_ n2_ n3_ n4_ n5_ n6_;clear BK165 HB;intro BK165 HB BK166 GW166 GE166 NB165_166 NB166_165;clear hb hbox hg;have hnb15:=NB165_166.out;have hnc15:=NB166_165.out;have hcz16_0:=cA_ BK165;have hfz16_0:=fA_ BK165;have hcz17_0:=cA_ BK166;have hfz17_0:=fA_ BK166)|(go_at_call 54;(with_reducible refine (slices_Equal_int_int.calls k _ _ l0_2 _ _ l1_2 false _ (cr_ (CB_ HR0_2.out HB.out)) HC0_2.out (cr_ (CB_ HR1_2.out HB.out)) HC1_2.out A5.out).mono ?_);rintro e w' ⟨rfl,⟨nd,rfl⟩⟩)));(go_ret);(exact ⟨by first|rfl|(simp [errW_none,errW_some] <;> rfl)|(simp [*,errW_none,errW_some] <;> rfl),hB_ HB⟩)))
  ·rw [if_neg c4] at H;(have c4b0 : (a0_1 == a1_1) = false:=beq_eq_false_iff_ne.mpr c4;have c4b1 : (a0_1 != a1_1) = true:=bne_iff_ne.mpr c4;obtain rfl:=Option.some.inj H;(go_enter Try.func38,Try.ntmps38);(go_wp2_with (first|((with_reducible refine gd_ (N:=2) rfl ?_);refine bx2_ 2 #[.int .i64 a0_0,.int .i64 a0_1,.slice A0_2 l0_2.length c0_2,.slice A0_3 l0_3.length c0_3] 28 (fun gb165 hg w18 hbox hb => ?_);have n0_:=hb_ HB hb;have n1_:=am_ (hbox);have n2_ : Aside0 (w.heap.size ≤ gb165):=gz_ hg HB;have n3_ : Aside0 (w.heap.size ≤ gb165):=gz_ hg HB;revert n0_ n1_ n2_ n3_;clear HB;intro HB BK165 GW165 GE165;clear hb hbox hg)|((with_reducible refine gd_ (N:=3) rfl ?_);refine bx2_ 3 #[.int .i64 a1_0,.int .i64 a1_1,.slice A1_2 l1_2.length c1_2,.slice A1_3 l1_3.length c1_3] 28 (fun gb166 hg w19 hbox hb => ?_);have n0_:=kb_ BK165 hb;have n1_:=hb_ HB hb;have n2_:=am_ (hbox);have n3_ : Aside0 (w.heap.size ≤ gb166):=gz_ hg HB;have n4_ : Aside0 (w.heap.size ≤ gb166):=gz_ hg HB;have n5_:=nl_ hg BK165;have n6_:=ng_ hg BK165;revert n0_ n1_ n2_ n3_ n4_ n5_ n6_;clear BK165 HB;intro BK165 HB BK166 GW166 GE166 NB165_166 NB166_165;clear hb hbox hg;have hnb20:=NB165_166.out;have hnc20:=NB166_165.out;have hcz21_0:=cA_ BK165;have hfz21_0:=fA_ BK165;have hcz22_0:=cA_ BK166;have hfz22_0:=fA_ BK166)));(go_ret);(exact ⟨by first|rfl|(simp [errW_none,errW_some] <;> rfl)|(simp [*,errW_none,errW_some] <;> rfl),hB_ HB⟩))
 ·rw [if_neg c3] at H;(have c3b0 : (a0_0 == a1_0) = false:=beq_eq_false_iff_ne.mpr c3;have c3b1 : (a0_0 != a1_0) = true:=bne_iff_ne.mpr c3;obtain rfl:=Option.some.inj H;(go_enter Try.func38,Try.ntmps38);(go_wp2_with (first|((with_reducible refine gd_ (N:=2) rfl ?_);refine bx2_ 2 #[.int .i64 a0_0,.int .i64 a0_1,.slice A0_2 l0_2.length c0_2,.slice A0_3 l0_3.length c0_3] 28 (fun gb165 hg w23 hbox hb => ?_);have n0_:=hb_ HB hb;have n1_:=am_ (hbox);have n2_ : Aside0 (w.heap.size ≤ gb165):=gz_ hg HB;have n3_ : Aside0 (w.heap.size ≤ gb165):=gz_ hg HB;revert n0_ n1_ n2_ n3_;clear HB;intro HB BK165 GW165 GE165;clear hb hbox hg)|((with_reducible refine gd_ (N:=3) rfl ?_);refine bx2_ 3 #[.int .i64 a1_0,.int .i64 a1_1,.slice A1_2 l1_2.length c1_2,.slice A1_3 l1_3.length c1_3] 28 (fun gb166 hg w24 hbox hb => ?_);have n0_:=kb_ BK165 hb;have n1_:=hb_ HB hb;have n2_:=am_ (hbox);have n3_ : Aside0 (w.heap.size ≤ gb166):=gz_ hg HB;have n4_ : Aside0 (w.heap.size ≤ gb166):=gz_ hg HB;have n5_:=nl_ hg BK165;have n6_:=ng_ hg BK165;revert n0_ n1_ n2_ n3_ n4_ n5_ n6_;clear BK165 HB;intro BK165 HB BK166 GW166 GE166 NB165_166 NB166_165;clear hb hbox hg;have hnb25:=NB165_166.out;have hnc25:=NB166_165.out;have hcz26_0:=cA_ BK165;have hfz26_0:=fA_ BK165;have hcz27_0:=cA_ BK166;have hfz27_0:=fA_ BK166)));(go_ret);(exact ⟨by first|rfl|(simp [errW_none,errW_some] <;> rfl)|(simp [*,errW_none,errW_some] <;> rfl),hB_ HB⟩))
end Go.Proofs.Ytpclhbcflkncnaa.PAll
