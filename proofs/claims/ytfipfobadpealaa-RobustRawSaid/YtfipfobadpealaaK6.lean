-- Packed by wip/tools/pack.py of this session out of what plugprint.py and the kit's print wrote. Lean checks it.
import Derived.Test.YtfipfobadpealaaKS
import Derived.Test.YtfipfobadpealaaK5
namespace Go.Proofs.Ytfipfobadpealaa.PAll
open Go.RowKit Go.Proofs.YtfipfobadpealaaW.PrintWords Go.Proofs.YtfipfobadpealaaW.PrintLast Go.Proofs.YtfipfobadpealaaW.PrintMore
attribute [local go_sem] max2_int min2_int max_two min_two max_three min_three max_four min_four
set_option linter.unusedVariables false
set_option linter.unusedSimpArgs false
/-! ### network_Good: function 39 (by hand) -/
def network_Good.f (a0_0 : Int) (l0_1 : List S59) (l0_2 : List S40) (l1 : List Int) : Option Bool :=
 (network_Check.f a0_0 l0_1 l0_2).bind fun t => some (t && decide (l1.length = l0_1.length) && !(l1.any (timeBad a0_0)))
theorem check_true {a : Int} {l1 : List S59} {l2 : List S40} (h : network_Check.f a l1 l2 = some true) : 2 ≤ a ∧ a ≤ 7200 ∧ l1.length ≤ 48 ∧ l2.length ≤ 512 ∧ l2.any (actBad ((l1.length : Int) - 1) a) = false:=by
 unfold network_Check.f at h
 split at h
 (·next h1 => simp only [Bool.and_eq_true,decide_eq_true_eq] at h1;exact ⟨h1.1.1.1,h1.1.1.2,h1.1.2,h1.2,by simpa using h⟩);(·simp at h)
set_option maxHeartbeats 8000000 in
set_option maxRecDepth 100000 in
theorem network_Good.calls (a0_0 : Int) (A0_1 : Option Addr) (c0_1 : Nat) (l0_1 : List S59) (A0_2 : Option Addr) (c0_2 : Nat) (l0_2 : List S40) (A1 : Option Addr) (c1 : Nat) (l1 : List Int) (r : Bool) (w : World) (hr0_1 : Kd.C k59 w A0_1 l0_1.length l0_1) (hc0_1 : l0_1.length ≤ c0_1) (hr0_2 : Kd.C k40 w A0_2 l0_2.length l0_2) (hc0_2 : l0_2.length ≤ c0_2) (hr1 : Kd.C (Kd.int .i64) w A1 l1.length l1) (hc1 : l1.length ≤ c1) (h : network_Good.f a0_0 l0_1 l0_2 l1 = some r) :
  Calls Try.prog 39 #[.agg #[.int .i64 a0_0,.slice A0_1 l0_1.length c0_1,.slice A0_2 l0_2.length c0_2],.slice A1 l1.length c1] w fun e w' => e = .returned (.bool r) ∧ Below w.heap.size w w':=by
 unfold network_Good.f at h
 obtain ⟨t,ht,h⟩:=Option.bind_eq_some_iff.mp h
 obtain rfl:=Option.some.inj h
 have HG:=am_ (fun w' hr1 hr2 => network_Check.calls a0_0 A0_1 c0_1 l0_1 A0_2 c0_2 l0_2 t w' hr1 hc0_1 hr2 hc0_2 ht)
 have HT:=am_ ht
 have HR1:=am_ hr0_1
 have HR2:=am_ hr0_2
 have HRT:=am_ hr1
 have HF:=am_ (Below.refl w.heap.size w)
 clear hr0_1 hr0_2 hr1 hc0_1 hc0_2 hc1 h ht
 cases t with
 | false =>
  (go_enter Try.func39,Try.ntmps39);(go_wp2_with fail);refine (HG.out _ (CA_ HR1.out _) (CA_ HR2.out _)).mono ?_;rintro e w' ⟨rfl,hb⟩;(have HB:=am_ hb);clear hb;(go_wp2);(go_ret);exact ⟨rfl,(bA_ HF.out _).trans (HB.out.mono (by simp))⟩
 | true =>
  obtain ⟨hp0,hp1,hl1,_,_⟩:=check_true HT.out
  by_cases hl : l1.length = l0_1.length
  ·have HL:=am_ hl
   (have e1 : (l1.length == l0_1.length) = true:=by simpa using hl);(have e2 : ((l1.length : Int) == (l0_1.length : Int)) = true:=by simp [hl]);(have e3 : decide (l1.length = l0_1.length) = true:=decide_eq_true hl);rw [e3];(have hbig : l1.length ≤ 9223372036854775807:=by omega);clear hl e3;obtain ⟨rr,hrr,hany⟩:=findO_any (timeBad a0_0) l1;(have HRR:=am_ hrr);(have HANY:=am_ hany);clear hrr hany;(have eg : ∀ args w,(callFunc 51 args).run Try.prog w = .ok (.enter 51 args) w:=enters_fn Try.func51 (by kernel_rfl) rfl);(have HCF:=am_ (fun c lb w' hr hp => ContainsFuncInt.calls 51 lb _ eg A1 c l1 rr w' hr hbig hp HRR.out));clear eg;(go_enter Try.func39,Try.ntmps39);(go_wp2_with fail);refine (HG.out _ (CA_ HR1.out _) (CA_ HR2.out _)).mono ?_;rintro e w' ⟨rfl,hb⟩;(have HB:=am_ ((bA_ HF.out (.cells #[Value.int IntKind.i64 a0_0,Value.slice A0_1 l0_1.length c0_1,Value.slice A0_2 l0_2.length c0_2] 26)).trans (hb.mono (by simp))));(have hbk:=kB_ (blk_new w (.cells #[Value.int IntKind.i64 a0_0,Value.slice A0_1 l0_1.length c0_1,Value.slice A0_2 l0_2.length c0_2] 26)) hb);(have HBK:=am_ hbk);(have hc0 : w'.cell? ⟨w.heap.size,1,none⟩ = some (Value.slice A0_1 l0_1.length c0_1):=(kC_ hbk 1).trans rfl);clear hb hbk;(go_wp2_with fail);refine (HCF.out _ _ _ ?hr ?hp).mono ?_
   case hr => exact CB_ HRT.out HB.out
   case hp => exact GoodFn.calls _ _ _ _ HBK.out rfl hp0 hp1
   rintro e w2 ⟨rfl,hb⟩;(have HB2:=am_ (HB.out.trans (hb.mono HB.out.size)));clear hb;rw [HANY.out];(go_wp2);(go_ret);exact ⟨by simp,HB2.out⟩
  ·(have e1 : (l1.length == l0_1.length) = false:=by simpa using hl);((have e2 : ((l1.length : Int) == (l0_1.length : Int)) = false:=by simp;omega);(have e3 : decide (l1.length = l0_1.length) = false:=decide_eq_false hl);rw [e3];clear hl e3;(go_enter Try.func39,Try.ntmps39);(go_wp2_with fail);refine (HG.out _ (CA_ HR1.out _) (CA_ HR2.out _)).mono ?_;rintro e w' ⟨rfl,hb⟩;(have HB:=am_ ((bA_ HF.out (.cells #[Value.int IntKind.i64 a0_0,Value.slice A0_1 l0_1.length c0_1,Value.slice A0_2 l0_2.length c0_2] 26)).trans (hb.mono (by simp))));(have hbk:=kB_ (blk_new w (.cells #[Value.int IntKind.i64 a0_0,Value.slice A0_1 l0_1.length c0_1,Value.slice A0_2 l0_2.length c0_2] 26)) hb);(have hc0 : w'.cell? ⟨w.heap.size,1,none⟩ = some (Value.slice A0_1 l0_1.length c0_1):=(kC_ hbk 1).trans rfl);clear hb hbk;(go_wp2);(go_ret);exact ⟨rfl,HB.out⟩)
/-! ### arith_Mod: function 53 -/
def arith_Mod.f (a0 : Int) (a1 : Int) : Option (Int):=if a1 < 1 then (some 0) else (if a1 = 0 then (none) else (if (Int.tmod a0 a1) < 0 then (some (wrap64 ((Int.tmod a0 a1) + a1))) else (some (Int.tmod a0 a1))))
set_option maxHeartbeats 8000000 in
set_option maxRecDepth 100000 in
theorem arith_Mod.calls (a0 : Int) (a1 : Int) (r : Int) (w : World) (h : arith_Mod.f a0 a1 = some r) :
  Calls Try.prog 53 #[.int .i64 a0,.int .i64 a1] w fun e w' => e = .returned (.int .i64 r) ∧ Drawn0 w w':=by
 have H : (if a1 < 1 then (some 0) else (if a1 = 0 then (none) else (if (Int.tmod a0 a1) < 0 then (some (wrap64 ((Int.tmod a0 a1) + a1))) else (some (Int.tmod a0 a1))))) = some r:=h
 clear h
 by_cases c3 : a1 < 1
 ·rw [if_pos c3] at H;((have c3b0:=decide_eq_true c3);clear c3;obtain rfl:=Option.some.inj H;(go_enter Try.func53,Try.ntmps53);(go_wp2);(go_ret);exact ⟨by first|rfl|(simp;done)|(simp [*];done),by repeat (first|exact Drawn0.refl _|apply Drawn0.step)⟩)
 ·rw [if_neg c3] at H
  (have c3b0:=decide_eq_false c3);clear c3
  by_cases c4 : a1 = 0
  ·rw [if_pos c4] at H;(simp at H)
  ·rw [if_neg c4] at H
   (have c4b0 : (a1 == 0) = false:=beq_eq_false_iff_ne.mpr c4);(have c4b1 : (a1 != 0) = true:=bne_iff_ne.mpr c4)
   by_cases c5 : (Int.tmod a0 a1) < 0
   (·rw [if_pos c5] at H;((have c5b0:=decide_eq_true c5);clear c5;obtain rfl:=Option.some.inj H;(go_enter Try.func53,Try.ntmps53);(go_wp2);(go_ret);exact ⟨by first|rfl|(simp;done)|(simp [*];done),by repeat (first|exact Drawn0.refl _|apply Drawn0.step)⟩));(·rw [if_neg c5] at H;((have c5b0:=decide_eq_false c5);clear c5;obtain rfl:=Option.some.inj H;(go_enter Try.func53,Try.ntmps53);(go_wp2);(go_ret);exact ⟨by first|rfl|(simp;done)|(simp [*];done),by repeat (first|exact Drawn0.refl _|apply Drawn0.step)⟩))
/-! ### network_Lasts: function 42 -/
def network_Lasts.f (a0 : Int) (a1_0 : Int) (a1_1 : Int) (a1_2 : Int) (a1_3 : Int) (a1_4 : Int) (a1_5 : Int) (a2 : Int) (a3 : Int) : Option (Int):=(arith_Mod.f (wrap64 ((wrap64 (a3 - a2)) - a1_3)) a0).bind fun t162 => (some (wrap64 (a1_3 + t162)))
set_option maxHeartbeats 8000000 in
set_option maxRecDepth 100000 in
theorem network_Lasts.calls (a0 : Int) (a1_0 : Int) (a1_1 : Int) (a1_2 : Int) (a1_3 : Int) (a1_4 : Int) (a1_5 : Int) (a2 : Int) (a3 : Int) (r : Int) (w : World) (h : network_Lasts.f a0 a1_0 a1_1 a1_2 a1_3 a1_4 a1_5 a2 a3 = some r) :
  Calls Try.prog 42 #[.int .i64 a0,.agg #[.int .i64 a1_0,.int .i64 a1_1,.int .i64 a1_2,.int .i64 a1_3,.int .i64 a1_4,.int .i64 a1_5],.int .i64 a2,.int .i64 a3] w fun e w' => e = .returned (.int .i64 r) ∧ Below w.heap.size w w':=by
 have hu40:=Try.underlying40
 have HB:=am_ (Below.refl w.heap.size w)
 have H : ((arith_Mod.f (wrap64 ((wrap64 (a3 - a2)) - a1_3)) a0).bind fun t162 => (some (wrap64 (a1_3 + t162)))) = some r:=h
 clear h
 replace H:=be_ H
 obtain ⟨t162,A50,H⟩:=H
 replace H : (some (wrap64 (a1_3 + t162))) = some r:=H
 have A5:=am_ A50
 clear A50
 obtain rfl:=Option.some.inj H
 go_enter Try.func42,Try.ntmps42
 go_wp2_with (first|((with_reducible refine gd_ (N:=5) rfl ?_);refine bx_ ?hg (N:=5) ?hd (cs:=#[.int .i64 a1_0,.int .i64 a1_1,.int .i64 a1_2,.int .i64 a1_3,.int .i64 a1_4,.int .i64 a1_5]) (t:=40) ?hr ?_;(case hd => rfl);(case hg => rfl);(case hr => first|(go_simp;done)|(go_simp;rfl));intro gb161 hg w6 hbox hb;have n0_:=am_ (bs_ (by repeat (first|(with_reducible first|exact HB.out|apply bA_|apply bN_|apply b1_)|exact HB.out)) hb);have n1_:=am_ (hbox);have n2_:=am_ ((by rw [hg];exact (bz_ (by repeat (first|(with_reducible first|exact HB.out|apply bA_|apply bN_|apply b1_)|exact HB.out))) : w.heap.size ≤ gb161));have n3_:=am_ ((by rw [hg];exact (bz_ (by repeat (first|(with_reducible first|exact HB.out|apply bA_|apply bN_|apply b1_)|exact HB.out))) : w.heap.size ≤ gb161));clear HB;have HB:=n0_;have BK161:=n1_;have GW161:=n2_;have GE161:=n3_;clear n0_ n1_ n2_ n3_;clear hb hbox hg;have hcz7_0 : w6.cell? ⟨gb161,0,none⟩ = some (.int .i64 a1_0):=(kC_ BK161.out 0).trans rfl;have hcz7_1 : w6.cell? ⟨gb161,1,none⟩ = some (.int .i64 a1_1):=(kC_ BK161.out 1).trans rfl;have hcz7_2 : w6.cell? ⟨gb161,2,none⟩ = some (.int .i64 a1_2):=(kC_ BK161.out 2).trans rfl;have hcz7_3 : w6.cell? ⟨gb161,3,none⟩ = some (.int .i64 a1_3):=(kC_ BK161.out 3).trans rfl;have hcz7_4 : w6.cell? ⟨gb161,4,none⟩ = some (.int .i64 a1_4):=(kC_ BK161.out 4).trans rfl;have hcz7_5 : w6.cell? ⟨gb161,5,none⟩ = some (.int .i64 a1_5):=(kC_ BK161.out 5).trans rfl;have hfz7_0:=kF_ BK161.out 0;have hfz7_1:=kF_ BK161.out 1;have hfz7_2:=kF_ BK161.out 2;have hfz7_3:=kF_ BK161.out 3;have hfz7_4:=kF_ BK161.out 4;have hfz7_5:=kF_ BK161.out 5)|(go_at_call 53;(with_reducible refine (arith_Mod.calls (wrap64 ((wrap64 (a3 - a2)) - a1_3)) a0 t162 _ A5.out).mono ?_);rintro e w' ⟨rfl,⟨nd,rfl⟩⟩;(try first|exact ⟨rfl,_,World.drewN_drewN _ _ _⟩|exact ⟨rfl,_,Eq.trans (World.drewN_drewN _ _ _) (congrArg (World.drewN _) (Nat.add_assoc _ _ _))⟩)))
 repeat (go_quiet (first|((with_reducible refine gd_ (N:=5) rfl ?_);refine bx_ ?hg (N:=5) ?hd (cs:=#[.int .i64 a1_0,.int .i64 a1_1,.int .i64 a1_2,.int .i64 a1_3,.int .i64 a1_4,.int .i64 a1_5]) (t:=40) ?hr ?_;(case hd => rfl);(case hg => rfl);(case hr => first|(go_simp;done)|(go_simp;rfl));intro gb161 hg w6 hbox hb;have n0_:=am_ (bs_ (by repeat (first|(with_reducible first|exact HB.out|apply bA_|apply bN_|apply b1_)|exact HB.out)) hb);have n1_:=am_ (hbox);have n2_:=am_ ((by rw [hg];exact (bz_ (by repeat (first|(with_reducible first|exact HB.out|apply bA_|apply bN_|apply b1_)|exact HB.out))) : w.heap.size ≤ gb161));have n3_:=am_ ((by rw [hg];exact (bz_ (by repeat (first|(with_reducible first|exact HB.out|apply bA_|apply bN_|apply b1_)|exact HB.out))) : w.heap.size ≤ gb161));clear HB;have HB:=n0_;have BK161:=n1_;have GW161:=n2_;have GE161:=n3_;clear n0_ n1_ n2_ n3_;clear hb hbox hg;have hcz7_0 : w6.cell? ⟨gb161,0,none⟩ = some (.int .i64 a1_0):=(kC_ BK161.out 0).trans rfl;have hcz7_1 : w6.cell? ⟨gb161,1,none⟩ = some (.int .i64 a1_1):=(kC_ BK161.out 1).trans rfl;have hcz7_2 : w6.cell? ⟨gb161,2,none⟩ = some (.int .i64 a1_2):=(kC_ BK161.out 2).trans rfl;have hcz7_3 : w6.cell? ⟨gb161,3,none⟩ = some (.int .i64 a1_3):=(kC_ BK161.out 3).trans rfl;have hcz7_4 : w6.cell? ⟨gb161,4,none⟩ = some (.int .i64 a1_4):=(kC_ BK161.out 4).trans rfl;have hcz7_5 : w6.cell? ⟨gb161,5,none⟩ = some (.int .i64 a1_5):=(kC_ BK161.out 5).trans rfl;have hfz7_0:=kF_ BK161.out 0;have hfz7_1:=kF_ BK161.out 1;have hfz7_2:=kF_ BK161.out 2;have hfz7_3:=kF_ BK161.out 3;have hfz7_4:=kF_ BK161.out 4;have hfz7_5:=kF_ BK161.out 5)|(go_at_call 53;(with_reducible refine (arith_Mod.calls (wrap64 ((wrap64 (a3 - a2)) - a1_3)) a0 t162 _ A5.out).mono ?_);rintro e w' ⟨rfl,⟨nd,rfl⟩⟩;(try first|exact ⟨rfl,_,World.drewN_drewN _ _ _⟩|exact ⟨rfl,_,Eq.trans (World.drewN_drewN _ _ _) (congrArg (World.drewN _) (Nat.add_assoc _ _ _))⟩)));try go_wp2_with (first|((with_reducible refine gd_ (N:=5) rfl ?_);refine bx_ ?hg (N:=5) ?hd (cs:=#[.int .i64 a1_0,.int .i64 a1_1,.int .i64 a1_2,.int .i64 a1_3,.int .i64 a1_4,.int .i64 a1_5]) (t:=40) ?hr ?_;(case hd => rfl);(case hg => rfl);(case hr => first|(go_simp;done)|(go_simp;rfl));intro gb161 hg w6 hbox hb;have n0_:=am_ (bs_ (by repeat (first|(with_reducible first|exact HB.out|apply bA_|apply bN_|apply b1_)|exact HB.out)) hb);have n1_:=am_ (hbox);have n2_:=am_ ((by rw [hg];exact (bz_ (by repeat (first|(with_reducible first|exact HB.out|apply bA_|apply bN_|apply b1_)|exact HB.out))) : w.heap.size ≤ gb161));have n3_:=am_ ((by rw [hg];exact (bz_ (by repeat (first|(with_reducible first|exact HB.out|apply bA_|apply bN_|apply b1_)|exact HB.out))) : w.heap.size ≤ gb161));clear HB;have HB:=n0_;have BK161:=n1_;have GW161:=n2_;have GE161:=n3_;clear n0_ n1_ n2_ n3_;clear hb hbox hg;have hcz7_0 : w6.cell? ⟨gb161,0,none⟩ = some (.int .i64 a1_0):=(kC_ BK161.out 0).trans rfl;have hcz7_1 : w6.cell? ⟨gb161,1,none⟩ = some (.int .i64 a1_1):=(kC_ BK161.out 1).trans rfl;have hcz7_2 : w6.cell? ⟨gb161,2,none⟩ = some (.int .i64 a1_2):=(kC_ BK161.out 2).trans rfl;have hcz7_3 : w6.cell? ⟨gb161,3,none⟩ = some (.int .i64 a1_3):=(kC_ BK161.out 3).trans rfl;have hcz7_4 : w6.cell? ⟨gb161,4,none⟩ = some (.int .i64 a1_4):=(kC_ BK161.out 4).trans rfl;have hcz7_5 : w6.cell? ⟨gb161,5,none⟩ = some (.int .i64 a1_5):=(kC_ BK161.out 5).trans rfl;have hfz7_0:=kF_ BK161.out 0;have hfz7_1:=kF_ BK161.out 1;have hfz7_2:=kF_ BK161.out 2;have hfz7_3:=kF_ BK161.out 3;have hfz7_4:=kF_ BK161.out 4;have hfz7_5:=kF_ BK161.out 5)|(go_at_call 53;(with_reducible refine (arith_Mod.calls (wrap64 ((wrap64 (a3 - a2)) - a1_3)) a0 t162 _ A5.out).mono ?_);rintro e w' ⟨rfl,⟨nd,rfl⟩⟩;(try first|exact ⟨rfl,_,World.drewN_drewN _ _ _⟩|exact ⟨rfl,_,Eq.trans (World.drewN_drewN _ _ _) (congrArg (World.drewN _) (Nat.add_assoc _ _ _))⟩))))
 go_ret
 exact ⟨by first|rfl|(simp [errW_none,errW_some] <;> rfl)|(simp [*,errW_none,errW_some] <;> rfl),by repeat (first|(with_reducible first|exact HB.out|apply bA_|apply bN_|apply b1_|refine bS_ ?_ GE161.out)|exact HB.out)⟩
end Go.Proofs.Ytfipfobadpealaa.PAll
