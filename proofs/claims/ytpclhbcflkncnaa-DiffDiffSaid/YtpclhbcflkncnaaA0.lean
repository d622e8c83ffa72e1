-- Packed by wip/tools/pack.py of this session out of what plugprint.py and the kit's print wrote. Lean checks it.
import Derived.Test.YtpclhbcflkncnaaAS
namespace Go.Proofs.Ytpclhbcflkncnaa.PAll
open Go.RowKit Go.Proofs.YtpclhbcflkncnaaW.PrintWords Go.Proofs.YtpclhbcflkncnaaW.PrintLast Go.Proofs.YtpclhbcflkncnaaW.PrintMore
attribute [local go_sem] max2_int min2_int max_two min_two max_three min_three max_four min_four
set_option linter.unusedVariables false
set_option linter.unusedSimpArgs false
/-! ### railplankeep_From: function 31 -/
def railplankeep_From.f (l0 : List Int) : Option (List Int × Int):=some (l0,0)
set_option maxHeartbeats 8000000 in
set_option maxRecDepth 100000 in
theorem railplankeep_From.calls (A0 : Option Addr) (c0 : Nat) (l0 : List Int) (r1 : List Int) (r2 : Int) (w0 w : World) (hB : Below w0.heap.size w0 w) (hr0 : Kd.C (Kd.int .i64) w0 A0 l0.length l0) (hc0 : l0.length ≤ c0) (h : railplankeep_From.f l0 = some (r1,r2)) :
  Calls Try.prog 31 #[.slice A0 l0.length c0] w fun e w' => ∃ g_ : Nat,e = .returned (.pointer (some ⟨g_,0,none⟩)) ∧ IsS69 w0 w' g_ r1 r2 ∧ Below w0.heap.size w0 w' ∧ Below w.heap.size w w':=by
 have hu69:=Try.underlying69
 have HR0:=am_ hr0
 have HC0:=am_ hc0
 clear hr0 hc0
 have HBW:=am_ (Below.refl w.heap.size w)
 have HW0:=am_ hB.size
 have HB:=am_ hB
 clear hB
 have H : (some (l0,0)) = some (r1,r2):=h
 clear h
 simp only [Option.some.injEq,Prod.mk.injEq] at H
 obtain ⟨rfl,rfl⟩:=H
 go_enter Try.func31,Try.ntmps31
 go_wp2_with (first|((with_reducible refine gd_ (N:=5) rfl ?_);refine bx2_ 5 #[.slice A0 l0.length c0,.int .i64 0] 69 (fun gb101 hg w2 hbox hb => ?_);have n0_:=am_ (bs_ HBW.out hb);have n1_:=hb_ HB hb;have n2_:=am_ (hbox);have n3_:=am_ ((by rw [hg];exact (bz_ (by repeat (first|(with_reducible first|exact HBW.out|apply bA_|apply bN_|apply b1_)|exact HBW.out))) : w.heap.size ≤ gb101));have n4_:=am_ ((Nat.le_trans HW0.out (by rw [hg];exact (bz_ (by repeat (first|(with_reducible first|exact HBW.out|apply bA_|apply bN_|apply b1_)|exact HBW.out))) : w.heap.size ≤ gb101) : w0.heap.size ≤ gb101));revert n0_ n1_ n2_ n3_ n4_;clear HBW HB;intro HBW HB BK101 GW101 GE101;clear hb hbox hg))
 go_ret
 exact ⟨_,rfl,(show IsS69 w0 _ gb101 l0 0 from ⟨_,_,by (with_reducible repeat (first|refine kN_ ?_ _|refine kD_ ?_|refine kA_ ?_ _));exact BK101.out,GE101.out,HR0.out⟩),hB_ HB,by repeat (first|(with_reducible first|exact HBW.out|apply bA_|apply bN_|apply b1_|refine bS_ ?_ GW101.out)|exact HBW.out)⟩
/-! ### railplankeep_Pick: function 14 -/
def railplankeep_Pick.f (a0 : Int) (a1 : Int) : Option (Int):=if (IntKind.u64.wrap (a1)) = 0 then (none) else (some (wrap64 (Int.tmod (IntKind.u64.wrap (a0)) (IntKind.u64.wrap (a1)))))
set_option maxHeartbeats 8000000 in
set_option maxRecDepth 100000 in
theorem railplankeep_Pick.calls (a0 : Int) (a1 : Int) (r : Int) (w : World) (h : railplankeep_Pick.f a0 a1 = some r) :
  Calls Try.prog 14 #[.int .i64 a0,.int .i64 a1] w fun e w' => e = .returned (.int .i64 r) ∧ Drawn0 w w':=by
 have H : (if (IntKind.u64.wrap (a1)) = 0 then (none) else (some (wrap64 (Int.tmod (IntKind.u64.wrap (a0)) (IntKind.u64.wrap (a1)))))) = some r:=h
 clear h
 by_cases c3 : (IntKind.u64.wrap (a1)) = 0
 ·rw [if_pos c3] at H;(simp at H)
 ·rw [if_neg c3] at H;have c3b0 : ((IntKind.u64.wrap (a1)) == 0) = false:=beq_eq_false_iff_ne.mpr c3;have c3b1 : ((IntKind.u64.wrap (a1)) != 0) = true:=bne_iff_ne.mpr c3;obtain rfl:=Option.some.inj H;(go_enter Try.func14,Try.ntmps14);(go_wp2);(go_ret);exact ⟨by first|rfl|(simp;done)|(simp [*];done),by repeat (first|exact Drawn0.refl _|apply Drawn0.step)⟩
/-! ### railplankeep_Source_Next: function 32 -/
def railplankeep_Source_Next.f (s0_0 : List Int) (s0_1 : Int) (a1 : Int) : Option (Int × Int):=if s0_1 ≥ (s0_0.length : Int) then (some (0,s0_1)) else (if 0 ≤ (wrap64 ((wrap64 (s0_1 + 1)) - 1)) then (if (wrap64 ((wrap64 (s0_1 + 1)) - 1)) < (s0_0.length : Int) then ((railplankeep_Pick.f (rd s0_0 (wrap64 ((wrap64 (s0_1 + 1)) - 1))) a1).bind fun t103 => (some (t103,wrap64 (s0_1 + 1)))) else (none)) else (none))
set_option maxHeartbeats 8000000 in
set_option maxRecDepth 100000 in
theorem railplankeep_Source_Next.calls (g : Nat) (s0_0 : List Int) (s0_1 : Int) (a1 : Int) (r1 : Int) (r2 : Int) (w0 w : World) (hI : IsS69 w0 w g s0_0 s0_1) (hB : Below w0.heap.size w0 w) (h : railplankeep_Source_Next.f s0_0 s0_1 a1 = some (r1,r2)) :
  Calls Try.prog 32 #[.pointer (some ⟨g,0,none⟩),.int .i64 a1] w fun e w' => e = .returned (.int .i64 r1) ∧ IsS69 w0 w' g s0_0 r2 ∧ Below w0.heap.size w0 w' ∧ KeepBut w w' g none:=by
 have HI0:=am_ hI
 have HK:=am_ (KeepBut.refl w g none)
 have HL:=am_ hB.size
 clear hI
 have HW0:=am_ hB.size
 have HB:=am_ hB
 clear hB
 have H : (if s0_1 ≥ (s0_0.length : Int) then (some (0,s0_1)) else (if 0 ≤ (wrap64 ((wrap64 (s0_1 + 1)) - 1)) then (if (wrap64 ((wrap64 (s0_1 + 1)) - 1)) < (s0_0.length : Int) then ((railplankeep_Pick.f (rd s0_0 (wrap64 ((wrap64 (s0_1 + 1)) - 1))) a1).bind fun t103 => (some (t103,wrap64 (s0_1 + 1)))) else (none)) else (none))) = some (r1,r2):=h
 clear h
 by_cases c3 : s0_1 ≥ (s0_0.length : Int)
 ·rw [if_pos c3] at H;(have c3b0:=decide_eq_true c3;clear c3;simp only [Option.some.injEq,Prod.mk.injEq] at H;obtain ⟨rfl,rfl⟩:=H;obtain ⟨ASz4_0,cSz4_0,HGz4,hgz4,HSz4_0⟩:=HI0.out;have hcz4_0:=cellS69_0 HGz4;have hcz4_1:=cellS69_1 HGz4;have hfz4_1:=kF_ HGz4 1;clear HGz4 hgz4;(go_enter Try.func32,Try.ntmps32);(go_wp2);(repeat (go_quiet (fail);try go_wp2));(go_ret);(exact ⟨by first|rfl|(simp [errW_none,errW_some] <;> rfl)|(simp [*,errW_none,errW_some] <;> rfl),by repeat (first|(with_reducible first|exact HI0.out|apply IsS69.alloc|apply IsS69.drewN|apply IsS69.drew|apply IsS69.set_1)|exact HI0.out),by repeat (first|(with_reducible first|exact HB.out|apply bA_|apply bN_|apply b1_|refine bS_ ?_ (IsS69.ge HI0.out))|exact HB.out),by repeat (first|(with_reducible first|exact HK.out|apply KeepBut.set_|apply keep_drewN|apply keep_drew|apply keep_alloc)|exact HK.out)⟩))
 ·rw [if_neg c3] at H
  have c3b0:=decide_eq_false c3;clear c3;obtain ⟨ji5,hji5⟩ : ∃ j_ : Int,(wrap64 ((wrap64 (s0_1 + 1)) - 1)) = j_:=⟨_,rfl⟩;(first|rw [hji5] at H|simp only [hji5] at H);have hji5w : (IntKind.i64.wrap ((wrap64 (s0_1 + 1)) - 1)) = ji5:=(i64_w _).trans hji5
  by_cases c6 : 0 ≤ (ji5)
  ·rw [if_pos c6] at H
   have c6b0:=decide_eq_true c6;clear c6
   by_cases c7 : (ji5) < (s0_0.length : Int)
   (·rw [if_pos c7] at H;(have c7b0:=decide_eq_true c7;clear c7;replace H:=be_ H;obtain ⟨t103,A80,H⟩:=H;have A8:=am_ A80;clear A80;simp only [Option.some.injEq,Prod.mk.injEq] at H;obtain ⟨rfl,rfl⟩:=H;obtain ⟨ASz9_0,cSz9_0,HGz9,hgz9,HSz9_0⟩:=HI0.out;have hcz9_0:=cellS69_0 HGz9;have hcz9_1:=cellS69_1 HGz9;have hfz9_1:=kF_ HGz9 1;clear HGz9 hgz9;have p102:=de_ (0 ≤ ((ji5) : Int));have q102:=de_ ((ji5) < (s0_0.length : Int));obtain ⟨ad102,e102,hx102_0⟩:=Kd.at_int HSz9_0 (ji5) p102 q102;cases e102;have hn102_0 : ad102.block ≠ g:=Nat.ne_of_lt (Nat.lt_of_lt_of_le (by have:=wl_ _ _ hx102_0;first|rwa [add_block] at this|exact this) (IsS69.ge HI0.out));replace hx102_0:=pw_cell_below HB.out hx102_0;replace hx102_0:=(cell_far (p:=⟨g,1,none⟩) (by first|(rw [add_block];exact hn102_0)|(show (Addr.add _ _).block ≠ _;rw [add_block];exact hn102_0)|exact hn102_0) (.int .i64 (wrap64 (s0_1 + 1)))).trans hx102_0;(try have hy102_0:=fun (n_ : Nat) => (show (((w.drewN n_).setCell ⟨g,1,none⟩ (.int .i64 (wrap64 (s0_1 + 1))))).cell? _ = some _ from hx102_0));clear hn102_0;replace p102:=eq_true p102;replace q102:=eq_true q102;(go_enter Try.func32,Try.ntmps32);(go_wp2_with (first|(go_at_call 14;(with_reducible refine (railplankeep_Pick.calls (rd s0_0 (ji5)) a1 t103 _ A8.out).mono ?_);rintro e w' ⟨rfl,⟨nd,rfl⟩⟩;(try first|exact ⟨rfl,_,World.drewN_drewN _ _ _⟩|exact ⟨rfl,_,Eq.trans (World.drewN_drewN _ _ _) (congrArg (World.drewN _) (Nat.add_assoc _ _ _))⟩))));(repeat (go_quiet (first|(go_at_call 14;(with_reducible refine (railplankeep_Pick.calls (rd s0_0 (ji5)) a1 t103 _ A8.out).mono ?_);rintro e w' ⟨rfl,⟨nd,rfl⟩⟩;(try first|exact ⟨rfl,_,World.drewN_drewN _ _ _⟩|exact ⟨rfl,_,Eq.trans (World.drewN_drewN _ _ _) (congrArg (World.drewN _) (Nat.add_assoc _ _ _))⟩)));try go_wp2_with (first|(go_at_call 14;(with_reducible refine (railplankeep_Pick.calls (rd s0_0 (ji5)) a1 t103 _ A8.out).mono ?_);rintro e w' ⟨rfl,⟨nd,rfl⟩⟩;(try first|exact ⟨rfl,_,World.drewN_drewN _ _ _⟩|exact ⟨rfl,_,Eq.trans (World.drewN_drewN _ _ _) (congrArg (World.drewN _) (Nat.add_assoc _ _ _))⟩)))));(go_ret);(exact ⟨by first|rfl|(simp [errW_none,errW_some] <;> rfl)|(simp only [← hji5];first|rfl|(simp [errW_none,errW_some] <;> rfl))|(simp [*,errW_none,errW_some] <;> rfl),by repeat (first|(with_reducible first|exact HI0.out|apply IsS69.alloc|apply IsS69.drewN|apply IsS69.drew|apply IsS69.set_1)|exact HI0.out),by repeat (first|(with_reducible first|exact HB.out|apply bA_|apply bN_|apply b1_|refine bS_ ?_ (IsS69.ge HI0.out))|exact HB.out),by repeat (first|(with_reducible first|exact HK.out|apply KeepBut.set_|apply keep_drewN|apply keep_drew|apply keep_alloc)|exact HK.out)⟩)));(·rw [if_neg c7] at H;(simp at H))
  ·rw [if_neg c6] at H;(simp at H)
end Go.Proofs.Ytpclhbcflkncnaa.PAll
