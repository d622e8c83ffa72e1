import Derived.Test.YtiohandkjjmemaaQPlD
import Derived.Test.YtiohandkjjmemaaKW0
import Derived.Test.YtiohandkjjmemaaKS
import Derived.Test.YtiohandkjjmemaaK0
import Derived.Test.YtiohandkjjmemaaK2
import Derived.Test.YtiohandkjjmemaaK5
import Derived.Test.YtiohandkjjmemaaK6
import Derived.Test.YtiohandkjjmemaaK7
import Derived.Test.YtiohandkjjmemaaK8
import Derived.Test.YtiohandkjjmemaaK10
import Derived.Test.YtiohandkjjmemaaK12
import Derived.Test.YtiohandkjjmemaaK17
import Derived.Test.YtiohandkjjmemaaK19
import Derived.Test.YtiohandkjjmemaaK22
import Derived.Test.YtiohandkjjmemaaK23
import Derived.Test.YtiohandkjjmemaaK24
import Derived.Test.YtiohandkjjmemaaK25
import Derived.Test.YtiohandkjjmemaaK27
namespace Go.Proofs.Ytiohandkjjmemaa.Pure
open Go.RowKit Go.Proofs.Ytiohandkjjmemaa.PAll Go.Proofs.YtiohandkjjmemaaW.PrintWords Go.Proofs.YtiohandkjjmemaaW.PrintLast
set_option linter.unusedVariables false

theorem cMade_l0 (a3 : Int) (c : List S27) (hc : c.length ≤ 5) (hg : ∀ d ∈ c, GenC d) (o : List S39) (ho : o.length ≤ 6) (x : Int) (d : Nat) : ∀ r : Int, r + d = 6 → 0 ≤ r → Ev (fun k => railplanlaw25_ClosureMade.l0 k a3 c o x r) true := by
 induction d with
 | zero =>
  intro r hr h0
  obtain ⟨p, hp, p0, p1⟩ := pick_some a3 80 (by omega) (by omega)
  obtain ⟨d, b, _, hE1, hE2⟩ := early_both c (by omega) o (by omega) x p
  obtain ⟨m, m1, m2, m3⟩ := merge_both c (by omega)
  obtain ⟨e1, e2⟩ := enters_both c (by omega) o (by omega) x
  refine Ev.step (f := fun k => (railplankeep_Pick.f a3 80).bind fun t354 => ((closure_Earliest.f k c o x t354).bind fun bt355 => ((railplankeep_Pick.f a3 80).bind fun t357 => ((railplanref24_Earliest.f k c o x t357).bind fun bt358 => ((railplanlaw25_awake.f k).bind fun t360 => (if t360 = true then ((closure_Check.f k c).bind fun t361 => (if t361 = true then ((closure_Merge.f k c).bind fun t362 => ((railplanref24_Merge.f k c).bind fun t365 => ((api_Closure_16.f k t362 t365).bind fun t368 => (if t368 = true then ((closure_Enters.f k c o x).bind fun t369 => ((railplanref24_Enters.f k c o x).bind fun t370 => (if (t369 == t370) = true then (if bt355.1 = bt358.1 then (some (bt355.2 == bt358.2)) else (none)) else (none)))) else (none))))) else (none))) else (none))))))) (fun k => ?_) ?_
  ·simp only [railplanlaw25_ClosureMade.l0]
   rw [if_neg (by omega)]
  ·simp only [hp, Option.bind_some]
   refine Ev.bind hE1 (Ev.bind hE2 (Ev.bind awake_ev ?_))
   simp only [if_true]
   refine Ev.bind (check_true c (gen_VL hc hg)) ?_
   simp only [if_true]
   refine Ev.bind m1 (Ev.bind m2 (Ev.bind (same_ev m m3) ?_))
   simp only [if_true]
   refine Ev.bind e1 (Ev.bind e2 ?_)
   simp only [beq_self_eq_true, if_true]
   exact Ev.now _
 | succ d ih =>
  intro r hr h0
  have E1 := open_ev c (by omega) r x
  have E2 := ropen_ev c (by omega) r x
  have E3 := next_nx c (by omega) r x
  have E4 := rnext_nx c (by omega) r x
  refine Ev.step (f := fun k => (closure_Open.f k c r x).bind fun t350 => ((railplanref24_Open.f k c r x).bind fun t351 => (if (t350 != t351) = true then (none) else ((closure_Next.f k c r x).bind fun t352 => ((railplanref24_Next.f k c r x).bind fun t353 => (if t352 = t353 then (railplanlaw25_ClosureMade.l0 k a3 c o x (r + 1)) else (none))))))) (fun k => ?_) (Ev.bind E1 (Ev.bind E2 ?_))
  ·simp only [railplanlaw25_ClosureMade.l0]
   rw [if_pos (by omega), wrap64_id (by omega) (by omega)]
  ·simp only [bne_self_eq_false, Bool.false_eq_true, if_false]
   refine Ev.bind E3 (Ev.bind E4 ?_)
   simp only [if_true]
   exact ih (r + 1) (by omega) (by omega)
theorem ClosureMade : railplanlaw25_ClosureMade.Pure := by
 intro l0 l1 a2 a3 _ h8 _ _ g8 _ _ _
 obtain ⟨c, hE, hc, hg⟩ := closures_ev l0 (by omega)
 obtain ⟨o, hO, ho, hgo⟩ := occupations_ev l1 (by omega)
 obtain ⟨x, hx, x0, x1⟩ := pick_some a2 90 (by omega) (by omega)
 refine Ev.rounds (g := fun k => railplanlaw25_ClosureMade.f k l0 l1 a2 a3) (Ev.bind hE (Ev.bind hO ?_))
 rw [hx]
 simp only [Option.bind_some]
 exact cMade_l0 a3 c hc hg o ho _ 6 0 (by omega) (by omega)

end Go.Proofs.Ytiohandkjjmemaa.Pure
