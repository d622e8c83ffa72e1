import Derived.Test.YtiohandkjjmemaaQPlD
import Derived.Test.YtiohandkjjmemaaQRawClosureRaw
import Derived.Test.YtiohandkjjmemaaKW0
import Derived.Test.YtiohandkjjmemaaKS
import Derived.Test.YtiohandkjjmemaaK5
import Derived.Test.YtiohandkjjmemaaK6
import Derived.Test.YtiohandkjjmemaaK8
import Derived.Test.YtiohandkjjmemaaK17
import Derived.Test.YtiohandkjjmemaaK19
import Derived.Test.YtiohandkjjmemaaK23
import Derived.Test.YtiohandkjjmemaaK24
import Derived.Test.YtiohandkjjmemaaK25
import Derived.Test.YtiohandkjjmemaaK26
namespace Go.Proofs.Ytiohandkjjmemaa.Pure
open Go.RowKit Go.Proofs.Ytiohandkjjmemaa.PAll Go.Proofs.YtiohandkjjmemaaW.PrintWords Go.Proofs.YtiohandkjjmemaaW.PrintLast
set_option linter.unusedVariables false

theorem ClosureRaw : railplanlaw25_ClosureRaw.Pure := by
 intro l0 l1 a2 a3 a4 h0 _ _ h1 _ _ _ _ _
 have hl : l0.length ≤ 9223372036854775807 := h0
 have hm : l1.length ≤ 9223372036854775807 := h1
 obtain ⟨c, hc, hc'⟩ := check_ev l0 hl
 obtain ⟨c2, hr, hr'⟩ := rcheck_ev l0 hl
 have e : c2 = c := by rw [Bool.eq_iff_iff, hr', hc']
 subst e
 obtain ⟨d, b, _, hE1, hE2⟩ := early_both l0 hl l1 hm a3 (Int.tmod a4 60)
 obtain ⟨m, m1, m2, m3⟩ := merge_both l0 hl
 obtain ⟨e1, e2⟩ := enters_both l0 hl l1 hm a3
 refine Ev.rounds (g := fun k => railplanlaw25_ClosureRaw.f k l0 l1 a2 a3 a4) (Ev.bind hc (Ev.bind hr ?_))
 simp only [bne_self_eq_false, Bool.false_eq_true, if_false]
 refine Ev.bind (open_ev l0 hl a2 a3) (Ev.bind (ropen_ev l0 hl a2 a3) ?_)
 simp only [bne_self_eq_false, Bool.false_eq_true, if_false]
 refine Ev.bind (next_nx l0 hl a2 a3) (Ev.bind (rnext_nx l0 hl a2 a3) ?_)
 simp only [bne_self_eq_false]
 refine Ev.step (f := fun k => (closure_Earliest.f k l0 l1 a3 (Int.tmod a4 60)).bind fun bt329 => ((railplanref24_Earliest.f k l0 l1 a3 (Int.tmod a4 60)).bind fun bt331 => ((railplanlaw25_awake.f k).bind fun t333 => (if t333 = true then ((closure_Merge.f k l0).bind fun t334 => ((railplanref24_Merge.f k l0).bind fun t337 => ((api_Closure_16.f k t334 t337).bind fun t340 => (if t340 = true then ((closure_Enters.f k l0 l1 a3).bind fun t341 => ((railplanref24_Enters.f k l0 l1 a3).bind fun t342 => (if (t341 == t342) = true then (if bt329.1 = bt331.1 then (some (bt329.2 == bt331.2)) else (none)) else (none)))) else (none))))) else (none))))) (fun k => ?_) (Ev.bind hE1 (Ev.bind hE2 (Ev.bind awake_ev ?_)))
 ·simp only [railplanlaw25_ClosureRaw.j0]
  rw [if_neg (by simp)]
 ·simp only [if_true]
  refine Ev.bind m1 (Ev.bind m2 (Ev.bind (same_ev m m3) ?_))
  simp only [if_true]
  refine Ev.bind e1 (Ev.bind e2 ?_)
  simp only [beq_self_eq_true, if_true]
  exact Ev.now _

end Go.Proofs.Ytiohandkjjmemaa.Pure
