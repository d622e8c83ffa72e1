/-
  The law RobustGenerated of layer 22 returns true for every input: over generated networks and times, robust.Cushion, Distance, Spread and Loop answer as the reference of chapter 19 does. Conditions: none beyond the given statement.
-/
import Derived.Test.YtfipfobadpealaaQPlJ
import Derived.Test.YtfipfobadpealaaKW0
import Derived.Test.YtfipfobadpealaaKS
import Derived.Test.YtfipfobadpealaaK38
namespace Go.Proofs.Ytfipfobadpealaa.Pure
open Go.RowKit Go.Proofs.Ytfipfobadpealaa.PAll Go.Proofs.YtfipfobadpealaaW.PrintWords Go.Proofs.YtfipfobadpealaaW.PrintLast
set_option linter.unusedVariables false

theorem RobustGenerated : railplanlaw22_RobustGenerated.Pure := by
 intro l0 l1 a2 a3 a4 a5 m0 h0 _ m1 h1 _ _ _ _ _
 obtain ⟨per, ev, acts, ⟨K1, E1⟩, hW⟩ := wide_ev l0 (by omega)
 obtain ⟨per', ev', acts', ⟨K2, E2⟩, hN⟩ := network_ev l0 (by omega)
 obtain ⟨K3, E3⟩ := awake_ev
 obtain ⟨t, ⟨K4, E4⟩, _⟩ := times_ev l1 (by omega) hW.toNetOk
 obtain ⟨t', ⟨K5, E5⟩, _⟩ := times_ev l1 (by omega) hN
 have he0 := hW.e0; have he1 := hW.e1
 have ha1 := hW.a1
 have w1 : Aside0 (wrap64 ((acts.length : Int) + 2) = (acts.length : Int) + 2) := ⟨wrap64_id (by omega) (by omega)⟩
 have w2 : Aside0 (wrap64 ((ev.length : Int) + 2) = (ev.length : Int) + 2) := ⟨wrap64_id (by omega) (by omega)⟩
 obtain ⟨a, ea, _, _⟩ := pick_some a2 ((acts.length : Int) + 2) (by omega) (by omega)
 obtain ⟨i, ei, _, _⟩ := pick_some a3 ((ev.length : Int) + 2) (by omega) (by omega)
 obtain ⟨j, ej, _, _⟩ := pick_some a4 ((ev.length : Int) + 2) (by omega) (by omega)
 obtain ⟨d, ed, _, _⟩ := pick_some a5 60 (by omega) (by omega)
 obtain ⟨K6, E6⟩ := agrees_ev per ev acts t (wrap64 (a - 1)) (wrap64 (i - 1)) (wrap64 (j - 1)) (wrap64 (d - 1))
 obtain ⟨K7, E7⟩ := agrees_ev per' ev' acts' t' a2 a3 a4 a5
 dsimp only at E1 E2 E3 E4 E5 E6 E7
 obtain ⟨K, hK⟩ : ∃ K, K = K1 + K2 + K3 + K4 + K5 + K6 + K7 := ⟨_, rfl⟩
 refine ⟨K, ?_⟩
 unfold railplanlaw22_RobustGenerated.f
 rw [E1 _ (by omega), Option.bind_some, E2 _ (by omega), Option.bind_some, E3 _ (by omega), Option.bind_some, if_pos rfl]
 rw [E4 _ (by omega), Option.bind_some, w1.out, ea, Option.bind_some, w2.out, ei, Option.bind_some, ej, Option.bind_some, ed, Option.bind_some]
 rw [E6 _ (by omega), Option.bind_some, if_pos rfl, E5 _ (by omega), Option.bind_some, E7 _ (by omega), Option.bind_some]
end Go.Proofs.Ytfipfobadpealaa.Pure
