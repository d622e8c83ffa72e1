/-
  The law RobustRaw of layer 22 returns true for every input: over whatever network and times, robust.Cushion, Distance, Spread and Loop answer as the reference of chapter 19 does. Conditions: none beyond the given statement.
-/
import Derived.Test.YtfipfobadpealaaQRawRobustRaw
import Derived.Test.YtfipfobadpealaaQPlJ
import Derived.Test.YtfipfobadpealaaKW0
import Derived.Test.YtfipfobadpealaaKS
import Derived.Test.YtfipfobadpealaaK12
import Derived.Test.YtfipfobadpealaaK38
namespace Go.Proofs.Ytfipfobadpealaa.Pure
open Go.RowKit Go.Proofs.Ytfipfobadpealaa.PAll Go.Proofs.YtfipfobadpealaaW.PrintWords Go.Proofs.YtfipfobadpealaaW.PrintLast
set_option linter.unusedVariables false

theorem RobustRaw : railplanlaw22_RobustRaw.Pure := by
 intro x0 l1 a2 a3 a4 a5 _ _ _ _ _ _ _ _
 obtain ⟨K1, E1⟩ := awake_ev
 obtain ⟨K2, E2⟩ := agrees_ev x0.f0 x0.f1 x0.f2 l1 a2 a3 a4 a5
 obtain ⟨K3, E3⟩ := agrees_ev 10 (List.replicate 3 z59) ([(⟨1, 0, 1, 1, 5, 0⟩ : S40), (⟨1, 1, 2, 1, 5, 0⟩ : S40)]) l1 a2 a3 a4 a5
 obtain ⟨K4, E4⟩ := agrees_ev 10 (List.replicate 3 z59) ([(⟨1, 0, 1, 1, 5, 0⟩ : S40), (⟨1, 1, 2, 1, 5, 0⟩ : S40)]) [0, 3, 7] a2 a3 a4 a5
 have er : railplanlaw22_row.f = some (10, (List.replicate 3 z59), ([(⟨1, 0, 1, 1, 5, 0⟩ : S40), (⟨1, 1, 2, 1, 5, 0⟩ : S40)])) := by
  unfold railplanlaw22_row.f
  rw [if_pos (by omega)]
 dsimp only at E1 E2 E3 E4
 obtain ⟨K, hK⟩ : ∃ K, K = K1 + K2 + K3 + K4 := ⟨_, rfl⟩
 refine ⟨K, ?_⟩
 unfold railplanlaw22_RobustRaw.f
 rw [E1 _ (by omega), Option.bind_some, if_pos rfl, E2 _ (by omega), Option.bind_some, if_pos rfl, er, Option.bind_some]
 dsimp only
 rw [E3 _ (by omega), Option.bind_some, if_pos rfl, Option.bind_some]
 dsimp only
 rw [E4 _ (by omega), Option.bind_some]
end Go.Proofs.Ytfipfobadpealaa.Pure
