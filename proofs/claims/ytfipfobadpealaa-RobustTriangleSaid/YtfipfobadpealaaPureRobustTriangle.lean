/-
  The law RobustTriangle of layer 22 returns true for every input: for every generated network whose good times are all feasible,
  the Distance over an event in between is never less than the Distance. Conditions: none beyond the given statement.
-/
import Derived.Test.YtfipfobadpealaaPlF
namespace Go.Proofs.Ytfipfobadpealaa.Pure
open Go.RowKit Go.Proofs.Ytfipfobadpealaa.PAll Go.Proofs.YtfipfobadpealaaW.PrintWords Go.Proofs.YtfipfobadpealaaW.PrintLast
set_option linter.unusedVariables false
theorem RobustTriangle : railplanlaw22_RobustTriangle.Pure := by
  intro l0 l1 a2 a3 a4 m0 h0 _ m1 h1 _ _ _ _
  obtain ⟨per, ev, acts, ⟨K1, E1⟩, hW⟩ := wide_ev l0 (by omega)
  obtain ⟨t, ⟨K2, E2⟩, hT⟩ := times_ev l1 (by omega) hW.toNetOk
  have he0 := hW.e0; have he1 := hW.e1
  obtain ⟨i, ei, i0, i1⟩ := pick_some a2 (ev.length : Int) (by omega) (by omega)
  obtain ⟨j, ej, j0, j1⟩ := pick_some a3 (ev.length : Int) (by omega) (by omega)
  obtain ⟨c, ec, c0, c1⟩ := pick_some a4 (ev.length : Int) (by omega) (by omega)
  obtain ⟨i, rfl⟩ := Int.eq_ofNat_of_zero_le i0
  obtain ⟨j, rfl⟩ := Int.eq_ofNat_of_zero_le j0
  obtain ⟨c, rfl⟩ := Int.eq_ofNat_of_zero_le c0
  have hF := hW.feas hT
  obtain ⟨K3, E3⟩ := distance_ev hF (show i < ev.length by omega) (show j < ev.length by omega)
  obtain ⟨K4, E4⟩ := distance_ev hF (show j < ev.length by omega) (show c < ev.length by omega)
  obtain ⟨K5, E5⟩ := distance_ev hF (show i < ev.length by omega) (show c < ev.length by omega)
  obtain ⟨K6, E6⟩ := awake_ev
  dsimp only at E1 E2 E3 E4 E5 E6
  have tri := fw_tri (edges_NN (t := t) (n := ev.length) hF.1.p0 hF.1.p1 acts) ev.length (Nat.le_refl _) j (by omega) i c (by omega) (by omega)
  have nn := F_NN (t := t) hF.1
  have n1 := nn i j (by omega) (by omega)
  have n2 := nn j c (by omega) (by omega)
  have n3 := nn i c (by omega) (by omega)
  change F per ev.length acts t i j ≠ -1 → F per ev.length acts t j c ≠ -1 → F per ev.length acts t i c ≠ -1 ∧ F per ev.length acts t i c ≤ F per ev.length acts t i j + F per ev.length acts t j c at tri
  refine ⟨K1 + K2 + K3 + K4 + K5 + K6, ?_⟩
  unfold railplanlaw22_RobustTriangle.f
  rw [E1 _ (by omega)]; simp only [Option.bind_some]
  rw [E2 _ (by omega)]; simp only [Option.bind_some]
  rw [ei]; simp only [Option.bind_some]
  rw [ej]; simp only [Option.bind_some]
  rw [ec]; simp only [Option.bind_some]
  rw [E3 _ (by omega)]; simp only [Option.bind_some]
  rw [E4 _ (by omega)]; simp only [Option.bind_some]
  rw [E5 _ (by omega)]; simp only [Option.bind_some]
  rw [E6 _ (by omega)]; simp only [Option.bind_some, if_true]
  generalize F per ev.length acts t i j = x at *
  generalize F per ev.length acts t j c = y at *
  generalize F per ev.length acts t i c = z at *
  by_cases hx : x = -1
  · simp [hx]
  · by_cases hy : y = -1
    · simp [hx, hy]
    · obtain ⟨hz, hle⟩ := tri hx hy
      have e1 : (x != -1) = true := by simpa using hx
      have e2 : (y != -1) = true := by simpa using hy
      have e3 : (z != -1) = true := by simpa using hz
      rw [e1, e2, e3]
      have hh : mx z 0 ≤ wrap64 (mx x 0 + mx y 0) := by
        rw [mx_nn (a := x) (by omega), mx_nn (a := y) (by omega), mx_nn (a := z) (by omega), wrap64_id (x := x + y) (by omega) (by omega)]
        exact hle
      simp [hh]
end Go.Proofs.Ytfipfobadpealaa.Pure
