/-
  The law RobustLoopIsLeast of layer 22 returns true for every input: Loop is the least Distance of an event to itself. Conditions: none beyond the given statement.
-/
import Derived.Test.YtfipfobadpealaaPlL
namespace Go.Proofs.Ytfipfobadpealaa.Pure
open Go.RowKit Go.Proofs.Ytfipfobadpealaa.PAll Go.Proofs.YtfipfobadpealaaW.PrintWords Go.Proofs.YtfipfobadpealaaW.PrintLast
set_option linter.unusedVariables false

theorem least_l0 {per : Int} {ev : List S59} {acts : List S40} {t : List Int} (h : Feas per ev acts t) (d : Nat) :
    ∀ (x : Nat) (x7 : Int) (x8 : Bool), ev.length - x = d → x ≤ ev.length → x7 = mx (lp (fun i => F per ev.length acts t i i) x) 0 → x8 = (lp (fun i => F per ev.length acts t i i) x != -1) →
    Ev (fun k => railplanlaw22_RobustLoopIsLeast.l0 k t x7 x8 ev.length x per ev acts) true := by
  induction d with
  | zero =>
    intro x x7 x8 hd hx h7 h8
    obtain rfl : x = ev.length := by omega
    obtain ⟨K, hK⟩ := loop_ev h
    obtain ⟨K2, hK2⟩ := awake_ev
    dsimp only at hK hK2
    refine ⟨K + K2 + 1, fun k hk => ?_⟩
    obtain ⟨k, rfl⟩ : ∃ m, k = m + 1 := ⟨k - 1, by omega⟩
    simp only [railplanlaw22_RobustLoopIsLeast.l0]
    rw [if_neg (by omega), hK k (by omega)]
    simp only [Option.bind_some]
    rw [hK2 k (by omega), h7, h8]
    simp
  | succ d ih =>
    intro x x7 x8 hd hx h7 h8
    have hx' : x < ev.length := by omega
    have e1 := h.1.e1
    have q1 : (x : Int) < (ev.length : Int) := by omega
    have ex : Aside0 (wrap64 ((x : Int) + 1) = ((x + 1 : Nat) : Int)) := ⟨by rw [wrap64_id (by omega) (by omega)]; rfl⟩
    obtain ⟨K, hK⟩ := distance_ev h hx' hx'
    dsimp only at hK
    have nn := F_NN (t := t) h.1 x x hx' hx'
    have ln := lp_nn (fun i => F per ev.length acts t i i) ev.length (fun k hk => by have := F_NN (t := t) h.1 k k hk hk; omega) x hx
    have es : lp (fun i => F per ev.length acts t i i) (x + 1) = lst (lp (fun i => F per ev.length acts t i i) x) (F per ev.length acts t x x) := rfl
    have go := fun x7' x8' a b => ih (x + 1) x7' x8' (by omega) (by omega) a b
    rw [es] at go
    clear ih es
    generalize lp (fun i => F per ev.length acts t i i) x = L at *
    generalize F per ev.length acts t x x = f at *
    have fin : ∀ x7' x8', x7' = mx (lst L f) 0 → x8' = (lst L f != -1) → (∀ k, (if (f != -1) = true then if x8 = true then if mx f 0 < x7 then railplanlaw22_RobustLoopIsLeast.l0 k t (mx f 0) true ev.length ((x + 1 : Nat) : Int) per ev acts else railplanlaw22_RobustLoopIsLeast.l0 k t x7 x8 ev.length ((x + 1 : Nat) : Int) per ev acts else railplanlaw22_RobustLoopIsLeast.l0 k t (mx f 0) true ev.length ((x + 1 : Nat) : Int) per ev acts else railplanlaw22_RobustLoopIsLeast.l0 k t x7 x8 ev.length ((x + 1 : Nat) : Int) per ev acts) = railplanlaw22_RobustLoopIsLeast.l0 k t x7' x8' ev.length ((x + 1 : Nat) : Int) per ev acts) → Ev (fun k => railplanlaw22_RobustLoopIsLeast.l0 k t x7 x8 ev.length x per ev acts) true := fun x7' x8' a b hs => by
      obtain ⟨K2, hE⟩ := go x7' x8' a b
      dsimp only at hE
      refine ⟨K + K2 + 1, fun k hk => ?_⟩
      obtain ⟨k, rfl⟩ : ∃ m, k = m + 1 := ⟨k - 1, by omega⟩
      simp only [railplanlaw22_RobustLoopIsLeast.l0]
      rw [if_pos q1, hK k (by omega)]
      simp only [Option.bind_some, if_true]
      rw [ex.out, hs]
      exact hE k (by omega)
    by_cases hf : f = -1
    · refine fin x7 x8 ?_ ?_ (fun k => by rw [if_neg (by simp [hf])])
      · rw [h7, hf, lst_none]
      · rw [h8, hf, lst_none]
    · have bf : (f != -1) = true := by simpa using hf
      by_cases hL : L = -1
      · refine fin (mx f 0) true ?_ ?_ (fun k => by rw [if_pos bf, if_neg (by rw [h8, hL]; simp)])
        · unfold lst; rw [if_pos hL]
        · unfold lst; rw [if_pos hL, bf]
      · have bL : (L != -1) = true := by simpa using hL
        have m1 : mx f 0 = f := mx_nn (by omega)
        have m2 : mx L 0 = L := mx_nn (by omega)
        by_cases hlt : f < L
        · refine fin (mx f 0) true ?_ ?_ (fun k => by rw [if_pos bf, if_pos (by rw [h8, bL]), if_pos (by rw [h7, m1, m2]; exact hlt)])
          · unfold lst; rw [if_neg hL, if_neg hf, if_pos hlt]
          · unfold lst; rw [if_neg hL, if_neg hf, if_pos hlt, bf]
        · refine fin x7 x8 ?_ ?_ (fun k => by rw [if_pos bf, if_pos (by rw [h8, bL]), if_neg (by rw [h7, m1, m2]; exact hlt)])
          · unfold lst; rw [if_neg hL, if_neg hf, if_neg hlt]; exact h7
          · unfold lst; rw [if_neg hL, if_neg hf, if_neg hlt]; exact h8
theorem RobustLoopIsLeast : railplanlaw22_RobustLoopIsLeast.Pure := by
  intro l0 l1 m0 h0 _ m1 h1 _
  obtain ⟨per, ev, acts, ⟨K1, E1⟩, hW⟩ := wide_ev l0 (by omega)
  obtain ⟨t, ⟨K2, E2⟩, hT⟩ := times_ev l1 (by omega) hW.toNetOk
  obtain ⟨K3, E3⟩ := least_l0 (hW.feas hT) ev.length 0 0 false (by omega) (by omega) rfl rfl
  dsimp only at E1 E2 E3
  refine ⟨K1 + K2 + K3, ?_⟩
  unfold railplanlaw22_RobustLoopIsLeast.f
  rw [E1 _ (by omega)]; simp only [Option.bind_some]
  rw [E2 _ (by omega)]; simp only [Option.bind_some]
  exact E3 _ (by omega)
end Go.Proofs.Ytfipfobadpealaa.Pure
