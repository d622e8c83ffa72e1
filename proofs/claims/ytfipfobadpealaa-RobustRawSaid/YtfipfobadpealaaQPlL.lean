import Derived.Test.YtfipfobadpealaaQPlF
import Derived.Test.YtfipfobadpealaaKW0
import Derived.Test.YtfipfobadpealaaKS
import Derived.Test.YtfipfobadpealaaK14
namespace Go.Proofs.Ytfipfobadpealaa.Pure
open Go.RowKit Go.Proofs.Ytfipfobadpealaa.PAll Go.Proofs.YtfipfobadpealaaW.PrintWords Go.Proofs.YtfipfobadpealaaW.PrintLast
set_option linter.unusedVariables false
theorem lst_none (a : Int) : lst a (-1) = a := by
 unfold lst
 by_cases h : a = -1
 ·rw [if_pos h, h]
 ·rw [if_neg h, if_pos rfl]
def lp (f : Nat → Int) : Nat → Int
 | 0 => -1
 | x + 1 => lst (lp f x) (f x)
theorem lp_nn (f : Nat → Int) (n : Nat) (hf : ∀ k, k < n → f k = -1 ∨ 0 ≤ f k) : ∀ x, x ≤ n → lp f x = -1 ∨ 0 ≤ lp f x
 | 0, _ => .inl rfl
 | x + 1, h => by
  have h1 := lp_nn f n hf x (by omega)
  have h2 := hf x (by omega)
  show lst _ _ = -1 ∨ 0 ≤ lst _ _
  rcases lst_cases (lp f x) (f x) with e | e <;> rw [e] <;> assumption
theorem loop_l0 {n : Nat} (hn : n ≤ 48) (D : List (List Int)) (f : Nat → Int) (hM : MatOk n D) (hD : ∀ i, i < n → at2 D i i = f i) (d : Nat) :
  ∀ x : Nat, n - x = d → x ≤ n → Ev (fun k => robust_Loop.l0 k (lp f x) D n x) (mx (lp f n) 0, (lp f n != -1), 0) := by
 induction d with
 | zero =>
  intro x hd hx
  obtain rfl : x = n := by omega
  refine ⟨1, fun k hk => ?_⟩
  obtain ⟨k, rfl⟩ : ∃ m, k = m + 1 := ⟨k - 1, by omega⟩
  simp only [robust_Loop.l0]
  rw [if_neg (by omega)]
 | succ d ih =>
  intro x hd hx
  have hx' : x < n := by omega
  have q1 : (x : Int) < (n : Int) := by omega
  have q2 : (0 : Int) ≤ (x : Int) := by omega
  have hl := hM.len
  have hr := hM.row x hx'
  have ex : Aside0 (wrap64 ((x : Int) + 1) = ((x + 1 : Nat) : Int)) := ⟨by rw [wrap64_id (by omega) (by omega)]; rfl⟩
  refine Ev.step (fun k => ?_) (ih (x + 1) (by omega) (by omega))
  simp only [robust_Loop.l0, rd_L7_row, rd_row_at]
  rw [if_pos q1, if_pos q2, hl, if_pos q1, hr, if_pos q1, hD x hx', least_some]
  simp only [Option.bind_some]
  rw [ex.out]
  rfl
theorem loop_ev {per : Int} {ev : List S59} {acts : List S40} {t : List Int} (h : Feas per ev acts t) :
  Ev (fun k => robust_Loop.f k per ev acts t) (mx (lp (fun i => F per ev.length acts t i i) ev.length) 0, (lp (fun i => F per ev.length acts t i i) ev.length != -1), 0) := by
 obtain ⟨D, ⟨K, hK⟩, hM, hD⟩ := distances_ev h.1 h.2.1
 dsimp only at hK
 obtain ⟨K2, hE⟩ := loop_l0 h.1.e1 D (fun i => F per ev.length acts t i i) hM (fun i hi => hD i i hi hi) ev.length 0 (by omega) (by omega)
 dsimp only at hE
 have hl := hM.len
 refine ⟨K + K2, fun k hk => ?_⟩
 unfold robust_Loop.f; dsimp only
 rw [h.some]
 simp only [Option.bind_some, if_true]
 rw [hK k (by omega)]
 simp only [Option.bind_some]
 rw [hl]
 exact hE k (by omega)
end Go.Proofs.Ytfipfobadpealaa.Pure
