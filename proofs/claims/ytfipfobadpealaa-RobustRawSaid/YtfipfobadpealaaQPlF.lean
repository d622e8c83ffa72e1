import Derived.Test.YtfipfobadpealaaQPlE
import Derived.Test.YtfipfobadpealaaKW0
import Derived.Test.YtfipfobadpealaaKS
import Derived.Test.YtfipfobadpealaaK8
import Derived.Test.YtfipfobadpealaaK11
import Derived.Test.YtfipfobadpealaaK12
namespace Go.Proofs.Ytfipfobadpealaa.Pure
open Go.RowKit Go.Proofs.Ytfipfobadpealaa.PAll Go.Proofs.YtfipfobadpealaaW.PrintWords Go.Proofs.YtfipfobadpealaaW.PrintLast
set_option linter.unusedVariables false

/-! ### the law of the shortest distances -/
theorem fwS_le {n : Nat} {B : Int} {f : Nat → Nat → Int} (h : NN n B f) {m i k : Nat} (hm : m < n) (hi : i < n) (hk : k < n) (e : f i k ≠ -1) : fwS f m i k ≠ -1 ∧ fwS f m i k ≤ f i k := by
 have a := h i k hi hk
 have b := h i m hi hm
 have c := h m k hm hk
 unfold fwS
 split
 ·omega
 ·split
  ·omega
  ·unfold lst
   rw [if_neg e, if_neg (by omega)]
   split <;> omega
theorem fwS_via {n : Nat} {B : Int} {f : Nat → Nat → Int} (h : NN n B f) {m i k : Nat} (hm : m < n) (hi : i < n) (hk : k < n) (e : f i m ≠ -1) (e2 : f m k ≠ -1) : fwS f m i k ≠ -1 ∧ fwS f m i k ≤ f i m + f m k := by
 have a := h i k hi hk
 have b := h i m hi hm
 have c := h m k hm hk
 unfold fwS
 rw [if_neg e, if_neg e2]
 unfold lst
 split
 ·omega
 ·rw [if_neg (by omega)]
  split <;> omega
theorem fwS_or (f : Nat → Nat → Int) (m i k : Nat) : fwS f m i k = f i k ∨ (f i m ≠ -1 ∧ f m k ≠ -1 ∧ fwS f m i k = f i m + f m k) := by
 unfold fwS
 split
 ·exact .inl rfl
 ·split
  ·exact .inl rfl
  ·rename_i a b
   rcases lst_cases (f i k) (f i m + f m k) with e | e
   ·exact .inl e
   ·exact .inr ⟨a, b, e⟩
def Tri (n : Nat) (f : Nat → Nat → Int) (m : Nat) : Prop := ∀ j, j < m → ∀ i k, i < n → k < n → f i j ≠ -1 → f j k ≠ -1 → f i k ≠ -1 ∧ f i k ≤ f i j + f j k
theorem Tri.step {n : Nat} {B : Int} {f : Nat → Nat → Int} (h : NN n B f) {m : Nat} (hm : m < n) (hT : Tri n f m) : Tri n (fwS f m) (m + 1) := by
 intro j hj i k hi hk e1 e2
 have hjn : j < n := by omega
 rcases (by omega : j < m ∨ j = m) with hjm | rfl
 ·have n1 := h m j hm hjn
  have n2 := h j m hjn hm
  rcases fwS_or f m i j with a | ⟨a1, a2, a3⟩ <;> rcases fwS_or f m j k with b | ⟨b1, b2, b3⟩
  ·rw [a] at e1; rw [b] at e2
   obtain ⟨c1, c2⟩ := hT j hjm i k hi hk e1 e2
   obtain ⟨d1, d2⟩ := fwS_le h hm hi hk c1
   exact ⟨d1, by omega⟩
  ·rw [a] at e1
   obtain ⟨c1, c2⟩ := hT j hjm i m hi hm e1 b1
   obtain ⟨d1, d2⟩ := fwS_via h hm hi hk c1 b2
   exact ⟨d1, by omega⟩
  ·rw [b] at e2
   obtain ⟨c1, c2⟩ := hT j hjm m k hm hk a2 e2
   obtain ⟨d1, d2⟩ := fwS_via h hm hi hk a1 c1
   exact ⟨d1, by omega⟩
  ·obtain ⟨d1, d2⟩ := fwS_via h hm hi hk a1 b2
   exact ⟨d1, by omega⟩
 ·rw [fwS_col h hm hi] at e1
  rw [fwS_row h hm hk] at e2
  rw [fwS_col h hm hi, fwS_row h hm hk]
  exact fwS_via h hm hi hk e1 e2
theorem fw_tri {n : Nat} {f : Nat → Nat → Int} (hf : NN n 7200 f) : ∀ m, m ≤ n → Tri n (fw f m) m
 | 0, _ => fun j hj => by omega
 | m + 1, hm => Tri.step (fw_NN hf m (by omega)) (by omega) (fw_tri hf m (by omega))
theorem fw_le {n : Nat} {f : Nat → Nat → Int} (hf : NN n 7200 f) {i k : Nat} (hi : i < n) (hk : k < n) (e : f i k ≠ -1) : ∀ m, m ≤ n → fw f m i k ≠ -1 ∧ fw f m i k ≤ f i k
 | 0, _ => ⟨e, Int.le_refl _⟩
 | m + 1, hm => by
  obtain ⟨a, b⟩ := fw_le hf hi hk e m (by omega)
  obtain ⟨c, d⟩ := fwS_le (fw_NN hf m (by omega)) (show m < n by omega) hi hk a
  exact ⟨c, Int.le_trans d b⟩
/-- what Distance tells. -/
def F (per : Int) (n : Nat) (acts : List S40) (t : List Int) : Nat → Nat → Int := fw (edges per t acts) n
theorem F_NN {per : Int} {ev : List S59} {acts : List S40} {t : List Int} (hv : NV per ev acts) : NN ev.length 2026619832316723200 (F per ev.length acts t) := by
 intro i k hi hk
 have := fw_NN (edges_NN (t := t) hv.p0 hv.p1 acts) ev.length (Nat.le_refl _) i k hi hk
 have := bnd_le ev.length hv.e1
 unfold F
 omega
theorem there_some (per : Int) (ev : List S59) (acts : List S40) (i : Int) : robust_there.f per ev acts i = some (decide (0 ≤ i ∧ i < ev.length)) := by
 unfold robust_there.f
 by_cases h : i ≥ 0
 ·rw [if_pos h]
  congr 1
  simp
  omega
 ·rw [if_neg h]
  congr 1
  simp
  omega
theorem Feas.some {per : Int} {ev : List S59} {acts : List S40} {t : List Int} (h : Feas per ev acts t) : network_Feasible.f per ev acts t = some true := by
 obtain ⟨b, hb, hi⟩ := feas_dec per ev acts t
 rw [hb, hi.mpr h]
theorem mx_nn {a : Int} (h : 0 ≤ a) : mx a 0 = a := by
 unfold mx; rw [if_neg (by omega)]
theorem mx_eq (a b : Int) : mx a b = if a < b then b else a := rfl
theorem distance_ev {per : Int} {ev : List S59} {acts : List S40} {t : List Int} (h : Feas per ev acts t) {i j : Nat} (hi : i < ev.length) (hj : j < ev.length) :
  Ev (fun k => robust_Distance.f k per ev acts t i j) (mx (F per ev.length acts t i j) 0, (F per ev.length acts t i j != -1), 0) := by
 obtain ⟨D, ⟨K, hK⟩, hM, hD⟩ := distances_ev h.1 h.2.1
 refine ⟨K, fun k hk => ?_⟩
 have e := hK k hk
 dsimp only at e
 have hl := hM.len
 have hr := hM.row i hi
 have q1 : (0 : Int) ≤ (i : Int) := by omega
 have q2 : (i : Int) < (ev.length : Int) := by omega
 have q3 : (0 : Int) ≤ (j : Int) := by omega
 have q4 : (j : Int) < (ev.length : Int) := by omega
 unfold robust_Distance.f
 rw [h.some]
 simp only [Option.bind_some, if_true]
 rw [there_some, decide_eq_true ⟨q1, q2⟩]
 simp only [Option.bind_some, if_true]
 rw [there_some, decide_eq_true ⟨q3, q4⟩]
 simp only [Option.bind_some, if_true]
 rw [e]
 simp only [Option.bind_some, rd_L7_row, rd_row_at]
 rw [hl, hr, if_pos q1, if_pos q2, if_pos q3, if_pos q4, hD i j hi hj]
 rfl
theorem awake_ev : Ev (fun k => railplanlaw22_awake.f k) true := Ev.of railplanlaw22_awake.mono (k := 400) (by kernel_rfl)
end Go.Proofs.Ytfipfobadpealaa.Pure
