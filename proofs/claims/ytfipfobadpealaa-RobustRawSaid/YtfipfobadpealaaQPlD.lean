import Derived.Test.YtfipfobadpealaaQPlC
import Derived.Test.YtfipfobadpealaaKW0
import Derived.Test.YtfipfobadpealaaKS
import Derived.Test.YtfipfobadpealaaK10
namespace Go.Proofs.Ytfipfobadpealaa.Pure
open Go.RowKit Go.Proofs.Ytfipfobadpealaa.PAll Go.Proofs.YtfipfobadpealaaW.PrintWords Go.Proofs.YtfipfobadpealaaW.PrintLast
set_option linter.unusedVariables false

/-! ### shortest distances over numbered places, as functions -/
def fwS (f : Nat → Nat → Int) (m i k : Nat) : Int := if f i m = -1 then f i k else if f m k = -1 then f i k else lst (f i k) (f i m + f m k)
def fw (f : Nat → Nat → Int) : Nat → Nat → Nat → Int
 | 0 => f
 | m + 1 => fwS (fw f m) m
def NN (n : Nat) (B : Int) (f : Nat → Nat → Int) : Prop := ∀ i k, i < n → k < n → f i k = -1 ∨ (0 ≤ f i k ∧ f i k ≤ B)
theorem lst_cases (a b : Int) : lst a b = a ∨ lst a b = b := by
 unfold lst
 split
 ·exact .inr rfl
 ·split
  ·exact .inl rfl
  ·split
   ·exact .inr rfl
   ·exact .inl rfl
theorem NN.step {n : Nat} {B : Int} {f : Nat → Nat → Int} (h : NN n B f) (hB : 0 ≤ B) {m : Nat} (hm : m < n) : NN n (2 * B) (fwS f m) := by
 intro i k hi hk
 have a := h i k hi hk
 have b := h i m hi hm
 have c := h m k hm hk
 unfold fwS
 split
 ·omega
 ·split
  ·omega
  ·rcases lst_cases (f i k) (f i m + f m k) with e | e <;> rw [e] <;> omega
theorem fwS_col {n : Nat} {B : Int} {f : Nat → Nat → Int} (h : NN n B f) {m i : Nat} (hm : m < n) (hi : i < n) : fwS f m i m = f i m := by
 have b := h i m hi hm
 have c := h m m hm hm
 unfold fwS
 split
 ·rfl
 ·split
  ·rfl
  ·unfold lst
   split
   ·omega
   ·split
    ·omega
    ·split
     ·omega
     ·rfl
theorem fwS_row {n : Nat} {B : Int} {f : Nat → Nat → Int} (h : NN n B f) {m k : Nat} (hm : m < n) (hk : k < n) : fwS f m m k = f m k := by
 have b := h m k hm hk
 have c := h m m hm hm
 unfold fwS
 split
 ·rfl
 ·split
  ·rfl
  ·unfold lst
   split
   ·omega
   ·split
    ·omega
    ·split
     ·omega
     ·rfl
/-- In round m, before the place (i, x) is looked at. -/
def St (n : Nat) (f : Nat → Nat → Int) (m i x : Nat) (D : List (List Int)) : Prop :=
 MatOk n D ∧ ∀ i' k', i' < n → k' < n → at2 D i' k' = if i' < i ∨ (i' = i ∧ k' < x) then fwS f m i' k' else f i' k'
theorem rd_L7_at (D : List (List Int)) (i k : Nat) : rd (rd_L7 D (i : Int)) (k : Int) = at2 D i k := by
 simp [rd, rd_L7, at2]
theorem rd_row_at (D : List (List Int)) (i k : Nat) : rd (D.getD i []) (k : Int) = at2 D i k := by
 simp [rd, at2]
theorem rd_L7_row (D : List (List Int)) (i : Nat) : rd_L7 D (i : Int) = D.getD i [] := by
 simp [rd_L7]
theorem dist_l5 {n : Nat} (hn : n ≤ 48) {B : Int} (hB0 : 0 ≤ B) (hB : B ≤ 2305843009213693952) {f : Nat → Nat → Int} (hf : NN n B f) {m i : Nat} (hm : m < n) (hi : i < n) (P : List (List Int) → Prop)
  (hk : ∀ D, St n f m (i + 1) 0 D → ∃ r, Ev (fun k => robust_distances.l4 k D m n m n ((i + 1 : Nat) : Int)) r ∧ P r) (d : Nat) :
  ∀ (D : List (List Int)) (x : Nat), n - x = d → x ≤ n → St n f m i x D → ∃ r, Ev (fun k => robust_distances.l5 k D m i n m n i n x) r ∧ P r := by
 induction d with
 | zero =>
  intro D x hd hx hS
  obtain ⟨r, hr, hP⟩ := hk D ⟨hS.1, fun i' k' hi' hk' => by
   rw [hS.2 i' k' hi' hk']
   by_cases e : i' < i ∨ i' = i ∧ k' < x
   ·rw [if_pos e, if_pos (by omega)]
   ·rw [if_neg e, if_neg (by omega)]⟩
  refine ⟨r, Ev.step (fun k => ?_) hr, hP⟩
  simp only [robust_distances.l5]
  rw [if_neg (by omega), wrap64_id (by omega) (by omega)]
  rfl
 | succ d ih =>
  intro D x hd hx hS
  have hM := hS.1
  have hx' : x < n := by omega
  have keep : fwS f m i x = f i x → St n f m i (x + 1) D := by
   intro e
   clear ih hk
   refine ⟨hM, fun i' k' hi' hk' => ?_⟩
   rw [hS.2 i' k' hi' hk']
   by_cases e4 : i' < i ∨ i' = i ∧ k' < x
   ·rw [if_pos e4, if_pos (by omega)]
   ·rw [if_neg e4]
    by_cases e5 : i' = i ∧ k' = x
    ·rw [if_pos (by omega), e5.1, e5.2, e]
    ·rw [if_neg (by omega)]
  have upd : ∀ {v : Int}, fwS f m i x = v → St n f m i (x + 1) (D.set i ((D.getD i []).set x v)) := by
   intro v e
   clear ih hk keep
   refine ⟨hM.set hi _, fun i' k' hi' hk' => ?_⟩
   rw [hM.at_set hi hx', hS.2 i' k' hi' hk']
   by_cases e5 : i = i' ∧ x = k'
   ·rw [if_pos e5, if_pos (by omega), ← e5.1, ← e5.2, e]
   ·rw [if_neg e5]
    by_cases e4 : i' < i ∨ i' = i ∧ k' < x
    ·rw [if_pos e4, if_pos (by omega)]
    ·rw [if_neg e4, if_neg (by omega)]
  have e1 : at2 D i m = f i m := by
   rw [hS.2 i m hi hm]
   split
   ·exact fwS_col hf hm hi
   ·rfl
  have e2 : at2 D m x = f m x := by
   rw [hS.2 m x hm hx']
   split
   ·exact fwS_row hf hm hx'
   ·rfl
  have e3 : at2 D i x = f i x := by
   rw [hS.2 i x hi hx', if_neg (by omega)]
  have b1 := hf i m hi hm
  have b2 := hf m x hm hx'
  have ex : Aside0 (wrap64 ((x : Int) + 1) = ((x + 1 : Nat) : Int)) := ⟨by rw [wrap64_id (by omega) (by omega)]; rfl⟩
  have hl0 : D.length = n := hM.len
  have hl1 : (D.getD i []).length = n := hM.row i hi
  have hl2 : (D.getD m []).length = n := hM.row m hm
  have q1 : (x : Int) < (n : Int) := by omega
  have q2 : (0 : Int) ≤ (i : Int) := by omega
  have q3 : (i : Int) < (n : Int) := by omega
  have q4 : (0 : Int) ≤ (m : Int) := by omega
  have q5 : (m : Int) < (n : Int) := by omega
  have q6 : (0 : Int) ≤ (x : Int) := by omega
  by_cases h1 : f i m = -1
  ·obtain ⟨r, hr, hP⟩ := ih D (x + 1) (by omega) (by omega) (keep (by unfold fwS; rw [if_pos h1]))
   refine ⟨r, Ev.step (fun k => ?_) hr, hP⟩
   clear keep upd ih hk hr hP hf b1 b2
   simp only [robust_distances.l5]
   simp only [rd_L7_row, rd_row_at]
   rw [e1, hl1, hl0, if_pos q1, if_pos q2, if_pos q3, if_pos q4, if_pos q5, if_pos h1, ex.out]
  ·by_cases h2 : f m x = -1
   ·obtain ⟨r, hr, hP⟩ := ih D (x + 1) (by omega) (by omega) (keep (by unfold fwS; rw [if_neg h1, if_pos h2]))
    refine ⟨r, Ev.step (fun k => ?_) hr, hP⟩
    clear keep upd ih hk hr hP hf b1 b2
    simp only [robust_distances.l5]
    simp only [rd_L7_row, rd_row_at]
    rw [e1, e2, hl1, hl2, hl0, if_pos q1, if_pos q2, if_pos q3, if_pos q4, if_pos q5, if_neg h1, if_pos q5, if_pos q6, if_pos q1, if_pos h2, ex.out]
   ·have e6 : fwS f m i x = lst (f i x) (f i m + f m x) := by unfold fwS; rw [if_neg h1, if_neg h2]
    obtain ⟨r, hr, hP⟩ := ih (D.set i ((D.getD i []).set x (lst (f i x) (f i m + f m x)))) (x + 1) (by omega) (by omega) (upd e6)
    have ew : Aside0 (wrap64 (f i m + f m x) = f i m + f m x) := ⟨wrap64_id (by omega) (by omega)⟩
    refine ⟨r, Ev.step (fun k => ?_) hr, hP⟩
    clear keep upd ih hk hr hP hf b1 b2
    simp only [robust_distances.l5]
    simp only [rd_L7_row, rd_row_at]
    rw [e1, e2, e3, hl1, hl2, hl0, if_pos q1, if_pos q2, if_pos q3, if_pos q4, if_pos q5, if_neg h1, if_pos q5, if_pos q6, if_pos q1, if_neg h2, if_pos q1, least_some]
    simp only [Option.bind_some, Int.toNat_natCast]
    rw [ex.out, ew.out]
theorem dist_l4 {n : Nat} (hn : n ≤ 48) {B : Int} (hB0 : 0 ≤ B) (hB : B ≤ 2305843009213693952) {f : Nat → Nat → Int} (hf : NN n B f) {m : Nat} (hm : m < n) (P : List (List Int) → Prop)
  (hk : ∀ D, St n (fwS f m) (m + 1) 0 0 D → ∃ r, Ev (fun k => robust_distances.l3 k D n ((m + 1 : Nat) : Int)) r ∧ P r) (d : Nat) :
  ∀ (D : List (List Int)) (i : Nat), n - i = d → i ≤ n → St n f m i 0 D → ∃ r, Ev (fun k => robust_distances.l4 k D m n m n i) r ∧ P r := by
 induction d with
 | zero =>
  intro D i hd hi hS
  obtain ⟨r, hr, hP⟩ := hk D ⟨hS.1, fun i' k' hi' hk' => by rw [hS.2 i' k' hi' hk', if_pos (by omega), if_neg (by omega)]⟩
  refine ⟨r, Ev.step (fun k => ?_) hr, hP⟩
  simp only [robust_distances.l4]
  rw [if_neg (by omega), wrap64_id (by omega) (by omega)]
  rfl
 | succ d ih =>
  intro D i hd hi hS
  have hi' : i < n := by omega
  have hl0 := hS.1.len
  obtain ⟨r, hr, hP⟩ := dist_l5 hn hB0 hB hf hm hi' P (fun D' hS' => ih D' (i + 1) (by omega) (by omega) hS') n D 0 (by omega) (by omega) hS
  refine ⟨r, Ev.step (fun k => ?_) hr, hP⟩
  simp only [robust_distances.l4]
  rw [if_pos (by omega), hl0]
  rfl
def bnd : Nat → Int
 | 0 => 7200
 | m + 1 => 2 * bnd m
theorem bnd_pos : ∀ m, 7200 ≤ bnd m
 | 0 => by simp [bnd]
 | m + 1 => by have := bnd_pos m; simp only [bnd]; omega
theorem bnd_mono (m : Nat) : ∀ d, bnd m ≤ bnd (m + d)
 | 0 => Int.le_refl _
 | d + 1 => by have := bnd_mono m d; have := bnd_pos (m + d); show _ ≤ bnd (m + d + 1); simp only [bnd]; omega
theorem bnd48 : bnd 48 = 2026619832316723200 := by decide +kernel
theorem bnd_le (m : Nat) (h : m ≤ 48) : bnd m ≤ 2026619832316723200 := by
 have := bnd_mono m (48 - m)
 rwa [show m + (48 - m) = 48 by omega, bnd48] at this
theorem fw_NN {n : Nat} {f : Nat → Nat → Int} (hf : NN n 7200 f) : ∀ m : Nat, m ≤ n → NN n (bnd m) (fw f m)
 | 0, _ => hf
 | m + 1, hm => (fw_NN hf m (by omega)).step (by have := bnd_pos m; omega) (show m < n by omega)
theorem dist_l3 {n : Nat} (hn : n ≤ 48) {f : Nat → Nat → Int} (hf : NN n 7200 f) (d : Nat) :
  ∀ (D : List (List Int)) (m : Nat), n - m = d → m ≤ n → St n (fw f m) m 0 0 D → ∃ r, Ev (fun k => robust_distances.l3 k D n m) r ∧ (MatOk n r ∧ ∀ i k, i < n → k < n → at2 r i k = fw f n i k) := by
 induction d with
 | zero =>
  intro D m hd hm hS
  obtain rfl : m = n := by omega
  refine ⟨D, ⟨1, fun k hk => ?_⟩, hS.1, fun i k hi hk => ?_⟩
  ·obtain ⟨k, rfl⟩ : ∃ m, k = m + 1 := ⟨k - 1, by omega⟩
   simp only [robust_distances.l3]
   rw [if_neg (by omega)]
  ·rw [hS.2 i k hi hk, if_neg (by omega)]
 | succ d ih =>
  intro D m hd hm hS
  have hm' : m < n := by omega
  have hl0 := hS.1.len
  have hp := bnd_le m (by omega)
  have hp0 := bnd_pos m
  obtain ⟨r, hr, hP⟩ := dist_l4 hn (B := bnd m) (by omega) (by omega) (fw_NN hf m hm) hm' _ (fun D' hS' => ih D' (m + 1) (by omega) (by omega) hS') n D 0 (by omega) (by omega) hS
  refine ⟨r, Ev.step (fun k => ?_) hr, hP⟩
  simp only [robust_distances.l3]
  rw [if_pos (by omega), hl0]
  rfl
end Go.Proofs.Ytfipfobadpealaa.Pure
