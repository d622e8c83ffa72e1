import Derived.Test.YtfipfobadpealaaQPlD
import Derived.Test.YtfipfobadpealaaKW0
import Derived.Test.YtfipfobadpealaaKS
import Derived.Test.YtfipfobadpealaaK10
namespace Go.Proofs.Ytfipfobadpealaa.Pure
open Go.RowKit Go.Proofs.Ytfipfobadpealaa.PAll Go.Proofs.YtfipfobadpealaaW.PrintWords Go.Proofs.YtfipfobadpealaaW.PrintLast
set_option linter.unusedVariables false

def addA (per : Int) (t : List Int) (f : Nat → Nat → Int) (a : S40) : Nat → Nat → Int :=
 if a.f0 = 5 then f else fun i k => if a.f1 = (i : Int) ∧ a.f2 = (k : Int) then lst (f i k) (sl per t a) else f i k
theorem addA_5 {per : Int} {t : List Int} {f : Nat → Nat → Int} {a : S40} (h : a.f0 = 5) : addA per t f a = f := by
 unfold addA; rw [if_pos h]
theorem addA_ne {per : Int} {t : List Int} {f : Nat → Nat → Int} {a : S40} (h : a.f0 ≠ 5) (i k : Nat) : addA per t f a i k = if a.f1 = (i : Int) ∧ a.f2 = (k : Int) then lst (f i k) (sl per t a) else f i k := by
 unfold addA; rw [if_neg h]
def edges (per : Int) (t : List Int) (acts : List S40) : Nat → Nat → Int := acts.foldl (addA per t) (fun _ _ => -1)
theorem addA_NN {n : Nat} {per : Int} {t : List Int} {f : Nat → Nat → Int} (h : NN n 7200 f) (a : S40) (h2 : 2 ≤ per) (h3 : per ≤ 7200) : NN n 7200 (addA per t f a) := by
 intro i k hi hk
 have b := h i k hi hk
 have s := sl_range t a h2
 by_cases h0 : a.f0 = 5
 ·rw [addA_5 h0]; exact b
 ·rw [addA_ne h0]
  by_cases e : a.f1 = (i : Int) ∧ a.f2 = (k : Int)
  ·rw [if_pos e]
   rcases lst_cases (f i k) (sl per t a) with e2 | e2 <;> rw [e2] <;> omega
  ·rw [if_neg e]; exact b
theorem edges_NN {n : Nat} {per : Int} {t : List Int} (h2 : 2 ≤ per) (h3 : per ≤ 7200) (acts : List S40) : NN n 7200 (edges per t acts) := by
 unfold edges
 suffices H : ∀ (acts : List S40) f, NN n 7200 f → NN n 7200 (acts.foldl (addA per t) f) from H acts _ (fun i k _ _ => .inl rfl)
 intro acts
 induction acts with
 | nil => intro f hf; exact hf
 | cons a l ih => intro f hf; exact ih _ (addA_NN hf a h2 h3)
def Eq2 (n : Nat) (D : List (List Int)) (f : Nat → Nat → Int) : Prop := MatOk n D ∧ ∀ i k, i < n → k < n → at2 D i k = f i k
theorem dist_l2 {per : Int} {ev : List S59} {acts : List S40} {t : List Int} (hv : NV per ev acts) (ht : GoodT per ev.length t) (d : Nat) :
  ∀ (D : List (List Int)) (j : Nat), acts.length - j = d → j ≤ acts.length → Eq2 ev.length D ((acts.take j).foldl (addA per t) (fun _ _ => -1)) →
  ∃ r, Ev (fun k => robust_distances.l2 k t D acts acts.length j per ev acts) r ∧ Eq2 ev.length r (fw (edges per t acts) ev.length) := by
 induction d with
 | zero =>
  intro D j hd hj hE
  obtain rfl : j = acts.length := by omega
  rw [List.take_length] at hE
  obtain ⟨r, hr, hP⟩ := dist_l3 hv.e1 (edges_NN hv.p0 hv.p1 acts) ev.length D 0 (by omega) (by omega) ⟨hE.1, fun i k hi hk => by rw [hE.2 i k hi hk, if_neg (by omega)]; rfl⟩
  have hl := hE.1.len
  refine ⟨r, Ev.step (fun k => ?_) hr, hP⟩
  simp only [robust_distances.l2]
  rw [if_neg (by omega), hl]
  rfl
 | succ d ih =>
  intro D j hd hj hE
  have hj' : j < acts.length := by omega
  have hmem : acts.getD j z40 ∈ acts := getD_mem hj'
  have htk : acts.take (j + 1) = acts.take j ++ [acts.getD j z40] := by
   rw [getD_at z40 hj', List.take_succ_eq_append_getElem hj']
  have a1 := hv.a1
  have ex : Aside0 (wrap64 ((j : Int) + 1) = ((j + 1 : Nat) : Int)) := ⟨by rw [wrap64_id (by omega) (by omega)]; rfl⟩
  have q1 : (j : Int) < (acts.length : Int) := by omega
  have q2 : (0 : Int) ≤ (j : Int) := by omega
  have hl := hE.1.len
  obtain ⟨h1, h2, h3, h4, h5, _⟩ := hv.ok _ hmem
  have hs := slack_some hv ht _ hmem
  have erd : rd_T40 acts (j : Int) = acts.getD j z40 := by simp [rd_T40]
  generalize acts.getD j z40 = a at *
  by_cases h0 : a.f0 = 5
  ·obtain ⟨r, hr, hP⟩ := ih D (j + 1) (by omega) (by omega) ⟨hE.1, fun i k hi hk => by
    rw [hE.2 i k hi hk, htk, List.foldl_append]
    simp only [List.foldl_cons, List.foldl_nil]
    rw [addA_5 h0]⟩
   refine ⟨r, Ev.step (fun k => ?_) hr, hP⟩
   simp only [robust_distances.l2]
   rw [erd, if_pos q1, if_pos q2, if_pos q1, if_pos h0, ex.out]
  ·obtain ⟨u, hu⟩ := Int.eq_ofNat_of_zero_le h1
   obtain ⟨v, hv'⟩ := Int.eq_ofNat_of_zero_le h3
   have hun : u < ev.length := by omega
   have hvn : v < ev.length := by omega
   have hr1 : (D.getD u []).length = ev.length := hE.1.row u hun
   obtain ⟨r, hr, hP⟩ := ih (D.set u ((D.getD u []).set v (lst (at2 D u v) (sl per t a)))) (j + 1) (by omega) (by omega) ⟨hE.1.set hun _, fun i k hi hk => by
    rw [hE.1.at_set hun hvn, htk, List.foldl_append]
    simp only [List.foldl_cons, List.foldl_nil]
    rw [addA_ne h0, ← hE.2 i k hi hk]
    by_cases e : u = i ∧ v = k
    ·rw [if_pos e, if_pos (by omega), e.1, e.2]
    ·rw [if_neg e, if_neg (by omega)]⟩
   refine ⟨r, Ev.step (fun k => ?_) hr, hP⟩
   have c1 : (0 : Int) ≤ (u : Int) := by omega
   have c2 : (u : Int) < (ev.length : Int) := by omega
   have c3 : (0 : Int) ≤ (v : Int) := by omega
   have c4 : (v : Int) < (ev.length : Int) := by omega
   simp only [robust_distances.l2]
   rw [erd, if_pos q1, if_pos q2, if_pos q1, if_neg h0, hs, hu, hv']
   simp only [rd_L7_row, rd_row_at, Option.bind_some]
   rw [hl, hr1, if_pos c1, if_pos c2, if_pos c3, if_pos c4, least_some]
   simp only [Option.bind_some, Int.toNat_natCast]
   rw [ex.out]
theorem dist_l1 {per : Int} {ev : List S59} {acts : List S40} {t : List Int} (hn : ev.length ≤ 48) (P : List (List Int) → Prop) (i : Nat) (hi : i < ev.length)
  (hk : ∀ D, D.length = ev.length → (∀ i', i' < i + 1 → (D.getD i' []).length = ev.length ∧ ∀ k', k' < ev.length → at2 D i' k' = -1) → ∃ r, Ev (fun k => robust_distances.l0 k t D ev.length ((i + 1 : Nat) : Int) per ev acts) r ∧ P r) (d : Nat) :
  ∀ (D : List (List Int)) (x : Nat), ev.length - x = d → x ≤ ev.length → D.length = ev.length → (∀ i', i' < i + 1 → (D.getD i' []).length = ev.length) → (∀ i' k', i' < i ∨ (i' = i ∧ k' < x) → k' < ev.length → at2 D i' k' = -1) →
  ∃ r, Ev (fun k => robust_distances.l1 k t D i ev.length i ev.length x per ev acts) r ∧ P r := by
 induction d with
 | zero =>
  intro D x hd hx hl hr hz
  obtain ⟨r, hE, hP⟩ := hk D hl (fun i' hi' => ⟨hr i' hi', fun k' hk' => hz i' k' (by omega) hk'⟩)
  have ex : Aside0 (wrap64 ((i : Int) + 1) = ((i + 1 : Nat) : Int)) := ⟨by rw [wrap64_id (by omega) (by omega)]; rfl⟩
  have q : ¬ (x : Int) < (ev.length : Int) := by omega
  refine ⟨r, Ev.step (fun k => ?_) hE, hP⟩
  simp only [robust_distances.l1]
  rw [if_neg q, ex.out]
 | succ d ih =>
  intro D x hd hx hl hr hz
  have hx' : x < ev.length := by omega
  have hri := hr i (by omega)
  obtain ⟨r, hE, hP⟩ := ih (D.set i ((D.getD i []).set x (-1))) (x + 1) (by omega) (by omega) (by simpa using hl) (fun i' hi' => by
    rw [getD_set _ _ _ _ _ (by omega)]
    by_cases e : i = i'
    ·rw [if_pos e]; simpa using hri
    ·rw [if_neg e]; exact hr i' hi') (fun i' k' hik hk' => by
    unfold at2
    rw [getD_set _ _ _ _ _ (by omega)]
    by_cases e : i = i'
    ·rw [if_pos e, getD_set _ _ _ _ _ (by omega)]
     by_cases e2 : x = k'
     ·rw [if_pos e2]
     ·rw [if_neg e2]
      have := hz i k' (by omega) hk'
      exact this
    ·rw [if_neg e]
     exact hz i' k' (by omega) hk')
  have ex : Aside0 (wrap64 ((x : Int) + 1) = ((x + 1 : Nat) : Int)) := ⟨by rw [wrap64_id (by omega) (by omega)]; rfl⟩
  have q1 : (x : Int) < (ev.length : Int) := by omega
  have q2 : (0 : Int) ≤ (i : Int) := by omega
  have q3 : (i : Int) < (ev.length : Int) := by omega
  have q4 : (0 : Int) ≤ (x : Int) := by omega
  refine ⟨r, Ev.step (fun k => ?_) hE, hP⟩
  simp only [robust_distances.l1]
  simp only [rd_L7_row]
  rw [hri, hl, if_pos q1, if_pos q2, if_pos q3, if_pos q4, if_pos q1, ex.out]
  simp only [Int.toNat_natCast]
theorem dist_l0 {per : Int} {ev : List S59} {acts : List S40} {t : List Int} (hv : NV per ev acts) (ht : GoodT per ev.length t) (d : Nat) :
  ∀ (D : List (List Int)) (i : Nat), ev.length - i = d → i ≤ ev.length → D.length = ev.length → (∀ i', i' < i → (D.getD i' []).length = ev.length ∧ ∀ k', k' < ev.length → at2 D i' k' = -1) →
  ∃ r, Ev (fun k => robust_distances.l0 k t D ev.length i per ev acts) r ∧ Eq2 ev.length r (fw (edges per t acts) ev.length) := by
 induction d with
 | zero =>
  intro D i hd hi hl hz
  have a1 := hv.a1
  obtain ⟨r, hE, hP⟩ := dist_l2 hv ht acts.length D 0 (by omega) (by omega) ⟨⟨hl, fun i' hi' => (hz i' (by omega)).1⟩, fun i' k' hi' hk' => by rw [(hz i' (by omega)).2 k' hk']; rfl⟩
  have q : ¬ (i : Int) < (ev.length : Int) := by omega
  refine ⟨r, Ev.step (fun k => ?_) hE, hP⟩
  simp only [robust_distances.l0]
  rw [if_neg q]
  rfl
 | succ d ih =>
  intro D i hd hi hl hz
  have hi' : i < ev.length := by omega
  have e1 := hv.e1
  have hrep : ∀ k', k' < ev.length → (List.replicate ev.length (0 : Int)).length = ev.length := fun _ _ => by simp
  have hset : (D.set i (List.replicate ev.length (0 : Int))).length = ev.length := by simpa using hl
  have hrow : (D.set i (List.replicate ev.length (0 : Int))).getD i [] = List.replicate ev.length 0 := by rw [getD_set _ _ _ _ _ (by omega), if_pos rfl]
  obtain ⟨r, hE, hP⟩ := dist_l1 (per := per) (acts := acts) (t := t) e1 _ i hi' (fun D' hl' hz' => ih D' (i + 1) (by omega) (by omega) hl' hz') ev.length (D.set i (List.replicate ev.length 0)) 0 (by omega) (by omega) hset (fun i' h => by
    rw [getD_set _ _ _ _ _ (by omega)]
    by_cases e : i = i'
    ·rw [if_pos e]; simp
    ·rw [if_neg e]; exact (hz i' (by omega)).1) (fun i' k' h hk' => by
    unfold at2
    rw [getD_set _ _ _ _ _ (by omega), if_neg (by omega)]
    exact (hz i' (by omega)).2 k' hk')
  have q1 : (i : Int) < (ev.length : Int) := by omega
  have q2 : (0 : Int) ≤ (i : Int) := by omega
  have q3 : (0 : Int) ≤ (ev.length : Int) := by omega
  have q4 : ((ev.length : Int) : Int).toNat ≤ 35184372088832 := by omega
  refine ⟨r, Ev.step (fun k => ?_) hE, hP⟩
  simp only [robust_distances.l0, Option.bind_some]
  rw [if_pos q1, if_pos q3, if_pos q4, if_pos q2, hl, if_pos q1]
  simp only [Int.toNat_natCast, rd_L7_row]
  rw [hrow]
  simp
theorem distances_ev {per : Int} {ev : List S59} {acts : List S40} {t : List Int} (hv : NV per ev acts) (ht : GoodT per ev.length t) :
  ∃ D, Ev (fun k => robust_distances.f k per ev acts t) D ∧ Eq2 ev.length D (fw (edges per t acts) ev.length) := by
 have e1 := hv.e1
 obtain ⟨r, hE, hP⟩ := dist_l0 hv ht ev.length (List.replicate ev.length []) 0 (by omega) (by omega) (by simp) (fun i' h => by omega)
 refine ⟨r, Ev.congr (fun k => ?_) hE, hP⟩
 unfold robust_distances.f
 rw [if_pos (by omega), if_pos (by omega)]
 simp
end Go.Proofs.Ytfipfobadpealaa.Pure
