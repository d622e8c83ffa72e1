import Derived.Test.YtfipfobadpealaaQPlF
import Derived.Test.YtfipfobadpealaaKW0
import Derived.Test.YtfipfobadpealaaKS
import Derived.Test.YtfipfobadpealaaK16
namespace Go.Proofs.Ytfipfobadpealaa.Pure
open Go.RowKit Go.Proofs.Ytfipfobadpealaa.PAll Go.Proofs.YtfipfobadpealaaW.PrintWords Go.Proofs.YtfipfobadpealaaW.PrintLast
set_option linter.unusedVariables false

/-! ### chains of activities -/
inductive Wk (per : Int) (t : List Int) (acts : List S40) : Nat → Nat → Int → Prop
 | edge {i k : Nat} (a : S40) (ha : a ∈ acts) (h0 : a.f0 ≠ 5) (h1 : a.f1 = (i : Int)) (h2 : a.f2 = (k : Int)) : Wk per t acts i k (sl per t a)
 | cat {i j k : Nat} {x y : Int} (h : Wk per t acts i j x) (h' : Wk per t acts j k y) : Wk per t acts i k (x + y)
theorem edges_or (per : Int) (t : List Int) (acts : List S40) (i k : Nat) : edges per t acts i k = -1 ∨ Wk per t acts i k (edges per t acts i k) := by
 unfold edges
 suffices H : ∀ (l : List S40) f, (∀ a ∈ l, a ∈ acts) → (f i k = -1 ∨ Wk per t acts i k (f i k)) → (l.foldl (addA per t) f i k = -1 ∨ Wk per t acts i k (l.foldl (addA per t) f i k)) from H acts _ (fun _ h => h) (.inl rfl)
 intro l
 induction l with
 | nil => intro f _ h; exact h
 | cons a l ih =>
  intro f hl h
  refine ih _ (fun b hb => hl b (List.mem_cons_of_mem _ hb)) ?_
  by_cases h0 : a.f0 = 5
  ·rw [addA_5 h0]; exact h
  ·rw [addA_ne h0]
   by_cases e : a.f1 = (i : Int) ∧ a.f2 = (k : Int)
   ·rw [if_pos e]
    rcases lst_cases (f i k) (sl per t a) with e2 | e2
    ·rw [e2]; exact h
    ·rw [e2]; exact .inr (.edge a (hl a (List.mem_cons_self)) h0 e.1 e.2)
   ·rw [if_neg e]; exact h
theorem lst_le {a b : Int} (ha : a = -1 ∨ 0 ≤ a) (hb : 0 ≤ b) : lst a b ≠ -1 ∧ lst a b ≤ b ∧ (a ≠ -1 → lst a b ≤ a) := by
 unfold lst
 split
 ·omega
 ·rw [if_neg (by omega)]
  split <;> omega
theorem edges_le {per : Int} (t : List Int) {acts : List S40} (hp : 2 ≤ per) {a : S40} (ha : a ∈ acts) (h0 : a.f0 ≠ 5) {i k : Nat} (h1 : a.f1 = (i : Int)) (h2 : a.f2 = (k : Int)) :
  edges per t acts i k ≠ -1 ∧ edges per t acts i k ≤ sl per t a := by
 unfold edges
 have keep : ∀ (l : List S40) f, (f i k = -1 ∨ 0 ≤ f i k) → (l.foldl (addA per t) f i k = -1 ∨ 0 ≤ l.foldl (addA per t) f i k) ∧ (f i k ≠ -1 → l.foldl (addA per t) f i k ≠ -1 ∧ l.foldl (addA per t) f i k ≤ f i k) := by
  intro l
  induction l with
  | nil => intro f h; exact ⟨h, fun e => ⟨e, Int.le_refl _⟩⟩
  | cons b l ih =>
   intro f h
   have s := sl_range t b hp
   by_cases hb0 : b.f0 = 5
   ·simp only [List.foldl_cons]; rw [addA_5 hb0]; exact ih f h
   ·simp only [List.foldl_cons]
    by_cases e : b.f1 = (i : Int) ∧ b.f2 = (k : Int)
    ·have e3 : addA per t f b i k = lst (f i k) (sl per t b) := by rw [addA_ne hb0, if_pos e]
     obtain ⟨x1, x2, x3⟩ := lst_le h s.1
     have x4 := lst_cases (f i k) (sl per t b)
     obtain ⟨y1, y2⟩ := ih (addA per t f b) (by rw [e3]; omega)
     rw [e3] at y2
     refine ⟨y1, fun hf => ?_⟩
     obtain ⟨z1, z2⟩ := y2 x1
     exact ⟨z1, Int.le_trans z2 (x3 hf)⟩
    ·have e3 : addA per t f b i k = f i k := by rw [addA_ne hb0, if_neg e]
     obtain ⟨y1, y2⟩ := ih (addA per t f b) (by rw [e3]; exact h)
     rw [e3] at y2
     exact ⟨y1, y2⟩
 suffices H : ∀ (l : List S40) f, a ∈ l → (f i k = -1 ∨ 0 ≤ f i k) → l.foldl (addA per t) f i k ≠ -1 ∧ l.foldl (addA per t) f i k ≤ sl per t a from H acts _ ha (.inl rfl)
 intro l
 induction l with
 | nil => intro f h; simp at h
 | cons b l ih =>
  intro f hm h
  simp only [List.foldl_cons]
  have s := sl_range t b hp
  rcases List.mem_cons.mp hm with rfl | hm
  ·have e3 : addA per t f a i k = lst (f i k) (sl per t a) := by rw [addA_ne h0, if_pos ⟨h1, h2⟩]
   obtain ⟨x1, x2, x3⟩ := lst_le h s.1
   have x4 := lst_cases (f i k) (sl per t a)
   obtain ⟨y1, y2⟩ := keep l (addA per t f a) (by rw [e3]; omega)
   rw [e3] at y2
   obtain ⟨z1, z2⟩ := y2 x1
   exact ⟨z1, Int.le_trans z2 x2⟩
  ·refine ih _ hm ?_
   by_cases hb0 : b.f0 = 5
   ·rw [addA_5 hb0]; exact h
   ·rw [addA_ne hb0]
    have x4 := lst_cases (f i k) (sl per t b)
    split <;> omega
theorem fw_or {per : Int} {t : List Int} {acts : List S40} : ∀ (m i k : Nat), fw (edges per t acts) m i k = -1 ∨ Wk per t acts i k (fw (edges per t acts) m i k)
 | 0, i, k => edges_or per t acts i k
 | m + 1, i, k => by
  show fwS _ m i k = -1 ∨ Wk per t acts i k (fwS _ m i k)
  rcases fwS_or (fw (edges per t acts) m) m i k with e | ⟨h1, h2, e⟩
  ·rw [e]; exact fw_or m i k
  ·rw [e]
   exact .inr (.cat ((fw_or m i m).resolve_left h1) ((fw_or m m k).resolve_left h2))
theorem Wk.lt {per : Int} {ev : List S59} {acts : List S40} {t : List Int} (hv : NV per ev acts) {i k : Nat} {x : Int} (h : Wk per t acts i k x) : i < ev.length ∧ k < ev.length := by
 induction h with
 | edge a ha h0 h1 h2 => obtain ⟨a1, a2, a3, a4, _⟩ := hv.ok a ha; omega
 | cat _ _ h1 h2 => exact ⟨h1.1, h2.2⟩
theorem F_le_wk {per : Int} {ev : List S59} {acts : List S40} {t : List Int} (hv : NV per ev acts) {i k : Nat} {x : Int} (h : Wk per t acts i k x) : F per ev.length acts t i k ≠ -1 ∧ F per ev.length acts t i k ≤ x := by
 have hN := edges_NN (t := t) (n := ev.length) hv.p0 hv.p1 acts
 induction h with
 | @edge i k a ha h0 h1 h2 =>
  obtain ⟨a1, a2, a3, a4, _⟩ := hv.ok a ha
  obtain ⟨e1, e2⟩ := edges_le t hv.p0 ha h0 h1 h2
  obtain ⟨f1, f2⟩ := fw_le hN (show i < ev.length by omega) (show k < ev.length by omega) e1 ev.length (Nat.le_refl _)
  exact ⟨f1, Int.le_trans f2 e2⟩
 | @cat i j k x y h h' ih1 ih2 =>
  have l1 := h.lt hv
  have l2 := h'.lt hv
  obtain ⟨c1, c2⟩ := fw_tri hN ev.length (Nat.le_refl _) j l1.2 i k l1.1 l2.2 ih1.1 ih2.1
  refine ⟨c1, Int.le_trans c2 ?_⟩
  have a1 := ih1.2
  have a2 := ih2.2
  unfold F at a1 a2
  omega
theorem Wk.last {per : Int} {acts : List S40} {t : List Int} {i k : Nat} {x : Int} (h : Wk per t acts i k x) :
  ∃ a ∈ acts, a.f0 ≠ 5 ∧ a.f2 = (k : Int) ∧ ((a.f1 = (i : Int) ∧ x = sl per t a) ∨ ∃ (j : Nat) (y : Int), a.f1 = (j : Int) ∧ Wk per t acts i j y ∧ x = y + sl per t a) := by
 induction h with
 | edge a ha h0 h1 h2 => exact ⟨a, ha, h0, h2, .inl ⟨h1, rfl⟩⟩
 | @cat i j k x y h h' ih1 ih2 =>
  obtain ⟨a, ha, h0, h2, e | ⟨j', y', e1, e2, e3⟩⟩ := ih2
  ·exact ⟨a, ha, h0, h2, .inr ⟨j, x, e.1, h, by rw [e.2]⟩⟩
  ·exact ⟨a, ha, h0, h2, .inr ⟨j', x + y', e1, .cat h e2, by rw [e3]; omega⟩⟩
/-- Every distance but a loop's own comes over a last activity. -/
theorem F_cause {per : Int} {ev : List S59} {acts : List S40} {t : List Int} (hv : NV per ev acts) {i k : Nat} (hi : i < ev.length) (hk : k < ev.length) (h : F per ev.length acts t i k ≠ -1) :
  ∃ a ∈ acts, a.f0 ≠ 5 ∧ a.f2 = (k : Int) ∧ ((a.f1 = (i : Int) ∧ F per ev.length acts t i k = sl per t a) ∨ ∃ j : Nat, j ≠ i ∧ j < ev.length ∧ a.f1 = (j : Int) ∧ F per ev.length acts t i j ≠ -1 ∧ F per ev.length acts t i k = F per ev.length acts t i j + sl per t a) := by
 have hw : Wk per t acts i k (F per ev.length acts t i k) := (fw_or ev.length i k).resolve_left h
 obtain ⟨a, ha, h0, h2, e | ⟨j, y, e1, e2, e3⟩⟩ := hw.last
 ·exact ⟨a, ha, h0, h2, .inl e⟩
 ·have l := e2.lt hv
  obtain ⟨f1, f2⟩ := F_le_wk hv e2
  have g := F_le_wk hv (Wk.edge a ha h0 e1 h2 : Wk per t acts j k (sl per t a))
  have hN := edges_NN (t := t) (n := ev.length) hv.p0 hv.p1 acts
  have tr := fw_tri hN ev.length (Nat.le_refl _) j l.2 i k hi hk f1 g.1
  change F per ev.length acts t i k ≠ -1 ∧ F per ev.length acts t i k ≤ F per ev.length acts t i j + F per ev.length acts t j k at tr
  have nn := F_NN (t := t) hv i j hi l.2
  by_cases hj : j = i
  ·subst hj
   refine ⟨a, ha, h0, h2, .inl ⟨e1, ?_⟩⟩
   omega
  ·exact ⟨a, ha, h0, h2, .inr ⟨j, hj, l.2, e1, f1, by omega⟩⟩
theorem F_act {per : Int} {ev : List S59} {acts : List S40} (t : List Int) (hv : NV per ev acts) {a : S40} (ha : a ∈ acts) (h0 : a.f0 ≠ 5) {i j k : Nat} (hi : i < ev.length) (h1 : a.f1 = (j : Int)) (h2 : a.f2 = (k : Int)) :
  (F per ev.length acts t j k ≠ -1 ∧ F per ev.length acts t j k ≤ sl per t a) ∧ (F per ev.length acts t i j ≠ -1 → F per ev.length acts t i k ≠ -1 ∧ F per ev.length acts t i k ≤ F per ev.length acts t i j + sl per t a) := by
 have hw : Wk per t acts j k (sl per t a) := .edge a ha h0 h1 h2
 have l := hw.lt hv
 have g := F_le_wk hv hw
 refine ⟨g, fun f1 => ?_⟩
 have hN := edges_NN (t := t) (n := ev.length) hv.p0 hv.p1 acts
 have tr := fw_tri hN ev.length (Nat.le_refl _) j l.1 i k hi l.2 f1 g.1
 change F per ev.length acts t i k ≠ -1 ∧ F per ev.length acts t i k ≤ F per ev.length acts t i j + F per ev.length acts t j k at tr
 exact ⟨tr.1, by omega⟩

/-! ### Spread -/
def dl0 (f : Nat → Int) (delay : Int) (k : Nat) : Int := if f k = -1 then 0 else mx 0 (delay - f k)
def dl (f : Nat → Int) (i : Nat) (delay : Int) (k : Nat) : Int := if i = k then delay else dl0 f delay k
theorem ext_getD {α : Type} (d : α) {l m : List α} (hl : l.length = m.length) (h : ∀ k, k < l.length → l.getD k d = m.getD k d) : l = m := by
 refine List.ext_getElem hl (fun k h1 h2 => ?_)
 have := h k h1
 rwa [getD_at d h1, getD_at d h2] at this
theorem spread_l0 (n i : Nat) (hn : n ≤ 48) (hi : i < n) (delay : Int) (hd0 : 0 ≤ delay) (hd1 : delay ≤ 65536) (f : Nat → Int) (row : List Int) (hrl : row.length = n) (hrow : ∀ k, k < n → rd row (k : Int) = f k) (hf : ∀ k, k < n → f k = -1 ∨ (0 ≤ f k ∧ f k ≤ 2026619832316723200)) (d : Nat) :
  ∀ (out : List Int) (x : Nat), n - x = d → x ≤ n → out.length = n → (∀ k, k < n → out.getD k 0 = if k < x then dl0 f delay k else 0) →
  ∃ r, Ev (fun k => robust_Spread.l0 k i delay out row n x) (r, 0) ∧ r.length = n ∧ ∀ k, k < n → r.getD k 0 = dl f i delay k := by
 induction d with
 | zero =>
  intro out x hd hx hl ho
  refine ⟨out.set i delay, ⟨1, fun k hk => ?_⟩, by simpa using hl, fun k hk => ?_⟩
  ·obtain ⟨k, rfl⟩ : ∃ m, k = m + 1 := ⟨k - 1, by omega⟩
   have q1 : ¬ (x : Int) < (n : Int) := by omega
   have q2 : (0 : Int) ≤ (i : Int) := by omega
   have q3 : (i : Int) < (n : Int) := by omega
   simp only [robust_Spread.l0]
   rw [if_neg q1, hl, if_pos q2, if_pos q3]
   rfl
  ·rw [getD_set _ _ _ _ _ (by omega)]
   unfold dl
   by_cases e : i = k
   ·rw [if_pos e, if_pos e]
   ·rw [if_neg e, if_neg e, ho k hk, if_pos (by omega)]
 | succ d ih =>
  intro out x hd hx hl ho
  have hx' : x < n := by omega
  have q1 : (x : Int) < (n : Int) := by omega
  have q2 : (0 : Int) ≤ (x : Int) := by omega
  have b := hf x hx'
  have ex : Aside0 (wrap64 ((x : Int) + 1) = ((x + 1 : Nat) : Int)) := ⟨by rw [wrap64_id (by omega) (by omega)]; rfl⟩
  have er := hrow x hx'
  by_cases h1 : f x = -1
  ·obtain ⟨r, hE, hr⟩ := ih out (x + 1) (by omega) (by omega) hl (fun k hk => by
    rw [ho k hk]
    by_cases e : k < x
    ·rw [if_pos e, if_pos (by omega)]
    ·rw [if_neg e]
     by_cases e2 : k = x
     ·rw [if_pos (by omega), e2]; unfold dl0; rw [if_pos h1]
     ·rw [if_neg (by omega)])
   refine ⟨r, Ev.step (fun k => ?_) hE, hr⟩
   simp only [robust_Spread.l0]
   rw [if_pos q1, if_pos q2, hrl, if_pos q1, er, if_pos h1, ex.out]
  ·obtain ⟨r, hE, hr⟩ := ih (out.set x (mx 0 (delay - f x))) (x + 1) (by omega) (by omega) (by simpa using hl) (fun k hk => by
    rw [getD_set _ _ _ _ _ (by omega), ho k hk]
    by_cases e2 : x = k
    ·rw [if_pos e2, if_pos (by omega), ← e2]; unfold dl0; rw [if_neg h1]
    ·rw [if_neg e2]
     by_cases e : k < x
     ·rw [if_pos e, if_pos (by omega)]
     ·rw [if_neg e, if_neg (by omega)])
   have ew : Aside0 (wrap64 (delay - f x) = delay - f x) := ⟨wrap64_id (by omega) (by omega)⟩
   refine ⟨r, Ev.step (fun k => ?_) hE, hr⟩
   simp only [robust_Spread.l0]
   rw [if_pos q1, if_pos q2, hrl, if_pos q1, er, if_neg h1, hl, if_pos q1, ex.out, ew.out]
   simp only [Int.toNat_natCast]
theorem spread_ev {per : Int} {ev : List S59} {acts : List S40} {t : List Int} (h : Feas per ev acts t) {i : Nat} (hi : i < ev.length) {delay : Int} (hd0 : 0 ≤ delay) (hd1 : delay ≤ 65536) :
  ∃ r, Ev (fun k => robust_Spread.f k per ev acts t i delay) (r, 0) ∧ r.length = ev.length ∧ ∀ k, k < ev.length → r.getD k 0 = dl (F per ev.length acts t i) i delay k := by
 obtain ⟨D, ⟨K, hK⟩, hM, hD⟩ := distances_ev h.1 h.2.1
 dsimp only at hK
 have hl := hM.len
 have hrl := hM.row i hi
 have e1 := h.1.e1
 obtain ⟨r, ⟨K2, hE⟩, hr1, hr2⟩ := spread_l0 ev.length i h.1.e1 hi delay hd0 hd1 (F per ev.length acts t i) (D.getD i []) hrl (fun k hk => by rw [rd_row_at, hD i k hi hk]; rfl) (fun k hk => F_NN h.1 i k hi hk) ev.length (List.replicate ev.length 0) 0 (by omega) (by omega) (by simp) (fun k hk => by rw [getD_at 0 (by simpa using hk)]; simp)
 dsimp only at hE
 refine ⟨r, ⟨K + K2 + 1, fun k hk => ?_⟩, hr1, hr2⟩
 have q1 : (0 : Int) ≤ (i : Int) := by omega
 have q2 : (i : Int) < (ev.length : Int) := by omega
 have q3 : (0 : Int) ≤ (ev.length : Int) := by omega
 have q4 : ((ev.length : Int) : Int).toNat ≤ 35184372088832 := by omega
 obtain ⟨k, rfl⟩ : ∃ m, k = m + 1 := ⟨k - 1, by omega⟩
 have e5 := hK k (by omega)
 have e6 := hE k (by omega)
 unfold robust_Spread.f
 rw [h.some]
 simp only [Option.bind_some, if_true]
 rw [there_some, decide_eq_true ⟨q1, q2⟩]
 simp only [Option.bind_some, if_true]
 rw [if_neg (by omega), decide_eq_false (by omega)]
 simp only [robust_Spread.j0]
 rw [if_neg (by simp), if_pos q3, if_pos q4, e5]
 simp only [Option.bind_some, rd_L7_row, Int.toNat_natCast]
 rw [if_pos q1, hl, if_pos q2, hrl]
 exact e6
end Go.Proofs.Ytfipfobadpealaa.Pure
