import Derived.Test.YtfipfobadpealaaQPlH
import Derived.Test.YtfipfobadpealaaKW0
import Derived.Test.YtfipfobadpealaaKS
import Derived.Test.YtfipfobadpealaaK33
namespace Go.Proofs.Ytfipfobadpealaa.Pure
open Go.RowKit Go.Proofs.Ytfipfobadpealaa.PAll Go.Proofs.YtfipfobadpealaaW.PrintWords Go.Proofs.YtfipfobadpealaaW.PrintLast
set_option linter.unusedVariables false

/-! ### a small bound for every distance -/
def cnt (p : Nat → Bool) : Nat → Nat
 | 0 => 0
 | m + 1 => cnt p m + (if p m then 1 else 0)
theorem cnt_le (p : Nat → Bool) : ∀ m, cnt p m ≤ m
 | 0 => Nat.le_refl _
 | m + 1 => by have := cnt_le p m; simp only [cnt]; split <;> omega
theorem cnt_mono {p q : Nat → Bool} : ∀ m, (∀ j, j < m → p j = true → q j = true) → cnt p m ≤ cnt q m
 | 0, _ => Nat.le_refl _
 | m + 1, h => by
  have := cnt_mono m (fun j hj => h j (by omega))
  have h1 := h m (by omega)
  simp only [cnt]
  split
  ·rename_i e; rw [if_pos (h1 e)]; omega
  ·split <;> omega
theorem cnt_two {p q r : Nat → Bool} : ∀ m, (∀ j, j < m → p j = true → r j = true) → (∀ j, j < m → q j = true → r j = true) → (∀ j, j < m → p j = true → q j = true → False) → cnt p m + cnt q m ≤ cnt r m
 | 0, _, _, _ => Nat.le_refl _
 | m + 1, h1, h2, h3 => by
  have := cnt_two m (fun j hj => h1 j (by omega)) (fun j hj => h2 j (by omega)) (fun j hj => h3 j (by omega))
  have a := h1 m (by omega)
  have b := h2 m (by omega)
  have c := h3 m (by omega)
  simp only [cnt]
  cases hp : p m <;> cases hq : q m
  ·simp; split <;> omega
  ·rw [b hq]; simp; omega
  ·rw [a hp]; simp; omega
  ·exact (c hp hq).elim
def thru (f : Nat → Nat → Int) (i k : Nat) (j : Nat) : Bool := (f i j != -1) && (f j k != -1)
theorem thru_iff (f : Nat → Nat → Int) (i k j : Nat) : thru f i k j = true ↔ f i j ≠ -1 ∧ f j k ≠ -1 := by simp [thru]
theorem fw_small {n : Nat} {f : Nat → Nat → Int} (hf : NN n 7200 f) : ∀ m, m ≤ n → ∀ i k, i < n → k < n → fw f m i k ≠ -1 → fw f m i k ≤ 7200 * (1 + (cnt (thru (fw f m) i k) m : Int))
 | 0, _, i, k, hi, hk, h => by
  have := hf i k hi hk
  simp only [cnt]
  show f i k ≤ _
  have h' : f i k ≠ -1 := h
  omega
 | m + 1, hm, i, k, hi, hk, h => by
  have hmn : m < n := by omega
  have hN := fw_NN hf m (by omega)
  have hT := fw_tri hf m (by omega)
  have ih := fw_small hf m (by omega)
  have up : ∀ i k, i < n → k < n → fw f m i k ≠ -1 → fw f (m + 1) i k ≠ -1 := fun i k hi hk e => (fwS_le hN hmn hi hk e).1
  by_cases e : fw f m i k = -1
  ·rcases fwS_or (fw f m) m i k with e2 | ⟨a, b, c⟩
   ·exact absurd (show fw f (m + 1) i k = -1 from e2.trans e) h
   ·have c1 : fw f (m + 1) i k = fw f m i m + fw f m m k := c
    have b1 := ih i m hi hmn a
    have b2 := ih m k hmn hk b
    have v : ∀ j, j < n → fw f m j m ≠ -1 → fw f (m + 1) j k ≠ -1 := fun j hj x => (fwS_via hN hmn hj hk x b).1
    have v2 : ∀ j, j < n → fw f m m j ≠ -1 → fw f (m + 1) i j ≠ -1 := fun j hj x => (fwS_via hN hmn hi hj a x).1
    have two := cnt_two (p := thru (fw f m) i m) (q := thru (fw f m) m k) (r := thru (fw f (m + 1)) i k) m
     (fun j hj x => by
      rw [thru_iff] at x ⊢
      exact ⟨up i j hi (by omega) x.1, v j (by omega) x.2⟩)
     (fun j hj x => by
      rw [thru_iff] at x ⊢
      exact ⟨v2 j (by omega) x.1, up j k (by omega) hk x.2⟩)
     (fun j hj x y => by
      rw [thru_iff] at x y
      exact (hT j hj i k hi hk x.1 y.2).1 e)
    have last : thru (fw f (m + 1)) i k m = true := by
     rw [thru_iff]
     exact ⟨up i m hi hmn a, up m k hmn hk b⟩
    have e3 : cnt (thru (fw f (m + 1)) i k) (m + 1) = cnt (thru (fw f (m + 1)) i k) m + 1 := by simp only [cnt]; rw [if_pos last]
    rw [e3, c1]
    omega
  ·have b1 := ih i k hi hk e
   have le := (fwS_le hN hmn hi hk e).2
   have mo := cnt_mono (p := thru (fw f m) i k) (q := thru (fw f (m + 1)) i k) m (fun j hj x => by
    rw [thru_iff] at x ⊢
    exact ⟨up i j hi (by omega) x.1, up j k (by omega) hk x.2⟩)
   have e3 : cnt (thru (fw f (m + 1)) i k) m ≤ cnt (thru (fw f (m + 1)) i k) (m + 1) := by simp only [cnt]; omega
   have le' : fw f (m + 1) i k ≤ fw f m i k := le
   omega
theorem fw_NN2 {n : Nat} (hn : n ≤ 48) {f : Nat → Nat → Int} (hf : NN n 7200 f) (m : Nat) (hm : m ≤ n) : NN n 352800 (fw f m) := by
 intro i k hi hk
 have a := fw_NN hf m hm i k hi hk
 by_cases h : fw f m i k = -1
 ·exact .inl h
 ·have b := fw_small hf m hm i k hi hk h
  have c := cnt_le (thru (fw f m) i k) m
  right
  omega
/-! ### the reference's distances -/
def inf : Int := 1152921504606846976
def enc (v : Int) : Int := if v = -1 then 1152921504606846976 else v
theorem idx_inj {n i k i' k' : Nat} (hk : k < n) (hk' : k' < n) : i * n + k = i' * n + k' ↔ i = i' ∧ k = k' := by
 constructor
 ·intro h
  have h1 : (i * n + k) % n = (i' * n + k') % n := by rw [h]
  rw [Nat.mul_add_mod_of_lt hk, Nat.mul_add_mod_of_lt hk'] at h1
  refine ⟨?_, h1⟩
  have h2 : i * n = i' * n := by omega
  exact Nat.eq_of_mul_eq_mul_right (by omega) h2
 ·rintro ⟨rfl, rfl⟩; rfl
theorem idx_lt {n i k : Nat} (hi : i < n) (hk : k < n) : i * n + k < n * n := by
 have : (i + 1) * n ≤ n * n := Nat.mul_le_mul_right _ hi
 rw [Nat.add_mul] at this
 omega
theorem sq_le {n : Nat} (hn : n ≤ 48) : n * n ≤ 2304 := Nat.mul_le_mul hn hn
theorem idx_wrap {n i k : Nat} (hn : n ≤ 48) (hi : i < n) (hk : k < n) : wrap64 (wrap64 ((i : Int) * (n : Int)) + (k : Int)) = ((i * n + k : Nat) : Int) := by
 have h1 := idx_lt hi hk
 have h2 := sq_le hn
 have e : (i : Int) * (n : Int) = ((i * n : Nat) : Int) := by simp
 rw [e, wrap64_id (x := ((i * n : Nat) : Int)) (by omega) (by omega), wrap64_id (by omega) (by omega)]
 omega
def RSt (n : Nat) (f : Nat → Nat → Int) (D : List Int) : Prop := D.length = n * n ∧ ∀ i k, i < n → k < n → D.getD (i * n + k) 0 = enc (f i k)
def upd (f : Nat → Nat → Int) (i k : Nat) (v : Int) : Nat → Nat → Int := fun i' k' => if i = i' ∧ k = k' then v else f i' k'
theorem RSt.set {n : Nat} {f : Nat → Nat → Int} {D : List Int} (h : RSt n f D) {i k : Nat} (hi : i < n) (hk : k < n) (v : Int) : RSt n (upd f i k v) (D.set (i * n + k) (enc v)) := by
 refine ⟨by simpa using h.1, fun i' k' hi' hk' => ?_⟩
 rw [getD_set _ _ _ _ _ (by rw [h.1]; exact idx_lt hi hk), h.2 i' k' hi' hk']
 unfold upd
 by_cases e : i = i' ∧ k = k'
 ·rw [if_pos e, if_pos ((idx_inj hk hk').mpr e)]
 ·rw [if_neg e, if_neg (fun x => e ((idx_inj hk hk').mp x))]
theorem RSt.congr {n : Nat} {f g : Nat → Nat → Int} {D : List Int} (h : RSt n f D) (e : ∀ i k, i < n → k < n → f i k = g i k) : RSt n g D :=
 ⟨h.1, fun i k hi hk => by rw [h.2 i k hi hk, e i k hi hk]⟩
theorem mn_enc {a b : Int} (ha : a = -1 ∨ (0 ≤ a ∧ a < 1152921504606846976)) (hb : 0 ≤ b ∧ b < 1152921504606846976) : mn (enc a) b = enc (lst a b) := by
 unfold mn enc lst
 by_cases h : a = -1
 ·rw [if_pos h, if_pos h, if_pos (by omega), if_neg (by omega)]
 ·rw [if_neg h, if_neg h, if_neg (show ¬ b = -1 by omega)]
  split
  ·rw [if_neg (by omega)]
  ·rfl
/-- in round m, before place (i, x). -/
def mix (f : Nat → Nat → Int) (m i x : Nat) : Nat → Nat → Int := fun i' k' => if i' < i ∨ (i' = i ∧ k' < x) then fwS f m i' k' else f i' k'
theorem rdist_l4 {n : Nat} (hn : n ≤ 48) {f : Nat → Nat → Int} (hf : NN n 352800 f) {m i : Nat} (hm : m < n) (hi : i < n) (P : List Int → Prop)
  (hk : ∀ D, RSt n (mix f m (i + 1) 0) D → ∃ r, Ev (fun k => railplanref19_distances.l3 k n D m ((i + 1 : Nat) : Int)) r ∧ P r) (d : Nat) :
  ∀ (D : List Int) (x : Nat), n - x = d → x ≤ n → RSt n (mix f m i x) D → ∃ r, Ev (fun k => railplanref19_distances.l4 k n D m i x) r ∧ P r := by
 induction d with
 | zero =>
  intro D x hd hx hS
  obtain ⟨r, hr, hP⟩ := hk D (hS.congr (fun i' k' hi' hk' => by
   unfold mix
   by_cases e : i' < i ∨ i' = i ∧ k' < x
   ·rw [if_pos e, if_pos (by omega)]
   ·rw [if_neg e, if_neg (by omega)]))
  have ex : Aside0 (wrap64 ((i : Int) + 1) = ((i + 1 : Nat) : Int)) := ⟨by rw [wrap64_id (by omega) (by omega)]; rfl⟩
  have q : ¬ (x : Int) < (n : Int) := by omega
  refine ⟨r, Ev.step (fun k => ?_) hr, hP⟩
  simp only [railplanref19_distances.l4]
  rw [if_neg q, ex.out]
 | succ d ih =>
  intro D x hd hx hS
  have hx' : x < n := by omega
  have keep : fwS f m i x = f i x → RSt n (mix f m i (x + 1)) D := by
   intro e
   clear ih hk
   refine hS.congr (fun i' k' hi' hk' => ?_)
   unfold mix
   by_cases e4 : i' < i ∨ i' = i ∧ k' < x
   ·rw [if_pos e4, if_pos (by omega)]
   ·rw [if_neg e4]
    by_cases e5 : i' = i ∧ k' = x
    ·rw [if_pos (by omega), e5.1, e5.2, e]
    ·rw [if_neg (by omega)]
  have up : ∀ {v : Int}, fwS f m i x = v → RSt n (mix f m i (x + 1)) (D.set (i * n + x) (enc v)) := by
   intro v e
   clear ih hk keep
   refine (hS.set hi hx' v).congr (fun i' k' hi' hk' => ?_)
   unfold upd mix
   by_cases e5 : i = i' ∧ x = k'
   ·rw [if_pos e5, if_pos (by omega), ← e5.1, ← e5.2, e]
   ·rw [if_neg e5]
    by_cases e4 : i' < i ∨ i' = i ∧ k' < x
    ·rw [if_pos e4, if_pos (by omega)]
    ·rw [if_neg e4, if_neg (by omega)]
  have e1 : rd D ((i * n + m : Nat) : Int) = enc (f i m) := by
   unfold rd
   rw [Int.toNat_natCast, hS.2 i m hi hm]
   unfold mix
   split
   ·rw [fwS_col hf hm hi]
   ·rfl
  have e2 : rd D ((m * n + x : Nat) : Int) = enc (f m x) := by
   unfold rd
   rw [Int.toNat_natCast, hS.2 m x hm hx']
   unfold mix
   split
   ·rw [fwS_row hf hm hx']
   ·rfl
  have e3 : rd D ((i * n + x : Nat) : Int) = enc (f i x) := by
   unfold rd
   rw [Int.toNat_natCast, hS.2 i x hi hx']
   unfold mix
   rw [if_neg (by omega)]
  have b1 := hf i m hi hm
  have b2 := hf m x hm hx'
  have b3 := hf i x hi hx'
  have hl := hS.1
  have j1 := idx_lt hi hm
  have j2 := idx_lt hm hx'
  have j3 := idx_lt hi hx'
  have sq := sq_le hn
  have ex : Aside0 (wrap64 ((x : Int) + 1) = ((x + 1 : Nat) : Int)) := ⟨by rw [wrap64_id (by omega) (by omega)]; rfl⟩
  have q1 : (x : Int) < (n : Int) := by omega
  have c1 : (0 : Int) ≤ ((i * n + m : Nat) : Int) := by omega
  have c2 : ((i * n + m : Nat) : Int) < ((n * n : Nat) : Int) := by omega
  have c3 : (0 : Int) ≤ ((m * n + x : Nat) : Int) := by omega
  have c4 : ((m * n + x : Nat) : Int) < ((n * n : Nat) : Int) := by omega
  have c5 : (0 : Int) ≤ ((i * n + x : Nat) : Int) := by omega
  have c6 : ((i * n + x : Nat) : Int) < ((n * n : Nat) : Int) := by omega
  have w1 := Aside0.mk (idx_wrap hn hi hm)
  have w2 := Aside0.mk (idx_wrap hn hm hx')
  have w3 := Aside0.mk (idx_wrap hn hi hx')
  by_cases h1 : f i m = -1
  ·obtain ⟨r, hr, hP⟩ := ih D (x + 1) (by omega) (by omega) (keep (by unfold fwS; rw [if_pos h1]))
   have g1 : ¬ enc (f i m) < 1152921504606846976 := by unfold enc; rw [if_pos h1]; omega
   refine ⟨r, Ev.step (fun k => ?_) hr, hP⟩
   simp only [railplanref19_distances.l4]
   rw [if_pos q1, w1.out, if_pos c1, hl, if_pos c2, e1, if_neg g1, ex.out]
  ·have g1 : enc (f i m) < 1152921504606846976 := by unfold enc; rw [if_neg h1]; omega
   by_cases h2 : f m x = -1
   ·obtain ⟨r, hr, hP⟩ := ih D (x + 1) (by omega) (by omega) (keep (by unfold fwS; rw [if_neg h1, if_pos h2]))
    have g2 : ¬ enc (f m x) < 1152921504606846976 := by unfold enc; rw [if_pos h2]; omega
    refine ⟨r, Ev.step (fun k => ?_) hr, hP⟩
    simp only [railplanref19_distances.l4]
    rw [if_pos q1, w1.out, if_pos c1, hl, if_pos c2, e1, if_pos g1, w2.out, if_pos c3, if_pos c4, e2, if_neg g2, ex.out]
   ·have g2 : enc (f m x) < 1152921504606846976 := by unfold enc; rw [if_neg h2]; omega
    have e6 : fwS f m i x = lst (f i x) (f i m + f m x) := by unfold fwS; rw [if_neg h1, if_neg h2]
    obtain ⟨r, hr, hP⟩ := ih _ (x + 1) (by omega) (by omega) (up e6)
    have ew : Aside0 (wrap64 (enc (f i m) + enc (f m x)) = f i m + f m x) := ⟨by unfold enc; rw [if_neg h1, if_neg h2, wrap64_id (by omega) (by omega)]⟩
    have em := mn_enc (a := f i x) (b := f i m + f m x) (by omega) (by omega)
    refine ⟨r, Ev.step (fun k => ?_) hr, hP⟩
    simp only [railplanref19_distances.l4]
    rw [if_pos q1, w1.out, if_pos c1, hl, if_pos c2, e1, if_pos g1, w2.out, if_pos c3, if_pos c4, e2, if_pos g2, w3.out, if_pos c5, if_pos c6, e3, ew.out, em, ex.out]
    simp only [Int.toNat_natCast]
theorem rdist_l3 {n : Nat} (hn : n ≤ 48) {f : Nat → Nat → Int} (hf : NN n 352800 f) {m : Nat} (hm : m < n) (P : List Int → Prop)
  (hk : ∀ D, RSt n (fwS f m) D → ∃ r, Ev (fun k => railplanref19_distances.l2 k n D ((m + 1 : Nat) : Int)) r ∧ P r) (d : Nat) :
  ∀ (D : List Int) (i : Nat), n - i = d → i ≤ n → RSt n (mix f m i 0) D → ∃ r, Ev (fun k => railplanref19_distances.l3 k n D m i) r ∧ P r := by
 induction d with
 | zero =>
  intro D i hd hi hS
  obtain ⟨r, hr, hP⟩ := hk D (hS.congr (fun i' k' hi' hk' => by unfold mix; rw [if_pos (by omega)]))
  have ex : Aside0 (wrap64 ((m : Int) + 1) = ((m + 1 : Nat) : Int)) := ⟨by rw [wrap64_id (by omega) (by omega)]; rfl⟩
  have q : ¬ (i : Int) < (n : Int) := by omega
  refine ⟨r, Ev.step (fun k => ?_) hr, hP⟩
  simp only [railplanref19_distances.l3]
  rw [if_neg q, ex.out]
 | succ d ih =>
  intro D i hd hi hS
  have hi' : i < n := by omega
  obtain ⟨r, hr, hP⟩ := rdist_l4 hn hf hm hi' P (fun D' hS' => ih D' (i + 1) (by omega) (by omega) hS') n D 0 (by omega) (by omega) hS
  have q : (i : Int) < (n : Int) := by omega
  refine ⟨r, Ev.step (fun k => ?_) hr, hP⟩
  simp only [railplanref19_distances.l3]
  rw [if_pos q]
  rfl
theorem rdist_l2 {n : Nat} (hn : n ≤ 48) {f : Nat → Nat → Int} (hf : NN n 7200 f) (d : Nat) :
  ∀ (D : List Int) (m : Nat), n - m = d → m ≤ n → RSt n (fw f m) D → ∃ r, Ev (fun k => railplanref19_distances.l2 k n D m) r ∧ RSt n (fw f n) r := by
 induction d with
 | zero =>
  intro D m hd hm hS
  obtain rfl : m = n := by omega
  refine ⟨D, ⟨1, fun k hk => ?_⟩, hS⟩
  obtain ⟨k, rfl⟩ : ∃ m, k = m + 1 := ⟨k - 1, by omega⟩
  simp only [railplanref19_distances.l2]
  rw [if_neg (by omega)]
 | succ d ih =>
  intro D m hd hm hS
  have hm' : m < n := by omega
  obtain ⟨r, hr, hP⟩ := rdist_l3 hn (fw_NN2 hn hf m hm) hm' _ (fun D' hS' => ih D' (m + 1) (by omega) (by omega) hS') n D 0 (by omega) (by omega) (hS.congr (fun i k hi hk => by unfold mix; rw [if_neg (by omega)]))
  have q : (m : Int) < (n : Int) := by omega
  refine ⟨r, Ev.step (fun k => ?_) hr, hP⟩
  simp only [railplanref19_distances.l2]
  rw [if_pos q]
  rfl
theorem rdist_l1 {per : Int} {ev : List S59} {acts : List S40} {t : List Int} (hv : NV per ev acts) (ht : GoodT per ev.length t) (d : Nat) :
  ∀ (D : List Int) (j : Nat), acts.length - j = d → j ≤ acts.length → RSt ev.length ((acts.take j).foldl (addA per t) (fun _ _ => -1)) D →
  ∃ r, Ev (fun k => railplanref19_distances.l1 k t ev.length D acts.length j per ev acts) r ∧ RSt ev.length (fw (edges per t acts) ev.length) r := by
 induction d with
 | zero =>
  intro D j hd hj hE
  obtain rfl : j = acts.length := by omega
  rw [List.take_length] at hE
  obtain ⟨r, hr, hP⟩ := rdist_l2 hv.e1 (edges_NN hv.p0 hv.p1 acts) ev.length D 0 (by omega) (by omega) hE
  refine ⟨r, Ev.step (fun k => ?_) hr, hP⟩
  simp only [railplanref19_distances.l1]
  rw [if_neg (by omega)]
  rfl
 | succ d ih =>
  intro D j hd hj hE
  have hj' : j < acts.length := by omega
  have hmem : acts.getD j z40 ∈ acts := getD_mem hj'
  have htk : acts.take (j + 1) = acts.take j ++ [acts.getD j z40] := by
   rw [getD_at z40 hj', List.take_succ_eq_append_getElem hj']
  have a1 := hv.a1
  have ex : Aside0 (wrap64 ((j : Int) + 1) = ((j + 1 : Nat) : Int)) := ⟨by rw [wrap64_id (by omega) (by omega)]; rfl⟩
  have q1 : (j : Int) < (acts.length : Int) := by omega
  have q2 : (0 : Int) ≤ (j : Int) := by omega
  have hl := hE.1
  have hN : NN ev.length 7200 ((acts.take j).foldl (addA per t) (fun _ _ => -1)) := edges_NN (t := t) hv.p0 hv.p1 (acts.take j)
  obtain ⟨h1, h2, h3, h4, h5, h6, h7, h8, _⟩ := hv.ok _ hmem
  have hs := rLasts_some hv ht _ hmem
  have hsr := sl_range t (acts.getD j z40) hv.p0
  have p1 := hv.p1
  have erd : rd_T40 acts (j : Int) = acts.getD j z40 := by simp [rd_T40]
  generalize acts.getD j z40 = a at *
  generalize hG : (acts.take j).foldl (addA per t) (fun _ _ => -1) = g at *
  by_cases h0 : a.f0 = 5
  ·obtain ⟨r, hr, hP⟩ := ih D (j + 1) (by omega) (by omega) (hE.congr (fun i k hi hk => by
    rw [htk, List.foldl_append, hG]
    simp only [List.foldl_cons, List.foldl_nil]
    rw [addA_5 h0]))
   refine ⟨r, Ev.step (fun k => ?_) hr, hP⟩
   simp only [railplanref19_distances.l1]
   rw [erd, if_pos q1, if_pos q2, if_pos q1, if_pos h0, ex.out]
  ·obtain ⟨u, hu⟩ := Int.eq_ofNat_of_zero_le h1
   obtain ⟨v, hv'⟩ := Int.eq_ofNat_of_zero_le h3
   have hun : u < ev.length := by omega
   have hvn : v < ev.length := by omega
   obtain ⟨r, hr, hP⟩ := ih (D.set (u * ev.length + v) (enc (lst (g u v) (sl per t a)))) (j + 1) (by omega) (by omega) ((hE.set hun hvn _).congr (fun i k hi hk => by
    rw [htk, List.foldl_append, hG]
    simp only [List.foldl_cons, List.foldl_nil]
    rw [addA_ne h0]
    unfold upd
    by_cases e : u = i ∧ v = k
    ·rw [if_pos e, if_pos (by omega), e.1, e.2]
    ·rw [if_neg e, if_neg (by omega)]))
   have b := hN u v hun hvn
   have e1 : rd D ((u * ev.length + v : Nat) : Int) = enc (g u v) := by unfold rd; rw [Int.toNat_natCast, hE.2 u v hun hvn]
   have j1 := idx_lt hun hvn
   have c1 : (0 : Int) ≤ ((u * ev.length + v : Nat) : Int) := by omega
   have c2 : ((u * ev.length + v : Nat) : Int) < ((ev.length * ev.length : Nat) : Int) := by omega
   have w1 := Aside0.mk (idx_wrap hv.e1 hun hvn)
   have w2 : Aside0 (wrap64 (a.f3 + sl per t a - a.f3) = sl per t a) := ⟨by rw [wrap64_id (by omega) (by omega)]; omega⟩
   have em := mn_enc (a := g u v) (b := sl per t a) (by omega) (by omega)
   refine ⟨r, Ev.step (fun k => ?_) hr, hP⟩
   simp only [railplanref19_distances.l1]
   rw [erd, if_pos q1, if_pos q2, if_pos q1, if_neg h0, hs, hu, hv', w1.out, if_pos c1, hl, if_pos c2]
   simp only [Option.bind_some]
   rw [e1, w2.out, em, ex.out]
   simp only [Int.toNat_natCast]
theorem rdist_l0 {per : Int} {ev : List S59} {acts : List S40} {t : List Int} (hv : NV per ev acts) (ht : GoodT per ev.length t) (d : Nat) :
  ∀ (D : List Int) (x : Nat), ev.length * ev.length - x = d → x ≤ ev.length * ev.length → D.length = ev.length * ev.length → (∀ q, q < x → D.getD q 0 = 1152921504606846976) →
  ∃ r, Ev (fun k => railplanref19_distances.l0 k t ev.length D ((ev.length * ev.length : Nat) : Int) x per ev acts) r ∧ RSt ev.length (fw (edges per t acts) ev.length) r := by
 have sq := sq_le hv.e1
 induction d with
 | zero =>
  intro D x hd hx hl hz
  obtain ⟨r, hr, hP⟩ := rdist_l1 hv ht acts.length D 0 (by omega) (by omega) ⟨hl, fun i k hi hk => by
   rw [hz _ (by have := idx_lt hi hk; omega)]
   rfl⟩
  refine ⟨r, Ev.step (fun k => ?_) hr, hP⟩
  simp only [railplanref19_distances.l0]
  rw [if_neg (by omega)]
  rfl
 | succ d ih =>
  intro D x hd hx hl hz
  obtain ⟨r, hr, hP⟩ := ih (D.set x 1152921504606846976) (x + 1) (by omega) (by omega) (by simpa using hl) (fun q hq => by
   rw [getD_set _ _ _ _ _ (by omega)]
   by_cases e : x = q
   ·rw [if_pos e]
   ·rw [if_neg e]; exact hz q (by omega))
  have ex : Aside0 (wrap64 ((x : Int) + 1) = ((x + 1 : Nat) : Int)) := ⟨by rw [wrap64_id (by omega) (by omega)]; rfl⟩
  have q1 : (x : Int) < ((ev.length * ev.length : Nat) : Int) := by omega
  have q2 : (0 : Int) ≤ (x : Int) := by omega
  refine ⟨r, Ev.step (fun k => ?_) hr, hP⟩
  simp only [railplanref19_distances.l0]
  rw [if_pos q1, if_pos q2, hl, if_pos q1, ex.out]
  simp only [Int.toNat_natCast]
theorem rdistances_ev {per : Int} {ev : List S59} {acts : List S40} {t : List Int} (hv : NV per ev acts) (ht : GoodT per ev.length t) :
  ∃ D, Ev (fun k => railplanref19_distances.f k per ev acts t) D ∧ RSt ev.length (F per ev.length acts t) D := by
 have sq := sq_le hv.e1
 obtain ⟨r, hE, hP⟩ := rdist_l0 hv ht (ev.length * ev.length) (List.replicate (ev.length * ev.length) 0) 0 (by omega) (by omega) (by simp) (fun q h => by omega)
 refine ⟨r, Ev.congr (fun k => ?_) hE, hP⟩
 have e : (ev.length : Int) * (ev.length : Int) = ((ev.length * ev.length : Nat) : Int) := by simp
 unfold railplanref19_distances.f
 rw [e, wrap64_id (by omega) (by omega), if_pos (by omega), if_pos (by omega)]
 simp only [Option.bind_some, Int.toNat_natCast, List.length_replicate]
 rfl
end Go.Proofs.Ytfipfobadpealaa.Pure
