/-
  The law RobustDelaysAreLeast of layer 22 returns true for every input: every event but the first one that is delayed owes its delay to an activity whose slack is exactly used up. Conditions: none beyond the given statement.
-/
import Derived.Test.YtfipfobadpealaaQPlH
import Derived.Test.YtfipfobadpealaaKW0
import Derived.Test.YtfipfobadpealaaKS
import Derived.Test.YtfipfobadpealaaK12
import Derived.Test.YtfipfobadpealaaK24
namespace Go.Proofs.Ytfipfobadpealaa.Pure
open Go.RowKit Go.Proofs.Ytfipfobadpealaa.PAll Go.Proofs.YtfipfobadpealaaW.PrintWords Go.Proofs.YtfipfobadpealaaW.PrintLast
set_option linter.unusedVariables false

def Cause (per : Int) (t r : List Int) (a : S40) (v : Nat) : Prop := a.f0 ≠ 5 ∧ a.f2 = (v : Int) ∧ rd r (v : Int) = rd r a.f1 - sl per t a
theorem cause_l1 {per : Int} {ev : List S59} {acts : List S40} {t : List Int} (hv : NV per ev acts) (ht : GoodT per ev.length t) (r : List Int) (hr : r.length = ev.length) (hr0 : ∀ k, k < ev.length → 0 ≤ r.getD k 0 ∧ r.getD k 0 ≤ 65536) (i v : Nat) (hvn : v < ev.length)
  (hk : Ev (fun k => railplanlaw22_RobustDelaysAreLeast.l0 k i t r ev.length ((v + 1 : Nat) : Int) per ev acts) true) (d : Nat) :
  ∀ (x : Nat) (c : Bool), acts.length - x = d → x ≤ acts.length → (c = true ∨ ∃ q, x ≤ q ∧ q < acts.length ∧ Cause per t r (acts.getD q z40) v) →
  Ev (fun k => railplanlaw22_RobustDelaysAreLeast.l1 k i t r v c ev.length v acts.length x per ev acts) true := by
 induction d with
 | zero =>
  intro x c hd hx hc
  have q : ¬ (x : Int) < (acts.length : Int) := by omega
  obtain rfl : c = true := by
   rcases hc with h | ⟨q, h1, h2, _⟩
   ·exact h
   ·omega
  have e1 := hv.e1
  have ex : Aside0 (wrap64 ((v : Int) + 1) = ((v + 1 : Nat) : Int)) := ⟨by rw [wrap64_id (by omega) (by omega)]; rfl⟩
  refine Ev.step (fun k => ?_) hk
  simp only [railplanlaw22_RobustDelaysAreLeast.l1]
  rw [if_neg q, if_pos trivial, ex.out]
 | succ d ih =>
  intro x c hd hx hc
  have hx' : x < acts.length := by omega
  have q1 : (x : Int) < (acts.length : Int) := by omega
  have q2 : (0 : Int) ≤ (x : Int) := by omega
  have a1 := hv.a1
  have ex : Aside0 (wrap64 ((x : Int) + 1) = ((x + 1 : Nat) : Int)) := ⟨by rw [wrap64_id (by omega) (by omega)]; rfl⟩
  have hmem : acts.getD x z40 ∈ acts := getD_mem hx'
  have erd : rd_T40 acts (x : Int) = acts.getD x z40 := by simp [rd_T40]
  obtain ⟨K, hK⟩ := duration_ev hv ht hx'
  dsimp only at hK
  obtain ⟨b1, b2, b3, b4, b5, b6, b7, b8, b9, _⟩ := hv.ok _ hmem
  have hs := sl_range t (acts.getD x z40) hv.p0
  have p1 := hv.p1
  have ne : ¬ Cause per t r (acts.getD x z40) v → c = false → ∃ q, x + 1 ≤ q ∧ q < acts.length ∧ Cause per t r (acts.getD q z40) v := fun h hf => by
   rcases hc with h2 | ⟨q, h1, h2, h3⟩
   ·rw [hf] at h2; cases h2
   ·refine ⟨q, ?_, h2, h3⟩
    rcases (by omega : q = x ∨ x + 1 ≤ q) with e | e
    ·rw [e] at h3; exact absurd h3 h
    ·exact e
  have go := fun c' hc' => ih (x + 1) c' (by omega) (by omega) hc'
  clear ih hc
  generalize acts.getD x z40 = a at *
  cases c with
  | true =>
   refine Ev.step (fun k => ?_) (go true (.inl rfl))
   simp only [railplanlaw22_RobustDelaysAreLeast.l1]
   rw [if_pos q1, if_pos q2, if_pos q1, if_pos trivial, ex.out]
  | false =>
   by_cases h0 : a.f0 = 5
   ·refine Ev.step (fun k => ?_) (go false (.inr (ne (fun h => h.1 h0) rfl)))
    simp only [railplanlaw22_RobustDelaysAreLeast.l1]
    rw [if_pos q1, if_pos q2, if_pos q1, if_neg (by simp), erd, if_pos h0, ex.out]
   ·by_cases h2 : a.f2 = (v : Int)
    ·have e1 : 0 ≤ rd r a.f1 ∧ rd r a.f1 ≤ 65536 := by unfold rd; exact hr0 _ (by omega)
     have w1 : Aside0 (wrap64 (a.f3 + sl per t a - a.f3) = sl per t a) := ⟨by rw [wrap64_id (by omega) (by omega)]; omega⟩
     have w2 : Aside0 (wrap64 (rd r a.f1 - sl per t a) = rd r a.f1 - sl per t a) := ⟨wrap64_id (by omega) (by omega)⟩
     have c1 : a.f1 < (ev.length : Int) := b2
     have c2 : (v : Int) < (ev.length : Int) := by omega
     have c3 : (0 : Int) ≤ (v : Int) := by omega
     obtain ⟨K2, hE⟩ := go (rd r (v : Int) == rd r a.f1 - sl per t a) (by
      by_cases e : rd r (v : Int) = rd r a.f1 - sl per t a
      ·exact .inl (by simpa using e)
      ·exact .inr (ne (fun h => e h.2.2) rfl))
     dsimp only at hE
     refine ⟨K + K2 + 1, fun k hk => ?_⟩
     obtain ⟨k, rfl⟩ : ∃ m, k = m + 1 := ⟨k - 1, by omega⟩
     have E := hE k (by omega)
     have D := hK k (by omega)
     simp only [railplanlaw22_RobustDelaysAreLeast.l1]
     rw [if_pos q1, if_pos q2, if_pos q1, if_neg (by simp), erd, if_neg h0, if_pos h2, hr, if_pos c3, if_pos c2, if_pos b1, if_pos c1, D]
     simp only [Option.bind_some]
     rw [w1.out, w2.out, ex.out]
     exact E
    ·refine Ev.step (fun k => ?_) (go false (.inr (ne (fun h => h2 h.2.1) rfl)))
     simp only [railplanlaw22_RobustDelaysAreLeast.l1]
     rw [if_pos q1, if_pos q2, if_pos q1, if_neg (by simp), erd, if_neg h0, if_neg h2, ex.out]
theorem cause_l0 {per : Int} {ev : List S59} {acts : List S40} {t : List Int} (hv : NV per ev acts) (ht : GoodT per ev.length t) (r : List Int) (hr : r.length = ev.length) (hr0 : ∀ k, k < ev.length → 0 ≤ r.getD k 0 ∧ r.getD k 0 ≤ 65536) (i : Nat)
  (h : ∀ v, v < ev.length → v ≠ i → rd r (v : Int) ≠ 0 → ∃ a ∈ acts, Cause per t r a v) (d : Nat) :
  ∀ (v : Nat), ev.length - v = d → v ≤ ev.length → Ev (fun k => railplanlaw22_RobustDelaysAreLeast.l0 k i t r ev.length v per ev acts) true := by
 induction d with
 | zero =>
  intro v hd hv'
  refine Ev.step (f := fun k => (railplanlaw22_awake.f k).bind fun t => some t) (fun k => ?_) (Ev.bind awake_ev (Ev.now true))
  have q : ¬ (v : Int) < (ev.length : Int) := by omega
  simp only [railplanlaw22_RobustDelaysAreLeast.l0]
  rw [if_neg q]
 | succ d ih =>
  intro v hd hv'
  have hvn : v < ev.length := by omega
  have q1 : (v : Int) < (ev.length : Int) := by omega
  have q2 : (0 : Int) ≤ (v : Int) := by omega
  have nx := ih (v + 1) (by omega) (by omega)
  have loop := fun c hc => cause_l1 hv ht r hr hr0 i v hvn nx acts.length 0 c (by omega) (by omega) hc
  have st : ∀ c k, railplanlaw22_RobustDelaysAreLeast.j2 (k + 1) i t r v c ev.length v per ev acts = railplanlaw22_RobustDelaysAreLeast.l1 k i t r v c ev.length v acts.length ((0 : Nat) : Int) per ev acts := fun c k => by simp only [railplanlaw22_RobustDelaysAreLeast.j2]; rfl
  have jv : ∀ c, (c = true ∨ ∃ q, 0 ≤ q ∧ q < acts.length ∧ Cause per t r (acts.getD q z40) v) → Ev (fun k => railplanlaw22_RobustDelaysAreLeast.j2 k i t r v c ev.length v per ev acts) true := fun c hc => Ev.step (fun k => st c k) (loop c hc)
  by_cases e : (v : Int) = (i : Int)
  ·refine Ev.step (fun k => ?_) (jv true (.inl rfl))
   simp only [railplanlaw22_RobustDelaysAreLeast.l0]
   rw [if_pos q1, if_pos e]
  ·refine Ev.step (fun k => ?_) (jv (rd r (v : Int) == 0) ?_)
   ·simp only [railplanlaw22_RobustDelaysAreLeast.l0]
    rw [if_pos q1, if_neg e, if_pos q2, hr, if_pos q1]
   ·by_cases e2 : rd r (v : Int) = 0
    ·exact .inl (by simpa using e2)
    ·obtain ⟨a, ha, hc⟩ := h v hvn (by omega) e2
     obtain ⟨q, hq, rfl⟩ := List.mem_iff_getElem.mp ha
     exact .inr ⟨q, by omega, hq, by rw [getD_at z40 hq]; exact hc⟩
theorem RobustDelaysAreLeast : railplanlaw22_RobustDelaysAreLeast.Pure := by
 intro l0 l1 a2 a3 m0 h0 _ m1 h1 _ _ _
 obtain ⟨per, ev, acts, ⟨K1, E1⟩, hW⟩ := wide_ev l0 (by omega)
 obtain ⟨t, ⟨K2, E2⟩, hT⟩ := times_ev l1 (by omega) hW.toNetOk
 have he0 := hW.e0; have he1 := hW.e1
 obtain ⟨i, ei, i0, i1⟩ := pick_some a2 (ev.length : Int) (by omega) (by omega)
 obtain ⟨d, ed, d0, d1⟩ := pick_some a3 60 (by omega) (by omega)
 obtain ⟨i, rfl⟩ := Int.eq_ofNat_of_zero_le i0
 have hF := hW.feas hT
 have hi : i < ev.length := by omega
 obtain ⟨r, ⟨K3, E3⟩, hr1, hr2⟩ := spread_ev hF hi (delay := d) (by omega) (by omega)
 have nn := F_NN (t := t) hF.1
 have hb : ∀ k, k < ev.length → 0 ≤ r.getD k 0 ∧ r.getD k 0 ≤ 65536 := fun k hk => by
  rw [hr2 k hk]
  have n1 := nn i k hi hk
  unfold dl dl0 mx
  split
  ·omega
  ·split
   ·omega
   ·split <;> omega
 obtain ⟨K5, E5⟩ := cause_l0 hF.1 hT r hr1 hb i (fun v hv hne hz => by
  have e1 : rd r (v : Int) = dl (F per ev.length acts t i) i d v := by unfold rd; rw [Int.toNat_natCast, hr2 v hv]
  rw [e1] at hz
  have hfv : F per ev.length acts t i v ≠ -1 := fun e => hz (by unfold dl dl0; rw [if_neg (by omega), if_pos e])
  obtain ⟨a, ha, h0, h2, ⟨c1, c2⟩ | ⟨j, hj, hjn, c1, c2, c3⟩⟩ := F_cause hF.1 hi hv hfv
  ·refine ⟨a, ha, h0, h2, ?_⟩
   have e2 : rd r (i : Int) = d := by unfold rd; rw [Int.toNat_natCast, hr2 i hi]; unfold dl; rw [if_pos rfl]
   rw [e1, c1, e2]
   have n1 := nn i v hi hv
   revert hz
   unfold dl dl0 mx
   rw [if_neg (by omega), if_neg hfv]
   split <;> omega
  ·refine ⟨a, ha, h0, h2, ?_⟩
   have e2 : rd r (j : Int) = dl (F per ev.length acts t i) i d j := by unfold rd; rw [Int.toNat_natCast, hr2 j hjn]
   have hs := sl_range t a hF.1.p0
   rw [e1, c1, e2]
   have n1 := nn i v hi hv
   have n2 := nn i j hi hjn
   revert hz
   unfold dl dl0 mx
   rw [if_neg (show ¬ i = v by omega), if_neg hfv, if_neg (show ¬ i = j by omega), if_neg c2]
   split <;> split <;> omega) ev.length 0 (by omega) (by omega)
 dsimp only at E1 E2 E3 E5
 have e6 : ((r.length : Int) != (ev.length : Int)) = false := by rw [hr1]; simp
 obtain ⟨K, hK⟩ : ∃ K, K = K1 + K2 + K3 + K5 := ⟨_, rfl⟩
 refine ⟨K + 1, ?_⟩
 unfold railplanlaw22_RobustDelaysAreLeast.f
 rw [E1 _ (by omega)]; simp only [Option.bind_some]
 rw [E2 _ (by omega)]; simp only [Option.bind_some]
 rw [ei]; simp only [Option.bind_some]
 rw [ed]; simp only [Option.bind_some]
 rw [E3 _ (by omega)]; simp only [Option.bind_some, if_true]
 rw [e6]
 simp only [railplanlaw22_RobustDelaysAreLeast.j0]
 rw [if_neg (by simp), hr1]
 exact E5 K (by omega)
end Go.Proofs.Ytfipfobadpealaa.Pure
