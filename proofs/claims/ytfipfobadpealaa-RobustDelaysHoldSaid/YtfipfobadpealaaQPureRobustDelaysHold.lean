/-
  The law RobustDelaysHold of layer 22 returns true for every input: the delays of Spread satisfy every activity that passes them on. Conditions: none beyond the given statement.
-/
import Derived.Test.YtfipfobadpealaaQPlH
import Derived.Test.YtfipfobadpealaaKW0
import Derived.Test.YtfipfobadpealaaKS
import Derived.Test.YtfipfobadpealaaK12
import Derived.Test.YtfipfobadpealaaK23
namespace Go.Proofs.Ytfipfobadpealaa.Pure
open Go.RowKit Go.Proofs.Ytfipfobadpealaa.PAll Go.Proofs.YtfipfobadpealaaW.PrintWords Go.Proofs.YtfipfobadpealaaW.PrintLast
set_option linter.unusedVariables false

theorem hold_l0 {per : Int} {ev : List S59} {acts : List S40} {t : List Int} (hv : NV per ev acts) (ht : GoodT per ev.length t) (r : List Int) (hr : r.length = ev.length) (hr0 : ∀ k, k < ev.length → 0 ≤ r.getD k 0 ∧ r.getD k 0 ≤ 65536)
  (h : ∀ a ∈ acts, a.f0 ≠ 5 → rd r a.f1 - sl per t a ≤ rd r a.f2) (d : Nat) :
  ∀ x : Nat, acts.length - x = d → x ≤ acts.length → Ev (fun k => railplanlaw22_RobustDelaysHold.l0 k t r acts.length x per ev acts) true := by
 induction d with
 | zero =>
  intro x hd hx
  refine Ev.step (f := fun k => (railplanlaw22_awake.f k).bind fun t => some t) (fun k => ?_) (Ev.bind awake_ev (Ev.now true))
  have q : ¬ (x : Int) < (acts.length : Int) := by omega
  simp only [railplanlaw22_RobustDelaysHold.l0]
  rw [if_neg q]
 | succ d ih =>
  intro x hd hx
  have hx' : x < acts.length := by omega
  have q1 : (x : Int) < (acts.length : Int) := by omega
  have q2 : (0 : Int) ≤ (x : Int) := by omega
  have a1 := hv.a1
  have ex : Aside0 (wrap64 ((x : Int) + 1) = ((x + 1 : Nat) : Int)) := ⟨by rw [wrap64_id (by omega) (by omega)]; rfl⟩
  have hmem : acts.getD x z40 ∈ acts := getD_mem hx'
  obtain ⟨K, hK⟩ := duration_ev hv ht hx'
  dsimp only at hK
  obtain ⟨K2, hE⟩ := ih (x + 1) (by omega) (by omega)
  dsimp only at hE
  have hh := h _ hmem
  obtain ⟨b1, b2, b3, b4, b5, b6, b7, b8, b9, _⟩ := hv.ok _ hmem
  have hs := sl_range t (acts.getD x z40) hv.p0
  have p1 := hv.p1
  have erd : rd_T40 acts (x : Int) = acts.getD x z40 := by simp [rd_T40]
  generalize acts.getD x z40 = a at *
  have e1 : 0 ≤ rd r a.f1 ∧ rd r a.f1 ≤ 65536 := by unfold rd; exact hr0 _ (by omega)
  have e2 : 0 ≤ rd r a.f2 ∧ rd r a.f2 ≤ 65536 := by unfold rd; exact hr0 _ (by omega)
  have c1 : a.f1 < (ev.length : Int) := b2
  have c2 : a.f2 < (ev.length : Int) := b4
  have n0 : ¬ rd r a.f2 < 0 := by omega
  refine ⟨K + K2 + 1, fun k hk => ?_⟩
  obtain ⟨k, rfl⟩ : ∃ m, k = m + 1 := ⟨k - 1, by omega⟩
  have E := hE k (by omega)
  have D := hK k (by omega)
  simp only [railplanlaw22_RobustDelaysHold.l0]
  rw [erd, if_pos q1, if_pos q2, if_pos q1, hr]
  by_cases h0 : a.f0 = 5
  ·rw [if_pos h0, if_pos b3, if_pos c2, if_neg n0, ex.out]
   exact E
  ·have hle := hh h0
   have w1 : Aside0 (wrap64 (a.f3 + sl per t a - a.f3) = sl per t a) := ⟨by rw [wrap64_id (by omega) (by omega)]; omega⟩
   have w2 : Aside0 (wrap64 (rd r a.f1 - sl per t a) = rd r a.f1 - sl per t a) := ⟨wrap64_id (by omega) (by omega)⟩
   have n1 : ¬ rd r a.f2 < rd r a.f1 - sl per t a := by omega
   rw [if_neg h0, if_pos b3, if_pos c2, if_pos b1, if_pos c1, D]
   simp only [Option.bind_some]
   rw [w1.out, w2.out, if_neg n1, if_neg n0, ex.out]
   exact E
theorem RobustDelaysHold : railplanlaw22_RobustDelaysHold.Pure := by
 intro l0 l1 a2 a3 m0 h0 _ m1 h1 _ _ _
 obtain ⟨per, ev, acts, ⟨K1, E1⟩, hW⟩ := wide_ev l0 (by omega)
 obtain ⟨t, ⟨K2, E2⟩, hT⟩ := times_ev l1 (by omega) hW.toNetOk
 have he0 := hW.e0; have he1 := hW.e1
 obtain ⟨i, ei, i0, i1⟩ := pick_some a2 (ev.length : Int) (by omega) (by omega)
 obtain ⟨d, ed, d0, d1⟩ := pick_some a3 60 (by omega) (by omega)
 obtain ⟨i, rfl⟩ := Int.eq_ofNat_of_zero_le i0
 have hF := hW.feas hT
 have hi : i < ev.length := by omega
 obtain ⟨r, ⟨K3, E3⟩, hr1, hr2⟩ := spread_ev hF hi (delay := d) (by omega) (by omega)
 have nn := F_NN (t := t) hF.1
 have hb : ∀ k, k < ev.length → 0 ≤ r.getD k 0 ∧ r.getD k 0 ≤ 65536 := fun k hk => by
  rw [hr2 k hk]
  have n1 := nn i k hi hk
  unfold dl dl0 mx
  split
  ·omega
  ·split
   ·omega
   ·split <;> omega
 obtain ⟨K5, E5⟩ := hold_l0 hF.1 hT r hr1 hb (fun a ha h0 => by
  obtain ⟨b1, b2, b3, b4, b5, _⟩ := hF.1.ok a ha
  have hs := sl_range t a hF.1.p0
  obtain ⟨u, hu⟩ := Int.eq_ofNat_of_zero_le b1
  obtain ⟨v, hv⟩ := Int.eq_ofNat_of_zero_le b3
  have hun : u < ev.length := by omega
  have hvn : v < ev.length := by omega
  obtain ⟨⟨g1, g2⟩, g3⟩ := F_act t hF.1 ha h0 hi hu hv
  have n1 := nn i u hi hun
  have n2 := nn i v hi hvn
  have n3 := nn u v hun hvn
  rw [hu, hv]
  unfold rd
  rw [Int.toNat_natCast, Int.toNat_natCast, hr2 u hun, hr2 v hvn]
  have huv : u ≠ v := by omega
  have h1 : i = u → F per ev.length acts t i v ≠ -1 ∧ F per ev.length acts t i v ≤ sl per t a := fun e => by subst e; exact ⟨g1, g2⟩
  unfold dl dl0 mx
  generalize F per ev.length acts t i u = fu at *
  generalize F per ev.length acts t i v = fv at *
  by_cases e1 : i = v
  ·rw [if_neg (show ¬ i = u by omega), if_pos e1]
   split
   ·omega
   ·split <;> omega
  ·rw [if_neg e1]
   by_cases e2 : i = u
   ·obtain ⟨f1, f2⟩ := h1 e2
    rw [if_pos e2, if_neg f1]
    split <;> omega
   ·rw [if_neg e2]
    by_cases e3 : fu = -1
    ·rw [if_pos e3]
     split
     ·omega
     ·split <;> omega
    ·obtain ⟨f1, f2⟩ := g3 e3
     rw [if_neg e3, if_neg f1]
     split <;> split <;> omega) acts.length 0 (by omega) (by omega)
 dsimp only at E1 E2 E3 E5
 have e6 : (rd r (i : Int) != d) = false := by
  unfold rd
  rw [Int.toNat_natCast, hr2 i hi]
  unfold dl
  simp
 obtain ⟨K, hK⟩ : ∃ K, K = K1 + K2 + K3 + K5 := ⟨_, rfl⟩
 have q1 : (0 : Int) ≤ (i : Int) := by omega
 have q2 : (i : Int) < (ev.length : Int) := by omega
 refine ⟨K + 1, ?_⟩
 unfold railplanlaw22_RobustDelaysHold.f
 rw [E1 _ (by omega)]; simp only [Option.bind_some]
 rw [E2 _ (by omega)]; simp only [Option.bind_some]
 rw [ei]; simp only [Option.bind_some]
 rw [ed]; simp only [Option.bind_some]
 rw [E3 _ (by omega)]; simp only [Option.bind_some, if_true]
 rw [hr1, if_pos rfl, if_pos q1, if_pos q2, e6]
 simp only [railplanlaw22_RobustDelaysHold.j0]
 rw [if_neg (by simp)]
 exact E5 K (by omega)
end Go.Proofs.Ytfipfobadpealaa.Pure
