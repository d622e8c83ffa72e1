/-
  The law RobustMoreDelay of layer 22 returns true for every input: a greater delay never makes another delay smaller, and adds at most as much. Conditions: none beyond the given statement.
-/
import Derived.Test.YtfipfobadpealaaQPlG
import Derived.Test.YtfipfobadpealaaKW0
import Derived.Test.YtfipfobadpealaaKS
import Derived.Test.YtfipfobadpealaaK12
import Derived.Test.YtfipfobadpealaaK25
namespace Go.Proofs.Ytfipfobadpealaa.Pure
open Go.RowKit Go.Proofs.Ytfipfobadpealaa.PAll Go.Proofs.YtfipfobadpealaaW.PrintWords Go.Proofs.YtfipfobadpealaaW.PrintLast
set_option linter.unusedVariables false

theorem dl_more (f : Nat → Int) (i : Nat) (d m : Int) (k : Nat) (hm : 0 ≤ m) (hf : f k = -1 ∨ (0 ≤ f k ∧ f k ≤ 2026619832316723200)) : dl f i d k ≤ dl f i (d + m) k ∧ dl f i (d + m) k ≤ dl f i d k + m := by
 unfold dl dl0 mx
 split
 ·omega
 ·split
  ·omega
  ·split <;> split <;> omega
theorem more_l0 (n : Nat) (hn : n ≤ 48) (m : Int) (hm0 : 0 ≤ m) (hm1 : m < 60) (a b : List Int) (ha : a.length = n) (hb : b.length = n) (h : ∀ k, k < n → a.getD k 0 ≤ b.getD k 0 ∧ b.getD k 0 ≤ a.getD k 0 + m ∧ -9223372036854775808 ≤ a.getD k 0 + m ∧ a.getD k 0 + m ≤ 9223372036854775807) (d : Nat) :
  ∀ x : Nat, n - x = d → x ≤ n → Ev (fun k => railplanlaw22_RobustMoreDelay.l0 k m a b n x) true := by
 induction d with
 | zero =>
  intro x hd hx
  refine Ev.step (f := fun k => (railplanlaw22_awake.f k).bind fun t => some t) (fun k => ?_) (Ev.bind awake_ev (Ev.now true))
  have q : ¬ (x : Int) < (n : Int) := by omega
  simp only [railplanlaw22_RobustMoreDelay.l0]
  rw [if_neg q]
 | succ d ih =>
  intro x hd hx
  have hx' : x < n := by omega
  have q1 : (x : Int) < (n : Int) := by omega
  have q2 : (0 : Int) ≤ (x : Int) := by omega
  obtain ⟨h1, h2, h3, h4⟩ := h x hx'
  have ex : Aside0 (wrap64 ((x : Int) + 1) = ((x + 1 : Nat) : Int)) := ⟨by rw [wrap64_id (by omega) (by omega)]; rfl⟩
  have ew : Aside0 (wrap64 (a.getD x 0 + m) = a.getD x 0 + m) := ⟨wrap64_id h3 h4⟩
  have ra : rd a (x : Int) = a.getD x 0 := by simp [rd]
  have rb : rd b (x : Int) = b.getD x 0 := by simp [rd]
  have n1 : ¬ b.getD x 0 < a.getD x 0 := by omega
  have n2 : ¬ b.getD x 0 > a.getD x 0 + m := by omega
  refine Ev.step (fun k => ?_) (ih (x + 1) (by omega) (by omega))
  simp only [railplanlaw22_RobustMoreDelay.l0]
  rw [if_pos q1, if_pos q2, hb, if_pos q1, ha, if_pos q1, ra, rb, if_neg n1, ew.out, if_neg n2, ex.out]
theorem RobustMoreDelay : railplanlaw22_RobustMoreDelay.Pure := by
 intro l0 l1 a2 a3 a4 m0 h0 _ m1 h1 _ _ _ _
 obtain ⟨per, ev, acts, ⟨K1, E1⟩, hW⟩ := wide_ev l0 (by omega)
 obtain ⟨t, ⟨K2, E2⟩, hT⟩ := times_ev l1 (by omega) hW.toNetOk
 have he0 := hW.e0; have he1 := hW.e1
 obtain ⟨i, ei, i0, i1⟩ := pick_some a2 (ev.length : Int) (by omega) (by omega)
 obtain ⟨d, ed, d0, d1⟩ := pick_some a3 60 (by omega) (by omega)
 obtain ⟨m, em, m0, m1⟩ := pick_some a4 60 (by omega) (by omega)
 obtain ⟨i, rfl⟩ := Int.eq_ofNat_of_zero_le i0
 have hF := hW.feas hT
 have hi : i < ev.length := by omega
 obtain ⟨r, ⟨K3, E3⟩, hr1, hr2⟩ := spread_ev hF hi (delay := d) (by omega) (by omega)
 obtain ⟨s, ⟨K4, E4⟩, hs1, hs2⟩ := spread_ev hF hi (delay := d + m) (by omega) (by omega)
 have nn := F_NN (t := t) hF.1
 obtain ⟨K5, E5⟩ := more_l0 ev.length (by omega) m m0 m1 r s hr1 hs1 (fun k hk => by
  rw [hr2 k hk, hs2 k hk]
  have n1 := nn i k hi hk
  have h := dl_more (F per ev.length acts t i) i d m k m0 n1
  have b : 0 ≤ dl (F per ev.length acts t i) i d k ∧ dl (F per ev.length acts t i) i d k ≤ 60 := by
   unfold dl dl0 mx
   split
   ·omega
   ·split
    ·omega
    ·split <;> omega
  omega) ev.length 0 (by omega) (by omega)
 have ew : Aside0 (wrap64 (d + m) = d + m) := ⟨wrap64_id (by omega) (by omega)⟩
 dsimp only at E1 E2 E3 E4 E5
 have e6 : ((r.length : Int) != (s.length : Int)) = false := by rw [hr1, hs1]; simp
 obtain ⟨K, hK⟩ : ∃ K, K = K1 + K2 + K3 + K4 + K5 := ⟨_, rfl⟩
 refine ⟨K + 1, ?_⟩
 unfold railplanlaw22_RobustMoreDelay.f
 rw [E1 _ (by omega)]; simp only [Option.bind_some]
 rw [E2 _ (by omega)]; simp only [Option.bind_some]
 rw [ei]; simp only [Option.bind_some]
 rw [ed]; simp only [Option.bind_some]
 rw [em]; simp only [Option.bind_some]
 rw [E3 _ (by omega)]; simp only [Option.bind_some]
 rw [ew.out, E4 _ (by omega)]; simp only [Option.bind_some, if_true]
 rw [e6]
 simp only [railplanlaw22_RobustMoreDelay.j0]
 rw [if_neg (by simp), hr1]
 exact E5 K (by omega)
end Go.Proofs.Ytfipfobadpealaa.Pure
