import Derived.Test.YtiohandkjjmemaaQPlD
import Derived.Test.YtiohandkjjmemaaKW0
import Derived.Test.YtiohandkjjmemaaKS
import Derived.Test.YtiohandkjjmemaaK8
import Derived.Test.YtiohandkjjmemaaK10
import Derived.Test.YtiohandkjjmemaaK12
import Derived.Test.YtiohandkjjmemaaK13
namespace Go.Proofs.Ytiohandkjjmemaa.Pure
open Go.RowKit Go.Proofs.Ytiohandkjjmemaa.PAll Go.Proofs.YtiohandkjjmemaaW.PrintWords Go.Proofs.YtiohandkjjmemaaW.PrintLast
set_option linter.unusedVariables false

theorem cMerge_l2 (c m : List S27) (hc : c.length ≤ 5) (hm : m.length ≤ 32) (hcov : ∀ r t, Cov m r t ↔ Cov c r t) (r : Int) (hr : 0 ≤ r ∧ r < 6) (H : Ev (fun k => railplanlaw25_ClosureMerge.l1 k c m (r + 1)) true) (d : Nat) : ∀ s : Int, s + d = 95 → 0 ≤ s → Ev (fun k => railplanlaw25_ClosureMerge.l2 k c m r s) true := by
 induction d with
 | zero =>
  intro s hs h0
  refine Ev.step (fun k => ?_) H
  simp only [railplanlaw25_ClosureMerge.l2]
  rw [if_neg (by omega), wrap64_id (by omega) (by omega)]
 | succ d ih =>
  intro s hs h0
  have E1 := open_ev c (by omega) r s
  have E2 := open_ev m (by omega) r s
  have E3 := ropen_ev c (by omega) r s
  have e : opn m r s = opn c r s := by rw [Bool.eq_iff_iff, opn_iff, opn_iff, hcov]
  rw [e] at E2
  refine Ev.step (f := fun k => (closure_Open.f k c r s).bind fun t242 => ((closure_Open.f k m r s).bind fun t243 => (if (t242 != t243) = true then (none) else ((closure_Open.f k c r s).bind fun t244 => ((railplanref24_Open.f k c r s).bind fun t245 => (if (t244 != t245) = true then (none) else (railplanlaw25_ClosureMerge.l2 k c m r (s + 1)))))))) (fun k => ?_) (Ev.bind E1 (Ev.bind E2 ?_))
  ·simp only [railplanlaw25_ClosureMerge.l2]
   rw [if_pos (by omega), wrap64_id (by omega) (by omega)]
  ·simp only [bne_self_eq_false, Bool.false_eq_true, if_false]
   refine Ev.bind E1 (Ev.bind E3 ?_)
   simp only [bne_self_eq_false, Bool.false_eq_true, if_false]
   exact ih (s + 1) (by omega) (by omega)
theorem cMerge_l1 (c m : List S27) (hc : c.length ≤ 5) (hm : m.length ≤ 32) (hcov : ∀ r t, Cov m r t ↔ Cov c r t) (d : Nat) : ∀ r : Int, r + d = 6 → 0 ≤ r → Ev (fun k => railplanlaw25_ClosureMerge.l1 k c m r) true := by
 induction d with
 | zero =>
  intro r hr h0
  refine Ev.step (f := fun k => (railplanlaw25_awake.f k).bind fun t => some t) (fun k => ?_) (Ev.bind awake_ev (Ev.now _))
  simp only [railplanlaw25_ClosureMerge.l1]
  rw [if_neg (by omega)]
 | succ d ih =>
  intro r hr h0
  refine Ev.step (fun k => ?_) (cMerge_l2 c m hc hm hcov r ⟨h0, by omega⟩ (ih (r + 1) (by omega) (by omega)) 95 0 (by omega) (by omega))
  simp only [railplanlaw25_ClosureMerge.l1]
  rw [if_pos (by omega)]
theorem cMerge_l0 (c m : List S27) (hm : m.length ≤ 32) (hs : Sep m) (H : Ev (fun k => railplanlaw25_ClosureMerge.l1 k c m 0) true) (d : Nat) : ∀ i : Int, max (m.length : Int) 1 - i = d → 1 ≤ i → Ev (fun k => railplanlaw25_ClosureMerge.l0 k c m i) true := by
 induction d with
 | zero =>
  intro i hi h1
  refine Ev.step (fun k => ?_) H
  simp only [railplanlaw25_ClosureMerge.l0]
  rw [if_neg (by omega)]
 | succ d ih =>
  intro i hi h1
  have w : wrap64 (i - 1) = i - 1 := wrap64_id (by omega) (by omega)
  have w1 : wrap64 (i + 1) = i + 1 := wrap64_id (by omega) (by omega)
  have hr : Rel (rd_T27 m (i - 1)) (rd_T27 m i) := by
   have g : ∀ j : Int, 0 ≤ j → (hj : j.toNat < m.length) → rd_T27 m j = m[j.toNat] := fun j _ hj => by
    unfold rd_T27
    simp [List.getD, List.getElem?_eq_getElem hj]
   rw [g (i - 1) (by omega) (by omega), g i (by omega) (by omega)]
   exact List.pairwise_iff_getElem.mp hs (i - 1).toNat i.toNat (by omega) (by omega) (by omega)
  refine Ev.step (fun k => ?_) (ih (i + 1) (by omega) (by omega))
  simp only [railplanlaw25_ClosureMerge.l0]
  rw [if_pos (by omega), if_pos (by omega), w, if_pos (by omega), if_pos (by omega), w1]
  rcases hr with h | ⟨h, h'⟩
  ·rw [if_neg (by omega), if_neg (by omega)]
  ·rw [if_neg (by omega), if_pos h.symm, if_neg (by omega)]
theorem ClosureMerge : railplanlaw25_ClosureMerge.Pure := by
 intro l0 _ h8 _
 obtain ⟨c, hE, hc, hg⟩ := closures_ev l0 (by omega)
 obtain ⟨m, h1, h2, h3, h4⟩ := merge_ev c (gen_VL hc hg)
 obtain ⟨m', g1, g2, g3, g4⟩ := merge_ev m h3
 have e : m' = m := sep_uniq m' m g2 h2 (ok_lt g3) (ok_lt h3) g4
 subst e
 refine Ev.rounds (g := fun k => railplanlaw25_ClosureMerge.f k l0) (Ev.bind hE (Ev.bind h1 (Ev.bind (check_true _ h3) ?_)))
 simp only [if_true]
 refine Ev.bind g1 (Ev.bind (same_ev _ h3.1) (Ev.step (fun k => ?_) (cMerge_l0 c m' h3.1 h2 (cMerge_l1 c m' hc h3.1 h4 6 0 (by omega) (by omega)) (max (m'.length : Int) 1 - 1).toNat 1 (by omega) (by omega))))
 simp only [railplanlaw25_ClosureMerge.j0]
 rw [if_neg (by simp)]

end Go.Proofs.Ytiohandkjjmemaa.Pure
