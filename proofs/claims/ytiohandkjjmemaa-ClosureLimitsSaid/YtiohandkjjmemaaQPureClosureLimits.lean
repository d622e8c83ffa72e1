import Derived.Test.YtiohandkjjmemaaQPlD
import Derived.Test.YtiohandkjjmemaaKW0
import Derived.Test.YtiohandkjjmemaaKS
import Derived.Test.YtiohandkjjmemaaK2
import Derived.Test.YtiohandkjjmemaaK8
import Derived.Test.YtiohandkjjmemaaK9
namespace Go.Proofs.Ytiohandkjjmemaa.Pure
open Go.RowKit Go.Proofs.Ytiohandkjjmemaa.PAll Go.Proofs.YtiohandkjjmemaaW.PrintWords Go.Proofs.YtiohandkjjmemaaW.PrintLast
set_option linter.unusedVariables false

theorem vl_snoc {c : List S27} (hc : c.length ≤ 5) (hg : ∀ d ∈ c, GenC d) {x : S27} (hx : OkC x) : VL (c ++ [x]) := ⟨by simp; omega, fun d hd => by
 rcases List.mem_append.mp hd with hd | hd
 ·exact (hg d hd).ok
 ·simp at hd; subst hd; exact hx⟩
theorem cLim_l0 (n : Nat) : ∀ (m : List S27) (i : Int), m.length = 32 → 32 - i = n → 0 ≤ i → (∀ j : Nat, (j : Int) < i → ∀ h : j < m.length, m[j] = ⟨j, 0, 1⟩) →
  Ev (fun k => railplanlaw25_ClosureLimits.l0 k true false m 32 i) true := by
 induction n with
 | zero =>
  intro m i hm hi h0 hj
  have hok : ∀ d ∈ m, OkC d := fun d hd => by
   obtain ⟨j, hj', rfl⟩ := List.mem_iff_getElem.mp hd
   rw [hj j (by omega) hj']
   exact ⟨by simp only; omega, by simp only; omega, by simp only; omega, by simp only; omega, by simp only; omega⟩
  have hv : VL m := ⟨by omega, hok⟩
  refine Ev.step (f := fun k => (railplanlaw25_awake.f k).bind fun t210 => (if t210 = true then ((closure_Check.f k m).bind fun t211 => (if t211 = true then (if 0 < (m.length : Int) then ((some (([(⟨(rd_T27 m 0).f0, (rd_T27 m 0).f1, (rd_T27 m 0).f2⟩ : S27)] : List (S27)) : List (S27))).bind fun y213 => (if m.length + y213.length < 5864062014805 then ((closure_Check.f k (m ++ y213)).bind fun t219 => (some (!t219))) else (none))) else (none)) else (none))) else (none))) (fun k => ?_) (Ev.bind awake_ev ?_)
  ·simp only [railplanlaw25_ClosureLimits.l0]
   rw [if_neg (by omega)]
   simp
  ·simp only [if_true]
   refine Ev.bind (check_true m hv) ?_
   simp only [if_true, if_pos (show 0 < (m.length : Int) by omega), Option.bind_some, List.length_singleton, if_pos (show m.length + 1 < 5864062014805 by omega)]
   refine Ev.bind (check_false _ (by simp; omega) (fun h => by have := h.1; simp at this; omega)) ?_
   exact Ev.now _
 | succ n ih =>
  intro m i hm hi h0 hj
  have w : wrap64 (i + 1) = i + 1 := wrap64_id (by omega) (by omega)
  have key := ih (m.set i.toNat ⟨i, 0, 1⟩) (i + 1) (by simpa using hm) (by omega) (by omega) (fun j hji h => by
   rw [List.getElem_set]
   split
   ·next e => rw [← e]; simp; omega
   ·next e => exact hj j (by omega) (by simpa using h))
  refine Ev.step (fun k => ?_) key
  simp only [railplanlaw25_ClosureLimits.l0]
  rw [if_pos (by omega), if_pos (by omega), if_pos (by omega), w]
theorem cLim_j0 (c : List S27) (hc : c.length ≤ 5) (a b d : Int) (hbad : ¬ OkC ⟨a, b, d⟩) : Ev (fun k => railplanlaw25_ClosureLimits.j0 k c true a b d) true := by
 have hn : ¬ VL (c ++ [⟨a, b, d⟩]) := fun h => hbad (h.2 _ (by simp))
 refine Ev.step (f := fun k => (closure_Check.f k (c ++ [⟨a, b, d⟩])).bind fun t205 => railplanlaw25_ClosureLimits.l0 k true t205 (List.replicate 32 z27) 32 0) (fun k => ?_) (Ev.bind (check_false _ (by simp; omega) hn) (cLim_l0 32 _ 0 (by simp) (by omega) (by omega) (fun j hj => absurd hj (by omega))))
 simp only [railplanlaw25_ClosureLimits.j0, List.nil_append, List.length_nil, Option.bind_some, List.length_singleton]
 rw [if_pos (by omega), if_pos (by omega)]
 simp
theorem ClosureLimits : railplanlaw25_ClosureLimits.Pure := by
 intro l0 a1 a2 _ h8 _ _ _
 obtain ⟨c, hE, hc, hg⟩ := closures_ev l0 (by omega)
 obtain ⟨r, hr, r0, r1⟩ := pick_some a2 6 (by omega) (by omega)
 obtain ⟨q, hq, q0, q1⟩ := pick_some a1 5 (by omega) (by omega)
 refine Ev.rounds (g := fun k => railplanlaw25_ClosureLimits.f k l0 a1 a2) (Ev.bind hE ?_)
 rw [hr]
 simp only [Option.bind_some, List.nil_append, List.length_nil, List.length_singleton, if_pos (show 0 + c.length < 5864062014805 by omega), if_pos (show c.length + 1 < 5864062014805 by omega)]
 refine Ev.bind (check_true _ (vl_snoc hc hg (x := ⟨r, 0, 4194304⟩) ⟨r0, by simp only; omega, by simp only; omega, by simp only; omega, by simp only; omega⟩)) ?_
 rw [hq]
 simp only [Option.bind_some]
 by_cases e0 : q = 0
 ·simp only [if_pos e0]
  exact cLim_j0 c hc _ _ _ (fun h => by have := h.2.2.2.2; simp at this)
 simp only [if_neg e0]
 by_cases e1 : q = 1
 ·simp only [if_pos e1]
  exact cLim_j0 c hc _ _ _ (fun h => by have := h.2.2.1; simp at this)
 simp only [if_neg e1]
 by_cases e2 : q = 2
 ·simp only [if_pos e2]
  exact cLim_j0 c hc _ _ _ (fun h => by have := h.2.2.2.1; simp at this)
 simp only [if_neg e2]
 by_cases e3 : q = 3
 ·simp only [if_pos e3]
  exact cLim_j0 c hc _ _ _ (fun h => by have := h.2.1; simp at this)
 simp only [if_neg e3]
 exact cLim_j0 c hc _ _ _ (fun h => by have := h.1; simp at this)

end Go.Proofs.Ytiohandkjjmemaa.Pure
