import Derived.Test.YtiohandkjjmemaaQPlD
import Derived.Test.YtiohandkjjmemaaKW0
import Derived.Test.YtiohandkjjmemaaKS
import Derived.Test.YtiohandkjjmemaaK7
import Derived.Test.YtiohandkjjmemaaK8
import Derived.Test.YtiohandkjjmemaaK10
import Derived.Test.YtiohandkjjmemaaK12
import Derived.Test.YtiohandkjjmemaaK14
namespace Go.Proofs.Ytiohandkjjmemaa.Pure
open Go.RowKit Go.Proofs.Ytiohandkjjmemaa.PAll Go.Proofs.YtiohandkjjmemaaW.PrintWords Go.Proofs.YtiohandkjjmemaaW.PrintLast
set_option linter.unusedVariables false

theorem cNext_l1 (c : List S27) (hc : c.length ≤ 5) (x r n : Int) (hx : 0 ≤ x) (hn : IsNext c r x n) (h95 : n ≤ 95) (H : Ev (fun k => railplanlaw25_ClosureNext.l0 k c x (r + 1)) true) (hr : 0 ≤ r ∧ r < 6) (d : Nat) : ∀ s, n - s = d → x ≤ s → Ev (fun k => railplanlaw25_ClosureNext.l1 k c x r n s) true := by
 induction d with
 | zero =>
  intro s hs hxs
  refine Ev.step (fun k => ?_) H
  simp only [railplanlaw25_ClosureNext.l1]
  rw [if_neg (by omega), wrap64_id (by omega) (by omega)]
 | succ d ih =>
  intro s hs hxs
  have hcov := hn.2.2 s hxs (by omega)
  have ho : opn c r s = false := by
   cases q : opn c r s with
   | false => rfl
   | true => exact absurd hcov ((opn_iff _ _ _).mp q)
  have E1 := open_ev c (by omega) r s
  have E2 := ropen_ev c (by omega) r s
  rw [ho] at E1 E2
  refine Ev.step (f := fun k => (closure_Open.f k c r s).bind fun t => if t = true then none else (railplanref24_Open.f k c r s).bind fun t => if t = true then none else railplanlaw25_ClosureNext.l1 k c x r n (s + 1)) (fun k => ?_) (Ev.bind E1 ?_)
  ·simp only [railplanlaw25_ClosureNext.l1]
   rw [if_pos (by omega), wrap64_id (by omega) (by omega)]
  ·simp only [Bool.false_eq_true, if_false]
   refine Ev.bind E2 ?_
   simp only [Bool.false_eq_true, if_false]
   exact ih (s + 1) (by omega) (by omega)
theorem cNext_l0 (c : List S27) (hc : c.length ≤ 5) (hg : ∀ d ∈ c, GenC d) (x : Int) (hx : 0 ≤ x) (hx95 : x < 95) (d : Nat) : ∀ r : Int, r + d = 6 → 0 ≤ r → Ev (fun k => railplanlaw25_ClosureNext.l0 k c x r) true := by
 induction d with
 | zero =>
  intro r hr h0
  refine Ev.step (f := fun k => (railplanlaw25_awake.f k).bind fun t => some t) (fun k => ?_) (Ev.bind awake_ev (Ev.now _))
  simp only [railplanlaw25_ClosureNext.l0]
  rw [if_neg (by omega)]
 | succ d ih =>
  intro r hr h0
  obtain ⟨n, hn, hE⟩ := next_ev c (by omega) r x
  have hn1 := hn.1
  have h95 : n ≤ 95 := by
   rcases Int.lt_or_le x n with h | h
   ·obtain ⟨e, he, g1, g2, g3⟩ := hn.2.2 (n - 1) (by omega) (by omega)
    have := (hg e he).2.2.2.2
    omega
   ·omega
  have E1 := open_ev c (by omega) r n
  have ho : opn c r n = true := (opn_iff _ _ _).mpr hn.2.1
  rw [ho] at E1
  refine Ev.step (f := fun k => (closure_Next.f k c r x).bind fun t251 => (if t251 < x then (railplanlaw25_ClosureNext.j1 k c x r t251 true) else (if t251 > 95 then (railplanlaw25_ClosureNext.j1 k c x r t251 true) else ((closure_Open.f k c r t251).bind fun t252 => (railplanlaw25_ClosureNext.j1 k c x r t251 (!t252)))))) (fun k => ?_) (Ev.bind hE ?_)
  ·simp only [railplanlaw25_ClosureNext.l0]
   rw [if_pos (by omega)]
  ·simp only [if_neg (show ¬ n < x by omega), if_neg (show ¬ n > 95 by omega)]
   refine Ev.bind E1 (Ev.step (f := fun k => railplanlaw25_ClosureNext.l1 k c x r n x) (fun k => ?_) (cNext_l1 c hc x r n hx hn h95 (ih (r + 1) (by omega) (by omega)) ⟨h0, by omega⟩ (n - x).toNat x (by omega) (by omega)))
   simp only [railplanlaw25_ClosureNext.j1]
   rw [if_neg (by simp)]
theorem ClosureNext : railplanlaw25_ClosureNext.Pure := by
 intro l0 a1 _ h8 _ _
 obtain ⟨c, hE, hc, hg⟩ := closures_ev l0 (by omega)
 obtain ⟨x, hx, x0, x1⟩ := pick_some a1 95 (by omega) (by omega)
 refine Ev.rounds (g := fun k => railplanlaw25_ClosureNext.f k l0 a1) (Ev.bind hE ?_)
 rw [hx]
 simp only [Option.bind_some]
 exact cNext_l0 c hc hg x x0 x1 6 0 (by omega) (by omega)

end Go.Proofs.Ytiohandkjjmemaa.Pure
