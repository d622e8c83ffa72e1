import Derived.Test.YtiohandkjjmemaaQPlD
import Derived.Test.YtiohandkjjmemaaKW0
import Derived.Test.YtiohandkjjmemaaKS
import Derived.Test.YtiohandkjjmemaaK8
import Derived.Test.YtiohandkjjmemaaK17
import Derived.Test.YtiohandkjjmemaaK19
import Derived.Test.YtiohandkjjmemaaK23
import Derived.Test.YtiohandkjjmemaaK28
namespace Go.Proofs.Ytiohandkjjmemaa.Pure
open Go.RowKit Go.Proofs.Ytiohandkjjmemaa.PAll Go.Proofs.YtiohandkjjmemaaW.PrintWords Go.Proofs.YtiohandkjjmemaaW.PrintLast
set_option linter.unusedVariables false

theorem cEarl_end (c : List S27) (hc : c.length ≤ 5) (o : List S39) (ho : o.length ≤ 6) (st m : Int) (hs : 0 ≤ st ∧ st < 60) (hm : 0 ≤ m ∧ m < 120) (d : Int) (b : Bool) (hP : EarlyP c o st m d b)
  (hb : b = false → ∀ s, 0 ≤ s → s ≤ m → ent c o (st + s) = false) :
  Ev (fun k => (closure_Earliest.f k c o st (wrap64 (m + 1))).bind fun bt381 => ((railplanlaw25_awake.f k).bind fun t383 => (if t383 = true then (if b = true then (if d ≥ 0 then (if d ≤ m then ((railplanref24_Enters.f k c o (wrap64 (st + d))).bind fun t384 => (if t384 = true then (if bt381.1 = d then (some bt381.2) else (none)) else (none))) else (none)) else (none)) else (if d = 0 then (some true) else (none))) else (none)))) true := by
 have w1 : wrap64 (m + 1) = m + 1 := wrap64_id (by omega) (by omega)
 obtain ⟨d', b', hP', hE', _⟩ := early_both c (by omega) o (by omega) st (m + 1)
 rw [w1]
 refine Ev.bind hE' (Ev.bind awake_ev ?_)
 simp only [if_true]
 rcases hP with ⟨rfl, h0, h1, hn, d0, d1, he, hl⟩ | ⟨rfl, rfl, hno⟩
 ·have w2 : wrap64 (st + d) = st + d := wrap64_id (by omega) (by omega)
  have E := (enters_both c (by omega) o (by omega) (st + d)).2
  rw [he] at E
  simp only [if_true, if_pos (show d ≥ 0 by omega), if_pos d1]
  rw [w2]
  refine Ev.bind E ?_
  rcases hP' with ⟨rfl, _, _, _, e0, e1, e2, e3⟩ | ⟨rfl, rfl, hno⟩
  ·have : d' = d := by
    rcases Int.lt_trichotomy d d' with h | h | h
    ·have := e3 d d0 h; rw [this] at he; simp at he
    ·exact h.symm
    ·have := hl d' e0 h; rw [this] at e2; simp at e2
   simp only [if_true, if_pos this]
   exact Ev.now _
  ·have := hno (by omega) (by omega) hn d d0 (by omega)
   rw [this] at he; simp at he
 ·simp only [Bool.false_eq_true, if_false, if_true]
  exact Ev.now _
theorem cEarl_l0 (c : List S27) (hc : c.length ≤ 5) (o : List S39) (ho : o.length ≤ 6) (st m : Int) (hs : 0 ≤ st ∧ st < 60) (hm : 0 ≤ m ∧ m < 120) (d : Int) (b : Bool) (hP : EarlyP c o st m d b) (n : Nat) :
  ∀ s : Int, m + 1 - s = n → 0 ≤ s → (∀ q, 0 ≤ q → q < s → ent c o (st + q) = false) → Ev (fun k => railplanlaw25_ClosureEarliest.l0 k c o st m d b s) true := by
 have hn : Near st := ⟨by omega, by omega⟩
 have hb : b = false → ∀ s, 0 ≤ s → s ≤ m → ent c o (st + s) = false := fun e => by
  rcases hP with ⟨rfl, _⟩ | ⟨_, _, hno⟩
  ·simp at e
  ·exact hno (by omega) (by omega) hn
 have hend := cEarl_end c hc o ho st m hs hm d b hP hb
 have more : ∀ s : Int, 0 ≤ s → s ≤ m → (b = true → s ≠ d) → (∀ q, 0 ≤ q → q < s → ent c o (st + q) = false) → Ev (fun k => railplanlaw25_ClosureEarliest.l0 k c o st m d b (s + 1)) true → Ev (fun k => railplanlaw25_ClosureEarliest.j1 k c o st m d b s false) true := by
  intro s h0 h1 hd hq hE
  have w1 : wrap64 (s + 1) = s + 1 := wrap64_id (by omega) (by omega)
  have w2 : wrap64 (st + s) = st + s := wrap64_id (by omega) (by omega)
  have he : ent c o (st + s) = false := by
   rcases hP with ⟨rfl, _, _, _, d0, d1, e, el⟩ | ⟨_, _, hno⟩
   ·have := hd rfl
    rcases Int.lt_or_le s d with h | h
    ·exact el s h0 h
    ·have := hq d d0 (by omega)
     rw [this] at e; simp at e
   ·exact hno (by omega) (by omega) hn s h0 h1
  have E := (enters_both c (by omega) o (by omega) (st + s)).1
  rw [he] at E
  refine Ev.step (f := fun k => (closure_Enters.f k c o (st + s)).bind fun t => if t = true then none else railplanlaw25_ClosureEarliest.l0 k c o st m d b (s + 1)) (fun k => ?_) (Ev.bind E ?_)
  ·simp only [railplanlaw25_ClosureEarliest.j1]
   rw [if_neg (by simp), w1, w2]
  ·simp only [Bool.false_eq_true, if_false]
   exact hE
 induction n with
 | zero =>
  intro s hsn h0 hq
  refine Ev.step (fun k => ?_) hend
  simp only [railplanlaw25_ClosureEarliest.l0]
  rw [if_neg (by omega)]
 | succ n ih =>
  intro s hsn h0 hq
  have nxt : (b = true → s ≠ d) → Ev (fun k => railplanlaw25_ClosureEarliest.j1 k c o st m d b s false) true := fun hd => by
   have he : ent c o (st + s) = false := by
    rcases hP with ⟨rfl, _, _, _, d0, d1, e, el⟩ | ⟨_, _, hno⟩
    ·have := hd rfl
     rcases Int.lt_or_le s d with h | h
     ·exact el s h0 h
     ·have := hq d d0 (by omega)
      rw [this] at e; simp at e
    ·exact hno (by omega) (by omega) hn s h0 (by omega)
   exact more s h0 (by omega) hd hq (ih (s + 1) (by omega) (by omega) (fun q q0 q1 => by
    rcases Int.lt_or_le q s with h | h
    ·exact hq q q0 h
    ·rw [show q = s by omega]; exact he))
  by_cases hbt : b = true
  ·by_cases hd : s = d
   ·refine Ev.step (f := fun k => railplanlaw25_ClosureEarliest.j1 k c o st m d b s true) (fun k => ?_) (Ev.step (fun k => ?_) hend)
    ·simp only [railplanlaw25_ClosureEarliest.l0]
     rw [if_pos (by omega), if_pos hbt]
     simp [hd]
    ·simp only [railplanlaw25_ClosureEarliest.j1]
     rw [if_pos trivial]
   ·refine Ev.step (fun k => ?_) (nxt (fun _ => hd))
    simp only [railplanlaw25_ClosureEarliest.l0]
    rw [if_pos (by omega), if_pos hbt, beq_eq_false_iff_ne.mpr hd]
  ·refine Ev.step (fun k => ?_) (nxt (fun h => absurd h hbt))
   simp only [railplanlaw25_ClosureEarliest.l0]
   rw [if_pos (by omega), if_neg hbt]
theorem ClosureEarliest : railplanlaw25_ClosureEarliest.Pure := by
 intro l0 l1 a2 a3 _ h8 _ _ g8 _ _ _
 obtain ⟨c, hE, hc, hg⟩ := closures_ev l0 (by omega)
 obtain ⟨o, hO, ho, hgo⟩ := occupations_ev l1 (by omega)
 obtain ⟨x, hx, x0, x1⟩ := pick_some a2 60 (by omega) (by omega)
 obtain ⟨m, hm, m0, m1⟩ := pick_some a3 120 (by omega) (by omega)
 obtain ⟨d, b, hP, hE1, _⟩ := early_both c (by omega) o (by omega) x m
 refine Ev.rounds (g := fun k => railplanlaw25_ClosureEarliest.f k l0 l1 a2 a3) (Ev.bind hE (Ev.bind hO ?_))
 rw [hx, hm]
 simp only [Option.bind_some]
 exact Ev.bind hE1 (cEarl_l0 c hc o ho x m ⟨x0, x1⟩ ⟨m0, m1⟩ d b hP (m + 1).toNat 0 (by omega) (by omega) (fun q q0 q1 => absurd q1 (by omega)))

end Go.Proofs.Ytiohandkjjmemaa.Pure
