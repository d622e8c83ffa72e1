import Derived.Test.YtiohandkjjmemaaQPlD
import Derived.Test.YtiohandkjjmemaaKW0
import Derived.Test.YtiohandkjjmemaaKS
import Derived.Test.YtiohandkjjmemaaK8
import Derived.Test.YtiohandkjjmemaaK12
import Derived.Test.YtiohandkjjmemaaK17
import Derived.Test.YtiohandkjjmemaaK18
namespace Go.Proofs.Ytiohandkjjmemaa.Pure
open Go.RowKit Go.Proofs.Ytiohandkjjmemaa.PAll Go.Proofs.YtiohandkjjmemaaW.PrintWords Go.Proofs.YtiohandkjjmemaaW.PrintLast
set_option linter.unusedVariables false

theorem ent_occ {l : List S27} {o o' : List S39} (h : o'.map (fun x => (x.f0, x.f1)) = o.map (fun x => (x.f0, x.f1))) (st : Int) : ent l o' st = ent l o st := by
 have P : ∀ q : List S39, (∀ x ∈ q, Near x.f1 ∧ ¬ Cov l x.f0 (st + x.f1)) ↔ ∀ p ∈ q.map (fun x => (x.f0, x.f1)), Near p.2 ∧ ¬ Cov l p.1 (st + p.2) := fun q => by simp
 rw [Bool.eq_iff_iff, ent_iff, ent_iff]
 unfold Ent
 rw [P, P, h]
theorem cInside_l1 (a3 : Int) (c : List S27) (hc : c.length ≤ 5) (o o' : List S39) (ho : o.length ≤ 6) (hg : ∀ x ∈ o, GenO x) (ho' : o'.map (fun x => (x.f0, x.f1)) = o.map (fun x => (x.f0, x.f1))) (st : Int) (hs : 0 ≤ st ∧ st < 60) (b : List S39) : ∀ (a : List S39) (i : Int) (g : Bool), o = a ++ b → i = a.length → (g = true ↔ ∀ x ∈ a, ¬ Cov c x.f0 (st + x.f1)) →
  Ev (fun k => railplanlaw25_ClosureInside.l1 k c o st o' g o (o.length : Int) i) true := by
 induction b with
 | nil =>
  intro a i g h hi hgg
  simp at h
  subst h
  have hlen : o'.length = o.length := by have := congrArg List.length ho'; simpa using this
  have e : ent c o st = g := by
   rw [Bool.eq_iff_iff, ent_iff, hgg]
   constructor
   ·intro h x hx; exact (h.2 x hx).2
   ·intro h
    refine ⟨⟨by omega, by omega⟩, fun x hx => ⟨?_, h x hx⟩⟩
    obtain ⟨x1, x2, _⟩ := hg x hx
    exact ⟨by omega, by omega⟩
  have E1 := (enters_both c (by omega) o (by omega) st).1
  have E2 := (enters_both c (by omega) o' (by omega) st).1
  rw [ent_occ ho', e] at E2
  rw [e] at E1
  refine Ev.step (f := fun k => (railplanlaw25_awake.f k).bind fun t288 => (if t288 = true then ((closure_Enters.f k c o st).bind fun t289 => (if (t289 == g) = true then ((closure_Enters.f k c o' st).bind fun t290 => (some (t290 == g))) else (none))) else (none))) (fun k => ?_) (Ev.bind awake_ev ?_)
  ·simp only [railplanlaw25_ClosureInside.l1]
   rw [if_neg (by omega)]
  ·simp only [if_true]
   refine Ev.bind E1 ?_
   simp only [beq_self_eq_true, if_true]
   refine Ev.bind E2 ?_
   simp only [beq_self_eq_true]
   exact Ev.now _
 | cons x b ih =>
  intro a i g h hi hgg
  have hlen : o.length = a.length + (b.length + 1) := by rw [h]; simp
  have e : rd_T39 o i = x := by rw [h]; exact rd39_mid a x b i hi
  have w : wrap64 (i + 1) = i + 1 := wrap64_id (by omega) (by omega)
  obtain ⟨x1, x2, _⟩ := hg x (by rw [h]; simp)
  have w2 : wrap64 (st + x.f1) = st + x.f1 := wrap64_id (by omega) (by omega)
  have h' : o = (a ++ [x]) ++ b := by simp [h]
  cases g with
  | true =>
   have E := ropen_ev c (by omega) x.f0 (st + x.f1)
   refine Ev.step (f := fun k => (railplanref24_Open.f k c x.f0 (st + x.f1)).bind fun t => railplanlaw25_ClosureInside.l1 k c o st o' t o (o.length : Int) (i + 1)) (fun k => ?_) (Ev.bind E (ih (a ++ [x]) (i + 1) _ h' (by simp; omega) ?_))
   ·simp only [railplanlaw25_ClosureInside.l1]
    rw [if_pos (by omega), if_pos (by omega), if_pos (by omega), if_pos trivial, e, w, w2]
   ·rw [opn_iff]
    have := hgg.mp rfl
    constructor
    ·intro hn y hy
     rcases List.mem_append.mp hy with hy | hy
     ·exact this y hy
     ·simp at hy; subst hy; exact hn
    ·intro hy; exact hy x (by simp)
  | false =>
   refine Ev.step (fun k => ?_) (ih (a ++ [x]) (i + 1) false h' (by simp; omega) ⟨fun h => by simp at h, fun hh => ?_⟩)
   ·simp only [railplanlaw25_ClosureInside.l1]
    rw [if_pos (by omega), if_pos (by omega), if_pos (by omega), if_neg (by simp), w]
   ·exact hgg.mpr (fun y hy => hh y (by simp [hy]))
theorem cInside_l0 (a3 : Int) (c : List S27) (hc : c.length ≤ 5) (o : List S39) (ho : o.length ≤ 6) (hg : ∀ x ∈ o, GenO x) (st : Int) (hs : 0 ≤ st ∧ st < 60) (n : Nat) : ∀ (o' : List S39) (i : Int), o'.length = o.length → (o'.length : Int) - i = n → 0 ≤ i → o'.map (fun x => (x.f0, x.f1)) = o.map (fun x => (x.f0, x.f1)) →
  Ev (fun k => railplanlaw25_ClosureInside.l0 k a3 c o st o' (o'.length : Int) i) true := by
 induction n with
 | zero =>
  intro o' i hl hi h0 ho'
  refine Ev.step (fun k => ?_) (cInside_l1 a3 c hc o o' ho hg ho' st hs o [] 0 true (by simp) (by simp) (by simp))
  simp only [railplanlaw25_ClosureInside.l0]
  rw [if_neg (by omega)]
 | succ n ih =>
  intro o' i hl hi h0 ho'
  obtain ⟨p, hp, p0, p1⟩ := pick_some a3 50 (by omega) (by omega)
  have w : wrap64 (i + 1) = i + 1 := wrap64_id (by omega) (by omega)
  have hit : i.toNat < o'.length := by omega
  have e : rd_T39 o' i = o'[i.toNat] := by unfold rd_T39; simp [List.getD, List.getElem?_eq_getElem hit]
  have key := ih (o'.set i.toNat ⟨(rd_T39 o' i).f0, (rd_T39 o' i).f1, wrap64 ((rd_T39 o' i).f2 + p)⟩) (i + 1) (by simp [hl]) (by simp; omega) (by omega) (by
   rw [← ho', List.map_set, e]
   apply List.ext_getElem
   ·simp
   ·intro j h1 h2
    rw [List.getElem_set]
    split
    ·next h => subst h; simp
    ·simp)
  rw [List.length_set] at key
  refine Ev.step (fun k => ?_) key
  simp only [railplanlaw25_ClosureInside.l0]
  rw [if_pos (by omega), if_pos (by omega), if_pos (by omega), hp, w]; simp only [Option.bind_some]
theorem ClosureInside : railplanlaw25_ClosureInside.Pure := by
 intro l0 l1 a2 a3 _ h8 _ _ g8 _ _ _
 obtain ⟨c, hE, hc, hg⟩ := closures_ev l0 (by omega)
 obtain ⟨o, hO, ho, hgo⟩ := occupations_ev l1 (by omega)
 obtain ⟨x, hx, x0, x1⟩ := pick_some a2 60 (by omega) (by omega)
 refine Ev.rounds (g := fun k => railplanlaw25_ClosureInside.f k l0 l1 a2 a3) (Ev.bind hE (Ev.bind hO ?_))
 rw [hx]
 simp only [Option.bind_some, List.nil_append, List.length_nil]
 simp only [if_pos (show 0 + o.length < 5864062014805 by omega)]
 exact cInside_l0 a3 c hc o ho hgo x ⟨x0, x1⟩ o.length o 0 rfl (by omega) (by omega) rfl

end Go.Proofs.Ytiohandkjjmemaa.Pure
