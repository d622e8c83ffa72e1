import Derived.Test.YtfipfobadpealaaQPlG
import Derived.Test.YtfipfobadpealaaKW0
import Derived.Test.YtfipfobadpealaaKS
import Derived.Test.YtfipfobadpealaaK17
import Derived.Test.YtfipfobadpealaaK18
import Derived.Test.YtfipfobadpealaaK19
import Derived.Test.YtfipfobadpealaaK20
import Derived.Test.YtfipfobadpealaaK21
import Derived.Test.YtfipfobadpealaaK22
namespace Go.Proofs.Ytfipfobadpealaa.Pure
open Go.RowKit Go.Proofs.Ytfipfobadpealaa.PAll Go.Proofs.YtfipfobadpealaaW.PrintWords Go.Proofs.YtfipfobadpealaaW.PrintLast
set_option linter.unusedVariables false

/-! ### the reference's networks -/
theorem in_some (a b c : Int) : railplanref11_in.f a b c = some (decide (b ≤ a ∧ a ≤ c)) := by
 unfold railplanref11_in.f
 by_cases h : a ≥ b
 ·rw [if_pos h]
  congr 1
  simp
  omega
 ·rw [if_neg h]
  congr 1
  simp
  omega
def ActV (per : Int) (m : Nat) (a : S40) : Prop := 0 ≤ a.f1 ∧ a.f1 < m ∧ 0 ≤ a.f2 ∧ a.f2 < m ∧ a.f1 ≠ a.f2 ∧ -65536 ≤ a.f3 ∧ a.f3 ≤ a.f4 ∧ a.f4 ≤ 65536 ∧ a.f4 - a.f3 < per ∧ 0 ≤ a.f5 ∧ a.f5 ≤ 1048576
theorem rcheck_l0 (per : Int) (ev : List S59) (acts : List S40) (h48 : ev.length ≤ 48) (h512 : acts.length ≤ 512) (d : Nat) :
  ∀ (j : Nat), acts.length - j = d → j ≤ acts.length → ∃ b, Ev (fun k => railplanref11_Check.l0 k j per ev acts) b ∧ (b = true ↔ ∀ q, j ≤ q → q < acts.length → ActV per ev.length (acts.getD q z40)) := by
 induction d with
 | zero =>
  intro j hd hj
  refine ⟨true, ⟨1, fun k hk => ?_⟩, fun _ q h1 h2 => by omega, fun _ => rfl⟩
  obtain ⟨k, rfl⟩ : ∃ m, k = m + 1 := ⟨k - 1, by omega⟩
  have q1 : ¬ (j : Int) < (acts.length : Int) := by omega
  simp only [railplanref11_Check.l0]
  rw [if_neg q1]
 | succ d ih =>
  intro j hd hj
  have hj' : j < acts.length := by omega
  have q1 : (j : Int) < (acts.length : Int) := by omega
  have q2 : (0 : Int) ≤ (j : Int) := by omega
  have ex : Aside0 (wrap64 ((j : Int) + 1) = ((j + 1 : Nat) : Int)) := ⟨by rw [wrap64_id (by omega) (by omega)]; rfl⟩
  have el : Aside0 (wrap64 ((ev.length : Int) - 1) = (ev.length : Int) - 1) := ⟨wrap64_id (by omega) (by omega)⟩
  have erd : rd_T40 acts (j : Int) = acts.getD j z40 := by simp [rd_T40]
  have no : ∀ {P : Prop}, ¬ ActV per ev.length (acts.getD j z40) → (∀ q, j ≤ q → q < acts.length → ActV per ev.length (acts.getD q z40)) → P := fun h1 h2 => absurd (h2 j (Nat.le_refl _) hj') h1
  have stop : ∀ b : Bool, b = false → ¬ ActV per ev.length (acts.getD j z40) → (b = true ↔ ∀ q, j ≤ q → q < acts.length → ActV per ev.length (acts.getD q z40)) := fun b hb h => ⟨(fun e => by rw [hb] at e; cases e), fun h2 => no h h2⟩
  obtain ⟨b, hE, hb⟩ := ih (j + 1) (by omega) (by omega)
  generalize hA : acts.getD j z40 = a at *
  by_cases c1 : 0 ≤ a.f1 ∧ a.f1 ≤ (ev.length : Int) - 1
  ·by_cases c2 : 0 ≤ a.f2 ∧ a.f2 ≤ (ev.length : Int) - 1
   ·by_cases c3 : a.f1 = a.f2
    ·refine ⟨false, ⟨1, fun k hk => ?_⟩, stop _ rfl (fun h => h.2.2.2.2.1 c3)⟩
     obtain ⟨k, rfl⟩ : ∃ m, k = m + 1 := ⟨k - 1, by omega⟩
     simp only [railplanref11_Check.l0]
     rw [if_pos q1, if_pos q2, erd, el.out, in_some, in_some, decide_eq_true c1, decide_eq_true c2]
     simp only [Option.bind_some, if_true]
     rw [if_pos c3]
    ·by_cases c4 : a.f3 < -65536
     ·refine ⟨false, ⟨1, fun k hk => ?_⟩, stop _ rfl (fun h => by have := h.2.2.2.2.2.1; omega)⟩
      obtain ⟨k, rfl⟩ : ∃ m, k = m + 1 := ⟨k - 1, by omega⟩
      simp only [railplanref11_Check.l0]
      rw [if_pos q1, if_pos q2, erd, el.out, in_some, in_some, decide_eq_true c1, decide_eq_true c2]
      simp only [Option.bind_some, if_true]
      rw [if_neg c3, if_pos c4]
     ·by_cases c5 : a.f4 > 65536
      ·refine ⟨false, ⟨1, fun k hk => ?_⟩, stop _ rfl (fun h => by have := h.2.2.2.2.2.2.2.1; omega)⟩
       obtain ⟨k, rfl⟩ : ∃ m, k = m + 1 := ⟨k - 1, by omega⟩
       simp only [railplanref11_Check.l0]
       rw [if_pos q1, if_pos q2, erd, el.out, in_some, in_some, decide_eq_true c1, decide_eq_true c2]
       simp only [Option.bind_some, if_true]
       rw [if_neg c3, if_neg c4, if_pos c5]
      ·by_cases c6 : a.f3 > a.f4
       ·refine ⟨false, ⟨1, fun k hk => ?_⟩, stop _ rfl (fun h => by have := h.2.2.2.2.2.2.1; omega)⟩
        obtain ⟨k, rfl⟩ : ∃ m, k = m + 1 := ⟨k - 1, by omega⟩
        simp only [railplanref11_Check.l0]
        rw [if_pos q1, if_pos q2, erd, el.out, in_some, in_some, decide_eq_true c1, decide_eq_true c2]
        simp only [Option.bind_some, if_true]
        rw [if_neg c3, if_neg c4, if_neg c5, if_pos c6]
       ·have ew : Aside0 (wrap64 (a.f4 - a.f3) = a.f4 - a.f3) := ⟨wrap64_id (by omega) (by omega)⟩
        by_cases c7 : a.f4 - a.f3 ≥ per
        ·refine ⟨false, ⟨1, fun k hk => ?_⟩, stop _ rfl (fun h => by have := h.2.2.2.2.2.2.2.2.1; omega)⟩
         obtain ⟨k, rfl⟩ : ∃ m, k = m + 1 := ⟨k - 1, by omega⟩
         simp only [railplanref11_Check.l0]
         rw [if_pos q1, if_pos q2, erd, el.out, in_some, in_some, decide_eq_true c1, decide_eq_true c2]
         simp only [Option.bind_some, if_true]
         rw [if_neg c3, if_neg c4, if_neg c5, if_neg c6, ew.out, if_pos c7]
        ·by_cases c8 : 0 ≤ a.f5 ∧ a.f5 ≤ 1048576
         ·refine ⟨b, Ev.step (fun k => ?_) hE, ?_⟩
          ·simp only [railplanref11_Check.l0]
           rw [if_pos q1, if_pos q2, erd, el.out, in_some, in_some, decide_eq_true c1, decide_eq_true c2]
           simp only [Option.bind_some, if_true]
           rw [if_neg c3, if_neg c4, if_neg c5, if_neg c6, ew.out, if_neg c7, in_some, decide_eq_true c8]
           simp only [Option.bind_some, if_true]
           rw [ex.out]
          ·rw [hb]
           constructor
           ·intro h q h1 h2
            by_cases e : q = j
            ·rw [e, hA]
             exact ⟨c1.1, by omega, c2.1, by omega, c3, by omega, by omega, by omega, by omega, c8.1, c8.2⟩
            ·exact h q (by omega) h2
           ·intro h q h1 h2
            exact h q (by omega) h2
         ·refine ⟨false, ⟨1, fun k hk => ?_⟩, stop _ rfl (fun h => c8 ⟨h.2.2.2.2.2.2.2.2.2.1, h.2.2.2.2.2.2.2.2.2.2⟩)⟩
          obtain ⟨k, rfl⟩ : ∃ m, k = m + 1 := ⟨k - 1, by omega⟩
          simp only [railplanref11_Check.l0]
          rw [if_pos q1, if_pos q2, erd, el.out, in_some, in_some, decide_eq_true c1, decide_eq_true c2]
          simp only [Option.bind_some, if_true]
          rw [if_neg c3, if_neg c4, if_neg c5, if_neg c6, ew.out, if_neg c7, in_some, decide_eq_false c8]
          simp
   ·refine ⟨false, ⟨1, fun k hk => ?_⟩, stop _ rfl (fun h => c2 ⟨h.2.2.1, by have := h.2.2.2.1; omega⟩)⟩
    obtain ⟨k, rfl⟩ : ∃ m, k = m + 1 := ⟨k - 1, by omega⟩
    simp only [railplanref11_Check.l0]
    rw [if_pos q1, if_pos q2, erd, el.out, in_some, in_some, decide_eq_true c1, decide_eq_false c2]
    simp
  ·refine ⟨false, ⟨1, fun k hk => ?_⟩, stop _ rfl (fun h => c1 ⟨h.1, by have := h.2.1; omega⟩)⟩
   obtain ⟨k, rfl⟩ : ∃ m, k = m + 1 := ⟨k - 1, by omega⟩
   simp only [railplanref11_Check.l0]
   rw [if_pos q1, if_pos q2, erd, el.out, in_some, decide_eq_false c1]
   simp
theorem rcheck_ev (per : Int) (ev : List S59) (acts : List S40) : ∃ b, Ev (fun k => railplanref11_Check.f k per ev acts) b ∧ (b = true ↔ NV per ev acts) := by
 have step : ∀ (x : Bool) k, railplanref11_Check.j0 (k + 1) x per ev acts = if x = true then some false else railplanref11_Check.l0 k 0 per ev acts := fun x k => by simp only [railplanref11_Check.j0]
 by_cases hp : 2 ≤ per ∧ per ≤ 7200
 ·by_cases h1 : (ev.length : Int) > 48
  ·refine ⟨false, ⟨1, fun k hk => ?_⟩, (fun h => by cases h), fun h => by have := h.e1; omega⟩
   obtain ⟨k, rfl⟩ : ∃ m, k = m + 1 := ⟨k - 1, by omega⟩
   unfold railplanref11_Check.f
   rw [in_some, decide_eq_true hp]
   simp only [Option.bind_some, if_true]
   rw [if_pos h1, step]
   simp
  ·by_cases h2 : (acts.length : Int) > 512
   ·refine ⟨false, ⟨1, fun k hk => ?_⟩, (fun h => by cases h), fun h => by have := h.a1; omega⟩
    obtain ⟨k, rfl⟩ : ∃ m, k = m + 1 := ⟨k - 1, by omega⟩
    unfold railplanref11_Check.f
    rw [in_some, decide_eq_true hp]
    simp only [Option.bind_some, if_true]
    rw [if_neg h1, decide_eq_true h2, step]
    simp
   ·obtain ⟨b, ⟨K, hE⟩, hb⟩ := rcheck_l0 per ev acts (by omega) (by omega) acts.length 0 (by omega) (by omega)
    dsimp only at hE
    refine ⟨b, ⟨K + 1, fun k hk => ?_⟩, ?_⟩
    ·obtain ⟨k, rfl⟩ : ∃ m, k = m + 1 := ⟨k - 1, by omega⟩
     unfold railplanref11_Check.f
     rw [in_some, decide_eq_true hp]
     simp only [Option.bind_some, if_true]
     rw [if_neg h1, decide_eq_false h2, step, if_neg (by simp)]
     exact hE k (by omega)
    ·rw [hb]
     constructor
     ·intro h
      exact ⟨hp.1, hp.2, by omega, by omega, all_of_getD z40 (fun j hj => h j (by omega) hj)⟩
     ·intro h q _ hq
      exact h.ok _ (getD_mem hq)
 ·refine ⟨false, ⟨1, fun k hk => ?_⟩, (fun h => by cases h), fun h => absurd ⟨h.p0, h.p1⟩ hp⟩
  obtain ⟨k, rfl⟩ : ∃ m, k = m + 1 := ⟨k - 1, by omega⟩
  unfold railplanref11_Check.f
  rw [in_some, decide_eq_false hp]
  simp only [Option.bind_some]
  rw [if_neg (by simp), step]
  simp
theorem rgood_l0 (per : Int) (ev : List S59) (acts : List S40) (t : List Int) (h0 : 2 ≤ per) (h1 : per ≤ 7200) (ht : t.length ≤ 48) (d : Nat) :
  ∀ (j : Nat), t.length - j = d → j ≤ t.length → ∃ b, Ev (fun k => railplanref11_Good.l0 k t j per ev acts) b ∧ (b = true ↔ ∀ q, j ≤ q → q < t.length → 0 ≤ t.getD q 0 ∧ t.getD q 0 < per) := by
 induction d with
 | zero =>
  intro j hd hj
  refine ⟨true, ⟨1, fun k hk => ?_⟩, fun _ q h1 h2 => by omega, fun _ => rfl⟩
  obtain ⟨k, rfl⟩ : ∃ m, k = m + 1 := ⟨k - 1, by omega⟩
  have q1 : ¬ (j : Int) < (t.length : Int) := by omega
  simp only [railplanref11_Good.l0]
  rw [if_neg q1]
 | succ d ih =>
  intro j hd hj
  have hj' : j < t.length := by omega
  have q1 : (j : Int) < (t.length : Int) := by omega
  have q2 : (0 : Int) ≤ (j : Int) := by omega
  have ex : Aside0 (wrap64 ((j : Int) + 1) = ((j + 1 : Nat) : Int)) := ⟨by rw [wrap64_id (by omega) (by omega)]; rfl⟩
  have el : Aside0 (wrap64 (per - 1) = per - 1) := ⟨wrap64_id (by omega) (by omega)⟩
  have erd : rd t (j : Int) = t.getD j 0 := by simp [rd]
  obtain ⟨b, hE, hb⟩ := ih (j + 1) (by omega) (by omega)
  by_cases c : 0 ≤ t.getD j 0 ∧ t.getD j 0 ≤ per - 1
  ·refine ⟨b, Ev.step (fun k => ?_) hE, ?_⟩
   ·simp only [railplanref11_Good.l0]
    rw [if_pos q1, if_pos q2, erd, el.out, in_some, decide_eq_true c]
    simp only [Option.bind_some, if_true]
    rw [ex.out]
   ·rw [hb]
    constructor
    ·intro h q h1 h2
     by_cases e : q = j
     ·rw [e]; omega
     ·exact h q (by omega) h2
    ·intro h q h1 h2
     exact h q (by omega) h2
  ·refine ⟨false, ⟨1, fun k hk => ?_⟩, (fun h => by cases h), fun h => absurd (h j (Nat.le_refl _) hj') (by omega)⟩
   obtain ⟨k, rfl⟩ : ∃ m, k = m + 1 := ⟨k - 1, by omega⟩
   simp only [railplanref11_Good.l0]
   rw [if_pos q1, if_pos q2, erd, el.out, in_some, decide_eq_false c]
   simp
theorem rgood_ev (per : Int) (ev : List S59) (acts : List S40) (t : List Int) : ∃ b, Ev (fun k => railplanref11_Good.f k per ev acts t) b ∧ (b = true ↔ NV per ev acts ∧ GoodT per ev.length t) := by
 have step : ∀ (x : Bool) k, railplanref11_Good.j0 (k + 1) t x per ev acts = if x = true then some false else railplanref11_Good.l0 k t 0 per ev acts := fun x k => by simp only [railplanref11_Good.j0]
 obtain ⟨c, ⟨K, hK⟩, hc⟩ := rcheck_ev per ev acts
 dsimp only at hK
 cases c with
 | false =>
  refine ⟨false, ⟨K + 1, fun k hk => ?_⟩, (fun h => by cases h), fun h => by have := hc.mpr h.1; cases this⟩
  unfold railplanref11_Good.f; dsimp only
  rw [hK k (by omega)]
  obtain ⟨k, rfl⟩ : ∃ m, k = m + 1 := ⟨k - 1, by omega⟩
  simp only [Option.bind_some]
  rw [if_neg (by simp), step]
  simp
 | true =>
  have hv := hc.mp rfl
  by_cases hl : t.length = ev.length
  ·have e1 := hv.e1
   obtain ⟨b, ⟨K2, hE⟩, hb⟩ := rgood_l0 per ev acts t hv.p0 hv.p1 (by omega) t.length 0 (by omega) (by omega)
   dsimp only at hE
   refine ⟨b, ⟨K + K2 + 1, fun k hk => ?_⟩, ?_⟩
   ·unfold railplanref11_Good.f; dsimp only
    rw [hK k (by omega)]
    obtain ⟨k, rfl⟩ : ∃ m, k = m + 1 := ⟨k - 1, by omega⟩
    simp only [Option.bind_some, if_true]
    rw [step, if_neg (by simp [hl])]
    exact hE k (by omega)
   ·rw [hb]
    constructor
    ·intro h
     exact ⟨hv, hl, all_of_getD 0 (fun j hj => h j (by omega) hj)⟩
    ·rintro ⟨_, _, h⟩ q _ hq
     exact h _ (getD_mem hq)
  ·refine ⟨false, ⟨K + 1, fun k hk => ?_⟩, (fun h => by cases h), fun h => absurd h.2.1 hl⟩
   unfold railplanref11_Good.f; dsimp only
   rw [hK k (by omega)]
   obtain ⟨k, rfl⟩ : ∃ m, k = m + 1 := ⟨k - 1, by omega⟩
   simp only [Option.bind_some, if_true]
   rw [step, if_pos]
   simp
   omega
theorem rmod_some (a b : Int) (h0 : 1 ≤ b) (h1 : b ≤ 4611686018427387904) : railplanref1_Mod.f a b = some (a % b) := mod_some a b h0 h1
theorem rLasts_some {per : Int} {ev : List S59} {acts : List S40} {t : List Int} (h : NV per ev acts) (ht : GoodT per ev.length t) (a : S40) (ha : a ∈ acts) :
  railplanref11_Lasts.f per ev acts t a.f0 a.f1 a.f2 a.f3 a.f4 a.f5 = some (a.f3 + sl per t a) := by
 obtain ⟨h1, h2, h3, h4, h5, h6, h7, h8, h9, h10, h11⟩ := h.ok a ha
 have hl := ht.1
 have p0 := h.p0; have p1 := h.p1
 have r1 := rd_good ht h1 h2
 have r2 := rd_good ht h3 h4
 have hs := sl_range t a p0
 unfold railplanref11_Lasts.f
 rw [if_pos h3, if_pos (by omega), if_pos h1, if_pos (by omega), wrap64_id (x := rd t a.f2 - rd t a.f1) (by omega) (by omega), wrap64_id (x := rd t a.f2 - rd t a.f1 - a.f3) (by omega) (by omega), rmod_some _ _ (by omega) (by omega)]
 simp only [Option.bind_some]
 rw [show (rd t a.f2 - rd t a.f1 - a.f3) % per = sl per t a from rfl, wrap64_id (by omega) (by omega)]
theorem duration_ev {per : Int} {ev : List S59} {acts : List S40} {t : List Int} (h : NV per ev acts) (ht : GoodT per ev.length t) {j : Nat} (hj : j < acts.length) :
  Ev (fun k => railplanref11_Duration.f k per ev acts t j) ((acts.getD j z40).f3 + sl per t (acts.getD j z40)) := by
 obtain ⟨c, ⟨K, hK⟩, hc⟩ := rgood_ev per ev acts t
 dsimp only at hK
 obtain rfl : c = true := hc.mpr ⟨h, ht⟩
 have a1 := h.a1
 refine ⟨K, fun k hk => ?_⟩
 have q1 : (j : Int) < (acts.length : Int) := by omega
 have q2 : (0 : Int) ≤ (j : Int) := by omega
 have el : Aside0 (wrap64 ((acts.length : Int) - 1) = (acts.length : Int) - 1) := ⟨wrap64_id (by omega) (by omega)⟩
 unfold railplanref11_Duration.f; dsimp only
 rw [hK k hk]
 simp only [Option.bind_some, if_true]
 rw [el.out, in_some, decide_eq_true (by omega)]
 simp only [Option.bind_some, if_true]
 rw [if_pos q2, if_pos q1, show rd_T40 acts (j : Int) = acts.getD j z40 by simp [rd_T40], rLasts_some h ht _ (getD_mem hj)]
 rfl
end Go.Proofs.Ytfipfobadpealaa.Pure
