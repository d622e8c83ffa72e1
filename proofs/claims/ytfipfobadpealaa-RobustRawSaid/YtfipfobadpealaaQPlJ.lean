import Derived.Test.YtfipfobadpealaaQPlL
import Derived.Test.YtfipfobadpealaaQPlI
import Derived.Test.YtfipfobadpealaaKW0
import Derived.Test.YtfipfobadpealaaKS
import Derived.Test.YtfipfobadpealaaK11
import Derived.Test.YtfipfobadpealaaK14
import Derived.Test.YtfipfobadpealaaK16
import Derived.Test.YtfipfobadpealaaK26
import Derived.Test.YtfipfobadpealaaK27
import Derived.Test.YtfipfobadpealaaK29
import Derived.Test.YtfipfobadpealaaK30
import Derived.Test.YtfipfobadpealaaK31
import Derived.Test.YtfipfobadpealaaK32
import Derived.Test.YtfipfobadpealaaK34
import Derived.Test.YtfipfobadpealaaK35
import Derived.Test.YtfipfobadpealaaK36
import Derived.Test.YtfipfobadpealaaK37
namespace Go.Proofs.Ytfipfobadpealaa.Pure
open Go.RowKit Go.Proofs.Ytfipfobadpealaa.PAll Go.Proofs.YtfipfobadpealaaW.PrintWords Go.Proofs.YtfipfobadpealaaW.PrintLast
set_option linter.unusedVariables false

/-! ### feasible, by the reference -/
theorem rfirst_l0 {per : Int} {ev : List S59} {acts : List S40} {t : List Int} (hv : NV per ev acts) (ht : GoodT per ev.length t) (d : Nat) :
  ∀ (j : Nat), acts.length - j = d → j ≤ acts.length → ∃ i b, Ev (fun k => railplanref11_First.l0 k t j per ev acts) (i, b) ∧ (b = false ↔ ∀ q, j ≤ q → q < acts.length → (acts.getD q z40).f3 + sl per t (acts.getD q z40) ≤ (acts.getD q z40).f4) := by
 induction d with
 | zero =>
  intro j hd hj
  refine ⟨0, false, ⟨1, fun k hk => ?_⟩, fun _ q h1 h2 => by omega, fun _ => rfl⟩
  obtain ⟨k, rfl⟩ : ∃ m, k = m + 1 := ⟨k - 1, by omega⟩
  simp only [railplanref11_First.l0]
  rw [if_neg (by omega)]
 | succ d ih =>
  intro j hd hj
  have hj' : j < acts.length := by omega
  have a1 := hv.a1
  have q1 : (j : Int) < (acts.length : Int) := by omega
  have q2 : (0 : Int) ≤ (j : Int) := by omega
  have ex : Aside0 (wrap64 ((j : Int) + 1) = ((j + 1 : Nat) : Int)) := ⟨by rw [wrap64_id (by omega) (by omega)]; rfl⟩
  have hmem : acts.getD j z40 ∈ acts := getD_mem hj'
  have hs := rLasts_some hv ht _ hmem
  have erd : rd_T40 acts (j : Int) = acts.getD j z40 := by simp [rd_T40]
  obtain ⟨i, b, hE, hb⟩ := ih (j + 1) (by omega) (by omega)
  generalize hA : acts.getD j z40 = a at *
  by_cases h : a.f3 + sl per t a > a.f4
  ·refine ⟨j, true, ⟨1, fun k hk => ?_⟩, (fun e => by cases e), fun e => ?_⟩
   ·obtain ⟨k, rfl⟩ : ∃ m, k = m + 1 := ⟨k - 1, by omega⟩
    simp only [railplanref11_First.l0]
    rw [if_pos q1, if_pos q2, erd, hs]
    simp only [Option.bind_some]
    rw [if_pos h]
   ·have := e j (Nat.le_refl _) hj'
    rw [hA] at this
    omega
  ·refine ⟨i, b, Ev.step (fun k => ?_) hE, ?_⟩
   ·simp only [railplanref11_First.l0]
    rw [if_pos q1, if_pos q2, erd, hs]
    simp only [Option.bind_some]
    rw [if_neg h, ex.out]
   ·rw [hb]
    constructor
    ·intro e q h1 h2
     by_cases e2 : q = j
     ·rw [e2, hA]; omega
     ·exact e q (by omega) h2
    ·intro e q h1 h2
     exact e q (by omega) h2
theorem rfeas_ev (per : Int) (ev : List S59) (acts : List S40) (t : List Int) : ∃ b, Ev (fun k => railplanref11_Feasible.f k per ev acts t) b ∧ (b = true ↔ Feas per ev acts t) := by
 obtain ⟨g, ⟨K, hK⟩, hg⟩ := rgood_ev per ev acts t
 dsimp only at hK
 cases g with
 | false =>
  refine ⟨false, ⟨K, fun k hk => ?_⟩, (fun e => by cases e), fun h => by have := hg.mpr ⟨h.1, h.2.1⟩; cases this⟩
  unfold railplanref11_Feasible.f railplanref11_First.f; dsimp only
  rw [hK k hk]
  rfl
 | true =>
  obtain ⟨hv, ht⟩ := hg.mp rfl
  obtain ⟨i, b, ⟨K2, hE⟩, hb⟩ := rfirst_l0 hv ht acts.length 0 (by omega) (by omega)
  dsimp only at hE
  refine ⟨!b, ⟨K + K2, fun k hk => ?_⟩, ?_⟩
  ·unfold railplanref11_Feasible.f railplanref11_First.f; dsimp only
   rw [hK k (by omega)]
   simp only [Option.bind_some, if_true]
   have := hE k (by omega)
   rw [show ((0 : Nat) : Int) = 0 from rfl] at this
   rw [this]
   rfl
  ·rw [Bool.not_eq_true', hb]
   constructor
   ·intro h
    refine ⟨hv, ht, fun a ha => ?_⟩
    obtain ⟨q, hq, rfl⟩ := List.mem_iff_getElem.mp ha
    have := h q (by omega) hq
    rwa [getD_at z40 hq] at this
   ·intro h q _ hq
    exact h.2.2 _ (getD_mem hq)
theorem rin_some (a b c : Int) : railplanref19_in.f a b c = some (decide (b ≤ a ∧ a ≤ c)) := in_some a b c
/-! ### lists that are the same -/
theorem same_l0 (l : List Int) (hl : l.length ≤ 140737488351232) (d : Nat) : ∀ x : Nat, l.length - x = d → x ≤ l.length → Ev (fun k => railplankeep_Same_int.l0 k l l l.length x) true := by
 induction d with
 | zero =>
  intro x hd hx
  refine ⟨1, fun k hk => ?_⟩
  obtain ⟨k, rfl⟩ : ∃ m, k = m + 1 := ⟨k - 1, by omega⟩
  simp only [railplankeep_Same_int.l0]
  rw [if_neg (by omega)]
 | succ d ih =>
  intro x hd hx
  have q1 : (x : Int) < (l.length : Int) := by omega
  have q2 : (0 : Int) ≤ (x : Int) := by omega
  have ex : Aside0 (wrap64 ((x : Int) + 1) = ((x + 1 : Nat) : Int)) := ⟨by rw [wrap64_id (by omega) (by omega)]; rfl⟩
  refine Ev.step (fun k => ?_) (ih (x + 1) (by omega) (by omega))
  simp only [railplankeep_Same_int.l0]
  rw [if_pos q1, if_pos q2, if_pos q1, if_pos q1, if_pos trivial, ex.out]
theorem same_ev (l : List Int) (hl : l.length ≤ 140737488351232) : Ev (fun k => railplankeep_Same_int.f k l l) true := by
 refine Ev.congr (fun k => ?_) (same_l0 l hl l.length 0 (by omega) (by omega))
 unfold railplankeep_Same_int.f
 rw [if_pos rfl]
 rfl
/-! ### each function, by both texts -/
theorem cushion_both (per : Int) (ev : List S59) (acts : List S40) (t : List Int) (a : Int) : ∃ r, robust_Cushion.f per ev acts t a = some r ∧ Ev (fun k => railplanref19_Cushion.f k per ev acts t a) r := by
 obtain ⟨b, hb, hi⟩ := feas_dec per ev acts t
 obtain ⟨c, ⟨K, hK⟩, hc⟩ := rfeas_ev per ev acts t
 dsimp only at hK
 by_cases hF : Feas per ev acts t
 ·obtain rfl := hi.mpr hF
  obtain rfl := hc.mpr hF
  have a1 := hF.1.a1
  have el : Aside0 (wrap64 ((acts.length : Int) - 1) = (acts.length : Int) - 1) := ⟨wrap64_id (by omega) (by omega)⟩
  by_cases ha : 0 ≤ a ∧ a < acts.length
  ·obtain ⟨j, rfl⟩ := Int.eq_ofNat_of_zero_le ha.1
   have hj : j < acts.length := by omega
   have hmem : acts.getD j z40 ∈ acts := getD_mem hj
   have erd : rd_T40 acts (j : Int) = acts.getD j z40 := by simp [rd_T40]
   have s1 := slack_some hF.1 hF.2.1 _ hmem
   have s2 := rLasts_some hF.1 hF.2.1 _ hmem
   have hsr := sl_range t (acts.getD j z40) hF.1.p0
   have p1 := hF.1.p1
   have n1 : ¬ (j : Int) < 0 := by omega
   have n2 : ¬ (j : Int) ≥ (acts.length : Int) := by omega
   have n3 : (0 : Int) ≤ (j : Int) := by omega
   have n4 : (j : Int) < (acts.length : Int) := by omega
   have n5 : (0 : Int) ≤ (j : Int) ∧ (j : Int) ≤ (acts.length : Int) - 1 := by omega
   generalize acts.getD j z40 = x at *
   have w2 : Aside0 (wrap64 (x.f3 + sl per t x - x.f3) = sl per t x) := ⟨by rw [wrap64_id (by omega) (by omega)]; omega⟩
   refine ⟨(sl per t x, 0), ?_, ⟨K, fun k hk => ?_⟩⟩
   ·unfold robust_Cushion.f
    rw [hb]
    simp only [Option.bind_some, if_true]
    rw [if_neg n1, if_neg n2, if_pos n3, if_pos n4, erd, s1]
    rfl
   ·unfold railplanref19_Cushion.f; dsimp only
    rw [hK k hk]
    simp only [Option.bind_some, if_true]
    rw [el.out, rin_some, decide_eq_true n5]
    simp only [Option.bind_some, if_true]
    rw [if_pos n3, if_pos n4, erd, s2]
    simp only [Option.bind_some]
    rw [w2.out]
  ·refine ⟨(0, 4), ?_, ⟨K, fun k hk => ?_⟩⟩
   ·unfold robust_Cushion.f
    rw [hb]
    simp only [Option.bind_some, if_true]
    by_cases h1 : a < 0
    ·rw [if_pos h1]
    ·rw [if_neg h1, if_pos (by omega)]
   ·have n5 : ¬ (0 ≤ a ∧ a ≤ (acts.length : Int) - 1) := by omega
    unfold railplanref19_Cushion.f; dsimp only
    rw [hK k hk]
    simp only [Option.bind_some, if_true]
    rw [el.out, rin_some, decide_eq_false n5]
    simp
 ·obtain rfl : b = false := by cases b; rfl; exact absurd (hi.mp rfl) hF
  obtain rfl : c = false := by cases c; rfl; exact absurd (hc.mp rfl) hF
  refine ⟨(0, 1), ?_, ⟨K, fun k hk => ?_⟩⟩
  ·unfold robust_Cushion.f
   rw [hb]
   simp
  ·unfold railplanref19_Cushion.f; dsimp only
   rw [hK k hk]
   simp
theorem distance_both (per : Int) (ev : List S59) (acts : List S40) (t : List Int) (i j : Int) : ∃ r, Ev (fun k => robust_Distance.f k per ev acts t i j) r ∧ Ev (fun k => railplanref19_Distance.f k per ev acts t i j) r := by
 obtain ⟨b, hb, hi⟩ := feas_dec per ev acts t
 obtain ⟨c, ⟨K, hK⟩, hc⟩ := rfeas_ev per ev acts t
 dsimp only at hK
 have stop : ∀ k x11, railplanref19_Distance.j0 (k + 1) t i j x11 true per ev acts = some (0, false, 4) := fun k x11 => by simp [railplanref19_Distance.j0]
 by_cases hF : Feas per ev acts t
 ·obtain rfl := hi.mpr hF
  obtain rfl := hc.mpr hF
  have e1 := hF.1.e1
  have el : Aside0 (wrap64 ((ev.length : Int) - 1) = (ev.length : Int) - 1) := ⟨wrap64_id (by omega) (by omega)⟩
  by_cases h1 : 0 ≤ i ∧ i < ev.length
  ·have m1 : 0 ≤ i ∧ i ≤ (ev.length : Int) - 1 := by omega
   by_cases h2 : 0 ≤ j ∧ j < ev.length
   ·have m2 : 0 ≤ j ∧ j ≤ (ev.length : Int) - 1 := by omega
    obtain ⟨u, rfl⟩ := Int.eq_ofNat_of_zero_le h1.1
    obtain ⟨v, rfl⟩ := Int.eq_ofNat_of_zero_le h2.1
    have hu : u < ev.length := by omega
    have hv : v < ev.length := by omega
    obtain ⟨D, ⟨K2, hD⟩, hl, hS⟩ := rdistances_ev hF.1 hF.2.1
    dsimp only at hD
    have nn := fw_NN2 e1 (edges_NN (t := t) hF.1.p0 hF.1.p1 acts) ev.length (Nat.le_refl _) u v hu hv
    change F per ev.length acts t u v = -1 ∨ 0 ≤ F per ev.length acts t u v ∧ F per ev.length acts t u v ≤ 352800 at nn
    have ix := Aside0.mk (idx_wrap e1 hu hv)
    have j1 := idx_lt hu hv
    have c1 : (0 : Int) ≤ ((u * ev.length + v : Nat) : Int) := by omega
    have c2 : ((u * ev.length + v : Nat) : Int) < ((ev.length * ev.length : Nat) : Int) := by omega
    have erd : rd D ((u * ev.length + v : Nat) : Int) = enc (F per ev.length acts t u v) := by unfold rd; rw [Int.toNat_natCast, hS u v hu hv]
    have hd := distance_ev hF hu hv
    refine ⟨_, hd, ?_⟩
    refine ⟨K + K2 + 1, fun k hk => ?_⟩
    unfold railplanref19_Distance.f; dsimp only
    rw [hK k (by omega)]
    obtain ⟨k, rfl⟩ : ∃ m, k = m + 1 := ⟨k - 1, by omega⟩
    simp only [Option.bind_some, if_true]
    rw [el.out, rin_some, decide_eq_true m1, Option.bind_some, if_pos rfl]
    rw [rin_some, decide_eq_true m2, Option.bind_some]
    simp only [railplanref19_Distance.j0]
    rw [if_neg (by simp), hD k (by omega), Option.bind_some]
    rw [ix.out, if_pos c1, hl, if_pos c2, erd]
    generalize F per ev.length acts t u v = f at *
    by_cases hf : f = -1
    ·subst hf
     simp [enc, mx]
    ·have g : (f != -1) = true := by simpa using hf
     rw [mx_nn (by omega), g]
     unfold enc
     rw [if_neg hf, if_neg (by omega)]
   ·have m2 : ¬ (0 ≤ j ∧ j ≤ (ev.length : Int) - 1) := by omega
    refine ⟨(0, false, 4), ⟨1, fun k hk => ?_⟩, ⟨K + 1, fun k hk => ?_⟩⟩
    ·unfold robust_Distance.f; dsimp only
     rw [hb]
     simp only [Option.bind_some, if_true]
     rw [there_some, decide_eq_true h1, Option.bind_some, if_pos rfl]
     rw [there_some, decide_eq_false h2]
     simp
    ·unfold railplanref19_Distance.f; dsimp only
     rw [hK k (by omega)]
     obtain ⟨k, rfl⟩ : ∃ m, k = m + 1 := ⟨k - 1, by omega⟩
     simp only [Option.bind_some, if_true]
     rw [el.out, rin_some, decide_eq_true m1, Option.bind_some, if_pos rfl]
     rw [rin_some, decide_eq_false m2, Option.bind_some]
     exact stop k (ev.length : Int)
  ·have m1 : ¬ (0 ≤ i ∧ i ≤ (ev.length : Int) - 1) := by omega
   refine ⟨(0, false, 4), ⟨1, fun k hk => ?_⟩, ⟨K + 1, fun k hk => ?_⟩⟩
   ·unfold robust_Distance.f; dsimp only
    rw [hb]
    simp only [Option.bind_some, if_true]
    rw [there_some, decide_eq_false h1]
    simp
   ·unfold railplanref19_Distance.f; dsimp only
    rw [hK k (by omega)]
    obtain ⟨k, rfl⟩ : ∃ m, k = m + 1 := ⟨k - 1, by omega⟩
    simp only [Option.bind_some, if_true]
    rw [el.out, rin_some, decide_eq_false m1]
    simp only [Option.bind_some]
    rw [if_neg (by simp)]
    exact stop k (ev.length : Int)
 ·obtain rfl : b = false := by cases b; rfl; exact absurd (hi.mp rfl) hF
  obtain rfl : c = false := by cases c; rfl; exact absurd (hc.mp rfl) hF
  refine ⟨(0, false, 1), ⟨1, fun k hk => ?_⟩, ⟨K, fun k hk => ?_⟩⟩
  ·unfold robust_Distance.f; dsimp only
   rw [hb]
   simp
  ·unfold railplanref19_Distance.f; dsimp only
   rw [hK k hk]
   simp
theorem rspread_l0 {n i : Nat} (hn : n ≤ 48) (hi : i < n) {delay : Int} (hd0 : 0 ≤ delay) (hd1 : delay ≤ 65536) {f : Nat → Nat → Int} (hf : NN n 352800 f) {D : List Int} (hS : RSt n f D) (d : Nat) :
  ∀ (out : List Int) (x : Nat), n - x = d → x ≤ n → out.length = n → (∀ k, k < n → out.getD k 0 = if k < x then dl0 (f i) delay k else 0) →
  ∃ r, Ev (fun k => railplanref19_Spread.l0 k i delay n D out n x) (r, 0) ∧ r.length = n ∧ ∀ k, k < n → r.getD k 0 = dl (f i) i delay k := by
 induction d with
 | zero =>
  intro out x hd hx hl ho
  refine ⟨out.set i delay, ⟨1, fun k hk => ?_⟩, by simpa using hl, fun k hk => ?_⟩
  ·obtain ⟨k, rfl⟩ : ∃ m, k = m + 1 := ⟨k - 1, by omega⟩
   have q1 : ¬ (x : Int) < (n : Int) := by omega
   have q2 : (0 : Int) ≤ (i : Int) := by omega
   have q3 : (i : Int) < (n : Int) := by omega
   simp only [railplanref19_Spread.l0]
   rw [if_neg q1, hl, if_pos q2, if_pos q3]
   rfl
  ·rw [getD_set _ _ _ _ _ (by omega)]
   unfold dl
   by_cases e : i = k
   ·rw [if_pos e, if_pos e]
   ·rw [if_neg e, if_neg e, ho k hk, if_pos (by omega)]
 | succ d ih =>
  intro out x hd hx hl ho
  have hx' : x < n := by omega
  have q1 : (x : Int) < (n : Int) := by omega
  have q2 : (0 : Int) ≤ (x : Int) := by omega
  have b := hf i x hi hx'
  have ex : Aside0 (wrap64 ((x : Int) + 1) = ((x + 1 : Nat) : Int)) := ⟨by rw [wrap64_id (by omega) (by omega)]; rfl⟩
  have ix := Aside0.mk (idx_wrap hn hi hx')
  have j1 := idx_lt hi hx'
  have c1 : (0 : Int) ≤ ((i * n + x : Nat) : Int) := by omega
  have c2 : ((i * n + x : Nat) : Int) < ((n * n : Nat) : Int) := by omega
  have erd : rd D ((i * n + x : Nat) : Int) = enc (f i x) := by unfold rd; rw [Int.toNat_natCast, hS.2 i x hi hx']
  have hv : Aside0 (mx 0 (wrap64 (delay - enc (f i x))) = dl0 (f i) delay x) := ⟨by
   unfold enc dl0
   by_cases h : f i x = -1
   ·rw [if_pos h, if_pos h, wrap64_id (by omega) (by omega)]
    unfold mx
    rw [if_neg (by omega)]
   ·rw [if_neg h, if_neg h, wrap64_id (by omega) (by omega)]⟩
  obtain ⟨r, hE, hr⟩ := ih (out.set x (dl0 (f i) delay x)) (x + 1) (by omega) (by omega) (by simpa using hl) (fun k hk => by
    rw [getD_set _ _ _ _ _ (by omega), ho k hk]
    by_cases e2 : x = k
    ·rw [if_pos e2, if_pos (by omega), ← e2]
    ·rw [if_neg e2]
     by_cases e : k < x
     ·rw [if_pos e, if_pos (by omega)]
     ·rw [if_neg e, if_neg (by omega)])
  refine ⟨r, Ev.step (fun k => ?_) hE, hr⟩
  simp only [railplanref19_Spread.l0]
  rw [if_pos q1, ix.out, if_pos c1, hS.1, if_pos c2, if_pos q2, hl, if_pos q1, erd, hv.out, ex.out]
  simp only [Int.toNat_natCast]
theorem spread_both (per : Int) (ev : List S59) (acts : List S40) (t : List Int) (i delay : Int) : ∃ r, Ev (fun k => robust_Spread.f k per ev acts t i delay) r ∧ Ev (fun k => railplanref19_Spread.f k per ev acts t i delay) r ∧ r.1.length ≤ 48 := by
 obtain ⟨b, hb, hi⟩ := feas_dec per ev acts t
 obtain ⟨c, ⟨K, hK⟩, hc⟩ := rfeas_ev per ev acts t
 dsimp only at hK
 have stop : ∀ k x10, railplanref19_Spread.j0 (k + 1) t i delay x10 true per ev acts = some ([], 4) := fun k x10 => by simp [railplanref19_Spread.j0]
 have stop2 : ∀ k, robust_Spread.j0 (k + 1) t i delay true per ev acts = some ([], 4) := fun k => by simp [robust_Spread.j0]
 by_cases hF : Feas per ev acts t
 ·obtain rfl := hi.mpr hF
  obtain rfl := hc.mpr hF
  have e1 := hF.1.e1
  have el : Aside0 (wrap64 ((ev.length : Int) - 1) = (ev.length : Int) - 1) := ⟨wrap64_id (by omega) (by omega)⟩
  by_cases h1 : 0 ≤ i ∧ i < ev.length
  ·have m1 : 0 ≤ i ∧ i ≤ (ev.length : Int) - 1 := by omega
   by_cases h2 : 0 ≤ delay ∧ delay ≤ 65536
   ·obtain ⟨u, rfl⟩ := Int.eq_ofNat_of_zero_le h1.1
    have hu : u < ev.length := by omega
    obtain ⟨r, hE, hr1, hr2⟩ := spread_ev hF hu h2.1 h2.2
    obtain ⟨D, ⟨K2, hD⟩, hS⟩ := rdistances_ev hF.1 hF.2.1
    dsimp only at hD
    obtain ⟨s, ⟨K3, hE3⟩, hs1, hs2⟩ := rspread_l0 e1 hu h2.1 h2.2 (fw_NN2 e1 (edges_NN (t := t) hF.1.p0 hF.1.p1 acts) ev.length (Nat.le_refl _)) hS ev.length (List.replicate ev.length 0) 0 (by omega) (by omega) (by simp) (fun k hk => by rw [getD_at 0 (by simpa using hk)]; simp)
    dsimp only at hE3
    obtain rfl : s = r := ext_getD 0 (by omega) (fun k hk => by rw [hs2 k (by omega), hr2 k (by omega)]; rfl)
    have c1 : (0 : Int) ≤ (ev.length : Int) := by omega
    have c2 : ((ev.length : Int) : Int).toNat ≤ 35184372088832 := by omega
    refine ⟨_, hE, ?_, by show s.length ≤ 48; omega⟩
    refine ⟨K + K2 + K3 + 1, fun k hk => ?_⟩
    unfold railplanref19_Spread.f; dsimp only
    rw [hK k (by omega)]
    obtain ⟨k, rfl⟩ : ∃ m, k = m + 1 := ⟨k - 1, by omega⟩
    simp only [Option.bind_some, if_true]
    rw [el.out, rin_some, decide_eq_true m1, Option.bind_some, if_pos rfl]
    rw [rin_some, decide_eq_true h2, Option.bind_some]
    simp only [railplanref19_Spread.j0]
    rw [if_neg (by simp), hD k (by omega)]
    simp only [Option.bind_some]
    rw [if_pos c1, if_pos c2]
    simp only [Int.toNat_natCast, List.length_replicate]
    exact hE3 k (by omega)
   ·refine ⟨([], 4), ⟨1, fun k hk => ?_⟩, ⟨K + 1, fun k hk => ?_⟩, by simp⟩
    ·obtain ⟨k, rfl⟩ : ∃ m, k = m + 1 := ⟨k - 1, by omega⟩
     unfold robust_Spread.f; dsimp only
     rw [hb]
     simp only [Option.bind_some, if_true]
     rw [there_some, decide_eq_true h1, Option.bind_some, if_pos rfl]
     by_cases h3 : delay < 0
     ·rw [if_pos h3]; exact stop2 k
     ·rw [if_neg h3, decide_eq_true (by omega)]; exact stop2 k
    ·unfold railplanref19_Spread.f; dsimp only
     rw [hK k (by omega)]
     obtain ⟨k, rfl⟩ : ∃ m, k = m + 1 := ⟨k - 1, by omega⟩
     simp only [Option.bind_some, if_true]
     rw [el.out, rin_some, decide_eq_true m1, Option.bind_some, if_pos rfl]
     rw [rin_some, decide_eq_false h2, Option.bind_some]
     exact stop k (ev.length : Int)
  ·have m1 : ¬ (0 ≤ i ∧ i ≤ (ev.length : Int) - 1) := by omega
   refine ⟨([], 4), ⟨1, fun k hk => ?_⟩, ⟨K + 1, fun k hk => ?_⟩, by simp⟩
   ·obtain ⟨k, rfl⟩ : ∃ m, k = m + 1 := ⟨k - 1, by omega⟩
    unfold robust_Spread.f; dsimp only
    rw [hb]
    simp only [Option.bind_some, if_true]
    rw [there_some, decide_eq_false h1]
    simp only [Option.bind_some]
    rw [if_neg (by simp)]
    exact stop2 k
   ·unfold railplanref19_Spread.f; dsimp only
    rw [hK k (by omega)]
    obtain ⟨k, rfl⟩ : ∃ m, k = m + 1 := ⟨k - 1, by omega⟩
    simp only [Option.bind_some, if_true]
    rw [el.out, rin_some, decide_eq_false m1]
    simp only [Option.bind_some]
    rw [if_neg (by simp)]
    exact stop k (ev.length : Int)
 ·obtain rfl : b = false := by cases b; rfl; exact absurd (hi.mp rfl) hF
  obtain rfl : c = false := by cases c; rfl; exact absurd (hc.mp rfl) hF
  refine ⟨([], 1), ⟨1, fun k hk => ?_⟩, ⟨K, fun k hk => ?_⟩, by simp⟩
  ·unfold robust_Spread.f; dsimp only
   rw [hb]
   simp
  ·unfold railplanref19_Spread.f; dsimp only
   rw [hK k hk]
   simp
theorem rloop_l0 {n : Nat} (hn : n ≤ 48) {f : Nat → Nat → Int} (hf : NN n 352800 f) {D : List Int} (hS : RSt n f D) (d : Nat) :
  ∀ x : Nat, n - x = d → x ≤ n → Ev (fun k => railplanref19_Loop.l0 k n D (enc (lp (fun i => f i i) x)) x) (mx (lp (fun i => f i i) n) 0, (lp (fun i => f i i) n != -1), 0) := by
 have hlp : ∀ x, x ≤ n → lp (fun i => f i i) x = -1 ∨ (0 ≤ lp (fun i => f i i) x ∧ lp (fun i => f i i) x ≤ 352800) := by
  intro x
  induction x with
  | zero => intro _; exact .inl rfl
  | succ x ih =>
   intro hx
   have h1 := ih (by omega)
   have h2 := hf x x (by omega) (by omega)
   show lst _ _ = -1 ∨ _
   rcases lst_cases (lp (fun i => f i i) x) (f x x) with e | e
   ·rw [show lp (fun i => f i i) (x + 1) = lst (lp (fun i => f i i) x) (f x x) from rfl, e]; exact h1
   ·rw [show lp (fun i => f i i) (x + 1) = lst (lp (fun i => f i i) x) (f x x) from rfl, e]; exact h2
 induction d with
 | zero =>
  intro x hd hx
  obtain rfl : x = n := by omega
  have h := hlp x hx
  refine ⟨1, fun k hk => ?_⟩
  obtain ⟨k, rfl⟩ : ∃ m, k = m + 1 := ⟨k - 1, by omega⟩
  simp only [railplanref19_Loop.l0]
  rw [if_neg (by omega)]
  generalize lp (fun i => f i i) x = L at *
  by_cases hL : L = -1
  ·subst hL; simp [enc, mx]
  ·have g : (L != -1) = true := by simpa using hL
   rw [mx_nn (by omega), g]
   unfold enc
   rw [if_neg hL, if_neg (by omega)]
 | succ d ih =>
  intro x hd hx
  have hx' : x < n := by omega
  have q1 : (x : Int) < (n : Int) := by omega
  have h := hlp x hx
  have b := hf x x hx' hx'
  have ex : Aside0 (wrap64 ((x : Int) + 1) = ((x + 1 : Nat) : Int)) := ⟨by rw [wrap64_id (by omega) (by omega)]; rfl⟩
  have ix := Aside0.mk (idx_wrap hn hx' hx')
  have j1 := idx_lt hx' hx'
  have c1 : (0 : Int) ≤ ((x * n + x : Nat) : Int) := by omega
  have c2 : ((x * n + x : Nat) : Int) < ((n * n : Nat) : Int) := by omega
  have erd : rd D ((x * n + x : Nat) : Int) = enc (f x x) := by unfold rd; rw [Int.toNat_natCast, hS.2 x x hx' hx']
  have em : mn (enc (lp (fun i => f i i) x)) (enc (f x x)) = enc (lp (fun i => f i i) (x + 1)) := by
   show _ = enc (lst _ _)
   by_cases h2 : f x x = -1
   ·show mn _ (enc (f x x)) = enc (lst _ (f x x))
    rw [h2, lst_none]
    have : enc (-1) = 1152921504606846976 := rfl
    rw [this]
    unfold mn enc
    split
    ·split <;> omega
    ·rw [if_neg (by omega)]
   ·rw [show enc (f x x) = f x x by unfold enc; rw [if_neg h2], mn_enc (by omega) (by omega)]
  refine Ev.step (fun k => ?_) (ih (x + 1) (by omega) (by omega))
  simp only [railplanref19_Loop.l0]
  rw [if_pos q1, ix.out, if_pos c1, hS.1, if_pos c2, erd, em, ex.out]
theorem loop_both (per : Int) (ev : List S59) (acts : List S40) (t : List Int) : ∃ r, Ev (fun k => robust_Loop.f k per ev acts t) r ∧ Ev (fun k => railplanref19_Loop.f k per ev acts t) r := by
 obtain ⟨b, hb, hi⟩ := feas_dec per ev acts t
 obtain ⟨c, ⟨K, hK⟩, hc⟩ := rfeas_ev per ev acts t
 dsimp only at hK
 by_cases hF : Feas per ev acts t
 ·obtain rfl := hc.mpr hF
  obtain ⟨D, ⟨K2, hD⟩, hS⟩ := rdistances_ev hF.1 hF.2.1
  dsimp only at hD
  obtain ⟨K3, hE⟩ := rloop_l0 hF.1.e1 (fw_NN2 hF.1.e1 (edges_NN (t := t) hF.1.p0 hF.1.p1 acts) ev.length (Nat.le_refl _)) hS ev.length 0 (by omega) (by omega)
  dsimp only at hE
  have hd := loop_ev hF
  refine ⟨_, hd, ?_⟩
  refine ⟨K + K2 + K3, fun k hk => ?_⟩
  unfold railplanref19_Loop.f; dsimp only
  rw [hK k (by omega), Option.bind_some, if_pos rfl, hD k (by omega), Option.bind_some]
  exact hE k (by omega)
 ·obtain rfl : b = false := by cases b; rfl; exact absurd (hi.mp rfl) hF
  obtain rfl : c = false := by cases c; rfl; exact absurd (hc.mp rfl) hF
  refine ⟨(0, false, 1), ⟨1, fun k hk => ?_⟩, ⟨K, fun k hk => ?_⟩⟩
  ·unfold robust_Loop.f; dsimp only
   rw [hb]
   simp
  ·unfold railplanref19_Loop.f; dsimp only
   rw [hK k hk]
   simp
theorem agrees_ev (per : Int) (ev : List S59) (acts : List S40) (t : List Int) (a i j delay : Int) : Ev (fun k => railplanlaw22_agrees.f k per ev acts t a i j delay) true := by
 obtain ⟨r1, c1, ⟨K1, E1⟩⟩ := cushion_both per ev acts t a
 obtain ⟨r2, ⟨K2, E2⟩, ⟨K3, E3⟩⟩ := distance_both per ev acts t i j
 obtain ⟨r3, ⟨K4, E4⟩, ⟨K5, E5⟩, hl⟩ := spread_both per ev acts t i delay
 obtain ⟨r4, ⟨K6, E6⟩, ⟨K7, E7⟩⟩ := loop_both per ev acts t
 obtain ⟨K8, E8⟩ := same_ev r3.1 (by omega)
 dsimp only at E1 E2 E3 E4 E5 E6 E7 E8
 refine ⟨K1 + K2 + K3 + K4 + K5 + K6 + K7 + K8, fun k hk => ?_⟩
 unfold railplanlaw22_agrees.f; dsimp only
 rw [c1, Option.bind_some]
 rw [E1 k (by omega), Option.bind_some]
 rw [E2 k (by omega), Option.bind_some]
 rw [E3 k (by omega), Option.bind_some]
 rw [E4 k (by omega), Option.bind_some]
 rw [E5 k (by omega), Option.bind_some]
 rw [E6 k (by omega), Option.bind_some]
 rw [E7 k (by omega), Option.bind_some]
 rw [E8 k (by omega)]
 simp
end Go.Proofs.Ytfipfobadpealaa.Pure
