import Derived.Test.YtfipfobadpealaaQPlA
import Derived.Test.YtfipfobadpealaaKW0
import Derived.Test.YtfipfobadpealaaKS
import Derived.Test.YtfipfobadpealaaK5
import Derived.Test.YtfipfobadpealaaK6
import Derived.Test.YtfipfobadpealaaK7
import Derived.Test.YtfipfobadpealaaK8
import Derived.Test.YtfipfobadpealaaK9
namespace Go.Proofs.Ytfipfobadpealaa.Pure
open Go.RowKit Go.Proofs.Ytfipfobadpealaa.PAll Go.Proofs.YtfipfobadpealaaW.PrintWords Go.Proofs.YtfipfobadpealaaW.PrintLast
set_option linter.unusedVariables false

theorem getD_at {α : Type} {l : List α} {j : Nat} (d : α) (h : j < l.length) : l.getD j d = l[j] := by
 simp [List.getD, List.getElem?_eq_getElem h]
theorem getD_mem {α : Type} {l : List α} {j : Nat} {d : α} (h : j < l.length) : l.getD j d ∈ l := by
 rw [getD_at d h]
 exact List.getElem_mem h
theorem getD_set {α : Type} (l : List α) (i j : Nat) (x d : α) (hi : i < l.length) : (l.set i x).getD j d = if i = j then x else l.getD j d := by
 by_cases h : i = j
 ·subst h
  rw [if_pos rfl, getD_at d (by simpa using hi)]
  simp
 ·rw [if_neg h]
  simp [List.getD, List.getElem?_set_ne h]
theorem all_of_getD {α : Type} (d : α) {l : List α} {P : α → Prop} (h : ∀ j, j < l.length → P (l.getD j d)) : ∀ a ∈ l, P a := by
 intro a ha
 obtain ⟨j, hj, rfl⟩ := List.mem_iff_getElem.mp ha
 have := h j hj
 rwa [getD_at d hj] at this

/-! ### valid networks, good times -/
structure NV (per : Int) (ev : List S59) (acts : List S40) : Prop where
 p0 : 2 ≤ per
 p1 : per ≤ 7200
 e1 : ev.length ≤ 48
 a1 : acts.length ≤ 512
 ok : ∀ a ∈ acts, 0 ≤ a.f1 ∧ a.f1 < ev.length ∧ 0 ≤ a.f2 ∧ a.f2 < ev.length ∧ a.f1 ≠ a.f2 ∧ -65536 ≤ a.f3 ∧ a.f3 ≤ a.f4 ∧ a.f4 ≤ 65536 ∧ a.f4 - a.f3 < per ∧ 0 ≤ a.f5 ∧ a.f5 ≤ 1048576
theorem NetOk.nv {per : Int} {ev : List S59} {acts : List S40} (h : NetOk per ev acts) : NV per ev acts := by
 obtain ⟨p0, p1, e0, e1, a1, ok⟩ := h
 refine ⟨p0, by omega, by omega, by omega, fun a ha => ?_⟩
 obtain ⟨h1, h2, h3, h4, h5, h6, h7, h8, h9, h10, h11, _, _⟩ := ok a ha
 exact ⟨h1, h2, h3, h4, h5, by omega, h8, by omega, h9, h10, by omega⟩
theorem actBad_iff (last per : Int) (x : S40) (hp : 2 ≤ per ∧ per ≤ 7200) : actBad last per x = false ↔ 0 ≤ x.f1 ∧ x.f1 ≤ last ∧ 0 ≤ x.f2 ∧ x.f2 ≤ last ∧ x.f1 ≠ x.f2 ∧ -65536 ≤ x.f3 ∧ x.f3 ≤ x.f4 ∧ x.f4 ≤ 65536 ∧ x.f4 - x.f3 < per ∧ 0 ≤ x.f5 ∧ x.f5 ≤ 1048576 := by
 unfold actBad
 simp only [Bool.or_eq_false_iff, Bool.not_eq_false', Bool.and_eq_true, decide_eq_true_eq, decide_eq_false_iff_not, beq_eq_false_iff_ne]
 constructor
 ·rintro ⟨⟨⟨⟨⟨⟨⟨⟨a, b⟩, c, d⟩, e⟩, f⟩, g⟩, h⟩, i⟩, j, k⟩
  have : wrap64 (x.f4 - x.f3) = x.f4 - x.f3 := wrap64_id (by omega) (by omega)
  rw [this] at i
  exact ⟨a, b, c, d, e, by omega, by omega, by omega, by omega, j, k⟩
 ·rintro ⟨a, b, c, d, e, f, g, h, i, j, k⟩
  have : wrap64 (x.f4 - x.f3) = x.f4 - x.f3 := wrap64_id (by omega) (by omega)
  rw [this]
  exact ⟨⟨⟨⟨⟨⟨⟨⟨a, b⟩, c, d⟩, e⟩, by omega⟩, by omega⟩, by omega⟩, by omega⟩, j, k⟩
theorem check_dec (per : Int) (ev : List S59) (acts : List S40) : ∃ b, network_Check.f per ev acts = some b ∧ (b = true ↔ NV per ev acts) := by
 unfold network_Check.f
 by_cases h : (decide (2 ≤ per) && decide (per ≤ 7200) && decide (ev.length ≤ 48) && decide (acts.length ≤ 512)) = true
 ·rw [if_pos h]
  simp only [Bool.and_eq_true, decide_eq_true_eq] at h
  obtain ⟨⟨⟨p0, p1⟩, e1⟩, a1⟩ := h
  refine ⟨_, rfl, ?_⟩
  rw [Bool.not_eq_true', List.any_eq_false]
  constructor
  ·intro h
   refine ⟨p0, p1, e1, a1, fun a ha => ?_⟩
   have := (actBad_iff _ _ _ ⟨p0, p1⟩).mp (by simpa using h a ha)
   obtain ⟨a, b, c, d, e, f⟩ := this
   exact ⟨a, by omega, c, by omega, e, f⟩
  ·rintro ⟨_, _, _, _, ok⟩ a ha
   obtain ⟨a, b, c, d, e, f⟩ := ok a ha
   simpa using (actBad_iff _ _ _ ⟨p0, p1⟩).mpr ⟨a, by omega, c, by omega, e, f⟩
 ·rw [if_neg h]
  refine ⟨_, rfl, by simp, fun hn => ?_⟩
  exact absurd (by obtain ⟨a, b, c, d, _⟩ := hn; simp [a, b, c, d]) h
def GoodT (per : Int) (m : Nat) (t : List Int) : Prop := t.length = m ∧ ∀ x ∈ t, 0 ≤ x ∧ x < per
theorem good_dec (per : Int) (ev : List S59) (acts : List S40) (t : List Int) : ∃ b, network_Good.f per ev acts t = some b ∧ (b = true ↔ NV per ev acts ∧ GoodT per ev.length t) := by
 obtain ⟨b, hb, hi⟩ := check_dec per ev acts
 unfold network_Good.f
 rw [hb]
 refine ⟨_, rfl, ?_⟩
 simp only [Bool.and_eq_true, decide_eq_true_eq, Bool.not_eq_true', hi, List.any_eq_false]
 constructor
 ·rintro ⟨⟨h1, h2⟩, h3⟩
  refine ⟨h1, h2, fun x hx => ?_⟩
  have := h3 x hx
  simp [timeBad] at this
  omega
 ·rintro ⟨h1, h2, h3⟩
  refine ⟨⟨h1, h2⟩, fun x hx => ?_⟩
  have := h3 x hx
  simp [timeBad]
  omega
theorem mod_some (a b : Int) (h0 : 1 ≤ b) (h1 : b ≤ 4611686018427387904) : arith_Mod.f a b = some (a % b) := by
 unfold arith_Mod.f
 rw [if_neg (by omega), if_neg (by omega)]
 by_cases h : Int.tmod a b < 0
 ·rw [if_pos h]
  have hl := Int.lt_tmod_of_pos a (show 0 < b by omega)
  rw [wrap64_id (by omega) (by omega)]
  have e : a % b = Int.tmod a b + b := by
   have h2 : a < 0 := by
    rcases Int.lt_or_le a 0 with h3 | h3
    ·exact h3
    ·have := Int.tmod_nonneg b h3; omega
   have e1 : (Int.tmod a b + b) % b = a % b := by
    rw [Int.add_emod_right]
    have := Int.tmod_add_mul_tdiv a b
    rw [← this]
    conv => rhs; rw [Int.add_mul_emod_self_left]
    rw [this]
   rw [← e1, Int.emod_eq_of_lt (by omega) (by omega)]
  rw [e]
 ·rw [if_neg h]
  have e : a % b = Int.tmod a b := by
   have h2 := Int.tmod_lt_of_pos a (show 0 < b by omega)
   have e1 : (Int.tmod a b) % b = a % b := by
    have := Int.tmod_add_mul_tdiv a b
    conv => rhs; rw [← this, Int.add_mul_emod_self_left]
   rw [← e1, Int.emod_eq_of_lt (by omega) h2]
  rw [e]
/-- the slack of an activity. -/
def sl (per : Int) (t : List Int) (a : S40) : Int := (rd t a.f2 - rd t a.f1 - a.f3) % per
theorem sl_range {per : Int} (t : List Int) (a : S40) (h : 2 ≤ per) : 0 ≤ sl per t a ∧ sl per t a < per :=
 ⟨Int.emod_nonneg _ (by omega), Int.emod_lt_of_pos _ (by omega)⟩
theorem rd_good {per : Int} {m : Nat} {t : List Int} (h : GoodT per m t) {i : Int} (h0 : 0 ≤ i) (h1 : i < m) : 0 ≤ rd t i ∧ rd t i < per := by
 obtain ⟨hl, hx⟩ := h
 exact hx _ (getD_mem (by omega))
theorem Lasts_some {per : Int} {ev : List S59} {acts : List S40} {t : List Int} (h : NV per ev acts) (ht : GoodT per ev.length t) (a : S40) (ha : a ∈ acts) :
  network_Lasts.f per a.f0 a.f1 a.f2 a.f3 a.f4 a.f5 (rd t a.f1) (rd t a.f2) = some (a.f3 + sl per t a) := by
 obtain ⟨h1, h2, h3, h4, h5, h6, h7, h8, h9, h10, h11⟩ := h.ok a ha
 have p0 := h.p0; have p1 := h.p1
 have r1 := rd_good ht h1 h2
 have r2 := rd_good ht h3 h4
 have hs := sl_range t a p0
 unfold network_Lasts.f
 rw [wrap64_id (x := rd t a.f2 - rd t a.f1) (by omega) (by omega), wrap64_id (x := rd t a.f2 - rd t a.f1 - a.f3) (by omega) (by omega), mod_some _ _ (by omega) (by omega)]
 simp only [Option.bind_some]
 rw [show (rd t a.f2 - rd t a.f1 - a.f3) % per = sl per t a from rfl, wrap64_id (by omega) (by omega)]
theorem lasts_some {per : Int} {ev : List S59} {acts : List S40} {t : List Int} (h : NV per ev acts) (ht : GoodT per ev.length t) (a : S40) (ha : a ∈ acts) :
  network_lasts.f per ev acts t a.f0 a.f1 a.f2 a.f3 a.f4 a.f5 = some (a.f3 + sl per t a) := by
 obtain ⟨h1, h2, h3, h4, h5, h6, h7, h8, h9, h10, h11⟩ := h.ok a ha
 have hl := ht.1
 unfold network_lasts.f
 rw [if_pos h1, if_pos (by omega), if_pos h3, if_pos (by omega), Lasts_some h ht a ha]
 rfl
theorem slack_some {per : Int} {ev : List S59} {acts : List S40} {t : List Int} (h : NV per ev acts) (ht : GoodT per ev.length t) (a : S40) (ha : a ∈ acts) :
  robust_slack.f per ev acts t a.f0 a.f1 a.f2 a.f3 a.f4 a.f5 = some (sl per t a) := by
 obtain ⟨h1, h2, h3, h4, h5, h6, h7, h8, h9, h10, h11⟩ := h.ok a ha
 have hl := ht.1
 have p1 := h.p1
 have hs := sl_range t a h.p0
 unfold robust_slack.f
 rw [if_pos h1, if_pos (by omega), if_pos h3, if_pos (by omega), Lasts_some h ht a ha]
 simp only [Option.bind_some]
 rw [show a.f3 + sl per t a - a.f3 = sl per t a by omega, wrap64_id (by omega) (by omega)]
theorem findO_some {α : Type} (p : α → Option Bool) (q : α → Bool) : ∀ (l : List α), (∀ x ∈ l, p x = some (q x)) → ∃ r, findO p l = some r ∧ decide (0 ≤ r) = l.any q
 | [], _ => ⟨-1, rfl, rfl⟩
 | x :: l, h => by
  obtain ⟨r, hr, he⟩ := findO_some p q l (fun y hy => h y (List.mem_cons_of_mem _ hy))
  have hge := findO_ge _ l r hr
  have hx := h x (List.mem_cons_self)
  cases hp : q x with
  | true => exact ⟨0, by simp [findO, hx, hp], by simp [hp]⟩
  | false =>
   refine ⟨if r < 0 then r else r + 1, by simp [findO, hx, hp, hr], ?_⟩
   rw [List.any_cons, hp, Bool.false_or, ← he]
   by_cases h : r < 0
   ·rw [if_pos h]
   ·rw [if_neg h, decide_eq_true (by omega), decide_eq_true (by omega)]
def Feas (per : Int) (ev : List S59) (acts : List S40) (t : List Int) : Prop := NV per ev acts ∧ GoodT per ev.length t ∧ ∀ a ∈ acts, a.f3 + sl per t a ≤ a.f4
theorem feas_dec (per : Int) (ev : List S59) (acts : List S40) (t : List Int) : ∃ b, network_Feasible.f per ev acts t = some b ∧ (b = true ↔ Feas per ev acts t) := by
 obtain ⟨g, hg, hi⟩ := good_dec per ev acts t
 unfold network_Feasible.f network_First.f
 rw [hg]
 cases g with
 | false =>
  refine ⟨false, rfl, by simp, fun h => ?_⟩
  exact absurd (hi.mpr ⟨h.1, h.2.1⟩) (by simp)
 | true =>
  obtain ⟨hn, ht⟩ := hi.mp rfl
  obtain ⟨r, hr, he⟩ := findO_some (firstBad per ev acts t) (fun a => decide (a.f4 < a.f3 + sl per t a)) acts (fun a ha => by
   unfold firstBad
   rw [lasts_some hn ht a ha]
   rfl)
  simp only [Option.bind_some, if_true]
  rw [hr]
  simp only [Option.bind_some]
  rw [he]
  cases hx : acts.any (fun a => decide (a.f4 < a.f3 + sl per t a)) with
  | true =>
   refine ⟨false, rfl, by simp, fun h => ?_⟩
   obtain ⟨a, ha, h2⟩ := List.any_eq_true.mp hx
   have := h.2.2 a ha
   simp at h2
   omega
  | false =>
   refine ⟨true, rfl, fun _ => ⟨hn, ht, fun a ha => ?_⟩, fun _ => rfl⟩
   have := List.any_eq_false.mp hx a ha
   simp at this
   omega
end Go.Proofs.Ytfipfobadpealaa.Pure
