import Derived.Test.YtfipfobadpealaaQPlB
import Derived.Test.YtfipfobadpealaaKW0
import Derived.Test.YtfipfobadpealaaKS
import Derived.Test.YtfipfobadpealaaK0
import Derived.Test.YtfipfobadpealaaK2
import Derived.Test.YtfipfobadpealaaK3
import Derived.Test.YtfipfobadpealaaK8
namespace Go.Proofs.Ytfipfobadpealaa.Pure
open Go.RowKit Go.Proofs.Ytfipfobadpealaa.PAll Go.Proofs.YtfipfobadpealaaW.PrintWords Go.Proofs.YtfipfobadpealaaW.PrintLast
set_option linter.unusedVariables false

/-! ### wide -/
structure WideOk (per : Int) (ev : List S59) (acts : List S40) : Prop extends NetOk per ev acts where
 wide : ∀ a ∈ acts, a.f4 = a.f3 + per - 1
def widen (per : Int) (a : S40) : S40 := ⟨a.f0, a.f1, a.f2, a.f3, a.f3 + per - 1, a.f5⟩
theorem wide_l0 (per : Int) (ev : List S59) (n d : Nat) : ∀ (acts : List S40) (x : Int), acts.length = n → (n : Int) - x = d → 0 ≤ x → NetOk per ev acts → (∀ j : Nat, (j : Int) < x → j < n → (acts.getD j z40).f4 = (acts.getD j z40).f3 + per - 1) →
  ∃ acts', Ev (fun k => railplanlaw22_wide.l0 k n x per ev acts) (per, ev, acts') ∧ WideOk per ev acts' := by
 induction d with
 | zero =>
  intro acts x hn hd hx hok hw
  refine ⟨acts, ⟨1, fun k hk => ?_⟩, ⟨hok, all_of_getD z40 (fun j hj => hw j (by omega) (by omega))⟩⟩
  obtain ⟨k, rfl⟩ : ∃ m, k = m + 1 := ⟨k - 1, by omega⟩
  simp only [railplanlaw22_wide.l0]
  rw [if_neg (by omega)]
 | succ d ih =>
  intro acts x hn hd hx hok hw
  obtain ⟨j, rfl⟩ := Int.eq_ofNat_of_zero_le hx
  have hj : j < n := by omega
  have hmem : acts.getD j z40 ∈ acts := getD_mem (by omega)
  obtain ⟨h1, h2, h3, h4, h5, h6, h7, h8, h9, h10, h11, h12, h13⟩ := hok.ok _ hmem
  have p0 := hok.p0; have p1 := hok.p1; have a1 := hok.a1
  have hset : ∀ i, (acts.set j (widen per (acts.getD j z40))).getD i z40 = if j = i then widen per (acts.getD j z40) else acts.getD i z40 := fun i => getD_set acts j i _ _ (by omega)
  obtain ⟨acts', hE, hW⟩ := ih (acts.set j (widen per (acts.getD j z40))) ((j : Int) + 1) (by simpa using hn) (by omega) (by omega) ⟨hok.p0, hok.p1, hok.e0, hok.e1, by simpa using hok.a1, by
    refine all_of_getD z40 (fun i hi => ?_)
    rw [hset]
    by_cases e : j = i
    ·rw [if_pos e]
     refine ⟨h1, h2, h3, h4, h5, h6, h7, ?_, ?_, h10, h11, h12, h13⟩ <;> simp only [widen] <;> omega
    ·rw [if_neg e]
     exact hok.ok _ (getD_mem (by simpa using hi))⟩ (by
    intro i hi hin
    rw [hset]
    by_cases e : j = i
    ·rw [if_pos e]; rfl
    ·rw [if_neg e]; exact hw i (by omega) hin)
  refine ⟨acts', Ev.step (fun k => ?_) hE, hW⟩
  simp only [railplanlaw22_wide.l0]
  rw [if_pos (by omega), if_pos hx, if_pos (by omega), wrap64_id (x := (j : Int) + 1) (by omega) (by omega)]
  simp only [rd_T40, Int.toNat_natCast]
  rw [wrap64_id (x := (acts.getD j z40).f3 + per) (by omega) (by omega), wrap64_id (x := (acts.getD j z40).f3 + per - 1) (by omega) (by omega)]
  rfl
theorem wide_ev (l : List Int) (hl : l.length ≤ 140737488351232) : ∃ per ev acts, Ev (fun k => railplanlaw22_wide.f k l) (per, ev, acts) ∧ WideOk per ev acts := by
 obtain ⟨per, ev, acts, hE, hN⟩ := network_ev l hl
 obtain ⟨acts', hE', hW⟩ := wide_l0 per ev acts.length acts.length acts 0 rfl (by omega) (by omega) hN (fun j hj => by omega)
 exact ⟨per, ev, acts', Ev.bind hE hE', hW⟩
/-! ### times -/
theorem times_l0 (l : List Int) (hl : l.length ≤ 140737488351232) (per : Int) (h2 : 2 ≤ per) (h9 : per ≤ 9) (ev : List S59) (acts : List S40) (n : Nat) (hn5 : n ≤ 5) (d : Nat) :
  ∀ (out : List Int) (x i : Int), out.length = n → (n : Int) - x = d → 0 ≤ x → 0 ≤ i → (∀ j : Nat, j < n → 0 ≤ out.getD j 0 ∧ out.getD j 0 < per) →
  ∃ out', Ev (fun k => railplankeep_Times.l0 k out n x per ev acts l i) out' ∧ GoodT per n out' := by
 induction d with
 | zero =>
  intro out x i hn hd hx hi hw
  refine ⟨out, ⟨1, fun k hk => ?_⟩, ⟨hn, all_of_getD 0 (fun j hj => hw j (by omega))⟩⟩
  obtain ⟨k, rfl⟩ : ∃ m, k = m + 1 := ⟨k - 1, by omega⟩
  simp only [railplankeep_Times.l0]
  rw [if_neg (by omega)]
 | succ d ih =>
  intro out x i hn hd hx hi hw
  obtain ⟨j, rfl⟩ := Int.eq_ofNat_of_zero_le hx
  obtain ⟨r, i', e, r0, r1, hi'⟩ := next_some l hl i per hi (by omega) (by omega)
  obtain ⟨out', hE, hG⟩ := ih (out.set j r) ((j : Int) + 1) i' (by simpa using hn) (by omega) (by omega) hi' (by
   intro q hq
   rw [getD_set _ _ _ _ _ (by omega)]
   by_cases e : j = q
   ·rw [if_pos e]; exact ⟨r0, r1⟩
   ·rw [if_neg e]; exact hw q hq)
  refine ⟨out', Ev.step (fun k => ?_) hE, hG⟩
  simp only [railplankeep_Times.l0]
  rw [if_pos (by omega), e]; simp only [Option.bind_some]
  rw [if_pos hx, if_pos (by omega), wrap64_id (x := (j : Int) + 1) (by omega) (by omega)]
  simp only [Int.toNat_natCast]
theorem times_ev (l : List Int) (hl : l.length ≤ 140737488351232) {per : Int} {ev : List S59} {acts : List S40} (h : NetOk per ev acts) : ∃ t, Ev (fun k => railplankeep_Times.f k per ev acts l) t ∧ GoodT per ev.length t := by
 have e1 := h.e1; have p0 := h.p0; have p1 := h.p1
 obtain ⟨t, hE, hG⟩ := times_l0 l hl per p0 p1 ev acts ev.length e1 ev.length (List.replicate ev.length 0) 0 0 (by simp) (by omega) (by omega) (by omega) (by
  intro j hj
  rw [getD_at 0 (by simpa using hj)]
  simp
  omega)
 refine ⟨t, Ev.congr (fun k => ?_) hE, hG⟩
 unfold railplankeep_Times.f railplankeep_From.f
 simp only [Option.bind_some, Int.toNat_natCast, List.length_replicate]
 rw [if_pos (by omega), if_pos (by omega)]
theorem WideOk.feas {per : Int} {ev : List S59} {acts : List S40} (h : WideOk per ev acts) {t : List Int} (ht : GoodT per ev.length t) : Feas per ev acts t := by
 refine ⟨h.toNetOk.nv, ht, fun a ha => ?_⟩
 have := sl_range t a h.p0
 have := h.wide a ha
 omega

/-! ### matrices -/
def at2 (D : List (List Int)) (i k : Nat) : Int := (D.getD i []).getD k 0
structure MatOk (m : Nat) (D : List (List Int)) : Prop where
 len : D.length = m
 row : ∀ i, i < m → (D.getD i []).length = m
theorem MatOk.set {m : Nat} {D : List (List Int)} (h : MatOk m D) {i k : Nat} (hi : i < m) (v : Int) : MatOk m (D.set i ((D.getD i []).set k v)) := by
 refine ⟨by simpa using h.len, fun j hj => ?_⟩
 rw [getD_set _ _ _ _ _ (by rw [h.len]; exact hi)]
 by_cases e : i = j
 ·rw [if_pos e]; simpa using h.row i hi
 ·rw [if_neg e]; exact h.row j hj
theorem MatOk.at_set {m : Nat} {D : List (List Int)} (h : MatOk m D) {i k : Nat} (hi : i < m) (hk : k < m) (v : Int) (i' k' : Nat) : at2 (D.set i ((D.getD i []).set k v)) i' k' = if i = i' ∧ k = k' then v else at2 D i' k' := by
 unfold at2
 rw [getD_set _ _ _ _ _ (by rw [h.len]; exact hi)]
 by_cases e : i = i'
 ·subst e
  rw [if_pos rfl, getD_set _ _ _ _ _ (by rw [h.row i hi]; exact hk)]
  by_cases e2 : k = k' <;> simp [e2]
 ·rw [if_neg e, if_neg (fun x => e x.1)]
/-- the lesser one of two distances; -1: none. -/
def lst (a b : Int) : Int := if a = -1 then b else if b = -1 then a else if b < a then b else a
theorem least_some (a b : Int) : robust_least.f a b = some (lst a b) := by
 unfold robust_least.f lst
 by_cases h : a = -1
 ·rw [if_pos h, if_pos h]
 ·rw [if_neg h, if_neg h]
  by_cases h2 : b = -1
  ·rw [if_pos h2, if_pos h2]
  ·rw [if_neg h2, if_neg h2]
   unfold mn
   by_cases h3 : b < a
   ·rw [if_pos h3]
   ·rw [if_neg h3]
end Go.Proofs.Ytfipfobadpealaa.Pure
