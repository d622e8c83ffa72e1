import Derived.Test.YtfipfobadpealaaKW0
import Derived.Test.YtfipfobadpealaaKS
import Derived.Test.YtfipfobadpealaaK0
import Derived.Test.YtfipfobadpealaaK1
namespace Go.Proofs.Ytfipfobadpealaa.Pure
open Go.RowKit Go.Proofs.Ytfipfobadpealaa.PAll Go.Proofs.YtfipfobadpealaaW.PrintWords Go.Proofs.YtfipfobadpealaaW.PrintLast

set_option linter.unusedVariables false
theorem u64_wrap (n : Int) (h0 : 0 ≤ n) (h1 : n < 18446744073709551616) : IntKind.u64.wrap n = n := by
 simp [IntKind.wrap, IntKind.bits, IntKind.signed]
 omega
theorem u64_wrap_lo (n : Int) : 0 ≤ IntKind.u64.wrap n := by
 simp [IntKind.wrap, IntKind.bits, IntKind.signed]
 omega
theorem u64_wrap_hi (n : Int) : IntKind.u64.wrap n < 18446744073709551616 := by
 simp [IntKind.wrap, IntKind.bits, IntKind.signed]
 omega
theorem pick_some (v n : Int) (h0 : 1 ≤ n) (h1 : n ≤ 4611686018427387904) : ∃ r, railplankeep_Pick.f v n = some r ∧ 0 ≤ r ∧ r < n := by
 unfold railplankeep_Pick.f
 rw [u64_wrap n (by omega) (by omega), if_neg (by omega)]
 have a := u64_wrap_lo v
 have h := Int.tmod_nonneg n a
 have h2 := Int.tmod_lt_of_pos (IntKind.u64.wrap v) (show 0 < n by omega)
 exact ⟨_, rfl, by unfold wrap64; omega, by unfold wrap64; omega⟩
theorem wrap64_id {x : Int} (h0 : -9223372036854775808 ≤ x) (h1 : x ≤ 9223372036854775807) : wrap64 x = x := by
 unfold wrap64
 omega
theorem next_some (l : List Int) (hl : l.length ≤ 140737488351232) (i n : Int) (hi : 0 ≤ i) (h0 : 1 ≤ n) (h1 : n ≤ 4611686018427387904) :
  ∃ r j, railplankeep_Source_Next.f l i n = some (r, j) ∧ 0 ≤ r ∧ r < n ∧ 0 ≤ j := by
 unfold railplankeep_Source_Next.f
 by_cases h : i ≥ (l.length : Int)
 ·rw [if_pos h]
  exact ⟨0, i, rfl, by omega, by omega, hi⟩
 ·rw [if_neg h]
  have e1 : wrap64 (i + 1) = i + 1 := wrap64_id (by omega) (by omega)
  have e2 : wrap64 (i + 1 - 1) = i := by rw [wrap64_id (by omega) (by omega)]; omega
  rw [e1, e2, if_pos hi, if_pos (by omega)]
  obtain ⟨r, hr, hr0, hr1⟩ := pick_some (rd l i) n h0 h1
  rw [hr]
  exact ⟨r, i + 1, rfl, hr0, hr1, by omega⟩

/-- An activity as the generator makes it. -/
def ActOk (per : Int) (m : Nat) (a : S40) : Prop :=
 0 ≤ a.f1 ∧ a.f1 < m ∧ 0 ≤ a.f2 ∧ a.f2 < m ∧ a.f1 ≠ a.f2 ∧ -per ≤ a.f3 ∧ a.f3 < 2 * per ∧ a.f3 ≤ a.f4 ∧ a.f4 - a.f3 < per ∧ 0 ≤ a.f5 ∧ a.f5 < 5 ∧ 1 ≤ a.f0 ∧ a.f0 ≤ 6
structure NetOk (per : Int) (ev : List S59) (acts : List S40) : Prop where
 p0 : 2 ≤ per
 p1 : per ≤ 9
 e0 : 1 ≤ ev.length
 e1 : ev.length ≤ 5
 a1 : acts.length ≤ 8
 ok : ∀ a ∈ acts, ActOk per ev.length a

theorem net_j2_step (l : List Int) (hl : l.length ≤ 140737488351232) (per : Int) (h2 : 2 ≤ per) (h9 : per ≤ 9) (ev : List S59) (hev : ev.length ≤ 5) (acts : List S40) (ha : acts.length ≤ 8) (hok : ∀ a ∈ acts, ActOk per ev.length a) (x7 i : Int) (hi : 0 ≤ i) (h7 : 0 < x7) (h7' : x7 ≤ 9) (hm : 1 < ev.length) :
  ∃ a j, ActOk per ev.length a ∧ 0 ≤ j ∧ ∀ k, railplankeep_Network.j2 (k + 1) ev.length x7 true l i per ev acts = railplankeep_Network.l1 k ev.length (x7 - 1) l j per ev (acts ++ [a]) := by
 have hm' : (1 : Int) < (ev.length : Int) := by omega
 obtain ⟨r1, j1, e1, r10, r11, hj1⟩ := next_some l hl i 6 hi (by omega) (by omega)
 obtain ⟨r2, j2, e2, r20, r21, hj2⟩ := next_some l hl j1 (ev.length : Int) hj1 (by omega) (by omega)
 obtain ⟨r3, j3, e3, r30, r31, hj3⟩ := next_some l hl j2 5 hj2 (by omega) (by omega)
 obtain ⟨r4, j4, e4, r40, r41, hj4⟩ := next_some l hl j3 ((ev.length : Int) - 1) hj3 (by omega) (by omega)
 obtain ⟨r5, j5, e5, r50, r51, hj5⟩ := next_some l hl j4 (3 * per) hj4 (by omega) (by omega)
 obtain ⟨r6, j6, e6, r60, r61, hj6⟩ := next_some l hl j5 per hj5 (by omega) (by omega)
 have w1 : wrap64 ((ev.length : Int) - 1) = (ev.length : Int) - 1 := wrap64_id (by omega) (by omega)
 have w2 : wrap64 (3 * per) = 3 * per := wrap64_id (by omega) (by omega)
 have w3 : wrap64 (r2 + 1) = r2 + 1 := wrap64_id (by omega) (by omega)
 have w4 : wrap64 (r2 + 1 + r4) = r2 + 1 + r4 := wrap64_id (by omega) (by omega)
 have w5 : wrap64 (r5 - per) = r5 - per := wrap64_id (by omega) (by omega)
 have w6 : wrap64 (r5 - per + r6) = r5 - per + r6 := wrap64_id (by omega) (by omega)
 have w7 : wrap64 (1 + r1) = 1 + r1 := wrap64_id (by omega) (by omega)
 have w8 : wrap64 (x7 - 1) = x7 - 1 := wrap64_id (by omega) (by omega)
 refine ⟨⟨1 + r1, r2, Int.tmod (r2 + 1 + r4) ev.length, r5 - per, r5 - per + r6, r3⟩, j6, ?_, hj6, ?_⟩
 ·have t0 := Int.tmod_nonneg (ev.length : Int) (show 0 ≤ r2 + 1 + r4 by omega)
  have t1 := Int.tmod_lt_of_pos (r2 + 1 + r4) (show 0 < (ev.length : Int) by omega)
  have t2 : Int.tmod (r2 + 1 + r4) ev.length ≠ r2 := by
   rw [Int.tmod_eq_emod_of_nonneg (by omega)]
   rcases (by omega : r2 + 1 + r4 < ev.length ∨ ev.length ≤ r2 + 1 + r4) with h | h
   ·rw [Int.emod_eq_of_lt (by omega) h]; omega
   ·rw [← Int.sub_emod_right, Int.emod_eq_of_lt (by omega) (by omega)]; omega
  refine ⟨r20, r21, t0, t1, fun e => t2 e.symm, ?_, ?_, ?_, ?_, r30, r31, ?_, ?_⟩ <;> simp only <;> omega
 ·intro k
  simp only [railplankeep_Network.j2, if_true]
  rw [e1]; simp only [Option.bind_some]
  rw [e2]; simp only [Option.bind_some]
  rw [e3]; simp only [Option.bind_some]
  rw [w1, e4]; simp only [Option.bind_some]
  rw [if_neg (by omega), w2, e5]; simp only [Option.bind_some]
  rw [e6]; simp only [Option.bind_some]
  rw [if_pos (by omega), w3, w4, w5, w6, w7, w8]
theorem net_l1 (l : List Int) (hl : l.length ≤ 140737488351232) (per : Int) (h2 : 2 ≤ per) (h9 : per ≤ 9) (ev : List S59) (he0 : 1 ≤ ev.length) (hev : ev.length ≤ 5) (d : Nat) :
  ∀ (acts : List S40) (i x7 : Int), x7 = d → x7 + acts.length ≤ 8 → (∀ a ∈ acts, ActOk per ev.length a) → 0 ≤ i →
  ∃ acts', Ev (fun k => railplankeep_Network.l1 k ev.length x7 l i per ev acts) (per, ev, acts') ∧ NetOk per ev acts' := by
 induction d with
 | zero =>
  intro acts i x7 hx h8 hok hi
  refine ⟨acts, ⟨2, fun k hk => ?_⟩, ⟨h2, h9, he0, hev, by omega, hok⟩⟩
  obtain ⟨k, rfl⟩ : ∃ m, k = m + 2 := ⟨k - 2, by omega⟩
  simp only [railplankeep_Network.l1]
  rw [if_neg (by omega)]
  simp [railplankeep_Network.j2]
 | succ d ih =>
  intro acts i x7 hx h8 hok hi
  by_cases hm : 1 < ev.length
  ·obtain ⟨a, j, ha, hj, hs⟩ := net_j2_step l hl per h2 h9 ev hev acts (by omega) hok x7 i hi (by omega) (by omega) hm
   obtain ⟨acts', hE, hN⟩ := ih (acts ++ [a]) j (x7 - 1) (by omega) (by simp; omega) (by
    intro b hb
    rcases List.mem_append.mp hb with hb | hb
    ·exact hok b hb
    ·simp at hb; rw [hb]; exact ha) hj
   refine ⟨acts', ?_, hN⟩
   refine Ev.step (f := fun k => railplankeep_Network.j2 k ev.length x7 true l i per ev acts) (fun k => ?_) ?_
   ·simp only [railplankeep_Network.l1]
    rw [if_pos (by omega), decide_eq_true (by omega)]
   ·exact Ev.step hs hE
  ·refine ⟨acts, ⟨2, fun k hk => ?_⟩, ⟨h2, h9, he0, hev, by omega, hok⟩⟩
   obtain ⟨k, rfl⟩ : ∃ m, k = m + 2 := ⟨k - 2, by omega⟩
   simp only [railplankeep_Network.l1]
   rw [if_pos (by omega), decide_eq_false (by omega)]
   simp [railplankeep_Network.j2]
theorem net_l0 (l : List Int) (hl : l.length ≤ 140737488351232) (per : Int) (h2 : 2 ≤ per) (h9 : per ≤ 9) (d : Nat) :
  ∀ (ev : List S59) (i x5 : Int), x5 = d → 1 ≤ x5 + ev.length → x5 + ev.length ≤ 5 → 0 ≤ i →
  ∃ ev' acts', Ev (fun k => railplankeep_Network.l0 k x5 l i per ev) (per, ev', acts') ∧ NetOk per ev' acts' := by
 induction d with
 | zero =>
  intro ev i x5 hx h1 h5 hi
  obtain ⟨r, j, e, r0, r1, hj⟩ := next_some l hl i 9 hi (by omega) (by omega)
  obtain ⟨acts', hE, hN⟩ := net_l1 l hl per h2 h9 ev (by omega) (by omega) r.toNat [] j r (by omega) (by simp; omega) (by simp) hj
  refine ⟨ev, acts', Ev.step (fun k => ?_) hE, hN⟩
  simp only [railplankeep_Network.l0]
  rw [if_neg (by omega), e]; simp only [Option.bind_some]
 | succ d ih =>
  intro ev i x5 hx h1 h5 hi
  obtain ⟨r1, j1, e1, r10, r11, hj1⟩ := next_some l hl i 2 hi (by omega) (by omega)
  obtain ⟨r2, j2, e2, r20, r21, hj2⟩ := next_some l hl j1 3 hj1 (by omega) (by omega)
  obtain ⟨r3, j3, e3, r30, r31, hj3⟩ := next_some l hl j2 3 hj2 (by omega) (by omega)
  have w1 : wrap64 (x5 - 1) = x5 - 1 := wrap64_id (by omega) (by omega)
  obtain ⟨ev', acts', hE, hN⟩ := ih (ev ++ [⟨wrap64 (1 + r1), r2, r3⟩]) j3 (x5 - 1) (by omega) (by simp; omega) (by simp; omega) hj3
  refine ⟨ev', acts', Ev.step (fun k => ?_) hE, hN⟩
  simp only [railplankeep_Network.l0]
  rw [if_pos (by omega), e1]; simp only [Option.bind_some]
  rw [e2]; simp only [Option.bind_some]
  rw [e3]; simp only [Option.bind_some]
  rw [if_pos (by omega), w1]
theorem network_ev (l : List Int) (hl : l.length ≤ 140737488351232) : ∃ per ev acts, Ev (fun k => railplankeep_Network.f k l) (per, ev, acts) ∧ NetOk per ev acts := by
 obtain ⟨r1, j1, e1, r10, r11, hj1⟩ := next_some l hl 0 8 (by omega) (by omega) (by omega)
 obtain ⟨r2, j2, e2, r20, r21, hj2⟩ := next_some l hl j1 5 hj1 (by omega) (by omega)
 have w1 : wrap64 (1 + r2) = 1 + r2 := wrap64_id (by omega) (by omega)
 have w2 : wrap64 (2 + r1) = 2 + r1 := wrap64_id (by omega) (by omega)
 obtain ⟨ev, acts, hE, hN⟩ := net_l0 l hl (2 + r1) (by omega) (by omega) (1 + r2).toNat [] j2 (1 + r2) (by omega) (by simp; omega) (by simp; omega) hj2
 refine ⟨2 + r1, ev, acts, Ev.congr (fun k => ?_) hE, hN⟩
 unfold railplankeep_Network.f railplankeep_From.f
 simp only [Option.bind_some]
 rw [e1]; simp only [Option.bind_some]
 rw [e2]; simp only [Option.bind_some]
 rw [w1, w2]
end Go.Proofs.Ytfipfobadpealaa.Pure
