import Derived.Test.YtiohandkjjmemaaKW0
import Derived.Test.YtiohandkjjmemaaKS
import Derived.Test.YtiohandkjjmemaaK0
import Derived.Test.YtiohandkjjmemaaK1
import Derived.Test.YtiohandkjjmemaaK2
import Derived.Test.YtiohandkjjmemaaK15
import Derived.Test.YtiohandkjjmemaaK21
namespace Go.Proofs.Ytiohandkjjmemaa.Pure
open Go.RowKit Go.Proofs.Ytiohandkjjmemaa.PAll Go.Proofs.YtiohandkjjmemaaW.PrintWords Go.Proofs.YtiohandkjjmemaaW.PrintLast
set_option linter.unusedVariables false

theorem u64_wrap (n : Int) (h0 : 0 ≤ n) (h1 : n < 18446744073709551616) : IntKind.u64.wrap n = n := by
 simp [IntKind.wrap, IntKind.bits, IntKind.signed]
 omega
theorem u64_wrap_lo (n : Int) : 0 ≤ IntKind.u64.wrap n := by
 simp [IntKind.wrap, IntKind.bits, IntKind.signed]
 omega
theorem u64_wrap_hi (n : Int) : IntKind.u64.wrap n < 18446744073709551616 := by
 simp [IntKind.wrap, IntKind.bits, IntKind.signed]
 omega
theorem pick_some (v n : Int) (h0 : 1 ≤ n) (h1 : n ≤ 4611686018427387904) : ∃ r, railplankeep_Pick.f v n = some r ∧ 0 ≤ r ∧ r < n := by
 unfold railplankeep_Pick.f
 rw [u64_wrap n (by omega) (by omega), if_neg (by omega)]
 have a := u64_wrap_lo v
 have h := Int.tmod_nonneg n a
 have h2 := Int.tmod_lt_of_pos (IntKind.u64.wrap v) (show 0 < n by omega)
 exact ⟨_, rfl, by unfold wrap64; omega, by unfold wrap64; omega⟩
theorem wrap64_id {x : Int} (h0 : -9223372036854775808 ≤ x) (h1 : x ≤ 9223372036854775807) : wrap64 x = x := by
 unfold wrap64
 omega
theorem next_some (l : List Int) (hl : l.length ≤ 140737488351232) (i n : Int) (hi : 0 ≤ i) (h0 : 1 ≤ n) (h1 : n ≤ 4611686018427387904) :
  ∃ r j, railplankeep_Source_Next.f l i n = some (r, j) ∧ 0 ≤ r ∧ r < n ∧ 0 ≤ j := by
 unfold railplankeep_Source_Next.f
 by_cases h : i ≥ (l.length : Int)
 ·rw [if_pos h]
  exact ⟨0, i, rfl, by omega, by omega, hi⟩
 ·rw [if_neg h]
  have e1 : wrap64 (i + 1) = i + 1 := wrap64_id (by omega) (by omega)
  have e2 : wrap64 (i + 1 - 1) = i := by rw [wrap64_id (by omega) (by omega)]; omega
  rw [e1, e2, if_pos hi, if_pos (by omega)]
  obtain ⟨r, hr, hr0, hr1⟩ := pick_some (rd l i) n h0 h1
  rw [hr]
  exact ⟨r, i + 1, rfl, hr0, hr1, by omega⟩

/-! ### reading by place -/
theorem rd27_mid (a : List S27) (c : S27) (b : List S27) (i : Int) (hi : i = (a.length : Int)) : rd_T27 (a ++ c :: b) i = c := by
 subst hi
 simp [rd_T27]
theorem rd39_mid (a : List S39) (c : S39) (b : List S39) (i : Int) (hi : i = (a.length : Int)) : rd_T39 (a ++ c :: b) i = c := by
 subst hi
 simp [rd_T39]
theorem rd27_mem (l : List S27) (i : Int) (h0 : 0 ≤ i) (h1 : i < l.length) : rd_T27 l i ∈ l := by
 have : i.toNat < l.length := by omega
 simp [rd_T27, List.getD, List.getElem?_eq_getElem this]

/-! ### what the generators make -/
def GenC (c : S27) : Prop := 0 ≤ c.f0 ∧ c.f0 < 6 ∧ 0 ≤ c.f1 ∧ c.f1 < c.f2 ∧ c.f2 ≤ 90
def GenO (o : S39) : Prop := -20 ≤ o.f1 ∧ o.f1 ≤ 40 ∧ -20 ≤ o.f2 ∧ o.f2 ≤ 100
theorem closures_l0 (l : List Int) (hl : l.length ≤ 140737488351232) (d : Nat) : ∀ (x4 : List S27) (x5 i : Int), x5 = d → x5 + x4.length ≤ 5 → (∀ c ∈ x4, GenC c) → 0 ≤ i →
  ∃ m, Ev (fun k => railplankeep2_Closures.l0 k x4 x5 l i) m ∧ m.length ≤ 5 ∧ ∀ c ∈ m, GenC c := by
 induction d with
 | zero =>
  intro x4 x5 i hx h5 hok hi
  refine ⟨x4, ⟨1, fun k hk => ?_⟩, by omega, hok⟩
  obtain ⟨k, rfl⟩ : ∃ m, k = m + 1 := ⟨k - 1, by omega⟩
  simp only [railplankeep2_Closures.l0]
  rw [if_neg (by omega)]
 | succ d ih =>
  intro x4 x5 i hx h5 hok hi
  obtain ⟨r1, j1, e1, r10, r11, hj1⟩ := next_some l hl i 60 hi (by omega) (by omega)
  obtain ⟨r2, j2, e2, r20, r21, hj2⟩ := next_some l hl j1 6 hj1 (by omega) (by omega)
  obtain ⟨r3, j3, e3, r30, r31, hj3⟩ := next_some l hl j2 30 hj2 (by omega) (by omega)
  have w1 : wrap64 (r1 + 1) = r1 + 1 := wrap64_id (by omega) (by omega)
  have w2 : wrap64 (r1 + 1 + r3) = r1 + 1 + r3 := wrap64_id (by omega) (by omega)
  have w3 : wrap64 (x5 - 1) = x5 - 1 := wrap64_id (by omega) (by omega)
  obtain ⟨m, hE, hm, hok'⟩ := ih (x4 ++ [⟨r2, r1, r1 + 1 + r3⟩]) (x5 - 1) j3 (by omega) (by simp; omega) (by
   intro c hc
   rcases List.mem_append.mp hc with hc | hc
   ·exact hok c hc
   ·simp at hc; rw [hc]; exact ⟨r20, r21, r10, by simp only; omega, by simp only; omega⟩) hj3
  refine ⟨m, Ev.step (fun k => ?_) hE, hm, hok'⟩
  simp only [railplankeep2_Closures.l0]
  rw [if_pos (by omega), e1]; simp only [Option.bind_some]
  rw [e2]; simp only [Option.bind_some]
  rw [e3]; simp only [Option.bind_some]
  rw [if_pos (by omega), w1, w2, w3]
theorem closures_ev (l : List Int) (hl : l.length ≤ 140737488351232) : ∃ m, Ev (fun k => railplankeep2_Closures.f k l) m ∧ m.length ≤ 5 ∧ ∀ c ∈ m, GenC c := by
 obtain ⟨r1, j1, e1, r10, r11, hj1⟩ := next_some l hl 0 6 (by omega) (by omega) (by omega)
 obtain ⟨m, hE, hm⟩ := closures_l0 l hl r1.toNat [] r1 j1 (by omega) (by simp; omega) (by simp) hj1
 refine ⟨m, Ev.congr (fun k => ?_) hE, hm⟩
 unfold railplankeep2_Closures.f railplankeep_From.f
 simp only [Option.bind_some]
 rw [e1]; simp only [Option.bind_some]
theorem occupations_l0 (l : List Int) (hl : l.length ≤ 140737488351232) (d : Nat) : ∀ (x4 : List S39) (x5 i : Int), x5 + d = 6 → 0 ≤ x5 → (x4.length : Int) ≤ x5 → (∀ c ∈ x4, GenO c) → 0 ≤ i →
  ∃ m, Ev (fun k => railplankeep_Occupations.l0 k x4 x5 l i) m ∧ m.length ≤ 6 ∧ ∀ c ∈ m, GenO c := by
 induction d with
 | zero =>
  intro x4 x5 i hx h0 h5 hok hi
  refine ⟨x4, ⟨1, fun k hk => ?_⟩, by omega, hok⟩
  obtain ⟨k, rfl⟩ : ∃ m, k = m + 1 := ⟨k - 1, by omega⟩
  simp only [railplankeep_Occupations.l0]
  rw [if_neg (by omega)]
 | succ d ih =>
  intro x4 x5 i hx h0 h5 hok hi
  obtain ⟨r1, j1, e1, r10, r11, hj1⟩ := next_some l hl i 3 hi (by omega) (by omega)
  have w3 : wrap64 (x5 + 1) = x5 + 1 := wrap64_id (by omega) (by omega)
  by_cases hr : r1 > 0
  ·obtain ⟨r2, j2, e2, r20, r21, hj2⟩ := next_some l hl j1 60 hj1 (by omega) (by omega)
   obtain ⟨r3, j3, e3, r30, r31, hj3⟩ := next_some l hl j2 20 hj2 (by omega) (by omega)
   have w0 : wrap64 (r2 - 20) = r2 - 20 := wrap64_id (by omega) (by omega)
   have w1 : wrap64 (r2 - 20 + 1) = r2 - 20 + 1 := wrap64_id (by omega) (by omega)
   have w2 : wrap64 (r2 - 20 + 1 + r3) = r2 - 20 + 1 + r3 := wrap64_id (by omega) (by omega)
   obtain ⟨m, hE, hm, hok'⟩ := ih (x4 ++ [⟨x5, r2 - 20, r2 - 20 + 1 + r3⟩]) (x5 + 1) j3 (by omega) (by omega) (by simp; omega) (by
    intro c hc
    rcases List.mem_append.mp hc with hc | hc
    ·exact hok c hc
    ·simp at hc; rw [hc]; exact ⟨by simp only; omega, by simp only; omega, by simp only; omega, by simp only; omega⟩) hj3
   refine ⟨m, Ev.step (fun k => ?_) hE, hm, hok'⟩
   simp only [railplankeep_Occupations.l0]
   rw [if_pos (by omega), e1]; simp only [Option.bind_some]
   rw [if_pos hr, e2]; simp only [Option.bind_some]
   rw [e3]; simp only [Option.bind_some]
   rw [if_pos (by omega), w0, w1, w2, w3]
  ·obtain ⟨m, hE, hm, hok'⟩ := ih x4 (x5 + 1) j1 (by omega) (by omega) (by omega) hok hj1
   refine ⟨m, Ev.step (fun k => ?_) hE, hm, hok'⟩
   simp only [railplankeep_Occupations.l0]
   rw [if_pos (by omega), e1]; simp only [Option.bind_some]
   rw [if_neg hr, w3]
theorem occupations_ev (l : List Int) (hl : l.length ≤ 140737488351232) : ∃ m, Ev (fun k => railplankeep_Occupations.f k l) m ∧ m.length ≤ 6 ∧ ∀ c ∈ m, GenO c := by
 obtain ⟨m, hE, hm⟩ := occupations_l0 l hl 6 [] 0 0 (by omega) (by omega) (by simp) (by simp) (by omega)
 refine ⟨m, Ev.congr (fun k => ?_) hE, hm⟩
 unfold railplankeep_Occupations.f railplankeep_From.f
 simp only [Option.bind_some]

/-! ### valid lists -/
def OkC (c : S27) : Prop := 0 ≤ c.f0 ∧ c.f0 < 144 ∧ 0 ≤ c.f1 ∧ c.f1 < c.f2 ∧ c.f2 ≤ 4194304
def VL (l : List S27) : Prop := l.length ≤ 32 ∧ ∀ c ∈ l, OkC c
theorem GenC.ok {c : S27} (h : GenC c) : OkC c := by
 obtain ⟨a, b, c, d, e⟩ := h
 exact ⟨a, by omega, c, d, by omega⟩
theorem check_l0 (x0 l : List S27) (hl : l.length ≤ 9223372036854775807) (b : List S27) : ∀ (a : List S27) (i : Int), l = a ++ b → i = a.length →
  ∃ r, Ev (fun k => closure_Check.l0 k x0 l (l.length : Int) i) r ∧ (r = true ↔ x0.length ≤ 32 ∧ ∀ c ∈ b, OkC c) := by
 induction b with
 | nil =>
  intro a i h hi
  subst h
  refine ⟨decide ((x0.length : Int) ≤ 32), ⟨1, fun k hk => ?_⟩, by simp; omega⟩
  obtain ⟨k, rfl⟩ : ∃ m, k = m + 1 := ⟨k - 1, by omega⟩
  simp only [closure_Check.l0]
  rw [if_neg (by simp; omega)]
 | cons c b ih =>
  intro a i h hi
  have hlen : l.length = a.length + (b.length + 1) := by rw [h]; simp
  have e : rd_T27 l i = c := by rw [h]; exact rd27_mid a c b i hi
  have w : wrap64 (i + 1) = i + 1 := wrap64_id (by omega) (by omega)
  by_cases hc : OkC c
  ·obtain ⟨r, hE, hr⟩ := ih (a ++ [c]) (i + 1) (by simp [h]) (by simp; omega)
   refine ⟨r, Ev.step (fun k => ?_) hE, by rw [hr]; simp [hc]⟩
   obtain ⟨h1, h2, h3, h4, h5⟩ := hc
   simp only [closure_Check.l0]
   rw [if_pos (by omega), if_pos (by omega), if_pos (by omega), e, if_neg (by omega), if_neg (by omega), if_neg (by omega), if_neg (by omega), if_neg (by omega), w]
  ·refine ⟨false, ⟨1, fun k hk => ?_⟩, by simp [hc]⟩
   obtain ⟨k, rfl⟩ : ∃ m, k = m + 1 := ⟨k - 1, by omega⟩
   simp only [closure_Check.l0]
   rw [if_pos (by omega), if_pos (by omega), if_pos (by omega), e]
   by_cases h1 : c.f0 < 0
   ·rw [if_pos h1]
   rw [if_neg h1]
   by_cases h2 : c.f0 ≥ 144
   ·rw [if_pos h2]
   rw [if_neg h2]
   by_cases h3 : c.f1 < 0
   ·rw [if_pos h3]
   rw [if_neg h3]
   by_cases h4 : c.f1 ≥ c.f2
   ·rw [if_pos h4]
   rw [if_neg h4]
   by_cases h5 : c.f2 > 4194304
   ·rw [if_pos h5]
   exact absurd ⟨by omega, by omega, by omega, by omega, by omega⟩ hc
theorem check_ev (l : List S27) (hl : l.length ≤ 9223372036854775807) : ∃ r, Ev (fun k => closure_Check.f k l) r ∧ (r = true ↔ VL l) := check_l0 l l hl l [] 0 (by simp) (by simp)
theorem rcheck_l0 (l : List S27) (hl : l.length ≤ 9223372036854775807) (b : List S27) : ∀ (a : List S27) (i : Int), l = a ++ b → i = a.length →
  ∃ r, Ev (fun k => railplanref24_CheckClosures.l0 k l (l.length : Int) i) r ∧ (r = true ↔ ∀ c ∈ b, OkC c) := by
 induction b with
 | nil =>
  intro a i h hi
  subst h
  refine ⟨true, ⟨1, fun k hk => ?_⟩, by simp⟩
  obtain ⟨k, rfl⟩ : ∃ m, k = m + 1 := ⟨k - 1, by omega⟩
  simp only [railplanref24_CheckClosures.l0]
  rw [if_neg (by simp; omega)]
 | cons c b ih =>
  intro a i h hi
  have hlen : l.length = a.length + (b.length + 1) := by rw [h]; simp
  have e : rd_T27 l i = c := by rw [h]; exact rd27_mid a c b i hi
  have w : wrap64 (i + 1) = i + 1 := wrap64_id (by omega) (by omega)
  by_cases hc : OkC c
  ·obtain ⟨r, hE, hr⟩ := ih (a ++ [c]) (i + 1) (by simp [h]) (by simp; omega)
   refine ⟨r, Ev.step (fun k => ?_) hE, by rw [hr]; simp [hc]⟩
   obtain ⟨h1, h2, h3, h4, h5⟩ := hc
   simp only [railplanref24_CheckClosures.l0]
   rw [if_pos (by omega), if_pos (by omega), if_pos (by omega), e, if_neg (by omega), if_neg (by omega), if_neg (by omega), if_neg (by omega), if_neg (by omega), w]
  ·refine ⟨false, ⟨1, fun k hk => ?_⟩, by simp [hc]⟩
   obtain ⟨k, rfl⟩ : ∃ m, k = m + 1 := ⟨k - 1, by omega⟩
   simp only [railplanref24_CheckClosures.l0]
   rw [if_pos (by omega), if_pos (by omega), if_pos (by omega), e]
   by_cases h1 : c.f0 < 0
   ·rw [if_pos h1]
   rw [if_neg h1]
   by_cases h2 : c.f0 ≥ 144
   ·rw [if_pos h2]
   rw [if_neg h2]
   by_cases h3 : c.f1 < 0
   ·rw [if_pos h3]
   rw [if_neg h3]
   by_cases h4 : c.f2 ≤ c.f1
   ·rw [if_pos h4]
   rw [if_neg h4]
   by_cases h5 : c.f2 > 4194304
   ·rw [if_pos h5]
   exact absurd ⟨by omega, by omega, by omega, by omega, by omega⟩ hc
theorem rcheck_ev (l : List S27) (hl : l.length ≤ 9223372036854775807) : ∃ r, Ev (fun k => railplanref24_CheckClosures.f k l) r ∧ (r = true ↔ VL l) := by
 unfold railplanref24_CheckClosures.f
 by_cases h : (l.length : Int) > 32
 ·exact ⟨false, ⟨0, fun k _ => if_pos h⟩, by simp only [Bool.false_eq_true, false_iff]; intro hv; have := hv.1; omega⟩
 ·obtain ⟨r, hE, hr⟩ := rcheck_l0 l hl l [] 0 (by simp) (by simp)
  exact ⟨r, Ev.congr (fun k => by rw [if_neg h]) hE, by rw [hr]; exact ⟨fun a => ⟨by omega, a⟩, fun a => a.2⟩⟩
theorem check_true (l : List S27) (h : VL l) : Ev (fun k => closure_Check.f k l) true := by
 obtain ⟨r, hE, hr⟩ := check_ev l (by have := h.1; omega)
 rwa [hr.mpr h] at hE
theorem check_false (l : List S27) (hl : l.length ≤ 9223372036854775807) (h : ¬ VL l) : Ev (fun k => closure_Check.f k l) false := by
 obtain ⟨r, hE, hr⟩ := check_ev l hl
 cases r with
 | false => exact hE
 | true => exact absurd (hr.mp rfl) h
theorem rcheck_true (l : List S27) (h : VL l) : Ev (fun k => railplanref24_CheckClosures.f k l) true := by
 obtain ⟨r, hE, hr⟩ := rcheck_ev l (by have := h.1; omega)
 rwa [hr.mpr h] at hE
theorem rcheck_false (l : List S27) (hl : l.length ≤ 9223372036854775807) (h : ¬ VL l) : Ev (fun k => railplanref24_CheckClosures.f k l) false := by
 obtain ⟨r, hE, hr⟩ := rcheck_ev l hl
 cases r with
 | false => exact hE
 | true => exact absurd (hr.mp rfl) h
theorem gen_VL {m : List S27} (h5 : m.length ≤ 5) (hm : ∀ c ∈ m, GenC c) : VL m := ⟨by omega, fun c hc => (hm c hc).ok⟩
end Go.Proofs.Ytiohandkjjmemaa.Pure
