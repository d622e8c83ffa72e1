import Derived.Test.YtiohandkjjmemaaQPlC
import Derived.Test.YtiohandkjjmemaaKW0
import Derived.Test.YtiohandkjjmemaaKS
import Derived.Test.YtiohandkjjmemaaK5
import Derived.Test.YtiohandkjjmemaaK6
import Derived.Test.YtiohandkjjmemaaK8
import Derived.Test.YtiohandkjjmemaaK22
import Derived.Test.YtiohandkjjmemaaK25
namespace Go.Proofs.Ytiohandkjjmemaa.Pure
open Go.RowKit Go.Proofs.Ytiohandkjjmemaa.PAll Go.Proofs.YtiohandkjjmemaaW.PrintWords Go.Proofs.YtiohandkjjmemaaW.PrintLast
set_option linter.unusedVariables false

theorem filter_le {α : Type} (l : List α) (p q : α → Bool) (h : ∀ c ∈ l, q c = true → p c = true) : (l.filter q).length ≤ (l.filter p).length := by
 induction l with
 | nil => simp
 | cons c l ih =>
  have := ih (fun d hd => h d (by simp [hd]))
  have hc := h c (by simp)
  simp only [List.filter_cons]
  cases hq : q c with
  | true => simp [hc hq]; exact this
  | false =>
   cases hp : p c with
   | true => simp; omega
   | false => simpa using this
theorem filter_lt {α : Type} (l : List α) (p q : α → Bool) (h : ∀ c ∈ l, q c = true → p c = true) (x : α) (hx : x ∈ l) (h1 : p x = true) (h2 : q x = false) : (l.filter q).length < (l.filter p).length := by
 induction l with
 | nil => simp at hx
 | cons c l ih =>
  have hle := filter_le l p q (fun d hd => h d (by simp [hd]))
  have hc := h c (by simp)
  simp only [List.filter_cons]
  rcases List.mem_cons.mp hx with rfl | hx
  ·rw [h1, h2]; simp; omega
  ·have := ih (fun d hd => h d (by simp [hd])) hx
   cases hq : q c with
   | true => simp [hc hq]; exact this
   | false =>
    cases hp : p c with
    | true => simp; omega
    | false => simpa using this
def rem (l : List S27) (r x : Int) : Nat := (l.filter fun c => decide (r < c.f0 ∨ (c.f0 = r ∧ x ≤ c.f1))).length
def MinP (r x5 : Int) (a : List S27) (x6 : Int) : Prop :=
 (x6 = -1 ∧ ∀ c ∈ a, c.f0 = r → c.f1 < x5) ∨ (0 ≤ x6 ∧ (∃ c ∈ a, c.f0 = r ∧ c.f1 = x6 ∧ x5 ≤ x6) ∧ ∀ c ∈ a, c.f0 = r → x5 ≤ c.f1 → x6 ≤ c.f1)
theorem rmerge_l2 (l : List S27) (hl : VL l) (out : List S27) (r x5 : Int) (b : List S27) : ∀ (a : List S27) (i x6 : Int), l = a ++ b → i = a.length → MinP r x5 a x6 →
  ∃ x6', MinP r x5 l x6' ∧ ∀ m, Ev (fun k => railplanref24_Merge.l2 k l out r x5 x6' l (l.length : Int) (l.length : Int)) m → Ev (fun k => railplanref24_Merge.l2 k l out r x5 x6 l (l.length : Int) i) m := by
 induction b with
 | nil =>
  intro a i x6 h hi hm
  simp at h
  subst h
  exact ⟨x6, hm, fun m hE => by rw [hi]; exact hE⟩
 | cons c b ih =>
  intro a i x6 h hi hm
  have hlen : l.length = a.length + (b.length + 1) := by rw [h]; simp
  have e : rd_T27 l i = c := by rw [h]; exact rd27_mid a c b i hi
  have hl32 := hl.1
  have w : wrap64 (i + 1) = i + 1 := wrap64_id (by omega) (by omega)
  have hc := hl.2 c (by rw [h]; simp)
  have h' : l = (a ++ [c]) ++ b := by simp [h]
  have keep : ¬ (c.f0 = r ∧ x5 ≤ c.f1 ∧ (x6 < 0 ∨ c.f1 < x6)) → MinP r x5 (a ++ [c]) x6 := by
   intro hn
   rcases hm with ⟨e6, hm⟩ | ⟨h6, ⟨d, hd, hh⟩, hm⟩
   ·refine .inl ⟨e6, fun d hd hr => ?_⟩
    rcases List.mem_append.mp hd with hd | hd
    ·exact hm d hd hr
    ·simp at hd; subst hd; omega
   ·refine .inr ⟨h6, ⟨d, by simp [hd], hh⟩, fun d hd hr hx => ?_⟩
    rcases List.mem_append.mp hd with hd | hd
    ·exact hm d hd hr hx
    ·simp at hd; subst hd; omega
  have take : (c.f0 = r ∧ x5 ≤ c.f1 ∧ (x6 < 0 ∨ c.f1 < x6)) → MinP r x5 (a ++ [c]) c.f1 := by
   intro hn
   refine .inr ⟨hc.2.2.1, ⟨c, by simp, hn.1, rfl, hn.2.1⟩, fun d hd hr hx => ?_⟩
   rcases List.mem_append.mp hd with hd | hd
   ·rcases hm with ⟨e6, hm⟩ | ⟨h6, _, hm⟩
    ·have := hm d hd hr; omega
    ·have := hm d hd hr hx; omega
   ·simp at hd; subst hd; omega
  by_cases h1 : c.f0 = r
  ·by_cases h2 : c.f1 ≥ x5
   ·by_cases h3 : x6 < 0
    ·obtain ⟨x, hx, hE⟩ := ih (a ++ [c]) (i + 1) c.f1 h' (by simp; omega) (take ⟨h1, h2, .inl h3⟩)
     refine ⟨x, hx, fun m hm => Ev.step (fun k => ?_) (hE m hm)⟩
     simp only [railplanref24_Merge.l2]
     rw [if_pos (by omega), if_pos (by omega), if_pos (by omega), e, if_pos h1, if_pos h2, if_pos h3, w]
    ·by_cases h4 : c.f1 < x6
     ·obtain ⟨x, hx, hE⟩ := ih (a ++ [c]) (i + 1) c.f1 h' (by simp; omega) (take ⟨h1, h2, .inr h4⟩)
      refine ⟨x, hx, fun m hm => Ev.step (fun k => ?_) (hE m hm)⟩
      simp only [railplanref24_Merge.l2]
      rw [if_pos (by omega), if_pos (by omega), if_pos (by omega), e, if_pos h1, if_pos h2, if_neg h3, if_pos h4, w]
     ·obtain ⟨x, hx, hE⟩ := ih (a ++ [c]) (i + 1) x6 h' (by simp; omega) (keep (by omega))
      refine ⟨x, hx, fun m hm => Ev.step (fun k => ?_) (hE m hm)⟩
      simp only [railplanref24_Merge.l2]
      rw [if_pos (by omega), if_pos (by omega), if_pos (by omega), e, if_pos h1, if_pos h2, if_neg h3, if_neg h4, w]
   ·obtain ⟨x, hx, hE⟩ := ih (a ++ [c]) (i + 1) x6 h' (by simp; omega) (keep (by omega))
    refine ⟨x, hx, fun m hm => Ev.step (fun k => ?_) (hE m hm)⟩
    simp only [railplanref24_Merge.l2]
    rw [if_pos (by omega), if_pos (by omega), if_pos (by omega), e, if_pos h1, if_neg h2, w]
  ·obtain ⟨x, hx, hE⟩ := ih (a ++ [c]) (i + 1) x6 h' (by simp; omega) (keep (by omega))
   refine ⟨x, hx, fun m hm => Ev.step (fun k => ?_) (hE m hm)⟩
   simp only [railplanref24_Merge.l2]
   rw [if_pos (by omega), if_pos (by omega), if_pos (by omega), e, if_neg h1, w]
structure RInv (l out : List S27) (r x5 : Int) : Prop where
 r0 : 0 ≤ r
 r1 : r < 144
 x0 : 0 ≤ x5
 sep : Sep out
 ok : ∀ c ∈ out, OkC c
 len : out.length + rem l r x5 ≤ l.length
 ord : out = [] ∨ ∃ pre last, out = pre ++ [last] ∧ (last.f0 < r ∨ (last.f0 = r ∧ last.f2 = x5 ∧ ¬ Cov l r x5))
 str : ∀ c ∈ l, c.f0 = r → c.f1 < x5 → c.f2 ≤ x5
 cov : ∀ r' t, Cov out r' t ↔ Cov l r' t ∧ (r' < r ∨ (r' = r ∧ t < x5))
theorem rmerge_l1 (l : List S27) (hl : VL l) (d : Nat) : ∀ (out : List S27) (r x5 : Int), rem l r x5 + (144 - r).toNat ≤ d → RInv l out r x5 →
  ∃ m, Ev (fun k => railplanref24_Merge.l1 k l out r x5) m ∧ Sep m ∧ VL m ∧ ∀ r' t, Cov m r' t ↔ Cov l r' t := by
 have hl32 := hl.1
 induction d with
 | zero =>
  intro out r x5 hd hI
  have := hI.r1
  omega
 | succ d ih =>
  intro out r x5 hd hI
  have hI' := hI
  obtain ⟨r0, r1, x0, hs, hok, hlen, hord, hstr, hcov⟩ := hI
  obtain ⟨x6, hm, hE⟩ := rmerge_l2 l hl out r x5 l [] 0 (-1) (by simp) (by simp) (.inl ⟨rfl, by simp⟩)
  have w : wrap64 (r + 1) = r + 1 := wrap64_id (by omega) (by omega)
  rcases hm with ⟨e6, hm⟩ | ⟨h6, ⟨c, hc, hcr, hcx, hx56⟩, hm⟩
  ·-- no more closure of this resource
   have all : ∀ t, Cov l r t → t < x5 := by
    rintro t ⟨c, hc, h1, h2, h3⟩
    have := hstr c hc h1 (hm c hc h1)
    omega
   by_cases hr : r + 1 < 144
   ·have hI2 : RInv l out (r + 1) 0 := by
     refine ⟨by omega, hr, by omega, hs, hok, ?_, ?_, fun c hc h1 h2 => ?_, fun r' t => ?_⟩
     ·have : rem l (r + 1) 0 ≤ rem l r x5 := filter_le l _ _ (fun c hc h => by simp at h ⊢; omega)
      omega
     ·rcases hord with h | ⟨pre, last, h, hh⟩
      ·exact .inl h
      ·exact .inr ⟨pre, last, h, .inl (by omega)⟩
     ·have := (hl.2 c hc).2.2.1; omega
     ·rw [hcov]
      constructor
      ·rintro ⟨h1, h2⟩; exact ⟨h1, .inl (by omega)⟩
      ·rintro ⟨h1, h2 | ⟨h2, h3⟩⟩
       ·refine ⟨h1, ?_⟩
        by_cases hrr : r' = r
        ·subst hrr; exact .inr ⟨rfl, all t h1⟩
        ·exact .inl (by omega)
       ·obtain ⟨c, hc, g1, g2, g3⟩ := h1
        have := (hl.2 c hc).2.2.1
        omega
    have : rem l (r + 1) 0 ≤ rem l r x5 := filter_le l _ _ (fun c hc h => by simp at h ⊢; omega)
    obtain ⟨m, hE2, hm2⟩ := ih out (r + 1) 0 (by omega) hI2
    refine ⟨m, Ev.step (fun k => ?_) (hE m (Ev.step (f := fun k => railplanref24_Merge.l0 k l out (r + 1)) (fun k => ?_) (Ev.step (fun k => ?_) hE2))), hm2⟩
    ·simp only [railplanref24_Merge.l1]
    ·simp only [railplanref24_Merge.l2]
     rw [if_neg (by omega), if_pos (by omega), w]
    ·simp only [railplanref24_Merge.l0]
     rw [if_pos hr]
   ·refine ⟨out, Ev.step (fun k => ?_) (hE out ⟨2, fun k hk => ?_⟩), hs, ⟨by omega, hok⟩, fun r' t => ?_⟩
    ·simp only [railplanref24_Merge.l1]
    ·obtain ⟨k, rfl⟩ : ∃ m, k = m + 2 := ⟨k - 2, by omega⟩
     simp only [railplanref24_Merge.l2]
     rw [if_neg (by omega), if_pos (by omega), w]
     simp only [railplanref24_Merge.l0]
     rw [if_neg hr]
    ·rw [hcov]
     refine ⟨fun h => h.1, fun h => ⟨h, ?_⟩⟩
     by_cases hrr : r' = r
     ·subst hrr; exact .inr ⟨rfl, all t h⟩
     ·obtain ⟨c, hc, g1, g2, g3⟩ := h
      have := (hl.2 c hc).2.1
      exact .inl (by omega)
  ·obtain ⟨n, hn, hEn⟩ := rnext_ev l (by omega) r x6
   have hcok := hl.2 c hc
   have cx : Cov l r x6 := ⟨c, hc, hcr, by omega, by have := hcok.2.2.2.1; omega⟩
   have hxn : x6 < n := by
    have h1 := hn.1
    rcases Int.lt_or_le x6 n with h | h
    ·exact h
    ·have : x6 = n := by omega
     rw [← this] at hn
     exact absurd cx hn.2.1
   have hnle : n ≤ 4194304 := by
    obtain ⟨e, he, g1, g2, g3⟩ := hn.2.2 (n - 1) (by omega) (by omega)
    have := (hl.2 e he).2.2.2.2
    omega
   have hnew : OkC ⟨r, x6, n⟩ := ⟨r0, r1, h6, hxn, hnle⟩
   have hrem : rem l r n < rem l r x5 := filter_lt l _ _ (fun c hc h => by simp at h ⊢; omega) c hc (by simp; omega) (by simp; omega)
   have hI2 : RInv l (out ++ [⟨r, x6, n⟩]) r n := by
    refine ⟨r0, r1, by omega, ?_, fun d hd => ?_, by simp; omega, .inr ⟨out, _, rfl, .inr ⟨rfl, rfl, hn.2.1⟩⟩, fun d hd h1 h2 => ?_, fun r' t => ?_⟩
    ·rcases hord with h | ⟨pre, last, h, hh⟩
     ·subst h; simp [Sep]
     ·subst h
      refine sep_snoc hs (hok last (by simp)).2.2.2.1 ?_
      rcases hh with hh | ⟨h1, h2, h3⟩
      ·exact .inl hh
      ·refine .inr ⟨h1, ?_⟩
       have : x6 ≠ x5 := fun e => h3 (e ▸ cx)
       simp only
       omega
    ·rcases List.mem_append.mp hd with hd | hd
     ·exact hok d hd
     ·simp at hd; subst hd; exact hnew
    ·rcases Int.lt_or_le n d.f2 with h | h
     ·exact absurd ⟨d, hd, h1, by omega, h⟩ hn.2.1
     ·exact h
    ·rw [cov_append, cov_cons, hcov]
     simp only [cov_nil, or_false]
     unfold Hits
     simp only
     constructor
     ·rintro (⟨h1, h2⟩ | ⟨h1, h2, h3⟩)
      ·exact ⟨h1, by omega⟩
      ·subst h1
       exact ⟨hn.2.2 t h2 h3, .inr ⟨rfl, h3⟩⟩
     ·rintro ⟨h1, h2 | ⟨h2, h3⟩⟩
      ·exact .inl ⟨h1, .inl h2⟩
      ·subst h2
       rcases Int.lt_or_le t x5 with h | h
       ·exact .inl ⟨h1, .inr ⟨rfl, h⟩⟩
       ·refine .inr ⟨rfl, ?_, h3⟩
        obtain ⟨e, he, g1, g2, g3⟩ := h1
        rcases Int.lt_or_le e.f1 x5 with q | q
        ·have := hstr e he g1 q; omega
        ·have := hm e he g1 q; omega
   obtain ⟨m, hE2, hm2⟩ := ih (out ++ [⟨r, x6, n⟩]) r n (by omega) hI2
   refine ⟨m, Ev.step (fun k => ?_) (hE m (Ev.step (f := fun k => (railplanref24_Next.f k l r x6).bind fun t => railplanref24_Merge.l1 k l (out ++ [⟨r, x6, t⟩]) r t) (fun k => ?_) (Ev.bind hEn hE2))), hm2⟩
   ·simp only [railplanref24_Merge.l1]
   ·simp only [railplanref24_Merge.l2]
    rw [if_neg (by omega), if_neg (by omega)]
    simp only [if_pos (show out.length < 5864062014805 by omega)]
theorem rmerge_ev (l : List S27) (h : VL l) : ∃ m, Ev (fun k => railplanref24_Merge.f k l) m ∧ Sep m ∧ VL m ∧ ∀ r t, Cov m r t ↔ Cov l r t := by
 have hI : RInv l [] 0 0 := by
  refine ⟨by omega, by omega, by omega, by simp [Sep], by simp, ?_, .inl rfl, fun c hc h1 h2 => ?_, fun r' t => ?_⟩
  ·unfold rem
   simpa using List.length_filter_le _ l
  ·have := (h.2 c hc).2.2.1; omega
  ·refine ⟨fun g => absurd g (cov_nil _ _), ?_⟩
   rintro ⟨⟨c, hc, g1, g2, g3⟩, g⟩
   have h1 := (h.2 c hc).1
   have h2 := (h.2 c hc).2.2.1
   omega
 obtain ⟨m, hE, hm⟩ := rmerge_l1 l h _ [] 0 0 (Nat.le_refl _) hI
 refine ⟨m, Ev.bind (rcheck_true l h) ?_, hm⟩
 simp only [if_true]
 refine Ev.step (fun k => ?_) hE
 simp only [railplanref24_Merge.l0]
 rw [if_pos (by omega)]
theorem rmerge_bad (l : List S27) (hl : l.length ≤ 9223372036854775807) (h : ¬ VL l) : Ev (fun k => railplanref24_Merge.f k l) [] := by
 refine Ev.bind (rcheck_false l hl h) ?_
 simp only [Bool.false_eq_true, if_false]
 exact Ev.now _
theorem ok_lt {m : List S27} (h : VL m) : ∀ c ∈ m, c.f1 < c.f2 := fun c hc => (h.2 c hc).2.2.2.1
/-- Both merges tell the same list. -/
theorem merge_both (l : List S27) (hl : l.length ≤ 9223372036854775807) : ∃ m, Ev (fun k => closure_Merge.f k l) m ∧ Ev (fun k => railplanref24_Merge.f k l) m ∧ m.length ≤ 32 := by
 by_cases h : VL l
 ·obtain ⟨m, h1, h2, h3, h4⟩ := merge_ev l h
  obtain ⟨m', g1, g2, g3, g4⟩ := rmerge_ev l h
  have e : m = m' := sep_uniq m m' h2 g2 (ok_lt h3) (ok_lt g3) (fun r t => by rw [h4, g4])
  subst e
  exact ⟨m, h1, g1, h3.1⟩
 ·exact ⟨[], merge_bad l hl h, rmerge_bad l hl h, by simp⟩
theorem same_l0 (l : List S27) (hl : l.length ≤ 32) (n : Nat) : ∀ (i : Int), (l.length : Int) - i = n → 0 ≤ i → Ev (fun k => api_Closure_16.l0 k l l (l.length : Int) i) true := by
 induction n with
 | zero =>
  intro i hi h0
  refine ⟨1, fun k hk => ?_⟩
  obtain ⟨k, rfl⟩ : ∃ m, k = m + 1 := ⟨k - 1, by omega⟩
  simp only [api_Closure_16.l0]
  rw [if_neg (by omega)]
 | succ n ih =>
  intro i hi h0
  have w : wrap64 (i + 1) = i + 1 := wrap64_id (by omega) (by omega)
  refine Ev.step (fun k => ?_) (ih (i + 1) (by omega) (by omega))
  simp only [api_Closure_16.l0]
  rw [if_pos (by omega), if_pos (by omega), if_pos (by omega), if_pos (by omega), if_neg (by simp), w]
theorem same_ev (l : List S27) (hl : l.length ≤ 32) : Ev (fun k => api_Closure_16.f k l l) true := by
 refine Ev.congr (fun k => ?_) (same_l0 l hl l.length 0 (by omega) (by omega))
 unfold api_Closure_16.f
 rw [if_pos rfl]
theorem awake_ev : Ev (fun k => railplanlaw25_awake.f k) true := Ev.of (fun k => railplanlaw25_awake.mono k) (k := 20) (by kernel_rfl)
end Go.Proofs.Ytiohandkjjmemaa.Pure
