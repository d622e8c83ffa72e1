import Derived.Test.YtiohandkjjmemaaQPlB
import Derived.Test.YtiohandkjjmemaaKW0
import Derived.Test.YtiohandkjjmemaaKS
import Derived.Test.YtiohandkjjmemaaK3
import Derived.Test.YtiohandkjjmemaaK4
import Derived.Test.YtiohandkjjmemaaK5
namespace Go.Proofs.Ytiohandkjjmemaa.Pure
open Go.RowKit Go.Proofs.Ytiohandkjjmemaa.PAll Go.Proofs.YtiohandkjjmemaaW.PrintWords Go.Proofs.YtiohandkjjmemaaW.PrintLast
set_option linter.unusedVariables false

theorem cov_nil (r t : Int) : ¬ Cov [] r t := fun ⟨c, hc, _⟩ => by simp at hc
theorem cov_cons (c : S27) (l : List S27) (r t : Int) : Cov (c :: l) r t ↔ Hits c r t ∨ Cov l r t := by
 unfold Cov
 simp
theorem cov_append (a b : List S27) (r t : Int) : Cov (a ++ b) r t ↔ Cov a r t ∨ Cov b r t := by
 unfold Cov
 constructor
 ·rintro ⟨c, hc, hh⟩
  rcases List.mem_append.mp hc with h | h
  ·exact .inl ⟨c, h, hh⟩
  ·exact .inr ⟨c, h, hh⟩
 ·rintro (⟨c, hc, hh⟩ | ⟨c, hc, hh⟩)
  ·exact ⟨c, List.mem_append_left _ hc, hh⟩
  ·exact ⟨c, List.mem_append_right _ hc, hh⟩
theorem cov_mem {a b : List S27} (h : ∀ d, d ∈ a ↔ d ∈ b) (r t : Int) : Cov a r t ↔ Cov b r t := by
 unfold Cov
 exact ⟨fun ⟨c, hc, hh⟩ => ⟨c, (h c).mp hc, hh⟩, fun ⟨c, hc, hh⟩ => ⟨c, (h c).mpr hc, hh⟩⟩

/-! ### apart, in order -/
def Rel (a b : S27) : Prop := a.f0 < b.f0 ∨ (a.f0 = b.f0 ∧ a.f2 < b.f1)
def Sep (l : List S27) : Prop := l.Pairwise Rel
theorem Rel.trans {a b c : S27} (h : Rel a b) (hb : b.f1 < b.f2) (h' : Rel b c) : Rel a c := by
 unfold Rel at *
 omega
theorem sep_snoc {pre : List S27} {last c : S27} (h : Sep (pre ++ [last])) (hl : last.f1 < last.f2) (hc : Rel last c) : Sep (pre ++ [last] ++ [c]) := by
 unfold Sep at *
 rw [List.pairwise_append] at h ⊢
 refine ⟨by rw [List.pairwise_append]; exact h, by simp, fun x hx y hy => ?_⟩
 simp at hy
 subst hy
 rcases List.mem_append.mp hx with hx | hx
 ·exact (h.2.2 x hx last (by simp)).trans hl hc
 ·simp at hx; subst hx; exact hc
theorem sep_last {pre : List S27} {last c : S27} (h : Sep (pre ++ [last])) (h0 : c.f0 = last.f0) (h1 : c.f1 = last.f1) : Sep (pre ++ [c]) := by
 unfold Sep at *
 rw [List.pairwise_append] at h ⊢
 refine ⟨h.1, by simp, fun x hx y hy => ?_⟩
 simp at hy
 subst hy
 have := h.2.2 x hx last (by simp)
 unfold Rel at *
 omega
theorem sep_uniq (m : List S27) : ∀ (m' : List S27), Sep m → Sep m' → (∀ c ∈ m, c.f1 < c.f2) → (∀ c ∈ m', c.f1 < c.f2) → (∀ r t, Cov m r t ↔ Cov m' r t) → m = m' := by
 induction m with
 | nil =>
  intro m' hs hs' ho ho' hc
  cases m' with
  | nil => rfl
  | cons b m' =>
   have := (hc b.f0 b.f1).mpr ⟨b, by simp, rfl, by omega, ho' b (by simp)⟩
   exact absurd this (cov_nil _ _)
 | cons a m ih =>
  intro m' hs hs' ho ho' hc
  cases m' with
  | nil =>
   have := (hc a.f0 a.f1).mp ⟨a, by simp, rfl, by omega, ho a (by simp)⟩
   exact absurd this (cov_nil _ _)
  | cons b m' =>
   have hsa := List.pairwise_cons.mp hs
   have hsb := List.pairwise_cons.mp hs'
   have hao := ho a (by simp)
   have hbo := ho' b (by simp)
   have k1 : b.f0 < a.f0 ∨ (b.f0 = a.f0 ∧ b.f1 ≤ a.f1) := by
    obtain ⟨d, hd, h1, h2, h3⟩ := (hc a.f0 a.f1).mp ⟨a, by simp, rfl, by omega, hao⟩
    rcases List.mem_cons.mp hd with rfl | hd
    ·omega
    ·have := hsb.1 d hd
     unfold Rel at this
     omega
   have k2 : a.f0 < b.f0 ∨ (a.f0 = b.f0 ∧ a.f1 ≤ b.f1) := by
    obtain ⟨d, hd, h1, h2, h3⟩ := (hc b.f0 b.f1).mpr ⟨b, by simp, rfl, by omega, hbo⟩
    rcases List.mem_cons.mp hd with rfl | hd
    ·omega
    ·have := hsa.1 d hd
     unfold Rel at this
     omega
   have e0 : a.f0 = b.f0 := by omega
   have e1 : a.f1 = b.f1 := by omega
   have e2 : a.f2 = b.f2 := by
    rcases Int.lt_trichotomy a.f2 b.f2 with h | h | h
    ·exfalso
     obtain ⟨d, hd, h1, h2, h3⟩ := (hc b.f0 a.f2).mpr ⟨b, by simp, rfl, by omega, h⟩
     rcases List.mem_cons.mp hd with rfl | hd
     ·omega
     ·have := hsa.1 d hd
      unfold Rel at this
      omega
    ·exact h
    ·exfalso
     obtain ⟨d, hd, h1, h2, h3⟩ := (hc a.f0 b.f2).mp ⟨a, by simp, rfl, by omega, h⟩
     rcases List.mem_cons.mp hd with rfl | hd
     ·omega
     ·have := hsb.1 d hd
      unfold Rel at this
      omega
   have e : a = b := by
    cases a; cases b; simp at e0 e1 e2 ⊢; exact ⟨e0, e1, e2⟩
   subst e
   congr 1
   refine ih m' hsa.2 hsb.2 (fun c h => ho c (by simp [h])) (fun c h => ho' c (by simp [h])) (fun r t => ?_)
   have hh := hc r t
   rw [cov_cons, cov_cons] at hh
   have na : ∀ n : List S27, (∀ x ∈ n, Rel a x) → Cov n r t → ¬ Hits a r t := by
    rintro n hn ⟨d, hd, h1, h2, h3⟩ ⟨g1, g2, g3⟩
    have := hn d hd
    unfold Rel at this
    omega
   constructor
   ·intro h
    rcases hh.mp (.inr h) with g | g
    ·exact absurd g (na m hsa.1 h)
    ·exact g
   ·intro h
    rcases hh.mpr (.inr h) with g | g
    ·exact absurd g (na m' hsb.1 h)
    ·exact g

/-! ### sorting by insertion -/
def Lt (a b : S27) : Prop := a.f0 < b.f0 ∨ (a.f0 = b.f0 ∧ a.f1 < b.f1)
def Le (a b : S27) : Prop := a.f0 < b.f0 ∨ (a.f0 = b.f0 ∧ a.f1 ≤ b.f1)
theorem less_some (a b : S27) : ∃ r, closure_less.f a.f0 a.f1 a.f2 b.f0 b.f1 b.f2 = some r ∧ (r = true ↔ Lt a b) := by
 unfold closure_less.f Lt
 by_cases h1 : a.f0 < b.f0
 ·rw [if_pos h1]; exact ⟨_, rfl, by simp [h1]⟩
 rw [if_neg h1]
 by_cases h2 : a.f0 = b.f0
 ·rw [if_pos h2]; exact ⟨_, rfl, by simp; omega⟩
 ·rw [if_neg h2]; exact ⟨_, rfl, by simp; omega⟩
theorem ins_some (s : List S27) (c : S27) (j : Int) (n : Nat) (hj : j = n) (hn : n ≤ s.length) (hl : s.length < 5000000) : api_Closure_31.f s j [c] = some (s.take n ++ [c] ++ s.drop n) := by
 subst hj
 unfold api_Closure_31.f
 rw [if_pos (by omega), if_pos (by omega), if_neg (by simp)]
 by_cases h : (n : Int) = (s.length : Int)
 ·rw [if_pos h, if_pos (by simp; omega)]
  have : n = s.length := by omega
  subst this
  simp
 ·rw [if_neg h, if_pos (by simp; omega)]
  simp
theorem merge_l1 (l : List S27) (i : Int) (c : S27) (s : List S27) (hs : s.Pairwise Le) (hl : s.length < 5000000) (n : Nat) : ∀ (j : Int), j = n → n ≤ s.length → (∀ d ∈ s.drop n, Lt c d) →
  ∃ s', s'.Pairwise Le ∧ s'.length = s.length + 1 ∧ (∀ d, d ∈ s' ↔ d = c ∨ d ∈ s) ∧ ∀ m, Ev (fun k => closure_Merge.l0 k s' l (l.length : Int) (wrap64 (i + 1))) m → Ev (fun k => closure_Merge.l1 k s j l (l.length : Int) i c.f0 c.f1 c.f2) m := by
 have mid : ∀ n ≤ s.length, (∀ d ∈ s.drop n, Lt c d) → (∀ d ∈ s.take n, Le d c) → (s.take n ++ [c] ++ s.drop n).Pairwise Le ∧ (s.take n ++ [c] ++ s.drop n).length = s.length + 1 ∧ (∀ d, d ∈ s.take n ++ [c] ++ s.drop n ↔ d = c ∨ d ∈ s) := by
  intro n hn h1 h2
  have h0 := hs
  rw [← List.take_append_drop n s, List.pairwise_append] at h0
  refine ⟨?_, by simp; omega, fun d => ?_⟩
  ·rw [List.append_assoc, List.pairwise_append]
   refine ⟨h0.1, ?_, fun a ha b hb => ?_⟩
   ·simp only [List.singleton_append, List.pairwise_cons]
    exact ⟨fun d hd => by have := h1 d hd; unfold Lt at this; unfold Le; omega, h0.2.1⟩
   ·simp only [List.singleton_append, List.mem_cons] at hb
    rcases hb with rfl | hb
    ·exact h2 a ha
    ·exact h0.2.2 a ha b hb
  ·have : d ∈ s ↔ d ∈ s.take n ∨ d ∈ s.drop n := by rw [← List.mem_append, List.take_append_drop]
   rw [this]
   simp only [List.mem_append, List.mem_singleton]
   exact ⟨by rintro ((h | h) | h) <;> simp [h], by rintro (h | h | h) <;> simp [h]⟩
 induction n with
 | zero =>
  intro j hj hn hd
  obtain ⟨m1, m2, m3⟩ := mid 0 hn hd (by simp)
  refine ⟨_, m1, m2, m3, fun m hm => Ev.step (fun k => ?_) hm⟩
  simp only [closure_Merge.l1]
  rw [if_neg (by omega), ins_some s c j 0 hj hn hl]; simp only [Option.bind_some]
 | succ n ih =>
  intro j hj hn hd
  have w : wrap64 (j - 1) = n := by rw [wrap64_id (by omega) (by omega)]; omega
  have hr : rd_T27 s n = s[n] := by
   unfold rd_T27
   rw [Int.toNat_natCast]
   simp [List.getD, List.getElem?_eq_getElem (show n < s.length by omega)]
  obtain ⟨b, hb, hb'⟩ := less_some c s[n]
  by_cases hlt : Lt c s[n]
  ·have : b = true := hb'.mpr hlt
   subst this
   obtain ⟨s', m1, m2, m3, m4⟩ := ih n rfl (by omega) (fun d hd' => by
    rw [List.drop_eq_getElem_cons (show n < s.length by omega)] at hd'
    rcases List.mem_cons.mp hd' with rfl | hd'
    ·exact hlt
    ·exact hd d hd')
   refine ⟨s', m1, m2, m3, fun m hm => Ev.step (fun k => ?_) (m4 m hm)⟩
   simp only [closure_Merge.l1]
   rw [if_pos (by omega), w, if_pos (by omega), if_pos (by omega), hr, hb]; simp only [Option.bind_some, if_true]
  ·have : b = false := by cases b with | false => rfl | true => exact absurd (hb'.mp rfl) hlt
   subst this
   obtain ⟨m1, m2, m3⟩ := mid (n + 1) hn hd (fun d hd' => by
    have h3 : Le s[n] c := by unfold Lt at hlt; unfold Le; omega
    rw [List.take_succ_eq_append_getElem (show n < s.length by omega)] at hd'
    rcases List.mem_append.mp hd' with hd' | hd'
    ·have h0 := hs
     rw [← List.take_append_drop n s, List.pairwise_append] at h0
     have h4 := h0.2.2 d hd' s[n] (by rw [List.drop_eq_getElem_cons (show n < s.length by omega)]; exact List.mem_cons_self)
     unfold Le at *
     omega
    ·simp at hd'; subst hd'; exact h3)
   refine ⟨_, m1, m2, m3, fun m hm => Ev.step (fun k => ?_) hm⟩
   simp only [closure_Merge.l1]
   rw [if_pos (by omega), w, if_pos (by omega), if_pos (by omega), hr, hb]; simp only [Option.bind_some, Bool.false_eq_true, if_false]
   rw [ins_some s c j (n + 1) hj hn hl]; simp only [Option.bind_some]
theorem merge_l0 (l : List S27) (hl : l.length ≤ 32) (b : List S27) : ∀ (a s : List S27) (i : Int), l = a ++ b → i = a.length → s.Pairwise Le → s.length = a.length → (∀ d, d ∈ s ↔ d ∈ a) →
  ∃ s', s'.Pairwise Le ∧ s'.length = l.length ∧ (∀ d, d ∈ s' ↔ d ∈ l) ∧ ∀ m, Ev (fun k => closure_Merge.l2 k [] s' (s'.length : Int) 0) m → Ev (fun k => closure_Merge.l0 k s l (l.length : Int) i) m := by
 induction b with
 | nil =>
  intro a s i h hi hs hsl hm
  simp at h
  subst h
  refine ⟨s, hs, hsl, hm, fun m hE => Ev.step (fun k => ?_) hE⟩
  simp only [closure_Merge.l0]
  rw [if_neg (by omega)]
 | cons c b ih =>
  intro a s i h hi hs hsl hm
  have hlen : l.length = a.length + (b.length + 1) := by rw [h]; simp
  have e : rd_T27 l i = c := by rw [h]; exact rd27_mid a c b i hi
  have w : wrap64 (i + 1) = i + 1 := wrap64_id (by omega) (by omega)
  obtain ⟨s1, p1, p2, p3, p4⟩ := merge_l1 l i c s hs (by omega) s.length (s.length : Int) rfl (Nat.le_refl _) (by simp)
  obtain ⟨s', q1, q2, q3, q4⟩ := ih (a ++ [c]) s1 (i + 1) (by simp [h]) (by simp; omega) p1 (by simp; omega) (fun d => by rw [p3, hm]; simp only [List.mem_append, List.mem_singleton]; exact or_comm)
  refine ⟨s', q1, q2, q3, fun m hE => Ev.step (fun k => ?_) (p4 m (by rw [w]; exact q4 m hE))⟩
  simp only [closure_Merge.l0]
  rw [if_pos (by omega), if_pos (by omega), if_pos (by omega), e]

/-! ### putting together -/
theorem mx_eq (a b : Int) : mx a b = max a b := by
 unfold mx
 omega
theorem merge_l2 (s : List S27) (hl : s.length ≤ 32) (b : List S27) : ∀ (a out : List S27) (i : Int), s = a ++ b → i = a.length → (out = [] ∨ ∃ pre last, out = pre ++ [last] ∧ ∀ c ∈ b, Le last c) → Sep out → (∀ c ∈ out, OkC c) → b.Pairwise Le → (∀ c ∈ b, OkC c) → out.length ≤ a.length →
  ∃ m, Ev (fun k => closure_Merge.l2 k out s (s.length : Int) i) m ∧ Sep m ∧ (∀ c ∈ m, OkC c) ∧ m.length ≤ s.length ∧ ∀ r t, Cov m r t ↔ Cov out r t ∨ Cov b r t := by
 induction b with
 | nil =>
  intro a out i h hi ho hs hok hb hbo hlen
  refine ⟨out, ⟨1, fun k hk => ?_⟩, hs, hok, by rw [h]; simp; omega, fun r t => by simp [cov_nil]⟩
  obtain ⟨k, rfl⟩ : ∃ m, k = m + 1 := ⟨k - 1, by omega⟩
  subst h
  simp only [closure_Merge.l2]
  rw [if_neg (by simp; omega)]
 | cons c b ih =>
  intro a out i h hi ho hs hok hb hbo hlen
  have hsl : s.length = a.length + (b.length + 1) := by rw [h]; simp
  have e : rd_T27 s i = c := by rw [h]; exact rd27_mid a c b i hi
  have w : wrap64 (i + 1) = i + 1 := wrap64_id (by omega) (by omega)
  have hbc := List.pairwise_cons.mp hb
  have hcok := hbo c (by simp)
  have h' : s = (a ++ [c]) ++ b := by simp [h]
  have lst : ∀ x ∈ b, Le c x := hbc.1
  rcases ho with rfl | ⟨pre, last, rfl, hle⟩
  ·obtain ⟨m, hE, m1, m2, m3, m4⟩ := ih (a ++ [c]) [c] (i + 1) h' (by simp; omega) (.inr ⟨[], c, rfl, lst⟩) (by simp [Sep]) (by simp [hcok]) hbc.2 (fun d hd => hbo d (by simp [hd])) (by simp)
   refine ⟨m, Ev.step (fun k => ?_) hE, m1, m2, m3, fun r t => by rw [m4]; simp [cov_cons, cov_nil]⟩
   simp only [closure_Merge.l2]
   rw [if_pos (by omega), if_pos (by omega), if_pos (by omega), if_neg (by simp [wrap64]), if_pos (by simp), e, w]
   try rfl
  ·have hlok := hok last (by simp)
   have hlc := hle c (by simp)
   have w2 : wrap64 (((pre ++ [last]).length : Int) - 1) = (pre.length : Int) := by
    simp at hlen
    rw [wrap64_id (by simp only [List.length_append, List.length_singleton]; omega) (by simp only [List.length_append, List.length_singleton]; omega)]; simp
   have e2 : rd_T27 (pre ++ [last]) (pre.length : Int) = last := rd27_mid pre last [] _ rfl
   have app : ∀ (hr : Rel last c), ∃ m, Ev (fun k => closure_Merge.l2 k (pre ++ [last] ++ [c]) s (s.length : Int) (i + 1)) m ∧ Sep m ∧ (∀ c ∈ m, OkC c) ∧ m.length ≤ s.length ∧ ∀ r t, Cov m r t ↔ Cov (pre ++ [last]) r t ∨ Cov (c :: b) r t := by
    intro hr
    obtain ⟨m, hE, m1, m2, m3, m4⟩ := ih (a ++ [c]) (pre ++ [last] ++ [c]) (i + 1) h' (by simp; omega) (.inr ⟨pre ++ [last], c, rfl, lst⟩) (sep_snoc hs hlok.2.2.2.1 hr) (fun d hd => by
     rcases List.mem_append.mp hd with hd | hd
     ·exact hok d hd
     ·simp at hd; subst hd; exact hcok) hbc.2 (fun d hd => hbo d (by simp [hd])) (by simp at hlen ⊢; omega)
    exact ⟨m, hE, m1, m2, m3, fun r t => by rw [m4, cov_append (pre ++ [last]) [c], cov_cons c b, cov_cons c []]; simp only [cov_nil, or_false, or_assoc]⟩
   by_cases h1 : last.f0 = c.f0
   ·by_cases h2 : c.f1 ≤ last.f2
    ·have hle1 : last.f1 ≤ c.f1 := by unfold Le at hlc; omega
     obtain ⟨o1, o2, o3, o4, o5⟩ := hlok
     obtain ⟨c1, c2, c3, c4, c5⟩ := hcok
     have hnew : OkC ⟨last.f0, last.f1, mx last.f2 c.f2⟩ := by rw [mx_eq]; exact ⟨o1, o2, o3, by simp only; omega, by simp only; omega⟩
     obtain ⟨m, hE, m1, m2, m3, m4⟩ := ih (a ++ [c]) (pre ++ [⟨last.f0, last.f1, mx last.f2 c.f2⟩]) (i + 1) h' (by simp; omega) (.inr ⟨pre, _, rfl, fun x hx => by have := hle x (by simp [hx]); unfold Le at *; exact this⟩) (sep_last hs rfl rfl) (fun d hd => by
      rcases List.mem_append.mp hd with hd | hd
      ·exact hok d (by simp [hd])
      ·simp at hd; subst hd; exact hnew) hbc.2 (fun d hd => hbo d (by simp [hd])) (by simp at hlen ⊢; omega)
     refine ⟨m, Ev.step (fun k => ?_) hE, m1, m2, m3, fun r t => ?_⟩
     ·simp only [closure_Merge.l2]
      rw [if_pos (by omega), if_pos (by omega), if_pos (by omega), w2, if_pos (by omega), if_pos (by omega), if_pos (by simp; omega), e, e2, if_pos h1, if_pos h2, w]
      simp
     ·rw [m4, cov_append, cov_append, cov_cons, cov_cons, cov_cons]
      simp only [cov_nil, or_false]
      have : Hits ⟨last.f0, last.f1, mx last.f2 c.f2⟩ r t ↔ Hits last r t ∨ Hits c r t := by
       rw [mx_eq]
       unfold Hits
       simp only
       omega
      rw [this]
      exact ⟨by rintro ((h | h | h) | h) <;> simp [h], by rintro ((h | h) | h | h) <;> simp [h]⟩
    ·obtain ⟨m, hE, hm⟩ := app (.inr ⟨h1, by omega⟩)
     refine ⟨m, Ev.step (fun k => ?_) hE, hm⟩
     simp only [closure_Merge.l2]
     rw [if_pos (by omega), if_pos (by omega), if_pos (by omega), w2, if_pos (by omega), if_pos (by omega), if_pos (by simp; omega), e, e2, if_pos h1, if_neg h2, if_pos (by simp at hlen ⊢; omega), w]
   ·obtain ⟨m, hE, hm⟩ := app (.inl (by unfold Le at hlc; omega))
    refine ⟨m, Ev.step (fun k => ?_) hE, hm⟩
    simp only [closure_Merge.l2]
    rw [if_pos (by omega), if_pos (by omega), if_pos (by omega), w2, if_pos (by omega), if_pos (by omega), if_pos (by simp; omega), e, e2, if_neg h1, if_pos (by simp at hlen ⊢; omega), w]
theorem merge_ev (l : List S27) (h : VL l) : ∃ m, Ev (fun k => closure_Merge.f k l) m ∧ Sep m ∧ VL m ∧ ∀ r t, Cov m r t ↔ Cov l r t := by
 obtain ⟨s, s1, s2, s3, s4⟩ := merge_l0 l h.1 l [] [] 0 (by simp) (by simp) (by simp) (by simp) (by simp)
 obtain ⟨m, hE, m1, m2, m3, m4⟩ := merge_l2 s (by rw [s2]; exact h.1) s [] [] 0 (by simp) (by simp) (.inl rfl) (by simp [Sep]) (by simp) s1 (fun c hc => h.2 c ((s3 c).mp hc)) (by simp)
 refine ⟨m, Ev.bind (check_true l h) ?_, m1, ⟨by have := h.1; omega, m2⟩, fun r t => by rw [m4, cov_mem s3]; simp [cov_nil]⟩
 simp only [if_true]
 exact s4 m hE
theorem merge_bad (l : List S27) (hl : l.length ≤ 9223372036854775807) (h : ¬ VL l) : Ev (fun k => closure_Merge.f k l) [] := by
 refine Ev.bind (check_false l hl h) ?_
 simp only [Bool.false_eq_true, if_false]
 exact Ev.now _
end Go.Proofs.Ytiohandkjjmemaa.Pure
