import Derived.Test.YtiohandkjjmemaaQPlA
import Derived.Test.YtiohandkjjmemaaKW0
import Derived.Test.YtiohandkjjmemaaKS
import Derived.Test.YtiohandkjjmemaaK7
import Derived.Test.YtiohandkjjmemaaK10
import Derived.Test.YtiohandkjjmemaaK11
import Derived.Test.YtiohandkjjmemaaK12
import Derived.Test.YtiohandkjjmemaaK16
import Derived.Test.YtiohandkjjmemaaK17
import Derived.Test.YtiohandkjjmemaaK19
import Derived.Test.YtiohandkjjmemaaK22
import Derived.Test.YtiohandkjjmemaaK23
import Derived.Test.YtiohandkjjmemaaK24
namespace Go.Proofs.Ytiohandkjjmemaa.Pure
open Go.RowKit Go.Proofs.Ytiohandkjjmemaa.PAll Go.Proofs.YtiohandkjjmemaaW.PrintWords Go.Proofs.YtiohandkjjmemaaW.PrintLast
set_option linter.unusedVariables false

def Hits (c : S27) (r t : Int) : Prop := c.f0 = r ∧ c.f1 ≤ t ∧ t < c.f2
def Cov (l : List S27) (r t : Int) : Prop := ∃ c ∈ l, Hits c r t
def IsNext (l : List S27) (r t n : Int) : Prop := t ≤ n ∧ ¬ Cov l r n ∧ ∀ s, t ≤ s → s < n → Cov l r s
theorem IsNext.uniq {l : List S27} {r t n m : Int} (h : IsNext l r t n) (h' : IsNext l r t m) : n = m := by
 rcases Int.lt_trichotomy n m with g | g | g
 ·exact absurd (h'.2.2 n h.1 g) h.2.1
 ·exact g
 ·exact absurd (h.2.2 m h'.1 g) h'.2.1
/-- One pass over a list: how far it comes. -/
theorem next_l1 (L l : List S27) (r : Int) (hL : ∀ c ∈ l, c ∈ L) (hl : l.length ≤ 9223372036854775807) (b : List S27) : ∀ (a : List S27) (i t : Int) (g : Bool), l = a ++ b → i = a.length →
  ∃ t' g', (∀ n, Ev (fun k => closure_Next.l0 k L r t' g') n → Ev (fun k => closure_Next.l1 k L r t g l (l.length : Int) i) n) ∧ t ≤ t' ∧ (∀ s, t ≤ s → s < t' → Cov L r s) ∧ (g' = true ↔ (g = true ∨ t < t')) ∧ (t' = t → ∀ c ∈ b, ¬ Hits c r t) ∧ (t < t' → ∃ c ∈ L, c.f0 = r ∧ c.f2 = t') := by
 induction b with
 | nil =>
  intro a i t g h hi
  refine ⟨t, g, fun n hn => Ev.step (fun k => ?_) hn, by omega, fun s h1 h2 => absurd h2 (by omega), by simp, by simp, fun h => absurd h (by omega)⟩
  subst h
  simp only [closure_Next.l1]
  rw [if_neg (by simp; omega)]
 | cons c b ih =>
  intro a i t g h hi
  have hlen : l.length = a.length + (b.length + 1) := by rw [h]; simp
  have e : rd_T27 l i = c := by rw [h]; exact rd27_mid a c b i hi
  have w : wrap64 (i + 1) = i + 1 := wrap64_id (by omega) (by omega)
  have hcL : c ∈ L := hL c (by rw [h]; simp)
  by_cases hc : Hits c r t
  ·obtain ⟨t', g', hE, h1, h2, h3, h4, h5⟩ := ih (a ++ [c]) (i + 1) c.f2 true (by simp [h]) (by simp; omega)
   obtain ⟨c1, c2, c3⟩ := hc
   refine ⟨t', g', fun n hn => Ev.step (fun k => ?_) (hE n hn), by omega, fun s s1 s2 => ?_, by rw [h3]; simp; omega, fun h => absurd h (by omega), fun _ => ?_⟩
   ·simp only [closure_Next.l1]
    rw [if_pos (by omega), if_pos (by omega), if_pos (by omega), e, if_pos c1, if_pos c2, if_pos c3, w]
   ·rcases Int.lt_or_le s c.f2 with h | h
    ·exact ⟨c, hcL, c1, by omega, h⟩
    ·exact h2 s h s2
   ·rcases Int.lt_or_le c.f2 t' with h | h
    ·exact h5 h
    ·exact ⟨c, hcL, c1, by omega⟩
  ·obtain ⟨t', g', hE, h1, h2, h3, h4, h5⟩ := ih (a ++ [c]) (i + 1) t g (by simp [h]) (by simp; omega)
   refine ⟨t', g', fun n hn => Ev.step (fun k => ?_) (hE n hn), h1, h2, h3, fun ht d hd => ?_, h5⟩
   ·simp only [closure_Next.l1]
    rw [if_pos (by omega), if_pos (by omega), if_pos (by omega), e]
    by_cases c1 : c.f0 = r
    ·rw [if_pos c1]
     by_cases c2 : c.f1 ≤ t
     ·rw [if_pos c2, if_neg (fun c3 => hc ⟨c1, c2, c3⟩), w]
     ·rw [if_neg c2, w]
    ·rw [if_neg c1, w]
   ·rcases List.mem_cons.mp hd with rfl | hd
    ·exact hc
    ·exact h4 ht d hd
def lateN (l : List S27) (t : Int) : Nat := (l.filter fun c => decide (t < c.f2)).length
theorem lateN_lt {l : List S27} {t t' : Int} (h : t < t') (c : S27) (hc : c ∈ l) (e : c.f2 = t') : lateN l t' < lateN l t := by
 unfold lateN
 induction l with
 | nil => simp at hc
 | cons d l ih =>
  have hle : (l.filter fun c => decide (t' < c.f2)).length ≤ (l.filter fun c => decide (t < c.f2)).length := by
   clear ih hc
   induction l with
   | nil => simp
   | cons x l ih =>
    simp only [List.filter_cons]
    by_cases h1 : t' < x.f2
    ·rw [if_pos (by simpa using h1), if_pos (by simp; omega)]; simpa using ih
    ·rw [if_neg (by simpa using h1)]
     split
     ·simp; omega
     ·exact ih
  simp only [List.filter_cons]
  rcases List.mem_cons.mp hc with rfl | hc
  ·rw [if_neg (by simp; omega), if_pos (by simp; omega)]
   simp; omega
  ·have := ih hc
   by_cases h1 : t' < d.f2
   ·rw [if_pos (by simpa using h1), if_pos (by simp; omega)]; simpa using this
   ·rw [if_neg (by simpa using h1)]
    split
    ·simp; omega
    ·exact this
theorem next_l0 (l : List S27) (r : Int) (hl : l.length ≤ 9223372036854775807) (d : Nat) : ∀ t, lateN l t ≤ d → ∃ n, IsNext l r t n ∧ Ev (fun k => closure_Next.l0 k l r t true) n := by
 induction d with
 | zero =>
  intro t hd
  obtain ⟨t', g', hE, h1, h2, h3, h4, h5⟩ := next_l1 l l r (fun _ h => h) hl l [] 0 t false (by simp) (by simp)
  rcases Int.lt_or_le t t' with h | h
  ·obtain ⟨c, hc, _, e⟩ := h5 h
   have := lateN_lt h c hc e
   omega
  ·have e : t' = t := by omega
   subst e
   have hg : g' = false := by cases g' with | false => rfl | true => exact absurd (h3.mp rfl) (by simp)
   subst hg
   refine ⟨t', ⟨by omega, fun ⟨c, hc, hh⟩ => h4 rfl c hc hh, fun s s1 s2 => absurd s2 (by omega)⟩, Ev.step (fun k => ?_) (hE t' ⟨1, fun k hk => ?_⟩)⟩
   ·simp only [closure_Next.l0]
    rw [if_pos trivial]
   ·obtain ⟨k, rfl⟩ : ∃ m, k = m + 1 := ⟨k - 1, by omega⟩
    simp only [closure_Next.l0]
    rw [if_neg (by simp)]
 | succ d ih =>
  intro t hd
  obtain ⟨t', g', hE, h1, h2, h3, h4, h5⟩ := next_l1 l l r (fun _ h => h) hl l [] 0 t false (by simp) (by simp)
  rcases Int.lt_or_le t t' with h | h
  ·obtain ⟨c, hc, _, e⟩ := h5 h
   have := lateN_lt h c hc e
   obtain ⟨n, hn, hEn⟩ := ih t' (by omega)
   have hg : g' = true := h3.mpr (.inr h)
   subst hg
   refine ⟨n, ⟨by have := hn.1; omega, hn.2.1, fun s s1 s2 => ?_⟩, Ev.step (fun k => ?_) (hE n hEn)⟩
   ·rcases Int.lt_or_le s t' with q | q
    ·exact h2 s s1 q
    ·exact hn.2.2 s q s2
   ·simp only [closure_Next.l0]
    rw [if_pos trivial]
  ·have e : t' = t := by omega
   subst e
   have hg : g' = false := by cases g' with | false => rfl | true => exact absurd (h3.mp rfl) (by simp)
   subst hg
   refine ⟨t', ⟨by omega, fun ⟨c, hc, hh⟩ => h4 rfl c hc hh, fun s s1 s2 => absurd s2 (by omega)⟩, Ev.step (fun k => ?_) (hE t' ⟨1, fun k hk => ?_⟩)⟩
   ·simp only [closure_Next.l0]
    rw [if_pos trivial]
   ·obtain ⟨k, rfl⟩ : ∃ m, k = m + 1 := ⟨k - 1, by omega⟩
    simp only [closure_Next.l0]
    rw [if_neg (by simp)]
theorem next_ev (l : List S27) (hl : l.length ≤ 9223372036854775807) (r t : Int) : ∃ n, IsNext l r t n ∧ Ev (fun k => closure_Next.f k l r t) n := next_l0 l r hl _ t (Nat.le_refl _)

/-! ### the reference -/
theorem covering_l0 (l : List S27) (r t : Int) (hl : l.length ≤ 9223372036854775807) (b : List S27) : ∀ (a : List S27) (i : Int), l = a ++ b → i = a.length →
  ∃ j, Ev (fun k => railplanref24_covering.l0 k r t l (l.length : Int) i) j ∧ ((j = -1 ∧ ∀ c ∈ b, ¬ Hits c r t) ∨ (0 ≤ j ∧ j < l.length ∧ Hits (rd_T27 l j) r t)) := by
 induction b with
 | nil =>
  intro a i h hi
  refine ⟨-1, ⟨1, fun k hk => ?_⟩, .inl ⟨rfl, by simp⟩⟩
  obtain ⟨k, rfl⟩ : ∃ m, k = m + 1 := ⟨k - 1, by omega⟩
  subst h
  simp only [railplanref24_covering.l0]
  rw [if_neg (by simp; omega)]
 | cons c b ih =>
  intro a i h hi
  have hlen : l.length = a.length + (b.length + 1) := by rw [h]; simp
  have e : rd_T27 l i = c := by rw [h]; exact rd27_mid a c b i hi
  have w : wrap64 (i + 1) = i + 1 := wrap64_id (by omega) (by omega)
  by_cases hc : Hits c r t
  ·refine ⟨i, ⟨1, fun k hk => ?_⟩, .inr ⟨by omega, by omega, by rw [e]; exact hc⟩⟩
   obtain ⟨k, rfl⟩ : ∃ m, k = m + 1 := ⟨k - 1, by omega⟩
   obtain ⟨c1, c2, c3⟩ := hc
   simp only [railplanref24_covering.l0]
   rw [if_pos (by omega), if_pos (by omega), if_pos (by omega), e, if_pos c1, if_pos c2, if_pos c3]
  ·obtain ⟨j, hE, hj⟩ := ih (a ++ [c]) (i + 1) (by simp [h]) (by simp; omega)
   refine ⟨j, Ev.step (fun k => ?_) hE, ?_⟩
   ·simp only [railplanref24_covering.l0]
    rw [if_pos (by omega), if_pos (by omega), if_pos (by omega), e]
    by_cases c1 : c.f0 = r
    ·rw [if_pos c1]
     by_cases c2 : c.f1 ≤ t
     ·rw [if_pos c2, if_neg (fun c3 => hc ⟨c1, c2, c3⟩), w]
     ·rw [if_neg c2, w]
    ·rw [if_neg c1, w]
   ·rcases hj with ⟨hj, hb⟩ | hj
    ·refine .inl ⟨hj, fun d hd => ?_⟩
     rcases List.mem_cons.mp hd with rfl | hd
     ·exact hc
     ·exact hb d hd
    ·exact .inr hj
theorem covering_ev (l : List S27) (hl : l.length ≤ 9223372036854775807) (r t : Int) : ∃ j, Ev (fun k => railplanref24_covering.f k l r t) j ∧ ((j = -1 ∧ ¬ Cov l r t) ∨ (0 ≤ j ∧ j < l.length ∧ Hits (rd_T27 l j) r t)) := by
 obtain ⟨j, hE, hj⟩ := covering_l0 l r t hl l [] 0 (by simp) (by simp)
 refine ⟨j, hE, hj.imp (fun h => ⟨h.1, fun ⟨c, hc, hh⟩ => h.2 c hc hh⟩) id⟩
theorem rnext_l0 (l : List S27) (r : Int) (hl : l.length ≤ 9223372036854775807) (d : Nat) : ∀ t j : Int, lateN l t ≤ d → ((j = -1 ∧ ¬ Cov l r t) ∨ (0 ≤ j ∧ j < l.length ∧ Hits (rd_T27 l j) r t)) →
  ∃ n, IsNext l r t n ∧ Ev (fun k => railplanref24_Next.l0 k l r t j) n := by
 induction d with
 | zero =>
  intro t j hd hj
  rcases hj with ⟨rfl, hn⟩ | ⟨h0, h1, hh⟩
  ·refine ⟨t, ⟨by omega, hn, fun s s1 s2 => absurd s2 (by omega)⟩, ⟨1, fun k hk => ?_⟩⟩
   obtain ⟨k, rfl⟩ : ∃ m, k = m + 1 := ⟨k - 1, by omega⟩
   simp only [railplanref24_Next.l0]
   rw [if_neg (by omega)]
  ·have := lateN_lt (t := t) hh.2.2 _ (rd27_mem l j h0 h1) rfl
   omega
 | succ d ih =>
  intro t j hd hj
  rcases hj with ⟨rfl, hn⟩ | ⟨h0, h1, hh⟩
  ·refine ⟨t, ⟨by omega, hn, fun s s1 s2 => absurd s2 (by omega)⟩, ⟨1, fun k hk => ?_⟩⟩
   obtain ⟨k, rfl⟩ : ∃ m, k = m + 1 := ⟨k - 1, by omega⟩
   simp only [railplanref24_Next.l0]
   rw [if_neg (by omega)]
  ·have hlt := lateN_lt (t := t) hh.2.2 _ (rd27_mem l j h0 h1) rfl
   obtain ⟨j', hE', hj'⟩ := covering_ev l hl r (rd_T27 l j).f2
   obtain ⟨n, hn, hE⟩ := ih (rd_T27 l j).f2 j' (by omega) hj'
   refine ⟨n, ⟨by have := hn.1; have := hh.2.2; omega, hn.2.1, fun s s1 s2 => ?_⟩, Ev.step (fun k => ?_) (Ev.bind hE' hE)⟩
   ·rcases Int.lt_or_le s (rd_T27 l j).f2 with q | q
    ·exact ⟨_, rd27_mem l j h0 h1, hh.1, by have := hh.2.1; omega, q⟩
    ·exact hn.2.2 s q s2
   ·simp only [railplanref24_Next.l0]
    rw [if_pos (by omega), if_pos h0, if_pos h1]
theorem rnext_ev (l : List S27) (hl : l.length ≤ 9223372036854775807) (r t : Int) : ∃ n, IsNext l r t n ∧ Ev (fun k => railplanref24_Next.f k l r t) n := by
 obtain ⟨j, hE, hj⟩ := covering_ev l hl r t
 obtain ⟨n, hn, hE'⟩ := rnext_l0 l r hl _ t j (Nat.le_refl _) hj
 exact ⟨n, hn, Ev.bind hE hE'⟩

/-! ### both as functions -/
open Classical in
noncomputable def nx (l : List S27) (r t : Int) : Int := if h : ∃ n, IsNext l r t n then h.choose else 0
open Classical in
noncomputable def opn (l : List S27) (r t : Int) : Bool := decide (¬ Cov l r t)
theorem opn_iff (l : List S27) (r t : Int) : opn l r t = true ↔ ¬ Cov l r t := by simp [opn]
theorem nx_eq {l : List S27} {r t n : Int} (h : IsNext l r t n) : nx l r t = n := by
 have he : ∃ n, IsNext l r t n := ⟨n, h⟩
 unfold nx
 rw [dif_pos he]
 exact he.choose_spec.uniq h
theorem nx_spec (l : List S27) (hl : l.length ≤ 9223372036854775807) (r t : Int) : IsNext l r t (nx l r t) := by
 obtain ⟨n, hn, _⟩ := next_ev l hl r t
 rw [nx_eq hn]; exact hn
theorem next_nx (l : List S27) (hl : l.length ≤ 9223372036854775807) (r t : Int) : Ev (fun k => closure_Next.f k l r t) (nx l r t) := by
 obtain ⟨n, hn, hE⟩ := next_ev l hl r t
 rw [nx_eq hn]; exact hE
theorem rnext_nx (l : List S27) (hl : l.length ≤ 9223372036854775807) (r t : Int) : Ev (fun k => railplanref24_Next.f k l r t) (nx l r t) := by
 obtain ⟨n, hn, hE⟩ := rnext_ev l hl r t
 rw [nx_eq hn]; exact hE
theorem nx_self (l : List S27) (hl : l.length ≤ 9223372036854775807) (r t : Int) : nx l r t = t ↔ ¬ Cov l r t := by
 have h := nx_spec l hl r t
 constructor
 ·intro e; rw [e] at h; exact h.2.1
 ·intro hn
  exact nx_eq ⟨by omega, hn, fun s s1 s2 => absurd s2 (by omega)⟩
theorem open_ev (l : List S27) (hl : l.length ≤ 9223372036854775807) (r t : Int) : Ev (fun k => closure_Open.f k l r t) (opn l r t) := by
 have h := next_nx l hl r t
 refine Ev.bind h ?_
 have : (nx l r t == t) = opn l r t := by
  rw [Bool.eq_iff_iff, opn_iff, beq_iff_eq, nx_self l hl]
 rw [this]
 exact Ev.now _
theorem ropen_ev (l : List S27) (hl : l.length ≤ 9223372036854775807) (r t : Int) : Ev (fun k => railplanref24_Open.f k l r t) (opn l r t) := by
 obtain ⟨j, hE, hj⟩ := covering_ev l hl r t
 refine Ev.bind hE ?_
 have : decide (j < 0) = opn l r t := by
  rw [Bool.eq_iff_iff, opn_iff, decide_eq_true_eq]
  rcases hj with ⟨rfl, hn⟩ | ⟨h0, h1, hh⟩
  ·exact ⟨fun _ => hn, fun _ => by omega⟩
  ·exact ⟨fun h => absurd h (by omega), fun h => absurd ⟨_, rd27_mem l j h0 h1, hh⟩ h⟩
 rw [this]
 exact Ev.now _

/-! ### Enters -/
def Near (v : Int) : Prop := -1099511627776 ≤ v ∧ v ≤ 1099511627776
theorem near_ev (v : Int) : ∃ b, closure_near.f v = some b ∧ railplanref24_moderate.f v = some b ∧ (b = true ↔ Near v) := by
 unfold closure_near.f railplanref24_moderate.f Near
 by_cases h : v ≥ -1099511627776
 ·rw [if_pos h]; exact ⟨_, rfl, rfl, by simp; omega⟩
 ·rw [if_neg h]; exact ⟨_, rfl, rfl, by simp; omega⟩
def Ent (l : List S27) (occ : List S39) (st : Int) : Prop := Near st ∧ ∀ o ∈ occ, Near o.f1 ∧ ¬ Cov l o.f0 (st + o.f1)
open Classical in
noncomputable def ent (l : List S27) (occ : List S39) (st : Int) : Bool := decide (Ent l occ st)
theorem ent_iff (l : List S27) (occ : List S39) (st : Int) : ent l occ st = true ↔ Ent l occ st := by simp [ent]
theorem enters_l0 (l : List S27) (hl : l.length ≤ 9223372036854775807) (st : Int) (hs : Near st) (occ : List S39) (ho : occ.length ≤ 9223372036854775807) (b : List S39) : ∀ (a : List S39) (i : Int), occ = a ++ b → i = a.length →
  ∃ r, Ev (fun k => closure_Enters.l0 k l st occ (occ.length : Int) i) r ∧ Ev (fun k => railplanref24_Enters.l0 k l st occ (occ.length : Int) i) r ∧ (r = true ↔ ∀ o ∈ b, Near o.f1 ∧ ¬ Cov l o.f0 (st + o.f1)) := by
 induction b with
 | nil =>
  intro a i h hi
  subst h
  refine ⟨true, ⟨1, fun k hk => ?_⟩, ⟨1, fun k hk => ?_⟩, by simp⟩ <;> obtain ⟨k, rfl⟩ : ∃ m, k = m + 1 := ⟨k - 1, by omega⟩
  ·simp only [closure_Enters.l0]
   rw [if_neg (by simp; omega)]
  ·simp only [railplanref24_Enters.l0]
   rw [if_neg (by simp; omega)]
 | cons c b ih =>
  intro a i h hi
  have hlen : occ.length = a.length + (b.length + 1) := by rw [h]; simp
  have e : rd_T39 occ i = c := by rw [h]; exact rd39_mid a c b i hi
  have w : wrap64 (i + 1) = i + 1 := wrap64_id (by omega) (by omega)
  obtain ⟨nb, n1, n2, n3⟩ := near_ev c.f1
  by_cases hn : Near c.f1
  ·have hb : nb = true := n3.mpr hn
   subst hb
   have w2 : wrap64 (st + c.f1) = st + c.f1 := by
    unfold Near at hs hn
    exact wrap64_id (by omega) (by omega)
   have E1 := open_ev l hl c.f0 (st + c.f1)
   have E2 := ropen_ev l hl c.f0 (st + c.f1)
   by_cases hc : Cov l c.f0 (st + c.f1)
   ·have ho : opn l c.f0 (st + c.f1) = false := by
     cases q : opn l c.f0 (st + c.f1) with
     | false => rfl
     | true => exact absurd hc ((opn_iff _ _ _).mp q)
    rw [ho] at E1 E2
    refine ⟨false, Ev.step (f := fun k => (closure_Open.f k l c.f0 (st + c.f1)).bind fun t => if t = true then closure_Enters.l0 k l st occ (occ.length : Int) (i + 1) else some false) (fun k => ?_) (Ev.bind E1 ?_), Ev.step (f := fun k => (railplanref24_Open.f k l c.f0 (st + c.f1)).bind fun t => if t = true then railplanref24_Enters.l0 k l st occ (occ.length : Int) (i + 1) else some false) (fun k => ?_) (Ev.bind E2 ?_), ?_⟩
    ·simp only [closure_Enters.l0]
     rw [if_pos (by omega), if_pos (by omega), if_pos (by omega), e, n1, w2, w]; simp only [Option.bind_some, if_true]
    ·simp only [Bool.false_eq_true, if_false]; exact Ev.now _
    ·simp only [railplanref24_Enters.l0]
     rw [if_pos (by omega), if_pos (by omega), if_pos (by omega), e, n2, w2, w]; simp only [Option.bind_some, if_true]
    ·simp only [Bool.false_eq_true, if_false]; exact Ev.now _
    ·simp [hc]
   ·have ho : opn l c.f0 (st + c.f1) = true := (opn_iff _ _ _).mpr hc
    rw [ho] at E1 E2
    obtain ⟨r, h1, h2, h3⟩ := ih (a ++ [c]) (i + 1) (by simp [h]) (by simp; omega)
    refine ⟨r, Ev.step (f := fun k => (closure_Open.f k l c.f0 (st + c.f1)).bind fun t => if t = true then closure_Enters.l0 k l st occ (occ.length : Int) (i + 1) else some false) (fun k => ?_) (Ev.bind E1 ?_), Ev.step (f := fun k => (railplanref24_Open.f k l c.f0 (st + c.f1)).bind fun t => if t = true then railplanref24_Enters.l0 k l st occ (occ.length : Int) (i + 1) else some false) (fun k => ?_) (Ev.bind E2 ?_), ?_⟩
    ·simp only [closure_Enters.l0]
     rw [if_pos (by omega), if_pos (by omega), if_pos (by omega), e, n1, w2, w]; simp only [Option.bind_some, if_true]
    ·simp only [if_true]; exact h1
    ·simp only [railplanref24_Enters.l0]
     rw [if_pos (by omega), if_pos (by omega), if_pos (by omega), e, n2, w2, w]; simp only [Option.bind_some, if_true]
    ·simp only [if_true]; exact h2
    ·rw [h3]; simp [hc, hn]
  ·have hb : nb = false := by cases nb with | false => rfl | true => exact absurd (n3.mp rfl) hn
   subst hb
   refine ⟨false, ⟨1, fun k hk => ?_⟩, ⟨1, fun k hk => ?_⟩, by simp [hn]⟩ <;> obtain ⟨k, rfl⟩ : ∃ m, k = m + 1 := ⟨k - 1, by omega⟩
   ·simp only [closure_Enters.l0]
    rw [if_pos (by omega), if_pos (by omega), if_pos (by omega), e, n1]; simp
   ·simp only [railplanref24_Enters.l0]
    rw [if_pos (by omega), if_pos (by omega), if_pos (by omega), e, n2]; simp
theorem enters_both (l : List S27) (hl : l.length ≤ 9223372036854775807) (occ : List S39) (ho : occ.length ≤ 9223372036854775807) (st : Int) :
  Ev (fun k => closure_Enters.f k l occ st) (ent l occ st) ∧ Ev (fun k => railplanref24_Enters.f k l occ st) (ent l occ st) := by
 unfold closure_Enters.f railplanref24_Enters.f
 obtain ⟨nb, n1, n2, n3⟩ := near_ev st
 rw [n1, n2]
 simp only [Option.bind_some]
 by_cases hn : Near st
 ·have hb : nb = true := n3.mpr hn
  subst hb
  obtain ⟨r, h1, h2, h3⟩ := enters_l0 l hl st hn occ ho occ [] 0 (by simp) (by simp)
  have e : r = ent l occ st := by rw [Bool.eq_iff_iff, h3, ent_iff]; exact ⟨fun h => ⟨hn, h⟩, fun h => h.2⟩
  subst e
  simp only [if_true]
  exact ⟨h1, h2⟩
 ·have hb : nb = false := by cases nb with | false => rfl | true => exact absurd (n3.mp rfl) hn
  have e : ent l occ st = false := by
   cases q : ent l occ st with
   | false => rfl
   | true => exact absurd ((ent_iff _ _ _).mp q).1 hn
  subst hb
  rw [e]
  simp only [Bool.false_eq_true, if_false]
  exact ⟨Ev.now _, Ev.now _⟩

/-! ### Earliest -/
def EarlyP (l : List S27) (occ : List S39) (st m d : Int) (b : Bool) : Prop :=
 (b = true ∧ 0 ≤ m ∧ m ≤ 3600 ∧ Near st ∧ 0 ≤ d ∧ d ≤ m ∧ ent l occ (st + d) = true ∧ ∀ s, 0 ≤ s → s < d → ent l occ (st + s) = false) ∨
 (b = false ∧ d = 0 ∧ (0 ≤ m → m ≤ 3600 → Near st → ∀ s, 0 ≤ s → s ≤ m → ent l occ (st + s) = false))
theorem early_l0 (l : List S27) (hl : l.length ≤ 9223372036854775807) (occ : List S39) (ho : occ.length ≤ 9223372036854775807) (st m : Int) (h0 : 0 ≤ m) (h1 : m ≤ 3600) (hs : Near st) (n : Nat) : ∀ x, m + 1 - x = n → 0 ≤ x → (∀ s, 0 ≤ s → s < x → ent l occ (st + s) = false) →
  ∃ d b, EarlyP l occ st m d b ∧ Ev (fun k => closure_Earliest.l0 k l occ st m x) (d, b) ∧ Ev (fun k => railplanref24_Earliest.l0 k l occ st m x) (d, b) := by
 induction n with
 | zero =>
  intro x hx hx0 hb
  refine ⟨0, false, .inr ⟨rfl, rfl, fun _ _ _ s s0 s1 => hb s s0 (by omega)⟩, ⟨1, fun k hk => ?_⟩, ⟨1, fun k hk => ?_⟩⟩ <;> obtain ⟨k, rfl⟩ : ∃ m, k = m + 1 := ⟨k - 1, by omega⟩
  ·simp only [closure_Earliest.l0]
   rw [if_neg (by omega)]
  ·simp only [railplanref24_Earliest.l0]
   rw [if_neg (by omega)]
 | succ n ih =>
  intro x hx hx0 hb
  have w : wrap64 (st + x) = st + x := by unfold Near at hs; exact wrap64_id (by omega) (by omega)
  have w1 : wrap64 (x + 1) = x + 1 := wrap64_id (by omega) (by omega)
  obtain ⟨E1, E2⟩ := enters_both l hl occ ho (st + x)
  cases q : ent l occ (st + x) with
  | true =>
   rw [q] at E1 E2
   refine ⟨x, true, .inl ⟨rfl, h0, h1, hs, hx0, by omega, q, hb⟩, Ev.step (f := fun k => (closure_Enters.f k l occ (st + x)).bind fun t => if t = true then some (x, true) else closure_Earliest.l0 k l occ st m (x + 1)) (fun k => ?_) (Ev.bind E1 ?_), Ev.step (f := fun k => (railplanref24_Enters.f k l occ (st + x)).bind fun t => if t = true then some (x, true) else railplanref24_Earliest.l0 k l occ st m (x + 1)) (fun k => ?_) (Ev.bind E2 ?_)⟩
   ·simp only [closure_Earliest.l0]
    rw [if_pos (by omega), w, w1]
   ·simp only [if_true]; exact Ev.now _
   ·simp only [railplanref24_Earliest.l0]
    rw [if_pos (by omega), w, w1]
   ·simp only [if_true]; exact Ev.now _
  | false =>
   rw [q] at E1 E2
   obtain ⟨d, b, hP, hE1, hE2⟩ := ih (x + 1) (by omega) (by omega) (fun s s0 s1 => by
    rcases Int.lt_or_le s x with h | h
    ·exact hb s s0 h
    ·rw [show s = x by omega]; exact q)
   refine ⟨d, b, hP, Ev.step (f := fun k => (closure_Enters.f k l occ (st + x)).bind fun t => if t = true then some (x, true) else closure_Earliest.l0 k l occ st m (x + 1)) (fun k => ?_) (Ev.bind E1 ?_), Ev.step (f := fun k => (railplanref24_Enters.f k l occ (st + x)).bind fun t => if t = true then some (x, true) else railplanref24_Earliest.l0 k l occ st m (x + 1)) (fun k => ?_) (Ev.bind E2 ?_)⟩
   ·simp only [closure_Earliest.l0]
    rw [if_pos (by omega), w, w1]
   ·simp only [Bool.false_eq_true, if_false]; exact hE1
   ·simp only [railplanref24_Earliest.l0]
    rw [if_pos (by omega), w, w1]
   ·simp only [Bool.false_eq_true, if_false]; exact hE2
theorem early_both (l : List S27) (hl : l.length ≤ 9223372036854775807) (occ : List S39) (ho : occ.length ≤ 9223372036854775807) (st m : Int) :
  ∃ d b, EarlyP l occ st m d b ∧ Ev (fun k => closure_Earliest.f k l occ st m) (d, b) ∧ Ev (fun k => railplanref24_Earliest.f k l occ st m) (d, b) := by
 unfold closure_Earliest.f railplanref24_Earliest.f
 have no : ∀ (P : ¬ (0 ≤ m ∧ m ≤ 3600 ∧ Near st)), EarlyP l occ st m 0 false := fun P => .inr ⟨rfl, rfl, fun a b c => absurd ⟨a, b, c⟩ P⟩
 have e1 : Ev (fun k => closure_Earliest.j0 k l occ st m true) (0, false) := ⟨1, fun k hk => by
  obtain ⟨k, rfl⟩ : ∃ m, k = m + 1 := ⟨k - 1, by omega⟩
  simp only [closure_Earliest.j0]; rw [if_pos trivial]⟩
 have e2 : Ev (fun k => railplanref24_Earliest.j0 k l occ st m true) (0, false) := ⟨1, fun k hk => by
  obtain ⟨k, rfl⟩ : ∃ m, k = m + 1 := ⟨k - 1, by omega⟩
  simp only [railplanref24_Earliest.j0]; rw [if_pos trivial]⟩
 by_cases h0 : m < 0
 ·simp only [if_pos h0]
  exact ⟨0, false, no (fun h => by omega), e1, e2⟩
 simp only [if_neg h0]
 by_cases h1 : m > 3600
 ·simp only [if_pos h1]
  exact ⟨0, false, no (fun h => by omega), e1, e2⟩
 simp only [if_neg h1]
 obtain ⟨nb, n1, n2, n3⟩ := near_ev st
 rw [n1, n2]
 simp only [Option.bind_some]
 by_cases hn : Near st
 ·have hb : nb = true := n3.mpr hn
  subst hb
  obtain ⟨d, b, hP, hE1, hE2⟩ := early_l0 l hl occ ho st m (by omega) (by omega) hn (m + 1).toNat 0 (by omega) (by omega) (fun s s0 s1 => absurd s1 (by omega))
  refine ⟨d, b, hP, Ev.step (fun k => ?_) hE1, Ev.step (fun k => ?_) hE2⟩
  ·simp only [closure_Earliest.j0]; rw [if_neg (by simp)]
  ·simp only [railplanref24_Earliest.j0]; rw [if_neg (by simp)]
 ·have hb : nb = false := by cases nb with | false => rfl | true => exact absurd (n3.mp rfl) hn
  subst hb
  exact ⟨0, false, no (fun h => hn h.2.2), e1, e2⟩
end Go.Proofs.Ytiohandkjjmemaa.Pure
