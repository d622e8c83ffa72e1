/-
  Reading the arguments of a law whose arguments are structs, slices of structs or slices of slices: what the row's form says of the argument's data is turned into the walk's words. No conditions of its own.
-/
import Derived.DataReads
import Derived.ChangeArms
import Derived.SizedLaws
import Derived.WideShapes
import Derived.Test.YtpclhbcflkncnaaAW0
namespace Go.Proofs.Ytpclhbcflkncnaa.RowX
open Go.Proofs.YtpclhbcflkncnaaW.PrintWords
set_option linter.unusedVariables false

/-- What the form reads at a type is, in the walk's words, a value of this kind. -/
structure Opens {α : Type} (P : Program) (e : TypeId) (d : Kd α) (Q : α → Prop) : Prop where
 cells : P.cellsOf e = d.sz
 op : ∀ {H : Type} {enc : TypeId × Value → H} {w : World} {sp : Nat → Bool} {held : Bool} {fuel : Nat} {cs : List Value} {x : DataW H × List MemPlace}, DataW.trod enc P w 0 sp held fuel e cs = some x → ∃ y, d.K w y cs ∧ Q y

theorem op_int {P : Program} {e : TypeId} {k : IntKind} (he : P.underlying e = some (.int k)) (hc : P.cellsOf e = 1) : Opens P e (Kd.int k) (fun n => (Lit.int k n).wf = true) := by
 refine ⟨hc, fun {H enc w sp held fuel cs x} h => ?_⟩
 cases fuel with
 | zero => simp [DataW.trod] at h
 | succ n =>
  unfold DataW.trod at h
  rw [he] at h
  split at h <;> simp_all
  exact ⟨_, rfl, h.1.2⟩
theorem op_bool {P : Program} {e : TypeId} (he : P.underlying e = some .bool) (hc : P.cellsOf e = 1) : Opens P e Kd.bool (fun _ => True) := by
 refine ⟨hc, fun {H enc w sp held fuel cs x} h => ?_⟩
 suffices hs : ∃ y, Kd.bool.K w y cs by exact hs.imp fun _ h => ⟨h, trivial⟩
 cases fuel with
 | zero => simp [DataW.trod] at h
 | succ n =>
  unfold DataW.trod at h
  rw [he] at h
  split at h
  ·exact ⟨_, rfl⟩
  all_goals simp_all
theorem op_string {P : Program} {e : TypeId} (he : P.underlying e = some .string) (hc : P.cellsOf e = 1) : Opens P e Kd.string (fun s => s.size ≤ maxLen) := by
 refine ⟨hc, fun {H enc w sp held fuel cs x} h => ?_⟩
 cases fuel with
 | zero => simp [DataW.trod] at h
 | succ n =>
  unfold DataW.trod at h
  rw [he] at h
  split at h <;> simp_all
  exact ⟨_, rfl, h.1⟩
theorem row_of {α : Type} {P : Program} {e : TypeId} {d : Kd α} {Q : α → Prop} (h : Opens P e d Q) {H : Type} {enc : TypeId × Value → H} {w : World} {sp : Nat → Bool} {held : Bool} {m : Nat} {a : Addr} {elems : List (DataW H × List MemPlace)}
  (hel : ∀ i, i < elems.length → (w.cells? 0 (a.add (i * P.cellsOf e)) (P.cellsOf e)).bind (DataW.trod enc P w 0 sp held m e) = elems[i]?) :
  ∀ n, n ≤ elems.length → ∃ ys : List α, ys.length = n ∧ (∀ y ∈ ys, Q y) ∧ ∀ j p, ys[j]? = some p → ∃ c, c.length = d.sz ∧ d.K w p c ∧ ∀ i u, c[i]? = some u → w.cell? (a.add (j * d.sz + i)) = some u := by
 intro n
 induction n with
 | zero => exact fun _ => ⟨[], rfl, (fun y hy => by simp at hy), (fun j p hj => by simp at hj)⟩
 | succ n ih =>
  intro hn
  obtain ⟨ys, h1, h2, h3⟩ := ih (by omega)
  have he := hel n (by omega)
  rw [List.getElem?_eq_getElem (by omega : n < elems.length)] at he
  obtain ⟨cs, hcs, hx⟩ := Option.bind_eq_some_iff.mp he
  obtain ⟨y, hK, hQ⟩ := h.op hx
  have hl := d.K_len hK
  have hc := (World.cells?_some hcs).2
  refine ⟨ys ++ [y], by simp [h1], fun z hz => ?_, fun j p hj => ?_⟩
  ·rcases List.mem_append.mp hz with hz | hz
   ·exact h2 z hz
   ·rw [List.mem_singleton.mp hz]; exact hQ
  ·by_cases hjn : j < n
   ·rw [List.getElem?_append_left (by omega)] at hj
    exact h3 j p hj
   ·have : j = n := by
     have := (List.getElem?_eq_some_iff.mp hj).1
     simp [h1] at this
     omega
    subst this
    rw [List.getElem?_append_right (by omega)] at hj
    simp [h1] at hj
    subst hj
    refine ⟨cs, hl, hK, fun i u hu => ?_⟩
    have hi : i < cs.length := (List.getElem?_eq_some_iff.mp hu).1
    rw [h.cells] at hc
    have := hc.2 i (by omega)
    rw [hu] at this
    rw [← this]
    congr 1
    unfold Addr.add
    by_cases h4 : i = 0
    ·simp [h4]
    ·by_cases h5 : j * d.sz = 0
     ·simp [h4, h5]
     ·rw [if_neg (by omega), if_neg h4, if_neg h5]
      simp [Nat.add_assoc]
theorem op_row {α : Type} {P : Program} {t e : TypeId} {d : Kd α} {Q : α → Prop} (ht : P.underlying t = some (.slice e)) (h : Opens P e d Q) {H : Type} {enc : TypeId × Value → H} {w : World} {sp : Nat → Bool} {held : Bool} {fuel : Nat} {cs : List Value} {x : DataW H × List MemPlace}
  (hx : DataW.trod enc P w 0 sp held fuel t cs = some x) : ∃ A xs c, cs = [.slice A xs.length c] ∧ xs.length ≤ c ∧ xs.length ≤ maxLen ∧ d.C w A xs.length xs ∧ (∀ y ∈ xs, Q y) := by
 rcases DataW.trod_slice ht hx with ⟨rfl, _⟩ | ⟨a, len, cap, elems, rest, n, _, rfl, _, _, hl, hm, hlen, hel, _⟩
 ·exact ⟨none, [], 0, rfl, Nat.le_refl _, Nat.zero_le _, ⟨rfl, Nat.zero_le _, fun h => absurd h (by simp)⟩, (fun y hy => by simp at hy)⟩
 ·obtain ⟨ys, h1, h2, h3⟩ := row_of h (a := a) (elems := elems) (fun i hi => hel i (by omega)) elems.length (Nat.le_refl _)
  have e1 : ys.length = len := by omega
  have hm2 : ys.length ≤ maxLen := by omega
  exact ⟨some a, ys, cap, by rw [e1], by omega, hm2, ⟨rfl, hm2, fun _ => ⟨a, rfl, h3⟩⟩, h2⟩
theorem op_slice {α : Type} {P : Program} {t e : TypeId} {d : Kd α} {Q : α → Prop} (ht : P.underlying t = some (.slice e)) (hc : P.cellsOf t = 1) (h : Opens P e d Q) : Opens P t (Kd.slice e d) (fun xs => xs.length ≤ maxLen ∧ ∀ y ∈ xs, Q y) := by
 refine ⟨hc, fun {H enc w sp held fuel cs x} hx => ?_⟩
 obtain ⟨A, xs, c, rfl, h1, h2, h3, h4⟩ := op_row ht h hx
 exact ⟨xs, ⟨A, c, rfl, h1, h3⟩, h2, h4⟩
/-- The same for the fields of a struct from an offset on. -/
structure FOpens {α : Type} (P : Program) (fs : List Field) (off : Nat) (d : Kd α) (Q : α → Prop) : Prop where
 op : ∀ {H : Type} {enc : TypeId × Value → H} {w : World} {sp : Nat → Bool} {held : Bool} {m : Nat} {cs : List Value}, (∀ f ∈ fs, ∃ x, DataW.trod enc P w 0 sp held m f.type ((cs.drop f.offset).take (P.cellsOf f.type)) = some x) → ∃ y, d.K w y ((cs.drop off).take d.sz) ∧ Q y
theorem fop_one {α : Type} {P : Program} {f : Field} {off : Nat} {d : Kd α} {Q : α → Prop} (h : Opens P f.type d Q) (ho : f.offset = off) : FOpens P [f] off d Q := by
 refine ⟨fun {H enc w sp held m cs} hx => ?_⟩
 obtain ⟨x, hx⟩ := hx f (by simp)
 obtain ⟨y, h1, h2⟩ := h.op hx
 rw [ho, h.cells] at h1
 exact ⟨y, h1, h2⟩
theorem fop_cons {α β : Type} {P : Program} {f : Field} {fs : List Field} {off : Nat} {a : Kd α} {b : Kd β} {Q : α → Prop} {R : β → Prop} (h : Opens P f.type a Q) (ho : f.offset = off) (hs : FOpens P fs (off + a.sz) b R) : FOpens P (f :: fs) off (Kd.pair a b) (fun x => Q x.1 ∧ R x.2) := by
 refine ⟨fun {H enc w sp held m cs} hx => ?_⟩
 obtain ⟨x, hx0⟩ := hx f (by simp)
 obtain ⟨y, h1, h2⟩ := h.op hx0
 rw [ho, h.cells] at h1
 obtain ⟨z, h3, h4⟩ := hs.op (fun g hg => hx g (List.mem_cons_of_mem _ hg))
 refine ⟨(y, z), ⟨_, _, ?_, h1, h3⟩, h2, h4⟩
 show (cs.drop off).take (a.sz + b.sz) = _
 rw [List.take_add, List.drop_drop]
theorem op_struct {α : Type} {P : Program} {t : TypeId} {fs : Array Field} {d : Kd α} {Q : α → Prop} (ht : P.underlying t = some (.struct fs)) (hc : P.cellsOf t = d.sz) (h : FOpens P fs.toList 0 d Q) : Opens P t d Q := by
 refine ⟨hc, fun {H enc w sp held fuel cs x} hx => ?_⟩
 obtain ⟨xs, n, _, _, hl, hlen, hf⟩ := DataW.trod_struct ht hx
 obtain ⟨y, h1, h2⟩ := h.op (m := n) (cs := cs) (w := w) (enc := enc) (sp := sp) (held := held) (fun f hm => by
  obtain ⟨i, hi, hg⟩ := List.mem_iff_getElem.mp hm
  have hi2 : i < fs.size := by simpa using hi
  have h3 := hf i f (by rw [Array.getElem?_eq_getElem hi2]; simp at hg; rw [hg])
  rw [List.getElem?_eq_getElem (by omega : i < xs.length)] at h3
  exact ⟨_, h3⟩)
 rw [List.drop_zero, List.take_of_length_le (by omega)] at h1
 exact ⟨y, h1, h2⟩
theorem op_iso {α β : Type} {P : Program} {t : TypeId} {d : Kd α} {f : β → α} {Q : α → Prop} {R : β → Prop} (h : Opens P t d Q) (g : α → β) (hg : ∀ x, f (g x) = x) (hR : ∀ x, Q x → R (g x)) : Opens P t (Kd.iso d f) R := by
 refine ⟨h.cells, fun {H enc w sp held fuel cs x} hx => ?_⟩
 obtain ⟨y, h1, h2⟩ := h.op hx
 exact ⟨g y, by show d.K _ (f (g y)) _; rw [hg]; exact h1, hR y h2⟩
/-- A row's slice is no longer than its weight allows. -/
theorem sized_any {H : Type} {enc : TypeId × Value → H} {P : Program} {W : World} {base : Nat} {spare : Nat → Bool} {held : Bool} {t e : TypeId} {a : Option Addr} {len cap : Nat} {d : DataW H} {ps : List MemPlace} {ts : List TypeId} {ds : List (DataW H)} {j : Nat}
  (hsz : (DataW.weightsEach P ts ds).all (· ≤ reachBytes) = true) (ht : ts[j]? = some t) (hd : ds[j]? = some d) (hu : P.underlying t = some (.slice e)) {B : Nat} (hB : P.bytesOf e = B)
  (h : DataW.Trod enc P W base spare held t (.slice a len cap) d ps) : len * B ≤ 140737488351232 := by
 obtain ⟨fuel, hf⟩ := h
 rcases DataW.trod_slice hu hf with ⟨hcs, _⟩ | ⟨x, l, c, elems, rest, n, _, hcs, hx, _, hl, _, hlen, _, _⟩
 ·simp [Value.cells] at hcs
  obtain ⟨rfl, rfl, rfl⟩ := hcs
  simp
 ·simp [Value.cells] at hcs
  obtain ⟨rfl, rfl, rfl⟩ := hcs
  obtain ⟨hx, _⟩ := Prod.mk.inj hx
  subst hx
  have z := sized_slice hsz ht hd hu
  rw [hB] at z
  have h1 : len ≤ (elems.map (·.1)).length + (rest.map (·.1)).length := by simp; omega
  exact Nat.le_trans (Nat.mul_le_mul_right _ h1) z
end Go.Proofs.Ytpclhbcflkncnaa.RowX
