import Derived.Test.YtgbcgbfoejkieaaRows
import Derived.Test.YtgbcgbfoejkieaaQRawInequalityRaw
import Derived.Test.YtgbcgbfoejkieaaQHInequalityRaw
import Derived.Test.YtgbcgbfoejkieaaQRowX
import Derived.WalkKit
import Derived.ProofKit
import Derived.OpenShut
import Derived.ShutString
import Derived.ChangeOld
import Derived.Below
import Derived.SizedLaws
import Derived.Test.YtgbcgbfoejkieaaKW0
import Derived.Test.YtgbcgbfoejkieaaKS
import Derived.Test.YtgbcgbfoejkieaaK43
-- Written by wip/tools/plugprint.py of this session over the kit's print, with hand-written parts from wip/plugs. Lean checks it.
namespace Go.Proofs.Ytgbcgbfoejkieaa.inequalityRaw
open Go.ChangeShapes Go.WideShapes Go.ChangeAt Go.RowKit Go.Proofs.Ytgbcgbfoejkieaa.PAll Go.Proofs.YtgbcgbfoejkieaaW.PrintWords Go.Proofs.Ytgbcgbfoejkieaa
open Go.ChangeMaps (open_string shut_string)
set_option linter.unusedVariables false
theorem own : ownKnob Try.prog.godebug = none := by kernel_rfl
theorem laidOut : laidOutB Try.prog = true := by kernel_rfl
set_option maxRecDepth 100000 in
theorem opens60 : Go.Proofs.Ytgbcgbfoejkieaa.RowX.Opens Try.prog 60 k60 (fun x => ((Lit.int .i64 x.f0).wf = true ∧ (Lit.int .i64 x.f1).wf = true ∧ (Lit.int .i64 x.f2).wf = true)) := Go.Proofs.Ytgbcgbfoejkieaa.RowX.op_iso (Go.Proofs.Ytgbcgbfoejkieaa.RowX.op_struct (P := Try.prog) (t := 60) (d := (Kd.pair (Kd.int .i64) (Kd.pair (Kd.int .i64) (Kd.int .i64)))) Try.underlying60 (by kernel_rfl) (Go.Proofs.Ytgbcgbfoejkieaa.RowX.fop_cons (Go.Proofs.Ytgbcgbfoejkieaa.RowX.op_int (P := Try.prog) (e := 3) (k := .i64) Try.underlying3 (by kernel_rfl)) rfl (Go.Proofs.Ytgbcgbfoejkieaa.RowX.fop_cons (Go.Proofs.Ytgbcgbfoejkieaa.RowX.op_int (P := Try.prog) (e := 3) (k := .i64) Try.underlying3 (by kernel_rfl)) rfl (Go.Proofs.Ytgbcgbfoejkieaa.RowX.fop_one (Go.Proofs.Ytgbcgbfoejkieaa.RowX.op_int (P := Try.prog) (e := 3) (k := .i64) Try.underlying3 (by kernel_rfl)) rfl)))) (fun y => (⟨y.1, y.2.1, y.2.2⟩ : S60)) (fun _ => rfl) (fun _ h => h)
set_option maxRecDepth 100000 in
theorem opens62 : Go.Proofs.Ytgbcgbfoejkieaa.RowX.Opens Try.prog 62 k62 (fun x => ((Lit.int .i64 x.f0).wf = true ∧ (Lit.int .i64 x.f1).wf = true ∧ (Lit.int .i64 x.f2).wf = true ∧ (Lit.int .i64 x.f3).wf = true ∧ (Lit.int .i64 x.f4).wf = true ∧ (Lit.int .i64 x.f5).wf = true)) := Go.Proofs.Ytgbcgbfoejkieaa.RowX.op_iso (Go.Proofs.Ytgbcgbfoejkieaa.RowX.op_struct (P := Try.prog) (t := 62) (d := (Kd.pair (Kd.int .i64) (Kd.pair (Kd.int .i64) (Kd.pair (Kd.int .i64) (Kd.pair (Kd.int .i64) (Kd.pair (Kd.int .i64) (Kd.int .i64))))))) Try.underlying62 (by kernel_rfl) (Go.Proofs.Ytgbcgbfoejkieaa.RowX.fop_cons (Go.Proofs.Ytgbcgbfoejkieaa.RowX.op_int (P := Try.prog) (e := 3) (k := .i64) Try.underlying3 (by kernel_rfl)) rfl (Go.Proofs.Ytgbcgbfoejkieaa.RowX.fop_cons (Go.Proofs.Ytgbcgbfoejkieaa.RowX.op_int (P := Try.prog) (e := 3) (k := .i64) Try.underlying3 (by kernel_rfl)) rfl (Go.Proofs.Ytgbcgbfoejkieaa.RowX.fop_cons (Go.Proofs.Ytgbcgbfoejkieaa.RowX.op_int (P := Try.prog) (e := 3) (k := .i64) Try.underlying3 (by kernel_rfl)) rfl (Go.Proofs.Ytgbcgbfoejkieaa.RowX.fop_cons (Go.Proofs.Ytgbcgbfoejkieaa.RowX.op_int (P := Try.prog) (e := 3) (k := .i64) Try.underlying3 (by kernel_rfl)) rfl (Go.Proofs.Ytgbcgbfoejkieaa.RowX.fop_cons (Go.Proofs.Ytgbcgbfoejkieaa.RowX.op_int (P := Try.prog) (e := 3) (k := .i64) Try.underlying3 (by kernel_rfl)) rfl (Go.Proofs.Ytgbcgbfoejkieaa.RowX.fop_one (Go.Proofs.Ytgbcgbfoejkieaa.RowX.op_int (P := Try.prog) (e := 3) (k := .i64) Try.underlying3 (by kernel_rfl)) rfl))))))) (fun y => (⟨y.1, y.2.1, y.2.2.1, y.2.2.2.1, y.2.2.2.2.1, y.2.2.2.2.2⟩ : S62)) (fun _ => rfl) (fun _ h => h)
set_option maxRecDepth 100000 in
theorem opens26 : Go.Proofs.Ytgbcgbfoejkieaa.RowX.Opens Try.prog 26 k26 (fun x => ((Lit.int .i64 x.f0).wf = true ∧ (x.f1.length ≤ maxLen ∧ ∀ y0 ∈ x.f1, ((Lit.int .i64 y0.f0).wf = true ∧ (Lit.int .i64 y0.f1).wf = true ∧ (Lit.int .i64 y0.f2).wf = true)) ∧ (x.f2.length ≤ maxLen ∧ ∀ y0 ∈ x.f2, ((Lit.int .i64 y0.f0).wf = true ∧ (Lit.int .i64 y0.f1).wf = true ∧ (Lit.int .i64 y0.f2).wf = true ∧ (Lit.int .i64 y0.f3).wf = true ∧ (Lit.int .i64 y0.f4).wf = true ∧ (Lit.int .i64 y0.f5).wf = true)))) := Go.Proofs.Ytgbcgbfoejkieaa.RowX.op_iso (Go.Proofs.Ytgbcgbfoejkieaa.RowX.op_struct (P := Try.prog) (t := 26) (d := (Kd.pair (Kd.int .i64) (Kd.pair (Kd.slice 60 k60) (Kd.slice 62 k62)))) Try.underlying26 (by kernel_rfl) (Go.Proofs.Ytgbcgbfoejkieaa.RowX.fop_cons (Go.Proofs.Ytgbcgbfoejkieaa.RowX.op_int (P := Try.prog) (e := 3) (k := .i64) Try.underlying3 (by kernel_rfl)) rfl (Go.Proofs.Ytgbcgbfoejkieaa.RowX.fop_cons (Go.Proofs.Ytgbcgbfoejkieaa.RowX.op_slice (P := Try.prog) (t := 23) Try.underlying23 (by kernel_rfl) opens60) rfl (Go.Proofs.Ytgbcgbfoejkieaa.RowX.fop_one (Go.Proofs.Ytgbcgbfoejkieaa.RowX.op_slice (P := Try.prog) (t := 24) Try.underlying24 (by kernel_rfl) opens62) rfl)))) (fun y => (⟨y.1, y.2.1, y.2.2⟩ : S26)) (fun _ => rfl) (fun _ h => h)
set_option maxRecDepth 100000 in
theorem opens32 : Go.Proofs.Ytgbcgbfoejkieaa.RowX.Opens Try.prog 32 k32 (fun x => ((x.f0.length ≤ maxLen ∧ ∀ y0 ∈ x.f0, (Lit.int .i64 y0).wf = true) ∧ (x.f1.length ≤ maxLen ∧ ∀ y0 ∈ x.f1, (Lit.int .i64 y0).wf = true))) := Go.Proofs.Ytgbcgbfoejkieaa.RowX.op_iso (Go.Proofs.Ytgbcgbfoejkieaa.RowX.op_struct (P := Try.prog) (t := 32) (d := (Kd.pair (Kd.slice 3 (Kd.int .i64)) (Kd.slice 3 (Kd.int .i64)))) Try.underlying32 (by kernel_rfl) (Go.Proofs.Ytgbcgbfoejkieaa.RowX.fop_cons (Go.Proofs.Ytgbcgbfoejkieaa.RowX.op_slice (P := Try.prog) (t := 22) Try.underlying22 (by kernel_rfl) (Go.Proofs.Ytgbcgbfoejkieaa.RowX.op_int (P := Try.prog) (e := 3) (k := .i64) Try.underlying3 (by kernel_rfl))) rfl (Go.Proofs.Ytgbcgbfoejkieaa.RowX.fop_one (Go.Proofs.Ytgbcgbfoejkieaa.RowX.op_slice (P := Try.prog) (t := 22) Try.underlying22 (by kernel_rfl) (Go.Proofs.Ytgbcgbfoejkieaa.RowX.op_int (P := Try.prog) (e := 3) (k := .i64) Try.underlying3 (by kernel_rfl))) rfl))) (fun y => (⟨y.1, y.2⟩ : S32)) (fun _ => rfl) (fun _ h => h)
set_option maxHeartbeats 4000000 in
set_option maxRecDepth 100000 in
theorem lifted (os : Os) (started : os.Started) (H : Type) (enc : TypeId × Value → H) :
    ReturnsInHanded {} Try.checked os 11 .any (Rows.inequalityRawSpec.pre6 enc Try.prog Try.f11 Rows.inequalityRawRow.domain false) (Rows.inequalityRawSpec.post enc Try.prog Try.f11 false true false false) := by
  refine returnsInHanded_of_change_sized (C := Try.checked) own started (by kernel_rfl) Try.func11
    (ChangeSpec.witness6 (enc := enc) (C := Try.checked) false ⟨#[], #[.agg #[.int .i64 0, .slice none 0 0, .slice none 0 0], .agg #[.slice none 0 0, .slice none 0 0], .slice none 0 0, .slice none 0 0], []⟩ 8 (by kernel_rfl) (by kernel_rfl) (by kernel_rfl) (by kernel_rfl)) ?_
  intro W base args ds gs before hval0 hW hcnd hsz0 _
  have hsz : (DataW.weightsEach Try.prog (Try.f11.params.toList ++ Rows.inequalityRawSpec.plain.varTypes Try.prog) (ds ++ gs)).all (· ≤ reachBytes) = true := hsz0
  have hval : ∀ (j : Nat) t v, Try.f11.params[j]? = some t → args[j]? = some v → Value.okWide Try.prog W .any base t v := hval0
  have hW' := hW
  obtain ⟨p, q, hA0, hV, rfl, hfz, hnd⟩ := hW
  have hA : DataW.TrodAll enc Try.prog W 0 (fun _ => true) true Try.f11.params.toList args.toList ds p := hA0
  rw [Try.params11] at hA hval hsz
  obtain ⟨v0, vs0, d0, ds0, p0, q0, hargs, rfl, rfl, h0, r0⟩ := trodAll_cons hA
  obtain ⟨v1, vs1, d1, ds1, p1, q1, rfl, rfl, rfl, h1, r1⟩ := trodAll_cons r0
  obtain ⟨v2, vs2, d2, ds2, p2, q2, rfl, rfl, rfl, h2, r2⟩ := trodAll_cons r1
  obtain ⟨v3, vs3, d3, ds3, p3, q3, rfl, rfl, rfl, h3, r3⟩ := trodAll_cons r2
  obtain ⟨rfl, rfl, rfl⟩ := trodAll_nil r3
  obtain rfl : args = #[v0, v1, v2, v3] := by cases args; simp_all
  obtain ⟨rfl, rfl⟩ := trodVars_none hV
  obtain ⟨cs0, rfl, hs0⟩ := okWide_struct Try.underlying26 (hval 0 26 v0 rfl rfl)
  have k0 := h0
  have lt0 : ∀ x ∈ p0, x.block < W.heap.size := by obtain ⟨m, hm⟩ := k0; exact DataW.trod_lt m _ _ _ hm
  obtain ⟨fuel0, hf0⟩ := h0
  obtain ⟨x0, hK0, hQ0⟩ := opens26.op hf0
  obtain ⟨_, _, eq0, rfl, ⟨_, _, rfl, ⟨A0_1, c0_1, rfl, hc0_1, hr0_1⟩, ⟨A0_2, c0_2, rfl, hc0_2, hr0_2⟩⟩⟩ := hK0
  obtain rfl : cs0 = #[.int .i64 x0.f0, .slice A0_1 x0.f1.length c0_1, .slice A0_2 x0.f2.length c0_2] := by rw [← Array.toList_inj]; exact eq0
  obtain ⟨cs1, rfl, hs1⟩ := okWide_struct Try.underlying32 (hval 1 32 v1 rfl rfl)
  have k1 := h1
  have lt1 : ∀ x ∈ p1, x.block < W.heap.size := by obtain ⟨m, hm⟩ := k1; exact DataW.trod_lt m _ _ _ hm
  obtain ⟨fuel1, hf1⟩ := h1
  obtain ⟨x1, hK1, hQ1⟩ := opens32.op hf1
  obtain ⟨_, _, eq1, ⟨A1_0, c1_0, rfl, hc1_0, hr1_0⟩, ⟨A1_1, c1_1, rfl, hc1_1, hr1_1⟩⟩ := hK1
  obtain rfl : cs1 = #[.slice A1_0 x1.f0.length c1_0, .slice A1_1 x1.f1.length c1_1] := by rw [← Array.toList_inj]; exact eq1
  obtain ⟨a2, len2, cap2, rfl⟩ := okWide_slice Try.underlying28 (hval 2 28 v2 rfl rfl)
  have k2 := h2
  have lt2 : ∀ x ∈ p2, x.block < W.heap.size := by obtain ⟨m, hm⟩ := k2; exact DataW.trod_lt m _ _ _ hm
  have y2 : len2 * 48 ≤ 140737488351232 := Go.Proofs.Ytgbcgbfoejkieaa.RowX.sized_any hsz (j := 2) (t := 28) rfl rfl Try.underlying28 (by kernel_rfl) h2
  obtain ⟨fuel2, hf2⟩ := h2
  obtain ⟨A2, l2, c2, e2, hc2, hm2, hr2, hw2⟩ := Go.Proofs.Ytgbcgbfoejkieaa.RowX.op_row (t := 28) Try.underlying28 opens32 hf2
  obtain ⟨rfl, rfl, rfl⟩ : a2 = A2 ∧ len2 = l2.length ∧ cap2 = c2 := by simpa [Value.cells] using e2
  obtain ⟨a3, len3, cap3, rfl⟩ := okWide_slice Try.underlying22 (hval 3 22 v3 rfl rfl)
  have k3 := h3
  have lt3 : ∀ x ∈ p3, x.block < W.heap.size := by obtain ⟨m, hm⟩ := k3; exact DataW.trod_lt m _ _ _ hm
  have y3 : len3 * 8 ≤ 140737488351232 := Go.Proofs.Ytgbcgbfoejkieaa.RowX.sized_any hsz (j := 3) (t := 22) rfl rfl Try.underlying22 (by kernel_rfl) h3
  obtain ⟨fuel3, hf3⟩ := h3
  obtain ⟨A3, l3, c3, e3, hc3, hm3, hr3, hw3⟩ := Go.Proofs.Ytgbcgbfoejkieaa.RowX.op_row (t := 22) Try.underlying22 (Go.Proofs.Ytgbcgbfoejkieaa.RowX.op_int (P := Try.prog) (e := 3) (k := .i64) Try.underlying3 (by kernel_rfl)) hf3
  obtain ⟨rfl, rfl, rfl⟩ : a3 = A3 ∧ len3 = l3.length ∧ cap3 = c3 := by simpa [Value.cells] using e3
  clear hA0 hval0 hsz0 hsz
  have hp : PAll.railplanlaw14_InequalityRaw.Pure := Pure.InequalityRaw
  obtain ⟨k, h⟩ := hp x0 x1 l2 l3 hQ0 hQ1 hm2 y2 hw2 hm3 y3 hw3
  refine (PAll.railplanlaw14_InequalityRaw.calls (k := k) (w := W) (r := true) (a0_0 := x0.f0) (A0_1 := A0_1) (c0_1 := c0_1) (l0_1 := x0.f1) (hr0_1 := hr0_1) (hc0_1 := hc0_1) (A0_2 := A0_2) (c0_2 := c0_2) (l0_2 := x0.f2) (hr0_2 := hr0_2) (hc0_2 := hc0_2) (A1_0 := A1_0) (c1_0 := c1_0) (l1_0 := x1.f0) (hr1_0 := hr1_0) (hc1_0 := hc1_0) (A1_1 := A1_1) (c1_1 := c1_1) (l1_1 := x1.f1) (hr1_1 := hr1_1) (hc1_1 := hc1_1) (A2 := a2) (c2 := cap2) (l2 := l2) (hr2 := hr2) (hc2 := hc2) (A3 := a3) (c3 := cap3) (l3 := l3) (hr3 := hr3) (hc3 := hc3) (h := h)).mono ?_
  rintro e W' ⟨he, bel0⟩
  have bel := bel0
  subst he
  exact ⟨_, rfl, _, _, _, [], _, [], hW', trodAll_mk1 (shut_bool Try.underlying4 _), (trodAll_cons_mk (Below.trod laidOut (by kernel_rfl) (of_decide_eq_true (by kernel_rfl)) k0 bel lt0) (trodAll_cons_mk (Below.trod laidOut (by kernel_rfl) (of_decide_eq_true (by kernel_rfl)) k1 bel lt1) (trodAll_cons_mk (Below.trod laidOut (by kernel_rfl) (of_decide_eq_true (by kernel_rfl)) k2 bel lt2) (trodAll_cons_mk (Below.trod laidOut (by kernel_rfl) (of_decide_eq_true (by kernel_rfl)) k3 bel lt3) trodAll_mk0)))), rfl, bel.frame _, fun h => by cases h⟩
theorem over : Rows.inequalityRawRow.holds Try.pinned (OpenSpec.ofChange Rows.inequalityRawSpec) :=
  OpenClaim.holds_of_wide 11 Try.f11 rfl rfl rfl rfl rfl rfl rfl ⟨rfl, rfl, rfl, rfl, rfl⟩ rfl rfl rfl rfl rfl (by kernel_rfl) Try.func11 (by kernel_rfl)
    (of_decide_eq_true (by kernel_rfl)) (by unfold Func.isWrapper; first | (rw [if_pos (by decide +kernel)]; kernel_rfl) | (rw [if_neg (by decide +kernel)]; exact ⟨rfl, rfl⟩))
    (fun os started H enc _ => lifted os started H enc)
theorem proved : Rows.InequalityRawSaid := over
#print axioms proved
end Go.Proofs.Ytgbcgbfoejkieaa.inequalityRaw
namespace Go.Proofs.Ytgbcgbfoejkieaa
/-- The row, under a short name, for the claim. -/
theorem inequalityRaw_holds : Rows.InequalityRawSaid := inequalityRaw.proved
end Go.Proofs.Ytgbcgbfoejkieaa
