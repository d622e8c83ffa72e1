import Derived.Test.YtiohandkjjmemaaRows
import Derived.Test.YtiohandkjjmemaaQRawClosureRaw
import Derived.Test.YtiohandkjjmemaaQPureClosureRaw
import Derived.Test.YtiohandkjjmemaaQRowX
import Derived.WalkKit
import Derived.ProofKit
import Derived.OpenShut
import Derived.ShutString
import Derived.ChangeOld
import Derived.Below
import Derived.SizedLaws
import Derived.Test.YtiohandkjjmemaaKW0
import Derived.Test.YtiohandkjjmemaaKS
import Derived.Test.YtiohandkjjmemaaK26
-- Written by wip/tools/plugprint.py of this session over the kit's print, with hand-written parts from wip/plugs. Lean checks it.
namespace Go.Proofs.Ytiohandkjjmemaa.closureRaw
open Go.ChangeShapes Go.WideShapes Go.ChangeAt Go.RowKit Go.Proofs.Ytiohandkjjmemaa.PAll Go.Proofs.YtiohandkjjmemaaW.PrintWords Go.Proofs.Ytiohandkjjmemaa
open Go.ChangeMaps (open_string shut_string)
set_option linter.unusedVariables false
theorem own : ownKnob Try.prog.godebug = none := by kernel_rfl
theorem laidOut : laidOutB Try.prog = true := by kernel_rfl
set_option maxRecDepth 100000 in
theorem opens27 : Go.Proofs.Ytiohandkjjmemaa.RowX.Opens Try.prog 27 k27 (fun x => ((Lit.int .i64 x.f0).wf = true ∧ (Lit.int .i64 x.f1).wf = true ∧ (Lit.int .i64 x.f2).wf = true)) := Go.Proofs.Ytiohandkjjmemaa.RowX.op_iso (Go.Proofs.Ytiohandkjjmemaa.RowX.op_struct (P := Try.prog) (t := 27) (d := (Kd.pair (Kd.int .i64) (Kd.pair (Kd.int .i64) (Kd.int .i64)))) Try.underlying27 (by kernel_rfl) (Go.Proofs.Ytiohandkjjmemaa.RowX.fop_cons (Go.Proofs.Ytiohandkjjmemaa.RowX.op_int (P := Try.prog) (e := 3) (k := .i64) Try.underlying3 (by kernel_rfl)) rfl (Go.Proofs.Ytiohandkjjmemaa.RowX.fop_cons (Go.Proofs.Ytiohandkjjmemaa.RowX.op_int (P := Try.prog) (e := 3) (k := .i64) Try.underlying3 (by kernel_rfl)) rfl (Go.Proofs.Ytiohandkjjmemaa.RowX.fop_one (Go.Proofs.Ytiohandkjjmemaa.RowX.op_int (P := Try.prog) (e := 3) (k := .i64) Try.underlying3 (by kernel_rfl)) rfl)))) (fun y => (⟨y.1, y.2.1, y.2.2⟩ : S27)) (fun _ => rfl) (fun _ h => h)
set_option maxRecDepth 100000 in
theorem opens39 : Go.Proofs.Ytiohandkjjmemaa.RowX.Opens Try.prog 39 k39 (fun x => ((Lit.int .i64 x.f0).wf = true ∧ (Lit.int .i64 x.f1).wf = true ∧ (Lit.int .i64 x.f2).wf = true)) := Go.Proofs.Ytiohandkjjmemaa.RowX.op_iso (Go.Proofs.Ytiohandkjjmemaa.RowX.op_struct (P := Try.prog) (t := 39) (d := (Kd.pair (Kd.int .i64) (Kd.pair (Kd.int .i64) (Kd.int .i64)))) Try.underlying39 (by kernel_rfl) (Go.Proofs.Ytiohandkjjmemaa.RowX.fop_cons (Go.Proofs.Ytiohandkjjmemaa.RowX.op_int (P := Try.prog) (e := 3) (k := .i64) Try.underlying3 (by kernel_rfl)) rfl (Go.Proofs.Ytiohandkjjmemaa.RowX.fop_cons (Go.Proofs.Ytiohandkjjmemaa.RowX.op_int (P := Try.prog) (e := 3) (k := .i64) Try.underlying3 (by kernel_rfl)) rfl (Go.Proofs.Ytiohandkjjmemaa.RowX.fop_one (Go.Proofs.Ytiohandkjjmemaa.RowX.op_int (P := Try.prog) (e := 3) (k := .i64) Try.underlying3 (by kernel_rfl)) rfl)))) (fun y => (⟨y.1, y.2.1, y.2.2⟩ : S39)) (fun _ => rfl) (fun _ h => h)
set_option maxHeartbeats 4000000 in
set_option maxRecDepth 100000 in
theorem lifted (os : Os) (started : os.Started) (H : Type) (enc : TypeId × Value → H) :
    ReturnsInHanded {} Try.checked os 8 .any (Rows.closureRawSpec.pre6 enc Try.prog Try.f8 Rows.closureRawRow.domain false) (Rows.closureRawSpec.post enc Try.prog Try.f8 false true false false) := by
  refine returnsInHanded_of_change_sized (C := Try.checked) own started (by kernel_rfl) Try.func8
    (ChangeSpec.witness6 (enc := enc) (C := Try.checked) false ⟨#[], #[.slice none 0 0, .slice none 0 0, .int .i64 0, .int .i64 0, .int .i64 0], []⟩ 8 (by kernel_rfl) (by kernel_rfl) (by kernel_rfl) (by kernel_rfl)) ?_
  intro W base args ds gs before hval0 hW hcnd hsz0 _
  have hsz : (DataW.weightsEach Try.prog (Try.f8.params.toList ++ Rows.closureRawSpec.plain.varTypes Try.prog) (ds ++ gs)).all (· ≤ reachBytes) = true := hsz0
  have hval : ∀ (j : Nat) t v, Try.f8.params[j]? = some t → args[j]? = some v → Value.okWide Try.prog W .any base t v := hval0
  have hW' := hW
  obtain ⟨p, q, hA0, hV, rfl, hfz, hnd⟩ := hW
  have hA : DataW.TrodAll enc Try.prog W 0 (fun _ => true) true Try.f8.params.toList args.toList ds p := hA0
  rw [Try.params8] at hA hval hsz
  obtain ⟨v0, vs0, d0, ds0, p0, q0, hargs, rfl, rfl, h0, r0⟩ := trodAll_cons hA
  obtain ⟨v1, vs1, d1, ds1, p1, q1, rfl, rfl, rfl, h1, r1⟩ := trodAll_cons r0
  obtain ⟨v2, vs2, d2, ds2, p2, q2, rfl, rfl, rfl, h2, r2⟩ := trodAll_cons r1
  obtain ⟨v3, vs3, d3, ds3, p3, q3, rfl, rfl, rfl, h3, r3⟩ := trodAll_cons r2
  obtain ⟨v4, vs4, d4, ds4, p4, q4, rfl, rfl, rfl, h4, r4⟩ := trodAll_cons r3
  obtain ⟨rfl, rfl, rfl⟩ := trodAll_nil r4
  obtain rfl : args = #[v0, v1, v2, v3, v4] := by cases args; simp_all
  obtain ⟨rfl, rfl⟩ := trodVars_none hV
  obtain ⟨a0, len0, cap0, rfl⟩ := okWide_slice Try.underlying23 (hval 0 23 v0 rfl rfl)
  have k0 := h0
  have lt0 : ∀ x ∈ p0, x.block < W.heap.size := by obtain ⟨m, hm⟩ := k0; exact DataW.trod_lt m _ _ _ hm
  have y0 : len0 * 24 ≤ 140737488351232 := Go.Proofs.Ytiohandkjjmemaa.RowX.sized_any hsz (j := 0) (t := 23) rfl rfl Try.underlying23 (by kernel_rfl) h0
  obtain ⟨fuel0, hf0⟩ := h0
  obtain ⟨A0, l0, c0, e0, hc0, hm0, hr0, hw0⟩ := Go.Proofs.Ytiohandkjjmemaa.RowX.op_row (t := 23) Try.underlying23 opens27 hf0
  obtain ⟨rfl, rfl, rfl⟩ : a0 = A0 ∧ len0 = l0.length ∧ cap0 = c0 := by simpa [Value.cells] using e0
  obtain ⟨a1, len1, cap1, rfl⟩ := okWide_slice Try.underlying37 (hval 1 37 v1 rfl rfl)
  have k1 := h1
  have lt1 : ∀ x ∈ p1, x.block < W.heap.size := by obtain ⟨m, hm⟩ := k1; exact DataW.trod_lt m _ _ _ hm
  have y1 : len1 * 24 ≤ 140737488351232 := Go.Proofs.Ytiohandkjjmemaa.RowX.sized_any hsz (j := 1) (t := 37) rfl rfl Try.underlying37 (by kernel_rfl) h1
  obtain ⟨fuel1, hf1⟩ := h1
  obtain ⟨A1, l1, c1, e1, hc1, hm1, hr1, hw1⟩ := Go.Proofs.Ytiohandkjjmemaa.RowX.op_row (t := 37) Try.underlying37 opens39 hf1
  obtain ⟨rfl, rfl, rfl⟩ : a1 = A1 ∧ len1 = l1.length ∧ cap1 = c1 := by simpa [Value.cells] using e1
  obtain ⟨a2, rfl, rfl, rfl, w2⟩ := open_int Try.underlying3 (hval 2 3 v2 rfl rfl) h2
  obtain ⟨a3, rfl, rfl, rfl, w3⟩ := open_int Try.underlying3 (hval 3 3 v3 rfl rfl) h3
  obtain ⟨a4, rfl, rfl, rfl, w4⟩ := open_int Try.underlying3 (hval 4 3 v4 rfl rfl) h4
  clear hA0 hval0 hsz0 hsz
  have hp : PAll.railplanlaw25_ClosureRaw.Pure := Pure.ClosureRaw
  obtain ⟨k, h⟩ := hp l0 l1 a2 a3 a4 hm0 y0 hw0 hm1 y1 hw1 w2 w3 w4
  refine (PAll.railplanlaw25_ClosureRaw.calls (k := k) (w := W) (r := true) (A0 := a0) (c0 := cap0) (l0 := l0) (hr0 := hr0) (hc0 := hc0) (A1 := a1) (c1 := cap1) (l1 := l1) (hr1 := hr1) (hc1 := hc1) (a2 := a2) (a3 := a3) (a4 := a4) (h := h)).mono ?_
  rintro e W' ⟨he, bel0⟩
  have bel := bel0
  subst he
  exact ⟨_, rfl, _, _, _, [], _, [], hW', trodAll_mk1 (shut_bool Try.underlying4 _), (trodAll_cons_mk (Below.trod laidOut (by kernel_rfl) (of_decide_eq_true (by kernel_rfl)) k0 bel lt0) (trodAll_cons_mk (Below.trod laidOut (by kernel_rfl) (of_decide_eq_true (by kernel_rfl)) k1 bel lt1) (trodAll_cons_mk (shut_int Try.underlying3 w2) (trodAll_cons_mk (shut_int Try.underlying3 w3) (trodAll_cons_mk (shut_int Try.underlying3 w4) trodAll_mk0))))), rfl, bel.frame _, fun h => by cases h⟩
theorem over : Rows.closureRawRow.holds Try.pinned (OpenSpec.ofChange Rows.closureRawSpec) :=
  OpenClaim.holds_of_wide 8 Try.f8 rfl rfl rfl rfl rfl rfl rfl ⟨rfl, rfl, rfl, rfl, rfl⟩ rfl rfl rfl rfl rfl (by kernel_rfl) Try.func8 (by kernel_rfl)
    (of_decide_eq_true (by kernel_rfl)) (by unfold Func.isWrapper; first | (rw [if_pos (by decide +kernel)]; kernel_rfl) | (rw [if_neg (by decide +kernel)]; exact ⟨rfl, rfl⟩))
    (fun os started H enc _ => lifted os started H enc)
theorem proved : Rows.ClosureRawSaid := over
#print axioms proved
end Go.Proofs.Ytiohandkjjmemaa.closureRaw
namespace Go.Proofs.Ytiohandkjjmemaa
/-- The row, under a short name, for the claim. -/
theorem closureRaw_holds : Rows.ClosureRawSaid := closureRaw.proved
end Go.Proofs.Ytiohandkjjmemaa
