import Derived.Test.YtpclhbcflkncnaaRows
import Derived.Test.YtpclhbcflkncnaaBRawDiffDiff
import Derived.Test.YtpclhbcflkncnaaBHDiffDiff
import Derived.Test.YtpclhbcflkncnaaBRowX
import Derived.WalkKit
import Derived.ProofKit
import Derived.OpenShut
import Derived.ShutString
import Derived.ChangeOld
import Derived.Below
import Derived.SizedLaws
import Derived.Test.YtpclhbcflkncnaaAW0
import Derived.Test.YtpclhbcflkncnaaAS
import Derived.Test.YtpclhbcflkncnaaA26
-- Written by wip/tools/plugprint.py of this session over the kit's print, with hand-written parts from wip/plugs. Lean checks it.
namespace Go.Proofs.Ytpclhbcflkncnaa.diffDiff
open Go.ChangeShapes Go.WideShapes Go.ChangeAt Go.RowKit Go.Proofs.Ytpclhbcflkncnaa.PAll Go.Proofs.YtpclhbcflkncnaaW.PrintWords Go.Proofs.Ytpclhbcflkncnaa
open Go.ChangeMaps (open_string shut_string)
set_option linter.unusedVariables false
theorem own : ownKnob Try.prog.godebug = none := by kernel_rfl
theorem laidOut : laidOutB Try.prog = true := by kernel_rfl
set_option maxRecDepth 100000 in
theorem opens28 : Go.Proofs.Ytpclhbcflkncnaa.RowX.Opens Try.prog 28 k28 (fun x => ((Lit.int .i64 x.f0).wf = true ∧ (Lit.int .i64 x.f1).wf = true ∧ (x.f2.length ≤ maxLen ∧ ∀ y0 ∈ x.f2, (Lit.int .i64 y0).wf = true) ∧ (x.f3.length ≤ maxLen ∧ ∀ y0 ∈ x.f3, (Lit.int .i64 y0).wf = true))) := Go.Proofs.Ytpclhbcflkncnaa.RowX.op_iso (Go.Proofs.Ytpclhbcflkncnaa.RowX.op_struct (P := Try.prog) (t := 28) (d := (Kd.pair (Kd.int .i64) (Kd.pair (Kd.int .i64) (Kd.pair (Kd.slice 3 (Kd.int .i64)) (Kd.slice 3 (Kd.int .i64)))))) Try.underlying28 (by kernel_rfl) (Go.Proofs.Ytpclhbcflkncnaa.RowX.fop_cons (Go.Proofs.Ytpclhbcflkncnaa.RowX.op_int (P := Try.prog) (e := 3) (k := .i64) Try.underlying3 (by kernel_rfl)) rfl (Go.Proofs.Ytpclhbcflkncnaa.RowX.fop_cons (Go.Proofs.Ytpclhbcflkncnaa.RowX.op_int (P := Try.prog) (e := 3) (k := .i64) Try.underlying3 (by kernel_rfl)) rfl (Go.Proofs.Ytpclhbcflkncnaa.RowX.fop_cons (Go.Proofs.Ytpclhbcflkncnaa.RowX.op_slice (P := Try.prog) (t := 23) Try.underlying23 (by kernel_rfl) (Go.Proofs.Ytpclhbcflkncnaa.RowX.op_int (P := Try.prog) (e := 3) (k := .i64) Try.underlying3 (by kernel_rfl))) rfl (Go.Proofs.Ytpclhbcflkncnaa.RowX.fop_one (Go.Proofs.Ytpclhbcflkncnaa.RowX.op_slice (P := Try.prog) (t := 23) Try.underlying23 (by kernel_rfl) (Go.Proofs.Ytpclhbcflkncnaa.RowX.op_int (P := Try.prog) (e := 3) (k := .i64) Try.underlying3 (by kernel_rfl))) rfl))))) (fun y => (⟨y.1, y.2.1, y.2.2.1, y.2.2.2⟩ : S28)) (fun _ => rfl) (fun _ h => h)
set_option maxHeartbeats 4000000 in
set_option maxRecDepth 100000 in
theorem lifted (os : Os) (started : os.Started) (H : Type) (enc : TypeId × Value → H) :
    ReturnsInHanded {} Try.checked os 4 .any (Rows.diffDiffSpec.pre6 enc Try.prog Try.f4 Rows.diffDiffRow.domain false) (Rows.diffDiffSpec.post enc Try.prog Try.f4 false true false false) := by
  refine returnsInHanded_of_change_sized (C := Try.checked) own started (by kernel_rfl) Try.func4
    (ChangeSpec.witness6 (enc := enc) (C := Try.checked) false ⟨#[], #[.slice none 0 0, .slice none 0 0, .slice none 0 0], []⟩ 8 (by kernel_rfl) (by kernel_rfl) (by kernel_rfl) (by kernel_rfl)) ?_
  intro W base args ds gs before hval0 hW hcnd hsz0 _
  have hsz : (DataW.weightsEach Try.prog (Try.f4.params.toList ++ Rows.diffDiffSpec.plain.varTypes Try.prog) (ds ++ gs)).all (· ≤ reachBytes) = true := hsz0
  have hval : ∀ (j : Nat) t v, Try.f4.params[j]? = some t → args[j]? = some v → Value.okWide Try.prog W .any base t v := hval0
  have hW' := hW
  obtain ⟨p, q, hA0, hV, rfl, hfz, hnd⟩ := hW
  have hA : DataW.TrodAll enc Try.prog W 0 (fun _ => true) true Try.f4.params.toList args.toList ds p := hA0
  rw [Try.params4] at hA hval hsz
  obtain ⟨v0, vs0, d0, ds0, p0, q0, hargs, rfl, rfl, h0, r0⟩ := trodAll_cons hA
  obtain ⟨v1, vs1, d1, ds1, p1, q1, rfl, rfl, rfl, h1, r1⟩ := trodAll_cons r0
  obtain ⟨v2, vs2, d2, ds2, p2, q2, rfl, rfl, rfl, h2, r2⟩ := trodAll_cons r1
  obtain ⟨rfl, rfl, rfl⟩ := trodAll_nil r2
  obtain rfl : args = #[v0, v1, v2] := by cases args; simp_all
  obtain ⟨rfl, rfl⟩ := trodVars_none hV
  obtain ⟨a0, len0, cap0, rfl⟩ := okWide_slice Try.underlying23 (hval 0 23 v0 rfl rfl)
  have k0 := h0
  have lt0 : ∀ x ∈ p0, x.block < W.heap.size := by obtain ⟨m, hm⟩ := k0; exact DataW.trod_lt m _ _ _ hm
  have y0 : len0 * 8 ≤ 140737488351232 := Go.Proofs.Ytpclhbcflkncnaa.RowX.sized_any hsz (j := 0) (t := 23) rfl rfl Try.underlying23 (by kernel_rfl) h0
  obtain ⟨fuel0, hf0⟩ := h0
  obtain ⟨A0, l0, c0, e0, hc0, hm0, hr0, hw0⟩ := Go.Proofs.Ytpclhbcflkncnaa.RowX.op_row (t := 23) Try.underlying23 (Go.Proofs.Ytpclhbcflkncnaa.RowX.op_int (P := Try.prog) (e := 3) (k := .i64) Try.underlying3 (by kernel_rfl)) hf0
  obtain ⟨rfl, rfl, rfl⟩ : a0 = A0 ∧ len0 = l0.length ∧ cap0 = c0 := by simpa [Value.cells] using e0
  obtain ⟨a1, len1, cap1, rfl⟩ := okWide_slice Try.underlying23 (hval 1 23 v1 rfl rfl)
  have k1 := h1
  have lt1 : ∀ x ∈ p1, x.block < W.heap.size := by obtain ⟨m, hm⟩ := k1; exact DataW.trod_lt m _ _ _ hm
  have y1 : len1 * 8 ≤ 140737488351232 := Go.Proofs.Ytpclhbcflkncnaa.RowX.sized_any hsz (j := 1) (t := 23) rfl rfl Try.underlying23 (by kernel_rfl) h1
  obtain ⟨fuel1, hf1⟩ := h1
  obtain ⟨A1, l1, c1, e1, hc1, hm1, hr1, hw1⟩ := Go.Proofs.Ytpclhbcflkncnaa.RowX.op_row (t := 23) Try.underlying23 (Go.Proofs.Ytpclhbcflkncnaa.RowX.op_int (P := Try.prog) (e := 3) (k := .i64) Try.underlying3 (by kernel_rfl)) hf1
  obtain ⟨rfl, rfl, rfl⟩ : a1 = A1 ∧ len1 = l1.length ∧ cap1 = c1 := by simpa [Value.cells] using e1
  obtain ⟨a2, len2, cap2, rfl⟩ := okWide_slice Try.underlying22 (hval 2 22 v2 rfl rfl)
  have k2 := h2
  have lt2 : ∀ x ∈ p2, x.block < W.heap.size := by obtain ⟨m, hm⟩ := k2; exact DataW.trod_lt m _ _ _ hm
  have y2 : len2 * 64 ≤ 140737488351232 := Go.Proofs.Ytpclhbcflkncnaa.RowX.sized_any hsz (j := 2) (t := 22) rfl rfl Try.underlying22 (by kernel_rfl) h2
  obtain ⟨fuel2, hf2⟩ := h2
  obtain ⟨A2, l2, c2, e2, hc2, hm2, hr2, hw2⟩ := Go.Proofs.Ytpclhbcflkncnaa.RowX.op_row (t := 22) Try.underlying22 opens28 hf2
  obtain ⟨rfl, rfl, rfl⟩ : a2 = A2 ∧ len2 = l2.length ∧ cap2 = c2 := by simpa [Value.cells] using e2
  clear hA0 hval0 hsz0 hsz
  have hp : PAll.railplanlaw42_DiffDiff.Pure := Pure.DiffDiff
  obtain ⟨k, h⟩ := hp l0 l1 l2 hm0 y0 hw0 hm1 y1 hw1 hm2 y2 hw2
  refine (PAll.railplanlaw42_DiffDiff.calls (k := k) (w := W) (r := true) (A0 := a0) (c0 := cap0) (l0 := l0) (hr0 := hr0) (hc0 := hc0) (A1 := a1) (c1 := cap1) (l1 := l1) (hr1 := hr1) (hc1 := hc1) (A2 := a2) (c2 := cap2) (l2 := l2) (hr2 := hr2) (hc2 := hc2) (h := h)).mono ?_
  rintro e W' ⟨he, bel0⟩
  have bel := bel0
  subst he
  exact ⟨_, rfl, _, _, _, [], _, [], hW', trodAll_mk1 (shut_bool Try.underlying4 _), (trodAll_cons_mk (Below.trod laidOut (by kernel_rfl) (of_decide_eq_true (by kernel_rfl)) k0 bel lt0) (trodAll_cons_mk (Below.trod laidOut (by kernel_rfl) (of_decide_eq_true (by kernel_rfl)) k1 bel lt1) (trodAll_cons_mk (Below.trod laidOut (by kernel_rfl) (of_decide_eq_true (by kernel_rfl)) k2 bel lt2) trodAll_mk0))), rfl, bel.frame _, fun h => by cases h⟩
theorem over : Rows.diffDiffRow.holds Try.pinned (OpenSpec.ofChange Rows.diffDiffSpec) :=
  OpenClaim.holds_of_wide 4 Try.f4 rfl rfl rfl rfl rfl rfl rfl ⟨rfl, rfl, rfl, rfl, rfl⟩ rfl rfl rfl rfl rfl (by kernel_rfl) Try.func4 (by kernel_rfl)
    (of_decide_eq_true (by kernel_rfl)) (by unfold Func.isWrapper; first | (rw [if_pos (by decide +kernel)]; kernel_rfl) | (rw [if_neg (by decide +kernel)]; exact ⟨rfl, rfl⟩))
    (fun os started H enc _ => lifted os started H enc)
theorem proved : Rows.DiffDiffSaid := over
#print axioms proved
end Go.Proofs.Ytpclhbcflkncnaa.diffDiff
namespace Go.Proofs.Ytpclhbcflkncnaa
/-- The row, under a short name, for the claim. -/
theorem diffDiff_holds : Rows.DiffDiffSaid := diffDiff.proved
end Go.Proofs.Ytpclhbcflkncnaa
