import Derived.Test.YtfipfobadpealaaRows
import Derived.Test.YtfipfobadpealaaQRawRobustRaw
import Derived.Test.YtfipfobadpealaaQPureRobustRaw
import Derived.Test.YtfipfobadpealaaQRowX
import Derived.WalkKit
import Derived.ProofKit
import Derived.OpenShut
import Derived.ShutString
import Derived.ChangeOld
import Derived.Below
import Derived.SizedLaws
import Derived.Test.YtfipfobadpealaaKW0
import Derived.Test.YtfipfobadpealaaKS
import Derived.Test.YtfipfobadpealaaK38
-- Written by wip/tools/plugprint.py of this session over the kit's print, with hand-written parts from wip/plugs. Lean checks it.
namespace Go.Proofs.Ytfipfobadpealaa.robustRaw
open Go.ChangeShapes Go.WideShapes Go.ChangeAt Go.RowKit Go.Proofs.Ytfipfobadpealaa.PAll Go.Proofs.YtfipfobadpealaaW.PrintWords Go.Proofs.Ytfipfobadpealaa
open Go.ChangeMaps (open_string shut_string)
set_option linter.unusedVariables false
theorem own : ownKnob Try.prog.godebug = none := by kernel_rfl
theorem laidOut : laidOutB Try.prog = true := by kernel_rfl
set_option maxRecDepth 100000 in
theorem opens59 : Go.Proofs.Ytfipfobadpealaa.RowX.Opens Try.prog 59 k59 (fun x => ((Lit.int .i64 x.f0).wf = true ∧ (Lit.int .i64 x.f1).wf = true ∧ (Lit.int .i64 x.f2).wf = true)) := Go.Proofs.Ytfipfobadpealaa.RowX.op_iso (Go.Proofs.Ytfipfobadpealaa.RowX.op_struct (P := Try.prog) (t := 59) (d := (Kd.pair (Kd.int .i64) (Kd.pair (Kd.int .i64) (Kd.int .i64)))) Try.underlying59 (by kernel_rfl) (Go.Proofs.Ytfipfobadpealaa.RowX.fop_cons (Go.Proofs.Ytfipfobadpealaa.RowX.op_int (P := Try.prog) (e := 3) (k := .i64) Try.underlying3 (by kernel_rfl)) rfl (Go.Proofs.Ytfipfobadpealaa.RowX.fop_cons (Go.Proofs.Ytfipfobadpealaa.RowX.op_int (P := Try.prog) (e := 3) (k := .i64) Try.underlying3 (by kernel_rfl)) rfl (Go.Proofs.Ytfipfobadpealaa.RowX.fop_one (Go.Proofs.Ytfipfobadpealaa.RowX.op_int (P := Try.prog) (e := 3) (k := .i64) Try.underlying3 (by kernel_rfl)) rfl)))) (fun y => (⟨y.1, y.2.1, y.2.2⟩ : S59)) (fun _ => rfl) (fun _ h => h)
set_option maxRecDepth 100000 in
theorem opens40 : Go.Proofs.Ytfipfobadpealaa.RowX.Opens Try.prog 40 k40 (fun x => ((Lit.int .i64 x.f0).wf = true ∧ (Lit.int .i64 x.f1).wf = true ∧ (Lit.int .i64 x.f2).wf = true ∧ (Lit.int .i64 x.f3).wf = true ∧ (Lit.int .i64 x.f4).wf = true ∧ (Lit.int .i64 x.f5).wf = true)) := Go.Proofs.Ytfipfobadpealaa.RowX.op_iso (Go.Proofs.Ytfipfobadpealaa.RowX.op_struct (P := Try.prog) (t := 40) (d := (Kd.pair (Kd.int .i64) (Kd.pair (Kd.int .i64) (Kd.pair (Kd.int .i64) (Kd.pair (Kd.int .i64) (Kd.pair (Kd.int .i64) (Kd.int .i64))))))) Try.underlying40 (by kernel_rfl) (Go.Proofs.Ytfipfobadpealaa.RowX.fop_cons (Go.Proofs.Ytfipfobadpealaa.RowX.op_int (P := Try.prog) (e := 3) (k := .i64) Try.underlying3 (by kernel_rfl)) rfl (Go.Proofs.Ytfipfobadpealaa.RowX.fop_cons (Go.Proofs.Ytfipfobadpealaa.RowX.op_int (P := Try.prog) (e := 3) (k := .i64) Try.underlying3 (by kernel_rfl)) rfl (Go.Proofs.Ytfipfobadpealaa.RowX.fop_cons (Go.Proofs.Ytfipfobadpealaa.RowX.op_int (P := Try.prog) (e := 3) (k := .i64) Try.underlying3 (by kernel_rfl)) rfl (Go.Proofs.Ytfipfobadpealaa.RowX.fop_cons (Go.Proofs.Ytfipfobadpealaa.RowX.op_int (P := Try.prog) (e := 3) (k := .i64) Try.underlying3 (by kernel_rfl)) rfl (Go.Proofs.Ytfipfobadpealaa.RowX.fop_cons (Go.Proofs.Ytfipfobadpealaa.RowX.op_int (P := Try.prog) (e := 3) (k := .i64) Try.underlying3 (by kernel_rfl)) rfl (Go.Proofs.Ytfipfobadpealaa.RowX.fop_one (Go.Proofs.Ytfipfobadpealaa.RowX.op_int (P := Try.prog) (e := 3) (k := .i64) Try.underlying3 (by kernel_rfl)) rfl))))))) (fun y => (⟨y.1, y.2.1, y.2.2.1, y.2.2.2.1, y.2.2.2.2.1, y.2.2.2.2.2⟩ : S40)) (fun _ => rfl) (fun _ h => h)
set_option maxRecDepth 100000 in
theorem opens26 : Go.Proofs.Ytfipfobadpealaa.RowX.Opens Try.prog 26 k26 (fun x => ((Lit.int .i64 x.f0).wf = true ∧ (x.f1.length ≤ maxLen ∧ ∀ y ∈ x.f1, ((Lit.int .i64 y.f0).wf = true ∧ (Lit.int .i64 y.f1).wf = true ∧ (Lit.int .i64 y.f2).wf = true)) ∧ (x.f2.length ≤ maxLen ∧ ∀ y ∈ x.f2, ((Lit.int .i64 y.f0).wf = true ∧ (Lit.int .i64 y.f1).wf = true ∧ (Lit.int .i64 y.f2).wf = true ∧ (Lit.int .i64 y.f3).wf = true ∧ (Lit.int .i64 y.f4).wf = true ∧ (Lit.int .i64 y.f5).wf = true)))) := Go.Proofs.Ytfipfobadpealaa.RowX.op_iso (Go.Proofs.Ytfipfobadpealaa.RowX.op_struct (P := Try.prog) (t := 26) (d := (Kd.pair (Kd.int .i64) (Kd.pair (Kd.slice 59 k59) (Kd.slice 40 k40)))) Try.underlying26 (by kernel_rfl) (Go.Proofs.Ytfipfobadpealaa.RowX.fop_cons (Go.Proofs.Ytfipfobadpealaa.RowX.op_int (P := Try.prog) (e := 3) (k := .i64) Try.underlying3 (by kernel_rfl)) rfl (Go.Proofs.Ytfipfobadpealaa.RowX.fop_cons (Go.Proofs.Ytfipfobadpealaa.RowX.op_slice (P := Try.prog) (t := 23) Try.underlying23 (by kernel_rfl) opens59) rfl (Go.Proofs.Ytfipfobadpealaa.RowX.fop_one (Go.Proofs.Ytfipfobadpealaa.RowX.op_slice (P := Try.prog) (t := 24) Try.underlying24 (by kernel_rfl) opens40) rfl)))) (fun y => (⟨y.1, y.2.1, y.2.2⟩ : S26)) (fun _ => rfl) (fun _ h => h)
set_option maxHeartbeats 4000000 in
set_option maxRecDepth 100000 in
theorem lifted (os : Os) (started : os.Started) (H : Type) (enc : TypeId × Value → H) :
    ReturnsInHanded {} Try.checked os 9 .any (Rows.robustRawSpec.pre6 enc Try.prog Try.f9 Rows.robustRawRow.domain false) (Rows.robustRawSpec.post enc Try.prog Try.f9 false true false false) := by
  refine returnsInHanded_of_change_sized (C := Try.checked) own started (by kernel_rfl) Try.func9
    (ChangeSpec.witness6 (enc := enc) (C := Try.checked) false ⟨#[], #[.agg #[.int .i64 0, .slice none 0 0, .slice none 0 0], .slice none 0 0, .int .i64 0, .int .i64 0, .int .i64 0, .int .i64 0], []⟩ 8 (by kernel_rfl) (by kernel_rfl) (by kernel_rfl) (by kernel_rfl)) ?_
  intro W base args ds gs before hval0 hW hcnd hsz0 _
  have hsz : (DataW.weightsEach Try.prog (Try.f9.params.toList ++ Rows.robustRawSpec.plain.varTypes Try.prog) (ds ++ gs)).all (· ≤ reachBytes) = true := hsz0
  have hval : ∀ (j : Nat) t v, Try.f9.params[j]? = some t → args[j]? = some v → Value.okWide Try.prog W .any base t v := hval0
  have hW' := hW
  obtain ⟨p, q, hA0, hV, rfl, hfz, hnd⟩ := hW
  have hA : DataW.TrodAll enc Try.prog W 0 (fun _ => true) true Try.f9.params.toList args.toList ds p := hA0
  rw [Try.params9] at hA hval hsz
  obtain ⟨v0, vs0, d0, ds0, p0, q0, hargs, rfl, rfl, h0, r0⟩ := trodAll_cons hA
  obtain ⟨v1, vs1, d1, ds1, p1, q1, rfl, rfl, rfl, h1, r1⟩ := trodAll_cons r0
  obtain ⟨v2, vs2, d2, ds2, p2, q2, rfl, rfl, rfl, h2, r2⟩ := trodAll_cons r1
  obtain ⟨v3, vs3, d3, ds3, p3, q3, rfl, rfl, rfl, h3, r3⟩ := trodAll_cons r2
  obtain ⟨v4, vs4, d4, ds4, p4, q4, rfl, rfl, rfl, h4, r4⟩ := trodAll_cons r3
  obtain ⟨v5, vs5, d5, ds5, p5, q5, rfl, rfl, rfl, h5, r5⟩ := trodAll_cons r4
  obtain ⟨rfl, rfl, rfl⟩ := trodAll_nil r5
  obtain rfl : args = #[v0, v1, v2, v3, v4, v5] := by cases args; simp_all
  obtain ⟨rfl, rfl⟩ := trodVars_none hV
  obtain ⟨cs0, rfl, hs0⟩ := okWide_struct Try.underlying26 (hval 0 26 v0 rfl rfl)
  have k0 := h0
  have lt0 : ∀ x ∈ p0, x.block < W.heap.size := by obtain ⟨m, hm⟩ := k0; exact DataW.trod_lt m _ _ _ hm
  obtain ⟨fuel0, hf0⟩ := h0
  obtain ⟨x0, hK0, hQ0⟩ := opens26.op hf0
  obtain ⟨_, _, eq0, rfl, ⟨_, _, rfl, ⟨A0_1, c0_1, rfl, hc0_1, hr0_1⟩, ⟨A0_2, c0_2, rfl, hc0_2, hr0_2⟩⟩⟩ := hK0
  obtain rfl : cs0 = #[.int .i64 x0.f0, .slice A0_1 x0.f1.length c0_1, .slice A0_2 x0.f2.length c0_2] := by rw [← Array.toList_inj]; exact eq0
  obtain ⟨a1, len1, cap1, rfl⟩ := okWide_slice Try.underlying22 (hval 1 22 v1 rfl rfl)
  have k1 := h1
  have lt1 : ∀ x ∈ p1, x.block < W.heap.size := by obtain ⟨m, hm⟩ := k1; exact DataW.trod_lt m _ _ _ hm
  have y1 : len1 * 8 ≤ 140737488351232 := Go.Proofs.Ytfipfobadpealaa.RowX.sized_any hsz (j := 1) (t := 22) rfl rfl Try.underlying22 (by kernel_rfl) h1
  obtain ⟨fuel1, hf1⟩ := h1
  obtain ⟨A1, l1, c1, e1, hc1, hm1, hr1, hw1⟩ := Go.Proofs.Ytfipfobadpealaa.RowX.op_row (t := 22) Try.underlying22 (Go.Proofs.Ytfipfobadpealaa.RowX.op_int (P := Try.prog) (e := 3) (k := .i64) Try.underlying3 (by kernel_rfl)) hf1
  obtain ⟨rfl, rfl, rfl⟩ : a1 = A1 ∧ len1 = l1.length ∧ cap1 = c1 := by simpa [Value.cells] using e1
  obtain ⟨a2, rfl, rfl, rfl, w2⟩ := open_int Try.underlying3 (hval 2 3 v2 rfl rfl) h2
  obtain ⟨a3, rfl, rfl, rfl, w3⟩ := open_int Try.underlying3 (hval 3 3 v3 rfl rfl) h3
  obtain ⟨a4, rfl, rfl, rfl, w4⟩ := open_int Try.underlying3 (hval 4 3 v4 rfl rfl) h4
  obtain ⟨a5, rfl, rfl, rfl, w5⟩ := open_int Try.underlying3 (hval 5 3 v5 rfl rfl) h5
  clear hA0 hval0 hsz0 hsz
  have hp : PAll.railplanlaw22_RobustRaw.Pure := Pure.RobustRaw
  obtain ⟨k, h⟩ := hp x0 l1 a2 a3 a4 a5 hQ0 hm1 y1 hw1 w2 w3 w4 w5
  refine (PAll.railplanlaw22_RobustRaw.calls (k := k) (w := W) (r := true) (a0_0 := x0.f0) (A0_1 := A0_1) (c0_1 := c0_1) (l0_1 := x0.f1) (hr0_1 := hr0_1) (hc0_1 := hc0_1) (A0_2 := A0_2) (c0_2 := c0_2) (l0_2 := x0.f2) (hr0_2 := hr0_2) (hc0_2 := hc0_2) (A1 := a1) (c1 := cap1) (l1 := l1) (hr1 := hr1) (hc1 := hc1) (a2 := a2) (a3 := a3) (a4 := a4) (a5 := a5) (h := h)).mono ?_
  rintro e W' ⟨he, bel0⟩
  have bel := bel0
  subst he
  exact ⟨_, rfl, _, _, _, [], _, [], hW', trodAll_mk1 (shut_bool Try.underlying4 _), (trodAll_cons_mk (Below.trod laidOut (by kernel_rfl) (of_decide_eq_true (by kernel_rfl)) k0 bel lt0) (trodAll_cons_mk (Below.trod laidOut (by kernel_rfl) (of_decide_eq_true (by kernel_rfl)) k1 bel lt1) (trodAll_cons_mk (shut_int Try.underlying3 w2) (trodAll_cons_mk (shut_int Try.underlying3 w3) (trodAll_cons_mk (shut_int Try.underlying3 w4) (trodAll_cons_mk (shut_int Try.underlying3 w5) trodAll_mk0)))))), rfl, bel.frame _, fun h => by cases h⟩
theorem over : Rows.robustRawRow.holds Try.pinned (OpenSpec.ofChange Rows.robustRawSpec) :=
  OpenClaim.holds_of_wide 9 Try.f9 rfl rfl rfl rfl rfl rfl rfl ⟨rfl, rfl, rfl, rfl, rfl⟩ rfl rfl rfl rfl rfl (by kernel_rfl) Try.func9 (by kernel_rfl)
    (of_decide_eq_true (by kernel_rfl)) (by unfold Func.isWrapper; first | (rw [if_pos (by decide +kernel)]; kernel_rfl) | (rw [if_neg (by decide +kernel)]; exact ⟨rfl, rfl⟩))
    (fun os started H enc _ => lifted os started H enc)
theorem proved : Rows.RobustRawSaid := over
#print axioms proved
end Go.Proofs.Ytfipfobadpealaa.robustRaw
namespace Go.Proofs.Ytfipfobadpealaa
/-- The row, under a short name, for the claim. -/
theorem robustRaw_holds : Rows.RobustRawSaid := robustRaw.proved
end Go.Proofs.Ytfipfobadpealaa
