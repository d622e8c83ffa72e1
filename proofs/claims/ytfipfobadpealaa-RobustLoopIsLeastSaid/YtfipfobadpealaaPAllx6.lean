-- Written by wip/tools/plugprint.py of this session over the kit's print, with hand-written parts from wip/plugs. Lean checks it.
import Derived.Test.YtfipfobadpealaaPAllx0
import Derived.Test.YtfipfobadpealaaPAllx5
namespace Go.Proofs.Ytfipfobadpealaa.PAll
open Go.RowKit Go.Proofs.YtfipfobadpealaaW.PrintWords Go.Proofs.YtfipfobadpealaaW.PrintLast Go.Proofs.YtfipfobadpealaaW.PrintMore
attribute [local go_sem] max2_int min2_int max_two min_two max_three min_three max_four min_four   -- for this text's walks alone
set_option linter.unusedVariables false
set_option linter.unusedSimpArgs false

/-! ### robust_distances: function 28 -/
mutual
def robust_distances.l0 : Nat → List Int → List (List Int) → Int → Int → Int → List (S59) → List (S40) → Option ((List (List Int)))
  | 0, _, _, _, _, _, _, _ => none
  | k + 1, x1, x5, x18, x19, x179000, x179001, x179002 => if x19 < x18 then (if 0 ≤ (x179001.length : Int) then (if ((x179001.length : Int) : Int).toNat ≤ 35184372088832 then (if 0 ≤ x19 then (if x19 < (x5.length : Int) then ((some (x5.set (x19 : Int).toNat (List.replicate ((x179001.length : Int) : Int).toNat 0) : List (List Int))).bind fun y185 => (robust_distances.l1 k x1 y185 x19 x18 x19 ((rd_L7 y185 x19).length : Int) 0 x179000 x179001 x179002)) else (none)) else (none)) else (none)) else (none)) else (robust_distances.l2 k x1 x5 x179002 (x179002.length : Int) 0 x179000 x179001 x179002)
def robust_distances.l1 : Nat → List Int → List (List Int) → Int → Int → Int → Int → Int → Int → List (S59) → List (S40) → Option ((List (List Int)))
  | 0, _, _, _, _, _, _, _, _, _, _ => none
  | k + 1, x1, x5, x6, x18, x19, x33, x34, x179000, x179001, x179002 => if x34 < x33 then (if 0 ≤ x6 then (if x6 < (x5.length : Int) then (if 0 ≤ x34 then (if x34 < ((rd_L7 x5 x6).length : Int) then (robust_distances.l1 k x1 (x5.set (x6 : Int).toNat ((rd_L7 x5 x6).set (x34 : Int).toNat (-1))) x6 x18 x19 x33 (wrap64 (x34 + 1)) x179000 x179001 x179002) else (none)) else (none)) else (none)) else (none)) else (robust_distances.l0 k x1 x5 x18 (wrap64 (x19 + 1)) x179000 x179001 x179002)
def robust_distances.l2 : Nat → List Int → List (List Int) → List (S40) → Int → Int → Int → List (S59) → List (S40) → Option ((List (List Int)))
  | 0, _, _, _, _, _, _, _, _ => none
  | k + 1, x1, x5, x46, x47, x48, x179000, x179001, x179002 => if x48 < x47 then (if 0 ≤ x48 then (if x48 < (x46.length : Int) then (if ((rd_T40 x46 x48).f0) = 5 then (robust_distances.l2 k x1 x5 x46 x47 (wrap64 (x48 + 1)) x179000 x179001 x179002) else (if 0 ≤ ((rd_T40 x46 x48).f1) then (if ((rd_T40 x46 x48).f1) < (x5.length : Int) then (if 0 ≤ ((rd_T40 x46 x48).f2) then (if ((rd_T40 x46 x48).f2) < ((rd_L7 x5 ((rd_T40 x46 x48).f1)).length : Int) then ((robust_slack.f x179000 x179001 x179002 x1 ((rd_T40 x46 x48).f0) ((rd_T40 x46 x48).f1) ((rd_T40 x46 x48).f2) ((rd_T40 x46 x48).f3) ((rd_T40 x46 x48).f4) ((rd_T40 x46 x48).f5)).bind fun t196 => ((robust_least.f (rd (rd_L7 x5 ((rd_T40 x46 x48).f1)) ((rd_T40 x46 x48).f2)) t196).bind fun t197 => (robust_distances.l2 k x1 (x5.set (((rd_T40 x46 x48).f1) : Int).toNat ((rd_L7 x5 ((rd_T40 x46 x48).f1)).set (((rd_T40 x46 x48).f2) : Int).toNat t197)) x46 x47 (wrap64 (x48 + 1)) x179000 x179001 x179002))) else (none)) else (none)) else (none)) else (none))) else (none)) else (none)) else (robust_distances.l3 k x5 (x5.length : Int) 0)
def robust_distances.l3 : Nat → List (List Int) → Int → Int → Option ((List (List Int)))
  | 0, _, _, _ => none
  | k + 1, x5, x79, x80 => if x80 < x79 then (robust_distances.l4 k x5 x80 x79 x80 (x5.length : Int) 0) else (some x5)
def robust_distances.l4 : Nat → List (List Int) → Int → Int → Int → Int → Int → Option ((List (List Int)))
  | 0, _, _, _, _, _, _ => none
  | k + 1, x5, x10, x79, x80, x84, x85 => if x85 < x84 then (robust_distances.l5 k x5 x10 x85 x79 x80 x84 x85 (x5.length : Int) 0) else (robust_distances.l3 k x5 x79 (wrap64 (x80 + 1)))
def robust_distances.l5 : Nat → List (List Int) → Int → Int → Int → Int → Int → Int → Int → Int → Option ((List (List Int)))
  | 0, _, _, _, _, _, _, _, _, _ => none
  | k + 1, x5, x10, x11, x79, x80, x84, x85, x89, x90 => if x90 < x89 then (if 0 ≤ x11 then (if x11 < (x5.length : Int) then (if 0 ≤ x10 then (if x10 < ((rd_L7 x5 x11).length : Int) then (if (rd (rd_L7 x5 x11) x10) = (-1) then (robust_distances.l5 k x5 x10 x11 x79 x80 x84 x85 x89 (wrap64 (x90 + 1))) else (if x10 < (x5.length : Int) then (if 0 ≤ x90 then (if x90 < ((rd_L7 x5 x10).length : Int) then (if (rd (rd_L7 x5 x10) x90) = (-1) then (robust_distances.l5 k x5 x10 x11 x79 x80 x84 x85 x89 (wrap64 (x90 + 1))) else (if x90 < ((rd_L7 x5 x11).length : Int) then ((robust_least.f (rd (rd_L7 x5 x11) x90) (wrap64 ((rd (rd_L7 x5 x11) x10) + (rd (rd_L7 x5 x10) x90)))).bind fun t212 => (robust_distances.l5 k (x5.set (x11 : Int).toNat ((rd_L7 x5 x11).set (x90 : Int).toNat t212)) x10 x11 x79 x80 x84 x85 x89 (wrap64 (x90 + 1)))) else (none))) else (none)) else (none)) else (none))) else (none)) else (none)) else (none)) else (none)) else (robust_distances.l4 k x5 x10 x79 x80 x84 (wrap64 (x85 + 1)))
end
def robust_distances.f (k : Nat) (a0_0 : Int) (l0_1 : List (S59)) (l0_2 : List (S40)) (l1 : List Int) : Option ((List (List Int))) := if 0 ≤ (l0_1.length : Int) then (if ((l0_1.length : Int) : Int).toNat ≤ 11728124029610 then ((some (List.replicate ((l0_1.length : Int) : Int).toNat [] : List (List Int))).bind fun y179 => (robust_distances.l0 k l1 y179 (y179.length : Int) 0 a0_0 l0_1 l0_2)) else (none)) else (none)
theorem robust_distances.mono_l : ∀ k, (∀ y0 y1 y2 y3 y4 y5 y6, LeO (robust_distances.l0 k y0 y1 y2 y3 y4 y5 y6) (robust_distances.l0 (k + 1) y0 y1 y2 y3 y4 y5 y6)) ∧ (∀ y0 y1 y2 y3 y4 y5 y6 y7 y8 y9, LeO (robust_distances.l1 k y0 y1 y2 y3 y4 y5 y6 y7 y8 y9) (robust_distances.l1 (k + 1) y0 y1 y2 y3 y4 y5 y6 y7 y8 y9)) ∧ (∀ y0 y1 y2 y3 y4 y5 y6 y7, LeO (robust_distances.l2 k y0 y1 y2 y3 y4 y5 y6 y7) (robust_distances.l2 (k + 1) y0 y1 y2 y3 y4 y5 y6 y7)) ∧ (∀ y0 y1 y2, LeO (robust_distances.l3 k y0 y1 y2) (robust_distances.l3 (k + 1) y0 y1 y2)) ∧ (∀ y0 y1 y2 y3 y4 y5, LeO (robust_distances.l4 k y0 y1 y2 y3 y4 y5) (robust_distances.l4 (k + 1) y0 y1 y2 y3 y4 y5)) ∧ (∀ y0 y1 y2 y3 y4 y5 y6 y7 y8, LeO (robust_distances.l5 k y0 y1 y2 y3 y4 y5 y6 y7 y8) (robust_distances.l5 (k + 1) y0 y1 y2 y3 y4 y5 y6 y7 y8))
  | 0 => ⟨fun _ _ _ _ _ _ _ r h => by simp [robust_distances.l0] at h, fun _ _ _ _ _ _ _ _ _ _ r h => by simp [robust_distances.l1] at h, fun _ _ _ _ _ _ _ _ r h => by simp [robust_distances.l2] at h, fun _ _ _ r h => by simp [robust_distances.l3] at h, fun _ _ _ _ _ _ r h => by simp [robust_distances.l4] at h, fun _ _ _ _ _ _ _ _ _ r h => by simp [robust_distances.l5] at h⟩
  | k + 1 => by
    obtain ⟨ih0, ih1, ih2, ih3, ih4, ih5⟩ := robust_distances.mono_l k
    refine ⟨?_, ?_, ?_, ?_, ?_, ?_⟩
    · intro y0 y1 y2 y3 y4 y5 y6
      unfold robust_distances.l0
      repeat' first
      | (with_reducible exact ih0 _ _ _ _ _ _ _)
      | (with_reducible exact ih1 _ _ _ _ _ _ _ _ _ _)
      | (with_reducible exact ih2 _ _ _ _ _ _ _ _)
      | (with_reducible exact ih3 _ _ _)
      | (with_reducible exact ih4 _ _ _ _ _ _)
      | (with_reducible exact ih5 _ _ _ _ _ _ _ _ _)
      | (with_reducible exact LeO.refl _)
      | (with_reducible exact LeO.none _)
      | (with_reducible refine LeO.ite ?_ ?_)
      | (with_reducible refine LeO.bind ?_ (fun _ => ?_))
      | exact ih0 _ _ _ _ _ _ _
      | exact ih1 _ _ _ _ _ _ _ _ _ _
      | exact ih2 _ _ _ _ _ _ _ _
      | exact ih3 _ _ _
      | exact ih4 _ _ _ _ _ _
      | exact ih5 _ _ _ _ _ _ _ _ _
      | exact LeO.none _
      | refine LeO.ite ?_ ?_
      | refine LeO.bind ?_ (fun _ => ?_)
    · intro y0 y1 y2 y3 y4 y5 y6 y7 y8 y9
      unfold robust_distances.l1
      repeat' first
      | (with_reducible exact ih0 _ _ _ _ _ _ _)
      | (with_reducible exact ih1 _ _ _ _ _ _ _ _ _ _)
      | (with_reducible exact ih2 _ _ _ _ _ _ _ _)
      | (with_reducible exact ih3 _ _ _)
      | (with_reducible exact ih4 _ _ _ _ _ _)
      | (with_reducible exact ih5 _ _ _ _ _ _ _ _ _)
      | (with_reducible exact LeO.refl _)
      | (with_reducible exact LeO.none _)
      | (with_reducible refine LeO.ite ?_ ?_)
      | (with_reducible refine LeO.bind ?_ (fun _ => ?_))
      | exact ih0 _ _ _ _ _ _ _
      | exact ih1 _ _ _ _ _ _ _ _ _ _
      | exact ih2 _ _ _ _ _ _ _ _
      | exact ih3 _ _ _
      | exact ih4 _ _ _ _ _ _
      | exact ih5 _ _ _ _ _ _ _ _ _
      | exact LeO.none _
      | refine LeO.ite ?_ ?_
      | refine LeO.bind ?_ (fun _ => ?_)
    · intro y0 y1 y2 y3 y4 y5 y6 y7
      unfold robust_distances.l2
      repeat' first
      | (with_reducible exact ih0 _ _ _ _ _ _ _)
      | (with_reducible exact ih1 _ _ _ _ _ _ _ _ _ _)
      | (with_reducible exact ih2 _ _ _ _ _ _ _ _)
      | (with_reducible exact ih3 _ _ _)
      | (with_reducible exact ih4 _ _ _ _ _ _)
      | (with_reducible exact ih5 _ _ _ _ _ _ _ _ _)
      | (with_reducible exact LeO.refl _)
      | (with_reducible exact LeO.none _)
      | (with_reducible refine LeO.ite ?_ ?_)
      | (with_reducible refine LeO.bind ?_ (fun _ => ?_))
      | exact ih0 _ _ _ _ _ _ _
      | exact ih1 _ _ _ _ _ _ _ _ _ _
      | exact ih2 _ _ _ _ _ _ _ _
      | exact ih3 _ _ _
      | exact ih4 _ _ _ _ _ _
      | exact ih5 _ _ _ _ _ _ _ _ _
      | exact LeO.none _
      | refine LeO.ite ?_ ?_
      | refine LeO.bind ?_ (fun _ => ?_)
    · intro y0 y1 y2
      unfold robust_distances.l3
      repeat' first
      | (with_reducible exact ih0 _ _ _ _ _ _ _)
      | (with_reducible exact ih1 _ _ _ _ _ _ _ _ _ _)
      | (with_reducible exact ih2 _ _ _ _ _ _ _ _)
      | (with_reducible exact ih3 _ _ _)
      | (with_reducible exact ih4 _ _ _ _ _ _)
      | (with_reducible exact ih5 _ _ _ _ _ _ _ _ _)
      | (with_reducible exact LeO.refl _)
      | (with_reducible exact LeO.none _)
      | (with_reducible refine LeO.ite ?_ ?_)
      | (with_reducible refine LeO.bind ?_ (fun _ => ?_))
      | exact ih0 _ _ _ _ _ _ _
      | exact ih1 _ _ _ _ _ _ _ _ _ _
      | exact ih2 _ _ _ _ _ _ _ _
      | exact ih3 _ _ _
      | exact ih4 _ _ _ _ _ _
      | exact ih5 _ _ _ _ _ _ _ _ _
      | exact LeO.none _
      | refine LeO.ite ?_ ?_
      | refine LeO.bind ?_ (fun _ => ?_)
    · intro y0 y1 y2 y3 y4 y5
      unfold robust_distances.l4
      repeat' first
      | (with_reducible exact ih0 _ _ _ _ _ _ _)
      | (with_reducible exact ih1 _ _ _ _ _ _ _ _ _ _)
      | (with_reducible exact ih2 _ _ _ _ _ _ _ _)
      | (with_reducible exact ih3 _ _ _)
      | (with_reducible exact ih4 _ _ _ _ _ _)
      | (with_reducible exact ih5 _ _ _ _ _ _ _ _ _)
      | (with_reducible exact LeO.refl _)
      | (with_reducible exact LeO.none _)
      | (with_reducible refine LeO.ite ?_ ?_)
      | (with_reducible refine LeO.bind ?_ (fun _ => ?_))
      | exact ih0 _ _ _ _ _ _ _
      | exact ih1 _ _ _ _ _ _ _ _ _ _
      | exact ih2 _ _ _ _ _ _ _ _
      | exact ih3 _ _ _
      | exact ih4 _ _ _ _ _ _
      | exact ih5 _ _ _ _ _ _ _ _ _
      | exact LeO.none _
      | refine LeO.ite ?_ ?_
      | refine LeO.bind ?_ (fun _ => ?_)
    · intro y0 y1 y2 y3 y4 y5 y6 y7 y8
      unfold robust_distances.l5
      repeat' first
      | (with_reducible exact ih0 _ _ _ _ _ _ _)
      | (with_reducible exact ih1 _ _ _ _ _ _ _ _ _ _)
      | (with_reducible exact ih2 _ _ _ _ _ _ _ _)
      | (with_reducible exact ih3 _ _ _)
      | (with_reducible exact ih4 _ _ _ _ _ _)
      | (with_reducible exact ih5 _ _ _ _ _ _ _ _ _)
      | (with_reducible exact LeO.refl _)
      | (with_reducible exact LeO.none _)
      | (with_reducible refine LeO.ite ?_ ?_)
      | (with_reducible refine LeO.bind ?_ (fun _ => ?_))
      | exact ih0 _ _ _ _ _ _ _
      | exact ih1 _ _ _ _ _ _ _ _ _ _
      | exact ih2 _ _ _ _ _ _ _ _
      | exact ih3 _ _ _
      | exact ih4 _ _ _ _ _ _
      | exact ih5 _ _ _ _ _ _ _ _ _
      | exact LeO.none _
      | refine LeO.ite ?_ ?_
      | refine LeO.bind ?_ (fun _ => ?_)
theorem robust_distances.mono : ∀ a0 a1 a2 a3 k, LeO (robust_distances.f k a0 a1 a2 a3) (robust_distances.f (k + 1) a0 a1 a2 a3) := by
  intro a0 a1 a2 a3 k
  obtain ⟨ih0, ih1, ih2, ih3, ih4, ih5⟩ := robust_distances.mono_l k
  unfold robust_distances.f
  repeat' first
      | (with_reducible exact ih0 _ _ _ _ _ _ _)
      | (with_reducible exact ih1 _ _ _ _ _ _ _ _ _ _)
      | (with_reducible exact ih2 _ _ _ _ _ _ _ _)
      | (with_reducible exact ih3 _ _ _)
      | (with_reducible exact ih4 _ _ _ _ _ _)
      | (with_reducible exact ih5 _ _ _ _ _ _ _ _ _)
      | (with_reducible exact LeO.refl _)
      | (with_reducible exact LeO.none _)
      | (with_reducible refine LeO.ite ?_ ?_)
      | (with_reducible refine LeO.bind ?_ (fun _ => ?_))
      | exact ih0 _ _ _ _ _ _ _
      | exact ih1 _ _ _ _ _ _ _ _ _ _
      | exact ih2 _ _ _ _ _ _ _ _
      | exact ih3 _ _ _
      | exact ih4 _ _ _ _ _ _
      | exact ih5 _ _ _ _ _ _ _ _ _
      | exact LeO.none _
      | refine LeO.ite ?_ ?_
      | refine LeO.bind ?_ (fun _ => ?_)
def robust_distances.T16 : Bool × List (List Nat × List Nat) := (true, [([], []), ([], []), ([1], [1]), ([0, 2], [0, 2]), ([3], [3]), ([], []), ([5], [5]), ([], []), ([], []), ([8], [8]), ([7, 9], [7, 9]), ([10], [10]), ([], []), ([12], [12]), ([11, 13], [11, 13]), ([14], [14]), ([], []), ([], []), ([], []), ([16, 17, 18], [16, 17, 18]), ([15, 19, 19], [15, 19]), ([4, 6, 0, 1, 2, 3, 4, 5, 6, 7, 8, 9, 10, 11, 12, 13, 14, 15, 16, 17, 18, 19, 20], [4, 6]), ([21, 20, 20, 0, 1, 2, 3, 4, 5, 6, 7, 8, 9, 10, 11, 12, 13, 14, 15, 16, 17, 18, 19, 20], [20, 21])])
def robust_distances.B16 : List Nat := [0, 0, 2, 7, 15, 0, 32, 0, 0, 256, 896, 1920, 0, 4096, 16256, 32640, 0, 0, 0, 458752, 1048448, 2097151, 4194303]
theorem robust_distances.tab16 : rtab .any (opsOf Try.f28 16) = robust_distances.T16 := by kernel_rfl
theorem robust_distances.bits16 : waitsOk robust_distances.T16.2 robust_distances.B16 = true := by kernel_rfl
def robust_distances.T28 : Bool × List (List Nat × List Nat) := (true, [([], []), ([], []), ([0, 1], [0, 1]), ([2], [2]), ([], []), ([], []), ([], []), ([5, 6], [5, 6]), ([7], [7]), ([], []), ([8, 9], [8, 9]), ([10], [10]), ([], []), ([], []), ([12, 13], [12, 13]), ([14], [14]), ([], []), ([15, 16], [15, 16]), ([17], [17]), ([], []), ([], []), ([19, 20], [19, 20]), ([21], [21]), ([], []), ([22, 23], [22, 23]), ([24], [24]), ([18, 25], [18, 25]), ([11, 26], [11, 26]), ([3, 4, 0, 1, 2, 3, 4, 5, 6, 7, 8, 9, 10, 11, 12, 13, 14, 15, 16, 17, 18, 19, 20, 21, 22, 23, 24, 25, 26, 27], [3, 4]), ([28, 27, 27, 0, 1, 2, 3, 4, 5, 6, 7, 8, 9, 10, 11, 12, 13, 14, 15, 16, 17, 18, 19, 20, 21, 22, 23, 24, 25, 26, 27], [27, 28])])
def robust_distances.B28 : List Nat := [0, 0, 3, 7, 0, 0, 0, 96, 224, 0, 992, 2016, 0, 0, 12288, 28672, 0, 126976, 258048, 0, 0, 1572864, 3670016, 0, 16252928, 33030144, 67104768, 134217696, 268435455, 536870911]
theorem robust_distances.tab28 : rtab .any (opsOf Try.f28 28) = robust_distances.T28 := by kernel_rfl
theorem robust_distances.bits28 : waitsOk robust_distances.T28.2 robust_distances.B28 = true := by kernel_rfl
set_option maxHeartbeats 8000000 in
set_option maxRecDepth 100000 in
theorem robust_distances.calls (k : Nat) (a0_0 : Int) (A0_1 : Option Addr) (c0_1 : Nat) (l0_1 : List (S59)) (A0_2 : Option Addr) (c0_2 : Nat) (l0_2 : List (S40)) (A1 : Option Addr) (c1 : Nat) (l1 : List Int) (r : List (List Int)) (w : World) (hr0_1 : Kd.C k59 w A0_1 l0_1.length l0_1) (hc0_1 : l0_1.length ≤ c0_1) (hr0_2 : Kd.C k40 w A0_2 l0_2.length l0_2) (hc0_2 : l0_2.length ≤ c0_2) (hr1 : Kd.C (Kd.int .i64) w A1 l1.length l1) (hc1 : l1.length ≤ c1) (h : robust_distances.f k a0_0 l0_1 l0_2 l1 = some r) :
    Calls Try.prog 28 #[.agg #[.int .i64 a0_0, .slice A0_1 l0_1.length c0_1, .slice A0_2 l0_2.length c0_2], .slice A1 l1.length c1] w fun e w' => ∃ v0_ : Value, e = .returned (v0_) ∧ Kd.S (Kd.slice 3 (Kd.int .i64)) 22 w' w.heap.size (fun _ => True) v0_ r ∧ Below w.heap.size w w' := by
  have hu26 := Try.underlying26
  have hu40 := Try.underlying40
  have HR0_1 := Aside0.mk hr0_1
  have HC0_1 := Aside0.mk hc0_1
  clear hr0_1 hc0_1
  have HR0_2 := Aside0.mk hr0_2
  have HC0_2 := Aside0.mk hc0_2
  clear hr0_2 hc0_2
  have HR1 := Aside0.mk hr1
  have HC1 := Aside0.mk hc1
  clear hr1 hc1
  have HB := Aside0.mk (Below.refl w.heap.size w)
  have H : (if 0 ≤ (l0_1.length : Int) then (if ((l0_1.length : Int) : Int).toNat ≤ 11728124029610 then ((some (List.replicate ((l0_1.length : Int) : Int).toNat [] : List (List Int))).bind fun y179 => (robust_distances.l0 k l1 y179 (y179.length : Int) 0 a0_0 l0_1 l0_2)) else (none)) else (none)) = some r := h
  clear h
  by_cases c3 : 0 ≤ (l0_1.length : Int)
  · rw [if_pos c3] at H
    have c3b0 := eq_true c3
    have c3b1 : decide (0 ≤ (l0_1.length : Int)) = true := decide_eq_true c3
    clear c3
    by_cases c4 : ((l0_1.length : Int) : Int).toNat ≤ 11728124029610
    · rw [if_pos c4] at H
      have c4b0 := eq_true c4
      have c4b1 : decide (((l0_1.length : Int) : Int).toNat ≤ 11728124029610) = true := decide_eq_true c4
      clear c4
      obtain ⟨y179, hy179⟩ : ∃ y_ : List (List Int), y_ = (List.replicate ((l0_1.length : Int) : Int).toNat []) := ⟨_, rfl⟩
      replace H : (robust_distances.l0 k l1 y179 (y179.length : Int) 0 a0_0 l0_1 l0_2) = some r := by first | (rw [hy179]; with_reducible exact H) | (have H2_ := (Option.bind_some _ _).symm.trans H; rw [hy179]; with_reducible exact H2_) | (have H2_ := (Option.bind_some _ _).symm.trans H; with_reducible exact H2_) | with_reducible exact H | (rw [hy179]; exact H) | exact H
      have Ny179 := Aside0.mk hy179
      clear hy179
      have H' := Aside0.mk H
      clear H
      go_enter Try.func28, Try.ntmps28
      go_wp2_with (first | ((with_reducible refine gate_dst (N := 2) rfl ?_); refine box_event ?hg (N := 2) ?hd (cs := #[.int .i64 a0_0, .slice A0_1 l0_1.length c0_1, .slice A0_2 l0_2.length c0_2]) (t := 26) ?hr ?_; (case hd => rfl); (case hg => rfl); (case hr => first | (go_simp; done) | (go_simp; rfl)); intro gb178 hg w5 hbox hb; have n0_ := Aside0.mk (below_step (by repeat (first | (with_reducible first | exact HB.out | apply below_alloc | apply pw_below_drewN | apply below_drew1) | exact HB.out)) hb); have n1_ := Aside0.mk (hbox); have n2_ := Aside0.mk ((by rw [hg]; exact (below_size (by repeat (first | (with_reducible first | exact HB.out | apply below_alloc | apply pw_below_drewN | apply below_drew1) | exact HB.out))) : w.heap.size ≤ gb178)); have n3_ := Aside0.mk ((by rw [hg]; exact (below_size (by repeat (first | (with_reducible first | exact HB.out | apply below_alloc | apply pw_below_drewN | apply below_drew1) | exact HB.out))) : w.heap.size ≤ gb178)); clear HB; have HB := n0_; have BK178 := n1_; have GW178 := n2_; have GE178 := n3_; clear n0_ n1_ n2_ n3_; clear hb hbox hg; have hcz6_0 : w5.cell? ⟨gb178, 0, none⟩ = some (.int .i64 a0_0) := (blk_cell BK178.out 0).trans rfl; have hcz6_1 : w5.cell? ⟨gb178, 1, none⟩ = some (.slice A0_1 l0_1.length c0_1) := (blk_cell BK178.out 1).trans rfl; have hcz6_2 : w5.cell? ⟨gb178, 2, none⟩ = some (.slice A0_2 l0_2.length c0_2) := (blk_cell BK178.out 2).trans rfl; have hfz6_0 := blk_frozen BK178.out 0; have hfz6_1 := blk_frozen BK178.out 1; have hfz6_2 := blk_frozen BK178.out 2) | ((with_reducible refine gate_dst (N := 16) rfl ?_); refine Kd.S_make (Kd.slice 3 (Kd.int .i64)) _ 22 rfl (N := 16) rfl 54 _ _ rfl (l0_1.length : Int) rfl rfl Try.underlying54 (.slice none 0 0) 24 info22 rfl (by decide) (by omega) [] (ok := fun _ => True) (okp := fun _ => True) ⟨_, rfl, Kd.R_nil _ _ _ _ _⟩ (fun _ hk => hk) trivial (of_decide_eq_true (by first | (with_reducible assumption) | assumption)) (Nat.le_trans (Nat.mul_le_mul_right _ (of_decide_eq_true (by first | (with_reducible assumption) | assumption) : (l0_1.length : Int).toNat ≤ 11728124029610)) (by omega)) (Below.refl _ _) (Nat.le_refl _) ?_; intro v180 w7 ho8 hb hg_ hnew_; clear hg_ hnew_; (first | rw [← Ny179.out] at ho8 | (simp only [Int.reduceToNat] at ho8; rw [← Ny179.out] at ho8)); have n0_ := Aside0.mk (Kd.S_lower ho8 (below_size (by repeat (first | (with_reducible first | exact HB.out | apply below_alloc | apply pw_below_drewN | apply below_drew1 | refine below_set ?_ GE178.out) | exact HB.out)))); have n1_ := Aside0.mk (blk_below (g := gb178) (o := .cells #[.int .i64 a0_0, .slice A0_1 l0_1.length c0_1, .slice A0_2 l0_2.length c0_2] 26 (0, 0)) (by (with_reducible repeat (first | refine blk_drewN ?_ _ | refine blk_drew ?_ | refine blk_alloc ?_ _)); exact BK178.out) hb); have n2_ := Aside0.mk (below_step (by repeat (first | (with_reducible first | exact HB.out | apply below_alloc | apply pw_below_drewN | apply below_drew1 | refine below_set ?_ GE178.out) | exact HB.out)) hb); clear BK178; clear HB; have HO181 := n0_; have BK178 := n1_; have HB := n2_; clear n0_ n1_ n2_; clear hb ho8; obtain ⟨Ao9, co9, eo9⟩ := Kd.S_slice HO181.out; subst eo9))
      go_loopg [19] k (fun kq v19 w' => ∃ (x5_1 : List (List Int)) (x19_1 : Int), v19 = .int .i64 x19_1 ∧ Aside0 (robust_distances.l0 kq l1 x5_1 (y179.length : Int) x19_1 a0_0 l0_1 l0_2 = some r) ∧ Aside0 (kq ≤ k) ∧ Aside0 (Kd.S (Kd.slice 3 (Kd.int .i64)) 22 w' w.heap.size (fun _ => True) (.slice Ao9 y179.length co9) x5_1) ∧ Aside0 (w'.heap[gb178]? = some (.cells #[.int .i64 a0_0, (.slice A0_1 l0_1.length c0_1), (.slice A0_2 l0_2.length c0_2)] 26 (0, 0))) ∧ Aside0 (Below w.heap.size w w'))
      case atStart => exact ⟨(y179), (0), (by first | rfl | (simp; done) | (simp [*]; done)), H', ⟨Nat.le_refl _⟩, ⟨by (with_reducible repeat (first | apply Kd.S_alloc | apply Kd.S_drewN | apply Kd.S_drew)); exact HO181.out⟩, ⟨by (with_reducible repeat (first | refine blk_drewN ?_ _ | refine blk_drew ?_ | refine blk_alloc ?_ _)); exact BK178.out⟩, ⟨by repeat (first | (with_reducible first | exact HB.out | apply below_alloc | apply pw_below_drewN | apply below_drew1 | refine below_set ?_ GE178.out) | exact HB.out)⟩⟩
      case round =>
        clear H'
        try clear c1
        try clear c2
        try clear p2
        try clear c3
        try clear c3b0
        try clear c3b1
        try clear c4
        try clear c4b0
        try clear c4b1
        try clear hcz6_0
        try clear hcz6_1
        try clear hcz6_2
        try clear hfz6_0
        try clear hfz6_1
        try clear hfz6_2
        obtain ⟨x5_1, x19_1, rfl, HA, HK1, HO_5, BK178, HB⟩ := hrel
        have hl5_1 := (Kd.S_reads' HO_5.out).1
        rw [hl5_1] at HO_5
        (try simp only [hl5_1])
        (try simp only [hl5_1] at BK178)
        cases gk with
        | zero => exact absurd HA.out (by simp [robust_distances.l0])
        | succ k1 =>
          have H := HA.out
          clear HA
          simp only [robust_distances.l0] at H
          by_cases c10 : x19_1 < (y179.length : Int)
          · rw [if_pos c10] at H
            have c10b0 : decide (x19_1 < (y179.length : Int)) = true := decide_eq_true c10
            (try simp only [hl5_1] at c10b0)
            clear c10
            by_cases c11 : 0 ≤ (l0_1.length : Int)
            · rw [if_pos c11] at H
              have c11b0 := eq_true c11
              have c11b1 : decide (0 ≤ (l0_1.length : Int)) = true := decide_eq_true c11
              clear c11
              by_cases c12 : ((l0_1.length : Int) : Int).toNat ≤ 35184372088832
              · rw [if_pos c12] at H
                have c12b0 := eq_true c12
                have c12b1 : decide (((l0_1.length : Int) : Int).toNat ≤ 35184372088832) = true := decide_eq_true c12
                clear c12
                obtain ⟨y182, hy182⟩ : ∃ y_ : List Int, y_ = (List.replicate ((l0_1.length : Int) : Int).toNat 0) := ⟨_, rfl⟩
                replace H : (if 0 ≤ x19_1 then (if x19_1 < (x5_1.length : Int) then ((some (x5_1.set (x19_1 : Int).toNat y182 : List (List Int))).bind fun y185 => (robust_distances.l1 k1 l1 y185 x19_1 (y179.length : Int) x19_1 ((rd_L7 y185 x19_1).length : Int) 0 a0_0 l0_1 l0_2)) else (none)) else (none)) = some r := by first | (rw [hy182]; with_reducible exact H) | (have H2_ := (Option.bind_some _ _).symm.trans H; rw [hy182]; with_reducible exact H2_) | (have H2_ := (Option.bind_some _ _).symm.trans H; with_reducible exact H2_) | with_reducible exact H | (rw [hy182]; exact H) | exact H
                have Ny182 := Aside0.mk hy182
                clear hy182
                by_cases c13 : 0 ≤ x19_1
                · rw [if_pos c13] at H
                  have c13b0 : decide (0 ≤ x19_1) = true := decide_eq_true c13
                  clear c13
                  by_cases c14 : x19_1 < (x5_1.length : Int)
                  · rw [if_pos c14] at H
                    have c14b0 : decide (x19_1 < (x5_1.length : Int)) = true := decide_eq_true c14
                    clear c14
                    obtain ⟨y185, hy185⟩ : ∃ y_ : List (List Int), y_ = (x5_1.set (x19_1 : Int).toNat y182) := ⟨_, rfl⟩
                    replace H : (robust_distances.l1 k1 l1 y185 x19_1 (y179.length : Int) x19_1 ((rd_L7 y185 x19_1).length : Int) 0 a0_0 l0_1 l0_2) = some r := by first | (rw [hy185]; with_reducible exact H) | (have H2_ := (Option.bind_some _ _).symm.trans H; rw [hy185]; with_reducible exact H2_) | (have H2_ := (Option.bind_some _ _).symm.trans H; with_reducible exact H2_) | with_reducible exact H | (rw [hy185]; exact H) | exact H
                    have Ny185 := Aside0.mk hy185
                    clear hy185
                    have H' := Aside0.mk H
                    clear H
                    have hcz16_0 : wr.cell? ⟨gb178, 0, none⟩ = some (.int .i64 a0_0) := (blk_cell BK178.out 0).trans rfl
                    have hcz16_1 : wr.cell? ⟨gb178, 1, none⟩ = some (.slice A0_1 l0_1.length c0_1) := (blk_cell BK178.out 1).trans rfl
                    have hcz16_2 : wr.cell? ⟨gb178, 2, none⟩ = some (.slice A0_2 l0_2.length c0_2) := (blk_cell BK178.out 2).trans rfl
                    have hfz16_0 := blk_frozen BK178.out 0
                    have hfz16_1 := blk_frozen BK178.out 1
                    have hfz16_2 := blk_frozen BK178.out 2
                    go_wp2_with (first | ((with_reducible refine gate_dst (N := 27) rfl ?_); refine Kd.R_make (Kd.int .i64) _ 3 rfl (N := 27) rfl 22 _ _ rfl (l0_1.length : Int) rfl rfl Try.underlying22 (.int .i64 0) 8 info3 rfl (by decide) (by omega) 0 (ok := fun _ => True) (okp := fun _ => True) rfl (fun _ hk => hk) trivial (of_decide_eq_true (by first | (with_reducible assumption) | assumption)) (Nat.le_trans (Nat.mul_le_mul_right _ (of_decide_eq_true (by first | (with_reducible assumption) | assumption) : (l0_1.length : Int).toNat ≤ 35184372088832)) (by omega)) (Below.refl _ _) (Nat.le_refl _) ?_; intro v183 w17 ho18 hb hg_ hnew_; clear hg_ hnew_; (first | rw [← Ny182.out] at ho18 | (simp only [Int.reduceToNat] at ho18; rw [← Ny182.out] at ho18)); have n0_ := Aside0.mk (Kd.S_elder' (by (with_reducible repeat (first | apply Kd.S_alloc | apply Kd.S_drewN | apply Kd.S_drew)); exact HO_5.out) (Kd.R_base ho18) hb); have n1_ := Aside0.mk (Kd.R_lower ho18 (below_size (by repeat (first | (with_reducible first | exact HB.out | apply below_alloc | apply pw_below_drewN | apply below_drew1 | refine below_set ?_ GE178.out) | exact HB.out)))); have n2_ := Aside0.mk (blk_below (g := gb178) (o := .cells #[.int .i64 a0_0, .slice A0_1 l0_1.length c0_1, .slice A0_2 l0_2.length c0_2] 26 (0, 0)) (by (with_reducible repeat (first | refine blk_drewN ?_ _ | refine blk_drew ?_ | refine blk_alloc ?_ _)); exact BK178.out) hb); have n3_ := Aside0.mk (below_step (by repeat (first | (with_reducible first | exact HB.out | apply below_alloc | apply pw_below_drewN | apply below_drew1 | refine below_set ?_ GE178.out) | exact HB.out)) hb); clear HO_5; clear BK178; clear HB; have HO_5 := n0_; have HO184 := n1_; have BK178 := n2_; have HB := n3_; clear n0_ n1_ n2_ n3_; clear hb ho18; have p15 : 0 ≤ (x19_1 : Int) := of_decide_eq_true (by first | (with_reducible assumption) | assumption); have q15 : (x19_1 : Int) < ((x5_1.length : Int) : Int) := of_decide_eq_true (by first | (with_reducible assumption) | assumption); obtain ⟨go15, co15, eo15, gb15, gl15, cl15, HG15⟩ := Kd.S_form HO_5.out (by omega); (first | cases eo15 | (injection eo15 with ea_ en_ ec_; (first | subst ea_ | (injection ea_ with ea_; subst ea_)); subst ec_; clear en_)); have GB15 := Aside0.mk gb15; have GG15 := Aside0.mk HG15; clear gb15 gl15 HG15; obtain ⟨_, ce15, hcl15, hM15, hcc15, hfr15, _, _⟩ := Kd.S_elem HO_5.out [] (x19_1 : Int) p15 q15; obtain ⟨ve15_0, rfl, ge15_0⟩ := hM15; have hx15_0 := hcc15 0 _ rfl; have hf15_0 := hfr15 0; (try simp only [show ((Kd.slice 3 (Kd.int .i64))).sz = 1 from rfl, Nat.mul_one, Nat.add_zero] at hx15_0); (try simp only [show ((Kd.slice 3 (Kd.int .i64))).sz = 1 from rfl, Nat.mul_one, Nat.add_zero] at hf15_0); (try clear hM15); clear hcl15 hcc15 hfr15; replace p15 := eq_true p15; replace q15 := eq_true q15; have n_ := Aside0.mk (Kd.S_mono (ok' := (fun k_ => some k_ ≠ (v183 : Value).ownBlock)) HO_5.out (fun k_ hk => hk.2)); clear HO_5; have HO_5 := n_; clear n_; have HX19 := Aside0.mk (show Kd.S (Kd.slice 3 (Kd.int .i64)) 22 w17 w.heap.size (fun k_ => ((fun _ => True)) k_ ∧ ¬ ((fun k_ => some k_ = (v183 : Value).ownBlock)) k_) (.slice (some ⟨go15, 0, none⟩) x5_1.length co9) x5_1 from (by (with_reducible repeat (first | apply Kd.S_alloc | apply Kd.S_drewN | apply Kd.S_drew)); exact Kd.S_mono HO_5.out (fun k_ hk => ⟨trivial, fun e_ => hk e_⟩))); obtain ⟨oki19, ce19, hcl19, hM19, hcc19, hfr19, hoki19, hH19⟩ := Kd.S_elem HX19.out [] (x19_1 : Int) (of_decide_eq_true (by first | (with_reducible assumption) | assumption)) (by have h_ : (x19_1 : Int) < ((x5_1.length : Int) : Int) := of_decide_eq_true (by first | (with_reducible assumption) | assumption); first | exact h_ | (have e_ := (Kd.S_reads' HO_5.out).1; omega) | simpa using h_); obtain ⟨ve19_0, rfl, ge19_0⟩ := hM19; have HP19 := Kd.S_seg hH19 (of_decide_eq_true (by first | (with_reducible assumption) | assumption)) (by have h_ : (x19_1 : Int) < ((x5_1.length : Int) : Int) := of_decide_eq_true (by first | (with_reducible assumption) | assumption); first | exact h_ | (have e_ := (Kd.S_reads' HO_5.out).1; omega) | simpa using h_) (seg := [v183]) (j := 0) (show 1 ≤ 1 from by decide) (x' := y182) (Kd.M_row (Kd.R_mono (Kd.R_tight rfl (Kd.R_mono (ok' := fun k_ => ((fun _ => True)) k_ ∧ k_ ≠ go15) (Kd.R_apart' (HO184.out) (Kd.S_typed HO_5.out) (by decide)) (fun k_ hk => ⟨trivial, fun e_ => (hk.2) (by rw [e_]; rfl)⟩))) (fun _ h_ => Or.inr (h_)))) (fun _ hk => hk) (fun k_ hk_ => ((Kd.R_mono (ok' := fun k_ => ((fun _ => True)) k_ ∧ k_ ≠ go15) (Kd.R_apart' (HO184.out) (Kd.S_typed HO_5.out) (by decide)) (fun k_ hk => ⟨trivial, fun e_ => (hk.2) (by rw [e_]; rfl)⟩))).1 k_ hk_.symm); have hx19_0 := hcc19 0 _ rfl; (try simp only [show ((Kd.slice 3 (Kd.int .i64))).sz = 1 from rfl, Nat.mul_one, Nat.add_zero] at hx19_0); have hf19_0 := hfr19 0; (try simp only [show ((Kd.slice 3 (Kd.int .i64))).sz = 1 from rfl, Nat.mul_one, Nat.add_zero] at hf19_0); (try clear hM19); clear hcl19 hcc19 hfr19 hoki19 hH19; (try simp only [show ((Kd.slice 3 (Kd.int .i64))).sz = 1 from rfl, Nat.mul_one, Nat.add_zero] at HP19)) | ((with_reducible refine gate_store (t := 22) (p := 28) rfl ?_); refine store_event (t := 22) (p := 28) (v := ?vo_w20) (w1 := (w17.setCell ⟨go15, (x19_1 : Int).toNat, none⟩ (v183))) ?hg ?ho ?hn ?hr ?_; (case ho => rfl); (case hg => rfl); (case hn => rfl); (case hr => first | (go_simp; done) | (go_simp; rfl) | (obtain ⟨A_, c_, e_⟩ : ∃ A c, v183 = Value.slice A y182.length c := (by first | exact Kd.R_slice HO184.out | exact Kd.S_slice HO184.out); subst e_; first | (go_simp; done) | (go_simp; rfl))); intro w20 hw; have hg : w17.grownBy w20 (some go15) := (by rw [hw]; exact HP19.2); have hp_ : Kd.S (Kd.slice 3 (Kd.int .i64)) 22 w20 w.heap.size (fun _ => True) (.slice (some ⟨go15, 0, none⟩) x5_1.length co9) y185 := (by rw [hw, Ny185.out]; exact HP19.1); clear HP19; have n0_ := Aside0.mk (hp_); have n1_ := Aside0.mk (blk_grown (g := gb178) (o := .cells #[.int .i64 a0_0, .slice A0_1 l0_1.length c0_1, .slice A0_2 l0_2.length c0_2] 26 (0, 0)) (by (with_reducible repeat (first | refine blk_drewN ?_ _ | refine blk_drew ?_ | refine blk_alloc ?_ _)); exact BK178.out) hg (Kd.S_ne HO_5.out BK178.out (by decide))); have n2_ := Aside0.mk ((by rw [hw]; exact below_set (HB.out) GB15.out : Below w.heap.size w w20)); clear HO_5; clear BK178; clear HB; clear HO184; have HO_5 := n0_; have BK178 := n1_; have HB := n2_; clear n0_ n1_ n2_; clear hg hw hp_; have p186 : 0 ≤ (x19_1 : Int) := of_decide_eq_true (by first | (with_reducible assumption) | assumption); have q186 : x19_1 < (y185.length : Int) := (by have h_ : (x19_1 : Int) < ((x5_1.length : Int) : Int) := of_decide_eq_true (by first | (with_reducible assumption) | assumption); first | (have e_ := (Kd.S_reads' HO_5.out).1; omega) | simpa only [Ny185.out, List.length_set] using h_); have ql186 : ((x19_1 : Int) < ((x5_1.length : Int) : Int)) = True := eq_true (of_decide_eq_true (by first | (with_reducible assumption) | assumption)); obtain ⟨ad186, A186_0, c186_0, e186, hx186_0, hl186_0, hi186_0⟩ := at_L7 (Kd.S_reads' HO_5.out).2.2 x19_1 p186 q186; obtain rfl : (⟨go15, 0, none⟩ : Addr) = ad186 := (by injection e186); obtain ⟨ce186, hce186, hMe186, hcc186⟩ := Kd.S_get HO_5.out [] x19_1 p186 (by first | exact q186 | exact of_decide_eq_true (by first | (with_reducible assumption) | assumption) | (have e_ := (Kd.S_reads' HO_5.out).1; omega)); obtain ⟨ve186_0, rfl, ge186_0⟩ := hMe186; have hv186_0 := hcc186 0 _ rfl; rw [Nat.add_zero, show ((Kd.slice 3 (Kd.int .i64))).sz = 1 from rfl, Nat.mul_one] at hv186_0; replace hv186_0 := Option.some.inj (hv186_0.symm.trans hx186_0); rw [hv186_0] at ge186_0; have HL186_0 := Aside0.mk (show Kd.R (Kd.int .i64) 3 _ _ _ _ (rd_L7 y185 x19_1) from ge186_0); clear hv186_0 ge186_0; have HX186_0 := Aside0.mk hx186_0; clear hcc186 hce186; (first | simp only [add_plain] at hx186_0 | simp only [add_at] at hx186_0 | simp only [Addr.add, Nat.zero_add] at hx186_0 | skip); have HR186_0 := Aside0.mk hi186_0; have HC186_0 := Aside0.mk hl186_0; clear hi186_0 hl186_0; replace p186 := eq_true p186; replace q186 := eq_true q186))
                    go_loopg [34] k1 (fun kq v34 w' => ∃ (x5_2 : List (List Int)) (x34_2 : Int), v34 = .int .i64 x34_2 ∧ Aside0 (robust_distances.l1 kq l1 x5_2 x19_1 (y179.length : Int) x19_1 ((rd_L7 y185 x19_1).length : Int) x34_2 a0_0 l0_1 l0_2 = some r) ∧ Aside0 (kq ≤ k1) ∧ Aside0 (Kd.S (Kd.slice 3 (Kd.int .i64)) 22 w' w.heap.size (fun _ => True) (.slice (some ⟨go15, 0, none⟩) x5_1.length co9) x5_2) ∧ Aside0 (w'.heap[gb178]? = some (.cells #[.int .i64 a0_0, (.slice A0_1 l0_1.length c0_1), (.slice A0_2 l0_2.length c0_2)] 26 (0, 0))) ∧ Aside0 (Below w.heap.size w w'))
                    case atStart => exact ⟨(y185), (0), (by first | rfl | (simp; done) | (simp [*]; done)), H', ⟨Nat.le_refl _⟩, ⟨by (try simp only [hl5_1]); (with_reducible repeat (first | apply Kd.S_alloc | apply Kd.S_drewN | apply Kd.S_drew)); exact HO_5.out⟩, ⟨by (try simp only [hl5_1]); (with_reducible repeat (first | refine blk_drewN ?_ _ | refine blk_drew ?_ | refine blk_alloc ?_ _)); exact BK178.out⟩, ⟨by repeat (first | (with_reducible first | exact HB.out | apply below_alloc | apply pw_below_drewN | apply below_drew1 | refine below_set ?_ GE178.out) | exact HB.out)⟩⟩
                    case round =>
                      clear H'
                      try clear c1
                      try clear p1
                      try clear q1
                      try clear hx1
                      try clear c2
                      try clear p2
                      try clear c3
                      try clear c3b0
                      try clear c3b1
                      try clear c4
                      try clear c4b0
                      try clear c4b1
                      try clear c10
                      try clear c10b0
                      try clear c11
                      try clear c11b0
                      try clear c11b1
                      try clear c12
                      try clear c12b0
                      try clear c12b1
                      try clear c13
                      try clear c13b0
                      try clear c14
                      try clear c14b0
                      try clear c15
                      try clear p15
                      try clear q15
                      try clear hx15
                      try clear hf15
                      try clear c18
                      try clear p18
                      try clear q18
                      try clear hx18
                      try clear c19
                      try clear hx19
                      try clear hf19
                      try clear hcz16_0
                      try clear hcz16_1
                      try clear hcz16_2
                      try clear hcz6_0
                      try clear hcz6_1
                      try clear hcz6_2
                      try clear hfz16_0
                      try clear hfz16_1
                      try clear hfz16_2
                      try clear hfz6_0
                      try clear hfz6_1
                      try clear hfz6_2
                      try clear hx15_0
                      try clear hx186_0
                      try clear hx19_0
                      try clear p15
                      try clear p186
                      try clear p2
                      try clear q15
                      try clear q186
                      obtain ⟨x5_2, x34_2, rfl, HA, HK2, HO_5, BK178, HB⟩ := hrel
                      have hl5_2 := (Kd.S_reads' HO_5.out).1
                      rw [hl5_2] at HO_5
                      (try simp only [hl5_2])
                      (try simp only [hl5_2] at BK178)
                      cases gk with
                      | zero => exact absurd HA.out (by simp [robust_distances.l1])
                      | succ k2 =>
                        have H := HA.out
                        clear HA
                        simp only [robust_distances.l1] at H
                        by_cases c21 : x34_2 < ((rd_L7 y185 x19_1).length : Int)
                        · rw [if_pos c21] at H
                          have c21b0 : decide (x34_2 < ((rd_L7 y185 x19_1).length : Int)) = true := decide_eq_true c21
                          clear c21
                          by_cases c22 : 0 ≤ x19_1
                          · rw [if_pos c22] at H
                            have c22b0 : decide (0 ≤ x19_1) = true := decide_eq_true c22
                            clear c22
                            by_cases c23 : x19_1 < (x5_2.length : Int)
                            · rw [if_pos c23] at H
                              have c23b0 : decide (x19_1 < (x5_2.length : Int)) = true := decide_eq_true c23
                              clear c23
                              by_cases c24 : 0 ≤ x34_2
                              · rw [if_pos c24] at H
                                have c24b0 : decide (0 ≤ x34_2) = true := decide_eq_true c24
                                clear c24
                                by_cases c25 : x34_2 < ((rd_L7 x5_2 x19_1).length : Int)
                                · rw [if_pos c25] at H
                                  have c25b0 : decide (x34_2 < ((rd_L7 x5_2 x19_1).length : Int)) = true := decide_eq_true c25
                                  clear c25
                                  obtain ⟨y188, hy188⟩ : ∃ y_ : List Int, y_ = ((rd_L7 x5_2 x19_1).set (x34_2 : Int).toNat (-1)) := ⟨_, rfl⟩
                                  replace H : (robust_distances.l1 k2 l1 (x5_2.set (x19_1 : Int).toNat y188) x19_1 (y179.length : Int) x19_1 ((rd_L7 y185 x19_1).length : Int) (wrap64 (x34_2 + 1)) a0_0 l0_1 l0_2) = some r := by first | (rw [hy188]; with_reducible exact H) | (have H2_ := (Option.bind_some _ _).symm.trans H; rw [hy188]; with_reducible exact H2_) | (have H2_ := (Option.bind_some _ _).symm.trans H; with_reducible exact H2_) | with_reducible exact H | (rw [hy188]; exact H) | exact H
                                  have Ny188 := Aside0.mk hy188
                                  clear hy188
                                  obtain ⟨y190, hy190⟩ : ∃ y_ : List (List Int), y_ = (x5_2.set (x19_1 : Int).toNat y188) := ⟨_, rfl⟩
                                  replace H : (robust_distances.l1 k2 l1 y190 x19_1 (y179.length : Int) x19_1 ((rd_L7 y185 x19_1).length : Int) (wrap64 (x34_2 + 1)) a0_0 l0_1 l0_2) = some r := by first | (rw [hy190]; with_reducible exact H) | (have H2_ := (Option.bind_some _ _).symm.trans H; rw [hy190]; with_reducible exact H2_) | (have H2_ := (Option.bind_some _ _).symm.trans H; with_reducible exact H2_) | with_reducible exact H | (rw [hy190]; exact H) | exact H
                                  have Ny190 := Aside0.mk hy190
                                  clear hy190
                                  have H' := Aside0.mk H
                                  clear H
                                  have p187 : 0 ≤ (x19_1 : Int) := of_decide_eq_true (by first | (with_reducible assumption) | assumption)
                                  have q187 : x19_1 < (x5_2.length : Int) := of_decide_eq_true (by first | (with_reducible assumption) | assumption)
                                  obtain ⟨ad187, A187_0, c187_0, e187, hx187_0, hl187_0, hi187_0⟩ := at_L7 (Kd.S_reads' HO_5.out).2.2 x19_1 p187 q187
                                  obtain rfl : (⟨go15, 0, none⟩ : Addr) = ad187 := (by injection e187)
                                  obtain ⟨ce187, hce187, hMe187, hcc187⟩ := Kd.S_get HO_5.out [] x19_1 p187 (by first | exact q187 | exact of_decide_eq_true (by first | (with_reducible assumption) | assumption) | (have e_ := (Kd.S_reads' HO_5.out).1; omega))
                                  obtain ⟨ve187_0, rfl, ge187_0⟩ := hMe187
                                  have hv187_0 := hcc187 0 _ rfl
                                  rw [Nat.add_zero, show ((Kd.slice 3 (Kd.int .i64))).sz = 1 from rfl, Nat.mul_one] at hv187_0
                                  replace hv187_0 := Option.some.inj (hv187_0.symm.trans hx187_0)
                                  rw [hv187_0] at ge187_0
                                  have HL187_0 := Aside0.mk (show Kd.R (Kd.int .i64) 3 _ _ _ _ (rd_L7 x5_2 x19_1) from ge187_0)
                                  clear hv187_0 ge187_0
                                  have HX187_0 := Aside0.mk hx187_0
                                  clear hcc187 hce187
                                  (first | simp only [add_plain] at hx187_0 | simp only [add_at] at hx187_0 | simp only [Addr.add, Nat.zero_add] at hx187_0 | skip)
                                  have HR187_0 := Aside0.mk hi187_0
                                  have HC187_0 := Aside0.mk hl187_0
                                  clear hi187_0 hl187_0
                                  replace p187 := eq_true p187
                                  replace q187 := eq_true q187
                                  have p26 : 0 ≤ (x34_2 : Int) := of_decide_eq_true (by first | (with_reducible assumption) | assumption)
                                  have q26 : (x34_2 : Int) < (((rd_L7 x5_2 x19_1).length : Int) : Int) := of_decide_eq_true (by first | (with_reducible assumption) | assumption)
                                  obtain ⟨go26, co26, eo26, gb26, gl26, cl26, HG26⟩ := Kd.R_form HL187_0.out (by omega)
                                  (first | cases eo26 | (injection eo26 with ea_ en_ ec_; (first | subst ea_ | (injection ea_ with ea_; subst ea_)); subst ec_; clear en_))
                                  have GB26 := Aside0.mk gb26
                                  have GG26 := Aside0.mk HG26
                                  clear gb26 gl26 HG26
                                  obtain ⟨hx26_0, hf26_0⟩ := Kd.R_celln 0 HL187_0.out (x34_2 : Int) p26 q26
                                  replace p26 := eq_true p26
                                  replace q26 := eq_true q26
                                  have hq27 : (x19_1 : Int) < (x5_2.length : Int) := (by have h_ : (x19_1 : Int) < ((x5_2.length : Int) : Int) := of_decide_eq_true (by first | (with_reducible assumption) | assumption); first | exact h_ | (have e_ := (Kd.S_reads' HO_5.out).1; omega) | simpa only [List.length_set, List.length_set] using h_)
                                  obtain ⟨oki27, ce27, hcl27, hM27, hcc27, hok27, hbk27⟩ := Kd.S_borrow HO_5.out [] (x19_1 : Int) (of_decide_eq_true (by first | (with_reducible assumption) | assumption)) hq27
                                  obtain ⟨ve27_0, rfl, ge27_0⟩ := hM27
                                  have hv27 := hcc27 0 _ rfl
                                  rw [Nat.add_zero, show ((Kd.slice 3 (Kd.int .i64))).sz = 1 from rfl, Nat.mul_one] at hv27
                                  replace hv27 := Option.some.inj (hv27.symm.trans HX187_0.out)
                                  subst hv27
                                  clear hcc27 hcl27
                                  replace ge27_0 := (show Kd.R (Kd.int .i64) 3 _ _ _ _ (rd_L7 x5_2 x19_1) from ge27_0)
                                  have HP27 := Kd.R_putg ge27_0 (x34_2 : Int) (-1)
                                  go_wp2_with (first | ((with_reducible refine gate_store (t := 3) (p := 42) rfl ?_); refine store_event (t := 3) (p := 42) (v := ?vo_w28) (w1 := (wr.setCell ⟨go26, (x34_2 : Int).toNat, none⟩ (.int .i64 (-1)))) ?hg ?ho ?hn ?hr ?_; (case ho => rfl); (case hg => rfl); (case hn => rfl); (case hr => first | (go_simp; done) | (go_simp; rfl)); intro w28 hw; have hg : wr.grownBy w28 (some go26) := (by rw [hw]; exact HP27.2); have hz_ : Kd.R (Kd.int .i64) 3 w28 w.heap.size oki27 (.slice (some ⟨go26, 0, none⟩) (rd_L7 x5_2 x19_1).length c187_0) y188 := (by rw [hw, Ny188.out]; exact HP27.1); have hp_ : Kd.S (Kd.slice 3 (Kd.int .i64)) 22 w28 w.heap.size (fun _ => True) (.slice (some ⟨go15, 0, none⟩) x5_2.length co9) y190 := (by rw [Ny190.out]; exact hbk27 hg (fun k_ e_ => by injection e_ with e_; subst e_; exact ge27_0.1 _ rfl) (Kd.M_row hz_)); have hm_ := Kd.R_mono hz_ hok27; clear HP27 hbk27; have n0_ := Aside0.mk (hp_); have n1_ := Aside0.mk (blk_grown (g := gb178) (o := .cells #[.int .i64 a0_0, .slice A0_1 l0_1.length c0_1, .slice A0_2 l0_2.length c0_2] 26 (0, 0)) (by (with_reducible repeat (first | refine blk_drewN ?_ _ | refine blk_drew ?_ | refine blk_alloc ?_ _)); exact BK178.out) hg (Kd.R_ne HL187_0.out BK178.out (by decide))); have n2_ := Aside0.mk ((by rw [hw]; exact below_set (HB.out) GB26.out : Below w.heap.size w w28)); have n3_ := Aside0.mk (hm_); have n4_ := Aside0.mk ((Kd.R_reads' hm_).2.1); clear HO_5; clear BK178; clear HB; clear HL187_0; have HO_5 := n0_; have BK178 := n1_; have HB := n2_; have HL216 := n3_; have HC189 := n4_; clear n0_ n1_ n2_ n3_ n4_; clear hg hw hp_ hz_ hm_ hok27))
                                  (try simp only [← hl5_2])
                                  go_roundg k2
                                  case measure => have := HK1.out; have := HK2.out; omega
                                  case rel => exact ⟨(y190), (wrap64 (x34_2 + 1)), (by first | rfl | (simp; done) | (simp [*]; done)), H', ⟨by have := HK1.out; have := HK2.out; omega⟩, ⟨by (try simp only [hl5_1]); (try simp only [hl5_2]); (with_reducible repeat (first | apply Kd.S_alloc | apply Kd.S_drewN | apply Kd.S_drew)); exact HO_5.out⟩, ⟨by (try simp only [hl5_1]); (try simp only [hl5_2]); (with_reducible repeat (first | refine blk_drewN ?_ _ | refine blk_drew ?_ | refine blk_alloc ?_ _)); exact BK178.out⟩, ⟨by repeat (first | (with_reducible first | exact HB.out | apply below_alloc | apply pw_below_drewN | apply below_drew1 | refine below_set ?_ GE178.out) | exact HB.out)⟩⟩
                                · rw [if_neg c25] at H
                                  exact absurd H (by simp)
                              · rw [if_neg c24] at H
                                exact absurd H (by simp)
                            · rw [if_neg c23] at H
                              exact absurd H (by simp)
                          · rw [if_neg c22] at H
                            exact absurd H (by simp)
                        · rw [if_neg c21] at H
                          have c21b0 : decide (x34_2 < ((rd_L7 y185 x19_1).length : Int)) = false := decide_eq_false c21
                          clear c21
                          have H' := Aside0.mk H
                          clear H
                          go_wp2
                          (try simp only [← hl5_1, ← hl5_2])
                          go_roundg k2
                          case measure => have := HK1.out; have := HK2.out; omega
                          case rel => exact ⟨(x5_2), (wrap64 (x19_1 + 1)), (by first | rfl | (simp; done) | (simp [*]; done)), H', ⟨by have := HK1.out; have := HK2.out; omega⟩, ⟨by (try simp only [hl5_1]); (try simp only [hl5_2]); (with_reducible repeat (first | apply Kd.S_alloc | apply Kd.S_drewN | apply Kd.S_drew)); exact HO_5.out⟩, ⟨by (try simp only [hl5_1]); (try simp only [hl5_2]); (with_reducible repeat (first | refine blk_drewN ?_ _ | refine blk_drew ?_ | refine blk_alloc ?_ _)); exact BK178.out⟩, ⟨by repeat (first | (with_reducible first | exact HB.out | apply below_alloc | apply pw_below_drewN | apply below_drew1 | refine below_set ?_ GE178.out) | exact HB.out)⟩⟩
                  · rw [if_neg c14] at H
                    exact absurd H (by simp)
                · rw [if_neg c13] at H
                  exact absurd H (by simp)
              · rw [if_neg c12] at H
                exact absurd H (by simp)
            · rw [if_neg c11] at H
              exact absurd H (by simp)
          · rw [if_neg c10] at H
            have c10b0 : decide (x19_1 < (y179.length : Int)) = false := decide_eq_false c10
            (try simp only [hl5_1] at c10b0)
            clear c10
            have H' := Aside0.mk H
            clear H
            have hcz29_0 : wr.cell? ⟨gb178, 0, none⟩ = some (.int .i64 a0_0) := (blk_cell BK178.out 0).trans rfl
            have hcz29_1 : wr.cell? ⟨gb178, 1, none⟩ = some (.slice A0_1 l0_1.length c0_1) := (blk_cell BK178.out 1).trans rfl
            have hcz29_2 : wr.cell? ⟨gb178, 2, none⟩ = some (.slice A0_2 l0_2.length c0_2) := (blk_cell BK178.out 2).trans rfl
            have hfz29_0 := blk_frozen BK178.out 0
            have hfz29_1 := blk_frozen BK178.out 1
            have hfz29_2 := blk_frozen BK178.out 2
            go_wp2
            go_loopg [48] k1 (fun kq v48 w' => ∃ (x5_2 : List (List Int)) (x48_2 : Int), v48 = .int .i64 x48_2 ∧ Aside0 (robust_distances.l2 kq l1 x5_2 l0_2 (l0_2.length : Int) x48_2 a0_0 l0_1 l0_2 = some r) ∧ Aside0 (kq ≤ k1) ∧ Aside0 (Kd.S (Kd.slice 3 (Kd.int .i64)) 22 w' w.heap.size (fun _ => True) (.slice Ao9 x5_1.length co9) x5_2) ∧ Aside0 (w'.heap[gb178]? = some (.cells #[.int .i64 a0_0, (.slice A0_1 l0_1.length c0_1), (.slice A0_2 l0_2.length c0_2)] 26 (0, 0))) ∧ Aside0 (Below w.heap.size w w'))
            case atStart => exact ⟨(x5_1), (0), (by first | rfl | (simp; done) | (simp [*]; done)), H', ⟨Nat.le_refl _⟩, ⟨by (try simp only [hl5_1]); (with_reducible repeat (first | apply Kd.S_alloc | apply Kd.S_drewN | apply Kd.S_drew)); exact HO_5.out⟩, ⟨by (try simp only [hl5_1]); (with_reducible repeat (first | refine blk_drewN ?_ _ | refine blk_drew ?_ | refine blk_alloc ?_ _)); exact BK178.out⟩, ⟨by repeat (first | (with_reducible first | exact HB.out | apply below_alloc | apply pw_below_drewN | apply below_drew1 | refine below_set ?_ GE178.out) | exact HB.out)⟩⟩
            case round =>
              clear H'
              try clear c1
              try clear p1
              try clear q1
              try clear hx1
              try clear c2
              try clear p2
              try clear q2
              try clear hx2
              try clear hf2
              try clear c3
              try clear c3b0
              try clear c3b1
              try clear c4
              try clear c4b0
              try clear c4b1
              try clear p6
              try clear c10
              try clear c10b0
              try clear c11
              try clear c11b0
              try clear c11b1
              try clear c12
              try clear c12b0
              try clear c12b1
              try clear c13
              try clear c13b0
              try clear c14
              try clear c14b0
              try clear c15
              try clear p15
              try clear q15
              try clear hx15
              try clear hf15
              try clear c18
              try clear p18
              try clear q18
              try clear hx18
              try clear c19
              try clear hx19
              try clear hf19
              try clear c21
              try clear c21b0
              try clear c22
              try clear c22b0
              try clear c23
              try clear c23b0
              try clear c24
              try clear c24b0
              try clear c25
              try clear c25b0
              try clear p26
              try clear q26
              try clear hx26
              try clear hf26
              try clear c27
              try clear q27
              try clear c28
              try clear hcz16_0
              try clear hcz16_1
              try clear hcz16_2
              try clear hcz29_0
              try clear hcz29_1
              try clear hcz29_2
              try clear hcz6_0
              try clear hcz6_1
              try clear hcz6_2
              try clear hfz16_0
              try clear hfz16_1
              try clear hfz16_2
              try clear hfz29_0
              try clear hfz29_1
              try clear hfz29_2
              try clear hfz6_0
              try clear hfz6_1
              try clear hfz6_2
              try clear hx15_0
              try clear hx186_0
              try clear hx187_0
              try clear hx19_0
              try clear hx26_0
              try clear p1
              try clear p15
              try clear p18
              try clear p186
              try clear p187
              try clear p2
              try clear p26
              try clear q1
              try clear q15
              try clear q18
              try clear q186
              try clear q187
              try clear q26
              obtain ⟨x5_2, x48_2, rfl, HA, HK2, HO_5, BK178, HB⟩ := hrel
              have hl5_2 := (Kd.S_reads' HO_5.out).1
              rw [hl5_2] at HO_5
              (try simp only [hl5_2])
              (try simp only [hl5_2] at BK178)
              cases gk with
              | zero => exact absurd HA.out (by simp [robust_distances.l2])
              | succ k2 =>
                have H := HA.out
                clear HA
                simp only [robust_distances.l2] at H
                by_cases c30 : x48_2 < (l0_2.length : Int)
                · rw [if_pos c30] at H
                  have c30b0 : decide (x48_2 < (l0_2.length : Int)) = true := decide_eq_true c30
                  clear c30
                  by_cases c31 : 0 ≤ x48_2
                  · rw [if_pos c31] at H
                    have c31b0 : decide (0 ≤ x48_2) = true := decide_eq_true c31
                    clear c31
                    by_cases c32 : x48_2 < (l0_2.length : Int)
                    · rw [if_pos c32] at H
                      have c32b0 : decide (x48_2 < (l0_2.length : Int)) = true := decide_eq_true c32
                      clear c32
                      by_cases c33 : ((rd_T40 l0_2 x48_2).f0) = 5
                      · rw [if_pos c33] at H
                        have c33b0 : (((rd_T40 l0_2 x48_2).f0) == 5) = true := beq_iff_eq.mpr c33
                        have c33b1 : (((rd_T40 l0_2 x48_2).f0) != 5) = false := bne_eq_false_iff_eq.mpr c33
                        clear c33
                        have H' := Aside0.mk H
                        clear H
                        have p191 : 0 ≤ (x48_2 : Int) := of_decide_eq_true (by first | (with_reducible assumption) | assumption)
                        have q191 : x48_2 < (l0_2.length : Int) := of_decide_eq_true (by first | (with_reducible assumption) | assumption)
                        obtain ⟨ad191, e191, hx191_0, hx191_1, hx191_2, hx191_3, hx191_4, hx191_5⟩ := at_T40 HR0_2.out x48_2 p191 q191
                        cases e191
                        replace hx191_0 := (HB.out.cell (World.block_lt_of_cell? w _ hx191_0)).trans hx191_0
                        replace hx191_1 := (HB.out.cell (World.block_lt_of_cell? w _ hx191_1)).trans hx191_1
                        replace hx191_2 := (HB.out.cell (World.block_lt_of_cell? w _ hx191_2)).trans hx191_2
                        replace hx191_3 := (HB.out.cell (World.block_lt_of_cell? w _ hx191_3)).trans hx191_3
                        replace hx191_4 := (HB.out.cell (World.block_lt_of_cell? w _ hx191_4)).trans hx191_4
                        replace hx191_5 := (HB.out.cell (World.block_lt_of_cell? w _ hx191_5)).trans hx191_5
                        replace p191 := eq_true p191
                        replace q191 := eq_true q191
                        go_wp2_with (first | ((with_reducible refine gate_dst (N := 9) rfl ?_); refine box_event ?hg (N := 9) ?hd (cs := #[.int .i64 0, .int .i64 0, .int .i64 0, .int .i64 0, .int .i64 0, .int .i64 0]) (t := 40) ?hr ?_; (case hd => rfl); (case hg => rfl); (case hr => first | (go_simp; done) | (go_simp; rfl)); intro gb192 hg w34 hbox hb; have n0_ := Aside0.mk (Kd.S_below (by (with_reducible repeat (first | apply Kd.S_alloc | apply Kd.S_drewN | apply Kd.S_drew)); exact HO_5.out) hb); have n1_ := Aside0.mk (blk_below (g := gb178) (o := .cells #[.int .i64 a0_0, .slice A0_1 l0_1.length c0_1, .slice (some ad191) l0_2.length c0_2] 26 (0, 0)) (by (with_reducible repeat (first | refine blk_drewN ?_ _ | refine blk_drew ?_ | refine blk_alloc ?_ _)); exact BK178.out) hb); have n2_ := Aside0.mk (below_step (by repeat (first | (with_reducible first | exact HB.out | apply below_alloc | apply pw_below_drewN | apply below_drew1 | refine below_set ?_ GE178.out) | exact HB.out)) hb); have n3_ := Aside0.mk (hbox); have n4_ := Aside0.mk ((by rw [hg]; exact (below_size (by repeat (first | (with_reducible first | exact HB.out | apply below_alloc | apply pw_below_drewN | apply below_drew1 | refine below_set ?_ GE178.out) | exact HB.out))) : w.heap.size ≤ gb192)); have n5_ := Aside0.mk ((by rw [hg]; exact (below_size (by repeat (first | (with_reducible first | exact HB.out | apply below_alloc | apply pw_below_drewN | apply below_drew1 | refine below_set ?_ GE178.out) | exact HB.out))) : w.heap.size ≤ gb192)); have n6_ := Aside0.mk ((by rw [hg]; exact Nat.ne_of_lt (blk_lt (g := gb178) (o := .cells #[.int .i64 a0_0, .slice A0_1 l0_1.length c0_1, .slice (some ad191) l0_2.length c0_2] 26 (0, 0)) (by (with_reducible repeat (first | refine blk_drewN ?_ _ | refine blk_drew ?_ | refine blk_alloc ?_ _)); exact BK178.out)) : gb178 ≠ gb192)); have n7_ := Aside0.mk ((by rw [hg]; exact Nat.ne_of_gt (blk_lt (g := gb178) (o := .cells #[.int .i64 a0_0, .slice A0_1 l0_1.length c0_1, .slice (some ad191) l0_2.length c0_2] 26 (0, 0)) (by (with_reducible repeat (first | refine blk_drewN ?_ _ | refine blk_drew ?_ | refine blk_alloc ?_ _)); exact BK178.out)) : gb192 ≠ gb178)); clear HO_5; clear BK178; clear HB; have HO_5 := n0_; have BK178 := n1_; have HB := n2_; have BK192 := n3_; have GW192 := n4_; have GE192 := n5_; have NB178_192 := n6_; have NB192_178 := n7_; clear n0_ n1_ n2_ n3_ n4_ n5_ n6_ n7_; clear hb hbox hg; have hnb35 := NB192_178.out; have hnc35 := NB178_192.out; have hcz36_0 : w34.cell? ⟨gb192, 0, none⟩ = some (.int .i64 0) := (blk_cell BK192.out 0).trans rfl; have hcz36_1 : w34.cell? ⟨gb192, 1, none⟩ = some (.int .i64 0) := (blk_cell BK192.out 1).trans rfl; have hcz36_2 : w34.cell? ⟨gb192, 2, none⟩ = some (.int .i64 0) := (blk_cell BK192.out 2).trans rfl; have hcz36_3 : w34.cell? ⟨gb192, 3, none⟩ = some (.int .i64 0) := (blk_cell BK192.out 3).trans rfl; have hcz36_4 : w34.cell? ⟨gb192, 4, none⟩ = some (.int .i64 0) := (blk_cell BK192.out 4).trans rfl; have hcz36_5 : w34.cell? ⟨gb192, 5, none⟩ = some (.int .i64 0) := (blk_cell BK192.out 5).trans rfl; have hfz36_0 := blk_frozen BK192.out 0; have hfz36_1 := blk_frozen BK192.out 1; have hfz36_2 := blk_frozen BK192.out 2; have hfz36_3 := blk_frozen BK192.out 3; have hfz36_4 := blk_frozen BK192.out 4; have hfz36_5 := blk_frozen BK192.out 5))
                        (try simp only [← hl5_2])
                        go_roundg k2
                        case measure => have := HK1.out; have := HK2.out; omega
                        case rel => exact ⟨(x5_2), (wrap64 (x48_2 + 1)), (by first | rfl | (simp; done) | (simp [*]; done)), H', ⟨by have := HK1.out; have := HK2.out; omega⟩, ⟨by (try simp only [hl5_1]); (try simp only [hl5_2]); (with_reducible repeat (first | apply Kd.S_alloc | apply Kd.S_drewN | apply Kd.S_drew)); exact Kd.S_mono (Kd.S_far (p := ⟨gb192, 5, none⟩) (Kd.S_far (p := ⟨gb192, 4, none⟩) (Kd.S_far (p := ⟨gb192, 3, none⟩) (Kd.S_far (p := ⟨gb192, 2, none⟩) (Kd.S_far (p := ⟨gb192, 1, none⟩) (Kd.S_far (p := ⟨gb192, 0, none⟩) (Kd.S_types HO_5.out BK192.out (by decide)) (fun _ hk => hk.2) (.int .i64 ((rd_T40 l0_2 x48_2).f0))) (fun _ hk => hk.2) (.int .i64 ((rd_T40 l0_2 x48_2).f1))) (fun _ hk => hk.2) (.int .i64 ((rd_T40 l0_2 x48_2).f2))) (fun _ hk => hk.2) (.int .i64 ((rd_T40 l0_2 x48_2).f3))) (fun _ hk => hk.2) (.int .i64 ((rd_T40 l0_2 x48_2).f4))) (fun _ hk => hk.2) (.int .i64 ((rd_T40 l0_2 x48_2).f5))) (fun _ hk => trivial)⟩, ⟨by (try simp only [hl5_1]); (try simp only [hl5_2]); (with_reducible repeat (first | refine blk_drewN ?_ _ | refine blk_drew ?_ | refine blk_alloc ?_ _)); refine blk_far ?_ NB178_192.out _; (with_reducible repeat (first | refine blk_drewN ?_ _ | refine blk_drew ?_ | refine blk_alloc ?_ _)); refine blk_far ?_ NB178_192.out _; (with_reducible repeat (first | refine blk_drewN ?_ _ | refine blk_drew ?_ | refine blk_alloc ?_ _)); refine blk_far ?_ NB178_192.out _; (with_reducible repeat (first | refine blk_drewN ?_ _ | refine blk_drew ?_ | refine blk_alloc ?_ _)); refine blk_far ?_ NB178_192.out _; (with_reducible repeat (first | refine blk_drewN ?_ _ | refine blk_drew ?_ | refine blk_alloc ?_ _)); refine blk_far ?_ NB178_192.out _; (with_reducible repeat (first | refine blk_drewN ?_ _ | refine blk_drew ?_ | refine blk_alloc ?_ _)); refine blk_far ?_ NB178_192.out _; (with_reducible repeat (first | refine blk_drewN ?_ _ | refine blk_drew ?_ | refine blk_alloc ?_ _)); exact BK178.out⟩, ⟨by repeat (first | (with_reducible first | exact HB.out | apply below_alloc | apply pw_below_drewN | apply below_drew1 | refine below_set ?_ GE178.out | refine below_set ?_ GE192.out) | exact HB.out)⟩⟩
                      · rw [if_neg c33] at H
                        have c33b0 : (((rd_T40 l0_2 x48_2).f0) == 5) = false := beq_eq_false_iff_ne.mpr c33
                        have c33b1 : (((rd_T40 l0_2 x48_2).f0) != 5) = true := bne_iff_ne.mpr c33
                        by_cases c37 : 0 ≤ ((rd_T40 l0_2 x48_2).f1)
                        · rw [if_pos c37] at H
                          have c37b0 : decide (0 ≤ ((rd_T40 l0_2 x48_2).f1)) = true := decide_eq_true c37
                          clear c37
                          by_cases c38 : ((rd_T40 l0_2 x48_2).f1) < (x5_2.length : Int)
                          · rw [if_pos c38] at H
                            have c38b0 : decide (((rd_T40 l0_2 x48_2).f1) < (x5_2.length : Int)) = true := decide_eq_true c38
                            clear c38
                            by_cases c39 : 0 ≤ ((rd_T40 l0_2 x48_2).f2)
                            · rw [if_pos c39] at H
                              have c39b0 : decide (0 ≤ ((rd_T40 l0_2 x48_2).f2)) = true := decide_eq_true c39
                              clear c39
                              by_cases c40 : ((rd_T40 l0_2 x48_2).f2) < ((rd_L7 x5_2 ((rd_T40 l0_2 x48_2).f1)).length : Int)
                              · rw [if_pos c40] at H
                                have c40b0 : decide (((rd_T40 l0_2 x48_2).f2) < ((rd_L7 x5_2 ((rd_T40 l0_2 x48_2).f1)).length : Int)) = true := decide_eq_true c40
                                clear c40
                                replace H := Option.bind_eq_some_iff.mp H
                                obtain ⟨t196, A410, H⟩ := H
                                replace H : ((robust_least.f (rd (rd_L7 x5_2 ((rd_T40 l0_2 x48_2).f1)) ((rd_T40 l0_2 x48_2).f2)) t196).bind fun t197 => (robust_distances.l2 k2 l1 (x5_2.set (((rd_T40 l0_2 x48_2).f1) : Int).toNat ((rd_L7 x5_2 ((rd_T40 l0_2 x48_2).f1)).set (((rd_T40 l0_2 x48_2).f2) : Int).toNat t197)) l0_2 (l0_2.length : Int) (wrap64 (x48_2 + 1)) a0_0 l0_1 l0_2)) = some r := H
                                have A41 := Aside0.mk A410
                                clear A410
                                replace H := Option.bind_eq_some_iff.mp H
                                obtain ⟨t197, A420, H⟩ := H
                                replace H : (robust_distances.l2 k2 l1 (x5_2.set (((rd_T40 l0_2 x48_2).f1) : Int).toNat ((rd_L7 x5_2 ((rd_T40 l0_2 x48_2).f1)).set (((rd_T40 l0_2 x48_2).f2) : Int).toNat t197)) l0_2 (l0_2.length : Int) (wrap64 (x48_2 + 1)) a0_0 l0_1 l0_2) = some r := H
                                have A42 := Aside0.mk A420
                                clear A420
                                obtain ⟨y198, hy198⟩ : ∃ y_ : List Int, y_ = ((rd_L7 x5_2 ((rd_T40 l0_2 x48_2).f1)).set (((rd_T40 l0_2 x48_2).f2) : Int).toNat t197) := ⟨_, rfl⟩
                                replace H : (robust_distances.l2 k2 l1 (x5_2.set (((rd_T40 l0_2 x48_2).f1) : Int).toNat y198) l0_2 (l0_2.length : Int) (wrap64 (x48_2 + 1)) a0_0 l0_1 l0_2) = some r := by first | (rw [hy198]; with_reducible exact H) | (have H2_ := (Option.bind_some _ _).symm.trans H; rw [hy198]; with_reducible exact H2_) | (have H2_ := (Option.bind_some _ _).symm.trans H; with_reducible exact H2_) | with_reducible exact H | (rw [hy198]; exact H) | exact H
                                have Ny198 := Aside0.mk hy198
                                clear hy198
                                obtain ⟨y200, hy200⟩ : ∃ y_ : List (List Int), y_ = (x5_2.set (((rd_T40 l0_2 x48_2).f1) : Int).toNat y198) := ⟨_, rfl⟩
                                replace H : (robust_distances.l2 k2 l1 y200 l0_2 (l0_2.length : Int) (wrap64 (x48_2 + 1)) a0_0 l0_1 l0_2) = some r := by first | (rw [hy200]; with_reducible exact H) | (have H2_ := (Option.bind_some _ _).symm.trans H; rw [hy200]; with_reducible exact H2_) | (have H2_ := (Option.bind_some _ _).symm.trans H; with_reducible exact H2_) | with_reducible exact H | (rw [hy200]; exact H) | exact H
                                have Ny200 := Aside0.mk hy200
                                clear hy200
                                have H' := Aside0.mk H
                                clear H
                                have p191 : 0 ≤ (x48_2 : Int) := of_decide_eq_true (by first | (with_reducible assumption) | assumption)
                                have q191 : x48_2 < (l0_2.length : Int) := of_decide_eq_true (by first | (with_reducible assumption) | assumption)
                                obtain ⟨ad191, e191, hx191_0, hx191_1, hx191_2, hx191_3, hx191_4, hx191_5⟩ := at_T40 HR0_2.out x48_2 p191 q191
                                cases e191
                                replace hx191_0 := (HB.out.cell (World.block_lt_of_cell? w _ hx191_0)).trans hx191_0
                                replace hx191_1 := (HB.out.cell (World.block_lt_of_cell? w _ hx191_1)).trans hx191_1
                                replace hx191_2 := (HB.out.cell (World.block_lt_of_cell? w _ hx191_2)).trans hx191_2
                                replace hx191_3 := (HB.out.cell (World.block_lt_of_cell? w _ hx191_3)).trans hx191_3
                                replace hx191_4 := (HB.out.cell (World.block_lt_of_cell? w _ hx191_4)).trans hx191_4
                                replace hx191_5 := (HB.out.cell (World.block_lt_of_cell? w _ hx191_5)).trans hx191_5
                                replace p191 := eq_true p191
                                replace q191 := eq_true q191
                                try go_wp2_with (first | ((with_reducible refine gate_dst (N := 9) rfl ?_); refine box_event ?hg (N := 9) ?hd (cs := #[.int .i64 0, .int .i64 0, .int .i64 0, .int .i64 0, .int .i64 0, .int .i64 0]) (t := 40) ?hr ?_; (case hd => rfl); (case hg => rfl); (case hr => first | (go_simp; done) | (go_simp; rfl)); intro gb192 hg w44 hbox hb; have n0_ := Aside0.mk (Kd.S_below (by (with_reducible repeat (first | apply Kd.S_alloc | apply Kd.S_drewN | apply Kd.S_drew)); exact HO_5.out) hb); have n1_ := Aside0.mk (blk_below (g := gb178) (o := .cells #[.int .i64 a0_0, .slice A0_1 l0_1.length c0_1, .slice (some ad191) l0_2.length c0_2] 26 (0, 0)) (by (with_reducible repeat (first | refine blk_drewN ?_ _ | refine blk_drew ?_ | refine blk_alloc ?_ _)); exact BK178.out) hb); have n2_ := Aside0.mk (below_step (by repeat (first | (with_reducible first | exact HB.out | apply below_alloc | apply pw_below_drewN | apply below_drew1 | refine below_set ?_ GE178.out) | exact HB.out)) hb); have n3_ := Aside0.mk (hbox); have n4_ := Aside0.mk ((by rw [hg]; exact (below_size (by repeat (first | (with_reducible first | exact HB.out | apply below_alloc | apply pw_below_drewN | apply below_drew1 | refine below_set ?_ GE178.out) | exact HB.out))) : w.heap.size ≤ gb192)); have n5_ := Aside0.mk ((by rw [hg]; exact (below_size (by repeat (first | (with_reducible first | exact HB.out | apply below_alloc | apply pw_below_drewN | apply below_drew1 | refine below_set ?_ GE178.out) | exact HB.out))) : w.heap.size ≤ gb192)); have n6_ := Aside0.mk ((by rw [hg]; exact Nat.ne_of_lt (blk_lt (g := gb178) (o := .cells #[.int .i64 a0_0, .slice A0_1 l0_1.length c0_1, .slice (some ad191) l0_2.length c0_2] 26 (0, 0)) (by (with_reducible repeat (first | refine blk_drewN ?_ _ | refine blk_drew ?_ | refine blk_alloc ?_ _)); exact BK178.out)) : gb178 ≠ gb192)); have n7_ := Aside0.mk ((by rw [hg]; exact Nat.ne_of_gt (blk_lt (g := gb178) (o := .cells #[.int .i64 a0_0, .slice A0_1 l0_1.length c0_1, .slice (some ad191) l0_2.length c0_2] 26 (0, 0)) (by (with_reducible repeat (first | refine blk_drewN ?_ _ | refine blk_drew ?_ | refine blk_alloc ?_ _)); exact BK178.out)) : gb192 ≠ gb178)); clear HO_5; clear BK178; clear HB; have HO_5 := n0_; have BK178 := n1_; have HB := n2_; have BK192 := n3_; have GW192 := n4_; have GE192 := n5_; have NB178_192 := n6_; have NB192_178 := n7_; clear n0_ n1_ n2_ n3_ n4_ n5_ n6_ n7_; clear hb hbox hg; have hnb45 := NB192_178.out; have hnc45 := NB178_192.out; have hcz46_0 : w44.cell? ⟨gb192, 0, none⟩ = some (.int .i64 0) := (blk_cell BK192.out 0).trans rfl; have hcz46_1 : w44.cell? ⟨gb192, 1, none⟩ = some (.int .i64 0) := (blk_cell BK192.out 1).trans rfl; have hcz46_2 : w44.cell? ⟨gb192, 2, none⟩ = some (.int .i64 0) := (blk_cell BK192.out 2).trans rfl; have hcz46_3 : w44.cell? ⟨gb192, 3, none⟩ = some (.int .i64 0) := (blk_cell BK192.out 3).trans rfl; have hcz46_4 : w44.cell? ⟨gb192, 4, none⟩ = some (.int .i64 0) := (blk_cell BK192.out 4).trans rfl; have hcz46_5 : w44.cell? ⟨gb192, 5, none⟩ = some (.int .i64 0) := (blk_cell BK192.out 5).trans rfl; have hfz46_0 := blk_frozen BK192.out 0; have hfz46_1 := blk_frozen BK192.out 1; have hfz46_2 := blk_frozen BK192.out 2; have hfz46_3 := blk_frozen BK192.out 3; have hfz46_4 := blk_frozen BK192.out 4; have hfz46_5 := blk_frozen BK192.out 5))
                                have n0_ : Aside0 (Kd.S (Kd.slice 3 (Kd.int .i64)) 22 ((((((w44.setCell ⟨gb192, 0, none⟩ (.int .i64 ((rd_T40 l0_2 x48_2).f0))).setCell ⟨gb192, 1, none⟩ (.int .i64 ((rd_T40 l0_2 x48_2).f1))).setCell ⟨gb192, 2, none⟩ (.int .i64 ((rd_T40 l0_2 x48_2).f2))).setCell ⟨gb192, 3, none⟩ (.int .i64 ((rd_T40 l0_2 x48_2).f3))).setCell ⟨gb192, 4, none⟩ (.int .i64 ((rd_T40 l0_2 x48_2).f4))).setCell ⟨gb192, 5, none⟩ (.int .i64 ((rd_T40 l0_2 x48_2).f5))) w.heap.size (fun _ => True) (.slice Ao9 x5_2.length co9) x5_2) := ⟨by (with_reducible repeat (first | apply Kd.S_alloc | apply Kd.S_drewN | apply Kd.S_drew)); exact Kd.S_mono (Kd.S_far (p := ⟨gb192, 5, none⟩) (Kd.S_far (p := ⟨gb192, 4, none⟩) (Kd.S_far (p := ⟨gb192, 3, none⟩) (Kd.S_far (p := ⟨gb192, 2, none⟩) (Kd.S_far (p := ⟨gb192, 1, none⟩) (Kd.S_far (p := ⟨gb192, 0, none⟩) (Kd.S_types HO_5.out BK192.out (by decide)) (fun _ hk => hk.2) (.int .i64 ((rd_T40 l0_2 x48_2).f0))) (fun _ hk => hk.2) (.int .i64 ((rd_T40 l0_2 x48_2).f1))) (fun _ hk => hk.2) (.int .i64 ((rd_T40 l0_2 x48_2).f2))) (fun _ hk => hk.2) (.int .i64 ((rd_T40 l0_2 x48_2).f3))) (fun _ hk => hk.2) (.int .i64 ((rd_T40 l0_2 x48_2).f4))) (fun _ hk => hk.2) (.int .i64 ((rd_T40 l0_2 x48_2).f5))) (fun _ hk => trivial)⟩
                                have n1_ : Aside0 (((((((w44.setCell ⟨gb192, 0, none⟩ (.int .i64 ((rd_T40 l0_2 x48_2).f0))).setCell ⟨gb192, 1, none⟩ (.int .i64 ((rd_T40 l0_2 x48_2).f1))).setCell ⟨gb192, 2, none⟩ (.int .i64 ((rd_T40 l0_2 x48_2).f2))).setCell ⟨gb192, 3, none⟩ (.int .i64 ((rd_T40 l0_2 x48_2).f3))).setCell ⟨gb192, 4, none⟩ (.int .i64 ((rd_T40 l0_2 x48_2).f4))).setCell ⟨gb192, 5, none⟩ (.int .i64 ((rd_T40 l0_2 x48_2).f5))).heap[gb178]? = some (.cells #[.int .i64 a0_0, .slice A0_1 l0_1.length c0_1, .slice (some ad191) l0_2.length c0_2] 26 (0, 0))) := ⟨by (with_reducible repeat (first | refine blk_drewN ?_ _ | refine blk_drew ?_ | refine blk_alloc ?_ _)); refine blk_far ?_ NB178_192.out _; (with_reducible repeat (first | refine blk_drewN ?_ _ | refine blk_drew ?_ | refine blk_alloc ?_ _)); refine blk_far ?_ NB178_192.out _; (with_reducible repeat (first | refine blk_drewN ?_ _ | refine blk_drew ?_ | refine blk_alloc ?_ _)); refine blk_far ?_ NB178_192.out _; (with_reducible repeat (first | refine blk_drewN ?_ _ | refine blk_drew ?_ | refine blk_alloc ?_ _)); refine blk_far ?_ NB178_192.out _; (with_reducible repeat (first | refine blk_drewN ?_ _ | refine blk_drew ?_ | refine blk_alloc ?_ _)); refine blk_far ?_ NB178_192.out _; (with_reducible repeat (first | refine blk_drewN ?_ _ | refine blk_drew ?_ | refine blk_alloc ?_ _)); refine blk_far ?_ NB178_192.out _; (with_reducible repeat (first | refine blk_drewN ?_ _ | refine blk_drew ?_ | refine blk_alloc ?_ _)); exact BK178.out⟩
                                have n2_ : Aside0 (((((((w44.setCell ⟨gb192, 0, none⟩ (.int .i64 ((rd_T40 l0_2 x48_2).f0))).setCell ⟨gb192, 1, none⟩ (.int .i64 ((rd_T40 l0_2 x48_2).f1))).setCell ⟨gb192, 2, none⟩ (.int .i64 ((rd_T40 l0_2 x48_2).f2))).setCell ⟨gb192, 3, none⟩ (.int .i64 ((rd_T40 l0_2 x48_2).f3))).setCell ⟨gb192, 4, none⟩ (.int .i64 ((rd_T40 l0_2 x48_2).f4))).setCell ⟨gb192, 5, none⟩ (.int .i64 ((rd_T40 l0_2 x48_2).f5))).heap[gb192]? = some (.cells #[.int .i64 ((rd_T40 l0_2 x48_2).f0), .int .i64 ((rd_T40 l0_2 x48_2).f1), .int .i64 ((rd_T40 l0_2 x48_2).f2), .int .i64 ((rd_T40 l0_2 x48_2).f3), .int .i64 ((rd_T40 l0_2 x48_2).f4), .int .i64 ((rd_T40 l0_2 x48_2).f5)] 40 (0, 0))) := ⟨by (with_reducible repeat (first | refine blk_drewN ?_ _ | refine blk_drew ?_ | refine blk_alloc ?_ _)); refine blk_put (cs := #[.int .i64 ((rd_T40 l0_2 x48_2).f0), .int .i64 ((rd_T40 l0_2 x48_2).f1), .int .i64 ((rd_T40 l0_2 x48_2).f2), .int .i64 ((rd_T40 l0_2 x48_2).f3), .int .i64 ((rd_T40 l0_2 x48_2).f4), .int .i64 0]) ?_ 5 _ rfl; (with_reducible repeat (first | refine blk_drewN ?_ _ | refine blk_drew ?_ | refine blk_alloc ?_ _)); refine blk_put (cs := #[.int .i64 ((rd_T40 l0_2 x48_2).f0), .int .i64 ((rd_T40 l0_2 x48_2).f1), .int .i64 ((rd_T40 l0_2 x48_2).f2), .int .i64 ((rd_T40 l0_2 x48_2).f3), .int .i64 0, .int .i64 0]) ?_ 4 _ rfl; (with_reducible repeat (first | refine blk_drewN ?_ _ | refine blk_drew ?_ | refine blk_alloc ?_ _)); refine blk_put (cs := #[.int .i64 ((rd_T40 l0_2 x48_2).f0), .int .i64 ((rd_T40 l0_2 x48_2).f1), .int .i64 ((rd_T40 l0_2 x48_2).f2), .int .i64 0, .int .i64 0, .int .i64 0]) ?_ 3 _ rfl; (with_reducible repeat (first | refine blk_drewN ?_ _ | refine blk_drew ?_ | refine blk_alloc ?_ _)); refine blk_put (cs := #[.int .i64 ((rd_T40 l0_2 x48_2).f0), .int .i64 ((rd_T40 l0_2 x48_2).f1), .int .i64 0, .int .i64 0, .int .i64 0, .int .i64 0]) ?_ 2 _ rfl; (with_reducible repeat (first | refine blk_drewN ?_ _ | refine blk_drew ?_ | refine blk_alloc ?_ _)); refine blk_put (cs := #[.int .i64 ((rd_T40 l0_2 x48_2).f0), .int .i64 0, .int .i64 0, .int .i64 0, .int .i64 0, .int .i64 0]) ?_ 1 _ rfl; (with_reducible repeat (first | refine blk_drewN ?_ _ | refine blk_drew ?_ | refine blk_alloc ?_ _)); refine blk_put (cs := #[.int .i64 0, .int .i64 0, .int .i64 0, .int .i64 0, .int .i64 0, .int .i64 0]) ?_ 0 _ rfl; (with_reducible repeat (first | refine blk_drewN ?_ _ | refine blk_drew ?_ | refine blk_alloc ?_ _)); exact BK192.out⟩
                                have n3_ : Aside0 (Below w.heap.size w ((((((w44.setCell ⟨gb192, 0, none⟩ (.int .i64 ((rd_T40 l0_2 x48_2).f0))).setCell ⟨gb192, 1, none⟩ (.int .i64 ((rd_T40 l0_2 x48_2).f1))).setCell ⟨gb192, 2, none⟩ (.int .i64 ((rd_T40 l0_2 x48_2).f2))).setCell ⟨gb192, 3, none⟩ (.int .i64 ((rd_T40 l0_2 x48_2).f3))).setCell ⟨gb192, 4, none⟩ (.int .i64 ((rd_T40 l0_2 x48_2).f4))).setCell ⟨gb192, 5, none⟩ (.int .i64 ((rd_T40 l0_2 x48_2).f5)))) := ⟨by repeat (first | (with_reducible first | exact HB.out | apply below_alloc | apply pw_below_drewN | apply below_drew1 | refine below_set ?_ GE178.out | refine below_set ?_ GE192.out) | exact HB.out)⟩
                                (try clear HO_5)
                                (try clear BK178)
                                (try clear BK192)
                                (try clear HB)
                                generalize ((((((w44.setCell ⟨gb192, 0, none⟩ (.int .i64 ((rd_T40 l0_2 x48_2).f0))).setCell ⟨gb192, 1, none⟩ (.int .i64 ((rd_T40 l0_2 x48_2).f1))).setCell ⟨gb192, 2, none⟩ (.int .i64 ((rd_T40 l0_2 x48_2).f2))).setCell ⟨gb192, 3, none⟩ (.int .i64 ((rd_T40 l0_2 x48_2).f3))).setCell ⟨gb192, 4, none⟩ (.int .i64 ((rd_T40 l0_2 x48_2).f4))).setCell ⟨gb192, 5, none⟩ (.int .i64 ((rd_T40 l0_2 x48_2).f5))) = w47 at n0_ n1_ n2_ n3_ ⊢
                                have HO_5 := n0_
                                have BK178 := n1_
                                have BK192 := n2_
                                have HB := n3_
                                clear n0_ n1_ n2_ n3_
                                have n0_ := Aside0.mk (Kd.S_drew HO_5.out)
                                have n1_ := Aside0.mk (blk_drew BK178.out)
                                have n2_ := Aside0.mk (blk_drew BK192.out)
                                have n3_ := Aside0.mk (below_drew1 HB.out)
                                clear HO_5
                                clear BK178
                                clear BK192
                                clear HB
                                have HO_5 := n0_
                                have BK178 := n1_
                                have BK192 := n2_
                                have HB := n3_
                                clear n0_ n1_ n2_ n3_
                                have p193 : 0 ≤ (((rd_T40 l0_2 x48_2).f1) : Int) := of_decide_eq_true (by first | (with_reducible assumption) | assumption)
                                have q193 : ((rd_T40 l0_2 x48_2).f1) < (x5_2.length : Int) := of_decide_eq_true (by first | (with_reducible assumption) | assumption)
                                obtain ⟨ad193, A193_0, c193_0, e193, hx193_0, hl193_0, hi193_0⟩ := at_L7 (Kd.S_reads' HO_5.out).2.2 ((rd_T40 l0_2 x48_2).f1) p193 q193
                                cases e193
                                obtain ⟨ce193, hce193, hMe193, hcc193⟩ := Kd.S_get HO_5.out [] ((rd_T40 l0_2 x48_2).f1) p193 (by first | exact q193 | exact of_decide_eq_true (by first | (with_reducible assumption) | assumption) | (have e_ := (Kd.S_reads' HO_5.out).1; omega))
                                obtain ⟨ve193_0, rfl, ge193_0⟩ := hMe193
                                have hv193_0 := hcc193 0 _ rfl
                                rw [Nat.add_zero, show ((Kd.slice 3 (Kd.int .i64))).sz = 1 from rfl, Nat.mul_one] at hv193_0
                                replace hv193_0 := Option.some.inj (hv193_0.symm.trans hx193_0)
                                rw [hv193_0] at ge193_0
                                have HL193_0 := Aside0.mk (show Kd.R (Kd.int .i64) 3 _ _ _ _ (rd_L7 x5_2 ((rd_T40 l0_2 x48_2).f1)) from ge193_0)
                                clear hv193_0 ge193_0
                                have HX193_0 := Aside0.mk hx193_0
                                clear hcc193 hce193
                                have HR193_0 := Aside0.mk hi193_0
                                have HC193_0 := Aside0.mk hl193_0
                                clear hi193_0 hl193_0
                                replace p193 := eq_true p193
                                replace q193 := eq_true q193
                                have p194 : 0 ≤ (((rd_T40 l0_2 x48_2).f1) : Int) := of_decide_eq_true (by first | (with_reducible assumption) | assumption)
                                have q194 : ((rd_T40 l0_2 x48_2).f1) < (x5_2.length : Int) := of_decide_eq_true (by first | (with_reducible assumption) | assumption)
                                obtain ⟨ad194, A194_0, c194_0, e194, hx194_0, hl194_0, hi194_0⟩ := at_L7 (Kd.S_reads' HO_5.out).2.2 ((rd_T40 l0_2 x48_2).f1) p194 q194
                                obtain rfl : ad193 = ad194 := (by injection e194)
                                obtain ⟨ce194, hce194, hMe194, hcc194⟩ := Kd.S_get HO_5.out [] ((rd_T40 l0_2 x48_2).f1) p194 (by first | exact q194 | exact of_decide_eq_true (by first | (with_reducible assumption) | assumption) | (have e_ := (Kd.S_reads' HO_5.out).1; omega))
                                obtain ⟨ve194_0, rfl, ge194_0⟩ := hMe194
                                have hv194_0 := hcc194 0 _ rfl
                                rw [Nat.add_zero, show ((Kd.slice 3 (Kd.int .i64))).sz = 1 from rfl, Nat.mul_one] at hv194_0
                                replace hv194_0 := Option.some.inj (hv194_0.symm.trans hx194_0)
                                rw [hv194_0] at ge194_0
                                have HL194_0 := Aside0.mk (show Kd.R (Kd.int .i64) 3 _ _ _ _ (rd_L7 x5_2 ((rd_T40 l0_2 x48_2).f1)) from ge194_0)
                                clear hv194_0 ge194_0
                                have HX194_0 := Aside0.mk hx194_0
                                clear hcc194 hce194
                                have HR194_0 := Aside0.mk hi194_0
                                have HC194_0 := Aside0.mk hl194_0
                                clear hi194_0 hl194_0
                                replace p194 := eq_true p194
                                replace q194 := eq_true q194
                                have ea_ := Option.some.inj (hx193_0.symm.trans hx194_0)
                                injection ea_ with ea_ en_ ec_
                                subst ea_
                                subst ec_
                                clear en_
                                have p195 : 0 ≤ (((rd_T40 l0_2 x48_2).f2) : Int) := of_decide_eq_true (by first | (with_reducible assumption) | assumption)
                                have q195 : ((rd_T40 l0_2 x48_2).f2) < ((rd_L7 x5_2 ((rd_T40 l0_2 x48_2).f1)).length : Int) := of_decide_eq_true (by first | (with_reducible assumption) | assumption)
                                obtain ⟨ad195, e195, hx195_0⟩ := Kd.at_int (by repeat (first | (with_reducible exact HR194_0.out) | (with_reducible refine Kd.C_alloc ?_ _) | (with_reducible refine Kd.C_drewN ?_ _) | (with_reducible refine Kd.C_drew ?_) | exact HR194_0.out)) ((rd_T40 l0_2 x48_2).f2) p195 q195
                                cases e195
                                replace p195 := eq_true p195
                                replace q195 := eq_true q195
                                refine start_ (n := 23) (S := fun w' => w'.cell? ⟨gb192, 0, none⟩ = some (.int .i64 ((rd_T40 l0_2 x48_2).f0)) ∧ w'.cell? ⟨gb192, 1, none⟩ = some (.int .i64 ((rd_T40 l0_2 x48_2).f1)) ∧ w'.cell? ⟨gb192, 2, none⟩ = some (.int .i64 ((rd_T40 l0_2 x48_2).f2)) ∧ w'.cell? ⟨gb192, 3, none⟩ = some (.int .i64 ((rd_T40 l0_2 x48_2).f3)) ∧ w'.cell? ⟨gb192, 4, none⟩ = some (.int .i64 ((rd_T40 l0_2 x48_2).f4)) ∧ w'.cell? ⟨gb192, 5, none⟩ = some (.int .i64 ((rd_T40 l0_2 x48_2).f5)) ∧ w'.cell? ⟨gb178, 0, none⟩ = some (.int .i64 a0_0) ∧ w'.cell? ⟨gb178, 1, none⟩ = some (.slice A0_1 l0_1.length c0_1) ∧ w'.cell? ⟨gb178, 2, none⟩ = some (.slice (some ad191) l0_2.length c0_2) ∧ w'.cell? (ad193.add (((rd_T40 l0_2 x48_2).f1)).toNat) = some (.slice (some ad195) (rd_L7 x5_2 ((rd_T40 l0_2 x48_2).f1)).length c193_0) ∧ w'.cell? (ad193.add (((rd_T40 l0_2 x48_2).f1)).toNat) = some (.slice (some ad195) (rd_L7 x5_2 ((rd_T40 l0_2 x48_2).f1)).length c193_0) ∧ w'.cell? (ad195.add (((rd_T40 l0_2 x48_2).f2)).toNat) = some (.int .i64 (rd (rd_L7 x5_2 ((rd_T40 l0_2 x48_2).f1)) ((rd_T40 l0_2 x48_2).f2)))) (ds := [22]) #[false, false, false, false, false, false, false, false, false, false, false, false, false, false, false, false, false, false, false, false, false, false, false] (by kernel_rfl) rfl rfl ⟨(blk_cell BK192.out 0).trans rfl, (blk_cell BK192.out 1).trans rfl, (blk_cell BK192.out 2).trans rfl, (blk_cell BK192.out 3).trans rfl, (blk_cell BK192.out 4).trans rfl, (blk_cell BK192.out 5).trans rfl, (blk_cell BK178.out 0).trans rfl, (blk_cell BK178.out 1).trans rfl, (blk_cell BK178.out 2).trans rfl, hx193_0, hx194_0, hx195_0⟩ (fun hHeld => ?_); refine with_tabW robust_distances.tab16 robust_distances.bits16 (fun HT_ HW_ => ?_)
                                generalize w47.drew = w48 at HO_5 BK178 BK192 HB HL193_0 HL194_0 HR193_0 HR194_0 HX193_0 HX194_0 hx193_0 hx194_0 hx195_0 hHeld ⊢
                                refine pure_ (i := 0) (N := some 55) (v := ?_) (a' := ?_) #[true, false, false, false, false, false, false, false, false, false, false, false, false, false, false, false, false, false, false, false, false, false, false] rfl rfl (any_of HT_.out (by kernel_rfl)) (fun _ _ _ h => h) (Or.inl ⟨by rfl, ?_⟩) ?_ ?_
                                rotate_left
                                · intro w'
                                  go_simp
                                  with_reducible rfl
                                rotate_left
                                · simp only [Act.put, List.setIfInBounds_toArray, List.set_cons_zero, List.set_cons_succ, i64_w, i32_w]
                                  rfl
                                refine pure_ (i := 1) (N := some 56) (v := ?_) (a' := ?_) #[true, true, false, false, false, false, false, false, false, false, false, false, false, false, false, false, false, false, false, false, false, false, false] rfl rfl (any_of HT_.out (by kernel_rfl)) (fun _ _ _ h => h) (Or.inl ⟨by rfl, ?_⟩) ?_ ?_
                                rotate_left
                                · intro w'
                                  go_simp
                                  with_reducible rfl
                                rotate_left
                                · simp only [Act.put, List.setIfInBounds_toArray, List.set_cons_zero, List.set_cons_succ, i64_w, i32_w]
                                  rfl
                                refine pure_ (i := 5) (N := some 60) (v := ?_) (a' := ?_) #[true, true, false, false, false, true, false, false, false, false, false, false, false, false, false, false, false, false, false, false, false, false, false] rfl rfl (any_of HT_.out (by kernel_rfl)) (fun _ _ _ h => h) (Or.inl ⟨by rfl, ?_⟩) ?_ ?_
                                rotate_left
                                · intro w'
                                  go_simp
                                  with_reducible rfl
                                rotate_left
                                · simp only [Act.put, List.setIfInBounds_toArray, List.set_cons_zero, List.set_cons_succ, i64_w, i32_w]
                                  rfl
                                refine pure_ (i := 7) (N := some 62) (v := ?_) (a' := ?_) #[true, true, false, false, false, true, false, true, false, false, false, false, false, false, false, false, false, false, false, false, false, false, false] rfl rfl (any_of HT_.out (by kernel_rfl)) (fun _ _ _ h => h) (Or.inl ⟨by rfl, ?_⟩) ?_ ?_
                                rotate_left
                                · intro w'
                                  go_simp
                                  with_reducible rfl
                                rotate_left
                                · simp only [Act.put, List.setIfInBounds_toArray, List.set_cons_zero, List.set_cons_succ, i64_w, i32_w]
                                  rfl
                                refine pure_ (i := 8) (N := some 63) (v := ?_) (a' := ?_) #[true, true, false, false, false, true, false, true, true, false, false, false, false, false, false, false, false, false, false, false, false, false, false] rfl rfl (any_of HT_.out (by kernel_rfl)) (fun _ _ _ h => h) (Or.inl ⟨by rfl, ?_⟩) ?_ ?_
                                rotate_left
                                · intro w'
                                  go_simp
                                  with_reducible rfl
                                rotate_left
                                · simp only [Act.put, List.setIfInBounds_toArray, List.set_cons_zero, List.set_cons_succ, i64_w, i32_w]
                                  rfl
                                refine pure_ (i := 12) (N := some 67) (v := ?_) (a' := ?_) #[true, true, false, false, false, true, false, true, true, false, false, false, true, false, false, false, false, false, false, false, false, false, false] rfl rfl (any_of HT_.out (by kernel_rfl)) (fun _ _ _ h => h) (Or.inl ⟨by rfl, ?_⟩) ?_ ?_
                                rotate_left
                                · intro w'
                                  go_simp
                                  with_reducible rfl
                                rotate_left
                                · simp only [Act.put, List.setIfInBounds_toArray, List.set_cons_zero, List.set_cons_succ, i64_w, i32_w]
                                  rfl
                                refine pure_ (i := 17) (N := some 72) (v := ?_) (a' := ?_) #[true, true, false, false, false, true, false, true, true, false, false, false, true, false, false, false, false, true, false, false, false, false, false] rfl rfl (any_of HT_.out (by kernel_rfl)) (fun _ _ _ h => h) (Or.inl ⟨by rfl, ?_⟩) ?_ ?_
                                rotate_left
                                · intro w'
                                  go_simp
                                  with_reducible rfl
                                rotate_left
                                · simp only [Act.put, List.setIfInBounds_toArray, List.set_cons_zero, List.set_cons_succ, i64_w, i32_w]
                                  rfl
                                refine take_ (i := 2) (N := some 57) (v := ?_) (a' := ?_) #[true, true, true, false, false, true, false, true, true, false, false, false, true, false, false, false, false, true, false, false, false, false, false] rfl rfl (take_ofW HT_.out HW_.out (by kernel_rfl)) (fun _ _ _ h => h) (Or.inl ⟨by rfl, ?_⟩) hHeld ?_ ?_
                                rotate_left
                                · rintro w' ⟨s0, s1, s2, s3, s4, s5, s6, s7, s8, s9, s10, s11⟩
                                  go_simp
                                  with_reducible rfl
                                rotate_left
                                · simp only [Act.put, List.setIfInBounds_toArray, List.set_cons_zero, List.set_cons_succ, i64_w, i32_w]
                                  rfl
                                refine pure_ (i := 3) (N := some 58) (v := ?_) (a' := ?_) #[true, true, true, true, false, true, false, true, true, false, false, false, true, false, false, false, false, true, false, false, false, false, false] rfl rfl (any_of HT_.out (by kernel_rfl)) (fun _ _ _ h => h) (Or.inl ⟨by rfl, ?_⟩) ?_ ?_
                                rotate_left
                                · intro w'
                                  go_simp
                                  with_reducible rfl
                                rotate_left
                                · simp only [Act.put, List.setIfInBounds_toArray, List.set_cons_zero, List.set_cons_succ, i64_w, i32_w]
                                  rfl
                                refine take_ (i := 4) (N := some 59) (v := ?_) (a' := ?_) #[true, true, true, true, true, true, false, true, true, false, false, false, true, false, false, false, false, true, false, false, false, false, false] rfl rfl (take_ofW HT_.out HW_.out (by kernel_rfl)) (fun _ _ _ h => h) (Or.inl ⟨by rfl, ?_⟩) hHeld ?_ ?_
                                rotate_left
                                · rintro w' ⟨s0, s1, s2, s3, s4, s5, s6, s7, s8, s9, s10, s11⟩
                                  go_simp
                                  with_reducible rfl
                                rotate_left
                                · simp only [Act.put, List.setIfInBounds_toArray, List.set_cons_zero, List.set_cons_succ, i64_w, i32_w]
                                  rfl
                                refine take_ (i := 6) (N := some 61) (v := ?_) (a' := ?_) #[true, true, true, true, true, true, true, true, true, false, false, false, true, false, false, false, false, true, false, false, false, false, false] rfl rfl (take_ofW HT_.out HW_.out (by kernel_rfl)) (fun _ _ _ h => h) (Or.inl ⟨by rfl, ?_⟩) hHeld ?_ ?_
                                rotate_left
                                · rintro w' ⟨s0, s1, s2, s3, s4, s5, s6, s7, s8, s9, s10, s11⟩
                                  go_simp
                                  with_reducible rfl
                                rotate_left
                                · simp only [Act.put, List.setIfInBounds_toArray, List.set_cons_zero, List.set_cons_succ, i64_w, i32_w]
                                  rfl
                                refine take_ (i := 9) (N := some 64) (v := ?_) (a' := ?_) #[true, true, true, true, true, true, true, true, true, true, false, false, true, false, false, false, false, true, false, false, false, false, false] rfl rfl (take_ofW HT_.out HW_.out (by kernel_rfl)) (fun _ _ _ h => h) (Or.inl ⟨by rfl, ?_⟩) hHeld ?_ ?_
                                rotate_left
                                · rintro w' ⟨s0, s1, s2, s3, s4, s5, s6, s7, s8, s9, s10, s11⟩
                                  go_simp
                                  with_reducible rfl
                                rotate_left
                                · simp only [Act.put, List.setIfInBounds_toArray, List.set_cons_zero, List.set_cons_succ, i64_w, i32_w]
                                  rfl
                                refine pure_ (i := 10) (N := some 65) (v := ?_) (a' := ?_) #[true, true, true, true, true, true, true, true, true, true, true, false, true, false, false, false, false, true, false, false, false, false, false] rfl rfl (any_of HT_.out (by kernel_rfl)) (fun _ _ _ h => h) (Or.inl ⟨by rfl, ?_⟩) ?_ ?_
                                rotate_left
                                · intro w'
                                  go_simp
                                  with_reducible rfl
                                rotate_left
                                · simp only [Act.put, List.setIfInBounds_toArray, List.set_cons_zero, List.set_cons_succ, i64_w, i32_w]
                                  rfl
                                refine take_ (i := 11) (N := some 66) (v := ?_) (a' := ?_) #[true, true, true, true, true, true, true, true, true, true, true, true, true, false, false, false, false, true, false, false, false, false, false] rfl rfl (take_ofW HT_.out HW_.out (by kernel_rfl)) (fun _ _ _ h => h) (Or.inl ⟨by rfl, ?_⟩) hHeld ?_ ?_
                                rotate_left
                                · rintro w' ⟨s0, s1, s2, s3, s4, s5, s6, s7, s8, s9, s10, s11⟩
                                  go_simp
                                  with_reducible rfl
                                rotate_left
                                · simp only [Act.put, List.setIfInBounds_toArray, List.set_cons_zero, List.set_cons_succ, i64_w, i32_w]
                                  rfl
                                refine take_ (i := 13) (N := some 68) (v := ?_) (a' := ?_) #[true, true, true, true, true, true, true, true, true, true, true, true, true, true, false, false, false, true, false, false, false, false, false] rfl rfl (take_ofW HT_.out HW_.out (by kernel_rfl)) (fun _ _ _ h => h) (Or.inl ⟨by rfl, ?_⟩) hHeld ?_ ?_
                                rotate_left
                                · rintro w' ⟨s0, s1, s2, s3, s4, s5, s6, s7, s8, s9, s10, s11⟩
                                  go_simp
                                  with_reducible rfl
                                rotate_left
                                · simp only [Act.put, List.setIfInBounds_toArray, List.set_cons_zero, List.set_cons_succ, i64_w, i32_w]
                                  rfl
                                refine pure_ (i := 14) (N := some 69) (v := ?_) (a' := ?_) #[true, true, true, true, true, true, true, true, true, true, true, true, true, true, true, false, false, true, false, false, false, false, false] rfl rfl (any_of HT_.out (by kernel_rfl)) (fun _ _ _ h => h) (Or.inl ⟨by rfl, ?_⟩) ?_ ?_
                                rotate_left
                                · intro w'
                                  go_simp
                                  with_reducible rfl
                                rotate_left
                                · simp only [Act.put, List.setIfInBounds_toArray, List.set_cons_zero, List.set_cons_succ, i64_w, i32_w]
                                  rfl
                                refine take_ (i := 15) (N := some 70) (v := ?_) (a' := ?_) #[true, true, true, true, true, true, true, true, true, true, true, true, true, true, true, true, false, true, false, false, false, false, false] rfl rfl (take_ofW HT_.out HW_.out (by kernel_rfl)) (fun _ _ _ h => h) (Or.inl ⟨by rfl, ?_⟩) hHeld ?_ ?_
                                rotate_left
                                · rintro w' ⟨s0, s1, s2, s3, s4, s5, s6, s7, s8, s9, s10, s11⟩
                                  go_simp
                                  with_reducible rfl
                                rotate_left
                                · simp only [Act.put, List.setIfInBounds_toArray, List.set_cons_zero, List.set_cons_succ, i64_w, i32_w]
                                  rfl
                                refine take_ (i := 16) (N := some 71) (v := ?_) (a' := ?_) #[true, true, true, true, true, true, true, true, true, true, true, true, true, true, true, true, true, true, false, false, false, false, false] rfl rfl (take_ofW HT_.out HW_.out (by kernel_rfl)) (fun _ _ _ h => h) (Or.inl ⟨by rfl, ?_⟩) hHeld ?_ ?_
                                rotate_left
                                · rintro w' ⟨s0, s1, s2, s3, s4, s5, s6, s7, s8, s9, s10, s11⟩
                                  go_simp
                                  with_reducible rfl
                                rotate_left
                                · simp only [Act.put, List.setIfInBounds_toArray, List.set_cons_zero, List.set_cons_succ, i64_w, i32_w]
                                  rfl
                                refine take_ (i := 18) (N := some 73) (v := ?_) (a' := ?_) #[true, true, true, true, true, true, true, true, true, true, true, true, true, true, true, true, true, true, true, false, false, false, false] rfl rfl (take_ofW HT_.out HW_.out (by kernel_rfl)) (fun _ _ _ h => h) (Or.inl ⟨by rfl, ?_⟩) hHeld ?_ ?_
                                rotate_left
                                · rintro w' ⟨s0, s1, s2, s3, s4, s5, s6, s7, s8, s9, s10, s11⟩
                                  go_simp
                                  with_reducible rfl
                                rotate_left
                                · simp only [Act.put, List.setIfInBounds_toArray, List.set_cons_zero, List.set_cons_succ, i64_w, i32_w]
                                  rfl
                                refine one_ (i := 19) (N := some 74) #[true, true, true, true, true, true, true, true, true, true, true, true, true, true, true, true, true, true, true, true, false, false, false] rfl rfl (one_of HT_.out (by kernel_rfl)) (by decide) (fun K hK => ?_)
                                refine goes_ Try.func33 (by kernel_rfl) rfl #[.agg #[.int .i64 a0_0, .slice A0_1 l0_1.length c0_1, .slice (some ad191) l0_2.length c0_2], .slice A1 l1.length c1, .agg #[.int .i64 ((rd_T40 l0_2 x48_2).f0), .int .i64 ((rd_T40 l0_2 x48_2).f1), .int .i64 ((rd_T40 l0_2 x48_2).f2), .int .i64 ((rd_T40 l0_2 x48_2).f3), .int .i64 ((rd_T40 l0_2 x48_2).f4), .int .i64 ((rd_T40 l0_2 x48_2).f5)]] (by rfl) rfl rfl (by (try simp only [List.map_toArray, List.map_cons, List.map_nil]); first | done | rfl | (simp only [List.length_drop, List.length_take]; rfl)) ?_
                                with_reducible refine (robust_slack.calls a0_0 _ _ l0_1 _ _ l0_2 _ _ l1 ((rd_T40 l0_2 x48_2).f0) ((rd_T40 l0_2 x48_2).f1) ((rd_T40 l0_2 x48_2).f2) ((rd_T40 l0_2 x48_2).f3) ((rd_T40 l0_2 x48_2).f4) ((rd_T40 l0_2 x48_2).f5) t196 _ ?side1 ?side2 ?side3 ?side4 ?side5 ?side6 A41.out).mono ?_
                                (case side1 => repeat (first | exact (Kd.C_below HR0_1.out HB.out) | (with_reducible refine Kd.C_alloc ?_ _) | (with_reducible refine Kd.C_drewN ?_ _) | (with_reducible refine Kd.C_drew ?_)))
                                (case side2 => exact HC0_1.out)
                                (case side3 => repeat (first | exact (Kd.C_below HR0_2.out HB.out) | (with_reducible refine Kd.C_alloc ?_ _) | (with_reducible refine Kd.C_drewN ?_ _) | (with_reducible refine Kd.C_drew ?_)))
                                (case side4 => exact HC0_2.out)
                                (case side5 => repeat (first | exact (Kd.C_below HR1.out HB.out) | (with_reducible refine Kd.C_alloc ?_ _) | (with_reducible refine Kd.C_drewN ?_ _) | (with_reducible refine Kd.C_drew ?_)))
                                (case side6 => exact HC1.out)
                                rintro e w49 ⟨rfl, hb⟩
                                have HS9_ := (hb.cell (World.block_lt_of_cell? _ _ (hHeld.2.2.2.2.2.2.2.2.2.1))).trans (hHeld.2.2.2.2.2.2.2.2.2.1)
                                have HS10_ := (hb.cell (World.block_lt_of_cell? _ _ (hHeld.2.2.2.2.2.2.2.2.2.2.1))).trans (hHeld.2.2.2.2.2.2.2.2.2.2.1)
                                have HS11_ := (hb.cell (World.block_lt_of_cell? _ _ (hHeld.2.2.2.2.2.2.2.2.2.2.2))).trans (hHeld.2.2.2.2.2.2.2.2.2.2.2)
                                refine ⟨_, rfl, ?_⟩
                                have n0_ := Aside0.mk (Kd.S_below (by (with_reducible repeat (first | apply Kd.S_alloc | apply Kd.S_drewN | apply Kd.S_drew)); exact HO_5.out) hb)
                                have n1_ := Aside0.mk (Kd.R_below (by (with_reducible repeat (first | apply Kd.R_alloc | apply Kd.R_drewN | apply Kd.R_drew)); exact HL193_0.out) hb)
                                have n2_ := Aside0.mk (Kd.R_below (by (with_reducible repeat (first | apply Kd.R_alloc | apply Kd.R_drewN | apply Kd.R_drew)); exact HL194_0.out) hb)
                                have n3_ := Aside0.mk (blk_below (g := gb178) (o := .cells #[.int .i64 a0_0, .slice A0_1 l0_1.length c0_1, .slice (some ad191) l0_2.length c0_2] 26 (0, 0)) (by (with_reducible repeat (first | refine blk_drewN ?_ _ | refine blk_drew ?_ | refine blk_alloc ?_ _)); exact BK178.out) hb)
                                have n4_ := Aside0.mk (blk_below (g := gb192) (o := .cells #[.int .i64 ((rd_T40 l0_2 x48_2).f0), .int .i64 ((rd_T40 l0_2 x48_2).f1), .int .i64 ((rd_T40 l0_2 x48_2).f2), .int .i64 ((rd_T40 l0_2 x48_2).f3), .int .i64 ((rd_T40 l0_2 x48_2).f4), .int .i64 ((rd_T40 l0_2 x48_2).f5)] 40 (0, 0)) (by (with_reducible repeat (first | refine blk_drewN ?_ _ | refine blk_drew ?_ | refine blk_alloc ?_ _)); exact BK192.out) hb)
                                have n5_ := Aside0.mk (Kd.C_below (by repeat (first | (with_reducible exact HR193_0.out) | (with_reducible refine Kd.C_alloc ?_ _) | (with_reducible refine Kd.C_drewN ?_ _) | (with_reducible refine Kd.C_drew ?_) | exact HR193_0.out)) hb)
                                have n6_ := Aside0.mk (pw_cell_below hb HX193_0.out)
                                have n7_ := Aside0.mk (Kd.C_below (by repeat (first | (with_reducible exact HR194_0.out) | (with_reducible refine Kd.C_alloc ?_ _) | (with_reducible refine Kd.C_drewN ?_ _) | (with_reducible refine Kd.C_drew ?_) | exact HR194_0.out)) hb)
                                have n8_ := Aside0.mk (pw_cell_below hb HX194_0.out)
                                have n9_ := Aside0.mk (below_step (by repeat (first | (with_reducible first | exact HB.out | apply below_alloc | apply pw_below_drewN | apply below_drew1 | refine below_set ?_ GE178.out | refine below_set ?_ GE192.out) | exact HB.out)) hb)
                                clear HO_5
                                clear HL193_0
                                clear HL194_0
                                clear BK178
                                clear BK192
                                clear HR193_0
                                clear HX193_0
                                clear HR194_0
                                clear HX194_0
                                clear HB
                                have HO_5 := n0_
                                have HL193_0 := n1_
                                have HL194_0 := n2_
                                have BK178 := n3_
                                have BK192 := n4_
                                have HR193_0 := n5_
                                have HX193_0 := n6_
                                have HR194_0 := n7_
                                have HX194_0 := n8_
                                have HB := n9_
                                clear n0_ n1_ n2_ n3_ n4_ n5_ n6_ n7_ n8_ n9_
                                (try clear hb)
                                (try clear hb2)
                                (try clear hk)
                                (try clear hi)
                                refine hK.out _ _ ⟨(blk_cell BK192.out 0).trans rfl, (blk_cell BK192.out 1).trans rfl, (blk_cell BK192.out 2).trans rfl, (blk_cell BK192.out 3).trans rfl, (blk_cell BK192.out 4).trans rfl, (blk_cell BK192.out 5).trans rfl, (blk_cell BK178.out 0).trans rfl, (blk_cell BK178.out 1).trans rfl, (blk_cell BK178.out 2).trans rfl, HS9_, HS10_, HS11_⟩ (fun hHeld => ?_)
                                clear hK K
                                refine norm_ (a' := ?_) ?_ ?_
                                rotate_left
                                · show Act.put _ (some 74) _ = _
                                  simp only [Act.put, List.setIfInBounds_toArray, List.set_cons_zero, List.set_cons_succ, i64_w, i32_w]
                                  rfl
                                refine one_ (i := 20) (N := some 75) #[true, true, true, true, true, true, true, true, true, true, true, true, true, true, true, true, true, true, true, true, true, false, false] rfl rfl (one_of HT_.out (by kernel_rfl)) (by decide) (fun K hK => ?_)
                                refine goes_ Try.func29 (by kernel_rfl) rfl #[.int .i64 (rd (rd_L7 x5_2 ((rd_T40 l0_2 x48_2).f1)) ((rd_T40 l0_2 x48_2).f2)), .int .i64 t196] (by rfl) rfl rfl (by (try simp only [List.map_toArray, List.map_cons, List.map_nil]); first | done | rfl | (simp only [List.length_drop, List.length_take]; rfl)) ?_
                                with_reducible refine (robust_least.calls (rd (rd_L7 x5_2 ((rd_T40 l0_2 x48_2).f1)) ((rd_T40 l0_2 x48_2).f2)) t196 t197 _ A42.out).mono ?_
                                rintro e w50 ⟨rfl, hb⟩
                                have HS9_ := (hb.cell (World.block_lt_of_cell? _ _ (hHeld.2.2.2.2.2.2.2.2.2.1))).trans (hHeld.2.2.2.2.2.2.2.2.2.1)
                                have HS10_ := (hb.cell (World.block_lt_of_cell? _ _ (hHeld.2.2.2.2.2.2.2.2.2.2.1))).trans (hHeld.2.2.2.2.2.2.2.2.2.2.1)
                                have HS11_ := (hb.cell (World.block_lt_of_cell? _ _ (hHeld.2.2.2.2.2.2.2.2.2.2.2))).trans (hHeld.2.2.2.2.2.2.2.2.2.2.2)
                                refine ⟨_, rfl, ?_⟩
                                have n0_ := Aside0.mk (Kd.S_below (by (with_reducible repeat (first | apply Kd.S_alloc | apply Kd.S_drewN | apply Kd.S_drew)); exact HO_5.out) hb)
                                have n1_ := Aside0.mk (Kd.R_below (by (with_reducible repeat (first | apply Kd.R_alloc | apply Kd.R_drewN | apply Kd.R_drew)); exact HL193_0.out) hb)
                                have n2_ := Aside0.mk (Kd.R_below (by (with_reducible repeat (first | apply Kd.R_alloc | apply Kd.R_drewN | apply Kd.R_drew)); exact HL194_0.out) hb)
                                have n3_ := Aside0.mk (blk_below (g := gb178) (o := .cells #[.int .i64 a0_0, .slice A0_1 l0_1.length c0_1, .slice (some ad191) l0_2.length c0_2] 26 (0, 0)) (by (with_reducible repeat (first | refine blk_drewN ?_ _ | refine blk_drew ?_ | refine blk_alloc ?_ _)); exact BK178.out) hb)
                                have n4_ := Aside0.mk (blk_below (g := gb192) (o := .cells #[.int .i64 ((rd_T40 l0_2 x48_2).f0), .int .i64 ((rd_T40 l0_2 x48_2).f1), .int .i64 ((rd_T40 l0_2 x48_2).f2), .int .i64 ((rd_T40 l0_2 x48_2).f3), .int .i64 ((rd_T40 l0_2 x48_2).f4), .int .i64 ((rd_T40 l0_2 x48_2).f5)] 40 (0, 0)) (by (with_reducible repeat (first | refine blk_drewN ?_ _ | refine blk_drew ?_ | refine blk_alloc ?_ _)); exact BK192.out) hb)
                                have n5_ := Aside0.mk (Kd.C_below (by repeat (first | (with_reducible exact HR193_0.out) | (with_reducible refine Kd.C_alloc ?_ _) | (with_reducible refine Kd.C_drewN ?_ _) | (with_reducible refine Kd.C_drew ?_) | exact HR193_0.out)) hb)
                                have n6_ := Aside0.mk (pw_cell_below hb HX193_0.out)
                                have n7_ := Aside0.mk (Kd.C_below (by repeat (first | (with_reducible exact HR194_0.out) | (with_reducible refine Kd.C_alloc ?_ _) | (with_reducible refine Kd.C_drewN ?_ _) | (with_reducible refine Kd.C_drew ?_) | exact HR194_0.out)) hb)
                                have n8_ := Aside0.mk (pw_cell_below hb HX194_0.out)
                                have n9_ := Aside0.mk (below_step (by repeat (first | (with_reducible first | exact HB.out | apply below_alloc | apply pw_below_drewN | apply below_drew1 | refine below_set ?_ GE178.out | refine below_set ?_ GE192.out) | exact HB.out)) hb)
                                clear HO_5
                                clear HL193_0
                                clear HL194_0
                                clear BK178
                                clear BK192
                                clear HR193_0
                                clear HX193_0
                                clear HR194_0
                                clear HX194_0
                                clear HB
                                have HO_5 := n0_
                                have HL193_0 := n1_
                                have HL194_0 := n2_
                                have BK178 := n3_
                                have BK192 := n4_
                                have HR193_0 := n5_
                                have HX193_0 := n6_
                                have HR194_0 := n7_
                                have HX194_0 := n8_
                                have HB := n9_
                                clear n0_ n1_ n2_ n3_ n4_ n5_ n6_ n7_ n8_ n9_
                                (try clear hb)
                                (try clear hb2)
                                (try clear hk)
                                (try clear hi)
                                have p43 : 0 ≤ (((rd_T40 l0_2 x48_2).f2) : Int) := of_decide_eq_true (by first | (with_reducible assumption) | assumption)
                                have q43 : (((rd_T40 l0_2 x48_2).f2) : Int) < (((rd_L7 x5_2 ((rd_T40 l0_2 x48_2).f1)).length : Int) : Int) := of_decide_eq_true (by first | (with_reducible assumption) | assumption)
                                obtain ⟨go43, co43, eo43, gb43, gl43, cl43, HG43⟩ := Kd.R_form HL193_0.out (by omega)
                                (first | cases eo43 | (injection eo43 with ea_ en_ ec_; (first | subst ea_ | (injection ea_ with ea_; subst ea_)); subst ec_; clear en_))
                                have GB43 := Aside0.mk gb43
                                have GG43 := Aside0.mk HG43
                                clear gb43 gl43 HG43
                                (first | simp only [add_plain] at hx195_0 | skip)
                                obtain ⟨hx43_0, hf43_0⟩ := Kd.R_celln 0 HL193_0.out (((rd_T40 l0_2 x48_2).f2) : Int) p43 q43
                                replace p43 := eq_true p43
                                replace q43 := eq_true q43
                                have hq51 : (((rd_T40 l0_2 x48_2).f1) : Int) < (x5_2.length : Int) := (by have h_ : (((rd_T40 l0_2 x48_2).f1) : Int) < ((x5_2.length : Int) : Int) := of_decide_eq_true (by first | (with_reducible assumption) | assumption); first | exact h_ | (have e_ := (Kd.S_reads' HO_5.out).1; omega) | simpa only [List.length_set, List.length_set] using h_)
                                obtain ⟨oki51, ce51, hcl51, hM51, hcc51, hok51, hbk51⟩ := Kd.S_borrow HO_5.out [] (((rd_T40 l0_2 x48_2).f1) : Int) (of_decide_eq_true (by first | (with_reducible assumption) | assumption)) hq51
                                obtain ⟨ve51_0, rfl, ge51_0⟩ := hM51
                                have hv51 := hcc51 0 _ rfl
                                rw [Nat.add_zero, show ((Kd.slice 3 (Kd.int .i64))).sz = 1 from rfl, Nat.mul_one] at hv51
                                replace hv51 := Option.some.inj (hv51.symm.trans HX193_0.out)
                                subst hv51
                                clear hcc51 hcl51
                                replace ge51_0 := (show Kd.R (Kd.int .i64) 3 _ _ _ _ (rd_L7 x5_2 ((rd_T40 l0_2 x48_2).f1)) from ge51_0)
                                have HP51 := Kd.R_putg ge51_0 (((rd_T40 l0_2 x48_2).f2) : Int) t197
                                rw [← Ny198.out] at HP51
                                have HS51 := hbk51 HP51.2 (fun k_ e_ => by injection e_ with e_; subst e_; exact ge51_0.1 _ rfl) (x' := y198) (Kd.M_row HP51.1)
                                rw [← Ny200.out] at HS51
                                have HQ51 := Aside0.mk HS51
                                clear HP51 HS51 hbk51 hok51
                                refine hK.out _ _ ⟨(blk_cell BK192.out 0).trans rfl, (blk_cell BK192.out 1).trans rfl, (blk_cell BK192.out 2).trans rfl, (blk_cell BK192.out 3).trans rfl, (blk_cell BK192.out 4).trans rfl, (blk_cell BK192.out 5).trans rfl, (blk_cell BK178.out 0).trans rfl, (blk_cell BK178.out 1).trans rfl, (blk_cell BK178.out 2).trans rfl, HS9_, HS10_, HS11_⟩ (fun hHeld => ?_)
                                clear hK K
                                refine norm_ (a' := ?_) ?_ ?_
                                rotate_left
                                · show Act.put _ (some 75) _ = _
                                  simp only [Act.put, List.setIfInBounds_toArray, List.set_cons_zero, List.set_cons_succ, i64_w, i32_w]
                                  rfl
                                refine pure_ (i := 21) (N := some 76) (v := ?_) (a' := ?_) #[true, true, true, true, true, true, true, true, true, true, true, true, true, true, true, true, true, true, true, true, true, true, false] rfl rfl (any_of HT_.out (by kernel_rfl)) (fun _ _ _ h => h) (Or.inl ⟨by rfl, ?_⟩) ?_ ?_
                                rotate_left
                                · intro w'
                                  go_simp
                                  with_reducible rfl
                                rotate_left
                                · simp only [Act.put, List.setIfInBounds_toArray, List.set_cons_zero, List.set_cons_succ, i64_w, i32_w]
                                  rfl
                                refine last_ (i := 22) (N := none) #[true, true, true, true, true, true, true, true, true, true, true, true, true, true, true, true, true, true, true, true, true, true, true] rfl rfl (one_of HT_.out (by kernel_rfl)) (by decide) (fun K hK => ?_)
                                refine skip_ (w1 := ?_) (by rfl) rfl ?_ ?_
                                rotate_left
                                · go_simp
                                  rfl
                                refine hK.out _ _ ?_
                                clear hK K
                                refine done_ (done_of HT_.out (by kernel_rfl)) ?_
                                try go_wp2
                                (try simp only [← hl5_2])
                                go_roundg k2
                                case measure => have := HK1.out; have := HK2.out; omega
                                case rel => exact ⟨(y200), (wrap64 (x48_2 + 1)), (by first | rfl | (simp; done) | (simp [*]; done)), H', ⟨by have := HK1.out; have := HK2.out; omega⟩, ⟨by (try simp only [hl5_1]); (try simp only [hl5_2]); (with_reducible repeat (first | apply Kd.S_alloc | apply Kd.S_drewN | apply Kd.S_drew)); exact HQ51.out⟩, ⟨by (try simp only [hl5_1]); (try simp only [hl5_2]); (with_reducible repeat (first | refine blk_drewN ?_ _ | refine blk_drew ?_ | refine blk_alloc ?_ _)); refine blk_far ?_ (by have h_ := Kd.R_ne HL193_0.out BK178.out (by decide); intro e_; exact h_ (by rw [e_]; rfl)) _; (with_reducible repeat (first | refine blk_drewN ?_ _ | refine blk_drew ?_ | refine blk_alloc ?_ _)); exact BK178.out⟩, ⟨by repeat (first | (with_reducible first | exact HB.out | apply below_alloc | apply pw_below_drewN | apply below_drew1 | refine below_set ?_ GB43.out | refine below_set ?_ GE178.out | refine below_set ?_ GE192.out) | exact HB.out)⟩⟩
                              · rw [if_neg c40] at H
                                exact absurd H (by simp)
                            · rw [if_neg c39] at H
                              exact absurd H (by simp)
                          · rw [if_neg c38] at H
                            exact absurd H (by simp)
                        · rw [if_neg c37] at H
                          exact absurd H (by simp)
                    · rw [if_neg c32] at H
                      exact absurd H (by simp)
                  · rw [if_neg c31] at H
                    exact absurd H (by simp)
                · rw [if_neg c30] at H
                  have c30b0 : decide (x48_2 < (l0_2.length : Int)) = false := decide_eq_false c30
                  clear c30
                  have H' := Aside0.mk H
                  clear H
                  go_wp2
                  go_loopg [80] k2 (fun kq v80 w' => ∃ (x5_3 : List (List Int)) (x80_3 : Int), v80 = .int .i64 x80_3 ∧ Aside0 (robust_distances.l3 kq x5_3 (x5_2.length : Int) x80_3 = some r) ∧ Aside0 (kq ≤ k2) ∧ Aside0 (Kd.S (Kd.slice 3 (Kd.int .i64)) 22 w' w.heap.size (fun _ => True) (.slice Ao9 x5_2.length co9) x5_3) ∧ Aside0 (w'.heap[gb178]? = some (.cells #[.int .i64 a0_0, (.slice A0_1 l0_1.length c0_1), (.slice A0_2 l0_2.length c0_2)] 26 (0, 0))) ∧ Aside0 (Below w.heap.size w w'))
                  case atStart => exact ⟨(x5_2), (0), (by first | rfl | (simp; done) | (simp [*]; done)), H', ⟨Nat.le_refl _⟩, ⟨by (try simp only [hl5_1]); (try simp only [hl5_2]); (with_reducible repeat (first | apply Kd.S_alloc | apply Kd.S_drewN | apply Kd.S_drew)); exact HO_5.out⟩, ⟨by (try simp only [hl5_1]); (try simp only [hl5_2]); (with_reducible repeat (first | refine blk_drewN ?_ _ | refine blk_drew ?_ | refine blk_alloc ?_ _)); exact BK178.out⟩, ⟨by repeat (first | (with_reducible first | exact HB.out | apply below_alloc | apply pw_below_drewN | apply below_drew1 | refine below_set ?_ GE178.out) | exact HB.out)⟩⟩
                  case round =>
                    clear H'
                    try clear c1
                    try clear p1
                    try clear q1
                    try clear hx1
                    try clear c2
                    try clear p2
                    try clear q2
                    try clear hx2
                    try clear hf2
                    try clear c3
                    try clear c3b0
                    try clear c3b1
                    try clear c4
                    try clear c4b0
                    try clear c4b1
                    try clear p4
                    try clear q4
                    try clear hx4
                    try clear hf4
                    try clear c5
                    try clear q5
                    try clear p6
                    try clear c10
                    try clear c10b0
                    try clear c11
                    try clear c11b0
                    try clear c11b1
                    try clear c12
                    try clear c12b0
                    try clear c12b1
                    try clear c13
                    try clear c13b0
                    try clear c14
                    try clear c14b0
                    try clear c15
                    try clear p15
                    try clear q15
                    try clear hx15
                    try clear hf15
                    try clear c18
                    try clear p18
                    try clear q18
                    try clear hx18
                    try clear c19
                    try clear p19
                    try clear q19
                    try clear hx19
                    try clear hf19
                    try clear c21
                    try clear c21b0
                    try clear c22
                    try clear c22b0
                    try clear c23
                    try clear c23b0
                    try clear c24
                    try clear c24b0
                    try clear c25
                    try clear c25b0
                    try clear p26
                    try clear q26
                    try clear hx26
                    try clear hf26
                    try clear c27
                    try clear q27
                    try clear c28
                    try clear c29
                    try clear c30
                    try clear c30b0
                    try clear c31
                    try clear c31b0
                    try clear c32
                    try clear c32b0
                    try clear c33
                    try clear c33b0
                    try clear c33b1
                    try clear c35
                    try clear c37
                    try clear c37b0
                    try clear c38
                    try clear c38b0
                    try clear c39
                    try clear c39b0
                    try clear c40
                    try clear c40b0
                    try clear p43
                    try clear q43
                    try clear hx43
                    try clear hf43
                    try clear c45
                    try clear c51
                    try clear q51
                    try clear hcz16_0
                    try clear hcz16_1
                    try clear hcz16_2
                    try clear hcz29_0
                    try clear hcz29_1
                    try clear hcz29_2
                    try clear hcz36_0
                    try clear hcz36_1
                    try clear hcz36_2
                    try clear hcz36_3
                    try clear hcz36_4
                    try clear hcz36_5
                    try clear hcz46_0
                    try clear hcz46_1
                    try clear hcz46_2
                    try clear hcz46_3
                    try clear hcz46_4
                    try clear hcz46_5
                    try clear hcz6_0
                    try clear hcz6_1
                    try clear hcz6_2
                    try clear hfz16_0
                    try clear hfz16_1
                    try clear hfz16_2
                    try clear hfz29_0
                    try clear hfz29_1
                    try clear hfz29_2
                    try clear hfz36_0
                    try clear hfz36_1
                    try clear hfz36_2
                    try clear hfz36_3
                    try clear hfz36_4
                    try clear hfz36_5
                    try clear hfz46_0
                    try clear hfz46_1
                    try clear hfz46_2
                    try clear hfz46_3
                    try clear hfz46_4
                    try clear hfz46_5
                    try clear hfz6_0
                    try clear hfz6_1
                    try clear hfz6_2
                    try clear hx15_0
                    try clear hx186_0
                    try clear hx187_0
                    try clear hx191_0
                    try clear hx191_1
                    try clear hx191_2
                    try clear hx191_3
                    try clear hx191_4
                    try clear hx191_5
                    try clear hx193_0
                    try clear hx194_0
                    try clear hx195_0
                    try clear hx19_0
                    try clear hx26_0
                    try clear hx43_0
                    try clear p1
                    try clear p15
                    try clear p18
                    try clear p186
                    try clear p187
                    try clear p191
                    try clear p193
                    try clear p194
                    try clear p195
                    try clear p2
                    try clear p26
                    try clear p43
                    try clear p6
                    try clear q1
                    try clear q15
                    try clear q18
                    try clear q186
                    try clear q187
                    try clear q191
                    try clear q193
                    try clear q194
                    try clear q195
                    try clear q2
                    try clear q26
                    try clear q27
                    try clear q43
                    obtain ⟨x5_3, x80_3, rfl, HA, HK3, HO_5, BK178, HB⟩ := hrel
                    have hl5_3 := (Kd.S_reads' HO_5.out).1
                    rw [hl5_3] at HO_5
                    (try simp only [hl5_3])
                    (try simp only [hl5_3] at BK178)
                    cases gk with
                    | zero => exact absurd HA.out (by simp [robust_distances.l3])
                    | succ k3 =>
                      have H := HA.out
                      clear HA
                      simp only [robust_distances.l3] at H
                      by_cases c53 : x80_3 < (x5_2.length : Int)
                      · rw [if_pos c53] at H
                        have c53b0 : decide (x80_3 < (x5_2.length : Int)) = true := decide_eq_true c53
                        (try simp only [hl5_3] at c53b0)
                        clear c53
                        have H' := Aside0.mk H
                        clear H
                        go_wp2
                        go_loopg [85] k3 (fun kq v85 w' => ∃ (x5_4 : List (List Int)) (x85_4 : Int), v85 = .int .i64 x85_4 ∧ Aside0 (robust_distances.l4 kq x5_4 x80_3 (x5_2.length : Int) x80_3 (x5_3.length : Int) x85_4 = some r) ∧ Aside0 (kq ≤ k3) ∧ Aside0 (Kd.S (Kd.slice 3 (Kd.int .i64)) 22 w' w.heap.size (fun _ => True) (.slice Ao9 x5_3.length co9) x5_4) ∧ Aside0 (w'.heap[gb178]? = some (.cells #[.int .i64 a0_0, (.slice A0_1 l0_1.length c0_1), (.slice A0_2 l0_2.length c0_2)] 26 (0, 0))) ∧ Aside0 (Below w.heap.size w w'))
                        case atStart => exact ⟨(x5_3), (0), (by first | rfl | (simp; done) | (simp [*]; done)), H', ⟨Nat.le_refl _⟩, ⟨by (try simp only [hl5_1]); (try simp only [hl5_2]); (try simp only [hl5_3]); (with_reducible repeat (first | apply Kd.S_alloc | apply Kd.S_drewN | apply Kd.S_drew)); exact HO_5.out⟩, ⟨by (try simp only [hl5_1]); (try simp only [hl5_2]); (try simp only [hl5_3]); (with_reducible repeat (first | refine blk_drewN ?_ _ | refine blk_drew ?_ | refine blk_alloc ?_ _)); exact BK178.out⟩, ⟨by repeat (first | (with_reducible first | exact HB.out | apply below_alloc | apply pw_below_drewN | apply below_drew1 | refine below_set ?_ GE178.out) | exact HB.out)⟩⟩
                        case round =>
                          clear H'
                          try clear c1
                          try clear p1
                          try clear q1
                          try clear hx1
                          try clear c2
                          try clear p2
                          try clear q2
                          try clear hx2
                          try clear hf2
                          try clear c3
                          try clear c3b0
                          try clear c3b1
                          try clear c4
                          try clear c4b0
                          try clear c4b1
                          try clear p4
                          try clear q4
                          try clear hx4
                          try clear hf4
                          try clear c5
                          try clear q5
                          try clear p6
                          try clear c10
                          try clear c10b0
                          try clear c11
                          try clear c11b0
                          try clear c11b1
                          try clear c12
                          try clear c12b0
                          try clear c12b1
                          try clear c13
                          try clear c13b0
                          try clear c14
                          try clear c14b0
                          try clear c15
                          try clear p15
                          try clear q15
                          try clear hx15
                          try clear hf15
                          try clear c18
                          try clear p18
                          try clear q18
                          try clear hx18
                          try clear c19
                          try clear p19
                          try clear q19
                          try clear hx19
                          try clear hf19
                          try clear c21
                          try clear c21b0
                          try clear c22
                          try clear c22b0
                          try clear c23
                          try clear c23b0
                          try clear c24
                          try clear c24b0
                          try clear c25
                          try clear c25b0
                          try clear p26
                          try clear q26
                          try clear hx26
                          try clear hf26
                          try clear c27
                          try clear q27
                          try clear c28
                          try clear c29
                          try clear c30
                          try clear c30b0
                          try clear c31
                          try clear c31b0
                          try clear c32
                          try clear c32b0
                          try clear c33
                          try clear c33b0
                          try clear c33b1
                          try clear c35
                          try clear c37
                          try clear c37b0
                          try clear c38
                          try clear c38b0
                          try clear c39
                          try clear c39b0
                          try clear c40
                          try clear c40b0
                          try clear p43
                          try clear q43
                          try clear hx43
                          try clear hf43
                          try clear c45
                          try clear c51
                          try clear q51
                          try clear c53
                          try clear c53b0
                          try clear hcz16_0
                          try clear hcz16_1
                          try clear hcz16_2
                          try clear hcz29_0
                          try clear hcz29_1
                          try clear hcz29_2
                          try clear hcz36_0
                          try clear hcz36_1
                          try clear hcz36_2
                          try clear hcz36_3
                          try clear hcz36_4
                          try clear hcz36_5
                          try clear hcz46_0
                          try clear hcz46_1
                          try clear hcz46_2
                          try clear hcz46_3
                          try clear hcz46_4
                          try clear hcz46_5
                          try clear hcz6_0
                          try clear hcz6_1
                          try clear hcz6_2
                          try clear hfz16_0
                          try clear hfz16_1
                          try clear hfz16_2
                          try clear hfz29_0
                          try clear hfz29_1
                          try clear hfz29_2
                          try clear hfz36_0
                          try clear hfz36_1
                          try clear hfz36_2
                          try clear hfz36_3
                          try clear hfz36_4
                          try clear hfz36_5
                          try clear hfz46_0
                          try clear hfz46_1
                          try clear hfz46_2
                          try clear hfz46_3
                          try clear hfz46_4
                          try clear hfz46_5
                          try clear hfz6_0
                          try clear hfz6_1
                          try clear hfz6_2
                          try clear hx15_0
                          try clear hx186_0
                          try clear hx187_0
                          try clear hx191_0
                          try clear hx191_1
                          try clear hx191_2
                          try clear hx191_3
                          try clear hx191_4
                          try clear hx191_5
                          try clear hx193_0
                          try clear hx194_0
                          try clear hx195_0
                          try clear hx19_0
                          try clear hx26_0
                          try clear hx43_0
                          try clear p1
                          try clear p15
                          try clear p18
                          try clear p186
                          try clear p187
                          try clear p19
                          try clear p191
                          try clear p193
                          try clear p194
                          try clear p195
                          try clear p2
                          try clear p26
                          try clear p4
                          try clear p43
                          try clear p6
                          try clear q1
                          try clear q15
                          try clear q18
                          try clear q186
                          try clear q187
                          try clear q19
                          try clear q191
                          try clear q193
                          try clear q194
                          try clear q195
                          try clear q2
                          try clear q26
                          try clear q27
                          try clear q4
                          try clear q43
                          try clear q5
                          try clear q51
                          obtain ⟨x5_4, x85_4, rfl, HA, HK4, HO_5, BK178, HB⟩ := hrel
                          have hl5_4 := (Kd.S_reads' HO_5.out).1
                          rw [hl5_4] at HO_5
                          (try simp only [hl5_4])
                          (try simp only [hl5_4] at BK178)
                          cases gk with
                          | zero => exact absurd HA.out (by simp [robust_distances.l4])
                          | succ k4 =>
                            have H := HA.out
                            clear HA
                            simp only [robust_distances.l4] at H
                            by_cases c54 : x85_4 < (x5_3.length : Int)
                            · rw [if_pos c54] at H
                              have c54b0 : decide (x85_4 < (x5_3.length : Int)) = true := decide_eq_true c54
                              (try simp only [hl5_4] at c54b0)
                              clear c54
                              have H' := Aside0.mk H
                              clear H
                              go_wp2
                              go_loopg [90] k4 (fun kq v90 w' => ∃ (x5_5 : List (List Int)) (x90_5 : Int), v90 = .int .i64 x90_5 ∧ Aside0 (robust_distances.l5 kq x5_5 x80_3 x85_4 (x5_2.length : Int) x80_3 (x5_3.length : Int) x85_4 (x5_4.length : Int) x90_5 = some r) ∧ Aside0 (kq ≤ k4) ∧ Aside0 (Kd.S (Kd.slice 3 (Kd.int .i64)) 22 w' w.heap.size (fun _ => True) (.slice Ao9 x5_4.length co9) x5_5) ∧ Aside0 (w'.heap[gb178]? = some (.cells #[.int .i64 a0_0, (.slice A0_1 l0_1.length c0_1), (.slice A0_2 l0_2.length c0_2)] 26 (0, 0))) ∧ Aside0 (Below w.heap.size w w'))
                              case atStart => exact ⟨(x5_4), (0), (by first | rfl | (simp; done) | (simp [*]; done)), H', ⟨Nat.le_refl _⟩, ⟨by (try simp only [hl5_1]); (try simp only [hl5_2]); (try simp only [hl5_3]); (try simp only [hl5_4]); (with_reducible repeat (first | apply Kd.S_alloc | apply Kd.S_drewN | apply Kd.S_drew)); exact HO_5.out⟩, ⟨by (try simp only [hl5_1]); (try simp only [hl5_2]); (try simp only [hl5_3]); (try simp only [hl5_4]); (with_reducible repeat (first | refine blk_drewN ?_ _ | refine blk_drew ?_ | refine blk_alloc ?_ _)); exact BK178.out⟩, ⟨by repeat (first | (with_reducible first | exact HB.out | apply below_alloc | apply pw_below_drewN | apply below_drew1 | refine below_set ?_ GE178.out) | exact HB.out)⟩⟩
                              case round =>
                                clear H'
                                try clear c1
                                try clear p1
                                try clear q1
                                try clear hx1
                                try clear c2
                                try clear p2
                                try clear q2
                                try clear hx2
                                try clear hf2
                                try clear c3
                                try clear c3b0
                                try clear c3b1
                                try clear c4
                                try clear c4b0
                                try clear c4b1
                                try clear p4
                                try clear q4
                                try clear hx4
                                try clear hf4
                                try clear c5
                                try clear q5
                                try clear p6
                                try clear c10
                                try clear c10b0
                                try clear c11
                                try clear c11b0
                                try clear c11b1
                                try clear c12
                                try clear c12b0
                                try clear c12b1
                                try clear c13
                                try clear c13b0
                                try clear c14
                                try clear c14b0
                                try clear c15
                                try clear p15
                                try clear q15
                                try clear hx15
                                try clear hf15
                                try clear c18
                                try clear p18
                                try clear q18
                                try clear hx18
                                try clear c19
                                try clear p19
                                try clear q19
                                try clear hx19
                                try clear hf19
                                try clear c21
                                try clear c21b0
                                try clear c22
                                try clear c22b0
                                try clear c23
                                try clear c23b0
                                try clear c24
                                try clear c24b0
                                try clear c25
                                try clear c25b0
                                try clear p26
                                try clear q26
                                try clear hx26
                                try clear hf26
                                try clear c27
                                try clear q27
                                try clear c28
                                try clear c29
                                try clear c30
                                try clear c30b0
                                try clear c31
                                try clear c31b0
                                try clear c32
                                try clear c32b0
                                try clear c33
                                try clear c33b0
                                try clear c33b1
                                try clear c35
                                try clear c37
                                try clear c37b0
                                try clear c38
                                try clear c38b0
                                try clear c39
                                try clear c39b0
                                try clear c40
                                try clear c40b0
                                try clear p43
                                try clear q43
                                try clear hx43
                                try clear hf43
                                try clear c45
                                try clear c51
                                try clear q51
                                try clear c53
                                try clear c53b0
                                try clear c54
                                try clear c54b0
                                try clear hcz16_0
                                try clear hcz16_1
                                try clear hcz16_2
                                try clear hcz29_0
                                try clear hcz29_1
                                try clear hcz29_2
                                try clear hcz36_0
                                try clear hcz36_1
                                try clear hcz36_2
                                try clear hcz36_3
                                try clear hcz36_4
                                try clear hcz36_5
                                try clear hcz46_0
                                try clear hcz46_1
                                try clear hcz46_2
                                try clear hcz46_3
                                try clear hcz46_4
                                try clear hcz46_5
                                try clear hcz6_0
                                try clear hcz6_1
                                try clear hcz6_2
                                try clear hfz16_0
                                try clear hfz16_1
                                try clear hfz16_2
                                try clear hfz29_0
                                try clear hfz29_1
                                try clear hfz29_2
                                try clear hfz36_0
                                try clear hfz36_1
                                try clear hfz36_2
                                try clear hfz36_3
                                try clear hfz36_4
                                try clear hfz36_5
                                try clear hfz46_0
                                try clear hfz46_1
                                try clear hfz46_2
                                try clear hfz46_3
                                try clear hfz46_4
                                try clear hfz46_5
                                try clear hfz6_0
                                try clear hfz6_1
                                try clear hfz6_2
                                try clear hx15_0
                                try clear hx186_0
                                try clear hx187_0
                                try clear hx191_0
                                try clear hx191_1
                                try clear hx191_2
                                try clear hx191_3
                                try clear hx191_4
                                try clear hx191_5
                                try clear hx193_0
                                try clear hx194_0
                                try clear hx195_0
                                try clear hx19_0
                                try clear hx26_0
                                try clear hx43_0
                                try clear p1
                                try clear p15
                                try clear p18
                                try clear p186
                                try clear p187
                                try clear p19
                                try clear p191
                                try clear p193
                                try clear p194
                                try clear p195
                                try clear p2
                                try clear p26
                                try clear p4
                                try clear p43
                                try clear p6
                                try clear q1
                                try clear q15
                                try clear q18
                                try clear q186
                                try clear q187
                                try clear q19
                                try clear q191
                                try clear q193
                                try clear q194
                                try clear q195
                                try clear q2
                                try clear q26
                                try clear q27
                                try clear q4
                                try clear q43
                                try clear q5
                                try clear q51
                                obtain ⟨x5_5, x90_5, rfl, HA, HK5, HO_5, BK178, HB⟩ := hrel
                                have hl5_5 := (Kd.S_reads' HO_5.out).1
                                rw [hl5_5] at HO_5
                                (try simp only [hl5_5])
                                (try simp only [hl5_5] at BK178)
                                cases gk with
                                | zero => exact absurd HA.out (by simp [robust_distances.l5])
                                | succ k5 =>
                                  have H := HA.out
                                  clear HA
                                  simp only [robust_distances.l5] at H
                                  by_cases c55 : x90_5 < (x5_4.length : Int)
                                  · rw [if_pos c55] at H
                                    have c55b0 : decide (x90_5 < (x5_4.length : Int)) = true := decide_eq_true c55
                                    (try simp only [hl5_5] at c55b0)
                                    clear c55
                                    by_cases c56 : 0 ≤ x85_4
                                    · rw [if_pos c56] at H
                                      have c56b0 : decide (0 ≤ x85_4) = true := decide_eq_true c56
                                      clear c56
                                      by_cases c57 : x85_4 < (x5_5.length : Int)
                                      · rw [if_pos c57] at H
                                        have c57b0 : decide (x85_4 < (x5_5.length : Int)) = true := decide_eq_true c57
                                        clear c57
                                        by_cases c58 : 0 ≤ x80_3
                                        · rw [if_pos c58] at H
                                          have c58b0 : decide (0 ≤ x80_3) = true := decide_eq_true c58
                                          clear c58
                                          by_cases c59 : x80_3 < ((rd_L7 x5_5 x85_4).length : Int)
                                          · rw [if_pos c59] at H
                                            have c59b0 : decide (x80_3 < ((rd_L7 x5_5 x85_4).length : Int)) = true := decide_eq_true c59
                                            clear c59
                                            by_cases c60 : (rd (rd_L7 x5_5 x85_4) x80_3) = (-1)
                                            · rw [if_pos c60] at H
                                              have c60b0 : ((rd (rd_L7 x5_5 x85_4) x80_3) == (-1)) = true := beq_iff_eq.mpr c60
                                              have c60b1 : ((rd (rd_L7 x5_5 x85_4) x80_3) != (-1)) = false := bne_eq_false_iff_eq.mpr c60
                                              clear c60
                                              have H' := Aside0.mk H
                                              clear H
                                              have p201 : 0 ≤ (x85_4 : Int) := of_decide_eq_true (by first | (with_reducible assumption) | assumption)
                                              have q201 : x85_4 < (x5_5.length : Int) := of_decide_eq_true (by first | (with_reducible assumption) | assumption)
                                              obtain ⟨ad201, A201_0, c201_0, e201, hx201_0, hl201_0, hi201_0⟩ := at_L7 (Kd.S_reads' HO_5.out).2.2 x85_4 p201 q201
                                              cases e201
                                              obtain ⟨ce201, hce201, hMe201, hcc201⟩ := Kd.S_get HO_5.out [] x85_4 p201 (by first | exact q201 | exact of_decide_eq_true (by first | (with_reducible assumption) | assumption) | (have e_ := (Kd.S_reads' HO_5.out).1; omega))
                                              obtain ⟨ve201_0, rfl, ge201_0⟩ := hMe201
                                              have hv201_0 := hcc201 0 _ rfl
                                              rw [Nat.add_zero, show ((Kd.slice 3 (Kd.int .i64))).sz = 1 from rfl, Nat.mul_one] at hv201_0
                                              replace hv201_0 := Option.some.inj (hv201_0.symm.trans hx201_0)
                                              rw [hv201_0] at ge201_0
                                              have HL201_0 := Aside0.mk (show Kd.R (Kd.int .i64) 3 _ _ _ _ (rd_L7 x5_5 x85_4) from ge201_0)
                                              clear hv201_0 ge201_0
                                              have HX201_0 := Aside0.mk hx201_0
                                              clear hcc201 hce201
                                              have HR201_0 := Aside0.mk hi201_0
                                              have HC201_0 := Aside0.mk hl201_0
                                              clear hi201_0 hl201_0
                                              replace p201 := eq_true p201
                                              replace q201 := eq_true q201
                                              have p202 : 0 ≤ (x80_3 : Int) := of_decide_eq_true (by first | (with_reducible assumption) | assumption)
                                              have q202 : x80_3 < ((rd_L7 x5_5 x85_4).length : Int) := of_decide_eq_true (by first | (with_reducible assumption) | assumption)
                                              obtain ⟨ad202, e202, hx202_0⟩ := Kd.at_int (by repeat (first | (with_reducible exact HR201_0.out) | (with_reducible refine Kd.C_alloc ?_ _) | (with_reducible refine Kd.C_drewN ?_ _) | (with_reducible refine Kd.C_drew ?_) | exact HR201_0.out)) x80_3 p202 q202
                                              cases e202
                                              replace p202 := eq_true p202
                                              replace q202 := eq_true q202
                                              go_wp2
                                              (try simp only [← hl5_5])
                                              go_roundg k5
                                              case measure => have := HK1.out; have := HK2.out; have := HK3.out; have := HK4.out; have := HK5.out; omega
                                              case rel => exact ⟨(x5_5), (wrap64 (x90_5 + 1)), (by first | rfl | (simp; done) | (simp [*]; done)), H', ⟨by have := HK1.out; have := HK2.out; have := HK3.out; have := HK4.out; have := HK5.out; omega⟩, ⟨by (try simp only [hl5_1]); (try simp only [hl5_2]); (try simp only [hl5_3]); (try simp only [hl5_4]); (try simp only [hl5_5]); (with_reducible repeat (first | apply Kd.S_alloc | apply Kd.S_drewN | apply Kd.S_drew)); exact HO_5.out⟩, ⟨by (try simp only [hl5_1]); (try simp only [hl5_2]); (try simp only [hl5_3]); (try simp only [hl5_4]); (try simp only [hl5_5]); (with_reducible repeat (first | refine blk_drewN ?_ _ | refine blk_drew ?_ | refine blk_alloc ?_ _)); exact BK178.out⟩, ⟨by repeat (first | (with_reducible first | exact HB.out | apply below_alloc | apply pw_below_drewN | apply below_drew1 | refine below_set ?_ GE178.out) | exact HB.out)⟩⟩
                                            · rw [if_neg c60] at H
                                              have c60b0 : ((rd (rd_L7 x5_5 x85_4) x80_3) == (-1)) = false := beq_eq_false_iff_ne.mpr c60
                                              have c60b1 : ((rd (rd_L7 x5_5 x85_4) x80_3) != (-1)) = true := bne_iff_ne.mpr c60
                                              by_cases c61 : x80_3 < (x5_5.length : Int)
                                              · rw [if_pos c61] at H
                                                have c61b0 : decide (x80_3 < (x5_5.length : Int)) = true := decide_eq_true c61
                                                clear c61
                                                by_cases c62 : 0 ≤ x90_5
                                                · rw [if_pos c62] at H
                                                  have c62b0 : decide (0 ≤ x90_5) = true := decide_eq_true c62
                                                  clear c62
                                                  by_cases c63 : x90_5 < ((rd_L7 x5_5 x80_3).length : Int)
                                                  · rw [if_pos c63] at H
                                                    have c63b0 : decide (x90_5 < ((rd_L7 x5_5 x80_3).length : Int)) = true := decide_eq_true c63
                                                    clear c63
                                                    by_cases c64 : (rd (rd_L7 x5_5 x80_3) x90_5) = (-1)
                                                    · rw [if_pos c64] at H
                                                      have c64b0 : ((rd (rd_L7 x5_5 x80_3) x90_5) == (-1)) = true := beq_iff_eq.mpr c64
                                                      have c64b1 : ((rd (rd_L7 x5_5 x80_3) x90_5) != (-1)) = false := bne_eq_false_iff_eq.mpr c64
                                                      clear c64
                                                      have H' := Aside0.mk H
                                                      clear H
                                                      have p201 : 0 ≤ (x85_4 : Int) := of_decide_eq_true (by first | (with_reducible assumption) | assumption)
                                                      have q201 : x85_4 < (x5_5.length : Int) := of_decide_eq_true (by first | (with_reducible assumption) | assumption)
                                                      obtain ⟨ad201, A201_0, c201_0, e201, hx201_0, hl201_0, hi201_0⟩ := at_L7 (Kd.S_reads' HO_5.out).2.2 x85_4 p201 q201
                                                      cases e201
                                                      obtain ⟨ce201, hce201, hMe201, hcc201⟩ := Kd.S_get HO_5.out [] x85_4 p201 (by first | exact q201 | exact of_decide_eq_true (by first | (with_reducible assumption) | assumption) | (have e_ := (Kd.S_reads' HO_5.out).1; omega))
                                                      obtain ⟨ve201_0, rfl, ge201_0⟩ := hMe201
                                                      have hv201_0 := hcc201 0 _ rfl
                                                      rw [Nat.add_zero, show ((Kd.slice 3 (Kd.int .i64))).sz = 1 from rfl, Nat.mul_one] at hv201_0
                                                      replace hv201_0 := Option.some.inj (hv201_0.symm.trans hx201_0)
                                                      rw [hv201_0] at ge201_0
                                                      have HL201_0 := Aside0.mk (show Kd.R (Kd.int .i64) 3 _ _ _ _ (rd_L7 x5_5 x85_4) from ge201_0)
                                                      clear hv201_0 ge201_0
                                                      have HX201_0 := Aside0.mk hx201_0
                                                      clear hcc201 hce201
                                                      have HR201_0 := Aside0.mk hi201_0
                                                      have HC201_0 := Aside0.mk hl201_0
                                                      clear hi201_0 hl201_0
                                                      replace p201 := eq_true p201
                                                      replace q201 := eq_true q201
                                                      have p202 : 0 ≤ (x80_3 : Int) := of_decide_eq_true (by first | (with_reducible assumption) | assumption)
                                                      have q202 : x80_3 < ((rd_L7 x5_5 x85_4).length : Int) := of_decide_eq_true (by first | (with_reducible assumption) | assumption)
                                                      obtain ⟨ad202, e202, hx202_0⟩ := Kd.at_int (by repeat (first | (with_reducible exact HR201_0.out) | (with_reducible refine Kd.C_alloc ?_ _) | (with_reducible refine Kd.C_drewN ?_ _) | (with_reducible refine Kd.C_drew ?_) | exact HR201_0.out)) x80_3 p202 q202
                                                      cases e202
                                                      replace p202 := eq_true p202
                                                      replace q202 := eq_true q202
                                                      have p203 : 0 ≤ (x80_3 : Int) := of_decide_eq_true (by first | (with_reducible assumption) | assumption)
                                                      have q203 : x80_3 < (x5_5.length : Int) := of_decide_eq_true (by first | (with_reducible assumption) | assumption)
                                                      obtain ⟨ad203, A203_0, c203_0, e203, hx203_0, hl203_0, hi203_0⟩ := at_L7 (Kd.S_reads' HO_5.out).2.2 x80_3 p203 q203
                                                      obtain rfl : ad201 = ad203 := (by injection e203)
                                                      obtain ⟨ce203, hce203, hMe203, hcc203⟩ := Kd.S_get HO_5.out [] x80_3 p203 (by first | exact q203 | exact of_decide_eq_true (by first | (with_reducible assumption) | assumption) | (have e_ := (Kd.S_reads' HO_5.out).1; omega))
                                                      obtain ⟨ve203_0, rfl, ge203_0⟩ := hMe203
                                                      have hv203_0 := hcc203 0 _ rfl
                                                      rw [Nat.add_zero, show ((Kd.slice 3 (Kd.int .i64))).sz = 1 from rfl, Nat.mul_one] at hv203_0
                                                      replace hv203_0 := Option.some.inj (hv203_0.symm.trans hx203_0)
                                                      rw [hv203_0] at ge203_0
                                                      have HL203_0 := Aside0.mk (show Kd.R (Kd.int .i64) 3 _ _ _ _ (rd_L7 x5_5 x80_3) from ge203_0)
                                                      clear hv203_0 ge203_0
                                                      have HX203_0 := Aside0.mk hx203_0
                                                      clear hcc203 hce203
                                                      have HR203_0 := Aside0.mk hi203_0
                                                      have HC203_0 := Aside0.mk hl203_0
                                                      clear hi203_0 hl203_0
                                                      replace p203 := eq_true p203
                                                      replace q203 := eq_true q203
                                                      have p204 : 0 ≤ (x90_5 : Int) := of_decide_eq_true (by first | (with_reducible assumption) | assumption)
                                                      have q204 : x90_5 < ((rd_L7 x5_5 x80_3).length : Int) := of_decide_eq_true (by first | (with_reducible assumption) | assumption)
                                                      obtain ⟨ad204, e204, hx204_0⟩ := Kd.at_int (by repeat (first | (with_reducible exact HR203_0.out) | (with_reducible refine Kd.C_alloc ?_ _) | (with_reducible refine Kd.C_drewN ?_ _) | (with_reducible refine Kd.C_drew ?_) | exact HR203_0.out)) x90_5 p204 q204
                                                      cases e204
                                                      replace p204 := eq_true p204
                                                      replace q204 := eq_true q204
                                                      go_wp2
                                                      (try simp only [← hl5_5])
                                                      go_roundg k5
                                                      case measure => have := HK1.out; have := HK2.out; have := HK3.out; have := HK4.out; have := HK5.out; omega
                                                      case rel => exact ⟨(x5_5), (wrap64 (x90_5 + 1)), (by first | rfl | (simp; done) | (simp [*]; done)), H', ⟨by have := HK1.out; have := HK2.out; have := HK3.out; have := HK4.out; have := HK5.out; omega⟩, ⟨by (try simp only [hl5_1]); (try simp only [hl5_2]); (try simp only [hl5_3]); (try simp only [hl5_4]); (try simp only [hl5_5]); (with_reducible repeat (first | apply Kd.S_alloc | apply Kd.S_drewN | apply Kd.S_drew)); exact HO_5.out⟩, ⟨by (try simp only [hl5_1]); (try simp only [hl5_2]); (try simp only [hl5_3]); (try simp only [hl5_4]); (try simp only [hl5_5]); (with_reducible repeat (first | refine blk_drewN ?_ _ | refine blk_drew ?_ | refine blk_alloc ?_ _)); exact BK178.out⟩, ⟨by repeat (first | (with_reducible first | exact HB.out | apply below_alloc | apply pw_below_drewN | apply below_drew1 | refine below_set ?_ GE178.out) | exact HB.out)⟩⟩
                                                    · rw [if_neg c64] at H
                                                      have c64b0 : ((rd (rd_L7 x5_5 x80_3) x90_5) == (-1)) = false := beq_eq_false_iff_ne.mpr c64
                                                      have c64b1 : ((rd (rd_L7 x5_5 x80_3) x90_5) != (-1)) = true := bne_iff_ne.mpr c64
                                                      by_cases c65 : x90_5 < ((rd_L7 x5_5 x85_4).length : Int)
                                                      · rw [if_pos c65] at H
                                                        have c65b0 : decide (x90_5 < ((rd_L7 x5_5 x85_4).length : Int)) = true := decide_eq_true c65
                                                        clear c65
                                                        replace H := Option.bind_eq_some_iff.mp H
                                                        obtain ⟨t212, A660, H⟩ := H
                                                        replace H : (robust_distances.l5 k5 (x5_5.set (x85_4 : Int).toNat ((rd_L7 x5_5 x85_4).set (x90_5 : Int).toNat t212)) x80_3 x85_4 (x5_2.length : Int) x80_3 (x5_3.length : Int) x85_4 (x5_4.length : Int) (wrap64 (x90_5 + 1))) = some r := H
                                                        have A66 := Aside0.mk A660
                                                        clear A660
                                                        obtain ⟨y213, hy213⟩ : ∃ y_ : List Int, y_ = ((rd_L7 x5_5 x85_4).set (x90_5 : Int).toNat t212) := ⟨_, rfl⟩
                                                        replace H : (robust_distances.l5 k5 (x5_5.set (x85_4 : Int).toNat y213) x80_3 x85_4 (x5_2.length : Int) x80_3 (x5_3.length : Int) x85_4 (x5_4.length : Int) (wrap64 (x90_5 + 1))) = some r := by first | (rw [hy213]; with_reducible exact H) | (have H2_ := (Option.bind_some _ _).symm.trans H; rw [hy213]; with_reducible exact H2_) | (have H2_ := (Option.bind_some _ _).symm.trans H; with_reducible exact H2_) | with_reducible exact H | (rw [hy213]; exact H) | exact H
                                                        have Ny213 := Aside0.mk hy213
                                                        clear hy213
                                                        obtain ⟨y215, hy215⟩ : ∃ y_ : List (List Int), y_ = (x5_5.set (x85_4 : Int).toNat y213) := ⟨_, rfl⟩
                                                        replace H : (robust_distances.l5 k5 y215 x80_3 x85_4 (x5_2.length : Int) x80_3 (x5_3.length : Int) x85_4 (x5_4.length : Int) (wrap64 (x90_5 + 1))) = some r := by first | (rw [hy215]; with_reducible exact H) | (have H2_ := (Option.bind_some _ _).symm.trans H; rw [hy215]; with_reducible exact H2_) | (have H2_ := (Option.bind_some _ _).symm.trans H; with_reducible exact H2_) | with_reducible exact H | (rw [hy215]; exact H) | exact H
                                                        have Ny215 := Aside0.mk hy215
                                                        clear hy215
                                                        have H' := Aside0.mk H
                                                        clear H
                                                        have p201 : 0 ≤ (x85_4 : Int) := of_decide_eq_true (by first | (with_reducible assumption) | assumption)
                                                        have q201 : x85_4 < (x5_5.length : Int) := of_decide_eq_true (by first | (with_reducible assumption) | assumption)
                                                        obtain ⟨ad201, A201_0, c201_0, e201, hx201_0, hl201_0, hi201_0⟩ := at_L7 (Kd.S_reads' HO_5.out).2.2 x85_4 p201 q201
                                                        cases e201
                                                        obtain ⟨ce201, hce201, hMe201, hcc201⟩ := Kd.S_get HO_5.out [] x85_4 p201 (by first | exact q201 | exact of_decide_eq_true (by first | (with_reducible assumption) | assumption) | (have e_ := (Kd.S_reads' HO_5.out).1; omega))
                                                        obtain ⟨ve201_0, rfl, ge201_0⟩ := hMe201
                                                        have hv201_0 := hcc201 0 _ rfl
                                                        rw [Nat.add_zero, show ((Kd.slice 3 (Kd.int .i64))).sz = 1 from rfl, Nat.mul_one] at hv201_0
                                                        replace hv201_0 := Option.some.inj (hv201_0.symm.trans hx201_0)
                                                        rw [hv201_0] at ge201_0
                                                        have HL201_0 := Aside0.mk (show Kd.R (Kd.int .i64) 3 _ _ _ _ (rd_L7 x5_5 x85_4) from ge201_0)
                                                        clear hv201_0 ge201_0
                                                        have HX201_0 := Aside0.mk hx201_0
                                                        clear hcc201 hce201
                                                        have HR201_0 := Aside0.mk hi201_0
                                                        have HC201_0 := Aside0.mk hl201_0
                                                        clear hi201_0 hl201_0
                                                        replace p201 := eq_true p201
                                                        replace q201 := eq_true q201
                                                        have p202 : 0 ≤ (x80_3 : Int) := of_decide_eq_true (by first | (with_reducible assumption) | assumption)
                                                        have q202 : x80_3 < ((rd_L7 x5_5 x85_4).length : Int) := of_decide_eq_true (by first | (with_reducible assumption) | assumption)
                                                        obtain ⟨ad202, e202, hx202_0⟩ := Kd.at_int (by repeat (first | (with_reducible exact HR201_0.out) | (with_reducible refine Kd.C_alloc ?_ _) | (with_reducible refine Kd.C_drewN ?_ _) | (with_reducible refine Kd.C_drew ?_) | exact HR201_0.out)) x80_3 p202 q202
                                                        cases e202
                                                        replace p202 := eq_true p202
                                                        replace q202 := eq_true q202
                                                        have p203 : 0 ≤ (x80_3 : Int) := of_decide_eq_true (by first | (with_reducible assumption) | assumption)
                                                        have q203 : x80_3 < (x5_5.length : Int) := of_decide_eq_true (by first | (with_reducible assumption) | assumption)
                                                        obtain ⟨ad203, A203_0, c203_0, e203, hx203_0, hl203_0, hi203_0⟩ := at_L7 (Kd.S_reads' HO_5.out).2.2 x80_3 p203 q203
                                                        obtain rfl : ad201 = ad203 := (by injection e203)
                                                        obtain ⟨ce203, hce203, hMe203, hcc203⟩ := Kd.S_get HO_5.out [] x80_3 p203 (by first | exact q203 | exact of_decide_eq_true (by first | (with_reducible assumption) | assumption) | (have e_ := (Kd.S_reads' HO_5.out).1; omega))
                                                        obtain ⟨ve203_0, rfl, ge203_0⟩ := hMe203
                                                        have hv203_0 := hcc203 0 _ rfl
                                                        rw [Nat.add_zero, show ((Kd.slice 3 (Kd.int .i64))).sz = 1 from rfl, Nat.mul_one] at hv203_0
                                                        replace hv203_0 := Option.some.inj (hv203_0.symm.trans hx203_0)
                                                        rw [hv203_0] at ge203_0
                                                        have HL203_0 := Aside0.mk (show Kd.R (Kd.int .i64) 3 _ _ _ _ (rd_L7 x5_5 x80_3) from ge203_0)
                                                        clear hv203_0 ge203_0
                                                        have HX203_0 := Aside0.mk hx203_0
                                                        clear hcc203 hce203
                                                        have HR203_0 := Aside0.mk hi203_0
                                                        have HC203_0 := Aside0.mk hl203_0
                                                        clear hi203_0 hl203_0
                                                        replace p203 := eq_true p203
                                                        replace q203 := eq_true q203
                                                        have p204 : 0 ≤ (x90_5 : Int) := of_decide_eq_true (by first | (with_reducible assumption) | assumption)
                                                        have q204 : x90_5 < ((rd_L7 x5_5 x80_3).length : Int) := of_decide_eq_true (by first | (with_reducible assumption) | assumption)
                                                        obtain ⟨ad204, e204, hx204_0⟩ := Kd.at_int (by repeat (first | (with_reducible exact HR203_0.out) | (with_reducible refine Kd.C_alloc ?_ _) | (with_reducible refine Kd.C_drewN ?_ _) | (with_reducible refine Kd.C_drew ?_) | exact HR203_0.out)) x90_5 p204 q204
                                                        cases e204
                                                        replace p204 := eq_true p204
                                                        replace q204 := eq_true q204
                                                        try go_wp2
                                                        have n0_ := Aside0.mk (Kd.S_drew HO_5.out)
                                                        have n1_ := Aside0.mk (Kd.R_drew HL201_0.out)
                                                        have n2_ := Aside0.mk (Kd.R_drew HL203_0.out)
                                                        have n3_ := Aside0.mk (blk_drew BK178.out)
                                                        have n4_ := Aside0.mk (Kd.C_drew HR201_0.out)
                                                        have n5_ := Aside0.mk (Kd.C_drew HR203_0.out)
                                                        have n6_ := Aside0.mk (below_drew1 HB.out)
                                                        clear HO_5
                                                        clear HL201_0
                                                        clear HL203_0
                                                        clear BK178
                                                        clear HR201_0
                                                        clear HR203_0
                                                        clear HB
                                                        have HO_5 := n0_
                                                        have HL201_0 := n1_
                                                        have HL203_0 := n2_
                                                        have BK178 := n3_
                                                        have HR201_0 := n4_
                                                        have HR203_0 := n5_
                                                        have HB := n6_
                                                        clear n0_ n1_ n2_ n3_ n4_ n5_ n6_
                                                        have p205 : 0 ≤ (x85_4 : Int) := of_decide_eq_true (by first | (with_reducible assumption) | assumption)
                                                        have q205 : x85_4 < (x5_5.length : Int) := of_decide_eq_true (by first | (with_reducible assumption) | assumption)
                                                        obtain ⟨ad205, A205_0, c205_0, e205, hx205_0, hl205_0, hi205_0⟩ := at_L7 (Kd.S_reads' HO_5.out).2.2 x85_4 p205 q205
                                                        obtain rfl : ad201 = ad205 := (by injection e205)
                                                        obtain ⟨ce205, hce205, hMe205, hcc205⟩ := Kd.S_get HO_5.out [] x85_4 p205 (by first | exact q205 | exact of_decide_eq_true (by first | (with_reducible assumption) | assumption) | (have e_ := (Kd.S_reads' HO_5.out).1; omega))
                                                        obtain ⟨ve205_0, rfl, ge205_0⟩ := hMe205
                                                        have hv205_0 := hcc205 0 _ rfl
                                                        rw [Nat.add_zero, show ((Kd.slice 3 (Kd.int .i64))).sz = 1 from rfl, Nat.mul_one] at hv205_0
                                                        replace hv205_0 := Option.some.inj (hv205_0.symm.trans hx205_0)
                                                        rw [hv205_0] at ge205_0
                                                        have HL205_0 := Aside0.mk (show Kd.R (Kd.int .i64) 3 _ _ _ _ (rd_L7 x5_5 x85_4) from ge205_0)
                                                        clear hv205_0 ge205_0
                                                        have HX205_0 := Aside0.mk hx205_0
                                                        clear hcc205 hce205
                                                        have HR205_0 := Aside0.mk hi205_0
                                                        have HC205_0 := Aside0.mk hl205_0
                                                        clear hi205_0 hl205_0
                                                        replace p205 := eq_true p205
                                                        replace q205 := eq_true q205
                                                        have p206 : 0 ≤ (x85_4 : Int) := of_decide_eq_true (by first | (with_reducible assumption) | assumption)
                                                        have q206 : x85_4 < (x5_5.length : Int) := of_decide_eq_true (by first | (with_reducible assumption) | assumption)
                                                        obtain ⟨ad206, A206_0, c206_0, e206, hx206_0, hl206_0, hi206_0⟩ := at_L7 (Kd.S_reads' HO_5.out).2.2 x85_4 p206 q206
                                                        obtain rfl : ad201 = ad206 := (by injection e206)
                                                        obtain ⟨ce206, hce206, hMe206, hcc206⟩ := Kd.S_get HO_5.out [] x85_4 p206 (by first | exact q206 | exact of_decide_eq_true (by first | (with_reducible assumption) | assumption) | (have e_ := (Kd.S_reads' HO_5.out).1; omega))
                                                        obtain ⟨ve206_0, rfl, ge206_0⟩ := hMe206
                                                        have hv206_0 := hcc206 0 _ rfl
                                                        rw [Nat.add_zero, show ((Kd.slice 3 (Kd.int .i64))).sz = 1 from rfl, Nat.mul_one] at hv206_0
                                                        replace hv206_0 := Option.some.inj (hv206_0.symm.trans hx206_0)
                                                        rw [hv206_0] at ge206_0
                                                        have HL206_0 := Aside0.mk (show Kd.R (Kd.int .i64) 3 _ _ _ _ (rd_L7 x5_5 x85_4) from ge206_0)
                                                        clear hv206_0 ge206_0
                                                        have HX206_0 := Aside0.mk hx206_0
                                                        clear hcc206 hce206
                                                        have HR206_0 := Aside0.mk hi206_0
                                                        have HC206_0 := Aside0.mk hl206_0
                                                        clear hi206_0 hl206_0
                                                        replace p206 := eq_true p206
                                                        replace q206 := eq_true q206
                                                        have ea_ := Option.some.inj (hx205_0.symm.trans hx206_0)
                                                        injection ea_ with ea_ en_ ec_
                                                        subst ea_
                                                        subst ec_
                                                        clear en_
                                                        have p207 : 0 ≤ (x90_5 : Int) := of_decide_eq_true (by first | (with_reducible assumption) | assumption)
                                                        have q207 : x90_5 < ((rd_L7 x5_5 x85_4).length : Int) := of_decide_eq_true (by first | (with_reducible assumption) | assumption)
                                                        obtain ⟨ad207, e207, hx207_0⟩ := Kd.at_int (by repeat (first | (with_reducible exact HR206_0.out) | (with_reducible refine Kd.C_alloc ?_ _) | (with_reducible refine Kd.C_drewN ?_ _) | (with_reducible refine Kd.C_drew ?_) | exact HR206_0.out)) x90_5 p207 q207
                                                        cases e207
                                                        replace p207 := eq_true p207
                                                        replace q207 := eq_true q207
                                                        have p208 : 0 ≤ (x85_4 : Int) := of_decide_eq_true (by first | (with_reducible assumption) | assumption)
                                                        have q208 : x85_4 < (x5_5.length : Int) := of_decide_eq_true (by first | (with_reducible assumption) | assumption)
                                                        obtain ⟨ad208, A208_0, c208_0, e208, hx208_0, hl208_0, hi208_0⟩ := at_L7 (Kd.S_reads' HO_5.out).2.2 x85_4 p208 q208
                                                        obtain rfl : ad201 = ad208 := (by injection e208)
                                                        obtain ⟨ce208, hce208, hMe208, hcc208⟩ := Kd.S_get HO_5.out [] x85_4 p208 (by first | exact q208 | exact of_decide_eq_true (by first | (with_reducible assumption) | assumption) | (have e_ := (Kd.S_reads' HO_5.out).1; omega))
                                                        obtain ⟨ve208_0, rfl, ge208_0⟩ := hMe208
                                                        have hv208_0 := hcc208 0 _ rfl
                                                        rw [Nat.add_zero, show ((Kd.slice 3 (Kd.int .i64))).sz = 1 from rfl, Nat.mul_one] at hv208_0
                                                        replace hv208_0 := Option.some.inj (hv208_0.symm.trans hx208_0)
                                                        rw [hv208_0] at ge208_0
                                                        have HL208_0 := Aside0.mk (show Kd.R (Kd.int .i64) 3 _ _ _ _ (rd_L7 x5_5 x85_4) from ge208_0)
                                                        clear hv208_0 ge208_0
                                                        have HX208_0 := Aside0.mk hx208_0
                                                        clear hcc208 hce208
                                                        have HR208_0 := Aside0.mk hi208_0
                                                        have HC208_0 := Aside0.mk hl208_0
                                                        clear hi208_0 hl208_0
                                                        replace p208 := eq_true p208
                                                        replace q208 := eq_true q208
                                                        have ea_ := Option.some.inj (hx205_0.symm.trans hx208_0)
                                                        injection ea_ with ea_ en_ ec_
                                                        subst ea_
                                                        subst ec_
                                                        clear en_
                                                        have p209 : 0 ≤ (x80_3 : Int) := of_decide_eq_true (by first | (with_reducible assumption) | assumption)
                                                        have q209 : x80_3 < ((rd_L7 x5_5 x85_4).length : Int) := of_decide_eq_true (by first | (with_reducible assumption) | assumption)
                                                        obtain ⟨ad209, e209, hx209_0⟩ := Kd.at_int (by repeat (first | (with_reducible exact HR208_0.out) | (with_reducible refine Kd.C_alloc ?_ _) | (with_reducible refine Kd.C_drewN ?_ _) | (with_reducible refine Kd.C_drew ?_) | exact HR208_0.out)) x80_3 p209 q209
                                                        cases e209
                                                        replace p209 := eq_true p209
                                                        replace q209 := eq_true q209
                                                        have p210 : 0 ≤ (x80_3 : Int) := of_decide_eq_true (by first | (with_reducible assumption) | assumption)
                                                        have q210 : x80_3 < (x5_5.length : Int) := of_decide_eq_true (by first | (with_reducible assumption) | assumption)
                                                        obtain ⟨ad210, A210_0, c210_0, e210, hx210_0, hl210_0, hi210_0⟩ := at_L7 (Kd.S_reads' HO_5.out).2.2 x80_3 p210 q210
                                                        obtain rfl : ad201 = ad210 := (by injection e210)
                                                        obtain ⟨ce210, hce210, hMe210, hcc210⟩ := Kd.S_get HO_5.out [] x80_3 p210 (by first | exact q210 | exact of_decide_eq_true (by first | (with_reducible assumption) | assumption) | (have e_ := (Kd.S_reads' HO_5.out).1; omega))
                                                        obtain ⟨ve210_0, rfl, ge210_0⟩ := hMe210
                                                        have hv210_0 := hcc210 0 _ rfl
                                                        rw [Nat.add_zero, show ((Kd.slice 3 (Kd.int .i64))).sz = 1 from rfl, Nat.mul_one] at hv210_0
                                                        replace hv210_0 := Option.some.inj (hv210_0.symm.trans hx210_0)
                                                        rw [hv210_0] at ge210_0
                                                        have HL210_0 := Aside0.mk (show Kd.R (Kd.int .i64) 3 _ _ _ _ (rd_L7 x5_5 x80_3) from ge210_0)
                                                        clear hv210_0 ge210_0
                                                        have HX210_0 := Aside0.mk hx210_0
                                                        clear hcc210 hce210
                                                        have HR210_0 := Aside0.mk hi210_0
                                                        have HC210_0 := Aside0.mk hl210_0
                                                        clear hi210_0 hl210_0
                                                        replace p210 := eq_true p210
                                                        replace q210 := eq_true q210
                                                        have p211 : 0 ≤ (x90_5 : Int) := of_decide_eq_true (by first | (with_reducible assumption) | assumption)
                                                        have q211 : x90_5 < ((rd_L7 x5_5 x80_3).length : Int) := of_decide_eq_true (by first | (with_reducible assumption) | assumption)
                                                        obtain ⟨ad211, e211, hx211_0⟩ := Kd.at_int (by repeat (first | (with_reducible exact HR210_0.out) | (with_reducible refine Kd.C_alloc ?_ _) | (with_reducible refine Kd.C_drewN ?_ _) | (with_reducible refine Kd.C_drew ?_) | exact HR210_0.out)) x90_5 p211 q211
                                                        cases e211
                                                        replace p211 := eq_true p211
                                                        replace q211 := eq_true q211
                                                        refine start_ (n := 30) (S := fun w' => w'.cell? (ad201.add (x85_4).toNat) = some (.slice (some ad207) (rd_L7 x5_5 x85_4).length c205_0) ∧ w'.cell? (ad201.add (x85_4).toNat) = some (.slice (some ad207) (rd_L7 x5_5 x85_4).length c205_0) ∧ w'.cell? (ad207.add (x90_5).toNat) = some (.int .i64 (rd (rd_L7 x5_5 x85_4) x90_5)) ∧ w'.cell? (ad201.add (x85_4).toNat) = some (.slice (some ad207) (rd_L7 x5_5 x85_4).length c205_0) ∧ w'.cell? (ad207.add (x80_3).toNat) = some (.int .i64 (rd (rd_L7 x5_5 x85_4) x80_3)) ∧ w'.cell? (ad201.add (x80_3).toNat) = some (.slice (some ad211) (rd_L7 x5_5 x80_3).length c210_0) ∧ w'.cell? (ad211.add (x90_5).toNat) = some (.int .i64 (rd (rd_L7 x5_5 x80_3) x90_5))) (ds := [29]) #[false, false, false, false, false, false, false, false, false, false, false, false, false, false, false, false, false, false, false, false, false, false, false, false, false, false, false, false, false, false] (by kernel_rfl) rfl rfl ⟨hx205_0, hx206_0, hx207_0, hx208_0, hx209_0, hx210_0, hx211_0⟩ (fun hHeld => ?_); refine with_tabW robust_distances.tab28 robust_distances.bits28 (fun HT_ HW_ => ?_)
                                                        generalize wr.drew = w68 at HO_5 HL201_0 HL203_0 BK178 HR201_0 HR203_0 HB HL205_0 HL206_0 HL208_0 HL210_0 HR205_0 HR206_0 HR208_0 HR210_0 HX205_0 HX206_0 HX208_0 HX210_0 hx205_0 hx206_0 hx207_0 hx208_0 hx209_0 hx210_0 hx211_0 hHeld ⊢
                                                        refine pure_ (i := 0) (N := some 111) (v := ?_) (a' := ?_) #[true, false, false, false, false, false, false, false, false, false, false, false, false, false, false, false, false, false, false, false, false, false, false, false, false, false, false, false, false, false] rfl rfl (any_of HT_.out (by kernel_rfl)) (fun _ _ _ h => h) (Or.inl ⟨by rfl, ?_⟩) ?_ ?_
                                                        rotate_left
                                                        · intro w'
                                                          go_simp
                                                          with_reducible rfl
                                                        rotate_left
                                                        · simp only [Act.put, List.setIfInBounds_toArray, List.set_cons_zero, List.set_cons_succ, i64_w, i32_w]
                                                          rfl
                                                        refine pure_ (i := 1) (N := some 112) (v := ?_) (a' := ?_) #[true, true, false, false, false, false, false, false, false, false, false, false, false, false, false, false, false, false, false, false, false, false, false, false, false, false, false, false, false, false] rfl rfl (any_of HT_.out (by kernel_rfl)) (fun _ _ _ h => h) (Or.inl ⟨by rfl, ?_⟩) ?_ ?_
                                                        rotate_left
                                                        · intro w'
                                                          go_simp
                                                          with_reducible rfl
                                                        rotate_left
                                                        · simp only [Act.put, List.setIfInBounds_toArray, List.set_cons_zero, List.set_cons_succ, i64_w, i32_w]
                                                          rfl
                                                        refine pure_ (i := 2) (N := some 113) (v := ?_) (a' := ?_) #[true, true, true, false, false, false, false, false, false, false, false, false, false, false, false, false, false, false, false, false, false, false, false, false, false, false, false, false, false, false] rfl rfl (any_of HT_.out (by kernel_rfl)) (fun _ _ _ h => h) (Or.inl ⟨by rfl, ?_⟩) ?_ ?_
                                                        rotate_left
                                                        · intro w'
                                                          go_simp
                                                          with_reducible rfl
                                                        rotate_left
                                                        · simp only [Act.put, List.setIfInBounds_toArray, List.set_cons_zero, List.set_cons_succ, i64_w, i32_w]
                                                          rfl
                                                        refine pure_ (i := 4) (N := some 115) (v := ?_) (a' := ?_) #[true, true, true, false, true, false, false, false, false, false, false, false, false, false, false, false, false, false, false, false, false, false, false, false, false, false, false, false, false, false] rfl rfl (any_of HT_.out (by kernel_rfl)) (fun _ _ _ h => h) (Or.inl ⟨by rfl, ?_⟩) ?_ ?_
                                                        rotate_left
                                                        · intro w'
                                                          go_simp
                                                          with_reducible rfl
                                                        rotate_left
                                                        · simp only [Act.put, List.setIfInBounds_toArray, List.set_cons_zero, List.set_cons_succ, i64_w, i32_w]
                                                          rfl
                                                        refine pure_ (i := 5) (N := some 116) (v := ?_) (a' := ?_) #[true, true, true, false, true, true, false, false, false, false, false, false, false, false, false, false, false, false, false, false, false, false, false, false, false, false, false, false, false, false] rfl rfl (any_of HT_.out (by kernel_rfl)) (fun _ _ _ h => h) (Or.inl ⟨by rfl, ?_⟩) ?_ ?_
                                                        rotate_left
                                                        · intro w'
                                                          go_simp
                                                          with_reducible rfl
                                                        rotate_left
                                                        · simp only [Act.put, List.setIfInBounds_toArray, List.set_cons_zero, List.set_cons_succ, i64_w, i32_w]
                                                          rfl
                                                        refine pure_ (i := 6) (N := some 117) (v := ?_) (a' := ?_) #[true, true, true, false, true, true, true, false, false, false, false, false, false, false, false, false, false, false, false, false, false, false, false, false, false, false, false, false, false, false] rfl rfl (any_of HT_.out (by kernel_rfl)) (fun _ _ _ h => h) (Or.inl ⟨by rfl, ?_⟩) ?_ ?_
                                                        rotate_left
                                                        · intro w'
                                                          go_simp
                                                          with_reducible rfl
                                                        rotate_left
                                                        · simp only [Act.put, List.setIfInBounds_toArray, List.set_cons_zero, List.set_cons_succ, i64_w, i32_w]
                                                          rfl
                                                        refine pure_ (i := 7) (N := some 118) (v := ?_) (a' := ?_) #[true, true, true, false, true, true, true, true, false, false, false, false, false, false, false, false, false, false, false, false, false, false, false, false, false, false, false, false, false, false] rfl rfl (any_of HT_.out (by kernel_rfl)) (fun _ _ _ h => h) (Or.inl ⟨by rfl, ?_⟩) ?_ ?_
                                                        rotate_left
                                                        · intro w'
                                                          go_simp
                                                          with_reducible rfl
                                                        rotate_left
                                                        · simp only [Act.put, List.setIfInBounds_toArray, List.set_cons_zero, List.set_cons_succ, i64_w, i32_w]
                                                          rfl
                                                        refine pure_ (i := 9) (N := some 120) (v := ?_) (a' := ?_) #[true, true, true, false, true, true, true, true, false, true, false, false, false, false, false, false, false, false, false, false, false, false, false, false, false, false, false, false, false, false] rfl rfl (any_of HT_.out (by kernel_rfl)) (fun _ _ _ h => h) (Or.inl ⟨by rfl, ?_⟩) ?_ ?_
                                                        rotate_left
                                                        · intro w'
                                                          go_simp
                                                          with_reducible rfl
                                                        rotate_left
                                                        · simp only [Act.put, List.setIfInBounds_toArray, List.set_cons_zero, List.set_cons_succ, i64_w, i32_w]
                                                          rfl
                                                        refine pure_ (i := 12) (N := some 123) (v := ?_) (a' := ?_) #[true, true, true, false, true, true, true, true, false, true, false, false, true, false, false, false, false, false, false, false, false, false, false, false, false, false, false, false, false, false] rfl rfl (any_of HT_.out (by kernel_rfl)) (fun _ _ _ h => h) (Or.inl ⟨by rfl, ?_⟩) ?_ ?_
                                                        rotate_left
                                                        · intro w'
                                                          go_simp
                                                          with_reducible rfl
                                                        rotate_left
                                                        · simp only [Act.put, List.setIfInBounds_toArray, List.set_cons_zero, List.set_cons_succ, i64_w, i32_w]
                                                          rfl
                                                        refine pure_ (i := 13) (N := some 124) (v := ?_) (a' := ?_) #[true, true, true, false, true, true, true, true, false, true, false, false, true, true, false, false, false, false, false, false, false, false, false, false, false, false, false, false, false, false] rfl rfl (any_of HT_.out (by kernel_rfl)) (fun _ _ _ h => h) (Or.inl ⟨by rfl, ?_⟩) ?_ ?_
                                                        rotate_left
                                                        · intro w'
                                                          go_simp
                                                          with_reducible rfl
                                                        rotate_left
                                                        · simp only [Act.put, List.setIfInBounds_toArray, List.set_cons_zero, List.set_cons_succ, i64_w, i32_w]
                                                          rfl
                                                        refine pure_ (i := 14) (N := some 125) (v := ?_) (a' := ?_) #[true, true, true, false, true, true, true, true, false, true, false, false, true, true, true, false, false, false, false, false, false, false, false, false, false, false, false, false, false, false] rfl rfl (any_of HT_.out (by kernel_rfl)) (fun _ _ _ h => h) (Or.inl ⟨by rfl, ?_⟩) ?_ ?_
                                                        rotate_left
                                                        · intro w'
                                                          go_simp
                                                          with_reducible rfl
                                                        rotate_left
                                                        · simp only [Act.put, List.setIfInBounds_toArray, List.set_cons_zero, List.set_cons_succ, i64_w, i32_w]
                                                          rfl
                                                        refine pure_ (i := 16) (N := some 127) (v := ?_) (a' := ?_) #[true, true, true, false, true, true, true, true, false, true, false, false, true, true, true, false, true, false, false, false, false, false, false, false, false, false, false, false, false, false] rfl rfl (any_of HT_.out (by kernel_rfl)) (fun _ _ _ h => h) (Or.inl ⟨by rfl, ?_⟩) ?_ ?_
                                                        rotate_left
                                                        · intro w'
                                                          go_simp
                                                          with_reducible rfl
                                                        rotate_left
                                                        · simp only [Act.put, List.setIfInBounds_toArray, List.set_cons_zero, List.set_cons_succ, i64_w, i32_w]
                                                          rfl
                                                        refine pure_ (i := 19) (N := some 130) (v := ?_) (a' := ?_) #[true, true, true, false, true, true, true, true, false, true, false, false, true, true, true, false, true, false, false, true, false, false, false, false, false, false, false, false, false, false] rfl rfl (any_of HT_.out (by kernel_rfl)) (fun _ _ _ h => h) (Or.inl ⟨by rfl, ?_⟩) ?_ ?_
                                                        rotate_left
                                                        · intro w'
                                                          go_simp
                                                          with_reducible rfl
                                                        rotate_left
                                                        · simp only [Act.put, List.setIfInBounds_toArray, List.set_cons_zero, List.set_cons_succ, i64_w, i32_w]
                                                          rfl
                                                        refine pure_ (i := 20) (N := some 131) (v := ?_) (a' := ?_) #[true, true, true, false, true, true, true, true, false, true, false, false, true, true, true, false, true, false, false, true, true, false, false, false, false, false, false, false, false, false] rfl rfl (any_of HT_.out (by kernel_rfl)) (fun _ _ _ h => h) (Or.inl ⟨by rfl, ?_⟩) ?_ ?_
                                                        rotate_left
                                                        · intro w'
                                                          go_simp
                                                          with_reducible rfl
                                                        rotate_left
                                                        · simp only [Act.put, List.setIfInBounds_toArray, List.set_cons_zero, List.set_cons_succ, i64_w, i32_w]
                                                          rfl
                                                        refine pure_ (i := 21) (N := some 132) (v := ?_) (a' := ?_) #[true, true, true, false, true, true, true, true, false, true, false, false, true, true, true, false, true, false, false, true, true, true, false, false, false, false, false, false, false, false] rfl rfl (any_of HT_.out (by kernel_rfl)) (fun _ _ _ h => h) (Or.inl ⟨by rfl, ?_⟩) ?_ ?_
                                                        rotate_left
                                                        · intro w'
                                                          go_simp
                                                          with_reducible rfl
                                                        rotate_left
                                                        · simp only [Act.put, List.setIfInBounds_toArray, List.set_cons_zero, List.set_cons_succ, i64_w, i32_w]
                                                          rfl
                                                        refine pure_ (i := 23) (N := some 134) (v := ?_) (a' := ?_) #[true, true, true, false, true, true, true, true, false, true, false, false, true, true, true, false, true, false, false, true, true, true, false, true, false, false, false, false, false, false] rfl rfl (any_of HT_.out (by kernel_rfl)) (fun _ _ _ h => h) (Or.inl ⟨by rfl, ?_⟩) ?_ ?_
                                                        rotate_left
                                                        · intro w'
                                                          go_simp
                                                          with_reducible rfl
                                                        rotate_left
                                                        · simp only [Act.put, List.setIfInBounds_toArray, List.set_cons_zero, List.set_cons_succ, i64_w, i32_w]
                                                          rfl
                                                        refine take_ (i := 3) (N := some 114) (v := ?_) (a' := ?_) #[true, true, true, true, true, true, true, true, false, true, false, false, true, true, true, false, true, false, false, true, true, true, false, true, false, false, false, false, false, false] rfl rfl (take_ofW HT_.out HW_.out (by kernel_rfl)) (fun _ _ _ h => h) (Or.inl ⟨by rfl, ?_⟩) hHeld ?_ ?_
                                                        rotate_left
                                                        · rintro w' ⟨s0, s1, s2, s3, s4, s5, s6⟩
                                                          go_simp
                                                          with_reducible rfl
                                                        rotate_left
                                                        · simp only [Act.put, List.setIfInBounds_toArray, List.set_cons_zero, List.set_cons_succ, i64_w, i32_w]
                                                          rfl
                                                        refine take_ (i := 8) (N := some 119) (v := ?_) (a' := ?_) #[true, true, true, true, true, true, true, true, true, true, false, false, true, true, true, false, true, false, false, true, true, true, false, true, false, false, false, false, false, false] rfl rfl (take_ofW HT_.out HW_.out (by kernel_rfl)) (fun _ _ _ h => h) (Or.inl ⟨by rfl, ?_⟩) hHeld ?_ ?_
                                                        rotate_left
                                                        · rintro w' ⟨s0, s1, s2, s3, s4, s5, s6⟩
                                                          go_simp
                                                          with_reducible rfl
                                                        rotate_left
                                                        · simp only [Act.put, List.setIfInBounds_toArray, List.set_cons_zero, List.set_cons_succ, i64_w, i32_w]
                                                          rfl
                                                        refine pure_ (i := 10) (N := some 121) (v := ?_) (a' := ?_) #[true, true, true, true, true, true, true, true, true, true, true, false, true, true, true, false, true, false, false, true, true, true, false, true, false, false, false, false, false, false] rfl rfl (any_of HT_.out (by kernel_rfl)) (fun _ _ _ h => h) (Or.inl ⟨by rfl, ?_⟩) ?_ ?_
                                                        rotate_left
                                                        · intro w'
                                                          go_simp
                                                          with_reducible rfl
                                                        rotate_left
                                                        · simp only [Act.put, List.setIfInBounds_toArray, List.set_cons_zero, List.set_cons_succ, i64_w, i32_w]
                                                          rfl
                                                        refine take_ (i := 11) (N := some 122) (v := ?_) (a' := ?_) #[true, true, true, true, true, true, true, true, true, true, true, true, true, true, true, false, true, false, false, true, true, true, false, true, false, false, false, false, false, false] rfl rfl (take_ofW HT_.out HW_.out (by kernel_rfl)) (fun _ _ _ h => h) (Or.inl ⟨by rfl, ?_⟩) hHeld ?_ ?_
                                                        rotate_left
                                                        · rintro w' ⟨s0, s1, s2, s3, s4, s5, s6⟩
                                                          go_simp
                                                          with_reducible rfl
                                                        rotate_left
                                                        · simp only [Act.put, List.setIfInBounds_toArray, List.set_cons_zero, List.set_cons_succ, i64_w, i32_w]
                                                          rfl
                                                        refine take_ (i := 15) (N := some 126) (v := ?_) (a' := ?_) #[true, true, true, true, true, true, true, true, true, true, true, true, true, true, true, true, true, false, false, true, true, true, false, true, false, false, false, false, false, false] rfl rfl (take_ofW HT_.out HW_.out (by kernel_rfl)) (fun _ _ _ h => h) (Or.inl ⟨by rfl, ?_⟩) hHeld ?_ ?_
                                                        rotate_left
                                                        · rintro w' ⟨s0, s1, s2, s3, s4, s5, s6⟩
                                                          go_simp
                                                          with_reducible rfl
                                                        rotate_left
                                                        · simp only [Act.put, List.setIfInBounds_toArray, List.set_cons_zero, List.set_cons_succ, i64_w, i32_w]
                                                          rfl
                                                        refine pure_ (i := 17) (N := some 128) (v := ?_) (a' := ?_) #[true, true, true, true, true, true, true, true, true, true, true, true, true, true, true, true, true, true, false, true, true, true, false, true, false, false, false, false, false, false] rfl rfl (any_of HT_.out (by kernel_rfl)) (fun _ _ _ h => h) (Or.inl ⟨by rfl, ?_⟩) ?_ ?_
                                                        rotate_left
                                                        · intro w'
                                                          go_simp
                                                          with_reducible rfl
                                                        rotate_left
                                                        · simp only [Act.put, List.setIfInBounds_toArray, List.set_cons_zero, List.set_cons_succ, i64_w, i32_w]
                                                          rfl
                                                        refine take_ (i := 18) (N := some 129) (v := ?_) (a' := ?_) #[true, true, true, true, true, true, true, true, true, true, true, true, true, true, true, true, true, true, true, true, true, true, false, true, false, false, false, false, false, false] rfl rfl (take_ofW HT_.out HW_.out (by kernel_rfl)) (fun _ _ _ h => h) (Or.inl ⟨by rfl, ?_⟩) hHeld ?_ ?_
                                                        rotate_left
                                                        · rintro w' ⟨s0, s1, s2, s3, s4, s5, s6⟩
                                                          go_simp
                                                          with_reducible rfl
                                                        rotate_left
                                                        · simp only [Act.put, List.setIfInBounds_toArray, List.set_cons_zero, List.set_cons_succ, i64_w, i32_w]
                                                          rfl
                                                        refine take_ (i := 22) (N := some 133) (v := ?_) (a' := ?_) #[true, true, true, true, true, true, true, true, true, true, true, true, true, true, true, true, true, true, true, true, true, true, true, true, false, false, false, false, false, false] rfl rfl (take_ofW HT_.out HW_.out (by kernel_rfl)) (fun _ _ _ h => h) (Or.inl ⟨by rfl, ?_⟩) hHeld ?_ ?_
                                                        rotate_left
                                                        · rintro w' ⟨s0, s1, s2, s3, s4, s5, s6⟩
                                                          go_simp
                                                          with_reducible rfl
                                                        rotate_left
                                                        · simp only [Act.put, List.setIfInBounds_toArray, List.set_cons_zero, List.set_cons_succ, i64_w, i32_w]
                                                          rfl
                                                        refine pure_ (i := 24) (N := some 135) (v := ?_) (a' := ?_) #[true, true, true, true, true, true, true, true, true, true, true, true, true, true, true, true, true, true, true, true, true, true, true, true, true, false, false, false, false, false] rfl rfl (any_of HT_.out (by kernel_rfl)) (fun _ _ _ h => h) (Or.inl ⟨by rfl, ?_⟩) ?_ ?_
                                                        rotate_left
                                                        · intro w'
                                                          go_simp
                                                          with_reducible rfl
                                                        rotate_left
                                                        · simp only [Act.put, List.setIfInBounds_toArray, List.set_cons_zero, List.set_cons_succ, i64_w, i32_w]
                                                          rfl
                                                        refine take_ (i := 25) (N := some 136) (v := ?_) (a' := ?_) #[true, true, true, true, true, true, true, true, true, true, true, true, true, true, true, true, true, true, true, true, true, true, true, true, true, true, false, false, false, false] rfl rfl (take_ofW HT_.out HW_.out (by kernel_rfl)) (fun _ _ _ h => h) (Or.inl ⟨by rfl, ?_⟩) hHeld ?_ ?_
                                                        rotate_left
                                                        · rintro w' ⟨s0, s1, s2, s3, s4, s5, s6⟩
                                                          go_simp
                                                          with_reducible rfl
                                                        rotate_left
                                                        · simp only [Act.put, List.setIfInBounds_toArray, List.set_cons_zero, List.set_cons_succ, i64_w, i32_w]
                                                          rfl
                                                        refine pure_ (i := 26) (N := some 137) (v := ?_) (a' := ?_) #[true, true, true, true, true, true, true, true, true, true, true, true, true, true, true, true, true, true, true, true, true, true, true, true, true, true, true, false, false, false] rfl rfl (any_of HT_.out (by kernel_rfl)) (fun _ _ _ h => h) (Or.inl ⟨by rfl, ?_⟩) ?_ ?_
                                                        rotate_left
                                                        · intro w'
                                                          go_simp
                                                          with_reducible rfl
                                                        rotate_left
                                                        · simp only [Act.put, List.setIfInBounds_toArray, List.set_cons_zero, List.set_cons_succ, i64_w, i32_w]
                                                          rfl
                                                        refine one_ (i := 27) (N := some 138) #[true, true, true, true, true, true, true, true, true, true, true, true, true, true, true, true, true, true, true, true, true, true, true, true, true, true, true, true, false, false] rfl rfl (one_of HT_.out (by kernel_rfl)) (by decide) (fun K hK => ?_)
                                                        refine goes_ Try.func29 (by kernel_rfl) rfl #[.int .i64 (rd (rd_L7 x5_5 x85_4) x90_5), .int .i64 (wrap64 ((rd (rd_L7 x5_5 x85_4) x80_3) + (rd (rd_L7 x5_5 x80_3) x90_5)))] (by rfl) rfl rfl (by (try simp only [List.map_toArray, List.map_cons, List.map_nil]); first | done | rfl | (simp only [List.length_drop, List.length_take]; rfl)) ?_
                                                        with_reducible refine (robust_least.calls (rd (rd_L7 x5_5 x85_4) x90_5) (wrap64 ((rd (rd_L7 x5_5 x85_4) x80_3) + (rd (rd_L7 x5_5 x80_3) x90_5))) t212 _ A66.out).mono ?_
                                                        rintro e w69 ⟨rfl, hb⟩
                                                        have HS0_ := (hb.cell (World.block_lt_of_cell? _ _ (hHeld.1))).trans (hHeld.1)
                                                        have HS1_ := (hb.cell (World.block_lt_of_cell? _ _ (hHeld.2.1))).trans (hHeld.2.1)
                                                        have HS2_ := (hb.cell (World.block_lt_of_cell? _ _ (hHeld.2.2.1))).trans (hHeld.2.2.1)
                                                        have HS3_ := (hb.cell (World.block_lt_of_cell? _ _ (hHeld.2.2.2.1))).trans (hHeld.2.2.2.1)
                                                        have HS4_ := (hb.cell (World.block_lt_of_cell? _ _ (hHeld.2.2.2.2.1))).trans (hHeld.2.2.2.2.1)
                                                        have HS5_ := (hb.cell (World.block_lt_of_cell? _ _ (hHeld.2.2.2.2.2.1))).trans (hHeld.2.2.2.2.2.1)
                                                        have HS6_ := (hb.cell (World.block_lt_of_cell? _ _ (hHeld.2.2.2.2.2.2))).trans (hHeld.2.2.2.2.2.2)
                                                        refine ⟨_, rfl, ?_⟩
                                                        have n0_ := Aside0.mk (Kd.S_below (by (with_reducible repeat (first | apply Kd.S_alloc | apply Kd.S_drewN | apply Kd.S_drew)); exact HO_5.out) hb)
                                                        have n1_ := Aside0.mk (Kd.R_below (by (with_reducible repeat (first | apply Kd.R_alloc | apply Kd.R_drewN | apply Kd.R_drew)); exact HL201_0.out) hb)
                                                        have n2_ := Aside0.mk (Kd.R_below (by (with_reducible repeat (first | apply Kd.R_alloc | apply Kd.R_drewN | apply Kd.R_drew)); exact HL203_0.out) hb)
                                                        have n3_ := Aside0.mk (Kd.R_below (by (with_reducible repeat (first | apply Kd.R_alloc | apply Kd.R_drewN | apply Kd.R_drew)); exact HL205_0.out) hb)
                                                        have n4_ := Aside0.mk (Kd.R_below (by (with_reducible repeat (first | apply Kd.R_alloc | apply Kd.R_drewN | apply Kd.R_drew)); exact HL206_0.out) hb)
                                                        have n5_ := Aside0.mk (Kd.R_below (by (with_reducible repeat (first | apply Kd.R_alloc | apply Kd.R_drewN | apply Kd.R_drew)); exact HL208_0.out) hb)
                                                        have n6_ := Aside0.mk (Kd.R_below (by (with_reducible repeat (first | apply Kd.R_alloc | apply Kd.R_drewN | apply Kd.R_drew)); exact HL210_0.out) hb)
                                                        have n7_ := Aside0.mk (blk_below (g := gb178) (o := .cells #[.int .i64 a0_0, .slice A0_1 l0_1.length c0_1, .slice A0_2 l0_2.length c0_2] 26 (0, 0)) (by (with_reducible repeat (first | refine blk_drewN ?_ _ | refine blk_drew ?_ | refine blk_alloc ?_ _)); exact BK178.out) hb)
                                                        have n8_ := Aside0.mk (Kd.C_below (by repeat (first | (with_reducible exact HR201_0.out) | (with_reducible refine Kd.C_alloc ?_ _) | (with_reducible refine Kd.C_drewN ?_ _) | (with_reducible refine Kd.C_drew ?_) | exact HR201_0.out)) hb)
                                                        have n9_ := Aside0.mk (Kd.C_below (by repeat (first | (with_reducible exact HR203_0.out) | (with_reducible refine Kd.C_alloc ?_ _) | (with_reducible refine Kd.C_drewN ?_ _) | (with_reducible refine Kd.C_drew ?_) | exact HR203_0.out)) hb)
                                                        have n10_ := Aside0.mk (Kd.C_below (by repeat (first | (with_reducible exact HR205_0.out) | (with_reducible refine Kd.C_alloc ?_ _) | (with_reducible refine Kd.C_drewN ?_ _) | (with_reducible refine Kd.C_drew ?_) | exact HR205_0.out)) hb)
                                                        have n11_ := Aside0.mk (pw_cell_below hb HX205_0.out)
                                                        have n12_ := Aside0.mk (Kd.C_below (by repeat (first | (with_reducible exact HR206_0.out) | (with_reducible refine Kd.C_alloc ?_ _) | (with_reducible refine Kd.C_drewN ?_ _) | (with_reducible refine Kd.C_drew ?_) | exact HR206_0.out)) hb)
                                                        have n13_ := Aside0.mk (pw_cell_below hb HX206_0.out)
                                                        have n14_ := Aside0.mk (Kd.C_below (by repeat (first | (with_reducible exact HR208_0.out) | (with_reducible refine Kd.C_alloc ?_ _) | (with_reducible refine Kd.C_drewN ?_ _) | (with_reducible refine Kd.C_drew ?_) | exact HR208_0.out)) hb)
                                                        have n15_ := Aside0.mk (pw_cell_below hb HX208_0.out)
                                                        have n16_ := Aside0.mk (Kd.C_below (by repeat (first | (with_reducible exact HR210_0.out) | (with_reducible refine Kd.C_alloc ?_ _) | (with_reducible refine Kd.C_drewN ?_ _) | (with_reducible refine Kd.C_drew ?_) | exact HR210_0.out)) hb)
                                                        have n17_ := Aside0.mk (pw_cell_below hb HX210_0.out)
                                                        have n18_ := Aside0.mk (below_step (by repeat (first | (with_reducible first | exact HB.out | apply below_alloc | apply pw_below_drewN | apply below_drew1 | refine below_set ?_ GE178.out) | exact HB.out)) hb)
                                                        clear HO_5
                                                        clear HL201_0
                                                        clear HL203_0
                                                        clear HL205_0
                                                        clear HL206_0
                                                        clear HL208_0
                                                        clear HL210_0
                                                        clear BK178
                                                        clear HR201_0
                                                        clear HR203_0
                                                        clear HR205_0
                                                        clear HX205_0
                                                        clear HR206_0
                                                        clear HX206_0
                                                        clear HR208_0
                                                        clear HX208_0
                                                        clear HR210_0
                                                        clear HX210_0
                                                        clear HB
                                                        have HO_5 := n0_
                                                        have HL201_0 := n1_
                                                        have HL203_0 := n2_
                                                        have HL205_0 := n3_
                                                        have HL206_0 := n4_
                                                        have HL208_0 := n5_
                                                        have HL210_0 := n6_
                                                        have BK178 := n7_
                                                        have HR201_0 := n8_
                                                        have HR203_0 := n9_
                                                        have HR205_0 := n10_
                                                        have HX205_0 := n11_
                                                        have HR206_0 := n12_
                                                        have HX206_0 := n13_
                                                        have HR208_0 := n14_
                                                        have HX208_0 := n15_
                                                        have HR210_0 := n16_
                                                        have HX210_0 := n17_
                                                        have HB := n18_
                                                        clear n0_ n1_ n2_ n3_ n4_ n5_ n6_ n7_ n8_ n9_ n10_ n11_ n12_ n13_ n14_ n15_ n16_ n17_ n18_
                                                        (try clear hb)
                                                        (try clear hb2)
                                                        (try clear hk)
                                                        (try clear hi)
                                                        have p67 : 0 ≤ (x90_5 : Int) := of_decide_eq_true (by first | (with_reducible assumption) | assumption)
                                                        have q67 : (x90_5 : Int) < (((rd_L7 x5_5 x85_4).length : Int) : Int) := of_decide_eq_true (by first | (with_reducible assumption) | assumption)
                                                        obtain ⟨go67, co67, eo67, gb67, gl67, cl67, HG67⟩ := Kd.R_form HL205_0.out (by omega)
                                                        (first | cases eo67 | (injection eo67 with ea_ en_ ec_; (first | subst ea_ | (injection ea_ with ea_; subst ea_)); subst ec_; clear en_))
                                                        have GB67 := Aside0.mk gb67
                                                        have GG67 := Aside0.mk HG67
                                                        clear gb67 gl67 HG67
                                                        (first | simp only [add_plain] at hx209_0 | skip)
                                                        obtain ⟨hx67_0, hf67_0⟩ := Kd.R_celln 0 HL205_0.out (x90_5 : Int) p67 q67
                                                        replace p67 := eq_true p67
                                                        replace q67 := eq_true q67
                                                        have hq70 : (x85_4 : Int) < (x5_5.length : Int) := (by have h_ : (x85_4 : Int) < ((x5_5.length : Int) : Int) := of_decide_eq_true (by first | (with_reducible assumption) | assumption); first | exact h_ | (have e_ := (Kd.S_reads' HO_5.out).1; omega) | simpa only [List.length_set, List.length_set] using h_)
                                                        obtain ⟨oki70, ce70, hcl70, hM70, hcc70, hok70, hbk70⟩ := Kd.S_borrow HO_5.out [] (x85_4 : Int) (of_decide_eq_true (by first | (with_reducible assumption) | assumption)) hq70
                                                        obtain ⟨ve70_0, rfl, ge70_0⟩ := hM70
                                                        have hv70 := hcc70 0 _ rfl
                                                        rw [Nat.add_zero, show ((Kd.slice 3 (Kd.int .i64))).sz = 1 from rfl, Nat.mul_one] at hv70
                                                        replace hv70 := Option.some.inj (hv70.symm.trans HX205_0.out)
                                                        subst hv70
                                                        clear hcc70 hcl70
                                                        replace ge70_0 := (show Kd.R (Kd.int .i64) 3 _ _ _ _ (rd_L7 x5_5 x85_4) from ge70_0)
                                                        have HP70 := Kd.R_putg ge70_0 (x90_5 : Int) t212
                                                        rw [← Ny213.out] at HP70
                                                        have HS70 := hbk70 HP70.2 (fun k_ e_ => by injection e_ with e_; subst e_; exact ge70_0.1 _ rfl) (x' := y213) (Kd.M_row HP70.1)
                                                        rw [← Ny215.out] at HS70
                                                        have HQ70 := Aside0.mk HS70
                                                        clear HP70 HS70 hbk70 hok70
                                                        refine hK.out _ _ ⟨HS0_, HS1_, HS2_, HS3_, HS4_, HS5_, HS6_⟩ (fun hHeld => ?_)
                                                        clear hK K
                                                        refine norm_ (a' := ?_) ?_ ?_
                                                        rotate_left
                                                        · show Act.put _ (some 138) _ = _
                                                          simp only [Act.put, List.setIfInBounds_toArray, List.set_cons_zero, List.set_cons_succ, i64_w, i32_w]
                                                          rfl
                                                        refine pure_ (i := 28) (N := some 139) (v := ?_) (a' := ?_) #[true, true, true, true, true, true, true, true, true, true, true, true, true, true, true, true, true, true, true, true, true, true, true, true, true, true, true, true, true, false] rfl rfl (any_of HT_.out (by kernel_rfl)) (fun _ _ _ h => h) (Or.inl ⟨by rfl, ?_⟩) ?_ ?_
                                                        rotate_left
                                                        · intro w'
                                                          go_simp
                                                          with_reducible rfl
                                                        rotate_left
                                                        · simp only [Act.put, List.setIfInBounds_toArray, List.set_cons_zero, List.set_cons_succ, i64_w, i32_w]
                                                          rfl
                                                        refine last_ (i := 29) (N := none) #[true, true, true, true, true, true, true, true, true, true, true, true, true, true, true, true, true, true, true, true, true, true, true, true, true, true, true, true, true, true] rfl rfl (one_of HT_.out (by kernel_rfl)) (by decide) (fun K hK => ?_)
                                                        refine skip_ (w1 := ?_) (by rfl) rfl ?_ ?_
                                                        rotate_left
                                                        · go_simp
                                                          rfl
                                                        refine hK.out _ _ ?_
                                                        clear hK K
                                                        refine done_ (done_of HT_.out (by kernel_rfl)) ?_
                                                        try go_wp2
                                                        (try simp only [← hl5_5])
                                                        go_roundg k5
                                                        case measure => have := HK1.out; have := HK2.out; have := HK3.out; have := HK4.out; have := HK5.out; omega
                                                        case rel => exact ⟨(y215), (wrap64 (x90_5 + 1)), (by first | rfl | (simp; done) | (simp [*]; done)), H', ⟨by have := HK1.out; have := HK2.out; have := HK3.out; have := HK4.out; have := HK5.out; omega⟩, ⟨by (try simp only [hl5_1]); (try simp only [hl5_2]); (try simp only [hl5_3]); (try simp only [hl5_4]); (try simp only [hl5_5]); (with_reducible repeat (first | apply Kd.S_alloc | apply Kd.S_drewN | apply Kd.S_drew)); exact HQ70.out⟩, ⟨by (try simp only [hl5_1]); (try simp only [hl5_2]); (try simp only [hl5_3]); (try simp only [hl5_4]); (try simp only [hl5_5]); (with_reducible repeat (first | refine blk_drewN ?_ _ | refine blk_drew ?_ | refine blk_alloc ?_ _)); refine blk_far ?_ (by have h_ := Kd.R_ne HL205_0.out BK178.out (by decide); intro e_; exact h_ (by rw [e_]; rfl)) _; (with_reducible repeat (first | refine blk_drewN ?_ _ | refine blk_drew ?_ | refine blk_alloc ?_ _)); exact BK178.out⟩, ⟨by repeat (first | (with_reducible first | exact HB.out | apply below_alloc | apply pw_below_drewN | apply below_drew1 | refine below_set ?_ GB67.out | refine below_set ?_ GE178.out) | exact HB.out)⟩⟩
                                                      · rw [if_neg c65] at H
                                                        exact absurd H (by simp)
                                                  · rw [if_neg c63] at H
                                                    exact absurd H (by simp)
                                                · rw [if_neg c62] at H
                                                  exact absurd H (by simp)
                                              · rw [if_neg c61] at H
                                                exact absurd H (by simp)
                                          · rw [if_neg c59] at H
                                            exact absurd H (by simp)
                                        · rw [if_neg c58] at H
                                          exact absurd H (by simp)
                                      · rw [if_neg c57] at H
                                        exact absurd H (by simp)
                                    · rw [if_neg c56] at H
                                      exact absurd H (by simp)
                                  · rw [if_neg c55] at H
                                    have c55b0 : decide (x90_5 < (x5_4.length : Int)) = false := decide_eq_false c55
                                    (try simp only [hl5_5] at c55b0)
                                    clear c55
                                    have H' := Aside0.mk H
                                    clear H
                                    go_wp2
                                    (try simp only [← hl5_4, ← hl5_5])
                                    go_roundg k5
                                    case measure => have := HK1.out; have := HK2.out; have := HK3.out; have := HK4.out; have := HK5.out; omega
                                    case rel => exact ⟨(x5_5), (wrap64 (x85_4 + 1)), (by first | rfl | (simp; done) | (simp [*]; done)), H', ⟨by have := HK1.out; have := HK2.out; have := HK3.out; have := HK4.out; have := HK5.out; omega⟩, ⟨by (try simp only [hl5_1]); (try simp only [hl5_2]); (try simp only [hl5_3]); (try simp only [hl5_4]); (try simp only [hl5_5]); (with_reducible repeat (first | apply Kd.S_alloc | apply Kd.S_drewN | apply Kd.S_drew)); exact HO_5.out⟩, ⟨by (try simp only [hl5_1]); (try simp only [hl5_2]); (try simp only [hl5_3]); (try simp only [hl5_4]); (try simp only [hl5_5]); (with_reducible repeat (first | refine blk_drewN ?_ _ | refine blk_drew ?_ | refine blk_alloc ?_ _)); exact BK178.out⟩, ⟨by repeat (first | (with_reducible first | exact HB.out | apply below_alloc | apply pw_below_drewN | apply below_drew1 | refine below_set ?_ GE178.out) | exact HB.out)⟩⟩
                            · rw [if_neg c54] at H
                              have c54b0 : decide (x85_4 < (x5_3.length : Int)) = false := decide_eq_false c54
                              (try simp only [hl5_4] at c54b0)
                              clear c54
                              have H' := Aside0.mk H
                              clear H
                              go_wp2
                              (try simp only [← hl5_3, ← hl5_4])
                              go_roundg k4
                              case measure => have := HK1.out; have := HK2.out; have := HK3.out; have := HK4.out; omega
                              case rel => exact ⟨(x5_4), (wrap64 (x80_3 + 1)), (by first | rfl | (simp; done) | (simp [*]; done)), H', ⟨by have := HK1.out; have := HK2.out; have := HK3.out; have := HK4.out; omega⟩, ⟨by (try simp only [hl5_1]); (try simp only [hl5_2]); (try simp only [hl5_3]); (try simp only [hl5_4]); (with_reducible repeat (first | apply Kd.S_alloc | apply Kd.S_drewN | apply Kd.S_drew)); exact HO_5.out⟩, ⟨by (try simp only [hl5_1]); (try simp only [hl5_2]); (try simp only [hl5_3]); (try simp only [hl5_4]); (with_reducible repeat (first | refine blk_drewN ?_ _ | refine blk_drew ?_ | refine blk_alloc ?_ _)); exact BK178.out⟩, ⟨by repeat (first | (with_reducible first | exact HB.out | apply below_alloc | apply pw_below_drewN | apply below_drew1 | refine below_set ?_ GE178.out) | exact HB.out)⟩⟩
                      · rw [if_neg c53] at H
                        have c53b0 : decide (x80_3 < (x5_2.length : Int)) = false := decide_eq_false c53
                        (try simp only [hl5_3] at c53b0)
                        clear c53
                        obtain rfl := Option.some.inj H
                        go_wp2
                        go_ret
                        exact ⟨_, by first | rfl | (simp [errW_none, errW_some] <;> rfl) | (simp [*, errW_none, errW_some] <;> rfl), by (with_reducible repeat (first | apply Kd.S_alloc | apply Kd.S_drewN | apply Kd.S_drew)); exact HO_5.out, by repeat (first | (with_reducible first | exact HB.out | apply below_alloc | apply pw_below_drewN | apply below_drew1 | refine below_set ?_ GE178.out) | exact HB.out)⟩
    · rw [if_neg c4] at H
      exact absurd H (by simp)
  · rw [if_neg c3] at H
    exact absurd H (by simp)

end Go.Proofs.Ytfipfobadpealaa.PAll
