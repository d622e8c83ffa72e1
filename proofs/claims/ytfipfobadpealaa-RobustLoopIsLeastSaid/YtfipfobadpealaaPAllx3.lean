-- Written by wip/tools/plugprint.py of this session over the kit's print, with hand-written parts from wip/plugs. Lean checks it.
import Derived.Test.YtfipfobadpealaaPAllx0
import Derived.Test.YtfipfobadpealaaPAllx1
import Derived.Test.YtfipfobadpealaaPAllx2
namespace Go.Proofs.Ytfipfobadpealaa.PAll
open Go.RowKit Go.Proofs.YtfipfobadpealaaW.PrintWords Go.Proofs.YtfipfobadpealaaW.PrintLast Go.Proofs.YtfipfobadpealaaW.PrintMore
attribute [local go_sem] max2_int min2_int max_two min_two max_three min_three max_four min_four   -- for this text's walks alone
set_option linter.unusedVariables false
set_option linter.unusedSimpArgs false

/-! ### railplanlaw22_wide: function 11 -/
def railplanlaw22_wide.l0 : Nat → Int → Int → Int → List (S59) → List (S40) → Option (Int × (List (S59)) × (List (S40)))
  | 0, _, _, _, _, _ => none
  | k + 1, x9, x10, x149000, x149001, x149002 => if x10 < x9 then (if 0 ≤ x10 then (if x10 < (x149002.length : Int) then (railplanlaw22_wide.l0 k x9 (wrap64 (x10 + 1)) x149000 x149001 (x149002.set (x10 : Int).toNat (⟨(rd_T40 x149002 x10).f0, (rd_T40 x149002 x10).f1, (rd_T40 x149002 x10).f2, (rd_T40 x149002 x10).f3, wrap64 ((wrap64 (((rd_T40 x149002 x10).f3) + x149000)) - 1), (rd_T40 x149002 x10).f5⟩ : S40))) else (none)) else (none)) else (some (x149000, x149001, x149002))
def railplanlaw22_wide.f (k : Nat) (l0 : List Int) : Option (Int × (List (S59)) × (List (S40))) := (railplankeep_Network.f k l0).bind fun bt141 => (railplanlaw22_wide.l0 k (bt141.2.2.length : Int) 0 bt141.1 bt141.2.1 bt141.2.2)
theorem railplanlaw22_wide.mono_l : ∀ k, (∀ y0 y1 y2 y3 y4, LeO (railplanlaw22_wide.l0 k y0 y1 y2 y3 y4) (railplanlaw22_wide.l0 (k + 1) y0 y1 y2 y3 y4))
  | 0 => fun _ _ _ _ _ r h => by simp [railplanlaw22_wide.l0] at h
  | k + 1 => by
    have ih0 := railplanlaw22_wide.mono_l k
    · intro y0 y1 y2 y3 y4
      unfold railplanlaw22_wide.l0
      repeat' first
      | (with_reducible exact ih0 _ _ _ _ _)
      | (with_reducible exact railplankeep_Network.mono _ _)
      | (with_reducible exact LeO.refl _)
      | (with_reducible exact LeO.none _)
      | (with_reducible refine LeO.ite ?_ ?_)
      | (with_reducible refine LeO.bind ?_ (fun _ => ?_))
      | exact ih0 _ _ _ _ _
      | exact railplankeep_Network.mono _ _
      | exact LeO.none _
      | refine LeO.ite ?_ ?_
      | refine LeO.bind ?_ (fun _ => ?_)
theorem railplanlaw22_wide.mono : ∀ a0 k, LeO (railplanlaw22_wide.f k a0) (railplanlaw22_wide.f (k + 1) a0) := by
  intro a0 k
  have ih0 := railplanlaw22_wide.mono_l k
  unfold railplanlaw22_wide.f
  repeat' first
      | (with_reducible exact ih0 _ _ _ _ _)
      | (with_reducible exact railplankeep_Network.mono _ _)
      | (with_reducible exact LeO.refl _)
      | (with_reducible exact LeO.none _)
      | (with_reducible refine LeO.ite ?_ ?_)
      | (with_reducible refine LeO.bind ?_ (fun _ => ?_))
      | exact ih0 _ _ _ _ _
      | exact railplankeep_Network.mono _ _
      | exact LeO.none _
      | refine LeO.ite ?_ ?_
      | refine LeO.bind ?_ (fun _ => ?_)
def railplanlaw22_wide.T5 : Bool × List (List Nat × List Nat) := (true, [([], []), ([0], [0]), ([], []), ([], []), ([3], [3]), ([], []), ([4, 5], [4, 5]), ([6], [6]), ([7], [7]), ([], []), ([9], [9]), ([8, 10], [8, 10]), ([11], [11]), ([1, 2, 0, 1, 2, 3, 4, 5, 6, 7, 8, 9, 10, 11, 12], [1, 2]), ([13, 0, 1, 2, 3, 4, 5, 6, 7, 8, 9, 10, 11, 12], [13]), ([14, 12, 0, 1, 2, 3, 4, 5, 6, 7, 8, 9, 10, 11, 12], [12, 14])])
def railplanlaw22_wide.B5 : List Nat := [0, 1, 0, 0, 8, 0, 56, 120, 248, 0, 512, 2040, 4088, 8191, 16383, 32767]
theorem railplanlaw22_wide.tab5 : rtab .any (opsOf Try.f11 5) = railplanlaw22_wide.T5 := by kernel_rfl
theorem railplanlaw22_wide.bits5 : waitsOk railplanlaw22_wide.T5.2 railplanlaw22_wide.B5 = true := by kernel_rfl
set_option maxHeartbeats 8000000 in
set_option maxRecDepth 100000 in
theorem railplanlaw22_wide.calls (k : Nat) (A0 : Option Addr) (c0 : Nat) (l0 : List Int) (r1 : Int) (r2 : List (S59)) (r3 : List (S40)) (w : World) (hr0 : Kd.C (Kd.int .i64) w A0 l0.length l0) (hc0 : l0.length ≤ c0) (h : railplanlaw22_wide.f k l0 = some (r1, r2, r3)) :
    Calls Try.prog 11 #[.slice A0 l0.length c0] w fun e w' => ∃ v1_ v2_ : Value, e = .returned (.agg #[.int .i64 r1, v1_, v2_]) ∧ Kd.R k59 59 w' w.heap.size (fun _ => True) v1_ r2 ∧ Kd.R k40 40 w' w.heap.size (fun _ => True) v2_ r3 ∧ Below w.heap.size w w' := by
  have hu26 := Try.underlying26
  have HR0 := Aside0.mk hr0
  have HC0 := Aside0.mk hc0
  clear hr0 hc0
  have HB := Aside0.mk (Below.refl w.heap.size w)
  have H : ((railplankeep_Network.f k l0).bind fun bt141 => (railplanlaw22_wide.l0 k (bt141.2.2.length : Int) 0 bt141.1 bt141.2.1 bt141.2.2)) = some (r1, r2, r3) := h
  clear h
  replace H := Option.bind_eq_some_iff.mp H
  obtain ⟨⟨t141, t142, t145⟩, A20, H⟩ := H
  replace H : (railplanlaw22_wide.l0 k (t145.length : Int) 0 t141 t142 t145) = some (r1, r2, r3) := H
  have A2 := Aside0.mk A20
  clear A20
  have H' := Aside0.mk H
  clear H
  go_enter Try.func11, Try.ntmps11
  go_wp2_with (first | ((with_reducible refine gate_dst (N := 2) rfl ?_); refine box_event ?hg (N := 2) ?hd (cs := #[.int .i64 0, .slice none 0 0, .slice none 0 0]) (t := 26) ?hr ?_; (case hd => rfl); (case hg => rfl); (case hr => first | (go_simp; done) | (go_simp; rfl)); intro gb140 hg w3 hbox hb; have n0_ := Aside0.mk (below_step (by repeat (first | (with_reducible first | exact HB.out | apply below_alloc | apply pw_below_drewN | apply below_drew1) | exact HB.out)) hb); have n1_ := Aside0.mk (hbox); have n2_ := Aside0.mk ((by rw [hg]; exact (below_size (by repeat (first | (with_reducible first | exact HB.out | apply below_alloc | apply pw_below_drewN | apply below_drew1) | exact HB.out))) : w.heap.size ≤ gb140)); have n3_ := Aside0.mk ((by rw [hg]; exact (below_size (by repeat (first | (with_reducible first | exact HB.out | apply below_alloc | apply pw_below_drewN | apply below_drew1) | exact HB.out))) : w.heap.size ≤ gb140)); clear HB; have HB := n0_; have BK140 := n1_; have GW140 := n2_; have GE140 := n3_; clear n0_ n1_ n2_ n3_; clear hb hbox hg) | ((with_reducible refine gate_callee (f := 23) rfl ?_); refine goesL_ (some 6) rfl rfl Try.func23 (by kernel_rfl) rfl #[.slice A0 l0.length c0] rfl (by (try simp only [List.map_toArray, List.map_cons, List.map_nil]); first | done | rfl | (simp only [List.length_drop, List.length_take]; rfl)) ?_; (with_reducible refine (railplankeep_Network.calls k _ _ l0 t141 t142 t145 _ ?side1 ?side2 A2.out).mono ?_); (case side1 => repeat (first | exact (Kd.C_below HR0.out HB.out) | (with_reducible refine Kd.C_alloc ?_ _) | (with_reducible refine Kd.C_drewN ?_ _) | (with_reducible refine Kd.C_drew ?_))); (case side2 => exact HC0.out); rintro e w4 ⟨v143, v146, rfl, ho0, ho1, hb⟩; refine ⟨_, rfl, ?_⟩; have n0_ := Aside0.mk (Kd.R_lower ho0 (below_size (by repeat (first | (with_reducible first | exact HB.out | apply below_alloc | apply pw_below_drewN | apply below_drew1 | refine below_set ?_ GE140.out) | exact HB.out)))); have n1_ := Aside0.mk (Kd.R_lower ho1 (below_size (by repeat (first | (with_reducible first | exact HB.out | apply below_alloc | apply pw_below_drewN | apply below_drew1 | refine below_set ?_ GE140.out) | exact HB.out)))); have n2_ := Aside0.mk (blk_below (g := gb140) (o := .cells #[.int .i64 0, .slice none 0 0, .slice none 0 0] 26 (0, 0)) (by (with_reducible repeat (first | refine blk_drewN ?_ _ | refine blk_drew ?_ | refine blk_alloc ?_ _)); exact BK140.out) hb); have n3_ := Aside0.mk (below_step (by repeat (first | (with_reducible first | exact HB.out | apply below_alloc | apply pw_below_drewN | apply below_drew1 | refine below_set ?_ GE140.out) | exact HB.out)) hb); clear BK140; clear HB; have HO144 := n0_; have HO147 := n1_; have BK140 := n2_; have HB := n3_; clear n0_ n1_ n2_ n3_; (try clear hb); (try clear hb2); (try clear hk); (try clear hi); (try clear ho0); (try clear ho1)) | ((with_reducible refine gate_dst (N := 3) rfl ?_); refine box_event ?hg (N := 3) ?hd (cs := #[.int .i64 0, .slice none 0 0, .slice none 0 0]) (t := 26) ?hr ?_; (case hd => rfl); (case hg => rfl); (case hr => first | (go_simp; done) | (go_simp; rfl)); intro gb148 hg w5 hbox hb; have n0_ := Aside0.mk (Kd.R_below (by (with_reducible repeat (first | apply Kd.R_alloc | apply Kd.R_drewN | apply Kd.R_drew)); exact HO144.out) hb); have n1_ := Aside0.mk (Kd.R_below (by (with_reducible repeat (first | apply Kd.R_alloc | apply Kd.R_drewN | apply Kd.R_drew)); exact HO147.out) hb); have n2_ := Aside0.mk (blk_below (g := gb140) (o := .cells #[.int .i64 0, .slice none 0 0, .slice none 0 0] 26 (0, 0)) (by (with_reducible repeat (first | refine blk_drewN ?_ _ | refine blk_drew ?_ | refine blk_alloc ?_ _)); exact BK140.out) hb); have n3_ := Aside0.mk (below_step (by repeat (first | (with_reducible first | exact HB.out | apply below_alloc | apply pw_below_drewN | apply below_drew1 | refine below_set ?_ GE140.out) | exact HB.out)) hb); have n4_ := Aside0.mk (hbox); have n5_ := Aside0.mk ((by rw [hg]; exact (below_size (by repeat (first | (with_reducible first | exact HB.out | apply below_alloc | apply pw_below_drewN | apply below_drew1 | refine below_set ?_ GE140.out) | exact HB.out))) : w.heap.size ≤ gb148)); have n6_ := Aside0.mk ((by rw [hg]; exact (below_size (by repeat (first | (with_reducible first | exact HB.out | apply below_alloc | apply pw_below_drewN | apply below_drew1 | refine below_set ?_ GE140.out) | exact HB.out))) : w.heap.size ≤ gb148)); have n7_ := Aside0.mk ((by rw [hg]; exact Nat.ne_of_lt (blk_lt (g := gb140) (o := .cells #[.int .i64 0, .slice none 0 0, .slice none 0 0] 26 (0, 0)) (by (with_reducible repeat (first | refine blk_drewN ?_ _ | refine blk_drew ?_ | refine blk_alloc ?_ _)); exact BK140.out)) : gb140 ≠ gb148)); have n8_ := Aside0.mk ((by rw [hg]; exact Nat.ne_of_gt (blk_lt (g := gb140) (o := .cells #[.int .i64 0, .slice none 0 0, .slice none 0 0] 26 (0, 0)) (by (with_reducible repeat (first | refine blk_drewN ?_ _ | refine blk_drew ?_ | refine blk_alloc ?_ _)); exact BK140.out)) : gb148 ≠ gb140)); clear HO144; clear HO147; clear BK140; clear HB; have HO144 := n0_; have HO147 := n1_; have BK140 := n2_; have HB := n3_; have BK148 := n4_; have GW148 := n5_; have GE148 := n6_; have NB140_148 := n7_; have NB148_140 := n8_; clear n0_ n1_ n2_ n3_ n4_ n5_ n6_ n7_ n8_; clear hb hbox hg; have hnb6 := NB148_140.out; have hnc6 := NB140_148.out; have hcz7_0 : w5.cell? ⟨gb148, 0, none⟩ = some (.int .i64 0) := (blk_cell BK148.out 0).trans rfl; have hcz7_1 : w5.cell? ⟨gb148, 1, none⟩ = some (.slice none 0 0) := (blk_cell BK148.out 1).trans rfl; have hcz7_2 : w5.cell? ⟨gb148, 2, none⟩ = some (.slice none 0 0) := (blk_cell BK148.out 2).trans rfl; have hfz7_0 := blk_frozen BK148.out 0; have hfz7_1 := blk_frozen BK148.out 1; have hfz7_2 := blk_frozen BK148.out 2; obtain ⟨Ao8, co8, eo8⟩ := Kd.R_slice HO144.out; subst eo8; obtain ⟨Ao9, co9, eo9⟩ := Kd.R_slice HO147.out; subst eo9))
  go_loopg [10] k (fun kq v10 w' => ∃ (x10_1 : Int) (x149002_1 : List (S40)) (u149002 : Value), v10 = .int .i64 x10_1 ∧ Aside0 (railplanlaw22_wide.l0 kq (t145.length : Int) x10_1 t141 t142 x149002_1 = some (r1, r2, r3)) ∧ Aside0 (kq ≤ k) ∧ Aside0 (Kd.R k59 59 w' w.heap.size (fun _ => True) (.slice Ao8 t142.length co8) t142) ∧ Aside0 (Kd.R k40 40 w' w.heap.size (fun _ => True) u149002 x149002_1) ∧ Aside0 (w'.heap[gb140]? = some (.cells #[.int .i64 0, (.slice none 0 0), (.slice none 0 0)] 26 (0, 0))) ∧ Aside0 (w'.heap[gb148]? = some (.cells #[.int .i64 t141, (.slice Ao8 t142.length co8), u149002] 26 (0, 0))) ∧ Aside0 (Below w.heap.size w w'))
  case atStart => exact ⟨(0), (t145), (.slice Ao9 t145.length co9), (by first | rfl | (simp; done) | (simp [*]; done)), H', ⟨Nat.le_refl _⟩, ⟨by (with_reducible repeat (first | apply Kd.R_alloc | apply Kd.R_drewN | apply Kd.R_drew)); exact Kd.R_mono (Kd.R_far (p := ⟨gb148, 2, none⟩) (Kd.R_far (p := ⟨gb148, 1, none⟩) (Kd.R_far (p := ⟨gb148, 0, none⟩) (Kd.R_types HO144.out BK148.out (by decide)) (fun _ hk => hk.2) (.int .i64 t141)) (fun _ hk => hk.2) (.slice Ao8 t142.length co8)) (fun _ hk => hk.2) (.slice Ao9 t145.length co9)) (fun _ hk => trivial)⟩, ⟨by (with_reducible repeat (first | apply Kd.R_alloc | apply Kd.R_drewN | apply Kd.R_drew)); exact Kd.R_mono (Kd.R_far (p := ⟨gb148, 2, none⟩) (Kd.R_far (p := ⟨gb148, 1, none⟩) (Kd.R_far (p := ⟨gb148, 0, none⟩) (Kd.R_types HO147.out BK148.out (by decide)) (fun _ hk => hk.2) (.int .i64 t141)) (fun _ hk => hk.2) (.slice Ao8 t142.length co8)) (fun _ hk => hk.2) (.slice Ao9 t145.length co9)) (fun _ hk => trivial)⟩, ⟨by (with_reducible repeat (first | refine blk_drewN ?_ _ | refine blk_drew ?_ | refine blk_alloc ?_ _)); refine blk_far ?_ NB140_148.out _; (with_reducible repeat (first | refine blk_drewN ?_ _ | refine blk_drew ?_ | refine blk_alloc ?_ _)); refine blk_far ?_ NB140_148.out _; (with_reducible repeat (first | refine blk_drewN ?_ _ | refine blk_drew ?_ | refine blk_alloc ?_ _)); refine blk_far ?_ NB140_148.out _; (with_reducible repeat (first | refine blk_drewN ?_ _ | refine blk_drew ?_ | refine blk_alloc ?_ _)); exact BK140.out⟩, ⟨by (with_reducible repeat (first | refine blk_drewN ?_ _ | refine blk_drew ?_ | refine blk_alloc ?_ _)); refine blk_put (cs := #[.int .i64 t141, .slice Ao8 t142.length co8, .slice none 0 0]) ?_ 2 _ rfl; (with_reducible repeat (first | refine blk_drewN ?_ _ | refine blk_drew ?_ | refine blk_alloc ?_ _)); refine blk_put (cs := #[.int .i64 t141, .slice none 0 0, .slice none 0 0]) ?_ 1 _ rfl; (with_reducible repeat (first | refine blk_drewN ?_ _ | refine blk_drew ?_ | refine blk_alloc ?_ _)); refine blk_put (cs := #[.int .i64 0, .slice none 0 0, .slice none 0 0]) ?_ 0 _ rfl; (with_reducible repeat (first | refine blk_drewN ?_ _ | refine blk_drew ?_ | refine blk_alloc ?_ _)); exact BK148.out⟩, ⟨by repeat (first | (with_reducible first | exact HB.out | apply below_alloc | apply pw_below_drewN | apply below_drew1 | refine below_set ?_ GE140.out | refine below_set ?_ GE148.out) | exact HB.out)⟩⟩
  case round =>
    clear H'
    try clear c1
    try clear c2
    try clear p2
    try clear c6
    try clear hcz7_0
    try clear hcz7_1
    try clear hcz7_2
    try clear hfz7_0
    try clear hfz7_1
    try clear hfz7_2
    obtain ⟨x10_1, x149002_1, u149002, rfl, HA, HK1, HO_149001, HO_149002, BK140, BK148, HB⟩ := hrel
    cases gk with
    | zero => exact absurd HA.out (by simp [railplanlaw22_wide.l0])
    | succ k1 =>
      have H := HA.out
      clear HA
      simp only [railplanlaw22_wide.l0] at H
      by_cases c10 : x10_1 < (t145.length : Int)
      · rw [if_pos c10] at H
        have c10b0 : decide (x10_1 < (t145.length : Int)) = true := decide_eq_true c10
        clear c10
        by_cases c11 : 0 ≤ x10_1
        · rw [if_pos c11] at H
          have c11b0 : decide (0 ≤ x10_1) = true := decide_eq_true c11
          clear c11
          by_cases c12 : x10_1 < (x149002_1.length : Int)
          · rw [if_pos c12] at H
            have c12b0 : decide (x10_1 < (x149002_1.length : Int)) = true := decide_eq_true c12
            clear c12
            obtain ⟨y150, hy150⟩ : ∃ y_ : List (S40), y_ = (x149002_1.set (x10_1 : Int).toNat (⟨(rd_T40 x149002_1 x10_1).f0, (rd_T40 x149002_1 x10_1).f1, (rd_T40 x149002_1 x10_1).f2, (rd_T40 x149002_1 x10_1).f3, wrap64 ((wrap64 (((rd_T40 x149002_1 x10_1).f3) + t141)) - 1), (rd_T40 x149002_1 x10_1).f5⟩ : S40)) := ⟨_, rfl⟩
            replace H : (railplanlaw22_wide.l0 k1 (t145.length : Int) (wrap64 (x10_1 + 1)) t141 t142 y150) = some (r1, r2, r3) := by first | (rw [hy150]; with_reducible exact H) | (have H2_ := (Option.bind_some _ _).symm.trans H; rw [hy150]; with_reducible exact H2_) | (have H2_ := (Option.bind_some _ _).symm.trans H; with_reducible exact H2_) | with_reducible exact H | (rw [hy150]; exact H) | exact H
            have Ny150 := Aside0.mk hy150
            clear hy150
            have H' := Aside0.mk H
            clear H
            try go_wp2
            have n0_ := Aside0.mk (Kd.R_drew HO_149001.out)
            have n1_ := Aside0.mk (Kd.R_drew HO_149002.out)
            have n2_ := Aside0.mk (blk_drew BK140.out)
            have n3_ := Aside0.mk (blk_drew BK148.out)
            have n4_ := Aside0.mk (below_drew1 HB.out)
            clear HO_149001
            clear HO_149002
            clear BK140
            clear BK148
            clear HB
            have HO_149001 := n0_
            have HO_149002 := n1_
            have BK140 := n2_
            have BK148 := n3_
            have HB := n4_
            clear n0_ n1_ n2_ n3_ n4_
            obtain ⟨Ao15, co15, eo15⟩ := Kd.R_slice HO_149002.out
            (first | subst eo15 | (injection eo15 with f1_ f2_ f3_; have f4_ := f1_.symm; have f5_ := f3_.symm; clear f1_ f2_ f3_; subst f4_; subst f5_))
            have p149 : 0 ≤ (x10_1 : Int) := of_decide_eq_true (by first | (with_reducible assumption) | assumption)
            have q149 : x10_1 < (x149002_1.length : Int) := of_decide_eq_true (by first | (with_reducible assumption) | assumption)
            obtain ⟨ad149, e149, hx149_0, hx149_1, hx149_2, hx149_3, hx149_4, hx149_5⟩ := at_T40 (Kd.R_reads' HO_149002.out).2.2 x10_1 p149 q149
            cases e149
            replace p149 := eq_true p149
            replace q149 := eq_true q149
            have p13 : 0 ≤ (x10_1 : Int) := of_decide_eq_true (by first | (with_reducible assumption) | assumption)
            have q13 : (x10_1 : Int) < ((x149002_1.length : Int) : Int) := of_decide_eq_true (by first | (with_reducible assumption) | assumption)
            obtain ⟨go13, co13, eo13, gb13, gl13, cl13, HG13⟩ := Kd.R_form HO_149002.out (by omega)
            (first | cases eo13 | (injection eo13 with ea_ en_ ec_; (first | subst ea_ | (injection ea_ with ea_; subst ea_)); subst ec_; clear en_))
            have GB13 := Aside0.mk gb13
            have GG13 := Aside0.mk HG13
            clear gb13 gl13 HG13
            (first | simp only [add_plain] at hx149_0 | skip)
            (first | simp only [add_plain] at hx149_1 | skip)
            (first | simp only [add_plain] at hx149_2 | skip)
            (first | simp only [add_plain] at hx149_3 | skip)
            (first | simp only [add_plain] at hx149_4 | skip)
            (first | simp only [add_plain] at hx149_5 | skip)
            obtain ⟨ce13, hcl13, hM13, hcc13, hfr13⟩ := Kd.R_elem HO_149002.out z40 (x10_1 : Int) p13 q13
            obtain rfl := k40_openM hM13
            have hx13_0 : World.cell? _ ⟨go13, (x10_1 : Int).toNat * 6, none⟩ = some (.int .i64 ((rd_T40 x149002_1 x10_1).f0)) := hcc13 0 _ rfl
            have hx13_1 : World.cell? _ ⟨go13, (x10_1 : Int).toNat * 6 + 1, none⟩ = some (.int .i64 ((rd_T40 x149002_1 x10_1).f1)) := hcc13 1 _ rfl
            have hx13_2 : World.cell? _ ⟨go13, (x10_1 : Int).toNat * 6 + 2, none⟩ = some (.int .i64 ((rd_T40 x149002_1 x10_1).f2)) := hcc13 2 _ rfl
            have hx13_3 : World.cell? _ ⟨go13, (x10_1 : Int).toNat * 6 + 3, none⟩ = some (.int .i64 ((rd_T40 x149002_1 x10_1).f3)) := hcc13 3 _ rfl
            have hx13_4 : World.cell? _ ⟨go13, (x10_1 : Int).toNat * 6 + 4, none⟩ = some (.int .i64 ((rd_T40 x149002_1 x10_1).f4)) := hcc13 4 _ rfl
            have hx13_5 : World.cell? _ ⟨go13, (x10_1 : Int).toNat * 6 + 5, none⟩ = some (.int .i64 ((rd_T40 x149002_1 x10_1).f5)) := hcc13 5 _ rfl
            have hf13_0 : World.frozen? _ ⟨go13, (x10_1 : Int).toNat * 6, none⟩ = false := hfr13 0
            have hf13_1 : World.frozen? _ ⟨go13, (x10_1 : Int).toNat * 6 + 1, none⟩ = false := hfr13 1
            have hf13_2 : World.frozen? _ ⟨go13, (x10_1 : Int).toNat * 6 + 2, none⟩ = false := hfr13 2
            have hf13_3 : World.frozen? _ ⟨go13, (x10_1 : Int).toNat * 6 + 3, none⟩ = false := hfr13 3
            have hf13_4 : World.frozen? _ ⟨go13, (x10_1 : Int).toNat * 6 + 4, none⟩ = false := hfr13 4
            have hf13_5 : World.frozen? _ ⟨go13, (x10_1 : Int).toNat * 6 + 5, none⟩ = false := hfr13 5
            (try clear hM13); clear hcl13 hcc13 hfr13
            replace p13 := eq_true p13
            replace q13 := eq_true q13
            obtain ⟨ce16, hcl16, hM16, hcc16, hfr16⟩ := Kd.R_elem HO_149002.out z40 (x10_1 : Int) (of_decide_eq_true (by first | (with_reducible assumption) | assumption)) (by have h_ : (x10_1 : Int) < ((x149002_1.length : Int) : Int) := of_decide_eq_true (by first | (with_reducible assumption) | assumption); first | exact h_ | (have e_ := (Kd.R_reads' HO_149002.out).1; omega) | simpa using h_)
            obtain rfl := k40_openM hM16
            have HP16 := (Kd.R_seg HO_149002.out (x10_1 : Int) (of_decide_eq_true (by first | (with_reducible assumption) | assumption)) (by have h_ : (x10_1 : Int) < ((x149002_1.length : Int) : Int) := of_decide_eq_true (by first | (with_reducible assumption) | assumption); first | exact h_ | (have e_ := (Kd.R_reads' HO_149002.out).1; omega) | simpa using h_) (seg := [.int .i64 (wrap64 ((wrap64 (((rd_T40 x149002_1 x10_1).f3) + t141)) - 1))]) (j := 4) hcl16 hcc16 (show 5 ≤ 6 from by decide) (x' := (⟨(rd_T40 x149002_1 x10_1).f0, (rd_T40 x149002_1 x10_1).f1, (rd_T40 x149002_1 x10_1).f2, (rd_T40 x149002_1 x10_1).f3, wrap64 ((wrap64 (((rd_T40 x149002_1 x10_1).f3) + t141)) - 1), (rd_T40 x149002_1 x10_1).f5⟩ : S40)) (k40_mkM _ _ _ (⟨(rd_T40 x149002_1 x10_1).f0, (rd_T40 x149002_1 x10_1).f1, (rd_T40 x149002_1 x10_1).f2, (rd_T40 x149002_1 x10_1).f3, wrap64 ((wrap64 (((rd_T40 x149002_1 x10_1).f3) + t141)) - 1), (rd_T40 x149002_1 x10_1).f5⟩ : S40) ) (fun _ hk => hk)).1
            rw [← Ny150.out] at HP16
            have HQ16 := Aside0.mk HP16
            clear hcl16 hcc16 hfr16 hM16 HP16
            refine start_ (n := 16) (S := fun w' => w'.cell? ⟨gb148, 0, none⟩ = some (.int .i64 t141) ∧ w'.cell? ⟨gb148, 1, none⟩ = some (.slice Ao8 t142.length co8) ∧ w'.cell? ⟨gb148, 2, none⟩ = some (.slice (some ⟨go13, 0, none⟩) x149002_1.length co15) ∧ w'.cell? ⟨go13, ((x10_1).toNat * 6), none⟩ = some (.int .i64 ((rd_T40 x149002_1 x10_1).f0)) ∧ w'.cell? ⟨go13, ((x10_1).toNat * 6) + 1, none⟩ = some (.int .i64 ((rd_T40 x149002_1 x10_1).f1)) ∧ w'.cell? ⟨go13, ((x10_1).toNat * 6) + 2, none⟩ = some (.int .i64 ((rd_T40 x149002_1 x10_1).f2)) ∧ w'.cell? ⟨go13, ((x10_1).toNat * 6) + 3, none⟩ = some (.int .i64 ((rd_T40 x149002_1 x10_1).f3)) ∧ w'.cell? ⟨go13, ((x10_1).toNat * 6) + 4, none⟩ = some (.int .i64 ((rd_T40 x149002_1 x10_1).f4)) ∧ w'.cell? ⟨go13, ((x10_1).toNat * 6) + 5, none⟩ = some (.int .i64 ((rd_T40 x149002_1 x10_1).f5))) (ds := [15]) #[false, false, false, false, false, false, false, false, false, false, false, false, false, false, false, false] (by kernel_rfl) rfl rfl ⟨(blk_cell BK148.out 0).trans rfl, (blk_cell BK148.out 1).trans rfl, (blk_cell BK148.out 2).trans rfl, hx149_0, hx149_1, hx149_2, hx149_3, hx149_4, hx149_5⟩ (fun hHeld => ?_); refine with_tabW railplanlaw22_wide.tab5 railplanlaw22_wide.bits5 (fun HT_ HW_ => ?_)
            generalize wr.drew = w14 at HO_149001 HO_149002 BK140 BK148 HB GG13 HQ16 hf13_0 hf13_1 hf13_2 hf13_3 hf13_4 hf13_5 hx13_0 hx13_1 hx13_2 hx13_3 hx13_4 hx13_5 hx149_0 hx149_1 hx149_2 hx149_3 hx149_4 hx149_5 hHeld ⊢
            refine pure_ (i := 0) (N := some 13) (v := ?_) (a' := ?_) #[true, false, false, false, false, false, false, false, false, false, false, false, false, false, false, false] rfl rfl (any_of HT_.out (by kernel_rfl)) (fun _ _ _ h => h) (Or.inl ⟨by rfl, ?_⟩) ?_ ?_
            rotate_left
            · intro w'
              go_simp
              with_reducible rfl
            rotate_left
            · simp only [Act.put, List.setIfInBounds_toArray, List.set_cons_zero, List.set_cons_succ, i64_w, i32_w]
              rfl
            refine pure_ (i := 2) (N := some 15) (v := ?_) (a' := ?_) #[true, false, true, false, false, false, false, false, false, false, false, false, false, false, false, false] rfl rfl (any_of HT_.out (by kernel_rfl)) (fun _ _ _ h => h) (Or.inl ⟨by rfl, ?_⟩) ?_ ?_
            rotate_left
            · intro w'
              go_simp
              with_reducible rfl
            rotate_left
            · simp only [Act.put, List.setIfInBounds_toArray, List.set_cons_zero, List.set_cons_succ, i64_w, i32_w]
              rfl
            refine pure_ (i := 3) (N := some 16) (v := ?_) (a' := ?_) #[true, false, true, true, false, false, false, false, false, false, false, false, false, false, false, false] rfl rfl (any_of HT_.out (by kernel_rfl)) (fun _ _ _ h => h) (Or.inl ⟨by rfl, ?_⟩) ?_ ?_
            rotate_left
            · intro w'
              go_simp
              with_reducible rfl
            rotate_left
            · simp only [Act.put, List.setIfInBounds_toArray, List.set_cons_zero, List.set_cons_succ, i64_w, i32_w]
              rfl
            refine pure_ (i := 5) (N := some 18) (v := ?_) (a' := ?_) #[true, false, true, true, false, true, false, false, false, false, false, false, false, false, false, false] rfl rfl (any_of HT_.out (by kernel_rfl)) (fun _ _ _ h => h) (Or.inl ⟨by rfl, ?_⟩) ?_ ?_
            rotate_left
            · intro w'
              go_simp
              with_reducible rfl
            rotate_left
            · simp only [Act.put, List.setIfInBounds_toArray, List.set_cons_zero, List.set_cons_succ, i64_w, i32_w]
              rfl
            refine pure_ (i := 9) (N := some 22) (v := ?_) (a' := ?_) #[true, false, true, true, false, true, false, false, false, true, false, false, false, false, false, false] rfl rfl (any_of HT_.out (by kernel_rfl)) (fun _ _ _ h => h) (Or.inl ⟨by rfl, ?_⟩) ?_ ?_
            rotate_left
            · intro w'
              go_simp
              with_reducible rfl
            rotate_left
            · simp only [Act.put, List.setIfInBounds_toArray, List.set_cons_zero, List.set_cons_succ, i64_w, i32_w]
              rfl
            refine take_ (i := 1) (N := some 14) (v := ?_) (a' := ?_) #[true, true, true, true, false, true, false, false, false, true, false, false, false, false, false, false] rfl rfl (take_ofW HT_.out HW_.out (by kernel_rfl)) (fun _ _ _ h => h) (Or.inl ⟨by rfl, ?_⟩) hHeld ?_ ?_
            rotate_left
            · rintro w' ⟨s0, s1, s2, s3, s4, s5, s6, s7, s8⟩
              go_simp
              with_reducible rfl
            rotate_left
            · simp only [Act.put, List.setIfInBounds_toArray, List.set_cons_zero, List.set_cons_succ, i64_w, i32_w]
              rfl
            refine take_ (i := 4) (N := some 17) (v := ?_) (a' := ?_) #[true, true, true, true, true, true, false, false, false, true, false, false, false, false, false, false] rfl rfl (take_ofW HT_.out HW_.out (by kernel_rfl)) (fun _ _ _ h => h) (Or.inl ⟨by rfl, ?_⟩) hHeld ?_ ?_
            rotate_left
            · rintro w' ⟨s0, s1, s2, s3, s4, s5, s6, s7, s8⟩
              go_simp
              with_reducible rfl
            rotate_left
            · simp only [Act.put, List.setIfInBounds_toArray, List.set_cons_zero, List.set_cons_succ, i64_w, i32_w]
              rfl
            refine pure_ (i := 6) (N := some 19) (v := ?_) (a' := ?_) #[true, true, true, true, true, true, true, false, false, true, false, false, false, false, false, false] rfl rfl (any_of HT_.out (by kernel_rfl)) (fun _ _ _ h => h) (Or.inl ⟨by rfl, ?_⟩) ?_ ?_
            rotate_left
            · intro w'
              go_simp
              with_reducible rfl
            rotate_left
            · simp only [Act.put, List.setIfInBounds_toArray, List.set_cons_zero, List.set_cons_succ, i64_w, i32_w]
              rfl
            refine pure_ (i := 7) (N := some 20) (v := ?_) (a' := ?_) #[true, true, true, true, true, true, true, true, false, true, false, false, false, false, false, false] rfl rfl (any_of HT_.out (by kernel_rfl)) (fun _ _ _ h => h) (Or.inl ⟨by rfl, ?_⟩) ?_ ?_
            rotate_left
            · intro w'
              go_simp
              with_reducible rfl
            rotate_left
            · simp only [Act.put, List.setIfInBounds_toArray, List.set_cons_zero, List.set_cons_succ, i64_w, i32_w]
              rfl
            refine take_ (i := 8) (N := some 21) (v := ?_) (a' := ?_) #[true, true, true, true, true, true, true, true, true, true, false, false, false, false, false, false] rfl rfl (take_ofW HT_.out HW_.out (by kernel_rfl)) (fun _ _ _ h => h) (Or.inl ⟨by rfl, ?_⟩) hHeld ?_ ?_
            rotate_left
            · rintro w' ⟨s0, s1, s2, s3, s4, s5, s6, s7, s8⟩
              go_simp
              with_reducible rfl
            rotate_left
            · simp only [Act.put, List.setIfInBounds_toArray, List.set_cons_zero, List.set_cons_succ, i64_w, i32_w]
              rfl
            refine take_ (i := 10) (N := some 23) (v := ?_) (a' := ?_) #[true, true, true, true, true, true, true, true, true, true, true, false, false, false, false, false] rfl rfl (take_ofW HT_.out HW_.out (by kernel_rfl)) (fun _ _ _ h => h) (Or.inl ⟨by rfl, ?_⟩) hHeld ?_ ?_
            rotate_left
            · rintro w' ⟨s0, s1, s2, s3, s4, s5, s6, s7, s8⟩
              go_simp
              with_reducible rfl
            rotate_left
            · simp only [Act.put, List.setIfInBounds_toArray, List.set_cons_zero, List.set_cons_succ, i64_w, i32_w]
              rfl
            refine pure_ (i := 11) (N := some 24) (v := ?_) (a' := ?_) #[true, true, true, true, true, true, true, true, true, true, true, true, false, false, false, false] rfl rfl (any_of HT_.out (by kernel_rfl)) (fun _ _ _ h => h) (Or.inl ⟨by rfl, ?_⟩) ?_ ?_
            rotate_left
            · intro w'
              go_simp
              with_reducible rfl
            rotate_left
            · simp only [Act.put, List.setIfInBounds_toArray, List.set_cons_zero, List.set_cons_succ, i64_w, i32_w]
              rfl
            refine pure_ (i := 12) (N := some 25) (v := ?_) (a' := ?_) #[true, true, true, true, true, true, true, true, true, true, true, true, true, false, false, false] rfl rfl (any_of HT_.out (by kernel_rfl)) (fun _ _ _ h => h) (Or.inl ⟨by rfl, ?_⟩) ?_ ?_
            rotate_left
            · intro w'
              go_simp
              with_reducible rfl
            rotate_left
            · simp only [Act.put, List.setIfInBounds_toArray, List.set_cons_zero, List.set_cons_succ, i64_w, i32_w]
              rfl
            refine pure_ (i := 13) (N := some 26) (v := ?_) (a' := ?_) #[true, true, true, true, true, true, true, true, true, true, true, true, true, true, false, false] rfl rfl (any_of HT_.out (by kernel_rfl)) (fun _ _ _ h => h) (Or.inl ⟨by rfl, ?_⟩) ?_ ?_
            rotate_left
            · intro w'
              go_simp
              with_reducible rfl
            rotate_left
            · simp only [Act.put, List.setIfInBounds_toArray, List.set_cons_zero, List.set_cons_succ, i64_w, i32_w]
              rfl
            refine pure_ (i := 14) (N := some 27) (v := ?_) (a' := ?_) #[true, true, true, true, true, true, true, true, true, true, true, true, true, true, true, false] rfl rfl (any_of HT_.out (by kernel_rfl)) (fun _ _ _ h => h) (Or.inl ⟨by rfl, ?_⟩) ?_ ?_
            rotate_left
            · intro w'
              go_simp
              with_reducible rfl
            rotate_left
            · simp only [Act.put, List.setIfInBounds_toArray, List.set_cons_zero, List.set_cons_succ, i64_w, i32_w]
              rfl
            refine last_ (i := 15) (N := none) #[true, true, true, true, true, true, true, true, true, true, true, true, true, true, true, true] rfl rfl (one_of HT_.out (by kernel_rfl)) (by decide) (fun K hK => ?_)
            refine skip_ (w1 := ?_) (by rfl) rfl ?_ ?_
            rotate_left
            · go_simp
              rfl
            refine hK.out _ _ ?_
            clear hK K
            refine done_ (done_of HT_.out (by kernel_rfl)) ?_
            try go_wp2
            go_roundg k1
            case measure => have := HK1.out; omega
            case rel => exact ⟨(wrap64 (x10_1 + 1)), (y150), (.slice (some ⟨go13, 0, none⟩) x149002_1.length co15), (by first | rfl | (simp; done) | (simp [*]; done)), H', ⟨by have := HK1.out; omega⟩, ⟨by (with_reducible repeat (first | apply Kd.R_alloc | apply Kd.R_drewN | apply Kd.R_drew)); exact Kd.R_mono (Kd.R_far (p := ⟨go13, (x10_1 : Int).toNat * 6 + 4, none⟩) (Kd.R_types HO_149001.out GG13.out (by decide)) (fun _ hk => hk.2) (.int .i64 (wrap64 ((wrap64 (((rd_T40 x149002_1 x10_1).f3) + t141)) - 1)))) (fun _ hk => trivial)⟩, ⟨by (with_reducible repeat (first | apply Kd.R_alloc | apply Kd.R_drewN | apply Kd.R_drew)); exact HQ16.out⟩, ⟨by (with_reducible repeat (first | refine blk_drewN ?_ _ | refine blk_drew ?_ | refine blk_alloc ?_ _)); refine blk_far ?_ (by have h_ := Kd.R_ne HO_149002.out BK140.out (by decide); intro e_; exact h_ (by rw [e_]; rfl)) _; (with_reducible repeat (first | refine blk_drewN ?_ _ | refine blk_drew ?_ | refine blk_alloc ?_ _)); exact BK140.out⟩, ⟨by (with_reducible repeat (first | refine blk_drewN ?_ _ | refine blk_drew ?_ | refine blk_alloc ?_ _)); refine blk_far ?_ (by have h_ := Kd.R_ne HO_149002.out BK148.out (by decide); intro e_; exact h_ (by rw [e_]; rfl)) _; (with_reducible repeat (first | refine blk_drewN ?_ _ | refine blk_drew ?_ | refine blk_alloc ?_ _)); exact BK148.out⟩, ⟨by repeat (first | (with_reducible first | exact HB.out | apply below_alloc | apply pw_below_drewN | apply below_drew1 | refine below_set ?_ GB13.out | refine below_set ?_ GE140.out | refine below_set ?_ GE148.out) | exact HB.out)⟩⟩
          · rw [if_neg c12] at H
            exact absurd H (by simp)
        · rw [if_neg c11] at H
          exact absurd H (by simp)
      · rw [if_neg c10] at H
        have c10b0 : decide (x10_1 < (t145.length : Int)) = false := decide_eq_false c10
        clear c10
        simp only [Option.some.injEq, Prod.mk.injEq] at H
        obtain ⟨rfl, rfl, rfl⟩ := H
        have hnb17 := NB148_140.out
        have hnc17 := NB140_148.out
        have hcz18_0 : wr.cell? ⟨gb148, 0, none⟩ = some (.int .i64 t141) := (blk_cell BK148.out 0).trans rfl
        have hcz18_1 : wr.cell? ⟨gb148, 1, none⟩ = some (.slice Ao8 t142.length co8) := (blk_cell BK148.out 1).trans rfl
        have hcz18_2 : wr.cell? ⟨gb148, 2, none⟩ = some (u149002) := (blk_cell BK148.out 2).trans rfl
        have hfz18_0 := blk_frozen BK148.out 0
        have hfz18_1 := blk_frozen BK148.out 1
        have hfz18_2 := blk_frozen BK148.out 2
        have hcz19_0 : wr.cell? ⟨gb140, 0, none⟩ = some (.int .i64 0) := (blk_cell BK140.out 0).trans rfl
        have hcz19_1 : wr.cell? ⟨gb140, 1, none⟩ = some (.slice none 0 0) := (blk_cell BK140.out 1).trans rfl
        have hcz19_2 : wr.cell? ⟨gb140, 2, none⟩ = some (.slice none 0 0) := (blk_cell BK140.out 2).trans rfl
        have hfz19_0 := blk_frozen BK140.out 0
        have hfz19_1 := blk_frozen BK140.out 1
        have hfz19_2 := blk_frozen BK140.out 2
        obtain ⟨Ao20, co20, eo20⟩ := Kd.R_slice HO_149002.out
        subst eo20
        go_wp2
        refine bodyPost_ret (results_cell_row rfl _ _ gb140 26 #[.int .i64 t141, .slice Ao8 t142.length co8, .slice Ao20 x149002_1.length co20] (0, 0) _ rfl (by (with_reducible repeat (first | refine blk_drewN ?_ _ | refine blk_drew ?_ | refine blk_alloc ?_ _)); refine blk_put (cs := #[.int .i64 t141, .slice Ao8 t142.length co8, .slice none 0 0]) ?_ 2 _ rfl; (with_reducible repeat (first | refine blk_drewN ?_ _ | refine blk_drew ?_ | refine blk_alloc ?_ _)); refine blk_put (cs := #[.int .i64 t141, .slice none 0 0, .slice none 0 0]) ?_ 1 _ rfl; (with_reducible repeat (first | refine blk_drewN ?_ _ | refine blk_drew ?_ | refine blk_alloc ?_ _)); refine blk_put (cs := #[.int .i64 0, .slice none 0 0, .slice none 0 0]) ?_ 0 _ rfl; (with_reducible repeat (first | refine blk_drewN ?_ _ | refine blk_drew ?_ | refine blk_alloc ?_ _)); exact BK140.out) Try.underlying26 rfl (by kernel_rfl)) rfl ?_
        exact ⟨_, _, by first | rfl | (simp [errW_none, errW_some] <;> rfl) | (simp [*, errW_none, errW_some] <;> rfl), by (with_reducible repeat (first | apply Kd.R_alloc | apply Kd.R_drewN | apply Kd.R_drew)); exact Kd.R_mono (Kd.R_far (p := ⟨gb140, 2, none⟩) (Kd.R_far (p := ⟨gb140, 1, none⟩) (Kd.R_far (p := ⟨gb140, 0, none⟩) (Kd.R_types HO_149001.out BK140.out (by decide)) (fun _ hk => hk.2) (.int .i64 t141)) (fun _ hk => hk.2) (.slice Ao8 t142.length co8)) (fun _ hk => hk.2) (.slice Ao20 x149002_1.length co20)) (fun _ hk => trivial), by (with_reducible repeat (first | apply Kd.R_alloc | apply Kd.R_drewN | apply Kd.R_drew)); exact Kd.R_mono (Kd.R_far (p := ⟨gb140, 2, none⟩) (Kd.R_far (p := ⟨gb140, 1, none⟩) (Kd.R_far (p := ⟨gb140, 0, none⟩) (Kd.R_types HO_149002.out BK140.out (by decide)) (fun _ hk => hk.2) (.int .i64 t141)) (fun _ hk => hk.2) (.slice Ao8 t142.length co8)) (fun _ hk => hk.2) (.slice Ao20 x149002_1.length co20)) (fun _ hk => trivial), by repeat (first | (with_reducible first | exact HB.out | apply below_alloc | apply pw_below_drewN | apply below_drew1 | refine below_set ?_ GE140.out | refine below_set ?_ GE148.out) | exact HB.out)⟩

/-! ### railplankeep_Times: function 12 -/
def railplankeep_Times.l0 : Nat → List Int → Int → Int → Int → List (S59) → List (S40) → List Int → Int → Option (List Int)
  | 0, _, _, _, _, _, _, _, _ => none
  | k + 1, x6, x15, x16, x152000, x152001, x152002, x155000, x155001 => if x16 < x15 then ((railplankeep_Source_Next.f x155000 x155001 x152000).bind fun bt158 => (if 0 ≤ x16 then (if x16 < (x6.length : Int) then (railplankeep_Times.l0 k (x6.set (x16 : Int).toNat bt158.1) x15 (wrap64 (x16 + 1)) x152000 x152001 x152002 x155000 bt158.2) else (none)) else (none))) else (some x6)
def railplankeep_Times.f (k : Nat) (a0_0 : Int) (l0_1 : List (S59)) (l0_2 : List (S40)) (l1 : List Int) : Option (List Int) := (railplankeep_From.f l1).bind fun bt152 => (if 0 ≤ (l0_1.length : Int) then (if ((l0_1.length : Int) : Int).toNat ≤ 35184372088832 then ((some (List.replicate ((l0_1.length : Int) : Int).toNat 0 : List Int)).bind fun y155 => (railplankeep_Times.l0 k y155 (y155.length : Int) 0 a0_0 l0_1 l0_2 bt152.1 bt152.2)) else (none)) else (none))
theorem railplankeep_Times.mono_l : ∀ k, (∀ y0 y1 y2 y3 y4 y5 y6 y7, LeO (railplankeep_Times.l0 k y0 y1 y2 y3 y4 y5 y6 y7) (railplankeep_Times.l0 (k + 1) y0 y1 y2 y3 y4 y5 y6 y7))
  | 0 => fun _ _ _ _ _ _ _ _ r h => by simp [railplankeep_Times.l0] at h
  | k + 1 => by
    have ih0 := railplankeep_Times.mono_l k
    · intro y0 y1 y2 y3 y4 y5 y6 y7
      unfold railplankeep_Times.l0
      repeat' first
      | (with_reducible exact ih0 _ _ _ _ _ _ _ _)
      | (with_reducible exact LeO.refl _)
      | (with_reducible exact LeO.none _)
      | (with_reducible refine LeO.ite ?_ ?_)
      | (with_reducible refine LeO.bind ?_ (fun _ => ?_))
      | exact ih0 _ _ _ _ _ _ _ _
      | exact LeO.none _
      | refine LeO.ite ?_ ?_
      | refine LeO.bind ?_ (fun _ => ?_)
theorem railplankeep_Times.mono : ∀ a0 a1 a2 a3 k, LeO (railplankeep_Times.f k a0 a1 a2 a3) (railplankeep_Times.f (k + 1) a0 a1 a2 a3) := by
  intro a0 a1 a2 a3 k
  have ih0 := railplankeep_Times.mono_l k
  unfold railplankeep_Times.f
  repeat' first
      | (with_reducible exact ih0 _ _ _ _ _ _ _ _)
      | (with_reducible exact LeO.refl _)
      | (with_reducible exact LeO.none _)
      | (with_reducible refine LeO.ite ?_ ?_)
      | (with_reducible refine LeO.bind ?_ (fun _ => ?_))
      | exact ih0 _ _ _ _ _ _ _ _
      | exact LeO.none _
      | refine LeO.ite ?_ ?_
      | refine LeO.bind ?_ (fun _ => ?_)
set_option maxHeartbeats 8000000 in
set_option maxRecDepth 100000 in
theorem railplankeep_Times.calls (k : Nat) (a0_0 : Int) (A0_1 : Option Addr) (c0_1 : Nat) (l0_1 : List (S59)) (A0_2 : Option Addr) (c0_2 : Nat) (l0_2 : List (S40)) (A1 : Option Addr) (c1 : Nat) (l1 : List Int) (r : List Int) (w : World) (hr0_1 : Kd.C k59 w A0_1 l0_1.length l0_1) (hc0_1 : l0_1.length ≤ c0_1) (hr0_2 : Kd.C k40 w A0_2 l0_2.length l0_2) (hc0_2 : l0_2.length ≤ c0_2) (hr1 : Kd.C (Kd.int .i64) w A1 l1.length l1) (hc1 : l1.length ≤ c1) (h : railplankeep_Times.f k a0_0 l0_1 l0_2 l1 = some r) :
    Calls Try.prog 12 #[.agg #[.int .i64 a0_0, .slice A0_1 l0_1.length c0_1, .slice A0_2 l0_2.length c0_2], .slice A1 l1.length c1] w fun e w' => ∃ v0_ : Value, e = .returned (v0_) ∧ Kd.R (Kd.int .i64) 3 w' w.heap.size (fun _ => True) v0_ r ∧ Below w.heap.size w w' := by
  have hu26 := Try.underlying26
  have HR0_1 := Aside0.mk hr0_1
  have HC0_1 := Aside0.mk hc0_1
  clear hr0_1 hc0_1
  have HR0_2 := Aside0.mk hr0_2
  have HC0_2 := Aside0.mk hc0_2
  clear hr0_2 hc0_2
  have HR1 := Aside0.mk hr1
  have HC1 := Aside0.mk hc1
  clear hr1 hc1
  have HB := Aside0.mk (Below.refl w.heap.size w)
  have H : ((railplankeep_From.f l1).bind fun bt152 => (if 0 ≤ (l0_1.length : Int) then (if ((l0_1.length : Int) : Int).toNat ≤ 35184372088832 then ((some (List.replicate ((l0_1.length : Int) : Int).toNat 0 : List Int)).bind fun y155 => (railplankeep_Times.l0 k y155 (y155.length : Int) 0 a0_0 l0_1 l0_2 bt152.1 bt152.2)) else (none)) else (none))) = some r := h
  clear h
  replace H := Option.bind_eq_some_iff.mp H
  obtain ⟨⟨t152, t153⟩, A30, H⟩ := H
  replace H : (if 0 ≤ (l0_1.length : Int) then (if ((l0_1.length : Int) : Int).toNat ≤ 35184372088832 then ((some (List.replicate ((l0_1.length : Int) : Int).toNat 0 : List Int)).bind fun y155 => (railplankeep_Times.l0 k y155 (y155.length : Int) 0 a0_0 l0_1 l0_2 t152 t153)) else (none)) else (none)) = some r := H
  have A3 := Aside0.mk A30
  clear A30
  by_cases c4 : 0 ≤ (l0_1.length : Int)
  · rw [if_pos c4] at H
    have c4b0 := eq_true c4
    have c4b1 : decide (0 ≤ (l0_1.length : Int)) = true := decide_eq_true c4
    clear c4
    by_cases c5 : ((l0_1.length : Int) : Int).toNat ≤ 35184372088832
    · rw [if_pos c5] at H
      have c5b0 := eq_true c5
      have c5b1 : decide (((l0_1.length : Int) : Int).toNat ≤ 35184372088832) = true := decide_eq_true c5
      clear c5
      obtain ⟨y155, hy155⟩ : ∃ y_ : List Int, y_ = (List.replicate ((l0_1.length : Int) : Int).toNat 0) := ⟨_, rfl⟩
      replace H : (railplankeep_Times.l0 k y155 (y155.length : Int) 0 a0_0 l0_1 l0_2 t152 t153) = some r := by first | (rw [hy155]; with_reducible exact H) | (have H2_ := (Option.bind_some _ _).symm.trans H; rw [hy155]; with_reducible exact H2_) | (have H2_ := (Option.bind_some _ _).symm.trans H; with_reducible exact H2_) | with_reducible exact H | (rw [hy155]; exact H) | exact H
      have Ny155 := Aside0.mk hy155
      clear hy155
      have H' := Aside0.mk H
      clear H
      go_enter Try.func12, Try.ntmps12
      go_wp2_with (first | ((with_reducible refine gate_dst (N := 2) rfl ?_); refine box_event ?hg (N := 2) ?hd (cs := #[.int .i64 a0_0, .slice A0_1 l0_1.length c0_1, .slice A0_2 l0_2.length c0_2]) (t := 26) ?hr ?_; (case hd => rfl); (case hg => rfl); (case hr => first | (go_simp; done) | (go_simp; rfl)); intro gb151 hg w6 hbox hb; have n0_ := Aside0.mk (below_step (by repeat (first | (with_reducible first | exact HB.out | apply below_alloc | apply pw_below_drewN | apply below_drew1) | exact HB.out)) hb); have n1_ := Aside0.mk (hbox); have n2_ := Aside0.mk ((by rw [hg]; exact (below_size (by repeat (first | (with_reducible first | exact HB.out | apply below_alloc | apply pw_below_drewN | apply below_drew1) | exact HB.out))) : w.heap.size ≤ gb151)); have n3_ := Aside0.mk ((by rw [hg]; exact (below_size (by repeat (first | (with_reducible first | exact HB.out | apply below_alloc | apply pw_below_drewN | apply below_drew1) | exact HB.out))) : w.heap.size ≤ gb151)); clear HB; have HB := n0_; have BK151 := n1_; have GW151 := n2_; have GE151 := n3_; clear n0_ n1_ n2_ n3_; clear hb hbox hg) | ((with_reducible refine gate_callee (f := 24) rfl ?_); refine goesL_ (some 9) rfl rfl Try.func24 (by kernel_rfl) rfl #[.slice A1 l1.length c1] rfl (by (try simp only [List.map_toArray, List.map_cons, List.map_nil]); first | done | rfl | (simp only [List.length_drop, List.length_take]; rfl)) ?_; (with_reducible refine (railplankeep_From.calls _ _ l1 t152 t153 w _ ?side1 ?side2 ?side3 A3.out).mono ?_); (case side1 => repeat (first | (with_reducible first | exact HB.out | apply below_alloc | apply pw_below_drewN | apply below_drew1 | refine below_set ?_ GE151.out) | exact HB.out)); (case side2 => exact HR1.out); (case side3 => exact HC1.out); rintro e w7 ⟨g154, rfl, hi, hb, hb2⟩; refine ⟨_, rfl, ?_⟩; have n0_ := Aside0.mk (blk_below (g := gb151) (o := .cells #[.int .i64 a0_0, .slice A0_1 l0_1.length c0_1, .slice A0_2 l0_2.length c0_2] 26 (0, 0)) (by (with_reducible repeat (first | refine blk_drewN ?_ _ | refine blk_drew ?_ | refine blk_alloc ?_ _)); exact BK151.out) hb2); have n1_ := Aside0.mk (hb); have n2_ := Aside0.mk (hi); have n3_ := Aside0.mk (IsS61.ne_blk hi (blk_below (g := gb151) (o := .cells #[.int .i64 a0_0, .slice A0_1 l0_1.length c0_1, .slice A0_2 l0_2.length c0_2] 26 (0, 0)) (by (with_reducible repeat (first | refine blk_drewN ?_ _ | refine blk_drew ?_ | refine blk_alloc ?_ _)); exact BK151.out) hb2) (by decide)); have n4_ := Aside0.mk (Ne.symm (IsS61.ne_blk hi (blk_below (g := gb151) (o := .cells #[.int .i64 a0_0, .slice A0_1 l0_1.length c0_1, .slice A0_2 l0_2.length c0_2] 26 (0, 0)) (by (with_reducible repeat (first | refine blk_drewN ?_ _ | refine blk_drew ?_ | refine blk_alloc ?_ _)); exact BK151.out) hb2) (by decide))); clear BK151; clear HB; have BK151 := n0_; have HB := n1_; have HI154 := n2_; have NB154_151 := n3_; have NB151_154 := n4_; clear n0_ n1_ n2_ n3_ n4_; (try clear hb); (try clear hb2); (try clear hk); (try clear hi); have hnb8 := NB151_154.out; have hnc8 := NB154_151.out; have hcz9_0 : w7.cell? ⟨gb151, 0, none⟩ = some (.int .i64 a0_0) := (blk_cell BK151.out 0).trans rfl; have hcz9_1 : w7.cell? ⟨gb151, 1, none⟩ = some (.slice A0_1 l0_1.length c0_1) := (blk_cell BK151.out 1).trans rfl; have hcz9_2 : w7.cell? ⟨gb151, 2, none⟩ = some (.slice A0_2 l0_2.length c0_2) := (blk_cell BK151.out 2).trans rfl; have hfz9_0 := blk_frozen BK151.out 0; have hfz9_1 := blk_frozen BK151.out 1; have hfz9_2 := blk_frozen BK151.out 2) | ((with_reducible refine gate_dst (N := 13) rfl ?_); refine Kd.R_make (Kd.int .i64) _ 3 rfl (N := 13) rfl 22 _ _ rfl (l0_1.length : Int) rfl rfl Try.underlying22 (.int .i64 0) 8 info3 rfl (by decide) (by omega) 0 (ok := fun _ => True) (okp := fun _ => True) rfl (fun _ hk => hk) trivial (of_decide_eq_true (by first | (with_reducible assumption) | assumption)) (Nat.le_trans (Nat.mul_le_mul_right _ (of_decide_eq_true (by first | (with_reducible assumption) | assumption) : (l0_1.length : Int).toNat ≤ 35184372088832)) (by omega)) (Below.refl _ _) (Nat.le_refl _) ?_; intro v156 w10 ho11 hb hg_ hnew_; clear hg_ hnew_; (first | rw [← Ny155.out] at ho11 | (simp only [Int.reduceToNat] at ho11; rw [← Ny155.out] at ho11)); have n0_ := Aside0.mk (Kd.R_lower ho11 (below_size (by repeat (first | (with_reducible first | exact HB.out | apply below_alloc | apply pw_below_drewN | apply below_drew1 | refine below_set ?_ (IsS61.ge HI154.out) | refine below_set ?_ GE151.out) | exact HB.out)))); have n1_ := Aside0.mk (blk_below (g := gb151) (o := .cells #[.int .i64 a0_0, .slice A0_1 l0_1.length c0_1, .slice A0_2 l0_2.length c0_2] 26 (0, 0)) (by (with_reducible repeat (first | refine blk_drewN ?_ _ | refine blk_drew ?_ | refine blk_alloc ?_ _)); exact BK151.out) hb); have n2_ := Aside0.mk (IsS61.below (by repeat (first | (with_reducible first | exact HI154.out | apply IsS61.alloc | apply IsS61.drewN | apply IsS61.drew | apply IsS61.set_1 | refine IsS61.far ?_ NB154_151.out _) | exact HI154.out)) hb); have n3_ := Aside0.mk (below_step (by repeat (first | (with_reducible first | exact HB.out | apply below_alloc | apply pw_below_drewN | apply below_drew1 | refine below_set ?_ (IsS61.ge HI154.out) | refine below_set ?_ GE151.out) | exact HB.out)) hb); clear BK151; clear HI154; clear HB; have HO157 := n0_; have BK151 := n1_; have HI154 := n2_; have HB := n3_; clear n0_ n1_ n2_ n3_; clear hb ho11; obtain ⟨Ao12, co12, eo12⟩ := Kd.R_slice HO157.out; subst eo12))
      go_loopg [16] k (fun kq v16 w' => ∃ (x6_1 : List Int) (x16_1 : Int) (x155001_1 : Int), v16 = .int .i64 x16_1 ∧ Aside0 (railplankeep_Times.l0 kq x6_1 (y155.length : Int) x16_1 a0_0 l0_1 l0_2 t152 x155001_1 = some r) ∧ Aside0 (kq ≤ k) ∧ Aside0 (Kd.R (Kd.int .i64) 3 w' w.heap.size (fun _ => True) (.slice Ao12 y155.length co12) x6_1) ∧ Aside0 (w'.heap[gb151]? = some (.cells #[.int .i64 a0_0, (.slice A0_1 l0_1.length c0_1), (.slice A0_2 l0_2.length c0_2)] 26 (0, 0))) ∧ Aside0 (IsS61 w w' g154 t152 x155001_1) ∧ Aside0 (Below w.heap.size w w'))
      case atStart => exact ⟨(y155), (0), (t153), (by first | rfl | (simp; done) | (simp [*]; done)), H', ⟨Nat.le_refl _⟩, ⟨by (with_reducible repeat (first | apply Kd.R_alloc | apply Kd.R_drewN | apply Kd.R_drew)); exact HO157.out⟩, ⟨by (with_reducible repeat (first | refine blk_drewN ?_ _ | refine blk_drew ?_ | refine blk_alloc ?_ _)); exact BK151.out⟩, ⟨by repeat (first | (with_reducible first | exact HI154.out | apply IsS61.alloc | apply IsS61.drewN | apply IsS61.drew | apply IsS61.set_1 | refine IsS61.far ?_ NB154_151.out _) | exact HI154.out)⟩, ⟨by repeat (first | (with_reducible first | exact HB.out | apply below_alloc | apply pw_below_drewN | apply below_drew1 | refine below_set ?_ (IsS61.ge HI154.out) | refine below_set ?_ GE151.out) | exact HB.out)⟩⟩
      case round =>
        clear H'
        try clear c1
        try clear c2
        try clear p2
        try clear c4
        try clear c4b0
        try clear c4b1
        try clear c5
        try clear c5b0
        try clear c5b1
        try clear c8
        try clear c12
        try clear hcz9_0
        try clear hcz9_1
        try clear hcz9_2
        try clear hfz9_0
        try clear hfz9_1
        try clear hfz9_2
        obtain ⟨x6_1, x16_1, x155001_1, rfl, HA, HK1, HO_6, BK151, HI154, HB⟩ := hrel
        have hl6_1 := (Kd.R_reads' HO_6.out).1
        rw [hl6_1] at HO_6
        (try simp only [hl6_1])
        (try simp only [hl6_1] at BK151)
        cases gk with
        | zero => exact absurd HA.out (by simp [railplankeep_Times.l0])
        | succ k1 =>
          have H := HA.out
          clear HA
          simp only [railplankeep_Times.l0] at H
          by_cases c13 : x16_1 < (y155.length : Int)
          · rw [if_pos c13] at H
            have c13b0 : decide (x16_1 < (y155.length : Int)) = true := decide_eq_true c13
            (try simp only [hl6_1] at c13b0)
            clear c13
            replace H := Option.bind_eq_some_iff.mp H
            obtain ⟨⟨t158, t159⟩, A140, H⟩ := H
            replace H : (if 0 ≤ x16_1 then (if x16_1 < (x6_1.length : Int) then (railplankeep_Times.l0 k1 (x6_1.set (x16_1 : Int).toNat t158) (y155.length : Int) (wrap64 (x16_1 + 1)) a0_0 l0_1 l0_2 t152 t159) else (none)) else (none)) = some r := H
            have A14 := Aside0.mk A140
            clear A140
            by_cases c15 : 0 ≤ x16_1
            · rw [if_pos c15] at H
              have c15b0 : decide (0 ≤ x16_1) = true := decide_eq_true c15
              clear c15
              by_cases c16 : x16_1 < (x6_1.length : Int)
              · rw [if_pos c16] at H
                have c16b0 : decide (x16_1 < (x6_1.length : Int)) = true := decide_eq_true c16
                clear c16
                obtain ⟨y160, hy160⟩ : ∃ y_ : List Int, y_ = (x6_1.set (x16_1 : Int).toNat t158) := ⟨_, rfl⟩
                replace H : (railplankeep_Times.l0 k1 y160 (y155.length : Int) (wrap64 (x16_1 + 1)) a0_0 l0_1 l0_2 t152 t159) = some r := by first | (rw [hy160]; with_reducible exact H) | (have H2_ := (Option.bind_some _ _).symm.trans H; rw [hy160]; with_reducible exact H2_) | (have H2_ := (Option.bind_some _ _).symm.trans H; with_reducible exact H2_) | with_reducible exact H | (rw [hy160]; exact H) | exact H
                have Ny160 := Aside0.mk hy160
                clear hy160
                have H' := Aside0.mk H
                clear H
                have hnb18 := NB151_154.out
                have hnc18 := NB154_151.out
                have hcz19_0 : wr.cell? ⟨gb151, 0, none⟩ = some (.int .i64 a0_0) := (blk_cell BK151.out 0).trans rfl
                have hcz19_1 : wr.cell? ⟨gb151, 1, none⟩ = some (.slice A0_1 l0_1.length c0_1) := (blk_cell BK151.out 1).trans rfl
                have hcz19_2 : wr.cell? ⟨gb151, 2, none⟩ = some (.slice A0_2 l0_2.length c0_2) := (blk_cell BK151.out 2).trans rfl
                have hfz19_0 := blk_frozen BK151.out 0
                have hfz19_1 := blk_frozen BK151.out 1
                have hfz19_2 := blk_frozen BK151.out 2
                go_wp2_with (first | ((with_reducible refine gate_callee (f := 25) rfl ?_); refine goesL_ (some 24) rfl rfl Try.func25 (by kernel_rfl) rfl #[.pointer (some ⟨g154, 0, none⟩), .int .i64 a0_0] rfl (by (try simp only [List.map_toArray, List.map_cons, List.map_nil]); first | done | rfl | (simp only [List.length_drop, List.length_take]; rfl)) ?_; (with_reducible refine (railplankeep_Source_Next.calls g154 t152 x155001_1 a0_0 t158 t159 w _ ?side1 ?side2 A14.out).mono ?_); (case side1 => repeat (first | (with_reducible first | exact HI154.out | apply IsS61.alloc | apply IsS61.drewN | apply IsS61.drew | apply IsS61.set_1 | refine IsS61.far ?_ NB154_151.out _) | exact HI154.out)); (case side2 => repeat (first | (with_reducible first | exact HB.out | apply below_alloc | apply pw_below_drewN | apply below_drew1 | refine below_set ?_ (IsS61.ge HI154.out) | refine below_set ?_ GE151.out) | exact HB.out)); rintro e w20 ⟨rfl, hi, hb, hk⟩; refine ⟨_, rfl, ?_⟩; have n0_ := Aside0.mk (Kd.R_mono (Kd.R_keep (IsS61.apart (show IsS61 w _ g154 t152 x155001_1 from by repeat (first | (with_reducible first | exact HI154.out | apply IsS61.alloc | apply IsS61.drewN | apply IsS61.drew | apply IsS61.set_1 | refine IsS61.far ?_ NB154_151.out _) | exact HI154.out)) (by (with_reducible repeat (first | apply Kd.R_alloc | apply Kd.R_drewN | apply Kd.R_drew)); exact HO_6.out) (by decide)) hk (fun _ h => h.2)) (fun _ h => h.1)); have n1_ := Aside0.mk (KeepBut.blk hk (g' := gb151) (o := .cells #[.int .i64 a0_0, .slice A0_1 l0_1.length c0_1, .slice A0_2 l0_2.length c0_2] 26 (0, 0)) (by (with_reducible repeat (first | refine blk_drewN ?_ _ | refine blk_drew ?_ | refine blk_alloc ?_ _)); exact BK151.out) NB151_154.out (by simp)); have n2_ := Aside0.mk (hb); have n3_ := Aside0.mk (hi); clear HO_6; clear BK151; clear HB; clear HI154; have HO_6 := n0_; have BK151 := n1_; have HB := n2_; have HI154 := n3_; clear n0_ n1_ n2_ n3_; (try clear hb); (try clear hb2); (try clear hk); (try clear hi); have p17 : 0 ≤ (x16_1 : Int) := of_decide_eq_true (by first | (with_reducible assumption) | assumption); have q17 : (x16_1 : Int) < ((x6_1.length : Int) : Int) := of_decide_eq_true (by first | (with_reducible assumption) | assumption); obtain ⟨go17, co17, eo17, gb17, gl17, cl17, HG17⟩ := Kd.R_form HO_6.out (by omega); (first | cases eo17 | (injection eo17 with ea_ en_ ec_; (first | subst ea_ | (injection ea_ with ea_; subst ea_)); subst ec_; clear en_)); have GB17 := Aside0.mk gb17; have GG17 := Aside0.mk HG17; clear gb17 gl17 HG17; obtain ⟨hx17_0, hf17_0⟩ := Kd.R_celln 0 HO_6.out (x16_1 : Int) p17 q17; replace p17 := eq_true p17; replace q17 := eq_true q17; obtain ⟨hy21_, hz21_⟩ := Kd.R_celln 0 HO_6.out (x16_1 : Int) (of_decide_eq_true (by first | (with_reducible assumption) | assumption)) (of_decide_eq_true (by first | (with_reducible assumption) | assumption)); have HP21 := Kd.R_putg HO_6.out (x16_1 : Int) t158) | ((with_reducible refine gate_store (t := 3) (p := 25) rfl ?_); refine store_event (t := 3) (p := 25) (v := ?vo_w22) (w1 := (w20.setCell ⟨go17, (x16_1 : Int).toNat, none⟩ (.int .i64 t158))) ?hg ?ho ?hn ?hr ?_; (case ho => rfl); (case hg => rfl); (case hn => rfl); (case hr => first | (go_simp; done) | (go_simp; rfl)); intro w22 hw; have hg : w20.grownBy w22 (some go17) := (by rw [hw]; exact HP21.2); have hp_ : Kd.R (Kd.int .i64) 3 w22 w.heap.size (fun _ => True) (.slice (some ⟨go17, 0, none⟩) x6_1.length co12) y160 := (by rw [hw, Ny160.out]; exact HP21.1); clear HP21; have n0_ := Aside0.mk (hp_); have n1_ := Aside0.mk (blk_grown (g := gb151) (o := .cells #[.int .i64 a0_0, .slice A0_1 l0_1.length c0_1, .slice A0_2 l0_2.length c0_2] 26 (0, 0)) (by (with_reducible repeat (first | refine blk_drewN ?_ _ | refine blk_drew ?_ | refine blk_alloc ?_ _)); exact BK151.out) hg (Kd.R_ne HO_6.out BK151.out (by decide))); have n2_ := Aside0.mk (IsS61.grown (show IsS61 w _ g154 t152 t159 from by repeat (first | (with_reducible first | exact HI154.out | apply IsS61.alloc | apply IsS61.drewN | apply IsS61.drew | apply IsS61.set_1 | refine IsS61.far ?_ NB154_151.out _) | exact HI154.out)) hg (IsS61.own_ne HI154.out HO_6.out (by decide))); have n3_ := Aside0.mk ((by rw [hw]; exact below_set (HB.out) GB17.out : Below w.heap.size w w22)); clear HO_6; clear BK151; clear HI154; clear HB; have HO_6 := n0_; have BK151 := n1_; have HI154 := n2_; have HB := n3_; clear n0_ n1_ n2_ n3_; clear hg hw hp_))
                (try simp only [← hl6_1])
                go_roundg k1
                case measure => have := HK1.out; omega
                case rel => exact ⟨(y160), (wrap64 (x16_1 + 1)), (t159), (by first | rfl | (simp; done) | (simp [*]; done)), H', ⟨by have := HK1.out; omega⟩, ⟨by (try simp only [hl6_1]); (with_reducible repeat (first | apply Kd.R_alloc | apply Kd.R_drewN | apply Kd.R_drew)); exact HO_6.out⟩, ⟨by (try simp only [hl6_1]); (with_reducible repeat (first | refine blk_drewN ?_ _ | refine blk_drew ?_ | refine blk_alloc ?_ _)); exact BK151.out⟩, ⟨by repeat (first | (with_reducible first | exact HI154.out | apply IsS61.alloc | apply IsS61.drewN | apply IsS61.drew | apply IsS61.set_1 | refine IsS61.far ?_ NB154_151.out _) | exact HI154.out)⟩, ⟨by repeat (first | (with_reducible first | exact HB.out | apply below_alloc | apply pw_below_drewN | apply below_drew1 | refine below_set ?_ (IsS61.ge HI154.out) | refine below_set ?_ GE151.out) | exact HB.out)⟩⟩
              · rw [if_neg c16] at H
                exact absurd H (by simp)
            · rw [if_neg c15] at H
              exact absurd H (by simp)
          · rw [if_neg c13] at H
            have c13b0 : decide (x16_1 < (y155.length : Int)) = false := decide_eq_false c13
            (try simp only [hl6_1] at c13b0)
            clear c13
            obtain rfl := Option.some.inj H
            go_wp2
            go_ret
            exact ⟨_, by first | rfl | (simp [errW_none, errW_some] <;> rfl) | (simp [*, errW_none, errW_some] <;> rfl), by (with_reducible repeat (first | apply Kd.R_alloc | apply Kd.R_drewN | apply Kd.R_drew)); exact HO_6.out, by repeat (first | (with_reducible first | exact HB.out | apply below_alloc | apply pw_below_drewN | apply below_drew1 | refine below_set ?_ (IsS61.ge HI154.out) | refine below_set ?_ GE151.out) | exact HB.out)⟩
    · rw [if_neg c5] at H
      exact absurd H (by simp)
  · rw [if_neg c4] at H
    exact absurd H (by simp)

/-! ### network_within: function 52 -/
def network_within.f (a0 : Int) (a1 : Int) (a2 : Int) : Option (Bool) := if a0 ≥ a1 then (some (decide (a0 ≤ a2))) else (some false)
set_option maxHeartbeats 8000000 in
set_option maxRecDepth 100000 in
theorem network_within.calls (a0 : Int) (a1 : Int) (a2 : Int) (r : Bool) (w : World) (h : network_within.f a0 a1 a2 = some r) :
    Calls Try.prog 52 #[.int .i64 a0, .int .i64 a1, .int .i64 a2] w fun e w' => e = .returned (.bool r) ∧ Drawn0 w w' := by
  have H : (if a0 ≥ a1 then (some (decide (a0 ≤ a2))) else (some false)) = some r := h
  clear h
  by_cases c4 : a0 ≥ a1
  · rw [if_pos c4] at H
    have c4b0 : decide (a1 ≤ a0) = true := decide_eq_true c4
    clear c4
    obtain rfl := Option.some.inj H
    go_enter Try.func52, Try.ntmps52
    go_wp2
    go_ret
    exact ⟨by first | rfl | (simp; done) | (simp [*]; done), by repeat (first | exact Drawn0.refl _ | apply Drawn0.step)⟩
  · rw [if_neg c4] at H
    have c4b0 : decide (a1 ≤ a0) = false := decide_eq_false c4
    clear c4
    obtain rfl := Option.some.inj H
    go_enter Try.func52, Try.ntmps52
    go_wp2
    go_ret
    exact ⟨by first | rfl | (simp; done) | (simp [*]; done), by repeat (first | exact Drawn0.refl _ | apply Drawn0.step)⟩

-- NOT PRINTED: function 46 (api_Activity_46)

-- NOT PRINTED: function 55 (api_Activity_55)

end Go.Proofs.Ytfipfobadpealaa.PAll
