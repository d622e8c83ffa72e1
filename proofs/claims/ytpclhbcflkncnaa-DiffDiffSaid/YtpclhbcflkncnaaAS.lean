-- Packed by wip/tools/pack.py of this session out of what plugprint.py and the kit's print wrote. Lean checks it.
import Derived.Test.YtpclhbcflkncnaaProg
import Derived.Below
import Derived.Deep.Draws
import Derived.Deep.AppendLies
import Derived.Maps.AppendAt
import Derived.OwnWalk
import Derived.Laws.BytesArg
import Derived.Laws.MakeOwn
import Derived.Laws.OwnMore
import Derived.Deep.OwnRows
import Derived.Tactics
import Derived.Lib.ConvBytes
import Derived.Laws.Slices
import Derived.WalkKit
import Derived.KernelRfl
import Derived.RowKit3
import Derived.Deep.LoopGhost
import Derived.Deep.QuietTactic
import Derived.BigQuiet
import Derived.WideLaws
import Derived.Deep.DeepCutAuto
import Derived.Deep.CutBlock
import Derived.Deep.RegionHeld3
import Derived.Laws.Rows
import Derived.Lib.AppendStr
import Derived.ArgAppend
import Derived.Laws.IdiomCopy
import Derived.OrdersHeld
import Derived.Laws.BitsLemmas
import Derived.RowKit
import Derived.Lib.SliceRun
import Derived.Test.YtpclhbcflkncnaaAW0
namespace Go.Proofs.Ytpclhbcflkncnaa.PAll
open Go.RowKit Go.Proofs.YtpclhbcflkncnaaW.PrintWords Go.Proofs.YtpclhbcflkncnaaW.PrintLast Go.Proofs.YtpclhbcflkncnaaW.PrintMore
attribute [local go_sem] max2_int min2_int max_two min_two max_three min_three max_four min_four   -- for this text's walks alone
set_option linter.unusedVariables false
set_option linter.unusedSimpArgs false



def errW : Option Int → Value
 | none => .nilIface
 | some c => .iface 0 (.int .i64 c)
theorem errW_none : errW none = .nilIface := rfl
theorem errW_some (c : Int) : errW (some c) = .iface 0 (.int .i64 c) := rfl

theorem info3 : (Try.prog.info? 3).map (fun i => (i.zero, i.size, i.bytes)) = some (some (.int .i64 0), 1, 8) := by kernel_rfl
theorem info28 : (Try.prog.info? 28).map (fun i => (i.zero, i.size, i.bytes)) = some (some (.agg #[(.int .i64 0), (.int .i64 0), (.slice none 0 0), (.slice none 0 0)]), 4, 64) := by kernel_rfl
theorem info40 : (Try.prog.info? 40).map (fun i => (i.zero, i.size, i.bytes)) = some (some (.agg #[(.int .i64 0), (.int .i64 0), (.int .i64 0), (.slice none 0 0), (.slice none 0 0), (.int .i64 0), (.int .i64 0), (.slice none 0 0), (.slice none 0 0)]), 9, 136) := by kernel_rfl
-- many stores into one variable at once
theorem cwr_ (w : World) (g : Nat) : w.grownBy w (some g) := ⟨rfl, rfl, rfl, Nat.le_refl _, fun _ _ _ => rfl⟩
theorem cws_ {w W : World} {g i : Nat} {u : Value} (h : w.grownBy W (some g)) : w.grownBy (W.setCell ⟨g, i, none⟩ u) (some g) := ⟨h.os, h.tape, h.output, by simpa [World.setCell] using h.size, fun k hk hn => (Below.heap_setCell W ⟨g, i, none⟩ u k (fun e => hn (by rw [e]))).trans (h.block k hk hn)⟩
theorem Kd.R_gs {α : Type} {d : Kd α} {e base g : Nat} {ok : Nat → Prop} {W W1 : World} {v : Value} {xs : List α} (hG : W.grownBy W1 (some g)) (h : Kd.R d e W base ok v xs) (hok : ∀ k, ok k → k ≠ g) : Kd.R d e W1 base ok v xs := Kd.R_grown h hG (fun k hk e_ => hok k hk (Option.some.inj e_))
theorem Kd.S_gs {α : Type} {d : Kd α} {e base g : Nat} {ok : Nat → Prop} {W W1 : World} {v : Value} {xs : List α} (hG : W.grownBy W1 (some g)) (h : Kd.S d e W base ok v xs) (hok : ∀ k, ok k → k ≠ g) : Kd.S d e W1 base ok v xs := Kd.S_grown h hG (fun k hk e_ => hok k hk (Option.some.inj e_))
theorem Kd.Q_gs {α : Type} {d : Kd α} {e base g : Nat} {ok : Nat → Prop} {W W1 : World} {v : Value} {xs : List α} (hG : W.grownBy W1 (some g)) (h : Kd.Q d e W base ok v xs) (hok : ∀ k, ok k → k ≠ g) : Kd.Q d e W1 base ok v xs := Kd.Q_grown h hG (fun k hk e_ => hok k hk (Option.some.inj e_))
theorem Kd.N_gs {α : Type} {d : Kd α} {e base g : Nat} {ok : Nat → Prop} {W W1 : World} {v : Value} {xs : List α} (hG : W.grownBy W1 (some g)) (h : Kd.N d e W base ok v xs) (hok : ∀ k, ok k → k ≠ g) : Kd.N d e W1 base ok v xs := Kd.N_grown h hG (fun k hk e_ => hok k hk (Option.some.inj e_))
theorem Kd.V_gs {α : Type} {d : Kd α} {e base g : Nat} {ok : Nat → Prop} {W W1 : World} {v : Value} {xs : List α} (hG : W.grownBy W1 (some g)) (h : Kd.V d e W base ok v xs) (hok : ∀ k, ok k → k ≠ g) : Kd.V d e W1 base ok v xs := Kd.V_grown h hG (fun k hk e_ => hok k hk (Option.some.inj e_))
theorem cwb2_ {w : World} {g : Nat} {t : TypeId} {o0 o1 u0 u1 : Value} (h : w.heap[g]? = some (.cells #[o0, o1] t (0, 0))) : ((w.setCell ⟨g, 0, none⟩ u0).setCell ⟨g, 1, none⟩ u1).heap[g]? = some (.cells #[u0, u1] t (0, 0)) := by simpa only [List.setIfInBounds_toArray, List.set_cons_zero, List.set_cons_succ] using (blk_set (blk_set h 0 u0) 1 u1)
theorem cws2_ (w : World) (g : Nat) {u0 u1 : Value} : w.grownBy ((w.setCell ⟨g, 0, none⟩ u0).setCell ⟨g, 1, none⟩ u1) (some g) := (cws_ (cws_ (cwr_ w g)))
theorem cwb3_ {w : World} {g : Nat} {t : TypeId} {o0 o1 o2 u0 u1 u2 : Value} (h : w.heap[g]? = some (.cells #[o0, o1, o2] t (0, 0))) : (((w.setCell ⟨g, 0, none⟩ u0).setCell ⟨g, 1, none⟩ u1).setCell ⟨g, 2, none⟩ u2).heap[g]? = some (.cells #[u0, u1, u2] t (0, 0)) := by simpa only [List.setIfInBounds_toArray, List.set_cons_zero, List.set_cons_succ] using (blk_set (blk_set (blk_set h 0 u0) 1 u1) 2 u2)
theorem cws3_ (w : World) (g : Nat) {u0 u1 u2 : Value} : w.grownBy (((w.setCell ⟨g, 0, none⟩ u0).setCell ⟨g, 1, none⟩ u1).setCell ⟨g, 2, none⟩ u2) (some g) := (cws_ (cws_ (cws_ (cwr_ w g))))
theorem cwb4_ {w : World} {g : Nat} {t : TypeId} {o0 o1 o2 o3 u0 u1 u2 u3 : Value} (h : w.heap[g]? = some (.cells #[o0, o1, o2, o3] t (0, 0))) : ((((w.setCell ⟨g, 0, none⟩ u0).setCell ⟨g, 1, none⟩ u1).setCell ⟨g, 2, none⟩ u2).setCell ⟨g, 3, none⟩ u3).heap[g]? = some (.cells #[u0, u1, u2, u3] t (0, 0)) := by simpa only [List.setIfInBounds_toArray, List.set_cons_zero, List.set_cons_succ] using (blk_set (blk_set (blk_set (blk_set h 0 u0) 1 u1) 2 u2) 3 u3)
theorem cws4_ (w : World) (g : Nat) {u0 u1 u2 u3 : Value} : w.grownBy ((((w.setCell ⟨g, 0, none⟩ u0).setCell ⟨g, 1, none⟩ u1).setCell ⟨g, 2, none⟩ u2).setCell ⟨g, 3, none⟩ u3) (some g) := (cws_ (cws_ (cws_ (cws_ (cwr_ w g)))))
theorem cwb5_ {w : World} {g : Nat} {t : TypeId} {o0 o1 o2 o3 o4 u0 u1 u2 u3 u4 : Value} (h : w.heap[g]? = some (.cells #[o0, o1, o2, o3, o4] t (0, 0))) : (((((w.setCell ⟨g, 0, none⟩ u0).setCell ⟨g, 1, none⟩ u1).setCell ⟨g, 2, none⟩ u2).setCell ⟨g, 3, none⟩ u3).setCell ⟨g, 4, none⟩ u4).heap[g]? = some (.cells #[u0, u1, u2, u3, u4] t (0, 0)) := by simpa only [List.setIfInBounds_toArray, List.set_cons_zero, List.set_cons_succ] using (blk_set (blk_set (blk_set (blk_set (blk_set h 0 u0) 1 u1) 2 u2) 3 u3) 4 u4)
theorem cws5_ (w : World) (g : Nat) {u0 u1 u2 u3 u4 : Value} : w.grownBy (((((w.setCell ⟨g, 0, none⟩ u0).setCell ⟨g, 1, none⟩ u1).setCell ⟨g, 2, none⟩ u2).setCell ⟨g, 3, none⟩ u3).setCell ⟨g, 4, none⟩ u4) (some g) := (cws_ (cws_ (cws_ (cws_ (cws_ (cwr_ w g))))))
theorem cwb6_ {w : World} {g : Nat} {t : TypeId} {o0 o1 o2 o3 o4 o5 u0 u1 u2 u3 u4 u5 : Value} (h : w.heap[g]? = some (.cells #[o0, o1, o2, o3, o4, o5] t (0, 0))) : ((((((w.setCell ⟨g, 0, none⟩ u0).setCell ⟨g, 1, none⟩ u1).setCell ⟨g, 2, none⟩ u2).setCell ⟨g, 3, none⟩ u3).setCell ⟨g, 4, none⟩ u4).setCell ⟨g, 5, none⟩ u5).heap[g]? = some (.cells #[u0, u1, u2, u3, u4, u5] t (0, 0)) := by simpa only [List.setIfInBounds_toArray, List.set_cons_zero, List.set_cons_succ] using (blk_set (blk_set (blk_set (blk_set (blk_set (blk_set h 0 u0) 1 u1) 2 u2) 3 u3) 4 u4) 5 u5)
theorem cws6_ (w : World) (g : Nat) {u0 u1 u2 u3 u4 u5 : Value} : w.grownBy ((((((w.setCell ⟨g, 0, none⟩ u0).setCell ⟨g, 1, none⟩ u1).setCell ⟨g, 2, none⟩ u2).setCell ⟨g, 3, none⟩ u3).setCell ⟨g, 4, none⟩ u4).setCell ⟨g, 5, none⟩ u5) (some g) := (cws_ (cws_ (cws_ (cws_ (cws_ (cws_ (cwr_ w g)))))))
theorem cwb7_ {w : World} {g : Nat} {t : TypeId} {o0 o1 o2 o3 o4 o5 o6 u0 u1 u2 u3 u4 u5 u6 : Value} (h : w.heap[g]? = some (.cells #[o0, o1, o2, o3, o4, o5, o6] t (0, 0))) : (((((((w.setCell ⟨g, 0, none⟩ u0).setCell ⟨g, 1, none⟩ u1).setCell ⟨g, 2, none⟩ u2).setCell ⟨g, 3, none⟩ u3).setCell ⟨g, 4, none⟩ u4).setCell ⟨g, 5, none⟩ u5).setCell ⟨g, 6, none⟩ u6).heap[g]? = some (.cells #[u0, u1, u2, u3, u4, u5, u6] t (0, 0)) := by simpa only [List.setIfInBounds_toArray, List.set_cons_zero, List.set_cons_succ] using (blk_set (blk_set (blk_set (blk_set (blk_set (blk_set (blk_set h 0 u0) 1 u1) 2 u2) 3 u3) 4 u4) 5 u5) 6 u6)
theorem cws7_ (w : World) (g : Nat) {u0 u1 u2 u3 u4 u5 u6 : Value} : w.grownBy (((((((w.setCell ⟨g, 0, none⟩ u0).setCell ⟨g, 1, none⟩ u1).setCell ⟨g, 2, none⟩ u2).setCell ⟨g, 3, none⟩ u3).setCell ⟨g, 4, none⟩ u4).setCell ⟨g, 5, none⟩ u5).setCell ⟨g, 6, none⟩ u6) (some g) := (cws_ (cws_ (cws_ (cws_ (cws_ (cws_ (cws_ (cwr_ w g))))))))
theorem cwb8_ {w : World} {g : Nat} {t : TypeId} {o0 o1 o2 o3 o4 o5 o6 o7 u0 u1 u2 u3 u4 u5 u6 u7 : Value} (h : w.heap[g]? = some (.cells #[o0, o1, o2, o3, o4, o5, o6, o7] t (0, 0))) : ((((((((w.setCell ⟨g, 0, none⟩ u0).setCell ⟨g, 1, none⟩ u1).setCell ⟨g, 2, none⟩ u2).setCell ⟨g, 3, none⟩ u3).setCell ⟨g, 4, none⟩ u4).setCell ⟨g, 5, none⟩ u5).setCell ⟨g, 6, none⟩ u6).setCell ⟨g, 7, none⟩ u7).heap[g]? = some (.cells #[u0, u1, u2, u3, u4, u5, u6, u7] t (0, 0)) := by simpa only [List.setIfInBounds_toArray, List.set_cons_zero, List.set_cons_succ] using (blk_set (blk_set (blk_set (blk_set (blk_set (blk_set (blk_set (blk_set h 0 u0) 1 u1) 2 u2) 3 u3) 4 u4) 5 u5) 6 u6) 7 u7)
theorem cws8_ (w : World) (g : Nat) {u0 u1 u2 u3 u4 u5 u6 u7 : Value} : w.grownBy ((((((((w.setCell ⟨g, 0, none⟩ u0).setCell ⟨g, 1, none⟩ u1).setCell ⟨g, 2, none⟩ u2).setCell ⟨g, 3, none⟩ u3).setCell ⟨g, 4, none⟩ u4).setCell ⟨g, 5, none⟩ u5).setCell ⟨g, 6, none⟩ u6).setCell ⟨g, 7, none⟩ u7) (some g) := (cws_ (cws_ (cws_ (cws_ (cws_ (cws_ (cws_ (cws_ (cwr_ w g)))))))))
theorem cwb9_ {w : World} {g : Nat} {t : TypeId} {o0 o1 o2 o3 o4 o5 o6 o7 o8 u0 u1 u2 u3 u4 u5 u6 u7 u8 : Value} (h : w.heap[g]? = some (.cells #[o0, o1, o2, o3, o4, o5, o6, o7, o8] t (0, 0))) : (((((((((w.setCell ⟨g, 0, none⟩ u0).setCell ⟨g, 1, none⟩ u1).setCell ⟨g, 2, none⟩ u2).setCell ⟨g, 3, none⟩ u3).setCell ⟨g, 4, none⟩ u4).setCell ⟨g, 5, none⟩ u5).setCell ⟨g, 6, none⟩ u6).setCell ⟨g, 7, none⟩ u7).setCell ⟨g, 8, none⟩ u8).heap[g]? = some (.cells #[u0, u1, u2, u3, u4, u5, u6, u7, u8] t (0, 0)) := by simpa only [List.setIfInBounds_toArray, List.set_cons_zero, List.set_cons_succ] using (blk_set (blk_set (blk_set (blk_set (blk_set (blk_set (blk_set (blk_set (blk_set h 0 u0) 1 u1) 2 u2) 3 u3) 4 u4) 5 u5) 6 u6) 7 u7) 8 u8)
theorem cws9_ (w : World) (g : Nat) {u0 u1 u2 u3 u4 u5 u6 u7 u8 : Value} : w.grownBy (((((((((w.setCell ⟨g, 0, none⟩ u0).setCell ⟨g, 1, none⟩ u1).setCell ⟨g, 2, none⟩ u2).setCell ⟨g, 3, none⟩ u3).setCell ⟨g, 4, none⟩ u4).setCell ⟨g, 5, none⟩ u5).setCell ⟨g, 6, none⟩ u6).setCell ⟨g, 7, none⟩ u7).setCell ⟨g, 8, none⟩ u8) (some g) := (cws_ (cws_ (cws_ (cws_ (cws_ (cws_ (cws_ (cws_ (cws_ (cwr_ w g))))))))))

-- the values' own types
def rd_L1 (xs : List (List Int)) (i : Int) : (List Int) := xs.getD i.toNat ([] : List Int)
theorem at_L1 {w : World} {A : Option Addr} {n : Nat} {xs : List (List Int)} (h : Kd.C (Kd.slice 3 (Kd.int .i64)) w A n xs) (i : Int) (h0 : 0 ≤ i) (h1 : i < n) : ∃ ad A0 c0, A = some ad ∧ w.cell? (ad.add i.toNat) = some (.slice A0 (rd_L1 xs i).length c0) ∧ (rd_L1 xs i).length ≤ c0 ∧ (Kd.int .i64).C w A0 (rd_L1 xs i).length (rd_L1 xs i) := by
 obtain ⟨ad, c, e, _, hK, hc0⟩ := Kd.C_get h ([] : List Int) i h0 h1
 have hc : ∀ j u, c[j]? = some u → w.cell? (ad.add (i.toNat * 1 + j)) = some u := hc0
 obtain ⟨A0, c0, rfl, l0, g0⟩ := hK
 exact ⟨ad, A0, c0, e, by have hq := hc 0 _ rfl; rwa [Nat.mul_one, Nat.add_zero] at hq, l0, g0⟩

/-! #### struct type 28 -/
structure S28 where
 f0 : Int
 f1 : Int
 f2 : (List Int)
 f3 : (List Int)
def z28 : S28 := ⟨(0 : Int), (0 : Int), ([] : List Int), ([] : List Int)⟩
def k28 : Kd S28 := Kd.iso (Kd.pair (Kd.int .i64) (Kd.pair (Kd.int .i64) (Kd.pair (Kd.slice 3 (Kd.int .i64)) (Kd.slice 3 (Kd.int .i64))))) (fun x : S28 => (x.f0, x.f1, x.f2, x.f3))
theorem k28_heap : Kd.Heap k28 := Kd.heap_iso _ (Kd.heap_pair (Kd.heap_int .i64) (Kd.heap_pair (Kd.heap_int .i64) (Kd.heap_pair (Kd.heap_slice 3 (Kd.heap_int .i64)) (Kd.heap_slice 3 (Kd.heap_int .i64)))))
theorem k28_open {w : World} {x : S28} {cs : List Value} (h : k28.K w x cs) : ∃ A2 c2 A3 c3, cs = [.int .i64 x.f0, .int .i64 x.f1, .slice A2 x.f2.length c2, .slice A3 x.f3.length c3] ∧ x.f2.length ≤ c2 ∧ (Kd.int .i64).C w A2 x.f2.length x.f2 ∧ x.f3.length ≤ c3 ∧ (Kd.int .i64).C w A3 x.f3.length x.f3 := by
 obtain ⟨_, _, rfl, rfl, ⟨_, _, rfl, rfl, ⟨_, _, rfl, ⟨A2, c2, rfl, l2, g2⟩, ⟨A3, c3, rfl, l3, g3⟩⟩⟩⟩ := h
 exact ⟨A2, c2, A3, c3, rfl, l2, g2, l3, g3⟩
theorem k28_openM {w : World} {base : Nat} {ok : Nat → Prop} {x : S28} {cs : List Value} (h : k28.M w base ok x cs) : ∃ v2 v3, cs = [.int .i64 x.f0, .int .i64 x.f1, v2, v3] ∧ (Kd.int .i64).R 3 w base ok v2 x.f2 ∧ (Kd.int .i64).R 3 w base ok v3 x.f3 := by
 obtain ⟨_, _, rfl, rfl, ⟨_, _, rfl, rfl, ⟨_, _, rfl, ⟨v2, rfl, g2⟩, ⟨v3, rfl, g3⟩⟩⟩⟩ := h
 exact ⟨v2, v3, rfl, g2, g3⟩
theorem k28_mk (w : World) (x : S28) {A2 : Option Addr} {c2 : Nat} (l2 : x.f2.length ≤ c2) (g2 : (Kd.int .i64).C w A2 x.f2.length x.f2) {A3 : Option Addr} {c3 : Nat} (l3 : x.f3.length ≤ c3) (g3 : (Kd.int .i64).C w A3 x.f3.length x.f3) : k28.K w x [.int .i64 x.f0, .int .i64 x.f1, .slice A2 x.f2.length c2, .slice A3 x.f3.length c3] := ⟨[.int .i64 x.f0], [.int .i64 x.f1, .slice A2 x.f2.length c2, .slice A3 x.f3.length c3], rfl, rfl, ⟨[.int .i64 x.f1], [.slice A2 x.f2.length c2, .slice A3 x.f3.length c3], rfl, rfl, ⟨[.slice A2 x.f2.length c2], [.slice A3 x.f3.length c3], rfl, ⟨A2, c2, rfl, l2, g2⟩, ⟨A3, c3, rfl, l3, g3⟩⟩⟩⟩
theorem k28_mkM (w : World) (base : Nat) (ok : Nat → Prop) (x : S28) {v2 : Value} (g2 : (Kd.int .i64).R 3 w base ok v2 x.f2) {v3 : Value} (g3 : (Kd.int .i64).R 3 w base ok v3 x.f3) : k28.M w base ok x [.int .i64 x.f0, .int .i64 x.f1, v2, v3] := ⟨[.int .i64 x.f0], [.int .i64 x.f1, v2, v3], rfl, rfl, ⟨[.int .i64 x.f1], [v2, v3], rfl, rfl, ⟨[v2], [v3], rfl, ⟨v2, rfl, g2⟩, ⟨v3, rfl, g3⟩⟩⟩⟩
theorem k28_openF {W : World} {ok : Nat → Prop} {x : S28} {cs : List Value} (h : Kd.FK k28 W ok x cs) : ∃ A2 c2 A3 c3, cs = [.int .i64 x.f0, .int .i64 x.f1, .slice A2 x.f2.length c2, .slice A3 x.f3.length c3] ∧ x.f2.length ≤ c2 ∧ Kd.F (Kd.int .i64) W ok A2 x.f2.length x.f2 ∧ x.f3.length ≤ c3 ∧ Kd.F (Kd.int .i64) W ok A3 x.f3.length x.f3 := by
 obtain ⟨A2, c2, A3, c3, rfl, l2, _, l3, _⟩ := k28_open (Kd.FK_now h)
 exact ⟨A2, c2, A3, c3, rfl, l2, (fun W' hW => by obtain ⟨A2_, c2_, A3_, c3_, he, l2_, g2_, l3_, g3_⟩ := k28_open (h W' hW); injection (Option.some.inj (show some (Value.slice A2 x.f2.length c2) = some (Value.slice A2_ x.f2.length c2_) from congrArg (fun l => l[2]?) he)) with ha_ _ _; rw [ha_]; exact g2_), l3, (fun W' hW => by obtain ⟨A2_, c2_, A3_, c3_, he, l2_, g2_, l3_, g3_⟩ := k28_open (h W' hW); injection (Option.some.inj (show some (Value.slice A3 x.f3.length c3) = some (Value.slice A3_ x.f3.length c3_) from congrArg (fun l => l[3]?) he)) with ha_ _ _; rw [ha_]; exact g3_)⟩
theorem k28_mkF (W : World) (ok : Nat → Prop) (x : S28) {A2 : Option Addr} {c2 : Nat} (l2 : x.f2.length ≤ c2) (g2 : Kd.F (Kd.int .i64) W ok A2 x.f2.length x.f2) {A3 : Option Addr} {c3 : Nat} (l3 : x.f3.length ≤ c3) (g3 : Kd.F (Kd.int .i64) W ok A3 x.f3.length x.f3) : Kd.FK k28 W ok x [.int .i64 x.f0, .int .i64 x.f1, .slice A2 x.f2.length c2, .slice A3 x.f3.length c3] := fun W2 hW => k28_mk W2 x l2 (g2 W2 hW) l3 (g3 W2 hW)
def rd_T28 (xs : List S28) (i : Int) : S28 := xs.getD i.toNat z28
theorem at_T28 {w : World} {A : Option Addr} {n : Nat} {xs : List S28} (h : Kd.C k28 w A n xs) (i : Int) (h0 : 0 ≤ i) (h1 : i < n) : ∃ ad A2 c2 A3 c3, A = some ad ∧ w.cell? (ad.add (i.toNat * 4)) = some (.int .i64 (rd_T28 xs i).f0) ∧ w.cell? ⟨(ad.add (i.toNat * 4)).block, (ad.add (i.toNat * 4)).off + 1, none⟩ = some (.int .i64 (rd_T28 xs i).f1) ∧ w.cell? ⟨(ad.add (i.toNat * 4)).block, (ad.add (i.toNat * 4)).off + 2, none⟩ = some (.slice A2 (rd_T28 xs i).f2.length c2) ∧ w.cell? ⟨(ad.add (i.toNat * 4)).block, (ad.add (i.toNat * 4)).off + 3, none⟩ = some (.slice A3 (rd_T28 xs i).f3.length c3) ∧ (rd_T28 xs i).f2.length ≤ c2 ∧ (Kd.int .i64).C w A2 (rd_T28 xs i).f2.length (rd_T28 xs i).f2 ∧ (rd_T28 xs i).f3.length ≤ c3 ∧ (Kd.int .i64).C w A3 (rd_T28 xs i).f3.length (rd_T28 xs i).f3 := by
 obtain ⟨ad, c, e, _, hK, hc0⟩ := Kd.C_get h z28 i h0 h1
 have hc : ∀ j u, c[j]? = some u → w.cell? (ad.add (i.toNat * 4 + j)) = some u := hc0
 obtain ⟨A2, c2, A3, c3, rfl, l2, g2, l3, g3⟩ := k28_open hK
 exact ⟨ad, A2, c2, A3, c3, e, hc 0 _ rfl, by rw [← add_field _ _ 1 (by omega)]; exact hc 1 _ rfl, by rw [← add_field _ _ 2 (by omega)]; exact hc 2 _ rfl, by rw [← add_field _ _ 3 (by omega)]; exact hc 3 _ rfl, l2, g2, l3, g3⟩

/-! #### struct type 40 -/
structure S40 where
 f0 : Int
 f1 : S28
 f2 : S28
def z40 : S40 := ⟨(0 : Int), z28, z28⟩
def k40 : Kd S40 := Kd.iso (Kd.pair (Kd.int .i64) (Kd.pair k28 k28)) (fun x : S40 => (x.f0, x.f1, x.f2))
theorem k40_heap : Kd.Heap k40 := Kd.heap_iso _ (Kd.heap_pair (Kd.heap_int .i64) (Kd.heap_pair k28_heap k28_heap))
theorem k40_open {w : World} {x : S40} {cs : List Value} (h : k40.K w x cs) : ∃ A3 c3 A4 c4 A7 c7 A8 c8, cs = [.int .i64 x.f0, .int .i64 x.f1.f0, .int .i64 x.f1.f1, .slice A3 x.f1.f2.length c3, .slice A4 x.f1.f3.length c4, .int .i64 x.f2.f0, .int .i64 x.f2.f1, .slice A7 x.f2.f2.length c7, .slice A8 x.f2.f3.length c8] ∧ x.f1.f2.length ≤ c3 ∧ (Kd.int .i64).C w A3 x.f1.f2.length x.f1.f2 ∧ x.f1.f3.length ≤ c4 ∧ (Kd.int .i64).C w A4 x.f1.f3.length x.f1.f3 ∧ x.f2.f2.length ≤ c7 ∧ (Kd.int .i64).C w A7 x.f2.f2.length x.f2.f2 ∧ x.f2.f3.length ≤ c8 ∧ (Kd.int .i64).C w A8 x.f2.f3.length x.f2.f3 := by
 obtain ⟨_, _, rfl, rfl, ⟨_, _, rfl, s1, s5⟩⟩ := h
 obtain ⟨A3, c3, A4, c4, rfl, l3, g3, l4, g4⟩ := k28_open s1
 obtain ⟨A7, c7, A8, c8, rfl, l7, g7, l8, g8⟩ := k28_open s5
 exact ⟨A3, c3, A4, c4, A7, c7, A8, c8, rfl, l3, g3, l4, g4, l7, g7, l8, g8⟩
theorem k40_openM {w : World} {base : Nat} {ok : Nat → Prop} {x : S40} {cs : List Value} (h : k40.M w base ok x cs) : ∃ v3 v4 v7 v8, cs = [.int .i64 x.f0, .int .i64 x.f1.f0, .int .i64 x.f1.f1, v3, v4, .int .i64 x.f2.f0, .int .i64 x.f2.f1, v7, v8] ∧ (Kd.int .i64).R 3 w base ok v3 x.f1.f2 ∧ (Kd.int .i64).R 3 w base ok v4 x.f1.f3 ∧ (Kd.int .i64).R 3 w base ok v7 x.f2.f2 ∧ (Kd.int .i64).R 3 w base ok v8 x.f2.f3 := by
 obtain ⟨_, _, rfl, rfl, ⟨_, _, rfl, s1, s5⟩⟩ := h
 obtain ⟨v3, v4, rfl, g3, g4⟩ := k28_openM s1
 obtain ⟨v7, v8, rfl, g7, g8⟩ := k28_openM s5
 exact ⟨v3, v4, v7, v8, rfl, g3, g4, g7, g8⟩
theorem k40_mk (w : World) (x : S40) {A3 : Option Addr} {c3 : Nat} (l3 : x.f1.f2.length ≤ c3) (g3 : (Kd.int .i64).C w A3 x.f1.f2.length x.f1.f2) {A4 : Option Addr} {c4 : Nat} (l4 : x.f1.f3.length ≤ c4) (g4 : (Kd.int .i64).C w A4 x.f1.f3.length x.f1.f3) {A7 : Option Addr} {c7 : Nat} (l7 : x.f2.f2.length ≤ c7) (g7 : (Kd.int .i64).C w A7 x.f2.f2.length x.f2.f2) {A8 : Option Addr} {c8 : Nat} (l8 : x.f2.f3.length ≤ c8) (g8 : (Kd.int .i64).C w A8 x.f2.f3.length x.f2.f3) : k40.K w x [.int .i64 x.f0, .int .i64 x.f1.f0, .int .i64 x.f1.f1, .slice A3 x.f1.f2.length c3, .slice A4 x.f1.f3.length c4, .int .i64 x.f2.f0, .int .i64 x.f2.f1, .slice A7 x.f2.f2.length c7, .slice A8 x.f2.f3.length c8] := ⟨[.int .i64 x.f0], [.int .i64 x.f1.f0, .int .i64 x.f1.f1, .slice A3 x.f1.f2.length c3, .slice A4 x.f1.f3.length c4, .int .i64 x.f2.f0, .int .i64 x.f2.f1, .slice A7 x.f2.f2.length c7, .slice A8 x.f2.f3.length c8], rfl, rfl, ⟨[.int .i64 x.f1.f0, .int .i64 x.f1.f1, .slice A3 x.f1.f2.length c3, .slice A4 x.f1.f3.length c4], [.int .i64 x.f2.f0, .int .i64 x.f2.f1, .slice A7 x.f2.f2.length c7, .slice A8 x.f2.f3.length c8], rfl, (k28_mk w x.f1 l3 g3 l4 g4), (k28_mk w x.f2 l7 g7 l8 g8)⟩⟩
theorem k40_mkM (w : World) (base : Nat) (ok : Nat → Prop) (x : S40) {v3 : Value} (g3 : (Kd.int .i64).R 3 w base ok v3 x.f1.f2) {v4 : Value} (g4 : (Kd.int .i64).R 3 w base ok v4 x.f1.f3) {v7 : Value} (g7 : (Kd.int .i64).R 3 w base ok v7 x.f2.f2) {v8 : Value} (g8 : (Kd.int .i64).R 3 w base ok v8 x.f2.f3) : k40.M w base ok x [.int .i64 x.f0, .int .i64 x.f1.f0, .int .i64 x.f1.f1, v3, v4, .int .i64 x.f2.f0, .int .i64 x.f2.f1, v7, v8] := ⟨[.int .i64 x.f0], [.int .i64 x.f1.f0, .int .i64 x.f1.f1, v3, v4, .int .i64 x.f2.f0, .int .i64 x.f2.f1, v7, v8], rfl, rfl, ⟨[.int .i64 x.f1.f0, .int .i64 x.f1.f1, v3, v4], [.int .i64 x.f2.f0, .int .i64 x.f2.f1, v7, v8], rfl, (k28_mkM w base ok x.f1 g3 g4), (k28_mkM w base ok x.f2 g7 g8)⟩⟩
theorem k40_openF {W : World} {ok : Nat → Prop} {x : S40} {cs : List Value} (h : Kd.FK k40 W ok x cs) : ∃ A3 c3 A4 c4 A7 c7 A8 c8, cs = [.int .i64 x.f0, .int .i64 x.f1.f0, .int .i64 x.f1.f1, .slice A3 x.f1.f2.length c3, .slice A4 x.f1.f3.length c4, .int .i64 x.f2.f0, .int .i64 x.f2.f1, .slice A7 x.f2.f2.length c7, .slice A8 x.f2.f3.length c8] ∧ x.f1.f2.length ≤ c3 ∧ Kd.F (Kd.int .i64) W ok A3 x.f1.f2.length x.f1.f2 ∧ x.f1.f3.length ≤ c4 ∧ Kd.F (Kd.int .i64) W ok A4 x.f1.f3.length x.f1.f3 ∧ x.f2.f2.length ≤ c7 ∧ Kd.F (Kd.int .i64) W ok A7 x.f2.f2.length x.f2.f2 ∧ x.f2.f3.length ≤ c8 ∧ Kd.F (Kd.int .i64) W ok A8 x.f2.f3.length x.f2.f3 := by
 obtain ⟨A3, c3, A4, c4, A7, c7, A8, c8, rfl, l3, _, l4, _, l7, _, l8, _⟩ := k40_open (Kd.FK_now h)
 exact ⟨A3, c3, A4, c4, A7, c7, A8, c8, rfl, l3, (fun W' hW => by obtain ⟨A3_, c3_, A4_, c4_, A7_, c7_, A8_, c8_, he, l3_, g3_, l4_, g4_, l7_, g7_, l8_, g8_⟩ := k40_open (h W' hW); injection (Option.some.inj (show some (Value.slice A3 x.f1.f2.length c3) = some (Value.slice A3_ x.f1.f2.length c3_) from congrArg (fun l => l[3]?) he)) with ha_ _ _; rw [ha_]; exact g3_), l4, (fun W' hW => by obtain ⟨A3_, c3_, A4_, c4_, A7_, c7_, A8_, c8_, he, l3_, g3_, l4_, g4_, l7_, g7_, l8_, g8_⟩ := k40_open (h W' hW); injection (Option.some.inj (show some (Value.slice A4 x.f1.f3.length c4) = some (Value.slice A4_ x.f1.f3.length c4_) from congrArg (fun l => l[4]?) he)) with ha_ _ _; rw [ha_]; exact g4_), l7, (fun W' hW => by obtain ⟨A3_, c3_, A4_, c4_, A7_, c7_, A8_, c8_, he, l3_, g3_, l4_, g4_, l7_, g7_, l8_, g8_⟩ := k40_open (h W' hW); injection (Option.some.inj (show some (Value.slice A7 x.f2.f2.length c7) = some (Value.slice A7_ x.f2.f2.length c7_) from congrArg (fun l => l[7]?) he)) with ha_ _ _; rw [ha_]; exact g7_), l8, (fun W' hW => by obtain ⟨A3_, c3_, A4_, c4_, A7_, c7_, A8_, c8_, he, l3_, g3_, l4_, g4_, l7_, g7_, l8_, g8_⟩ := k40_open (h W' hW); injection (Option.some.inj (show some (Value.slice A8 x.f2.f3.length c8) = some (Value.slice A8_ x.f2.f3.length c8_) from congrArg (fun l => l[8]?) he)) with ha_ _ _; rw [ha_]; exact g8_)⟩
theorem k40_mkF (W : World) (ok : Nat → Prop) (x : S40) {A3 : Option Addr} {c3 : Nat} (l3 : x.f1.f2.length ≤ c3) (g3 : Kd.F (Kd.int .i64) W ok A3 x.f1.f2.length x.f1.f2) {A4 : Option Addr} {c4 : Nat} (l4 : x.f1.f3.length ≤ c4) (g4 : Kd.F (Kd.int .i64) W ok A4 x.f1.f3.length x.f1.f3) {A7 : Option Addr} {c7 : Nat} (l7 : x.f2.f2.length ≤ c7) (g7 : Kd.F (Kd.int .i64) W ok A7 x.f2.f2.length x.f2.f2) {A8 : Option Addr} {c8 : Nat} (l8 : x.f2.f3.length ≤ c8) (g8 : Kd.F (Kd.int .i64) W ok A8 x.f2.f3.length x.f2.f3) : Kd.FK k40 W ok x [.int .i64 x.f0, .int .i64 x.f1.f0, .int .i64 x.f1.f1, .slice A3 x.f1.f2.length c3, .slice A4 x.f1.f3.length c4, .int .i64 x.f2.f0, .int .i64 x.f2.f1, .slice A7 x.f2.f2.length c7, .slice A8 x.f2.f3.length c8] := fun W2 hW => k40_mk W2 x l3 (g3 W2 hW) l4 (g4 W2 hW) l7 (g7 W2 hW) l8 (g8 W2 hW)
def rd_T40 (xs : List S40) (i : Int) : S40 := xs.getD i.toNat z40
theorem at_T40 {w : World} {A : Option Addr} {n : Nat} {xs : List S40} (h : Kd.C k40 w A n xs) (i : Int) (h0 : 0 ≤ i) (h1 : i < n) : ∃ ad A3 c3 A4 c4 A7 c7 A8 c8, A = some ad ∧ w.cell? (ad.add (i.toNat * 9)) = some (.int .i64 (rd_T40 xs i).f0) ∧ w.cell? ⟨(ad.add (i.toNat * 9)).block, (ad.add (i.toNat * 9)).off + 1, none⟩ = some (.int .i64 (rd_T40 xs i).f1.f0) ∧ w.cell? ⟨(ad.add (i.toNat * 9)).block, (ad.add (i.toNat * 9)).off + 2, none⟩ = some (.int .i64 (rd_T40 xs i).f1.f1) ∧ w.cell? ⟨(ad.add (i.toNat * 9)).block, (ad.add (i.toNat * 9)).off + 3, none⟩ = some (.slice A3 (rd_T40 xs i).f1.f2.length c3) ∧ w.cell? ⟨(ad.add (i.toNat * 9)).block, (ad.add (i.toNat * 9)).off + 4, none⟩ = some (.slice A4 (rd_T40 xs i).f1.f3.length c4) ∧ w.cell? ⟨(ad.add (i.toNat * 9)).block, (ad.add (i.toNat * 9)).off + 5, none⟩ = some (.int .i64 (rd_T40 xs i).f2.f0) ∧ w.cell? ⟨(ad.add (i.toNat * 9)).block, (ad.add (i.toNat * 9)).off + 6, none⟩ = some (.int .i64 (rd_T40 xs i).f2.f1) ∧ w.cell? ⟨(ad.add (i.toNat * 9)).block, (ad.add (i.toNat * 9)).off + 7, none⟩ = some (.slice A7 (rd_T40 xs i).f2.f2.length c7) ∧ w.cell? ⟨(ad.add (i.toNat * 9)).block, (ad.add (i.toNat * 9)).off + 8, none⟩ = some (.slice A8 (rd_T40 xs i).f2.f3.length c8) ∧ (rd_T40 xs i).f1.f2.length ≤ c3 ∧ (Kd.int .i64).C w A3 (rd_T40 xs i).f1.f2.length (rd_T40 xs i).f1.f2 ∧ (rd_T40 xs i).f1.f3.length ≤ c4 ∧ (Kd.int .i64).C w A4 (rd_T40 xs i).f1.f3.length (rd_T40 xs i).f1.f3 ∧ (rd_T40 xs i).f2.f2.length ≤ c7 ∧ (Kd.int .i64).C w A7 (rd_T40 xs i).f2.f2.length (rd_T40 xs i).f2.f2 ∧ (rd_T40 xs i).f2.f3.length ≤ c8 ∧ (Kd.int .i64).C w A8 (rd_T40 xs i).f2.f3.length (rd_T40 xs i).f2.f3 := by
 obtain ⟨ad, c, e, _, hK, hc0⟩ := Kd.C_get h z40 i h0 h1
 have hc : ∀ j u, c[j]? = some u → w.cell? (ad.add (i.toNat * 9 + j)) = some u := hc0
 obtain ⟨A3, c3, A4, c4, A7, c7, A8, c8, rfl, l3, g3, l4, g4, l7, g7, l8, g8⟩ := k40_open hK
 exact ⟨ad, A3, c3, A4, c4, A7, c7, A8, c8, e, hc 0 _ rfl, by rw [← add_field _ _ 1 (by omega)]; exact hc 1 _ rfl, by rw [← add_field _ _ 2 (by omega)]; exact hc 2 _ rfl, by rw [← add_field _ _ 3 (by omega)]; exact hc 3 _ rfl, by rw [← add_field _ _ 4 (by omega)]; exact hc 4 _ rfl, by rw [← add_field _ _ 5 (by omega)]; exact hc 5 _ rfl, by rw [← add_field _ _ 6 (by omega)]; exact hc 6 _ rfl, by rw [← add_field _ _ 7 (by omega)]; exact hc 7 _ rfl, by rw [← add_field _ _ 8 (by omega)]; exact hc 8 _ rfl, l3, g3, l4, g4, l7, g7, l8, g8⟩

theorem be_ {α β : Type} {x : Option α} {f : α → Option β} {b : β} (h : x.bind f = some b) : ∃ a, x = some a ∧ f a = some b := Option.bind_eq_some_iff.mp h
abbrev tT : Bool := true
abbrev tF : Bool := false
theorem Lx_ : type_of% @List.setIfInBounds_toArray := @List.setIfInBounds_toArray
theorem Ly_ : type_of% @List.set_cons_zero := @List.set_cons_zero
theorem Lz_ : type_of% @List.set_cons_succ := @List.set_cons_succ
theorem am_ : type_of% @Aside0.mk := @Aside0.mk
theorem bN_ : type_of% @pw_below_drewN := @pw_below_drewN
theorem bA_ : type_of% @below_alloc := @below_alloc
theorem b1_ : type_of% @below_drew1 := @below_drew1
theorem bS_ : type_of% @below_set := @below_set
theorem bs_ : type_of% @below_step := @below_step
theorem bz_ : type_of% @below_size := @below_size
theorem kA_ : type_of% @blk_alloc := @blk_alloc
theorem kN_ : type_of% @blk_drewN := @blk_drewN
theorem kD_ : type_of% @blk_drew := @blk_drew
theorem kF_ : type_of% @blk_frozen := @blk_frozen
theorem kB_ : type_of% @blk_below := @blk_below
theorem kC_ : type_of% @blk_cell := @blk_cell
theorem CA_ : type_of% @Kd.C_alloc := @Kd.C_alloc
theorem CN_ : type_of% @Kd.C_drewN := @Kd.C_drewN
theorem CD_ : type_of% @Kd.C_drew := @Kd.C_drew
theorem RA_ : type_of% @Kd.R_alloc := @Kd.R_alloc
theorem RN_ : type_of% @Kd.R_drewN := @Kd.R_drewN
theorem RD_ : type_of% @Kd.R_drew := @Kd.R_drew
theorem RT_ : type_of% @Kd.R_types := @Kd.R_types
theorem RM_ : type_of% @Kd.R_mono := @Kd.R_mono
theorem RR_ : type_of% @Kd.R_reads' := @Kd.R_reads'
theorem CB_ : type_of% @Kd.C_below := @Kd.C_below
theorem RL_ : type_of% @Kd.R_lower := @Kd.R_lower
theorem RS_ : type_of% @Kd.R_slice := @Kd.R_slice
theorem gc_ : type_of% @gate_callee := @gate_callee
theorem gd_ : type_of% @gate_dst := @gate_dst
theorem wl_ : type_of% @World.block_lt_of_cell? := @World.block_lt_of_cell?
/-- A state of type 69 at block g of W; what its slices lead to came in by w0. -/
def IsS69 (w0 W : World) (g : Nat) (f0 : List Int) (f1 : Int) : Prop := ∃ A0 c0, W.heap[g]? = some (.cells #[.slice A0 f0.length c0, .int .i64 f1] 69 (0, 0)) ∧ w0.heap.size ≤ g ∧ Kd.C (Kd.int .i64) w0 A0 f0.length f0
theorem IsS69.grown {w0 W : World} {g : Nat} {f0 : List Int} {f1 : Int} {W1 : World} {row : Option Nat} (h : IsS69 w0 W g f0 f1) (hw : W.grownBy W1 row) (hne : some g ≠ row) : IsS69 w0 W1 g f0 f1 := by
 obtain ⟨A0, c0, hb, hg, hr0⟩ := h
 exact ⟨A0, c0, blk_grown hb hw hne, hg, hr0⟩
theorem IsS69.own_neN {w0 W : World} {g : Nat} {f0 : List Int} {f1 : Int} {α : Type} {d : Kd α} {e : Nat} {base : Nat} {ok : Nat → Prop} {v : Value} {xs : List α} (h : IsS69 w0 W g f0 f1) (ho : Kd.N d e W base ok v xs) (ht : e ≠ 69) : some g ≠ v.ownBlock := by
 obtain ⟨A0, c0, hb, hg, hr0⟩ := h
 exact Kd.N_ne ho hb ht
theorem IsS69.fresh {w0 W : World} {g : Nat} {f0 : List Int} {f1 : Int} (h : IsS69 w0 W g f0 f1) : ∀ k, W.heap.size ≤ k → k ≠ g := by
 obtain ⟨A0, c0, hb, hg, hr0⟩ := h
 exact Kd.freshB hb
theorem IsS69.kept {w0 W : World} {g : Nat} {f0 : List Int} {f1 : Int} {W1 : World} {S : Nat → Prop} (h : IsS69 w0 W g f0 f1) (hk : Kept W W1 S) (hne : ¬ S g) : IsS69 w0 W1 g f0 f1 := by
 obtain ⟨A0, c0, hb, hg, hr0⟩ := h
 exact ⟨A0, c0, blk_kept hb hk hne, hg, hr0⟩
theorem IsS69.below {w0 W : World} {g : Nat} {f0 : List Int} {f1 : Int} {W1 : World} (h : IsS69 w0 W g f0 f1) (hw : Below W.heap.size W W1) : IsS69 w0 W1 g f0 f1 := h.grown (grown_of_below hw none) (by simp)
theorem IsS69.alloc {w0 W : World} {g : Nat} {f0 : List Int} {f1 : Int} (h : IsS69 w0 W g f0 f1) (o : Obj) : IsS69 w0 (W.alloc o) g f0 f1 := h.below (below_alloc (Below.refl _ _) o)
theorem IsS69.drewN {w0 W : World} {g : Nat} {f0 : List Int} {f1 : Int} (h : IsS69 w0 W g f0 f1) (m : Nat) : IsS69 w0 (W.drewN m) g f0 f1 := h
theorem IsS69.drew {w0 W : World} {g : Nat} {f0 : List Int} {f1 : Int} (h : IsS69 w0 W g f0 f1) : IsS69 w0 W.drew g f0 f1 := h
theorem IsS69.at_ {w0 W : World} {g : Nat} {f0 : List Int} {f1 : Int} {w' : World} {m : Nat} (hq : W.drewN m = w') (h : IsS69 w0 W g f0 f1) : IsS69 w0 w' g f0 f1 := by subst hq; exact IsS69.drewN h m
theorem IsS69.apart {w0 W : World} {g : Nat} {f0 : List Int} {f1 : Int} {α : Type} {d : Kd α} {e : Nat} {base : Nat} {ok : Nat → Prop} {v : Value} {xs : List α} (h : IsS69 w0 W g f0 f1) (ho : d.R e W base ok v xs) (ht : ∀ q, q ∈ e :: d.E → q ≠ 69) : d.R e W base (fun k => ok k ∧ k ≠ g) v xs := by
 obtain ⟨A0, c0, hb, hg, hr0⟩ := h
 exact Kd.R_types ho hb ht
theorem IsS69.own_ne {w0 W : World} {g : Nat} {f0 : List Int} {f1 : Int} {α : Type} {d : Kd α} {e : Nat} {base : Nat} {ok : Nat → Prop} {v : Value} {xs : List α} (h : IsS69 w0 W g f0 f1) (ho : d.R e W base ok v xs) (ht : e ≠ 69) : some g ≠ v.ownBlock := by
 obtain ⟨A0, c0, hb, hg, hr0⟩ := h
 exact Kd.R_ne ho hb ht
theorem IsS69.apartQ {w0 W : World} {g : Nat} {f0 : List Int} {f1 : Int} {α : Type} {d : Kd α} {e : Nat} {base : Nat} {ok : Nat → Prop} {v : Value} {xs : List α} (h : IsS69 w0 W g f0 f1) (ho : d.Q e W base ok v xs) (ht : ∀ q, q ∈ e :: d.E → q ≠ 69) : d.Q e W base (fun k => ok k ∧ k ≠ g) v xs := by
 obtain ⟨A0, c0, hb, hg, hr0⟩ := h
 exact Kd.Q_types ho hb ht
theorem IsS69.own_neQ {w0 W : World} {g : Nat} {f0 : List Int} {f1 : Int} {α : Type} {d : Kd α} {e : Nat} {base : Nat} {ok : Nat → Prop} {v : Value} {xs : List α} (h : IsS69 w0 W g f0 f1) (ho : d.Q e W base ok v xs) (ht : e ≠ 69) : some g ≠ v.ownBlock := by
 obtain ⟨A0, c0, hb, hg, hr0⟩ := h
 exact Kd.Q_ne ho hb ht
theorem IsS69.apartS {w0 W : World} {g : Nat} {f0 : List Int} {f1 : Int} {α : Type} {d : Kd α} {e : Nat} {base : Nat} {ok : Nat → Prop} {v : Value} {xs : List α} (h : IsS69 w0 W g f0 f1) (ho : d.S e W base ok v xs) (ht : ∀ q, q ∈ e :: d.E → q ≠ 69) : d.S e W base (fun k => ok k ∧ k ≠ g) v xs := by
 obtain ⟨A0, c0, hb, hg, hr0⟩ := h
 exact Kd.S_types ho hb ht
theorem IsS69.own_neS {w0 W : World} {g : Nat} {f0 : List Int} {f1 : Int} {α : Type} {d : Kd α} {e : Nat} {base : Nat} {ok : Nat → Prop} {v : Value} {xs : List α} (h : IsS69 w0 W g f0 f1) (ho : d.S e W base ok v xs) (ht : e ≠ 69) : some g ≠ v.ownBlock := by
 obtain ⟨A0, c0, hb, hg, hr0⟩ := h
 exact Kd.S_ne ho hb ht
theorem IsS69.lt {w0 W : World} {g : Nat} {f0 : List Int} {f1 : Int} (h : IsS69 w0 W g f0 f1) : g < W.heap.size := by
 obtain ⟨A0, c0, hb, hg, hr0⟩ := h
 exact blk_lt hb
theorem IsS69.ge {w0 W : World} {g : Nat} {f0 : List Int} {f1 : Int} (h : IsS69 w0 W g f0 f1) : w0.heap.size ≤ g := by
 obtain ⟨A0, c0, hb, hg, hr0⟩ := h
 exact hg
theorem IsS69.ne_blk {w0 W : World} {g : Nat} {f0 : List Int} {f1 : Int} {a : Nat} {cs : Array Value} {t : TypeId} {fr : Nat × Nat} (h : IsS69 w0 W g f0 f1) (hb2 : W.heap[a]? = some (.cells cs t fr)) (ht : t ≠ 69) : g ≠ a := by
 obtain ⟨A0, c0, hb, hg, hr0⟩ := h
 rintro rfl
 rw [hb] at hb2
 injection hb2 with hb2
 injection hb2 with _ ht2
 exact ht ht2.symm
theorem IsS69.far {w0 W : World} {g : Nat} {f0 : List Int} {f1 : Int} {p : Addr} (h : IsS69 w0 W g f0 f1) (hne : g ≠ p.block) (u : Value) : IsS69 w0 (W.setCell p u) g f0 f1 := by
 obtain ⟨A0, c0, hb, hg, hr0⟩ := h
 exact ⟨A0, c0, blk_far hb hne u, hg, hr0⟩
theorem cellS69_0 {W : World} {g : Nat} {A0 : Option Addr} {c0 : Nat} {f0 : List Int} {f1 : Int} (h : W.heap[g]? = some (.cells #[.slice A0 f0.length c0, .int .i64 f1] 69 (0, 0))) : W.cell? ⟨g, 0, none⟩ = some (.slice A0 f0.length c0) := (blk_cell h 0).trans rfl
theorem cellS69_1 {W : World} {g : Nat} {A0 : Option Addr} {c0 : Nat} {f0 : List Int} {f1 : Int} (h : W.heap[g]? = some (.cells #[.slice A0 f0.length c0, .int .i64 f1] 69 (0, 0))) : W.cell? ⟨g, 1, none⟩ = some (.int .i64 f1) := (blk_cell h 1).trans rfl
theorem IsS69.set_1 {w0 W : World} {g : Nat} {f0 : List Int} {f1 : Int} (h : IsS69 w0 W g f0 f1) (x : Int) : IsS69 w0 (W.setCell ⟨g, 1, none⟩ (.int .i64 x)) g f0 x := by
 obtain ⟨A0, c0, hb, hg, hr0⟩ := h
 exact ⟨A0, c0, by simpa using blk_set hb 1 (.int .i64 x), hg, hr0⟩
theorem IsS69.new (w0 W : World) (A0 : Option Addr) (c0 : Nat) (f0 : List Int) (f1 : Int) (hB : Below w0.heap.size w0 W) (hr0 : Kd.C (Kd.int .i64) w0 A0 f0.length f0) : IsS69 w0 (W.alloc (.cells #[.slice A0 f0.length c0, .int .i64 f1] 69)) W.heap.size f0 f1 := ⟨A0, c0, by simpa using heap_alloc_new W _, hB.size, hr0⟩

theorem bsn_ {α β : Type} {e y : α} {f : α → Option β} {b : β} (h : (some e).bind f = some b) (hy : y = e) : f y = some b:=hy ▸ h
section
variable {P : Program} {md : Region.Mode} {ops : Array Oper} {Q : Exit → Act → World → Prop} {S : World → Prop} {ds : List Nat}
theorem pu_ (i : Nat) (N : Tmp) {oi : Oper} {v : Value} {fuel : Nat} {l : Array Bool} {a : Act} {w : World} (l' : Array Bool) {a' : Act} (h : wpAnyLast P md ops Q S ds fuel l' a' w)
  (hi : ops[i]? = some oi:=by rfl) (hN : oi.dst = some N:=by rfl) (hc : anyB md ops l l' i = true:=by exact any_of HT_.out (by kernel_rfl)) (hQ : ∀ c a w,Q (.panic c) (a.put oi.dst v) w → Q (.panic c) a w:=by exact fun _ _ _ h => h)
  (hy : Yields P ops oi v a:=by exact Or.inl ⟨by rfl,by intro w';go_simp;with_reducible rfl⟩) (ha : a.put (some N) v = a':=by simp only [Act.put,List.setIfInBounds_toArray,List.set_cons_zero,List.set_cons_succ,i64_w,i32_w];rfl) : wpAnyLast P md ops Q S ds (fuel + 1) l a w:=pure_ l' hi hN hc hQ hy ha h
theorem ta_ (i : Nat) (N : Tmp) {oi : Oper} {v : Value} {fuel : Nat} {l : Array Bool} {a : Act} {w : World} (l' : Array Bool) {a' : Act} (h : wpAnyLast P md ops Q S ds fuel l' a' w)
  (hi : ops[i]? = some oi:=by rfl) (hN : oi.dst = some N:=by rfl) (hc : takeB md ops ds l l' i = true:=by exact take_ofW HT_.out HW_.out (by kernel_rfl)) (hQ : ∀ c a w,Q (.panic c) (a.put oi.dst v) w → Q (.panic c) a w:=by exact fun _ _ _ h => h)
  (hy : YieldsIf P ops S oi v a:=by exact Or.inl ⟨by rfl,by intro w' hS_;go_simp;with_reducible rfl⟩) (hS : S w:=by exact hHeld) (ha : a.put (some N) v = a':=by simp only [Act.put,List.setIfInBounds_toArray,List.set_cons_zero,List.set_cons_succ,i64_w,i32_w];rfl) : wpAnyLast P md ops Q S ds (fuel + 1) l a w:=take_ l' hi hN hc hQ hy hS ha h
theorem on_ (i : Nat) (N : Tmp) {oi : Oper} {fuel : Nat} {l : Array Bool} {a : Act} {w : World} (l' : Array Bool)
  (h : ∀ K : Act → World → Prop,Shut (∀ a' w',S w' → (S w' → wpAnyLast P md ops Q S ds fuel l' a' w') → K a' w') → if Region.wanted oi (yielded ops a.tmps) = true then Oper.wp P oi a w K Q else K (a.put (some N) undef) w)
  (hi : ops[i]? = some oi:=by rfl) (hN : oi.dst = some N:=by rfl) (hc : readyB md ops l l' i = true:=by exact one_of HT_.out (by kernel_rfl)) (hd : i ∉ ds:=by decide) : wpAnyLast P md ops Q S ds (fuel + 1) l a w:=one_ l' hi hN hc hd h
theorem nm_ (N : Tmp) {fuel : Nat} {l : Array Bool} {a a' : Act} {v : Value} {w : World} (h : wpAnyLast P md ops Q S ds fuel l a' w) (ha : a.put (some N) v = a':=by simp only [Act.put,List.setIfInBounds_toArray,List.set_cons_zero,List.set_cons_succ,i64_w,i32_w];rfl) : wpAnyLast P md ops Q S ds fuel l (a.put (some N) v) w:=norm_ ha h
theorem gs_ {oi : Oper} {N : Option Tmp} {a : Act} {w : World} {K : Act → World → Prop} {f : FuncId} {fn : Func} {xs : Array Operand} {ts : Array TypeId} (hf : P.funcs[f]? = some fn) (args : Array Value) (h : Calls P f args w fun e w' => ∃ v,e = .returned v ∧ K (a.put N v) w')
  (hname : (fn.name == "runtime.NumGoroutine") = false := by kernel_rfl) (hb : fn.body.isSome = true := by rfl) (hw : Region.wanted oi (yielded ops a.tmps) = true := by rfl) (hN : oi.dst = N := by rfl) (hop : oi.op = .call { callee := .value (.func f), args := xs, argTypes := ts } := by rfl)
  (hargs : xs.map a.eval = args:=by (try simp only [List.map_toArray,List.map_cons,List.map_nil]);first|done|rfl|(simp only [List.length_drop,List.length_take];rfl)) : if Region.wanted oi (yielded ops a.tmps) = true then Oper.wp P oi a w K Q else K (a.put N undef) w:=goes_ hf hname hb args hw hN hop hargs h
theorem gl_ {rest : List Oper} {oi : Oper} {a : Act} {w : World} (N : Option Tmp) {f : FuncId} {fn : Func} {xs : Array Operand} {ts : Array TypeId} (hf : P.funcs[f]? = some fn) (args : Array Value) (h : Calls P f args w fun e w' => ∃ v,e = .returned v ∧ wpList P ops Q rest (a.put N v) w')
  (hd : oi.dst = N := by rfl) (hg : oi.guard = none := by rfl) (hname : (fn.name == "runtime.NumGoroutine") = false := by kernel_rfl) (hb : fn.body.isSome = true := by rfl) (hop : oi.op = .call { callee := .value (.func f), args := xs, argTypes := ts } := by rfl)
  (hargs : xs.map a.eval = args:=by (try simp only [List.map_toArray,List.map_cons,List.map_nil]);first|done|rfl|(simp only [List.length_drop,List.length_take];rfl)) : wpList P ops Q (oi :: rest) a w:=goesL_ N hd hg hf hname hb args hop hargs h
theorem bx2_ {o : Oper} {rest : List Oper} {a : Act} {W : World} (N : Tmp) (cs : Array Value) (t : TypeId) (h : ∀ g,g = W.heap.size → ∀ w1,w1.heap[g]? = some (.cells cs t (0,0)) → Below W.heap.size W w1 → wpList P ops Q rest (a.put o.dst (.pointer (some ⟨g,0,none⟩))) w1)
  (hgd : o.guard = none:=by rfl) (hd : o.dst = some N:=by rfl) (hrun : (execOp a.eval o).run P W = .ok (.value (.pointer (some ⟨W.heap.size,0,none⟩))) (W.alloc (.cells cs t (0,0))):=by first|(go_simp;done)|(go_simp;rfl)) : wpList P ops Q (o :: rest) a W:=box_event hgd hd hrun h
end
theorem kb_ {w0 W W1 : World} {g : Nat} {o : Obj} (h : Aside0 (w0.heap[g]? = some o)) (hb : Below W.heap.size W W1) (e : w0.heap[g]? = some o → W.heap[g]? = some o:=by intro h_;(with_reducible repeat (first|refine blk_drewN ?_ _|refine blk_drew ?_|refine blk_alloc ?_ _));exact h_) : Aside0 (W1.heap[g]? = some o):=⟨blk_below (e h.out) hb⟩
theorem hb_ {w0 w W W1 : World} (h : Aside0 (Below w0.heap.size w0 w)) (hb : Below W.heap.size W W1) (e : Below w0.heap.size w0 w → Below w0.heap.size w0 W:=by intro h_;repeat (first|(with_reducible first|exact h_|apply below_alloc|apply pw_below_drewN|apply below_drew1|refine below_set ?_ (Aside0.out (by with_reducible assumption)))|exact h_)) : Aside0 (Below w0.heap.size w0 W1):=⟨below_step (e h.out) hb⟩
theorem gz_ {w0 w W : World} {g : Nat} (hg : g = W.heap.size) (h : Aside0 (Below w0.heap.size w0 w)) (e : Below w0.heap.size w0 w → Below w0.heap.size w0 W:=by intro h_;repeat (first|(with_reducible first|exact h_|apply below_alloc|apply pw_below_drewN|apply below_drew1|refine below_set ?_ (Aside0.out (by with_reducible assumption)))|exact h_)) : Aside0 (w0.heap.size ≤ g):=⟨by rw [hg];exact below_size (e h.out)⟩
theorem nl_ {w0 W : World} {g b : Nat} {o : Obj} (hg : b = W.heap.size) (h : Aside0 (w0.heap[g]? = some o)) (e : w0.heap[g]? = some o → W.heap[g]? = some o:=by intro h_;(with_reducible repeat (first|refine blk_drewN ?_ _|refine blk_drew ?_|refine blk_alloc ?_ _));exact h_) : Aside0 (g ≠ b):=⟨by rw [hg];exact Nat.ne_of_lt (blk_lt (e h.out))⟩
theorem ng_ {w0 W : World} {g b : Nat} {o : Obj} (hg : b = W.heap.size) (h : Aside0 (w0.heap[g]? = some o)) (e : w0.heap[g]? = some o → W.heap[g]? = some o:=by intro h_;(with_reducible repeat (first|refine blk_drewN ?_ _|refine blk_drew ?_|refine blk_alloc ?_ _));exact h_) : Aside0 (b ≠ g):=⟨by rw [hg];exact Nat.ne_of_gt (blk_lt (e h.out))⟩
theorem cg_ {w : World} {g : Nat} {cs : Array Value} {t : TypeId} (h : Aside0 (w.heap[g]? = some (.cells cs t (0,0)))) (j : Nat) (v : Value) (hv : cs[j]? = some v:=by rfl) : w.cell? ⟨g,j,none⟩ = some v:=(blk_cell h.out j).trans hv
theorem fz_ {w0 : World} {p q : Addr} {v : Value} {g : Nat} (h : w0.cell? p = some v) (hg : w0.heap.size ≤ g) (e : q.block = p.block:=by first|rfl|(simp only [add_block];done)|(show (Addr.add _ _).block = _;simp only [add_block];done)) : q.block ≠ g:=Nat.ne_of_lt (Nat.lt_of_lt_of_le (e ▸ World.block_lt_of_cell? _ _ h) hg)
theorem cf1_ {w : World} {q : Addr} {g : Nat} {r : Option Value} {j1 : Nat} {u1 : Value} (hne : q.block ≠ g) (h : w.cell? q = r) : (w.setCell ⟨g,j1,none⟩ u1).cell? q = r:=(cell_far (p:=⟨g,_,none⟩) hne _).trans h
theorem cf2_ {w : World} {q : Addr} {g : Nat} {r : Option Value} {j1 j2 : Nat} {u1 u2 : Value} (hne : q.block ≠ g) (h : w.cell? q = r) : ((w.setCell ⟨g,j1,none⟩ u1).setCell ⟨g,j2,none⟩ u2).cell? q = r:=cf1_ hne (cf1_ hne h)
theorem cf3_ {w : World} {q : Addr} {g : Nat} {r : Option Value} {j1 j2 j3 : Nat} {u1 u2 u3 : Value} (hne : q.block ≠ g) (h : w.cell? q = r) : (((w.setCell ⟨g,j1,none⟩ u1).setCell ⟨g,j2,none⟩ u2).setCell ⟨g,j3,none⟩ u3).cell? q = r:=cf1_ hne (cf2_ hne h)
theorem cf6_ {w : World} {q : Addr} {g : Nat} {r : Option Value} {j1 j2 j3 j4 j5 j6 : Nat} {u1 u2 u3 u4 u5 u6 : Value} (hne : q.block ≠ g) (h : w.cell? q = r) : ((((((w.setCell ⟨g,j1,none⟩ u1).setCell ⟨g,j2,none⟩ u2).setCell ⟨g,j3,none⟩ u3).setCell ⟨g,j4,none⟩ u4).setCell ⟨g,j5,none⟩ u5).setCell ⟨g,j6,none⟩ u6).cell? q = r:=cf3_ hne (cf3_ hne h)
theorem kg_ {w0 W W1 : World} {g : Nat} {o : Obj} {row : Option Nat} (h : Aside0 (w0.heap[g]? = some o)) (hg : W.grownBy W1 row) (hne : some g ≠ row) (e : w0.heap[g]? = some o → W.heap[g]? = some o:=by intro h_;(with_reducible repeat (first|refine blk_drewN ?_ _|refine blk_drew ?_|refine blk_alloc ?_ _));exact h_) : Aside0 (W1.heap[g]? = some o):=⟨blk_grown (e h.out) hg hne⟩
theorem kk_ {w0 W : World} {g : Nat} {o : Obj} (h : Aside0 (w0.heap[g]? = some o)) (e : w0.heap[g]? = some o → W.heap[g]? = some o:=by intro h_;(with_reducible repeat (first|refine blk_drewN ?_ _|refine blk_drew ?_|refine blk_alloc ?_ _));exact h_) : Aside0 (W.heap[g]? = some o):=⟨e h.out⟩
theorem rb_ {α : Type} {d : Kd α} {t base : Nat} {ok : Nat → Prop} {v : Value} {xs : List α} {w0 W W1 : World} (h : Aside0 (d.R t w0 base ok v xs)) (hb : Below W.heap.size W W1) (e : d.R t w0 base ok v xs → d.R t W base ok v xs:=by intro h_;(with_reducible repeat (first|apply Kd.R_alloc|apply Kd.R_drewN|apply Kd.R_drew));exact h_) : Aside0 (d.R t W1 base ok v xs):=⟨Kd.R_below (e h.out) hb⟩
theorem rr_ {α : Type} {d : Kd α} {t base : Nat} {ok : Nat → Prop} {v : Value} {xs : List α} {w0 W : World} (h : Aside0 (d.R t w0 base ok v xs)) (e : d.R t w0 base ok v xs → d.R t W base ok v xs:=by intro h_;(with_reducible repeat (first|apply Kd.R_alloc|apply Kd.R_drewN|apply Kd.R_drew));exact h_) : Aside0 (d.R t W base ok v xs):=⟨e h.out⟩
theorem hh_ {w0 w W : World} {base : Nat} (h : Aside0 (Below base w0 w)) (e : Below base w0 w → Below base w0 W:=by intro h_;repeat (first|(with_reducible first|exact h_|apply below_alloc|apply pw_below_drewN|apply below_drew1|refine below_set ?_ (Aside0.out (by with_reducible assumption)))|exact h_)) : Aside0 (Below base w0 W):=⟨e h.out⟩
theorem cl_ {w W : World} {p : Addr} {v : Value} (h : Aside0 (Below w.heap.size w W)) (hx : w.cell? p = some v) : W.cell? p = some v:=(h.out.cell (World.block_lt_of_cell? w _ hx)).trans hx
theorem de_ (p : Prop) [Decidable p] (h : decide p = true:=by first|(with_reducible assumption)|assumption) : p:=of_decide_eq_true h
theorem cq_ {w : World} {g : Nat} {cs : Array Value} {t : TypeId} {v : Value} (h : Aside0 (w.heap[g]? = some (.cells cs t (0,0)))) (j : Nat) (hv : cs[j]? = some v:=by rfl) : w.cell? ⟨g,j,none⟩ = some v:=(blk_cell h.out j).trans hv
theorem cr_ {α : Type} {d : Kd α} {w W : World} {A : Option Addr} {n : Nat} {xs : List α} (h : d.C w A n xs) (e : d.C w A n xs → d.C W A n xs:=by intro h_;repeat (first|with_reducible exact h_|(with_reducible refine Kd.C_alloc ?_ _)|(with_reducible refine Kd.C_drewN ?_ _)|(with_reducible refine Kd.C_drew ?_)|with_unfolding_all exact h_)) : d.C W A n xs:=e h
def bm (n k : Nat) : Array Bool:=((List.range n).map fun i => k.testBit i).toArray
theorem rt_ {α : Type} {d : Kd α} {e base : Nat} {ok : Nat → Prop} {v : Value} {xs : List α} {w : World} {g t : Nat} {cells : Array Value} (h : Aside0 (d.R e w base ok v xs)) (hb : Aside0 (w.heap[g]? = some (.cells cells t (0,0)))) (ht : ∀ q,q ∈ e :: d.E → q ≠ t:=by decide) : d.R e w base (fun k => ok k ∧ k ≠ g) v xs:=Kd.R_types h.out hb.out ht
theorem rf_ {α : Type} {d : Kd α} {e base : Nat} {ok : Nat → Prop} {v : Value} {xs : List α} {w : World} {g : Nat} (j : Nat) (h : d.R e w base (fun k => ok k ∧ k ≠ g) v xs) (u : Value) : d.R e (w.setCell ⟨g,j,none⟩ u) base (fun k => ok k ∧ k ≠ g) v xs:=Kd.R_far (p:=⟨g,j,none⟩) h (fun _ hk => hk.2) u
abbrev c_ (w : World) (g j : Nat) (v : Value) : Prop:=w.cell? ⟨g,j,none⟩ = some v
theorem ra_ {α : Type} {d : Kd α} {t base : Nat} {ok : Nat → Prop} {v : Value} {xs : List α} {w0 W : World} (h : d.R t w0 base ok v xs) (e : d.R t w0 base ok v xs → d.R t W base ok v xs:=by intro h_;(with_reducible repeat (first|apply Kd.R_alloc|apply Kd.R_drewN|apply Kd.R_drew));exact h_) : d.R t W base ok v xs:=e h
theorem ka_ {w0 W : World} {g : Nat} {o : Obj} (h : w0.heap[g]? = some o) (e : w0.heap[g]? = some o → W.heap[g]? = some o:=by intro h_;(with_reducible repeat (first|refine blk_drewN ?_ _|refine blk_drew ?_|refine blk_alloc ?_ _));exact h_) : W.heap[g]? = some o:=e h
theorem hB_ {w0 w W : World} {base : Nat} (h : Aside0 (Below base w0 w)) (e : Below base w0 w → Below base w0 W:=by intro h_;repeat (first|(with_reducible first|exact h_|apply below_alloc|apply pw_below_drewN|apply below_drew1|refine below_set ?_ (Aside0.out (by with_reducible assumption)))|exact h_)) : Below base w0 W:=e h.out
section
variable {P : Program} {md : Region.Mode} {ops : Array Oper} {Q : Exit → Act → World → Prop} {S : World → Prop} {ds : List Nat}
theorem pv_ (i : Nat) (N : Tmp) {oi : Oper} {fuel : Nat} {l : Array Bool} {a : Act} {w : World} (l' : Array Bool) {a' : Act} (h : wpAnyLast P md ops Q S ds fuel l' a' w)
  (hi : ops[i]? = some oi:=by rfl) (hN : oi.dst = some N:=by rfl) (hc : anyB md ops l l' i = true:=by exact any_of HT_.out (by kernel_rfl)) (hQ : ∀ c a w,Q (.panic c) (a.put oi.dst undef) w → Q (.panic c) a w:=by exact fun _ _ _ h => h)
  (hy : Yields P ops oi undef a:=by exact Or.inr ⟨by rfl,rfl⟩) (ha : a.put (some N) undef = a':=by simp only [Act.put,List.setIfInBounds_toArray,List.set_cons_zero,List.set_cons_succ,i64_w,i32_w];rfl) : wpAnyLast P md ops Q S ds (fuel + 1) l a w:=pure_ l' hi hN hc hQ hy ha h
theorem pw_ (i : Nat) (N : Tmp) {oi : Oper} {v : Value} {fuel : Nat} {l : Array Bool} {a : Act} {w : World} (l' : Array Bool) {a' : Act} (h : wpAnyLast P md ops Q S ds fuel l' a' w)
  (hi : ops[i]? = some oi:=by rfl) (hN : oi.dst = some N:=by rfl) (hc : anyB md ops l l' i = true:=by kernel_rfl) (hQ : ∀ c a w,Q (.panic c) (a.put oi.dst v) w → Q (.panic c) a w:=by exact fun _ _ _ h => h)
  (hy : Yields P ops oi v a:=by exact Or.inl ⟨by rfl,by intro w';go_simp;with_reducible rfl⟩) (ha : a.put (some N) v = a':=by simp only [Act.put,List.setIfInBounds_toArray,List.set_cons_zero,List.set_cons_succ,i64_w,i32_w];rfl) : wpAnyLast P md ops Q S ds (fuel + 1) l a w:=pure_ l' hi hN hc hQ hy ha h
end
theorem cA_ {w : World} {g : Nat} {cs : Array Value} {t : TypeId} (h : Aside0 (w.heap[g]? = some (.cells cs t (0,0)))) (j : Nat) : w.cell? ⟨g,j,none⟩ = cs[j]?:=by simp [World.cell?,h.out]
theorem fA_ {w : World} {g : Nat} {cs : Array Value} {t : TypeId} (h : Aside0 (w.heap[g]? = some (.cells cs t (0,0)))) (j : Nat) : w.frozen? ⟨g,j,none⟩ = false:=blk_frozen h.out j
end Go.Proofs.Ytpclhbcflkncnaa.PAll
