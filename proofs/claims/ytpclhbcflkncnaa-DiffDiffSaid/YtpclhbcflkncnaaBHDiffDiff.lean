import Derived.Test.YtpclhbcflkncnaaBRawDiffDiff
import Derived.Test.YtpclhbcflkncnaaAW0
import Derived.Test.YtpclhbcflkncnaaAS
import Derived.Test.YtpclhbcflkncnaaA0
import Derived.Test.YtpclhbcflkncnaaA1
import Derived.Test.YtpclhbcflkncnaaA2
import Derived.Test.YtpclhbcflkncnaaA3
import Derived.Test.YtpclhbcflkncnaaA4
import Derived.Test.YtpclhbcflkncnaaA5
import Derived.Test.YtpclhbcflkncnaaA14
import Derived.Test.YtpclhbcflkncnaaA15
import Derived.Test.YtpclhbcflkncnaaA16
import Derived.Test.YtpclhbcflkncnaaA17
import Derived.Test.YtpclhbcflkncnaaA18
import Derived.Test.YtpclhbcflkncnaaA19
import Derived.Test.YtpclhbcflkncnaaA20
import Derived.Test.YtpclhbcflkncnaaA21
import Derived.Test.YtpclhbcflkncnaaA22
import Derived.Test.YtpclhbcflkncnaaA23
import Derived.Test.YtpclhbcflkncnaaA24
import Derived.Test.YtpclhbcflkncnaaA25
import Derived.Test.YtpclhbcflkncnaaA26
import Derived.KernelRfl
namespace Go.Proofs.Ytpclhbcflkncnaa.Pure
open Go.RowKit Go.Proofs.Ytpclhbcflkncnaa.PAll Go.Proofs.YtpclhbcflkncnaaW.PrintWords Go.Proofs.YtpclhbcflkncnaaW.PrintLast
set_option linter.unusedVariables false

theorem wrap64_id {x : Int} (h0 : -9223372036854775808 ≤ x) (h1 : x ≤ 9223372036854775807) : wrap64 x = x:=by
 unfold wrap64
 omega
theorem wsucc {i : Int} {n : Nat} (h0 : 0 ≤ i) (h : i ≤ (n : Int)) (hn : n ≤ 140737488351232) : wrap64 (i + 1) = i + 1:=wrap64_id (by omega) (by omega)
theorem bindS {α β : Type} {a : α} {f : α → Option β} : (some a).bind f = f a:=rfl

def VT (t : S28) : Prop:=0 ≤ t.f0 ∧ 0 ≤ t.f1 ∧ t.f2.length = t.f3.length ∧ 1 ≤ t.f2.length ∧ t.f2.length ≤ 12 ∧ 0 ≤ rd t.f2 0
instance (t : S28) : Decidable (VT t):=by unfold VT;infer_instance
def ky (t : S28) : Int × Int:=(rd t.f2 0,t.f0)
def klt (a b : Int × Int) : Prop:=a.1 < b.1 ∨ a.1 = b.1 ∧ a.2 < b.2
instance (a b : Int × Int) : Decidable (klt a b):=by unfold klt;infer_instance
def kc (a b : Int × Int) : Int:=if klt a b then -1 else if a = b then 0 else 1
theorem klt_trans {a b c : Int × Int} (h : klt a b) (h' : klt b c) : klt a c:=by unfold klt at *;omega
theorem klt_irrefl (a : Int × Int) : ¬ klt a a:=by unfold klt;omega
theorem klt_asymm {a b : Int × Int} (h : klt a b) : ¬ klt b a:=fun h' => klt_irrefl a (klt_trans h h')
theorem klt_ne {a b : Int × Int} (h : klt a b) : a ≠ b:=fun e => klt_irrefl b (e ▸ h)
theorem klt_tri (a b : Int × Int) : klt a b ∨ a = b ∨ klt b a:=by
 unfold klt
 by_cases h : a.1 < b.1
 ·exact .inl (.inl h)
 by_cases h' : b.1 < a.1
 ·exact .inr (.inr (.inl h'))
 have e : a.1 = b.1:=by omega
 by_cases h2 : a.2 < b.2
 ·exact .inl (.inr ⟨e,h2⟩)
 by_cases h3 : b.2 < a.2
 ·exact .inr (.inr (.inr ⟨e.symm,h3⟩))
 exact .inr (.inl (Prod.ext e (by omega)))
theorem kc_lt {a b : Int × Int} (h : klt a b) : kc a b = -1:=if_pos h
theorem kc_eq {a b : Int × Int} (h : a = b) : kc a b = 0:=by
 subst h
 unfold kc
 rw [if_neg (klt_irrefl a),if_pos rfl]
theorem kc_gt {a b : Int × Int} (h : klt b a) : kc a b = 1:=by
 unfold kc
 rw [if_neg (klt_asymm h),if_neg (fun e => klt_ne h e.symm)]
theorem kc_neg {a b : Int × Int} : kc a b < 0 ↔ klt a b:=by
 rcases klt_tri a b with h|h|h
 ·rw [kc_lt h];exact ⟨fun _ => h,fun _ => by omega⟩
 ·rw [kc_eq h];exact ⟨fun h' => by omega,fun h' => absurd h (klt_ne h')⟩
 ·rw [kc_gt h];exact ⟨fun h' => by omega,fun h' => absurd h' (klt_asymm h)⟩
theorem kc_ge {a b : Int × Int} : kc a b ≥ 0 ↔ ¬ klt a b:=by rw [← kc_neg];omega
theorem kc_zero {a b : Int × Int} : kc a b = 0 ↔ a = b:=by
 rcases klt_tri a b with h|h|h
 ·rw [kc_lt h];exact ⟨fun h' => by omega,fun h' => absurd h' (klt_ne h)⟩
 ·rw [kc_eq h];exact ⟨fun _ => h,fun _ => rfl⟩
 ·rw [kc_gt h];exact ⟨fun h' => by omega,fun h' => absurd h'.symm (klt_ne h)⟩
theorem kc_pos {a b : Int × Int} : kc a b > 0 ↔ klt b a:=by
 rcases klt_tri a b with h|h|h
 ·rw [kc_lt h];exact ⟨fun h' => by omega,fun h' => absurd h' (klt_asymm h)⟩
 ·rw [kc_eq h];exact ⟨fun h' => by omega,fun h' => absurd h.symm (klt_ne h')⟩
 ·rw [kc_gt h];exact ⟨fun _ => h,fun _ => by omega⟩

theorem valid_eq (t : S28) : diff_valid.f t.f0 t.f1 t.f2 t.f3 = some (decide (VT t)):=by
 unfold diff_valid.f VT
 by_cases h0 : t.f0 ≥ 0
 ·rw [if_pos h0]
  by_cases h1 : t.f1 ≥ 0
  ·rw [if_pos h1]
   by_cases h2 : (t.f2.length : Int) = (t.f3.length : Int)
   ·rw [if_pos h2]
    by_cases h3 : (t.f2.length : Int) ≥ 1
    ·rw [if_pos h3]
     by_cases h4 : (t.f2.length : Int) ≤ 12
     ·rw [if_pos h4,if_pos (by omega)]
      exact congrArg some (decide_eq_decide.mpr ⟨fun h => ⟨h0,h1,by omega,by omega,by omega,h⟩,fun h => h.2.2.2.2.2⟩)
     ·rw [if_neg h4];exact congrArg some (decide_eq_false (fun h => h4 (by have:=h.2.2.2.2.1;omega))).symm
    ·rw [if_neg h3];exact congrArg some (decide_eq_false (fun h => h3 (by have:=h.2.2.2.1;omega))).symm
   ·rw [if_neg h2];exact congrArg some (decide_eq_false (fun h => h2 (by have:=h.2.2.1;omega))).symm
  ·rw [if_neg h1];exact congrArg some (decide_eq_false (fun h => h1 h.2.1)).symm
 ·rw [if_neg h0];exact congrArg some (decide_eq_false (fun h => h0 h.1)).symm
theorem validTrip_eq (t : S28) : railplanref41_ValidTrip.f t.f0 t.f1 t.f2 t.f3 = some (decide (VT t)):=by
 unfold railplanref41_ValidTrip.f VT
 by_cases h0 : t.f0 ≥ 0
 ·rw [if_pos h0]
  by_cases h1 : t.f1 ≥ 0
  ·rw [if_pos h1]
   by_cases h3 : (t.f2.length : Int) ≥ 1
   ·rw [if_pos h3]
    by_cases h4 : (t.f2.length : Int) ≤ 12
    ·rw [if_pos h4]
     by_cases h2 : (t.f3.length : Int) = (t.f2.length : Int)
     ·rw [if_pos h2,if_pos (by omega)]
      exact congrArg some (decide_eq_decide.mpr ⟨fun h => ⟨h0,h1,by omega,by omega,by omega,h⟩,fun h => h.2.2.2.2.2⟩)
     ·rw [if_neg h2];exact congrArg some (decide_eq_false (fun h => h2 (by have:=h.2.2.1;omega))).symm
    ·rw [if_neg h4];exact congrArg some (decide_eq_false (fun h => h4 (by have:=h.2.2.2.2.1;omega))).symm
   ·rw [if_neg h3];exact congrArg some (decide_eq_false (fun h => h3 (by have:=h.2.2.2.1;omega))).symm
  ·rw [if_neg h1];exact congrArg some (decide_eq_false (fun h => h1 h.2.1)).symm
 ·rw [if_neg h0];exact congrArg some (decide_eq_false (fun h => h0 h.1)).symm
theorem isNaN_eq (a : Int) : cmp_isNaN_int.f a = some false:=by simp [cmp_isNaN_int.f]
theorem compare_int (a b : Int) : cmp_Compare_int.f a b = some (if a < b then -1 else if b < a then 1 else 0):=by
 unfold cmp_Compare_int.f
 rw [isNaN_eq,isNaN_eq]
 simp only [Option.bind_some,Bool.false_eq_true,if_false]
 by_cases h : a < b
 ·rw [if_pos h,if_pos h]
 ·rw [if_neg h,if_neg h]
  by_cases h2 : b < a
  ·rw [if_pos (show a > b from h2),if_pos h2]
  ·rw [if_neg (show ¬ a > b from h2),if_neg h2]
theorem or_two (a b : Int) (k : Nat) : cmp_Or_int.f (k + 3) [a,b] = some (if a = 0 then b else a):=by
 unfold cmp_Or_int.f
 simp only [cmp_Or_int.l0]
 rw [if_pos (by simp),if_pos (by omega),if_pos (by simp)]
 have r0 : rd [a,b] 0 = a:=rfl
 have r1 : rd [a,b] 1 = b:=rfl
 have w0 : wrap64 (0 + 1) = 1:=by unfold wrap64;omega
 have w1 : wrap64 (1 + 1) = 2:=by unfold wrap64;omega
 rw [r0,w0]
 by_cases h : a = 0
 ·rw [if_pos h,if_pos h,if_pos (by simp),if_pos (by omega),if_pos (by simp),r1,w1]
  by_cases h2 : b = 0
  ·rw [if_pos h2,if_neg (by simp),h2]
  ·rw [if_neg h2]
 ·rw [if_neg h,if_neg h]
theorem compare_at (a b : S28) (ha : 1 ≤ a.f2.length) (hb : 1 ≤ b.f2.length) (k : Nat) : diff_compare.f (k + 3) a.f0 a.f1 a.f2 a.f3 b.f0 b.f1 b.f2 b.f3 = some (kc (ky a) (ky b)):=by
 unfold diff_compare.f
 rw [if_pos (by omega),if_pos (by omega),compare_int,bindS,compare_int,bindS,or_two,bindS]
 congr 1
 by_cases h1 : rd a.f2 0 < rd b.f2 0
 ·rw [if_pos h1,if_neg (by omega),kc_lt (.inl h1)]
 ·rw [if_neg h1]
  by_cases h2 : rd b.f2 0 < rd a.f2 0
  ·rw [if_pos h2,if_neg (by omega),kc_gt (.inl h2)]
  ·rw [if_neg h2,if_pos rfl]
   have e : rd a.f2 0 = rd b.f2 0:=by omega
   by_cases h3 : a.f0 < b.f0
   ·rw [if_pos h3,kc_lt (.inr ⟨e,h3⟩)]
   ·rw [if_neg h3]
    by_cases h4 : b.f0 < a.f0
    ·rw [if_pos h4,kc_gt (.inr ⟨e.symm,h4⟩)]
    ·rw [if_neg h4,kc_eq (Prod.ext e (show a.f0 = b.f0 by omega))]
theorem Ev.at3 {α : Type} {g : Nat → Option α} {r : α} (n : Nat) (h : ∀ k,g (k + n) = some r) : Ev g r:=⟨n,fun k hk => by have:=h (k - n);rwa [Nat.sub_add_cancel hk] at this⟩
theorem compare_ev (a b : S28) (ha : 1 ≤ a.f2.length) (hb : 1 ≤ b.f2.length) : Ev (fun k => diff_compare.f k a.f0 a.f1 a.f2 a.f3 b.f0 b.f1 b.f2 b.f3) (kc (ky a) (ky b)):=Ev.at3 3 (compare_at a b ha hb)
theorem order_at (a b : S28) (ha : 1 ≤ a.f2.length) (hb : 1 ≤ b.f2.length) (k : Nat) : railplanref41_order.f (k + 1) a.f0 a.f1 a.f2 a.f3 b.f0 b.f1 b.f2 b.f3 = some (kc (ky a) (ky b)):=by
 unfold railplanref41_order.f
 rw [if_pos (by omega),if_pos (by omega)]
 by_cases h1 : rd a.f2 0 < rd b.f2 0
 ·rw [if_pos h1,kc_lt (.inl h1)];simp only [railplanref41_order.j0];rw [if_pos trivial]
 ·rw [if_neg h1]
  by_cases e : rd a.f2 0 = rd b.f2 0
  ·rw [if_pos e]
   simp only [railplanref41_order.j0]
   by_cases h3 : a.f0 < b.f0
   ·rw [if_pos (decide_eq_true h3),kc_lt (.inr ⟨e,h3⟩)]
   ·rw [if_neg (by simp only [decide_eq_true_eq];exact h3),if_pos (by omega),if_pos (by omega),if_pos e]
    by_cases h4 : a.f0 = b.f0
    ·rw [if_pos h4,kc_eq (Prod.ext e h4)]
    ·rw [if_neg h4,kc_gt (.inr ⟨e.symm,show b.f0 < a.f0 by omega⟩)]
  ·rw [if_neg e]
   simp only [railplanref41_order.j0]
   rw [if_neg (by decide),if_pos (by omega),if_pos (by omega),if_neg e,kc_gt (.inl (show rd b.f2 0 < rd a.f2 0 by omega))]
theorem order_ev (a b : S28) (ha : 1 ≤ a.f2.length) (hb : 1 ≤ b.f2.length) : Ev (fun k => railplanref41_order.f k a.f0 a.f1 a.f2 a.f3 b.f0 b.f1 b.f2 b.f3) (kc (ky a) (ky b)):=Ev.at3 1 (order_at a b ha hb)

theorem rd_nat (l : List Int) (i : Nat) : rd l (i : Int) = l.getD i 0:=by simp [rd]
theorem rd_nat28 (l : List S28) (i : Nat) : rd_T28 l (i : Int) = l.getD i z28:=by simp [rd_T28]
theorem rd_nat40 (l : List S40) (i : Nat) : rd_T40 l (i : Int) = l.getD i z40:=by simp [rd_T40]
theorem drop_get {α : Type} (l : List α) (z : α) {i : Nat} (h : i < l.length) : l.drop i = l.getD i z :: l.drop (i + 1):=by
 rw [List.drop_eq_getElem_cons h]
 simp [List.getD,List.getElem?_eq_getElem h]
theorem same_loop {α : Type} [DecidableEq α] (F : Nat → Int → Option Bool) (a b : List α) (z : α) (hl : a.length = b.length)
  (h1 : ∀ (i : Nat),i < a.length → a.getD i z = b.getD i z → ∀ r,Ev (fun k => F k ((i : Int) + 1)) r → Ev (fun k => F k (i : Int)) r)
  (h2 : ∀ (i : Nat),i < a.length → a.getD i z ≠ b.getD i z → Ev (fun k => F k (i : Int)) false)
  (h3 : Ev (fun k => F k (a.length : Int)) true) : Ev (fun k => F k 0) (decide (a = b)):=by
 have key : ∀ (d i : Nat),i ≤ a.length → a.length - i = d → Ev (fun k => F k (i : Int)) (decide (a.drop i = b.drop i)):=by
  intro d
  induction d with
  | zero =>
   intro i hi hd
   have e : i = a.length:=by omega
   subst e
   rw [show decide (a.drop a.length = b.drop a.length) = true from by rw [List.drop_length,hl,List.drop_length];rfl]
   exact h3
  | succ d ih =>
   intro i hi hd
   have hlt : i < a.length:=by omega
   rw [drop_get a z hlt,drop_get b z (by omega)]
   by_cases e : a.getD i z = b.getD i z
   ·have h:=ih (i + 1) (by omega) (by omega)
    rw [show decide (a.getD i z :: a.drop (i + 1) = b.getD i z :: b.drop (i + 1)) = decide (a.drop (i + 1) = b.drop (i + 1)) from decide_eq_decide.mpr ⟨fun h => (List.cons.inj h).2,fun h => by rw [e,h]⟩]
    exact h1 i hlt e _ (by exact_mod_cast h)
   ·rw [show decide (a.getD i z :: a.drop (i + 1) = b.getD i z :: b.drop (i + 1)) = false from decide_eq_false (fun h => e (List.cons.inj h).1)]
    exact h2 i hlt e
 have h:=key a.length 0 (Nat.zero_le _) rfl
 simpa using h
theorem equal_ev (a b : List Int) (ha : a.length ≤ 9223372036854775807) : Ev (fun k => slices_Equal_int_int.f k a b) (decide (a = b)):=by
 unfold slices_Equal_int_int.f
 by_cases hl : (a.length : Int) = (b.length : Int)
 ·refine Ev.congr (fun k => if_pos hl) ?_
  refine same_loop (fun k i => slices_Equal_int_int.l0 k a b (a.length : Int) i) a b 0 (by omega) ?_ ?_ ?_
  ·intro i hi e r h
   refine Ev.step (fun k => ?_) h
   simp only [slices_Equal_int_int.l0]
   rw [if_pos (by omega),if_pos (by omega),if_pos (by omega),if_pos (by omega),rd_nat,rd_nat,if_pos e,wrap64_id (by omega) (by omega)]
  ·intro i hi e
   refine Ev.at3 1 (fun k => ?_)
   simp only [slices_Equal_int_int.l0]
   rw [if_pos (by omega),if_pos (by omega),if_pos (by omega),if_pos (by omega),rd_nat,rd_nat,if_neg e]
  ·refine Ev.at3 1 (fun k => ?_)
   simp only [slices_Equal_int_int.l0]
   rw [if_neg (by omega)]
 ·refine Ev.congr (fun k => if_neg hl) ?_
  rw [decide_eq_false (fun e => hl (by rw [e]))]
  exact Ev.now false
theorem sameInts_ev (a b : List Int) (ha : a.length ≤ 9223372036854775807) : Ev (fun k => railplanref41_SameInts.f k a b) (decide (a = b)):=by
 unfold railplanref41_SameInts.f
 by_cases hl : (a.length : Int) = (b.length : Int)
 ·refine Ev.congr (fun k => if_pos hl) ?_
  refine same_loop (fun k i => railplanref41_SameInts.l0 k a b (a.length : Int) i) a b 0 (by omega) ?_ ?_ ?_
  ·intro i hi e r h
   refine Ev.step (fun k => ?_) h
   simp only [railplanref41_SameInts.l0]
   rw [if_pos (by omega),if_pos (by omega),if_pos (by omega),if_pos (by omega),rd_nat,rd_nat,if_pos e,wrap64_id (by omega) (by omega)]
  ·intro i hi e
   refine Ev.at3 1 (fun k => ?_)
   simp only [railplanref41_SameInts.l0]
   rw [if_pos (by omega),if_pos (by omega),if_pos (by omega),if_pos (by omega),rd_nat,rd_nat,if_neg e]
  ·refine Ev.at3 1 (fun k => ?_)
   simp only [railplanref41_SameInts.l0]
   rw [if_neg (by omega)]
 ·refine Ev.congr (fun k => if_neg hl) ?_
  rw [decide_eq_false (fun e => hl (by rw [e]))]
  exact Ev.now false
end Go.Proofs.Ytpclhbcflkncnaa.Pure

namespace Go.Proofs.Ytpclhbcflkncnaa.Pure
open Go.RowKit Go.Proofs.Ytpclhbcflkncnaa.PAll Go.Proofs.YtpclhbcflkncnaaW.PrintWords Go.Proofs.YtpclhbcflkncnaaW.PrintLast
set_option linter.unusedVariables false
noncomputable instance : DecidableEq S28:=fun _ _ => Classical.propDecidable _
noncomputable instance : DecidableEq S40:=fun _ _ => Classical.propDecidable _
theorem trip_ext {a b : S28} (h0 : a.f0 = b.f0) (h1 : a.f1 = b.f1) (h2 : a.f2 = b.f2) (h3 : a.f3 = b.f3) : a = b:=by
 cases a;cases b;simp only at *;subst h0;subst h1;subst h2;subst h3;rfl
theorem edit_ext {a b : S40} (h0 : a.f0 = b.f0) (h1 : a.f1 = b.f1) (h2 : a.f2 = b.f2) : a = b:=by
 cases a;cases b;simp only at *;subst h0;subst h1;subst h2;rfl
def LT (t : S28) : Prop:=t.f2.length ≤ 9223372036854775807 ∧ t.f3.length ≤ 9223372036854775807
def LE (e : S40) : Prop:=LT e.f1 ∧ LT e.f2
theorem VT.lt {t : S28} (h : VT t) : LT t:=⟨by have:=h.2.2.2.2.1;omega,by have:=h.2.2.1;have:=h.2.2.2.2.1;omega⟩
theorem VT.one {t : S28} (h : VT t) : 1 ≤ t.f2.length:=h.2.2.2.1
theorem z28_lt : LT z28:=⟨by decide,by decide⟩
theorem dEqual_ev (a b : S28) (ha : LT a) : Ev (fun k => diff_equal.f k a.f0 a.f1 a.f2 a.f3 b.f0 b.f1 b.f2 b.f3) (decide (a = b)):=by
 unfold diff_equal.f
 by_cases h0 : a.f0 = b.f0
 ·by_cases h1 : a.f1 = b.f1
  ·refine Ev.congr (fun k => by rw [if_pos h0,if_pos h1]) (Ev.bind (equal_ev a.f2 b.f2 ha.1) ?_)
   by_cases h2 : a.f2 = b.f2
   ·rw [decide_eq_true h2]
    refine Ev.congr (fun k => if_pos rfl) (Ev.bind (equal_ev a.f3 b.f3 ha.2) ?_)
    rw [show decide (a.f3 = b.f3) = decide (a = b) from decide_eq_decide.mpr ⟨fun h => trip_ext h0 h1 h2 h,fun h => by rw [h]⟩]
    exact Ev.now _
   ·rw [decide_eq_false h2,decide_eq_false (show ¬ a = b from fun h => h2 (by rw [h]))]
    exact Ev.congr (fun k => if_neg (by decide)) (Ev.now _)
  ·rw [decide_eq_false (show ¬ a = b from fun h => h1 (by rw [h]))]
   exact Ev.congr (fun k => by rw [if_pos h0,if_neg h1]) (Ev.now _)
 ·rw [decide_eq_false (show ¬ a = b from fun h => h0 (by rw [h]))]
  exact Ev.congr (fun k => if_neg h0) (Ev.now _)
theorem sameTrip_ev (a b : S28) (ha : LT a) : Ev (fun k => railplanref41_SameTrip.f k a.f0 a.f1 a.f2 a.f3 b.f0 b.f1 b.f2 b.f3) (decide (a = b)):=by
 unfold railplanref41_SameTrip.f
 by_cases h0 : a.f0 = b.f0
 ·by_cases h1 : a.f1 = b.f1
  ·refine Ev.congr (fun k => by rw [if_pos h0,if_pos h1]) (Ev.bind (sameInts_ev a.f2 b.f2 ha.1) ?_)
   by_cases h2 : a.f2 = b.f2
   ·rw [decide_eq_true h2]
    refine Ev.congr (fun k => if_pos rfl) (Ev.bind (sameInts_ev a.f3 b.f3 ha.2) ?_)
    rw [show decide (a.f3 = b.f3) = decide (a = b) from decide_eq_decide.mpr ⟨fun h => trip_ext h0 h1 h2 h,fun h => by rw [h]⟩]
    exact Ev.now _
   ·rw [decide_eq_false h2,decide_eq_false (show ¬ a = b from fun h => h2 (by rw [h]))]
    exact Ev.congr (fun k => if_neg (by decide)) (Ev.now _)
  ·rw [decide_eq_false (show ¬ a = b from fun h => h1 (by rw [h]))]
   exact Ev.congr (fun k => by rw [if_pos h0,if_neg h1]) (Ev.now _)
 ·rw [decide_eq_false (show ¬ a = b from fun h => h0 (by rw [h]))]
  exact Ev.congr (fun k => if_neg h0) (Ev.now _)
theorem clone_eq (l : List Int) (h : l.length < 17592186044416) : slices_Clone_int_int.f l = some l:=by
 unfold slices_Clone_int_int.f
 rw [bindS,if_pos (by simpa using h)]
 rfl
def ST (t : S28) : Prop:=t.f2.length < 17592186044416 ∧ t.f3.length < 17592186044416
theorem VT.st {t : S28} (h : VT t) : ST t:=⟨by have:=h.2.2.2.2.1;omega,by have:=h.2.2.1;have:=h.2.2.2.2.1;omega⟩
theorem own_eq (t : S28) (h : ST t) : diff_own.f t.f0 t.f1 t.f2 t.f3 = some (t.f0,t.f1,t.f2,t.f3):=by
 unfold diff_own.f
 rw [clone_eq _ h.1,bindS,clone_eq _ h.2,bindS]
theorem sameEdit_ev (a b : S40) (ha : LE a) : Ev (fun k => railplanref41_SameEdit.f k a.f0 a.f1.f0 a.f1.f1 a.f1.f2 a.f1.f3 a.f2.f0 a.f2.f1 a.f2.f2 a.f2.f3 b.f0 b.f1.f0 b.f1.f1 b.f1.f2 b.f1.f3 b.f2.f0 b.f2.f1 b.f2.f2 b.f2.f3) (decide (a = b)):=by
 unfold railplanref41_SameEdit.f
 by_cases h0 : a.f0 = b.f0
 ·refine Ev.congr (fun k => if_pos h0) (Ev.bind (sameTrip_ev a.f1 b.f1 ha.1) ?_)
  by_cases h1 : a.f1 = b.f1
  ·rw [decide_eq_true h1]
   refine Ev.congr (fun k => if_pos rfl) (Ev.bind (sameTrip_ev a.f2 b.f2 ha.2) ?_)
   rw [show decide (a.f2 = b.f2) = decide (a = b) from decide_eq_decide.mpr ⟨fun h => edit_ext h0 h1 h,fun h => by rw [h]⟩]
   exact Ev.now _
  ·rw [decide_eq_false h1,decide_eq_false (show ¬ a = b from fun h => h1 (by rw [h]))]
   exact Ev.congr (fun k => if_neg (by decide)) (Ev.now _)
 ·rw [decide_eq_false (show ¬ a = b from fun h => h0 (by rw [h]))]
  exact Ev.congr (fun k => if_neg h0) (Ev.now _)
theorem sameEdits_ev (a b : List S40) (hn : a.length ≤ 140737488351232) (ha : ∀ t ∈ a,LE t) : Ev (fun k => railplanlaw42_sameEdits.f k a b) (decide (a = b)):=by
 unfold railplanlaw42_sameEdits.f
 by_cases hl : (a.length : Int) = (b.length : Int)
 ·refine Ev.congr (fun k => if_pos hl) ?_
  have hmem : ∀ i,i < a.length → LE (a.getD i z40):=fun i hi => ha _ (by simp [List.getD,List.getElem?_eq_getElem hi])
  refine same_loop (fun k i => railplanlaw42_sameEdits.l0 k a b (a.length : Int) i) a b z40 (by omega) ?_ ?_ ?_
  ·intro i hi e r h
   have h2:=sameEdit_ev (a.getD i z40) (b.getD i z40) (hmem i hi)
   rw [decide_eq_true e] at h2
   refine Ev.step (fun k => by simp only [railplanlaw42_sameEdits.l0];rw [if_pos (by omega),if_pos (by omega),if_pos (by omega),if_pos (by omega),rd_nat40,rd_nat40]) (Ev.bind h2 ?_)
   exact Ev.congr (fun k => by rw [if_pos rfl,wsucc (by omega) (by omega) hn]) h
  ·intro i hi e
   have h2:=sameEdit_ev (a.getD i z40) (b.getD i z40) (hmem i hi)
   rw [decide_eq_false e] at h2
   refine Ev.step (fun k => by simp only [railplanlaw42_sameEdits.l0];rw [if_pos (by omega),if_pos (by omega),if_pos (by omega),if_pos (by omega),rd_nat40,rd_nat40]) (Ev.bind h2 ?_)
   exact Ev.congr (fun k => if_neg (by decide)) (Ev.now _)
  ·exact Ev.at3 1 (fun k => by simp only [railplanlaw42_sameEdits.l0];rw [if_neg (by omega)])
 ·refine Ev.congr (fun k => if_neg hl) ?_
  rw [decide_eq_false (fun e => hl (by rw [e]))]
  exact Ev.now false

def Ch {α : Type} (V : α → Prop) (K : α → Int × Int) (z : α) (l : List α) : Prop:=(∀ i,i < l.length → V (l.getD i z)) ∧ ∀ i,i + 1 < l.length → klt (K (l.getD i z)) (K (l.getD (i + 1) z))
theorem chain_loop {α β : Type} (F : Nat → Int → Option β) (l : List α) (z : α) (V : α → Prop) (K : α → Int × Int) (bad r : β)
  (h1 : ∀ i,i < l.length → ¬ V (l.getD i z) → Ev (fun k => F k (i : Int)) bad)
  (h2 : ∀ i,i + 1 < l.length → V (l.getD i z) → V (l.getD (i + 1) z) → ¬ klt (K (l.getD i z)) (K (l.getD (i + 1) z)) → Ev (fun k => F k ((i + 1 : Nat) : Int)) bad)
  (h3 : ∀ i,i < l.length → V (l.getD i z) → (0 < i → V (l.getD (i - 1) z) ∧ klt (K (l.getD (i - 1) z)) (K (l.getD i z))) → ∀ r,Ev (fun k => F k ((i : Int) + 1)) r → Ev (fun k => F k (i : Int)) r)
  (h4 : Ch V K z l → Ev (fun k => F k (l.length : Int)) r) : (Ch V K z l → Ev (fun k => F k 0) r) ∧ (¬ Ch V K z l → Ev (fun k => F k 0) bad):=by
 constructor
 ·intro hc
  have key : ∀ d i,i ≤ l.length → l.length - i = d → Ev (fun k => F k (i : Int)) r:=by
   intro d
   induction d with
   | zero =>
    intro i hi hd
    obtain rfl : i = l.length:=by omega
    exact h4 hc
   | succ d ih =>
    intro i hi hd
    have h:=ih (i + 1) (by omega) (by omega)
    refine h3 i (by omega) (hc.1 i (by omega)) (fun h0 => ⟨hc.1 _ (by omega),?_⟩) r (by exact_mod_cast h)
    have:=hc.2 (i - 1) (by omega)
    rwa [Nat.sub_add_cancel h0] at this
  exact_mod_cast key l.length 0 (by omega) rfl
 ·intro hc
  have key : ∀ d i,i ≤ l.length → l.length - i = d → (∀ j,j < i → V (l.getD j z)) → (∀ j,j + 1 < i → klt (K (l.getD j z)) (K (l.getD (j + 1) z))) → Ev (fun k => F k (i : Int)) bad:=by
   intro d
   induction d with
   | zero =>
    intro i hi hd hv hk
    obtain rfl : i = l.length:=by omega
    exact absurd ⟨hv,hk⟩ hc
   | succ d ih =>
    intro i hi hd hv hk
    by_cases hV : V (l.getD i z)
    ·by_cases h0 : i = 0
     ·subst h0
      have h:=ih 1 (by omega) (by omega) (fun j hj => by rw [show j = 0 from (by omega)];exact hV) (fun j hj => by omega)
      exact h3 0 (by omega) hV (fun h => absurd h (by omega)) bad (by exact_mod_cast h)
     ·obtain ⟨m,rfl⟩ : ∃ m,i = m + 1:=⟨i - 1,by omega⟩
      by_cases hK : klt (K (l.getD m z)) (K (l.getD (m + 1) z))
      ·have h:=ih (m + 1 + 1) (by omega) (by omega) (fun j hj => by
        rcases Nat.lt_or_ge j (m + 1) with h|h
        ·exact hv j h
        ·obtain rfl : j = m + 1:=by omega
         exact hV) (fun j hj => by
        rcases Nat.lt_or_ge (j + 1) (m + 1) with h|h
        ·exact hk j h
        ·obtain rfl : j = m:=by omega
         exact hK)
       exact h3 (m + 1) (by omega) hV (fun _ => ⟨hv m (by omega),hK⟩) bad (by exact_mod_cast h)
      ·exact h2 m (by omega) (hv m (by omega)) hV hK
    ·exact h1 i (by omega) hV
  exact_mod_cast key l.length 0 (by omega) rfl (fun j hj => by omega) (fun j hj => by omega)
def SL {α : Type} (K : α → Int × Int) (l : List α) : Prop:=l.Pairwise (fun a b => klt (K a) (K b))
theorem chain_pw {α : Type} (K : α → Int × Int) (z : α) : ∀ l : List α,(∀ i,i + 1 < l.length → klt (K (l.getD i z)) (K (l.getD (i + 1) z))) → SL K l
 | [],_ => List.Pairwise.nil
 | [a],_ => List.pairwise_singleton _ a
 | a :: b :: l,h => by
  have ih:=chain_pw K z (b :: l) (fun i hi => by have:=h (i + 1) (by simpa using hi);simpa using this)
  refine List.Pairwise.cons (fun x hx => ?_) ih
  have h0 : klt (K a) (K b):=by have:=h 0 (by simp);simpa using this
  rcases List.mem_cons.mp hx with e|hx
  ·rw [e];exact h0
  ·exact klt_trans h0 ((List.pairwise_cons.mp ih).1 x hx)
theorem pw_chain {α : Type} (K : α → Int × Int) (z : α) : ∀ l : List α,SL K l → ∀ i,i + 1 < l.length → klt (K (l.getD i z)) (K (l.getD (i + 1) z))
 | [],_,i,hi => by simp at hi
 | [a],_,i,hi => by simp at hi
 | a :: b :: l,h,i,hi => by
  obtain ⟨h1,h2⟩:=List.pairwise_cons.mp h
  cases i with
  | zero => simpa using h1 b (by simp)
  | succ i => have:=pw_chain K z (b :: l) h2 i (by simpa using hi);simpa using this
theorem getD_mem {α : Type} (l : List α) (z : α) {i : Nat} (h : i < l.length) : l.getD i z ∈ l:=by simp [List.getD,List.getElem?_eq_getElem h]
theorem mem_getD {α : Type} (l : List α) (z : α) {x : α} (h : x ∈ l) : ∃ i,i < l.length ∧ l.getD i z = x:=by
 obtain ⟨i,hi,e⟩:=List.getElem_of_mem h
 exact ⟨i,hi,by simp [List.getD,List.getElem?_eq_getElem hi,e]⟩
theorem ch_iff {α : Type} {V : α → Prop} {K : α → Int × Int} {z : α} {l : List α} : Ch V K z l ↔ (∀ t ∈ l,V t) ∧ SL K l :=
 ⟨fun h => ⟨fun t ht => by obtain ⟨i,hi,rfl⟩:=mem_getD l z ht;exact h.1 i hi,chain_pw K z l h.2⟩,fun h => ⟨fun i hi => h.1 _ (getD_mem l z hi),pw_chain K z l h.2⟩⟩
theorem sl_ext {α : Type} {K : α → Int × Int} : ∀ {l m : List α},SL K l → SL K m → (∀ x,x ∈ l ↔ x ∈ m) → l = m
 | [],[],_,_,_ => rfl
 | [],b :: m,_,_,h => absurd ((h b).mpr (by simp)) (by simp)
 | a :: l,[],_,_,h => absurd ((h a).mp (by simp)) (by simp)
 | a :: l,b :: m,hl,hm,h => by
  obtain ⟨hl1,hl2⟩:=List.pairwise_cons.mp hl
  obtain ⟨hm1,hm2⟩:=List.pairwise_cons.mp hm
  have e : a = b:=by
   rcases List.mem_cons.mp ((h a).mp (by simp)) with e|ha
   ·exact e
   ·rcases List.mem_cons.mp ((h b).mpr (by simp)) with e|hb
    ·exact e.symm
    ·exact absurd (hm1 a ha) (klt_asymm (hl1 b hb))
  subst e
  rw [sl_ext hl2 hm2 (fun x => ⟨fun hx => by
   rcases List.mem_cons.mp ((h x).mp (by simp [hx])) with e|hx'
   ·subst e;exact absurd (hl1 x hx) (klt_irrefl _)
   ·exact hx',fun hx => by
   rcases List.mem_cons.mp ((h x).mpr (by simp [hx])) with e|hx'
   ·subst e;exact absurd (hm1 x hx) (klt_irrefl _)
   ·exact hx'⟩)]
theorem sl_inj {α : Type} {K : α → Int × Int} : ∀ {l : List α},SL K l → ∀ {x y : α},x ∈ l → y ∈ l → K x = K y → x = y
 | [],_,x,y,hx,_,_ => by simp at hx
 | a :: l,h,x,y,hx,hy,e => by
  obtain ⟨h1,h2⟩:=List.pairwise_cons.mp h
  rcases List.mem_cons.mp hx with hx'|hx'
  ·rcases List.mem_cons.mp hy with hy'|hy'
   ·rw [hx',hy']
   ·exact absurd (by rw [← hx'];exact e) (klt_ne (h1 y hy'))
  ·rcases List.mem_cons.mp hy with hy'|hy'
   ·exact absurd (by rw [← hy'];exact e.symm) (klt_ne (h1 x hx'))
   ·exact sl_inj h2 hx' hy' e

def OKL (l : List S28) : Prop:=(∀ t ∈ l,VT t) ∧ SL ky l
def CK (l : List S28) : Prop:=OKL l ∧ l.length ≤ 1024
noncomputable instance (l : List S28) : Decidable (CK l):=Classical.propDecidable _
theorem dCheck_ev (l : List S28) (hn : l.length ≤ 140737488351232) : Ev (fun k => diff_Check.f k l) (decide (CK l)):=by
 unfold diff_Check.f
 obtain ⟨ha,hb⟩:=chain_loop (fun k i => diff_Check.l0 k l l (l.length : Int) i) l z28 VT ky false (decide ((l.length : Int) ≤ 1024))
  (fun i hi hv => Ev.at3 1 (fun k => by simp only [diff_Check.l0];rw [if_pos (by omega),if_pos (by omega),if_pos (by omega),rd_nat28,valid_eq,bindS,decide_eq_false hv,if_neg (by decide)]))
  (fun i hi hv hv' hk => by
   refine Ev.step (fun k => by simp only [diff_Check.l0];rw [if_pos (by omega),if_pos (by omega),if_pos (by omega),rd_nat28,valid_eq,bindS,decide_eq_true hv',if_pos rfl,if_pos (by omega),show (((i + 1 : Nat) : Int)) - 1 = (i : Int) by omega,wrap64_id (x:=(i : Int)) (by omega) (by omega),if_pos (by omega),if_pos (by omega),rd_nat28]) (Ev.bind (compare_ev _ _ hv.one hv'.one) ?_)
   exact Ev.congr (fun k => if_pos (kc_ge.mpr hk)) (Ev.now _))
  (fun i hi hv hp r h => by
   by_cases h0 : 0 < i
   ·obtain ⟨hv',hk⟩:=hp h0
    refine Ev.step (fun k => by simp only [diff_Check.l0];rw [if_pos (by omega),if_pos (by omega),if_pos (by omega),rd_nat28,valid_eq,bindS,decide_eq_true hv,if_pos rfl,if_pos (by omega),show (i : Int) - 1 = ((i - 1 : Nat) : Int) by omega,wrap64_id (x:=((i - 1 : Nat) : Int)) (by omega) (by omega),if_pos (by omega),if_pos (by omega),rd_nat28]) (Ev.bind (compare_ev _ _ hv'.one hv.one) ?_)
    exact Ev.congr (fun k => by rw [if_neg (fun h' => kc_ge.mp h' hk),wsucc (by omega) (by omega) hn]) h
   ·exact Ev.step (fun k => by simp only [diff_Check.l0];rw [if_pos (by omega),if_pos (by omega),if_pos (by omega),rd_nat28,valid_eq,bindS,decide_eq_true hv,if_pos rfl,if_neg (by omega),wsucc (by omega) (by omega) hn]) h)
  (fun _ => Ev.at3 1 (fun k => by simp only [diff_Check.l0];rw [if_neg (by omega)]))
 by_cases hc : Ch VT ky z28 l
 ·rw [show decide (CK l) = decide ((l.length : Int) ≤ 1024) from decide_eq_decide.mpr ⟨fun h => by have:=h.2;omega,fun h => ⟨ch_iff.mp hc,by omega⟩⟩]
  exact ha hc
 ·rw [decide_eq_false (fun h => hc (ch_iff.mpr h.1))]
  exact hb hc
theorem rCheck_ev (l : List S28) (hn : l.length ≤ 140737488351232) : Ev (fun k => railplanref41_CheckTrips.f k l) (decide (CK l)):=by
 unfold railplanref41_CheckTrips.f
 by_cases hlen : (l.length : Int) > 1024
 ·rw [decide_eq_false (fun h => by have:=h.2;omega)]
  exact Ev.congr (fun k => if_pos hlen) (Ev.now _)
 refine Ev.congr (fun k => if_neg hlen) ?_
 obtain ⟨ha,hb⟩:=chain_loop (fun k i => railplanref41_CheckTrips.l0 k l l (l.length : Int) i) l z28 VT ky false true
  (fun i hi hv => Ev.at3 1 (fun k => by simp only [railplanref41_CheckTrips.l0];rw [if_pos (by omega),if_pos (by omega),if_pos (by omega),rd_nat28,validTrip_eq,bindS,decide_eq_false hv,if_neg (by decide)]))
  (fun i hi hv hv' hk => by
   refine Ev.step (fun k => by simp only [railplanref41_CheckTrips.l0];rw [if_pos (by omega),if_pos (by omega),if_pos (by omega),rd_nat28,validTrip_eq,bindS,decide_eq_true hv',if_pos rfl,if_pos (by omega),show (((i + 1 : Nat) : Int)) - 1 = (i : Int) by omega,wrap64_id (x:=(i : Int)) (by omega) (by omega),if_pos (by omega),if_pos (by omega),rd_nat28]) (Ev.bind (order_ev _ _ hv.one hv'.one) ?_)
   exact Ev.congr (fun k => if_pos (kc_ge.mpr hk)) (Ev.now _))
  (fun i hi hv hp r h => by
   by_cases h0 : 0 < i
   ·obtain ⟨hv',hk⟩:=hp h0
    refine Ev.step (fun k => by simp only [railplanref41_CheckTrips.l0];rw [if_pos (by omega),if_pos (by omega),if_pos (by omega),rd_nat28,validTrip_eq,bindS,decide_eq_true hv,if_pos rfl,if_pos (by omega),show (i : Int) - 1 = ((i - 1 : Nat) : Int) by omega,wrap64_id (x:=((i - 1 : Nat) : Int)) (by omega) (by omega),if_pos (by omega),if_pos (by omega),rd_nat28]) (Ev.bind (order_ev _ _ hv'.one hv.one) ?_)
    exact Ev.congr (fun k => by rw [if_neg (fun h' => kc_ge.mp h' hk),wsucc (by omega) (by omega) hn]) h
   ·exact Ev.step (fun k => by simp only [railplanref41_CheckTrips.l0];rw [if_pos (by omega),if_pos (by omega),if_pos (by omega),rd_nat28,validTrip_eq,bindS,decide_eq_true hv,if_pos rfl,if_neg (by omega),wsucc (by omega) (by omega) hn]) h)
  (fun _ => Ev.at3 1 (fun k => by simp only [railplanref41_CheckTrips.l0];rw [if_neg (by omega)]))
 by_cases hc : Ch VT ky z28 l
 ·rw [decide_eq_true (show CK l from ⟨ch_iff.mp hc,by omega⟩)]
  exact ha hc
 ·rw [decide_eq_false (fun h => hc (ch_iff.mpr h.1))]
  exact hb hc
end Go.Proofs.Ytpclhbcflkncnaa.Pure

namespace Go.Proofs.Ytpclhbcflkncnaa.Pure
open Go.RowKit Go.Proofs.Ytpclhbcflkncnaa.PAll Go.Proofs.YtpclhbcflkncnaaW.PrintWords Go.Proofs.YtpclhbcflkncnaaW.PrintLast
set_option linter.unusedVariables false
def mkR (t : S28) : S40:=⟨2,t,z28⟩
def mkA (u : S28) : S40:=⟨1,z28,u⟩
def mkC (t u : S28) : S40:=⟨3,t,u⟩
def tr (e : S40) : S28:=if e.f0 = 1 then e.f2 else e.f1
def ke (e : S40) : Int × Int:=ky (tr e)
theorem tr_R (t : S28) : tr (mkR t) = t:=by unfold tr mkR;exact if_neg (show ¬ (2 : Int) = 1 by decide)
theorem tr_A (t : S28) : tr (mkA t) = t:=by unfold tr mkA;rw [if_pos rfl]
theorem tr_C (t u : S28) : tr (mkC t u) = t:=by unfold tr mkC;exact if_neg (show ¬ (3 : Int) = 1 by decide)
theorem ke_R (t : S28) : ke (mkR t) = ky t:=by unfold ke;rw [tr_R]
theorem ke_A (t : S28) : ke (mkA t) = ky t:=by unfold ke;rw [tr_A]
theorem ke_C (t u : S28) : ke (mkC t u) = ky t:=by unfold ke;rw [tr_C]
def DE (a b : List S28) (e : S40) : Prop:=(∃ t ∈ a,(∀ u ∈ b,ky u ≠ ky t) ∧ e = mkR t) ∨ (∃ u ∈ b,(∀ t ∈ a,ky t ≠ ky u) ∧ e = mkA u) ∨ (∃ t ∈ a,∃ u ∈ b,ky t = ky u ∧ t ≠ u ∧ e = mkC t u)
theorem DE_key {a b : List S28} {e : S40} (h : DE a b e) : (∃ t ∈ a,ke e = ky t) ∨ (∃ u ∈ b,ke e = ky u):=by
 rcases h with ⟨t,ht,_,rfl⟩|⟨u,hu,_,rfl⟩|⟨t,ht,u,hu,_,_,rfl⟩
 ·exact .inl ⟨t,ht,ke_R t⟩
 ·exact .inr ⟨u,hu,ke_A u⟩
 ·exact .inl ⟨t,ht,ke_C t u⟩
theorem DE_consR {t : S28} {a b : List S28} {e : S40} (h : ∀ u ∈ b,ky u ≠ ky t) : DE (t :: a) b e ↔ e = mkR t ∨ DE a b e:=by
 constructor
 ·rintro (⟨t',ht,hn,rfl⟩|⟨u,hu,hn,rfl⟩|⟨t',ht,u,hu,hk,hne,rfl⟩)
  ·rcases List.mem_cons.mp ht with rfl|ht
   ·exact .inl rfl
   ·exact .inr (.inl ⟨t',ht,hn,rfl⟩)
  ·exact .inr (.inr (.inl ⟨u,hu,fun x hx => hn x (List.mem_cons_of_mem _ hx),rfl⟩))
  ·rcases List.mem_cons.mp ht with rfl|ht
   ·exact absurd hk.symm (h u hu)
   ·exact .inr (.inr (.inr ⟨t',ht,u,hu,hk,hne,rfl⟩))
 ·rintro (rfl|⟨t',ht,hn,rfl⟩|⟨u,hu,hn,rfl⟩|⟨t',ht,u,hu,hk,hne,rfl⟩)
  ·exact .inl ⟨t,by simp,h,rfl⟩
  ·exact .inl ⟨t',List.mem_cons_of_mem _ ht,hn,rfl⟩
  ·refine .inr (.inl ⟨u,hu,fun x hx => ?_,rfl⟩)
   rcases List.mem_cons.mp hx with rfl|hx
   ·exact fun e => h u hu e.symm
   ·exact hn x hx
  ·exact .inr (.inr ⟨t',List.mem_cons_of_mem _ ht,u,hu,hk,hne,rfl⟩)
theorem DE_consA {u : S28} {a b : List S28} {e : S40} (h : ∀ t ∈ a,ky t ≠ ky u) : DE a (u :: b) e ↔ e = mkA u ∨ DE a b e:=by
 constructor
 ·rintro (⟨t',ht,hn,rfl⟩|⟨u',hu,hn,rfl⟩|⟨t',ht,u',hu,hk,hne,rfl⟩)
  ·exact .inr (.inl ⟨t',ht,fun x hx => hn x (List.mem_cons_of_mem _ hx),rfl⟩)
  ·rcases List.mem_cons.mp hu with rfl|hu
   ·exact .inl rfl
   ·exact .inr (.inr (.inl ⟨u',hu,hn,rfl⟩))
  ·rcases List.mem_cons.mp hu with rfl|hu
   ·exact absurd hk (h t' ht)
   ·exact .inr (.inr (.inr ⟨t',ht,u',hu,hk,hne,rfl⟩))
 ·rintro (rfl|⟨t',ht,hn,rfl⟩|⟨u',hu,hn,rfl⟩|⟨t',ht,u',hu,hk,hne,rfl⟩)
  ·exact .inr (.inl ⟨u,by simp,h,rfl⟩)
  ·refine .inl ⟨t',ht,fun x hx => ?_,rfl⟩
   rcases List.mem_cons.mp hx with rfl|hx
   ·exact fun e => h t' ht e.symm
   ·exact hn x hx
  ·exact .inr (.inl ⟨u',List.mem_cons_of_mem _ hu,hn,rfl⟩)
  ·exact .inr (.inr ⟨t',ht,u',List.mem_cons_of_mem _ hu,hk,hne,rfl⟩)
theorem DE_consB {t u : S28} {a b : List S28} {e : S40} (hk : ky t = ky u) (h1 : ∀ x ∈ b,ky x ≠ ky t) (h2 : ∀ x ∈ a,ky x ≠ ky u) : DE (t :: a) (u :: b) e ↔ (t ≠ u ∧ e = mkC t u) ∨ DE a b e:=by
 constructor
 ·rintro (⟨t',ht,hn,rfl⟩|⟨u',hu,hn,rfl⟩|⟨t',ht,u',hu,hk',hne,rfl⟩)
  ·rcases List.mem_cons.mp ht with rfl|ht
   ·exact absurd hk.symm (hn u (by simp))
   ·exact .inr (.inl ⟨t',ht,fun x hx => hn x (List.mem_cons_of_mem _ hx),rfl⟩)
  ·rcases List.mem_cons.mp hu with rfl|hu
   ·exact absurd hk (hn t (by simp))
   ·exact .inr (.inr (.inl ⟨u',hu,fun x hx => hn x (List.mem_cons_of_mem _ hx),rfl⟩))
  ·rcases List.mem_cons.mp ht with rfl|ht
   ·rcases List.mem_cons.mp hu with rfl|hu
    ·exact .inl ⟨hne,rfl⟩
    ·exact absurd hk'.symm (h1 u' hu)
   ·rcases List.mem_cons.mp hu with rfl|hu
    ·exact absurd hk' (h2 t' ht)
    ·exact .inr (.inr (.inr ⟨t',ht,u',hu,hk',hne,rfl⟩))
 ·rintro (⟨hne,rfl⟩|⟨t',ht,hn,rfl⟩|⟨u',hu,hn,rfl⟩|⟨t',ht,u',hu,hk',hne,rfl⟩)
  ·exact .inr (.inr ⟨t,by simp,u,by simp,hk,hne,rfl⟩)
  ·refine .inl ⟨t',List.mem_cons_of_mem _ ht,fun x hx => ?_,rfl⟩
   rcases List.mem_cons.mp hx with rfl|hx
   ·exact fun e => h2 t' ht e.symm
   ·exact hn x hx
  ·refine .inr (.inl ⟨u',List.mem_cons_of_mem _ hu,fun x hx => ?_,rfl⟩)
   rcases List.mem_cons.mp hx with rfl|hx
   ·exact fun e => h1 u' hu e.symm
   ·exact hn x hx
  ·exact .inr (.inr ⟨t',List.mem_cons_of_mem _ ht,u',List.mem_cons_of_mem _ hu,hk',hne,rfl⟩)
theorem DE_nil {e : S40} : ¬ DE [] [] e:=by
 rintro (⟨t,ht,_⟩|⟨t,ht,_⟩|⟨t,ht,_⟩) <;> simp at ht
theorem okl_drop {l : List S28} (h : OKL l) (i : Nat) : OKL (l.drop i):=⟨fun t ht => h.1 t (List.mem_of_mem_drop ht),h.2.sublist (List.drop_sublist i l)⟩
theorem okl_at {l : List S28} (h : OKL l) {i : Nat} (hi : i < l.length) : VT (l.getD i z28) ∧ (∀ x ∈ l.drop (i + 1),klt (ky (l.getD i z28)) (ky x)) ∧ OKL (l.drop (i + 1)):=by
 have h':=okl_drop h i
 rw [drop_get l z28 hi] at h'
 exact ⟨h.1 _ (getD_mem l z28 hi),(List.pairwise_cons.mp h'.2).1,okl_drop h (i + 1)⟩
theorem sl_cons {e : S40} {m : List S40} {a b : List S28} (hm : SL ke m) (hd : ∀ x,x ∈ m ↔ DE a b x) (ha : ∀ t ∈ a,klt (ke e) (ky t)) (hb : ∀ u ∈ b,klt (ke e) (ky u)) : SL ke (e :: m):=by
 refine List.Pairwise.cons (fun x hx => ?_) hm
 rcases DE_key ((hd x).mp hx) with ⟨t,ht,hk⟩|⟨u,hu,hk⟩
 ·rw [hk];exact ha t ht
 ·rw [hk];exact hb u hu
theorem dDiff_end (a b : List S28) (d : Nat) : ∃ m : List S40,(∀ e,e ∈ m ↔ DE (a.drop a.length) (b.drop b.length) e) ∧ SL ke m ∧ m.length ≤ d ∧ ∀ x6 : List S40,x6.length + d ≤ 4096 → Ev (fun k => diff_Diff.l0 k a b x6 (a.length : Int) (b.length : Int)) (x6 ++ m,0):=by
 refine ⟨[],fun e => ?_,List.Pairwise.nil,by simp,fun x6 h6 => ?_⟩
 ·rw [List.drop_length,List.drop_length]
  exact ⟨fun h => by simp at h,fun h => absurd h DE_nil⟩
 ·rw [List.append_nil]
  refine Ev.at3 2 (fun k => ?_)
  simp only [diff_Diff.l0]
  rw [if_neg (by omega),decide_eq_false (by omega)]
  simp only [diff_Diff.j2]
  rw [if_neg (by decide)]
theorem dDiff_loop (a b : List S28) (ha : OKL a) (hb : OKL b) (la : a.length ≤ 1024) (lb : b.length ≤ 1024) : ∀ (d i j : Nat),(a.length - i) + (b.length - j) ≤ d → i ≤ a.length → j ≤ b.length →
  ∃ m : List S40,(∀ e,e ∈ m ↔ DE (a.drop i) (b.drop j) e) ∧ SL ke m ∧ m.length ≤ d ∧ ∀ x6 : List S40,x6.length + d ≤ 4096 → Ev (fun k => diff_Diff.l0 k a b x6 (i : Int) (j : Int)) (x6 ++ m,0):=by
 intro d
 induction d with
 | zero =>
  intro i j hd hi hj
  obtain rfl : i = a.length:=by omega
  obtain rfl : j = b.length:=by omega
  exact dDiff_end a b 0
 | succ d ih =>
  intro i j hd hi hj
  -- the three ways on
  have goR : ∀ (hi' : i < a.length),(∀ u ∈ b.drop j,klt (ky (a.getD i z28)) (ky u)) → (∀ x6 : List S40,∀ r,Ev (fun k => diff_Diff.j3 k a b x6 (i : Int) (j : Int) true) r → Ev (fun k => diff_Diff.l0 k a b x6 (i : Int) (j : Int)) r) →
    ∃ m : List S40,(∀ e,e ∈ m ↔ DE (a.drop i) (b.drop j) e) ∧ SL ke m ∧ m.length ≤ d + 1 ∧ ∀ x6 : List S40,x6.length + (d + 1) ≤ 4096 → Ev (fun k => diff_Diff.l0 k a b x6 (i : Int) (j : Int)) (x6 ++ m,0):=by
   intro hi' hlt hw
   obtain ⟨hv,hl,hok⟩:=okl_at ha hi'
   obtain ⟨m,hm,hs,hle,he⟩:=ih (i + 1) j (by omega) (by omega) hj
   refine ⟨mkR (a.getD i z28) :: m,fun e => ?_,sl_cons hs hm (fun t ht => by rw [ke_R];exact hl t ht) (fun u hu => by rw [ke_R];exact hlt u hu),by simpa using hle,fun x6 h6 => ?_⟩
   ·rw [drop_get a z28 hi',DE_consR (fun u hu => (klt_ne (hlt u hu)).symm),List.mem_cons,hm]
   ·refine hw x6 _ (Ev.step (fun k => by simp only [diff_Diff.j3];rw [if_pos trivial,if_pos (by omega),if_pos (by omega),rd_nat28,own_eq _ hv.st,bindS,if_pos (by omega),wsucc (n:=1024) (by omega) (by omega) (by decide)]) ?_)
    have:=he (x6 ++ [mkR (a.getD i z28)]) (by simp;omega)
    rw [List.append_assoc] at this
    exact_mod_cast this
  have goA : ∀ (hj' : j < b.length),(∀ t ∈ a.drop i,klt (ky (b.getD j z28)) (ky t)) → (∀ x6 : List S40,∀ r,Ev (fun k => diff_Diff.j4 k a b x6 (i : Int) (j : Int) true) r → Ev (fun k => diff_Diff.l0 k a b x6 (i : Int) (j : Int)) r) →
    ∃ m : List S40,(∀ e,e ∈ m ↔ DE (a.drop i) (b.drop j) e) ∧ SL ke m ∧ m.length ≤ d + 1 ∧ ∀ x6 : List S40,x6.length + (d + 1) ≤ 4096 → Ev (fun k => diff_Diff.l0 k a b x6 (i : Int) (j : Int)) (x6 ++ m,0):=by
   intro hj' hlt hw
   obtain ⟨hv,hl,hok⟩:=okl_at hb hj'
   obtain ⟨m,hm,hs,hle,he⟩:=ih i (j + 1) (by omega) hi (by omega)
   refine ⟨mkA (b.getD j z28) :: m,fun e => ?_,sl_cons hs hm (fun t ht => by rw [ke_A];exact hlt t ht) (fun u hu => by rw [ke_A];exact hl u hu),by simpa using hle,fun x6 h6 => ?_⟩
   ·rw [drop_get b z28 hj',DE_consA (fun t ht => (klt_ne (hlt t ht)).symm),List.mem_cons,hm]
   ·refine hw x6 _ (Ev.step (fun k => by simp only [diff_Diff.j4];rw [if_pos trivial,if_pos (by omega),if_pos (by omega),rd_nat28,own_eq _ hv.st,bindS,if_pos (by omega),wsucc (n:=1024) (by omega) (by omega) (by decide)]) ?_)
    have:=he (x6 ++ [mkA (b.getD j z28)]) (by simp;omega)
    rw [List.append_assoc] at this
    exact_mod_cast this
  by_cases hi' : i < a.length
  ·by_cases hj' : j < b.length
   ·obtain ⟨hv,hl,hok⟩:=okl_at ha hi'
    obtain ⟨hv2,hl2,hok2⟩:=okl_at hb hj'
    have c1:=compare_ev (a.getD i z28) (b.getD j z28) hv.one hv2.one
    have c2:=compare_ev (b.getD j z28) (a.getD i z28) hv2.one hv.one
    have w1 : ∀ x6 : List S40,∀ r,Ev (fun k => diff_Diff.j3 k a b x6 (i : Int) (j : Int) (decide (kc (ky (a.getD i z28)) (ky (b.getD j z28)) < 0))) r → Ev (fun k => diff_Diff.l0 k a b x6 (i : Int) (j : Int)) r:=by
     intro x6 r h
     refine Ev.step (fun k => by simp only [diff_Diff.l0];rw [if_pos (by omega)]) (Ev.step (fun k => by simp only [diff_Diff.j2];rw [if_pos trivial,if_neg (by omega),if_pos (by omega),if_pos (by omega),if_pos (by omega),if_pos (by omega),rd_nat28,rd_nat28]) (Ev.bind c1 h))
    rcases klt_tri (ky (a.getD i z28)) (ky (b.getD j z28)) with h|h|h
    ·refine goR hi' (fun u hu => ?_) (fun x6 r hr => w1 x6 r ?_)
     ·rw [drop_get b z28 hj'] at hu
      rcases List.mem_cons.mp hu with rfl|hu
      ·exact h
      ·exact klt_trans h (hl2 u hu)
     ·rw [decide_eq_true (kc_neg.mpr h)];exact hr
    ·have w2 : ∀ x6 : List S40,∀ r,Ev (fun k => diff_Diff.j4 k a b x6 (i : Int) (j : Int) false) r → Ev (fun k => diff_Diff.l0 k a b x6 (i : Int) (j : Int)) r:=by
      intro x6 r hr
      refine w1 x6 r ?_
      rw [kc_eq h]
      refine Ev.step (fun k => by simp only [diff_Diff.j3];rw [if_neg (by decide),if_neg (by omega),if_pos (by omega),if_pos (by omega),if_pos (by omega),if_pos (by omega),rd_nat28,rd_nat28]) (Ev.bind c2 ?_)
      rw [kc_eq h.symm]
      exact hr
     have q1 : ∀ x ∈ b.drop (j + 1),ky x ≠ ky (a.getD i z28):=fun x hx => by rw [h];exact (klt_ne (hl2 x hx)).symm
     have q2 : ∀ x ∈ a.drop (i + 1),ky x ≠ ky (b.getD j z28):=fun x hx => by rw [← h];exact (klt_ne (hl x hx)).symm
     have e1:=dEqual_ev (a.getD i z28) (b.getD j z28) hv.lt
     obtain ⟨m,hm,hs,hle,he⟩:=ih (i + 1) (j + 1) (by omega) (by omega) (by omega)
     by_cases heq : a.getD i z28 = b.getD j z28
     ·refine ⟨m,fun e => ?_,hs,by omega,fun x6 h6 => ?_⟩
      ·rw [drop_get a z28 hi',drop_get b z28 hj',DE_consB h q1 q2,hm]
       exact ⟨.inr,fun h' => h'.resolve_left (fun h'' => h''.1 heq)⟩
      ·refine w2 x6 _ (Ev.step (fun k => by simp only [diff_Diff.j4];rw [if_neg (by decide),if_pos (by omega),if_pos (by omega),if_pos (by omega),if_pos (by omega),rd_nat28,rd_nat28]) (Ev.bind e1 ?_))
       rw [decide_eq_true heq]
       refine Ev.congr (fun k => by rw [if_pos rfl,wsucc (n:=1024) (by omega) (by omega) (by decide),wsucc (n:=1024) (by omega) (by omega) (by decide)]) ?_
       exact_mod_cast he x6 (by omega)
     ·refine ⟨mkC (a.getD i z28) (b.getD j z28) :: m,fun e => ?_,sl_cons hs hm (fun t ht => by rw [ke_C];exact hl t ht) (fun u hu => by rw [ke_C,h];exact hl2 u hu),by simpa using hle,fun x6 h6 => ?_⟩
      ·rw [drop_get a z28 hi',drop_get b z28 hj',DE_consB h q1 q2,List.mem_cons,hm]
       exact ⟨fun h' => h'.elim (fun e => .inl ⟨heq,e⟩) .inr,fun h' => h'.elim (fun e => .inl e.2) .inr⟩
      ·refine w2 x6 _ (Ev.step (fun k => by simp only [diff_Diff.j4];rw [if_neg (by decide),if_pos (by omega),if_pos (by omega),if_pos (by omega),if_pos (by omega),rd_nat28,rd_nat28]) (Ev.bind e1 ?_))
       rw [decide_eq_false heq]
       refine Ev.congr (fun k => by rw [if_neg (by decide),own_eq _ hv.st,bindS,own_eq _ hv2.st,bindS,if_pos (by omega),wsucc (n:=1024) (by omega) (by omega) (by decide),wsucc (n:=1024) (by omega) (by omega) (by decide)]) ?_
       have:=he (x6 ++ [mkC (a.getD i z28) (b.getD j z28)]) (by simp;omega)
       rw [List.append_assoc] at this
       exact_mod_cast this
    ·refine goA hj' (fun t ht => ?_) (fun x6 r hr => w1 x6 r ?_)
     ·rw [drop_get a z28 hi'] at ht
      rcases List.mem_cons.mp ht with rfl|ht
      ·exact h
      ·exact klt_trans h (hl t ht)
     ·rw [kc_gt h]
      refine Ev.step (fun k => by simp only [diff_Diff.j3];rw [if_neg (by decide),if_neg (by omega),if_pos (by omega),if_pos (by omega),if_pos (by omega),if_pos (by omega),rd_nat28,rd_nat28]) (Ev.bind c2 ?_)
      rw [decide_eq_true (kc_neg.mpr h)]
      exact hr
   ·obtain rfl : j = b.length:=by omega
    refine goR hi' (fun u hu => by simp at hu) (fun x6 r hr => ?_)
    exact Ev.step (fun k => by simp only [diff_Diff.l0];rw [if_pos (by omega)]) (Ev.step (fun k => by simp only [diff_Diff.j2];rw [if_pos trivial,if_pos trivial]) hr)
  ·obtain rfl : i = a.length:=by omega
   by_cases hj' : ¬ j < b.length
   ·obtain rfl : j = b.length:=by omega
    exact dDiff_end a b (d + 1)
   replace hj' : j < b.length:=by omega
   refine goA hj' (fun t ht => by simp at ht) (fun x6 r hr => ?_)
   exact Ev.step (fun k => by simp only [diff_Diff.l0];rw [if_neg (by omega),decide_eq_true (by omega)]) (Ev.step (fun k => by simp only [diff_Diff.j2];rw [if_pos trivial,if_neg (by omega),if_neg (by omega)]) (Ev.step (fun k => by simp only [diff_Diff.j3];rw [if_neg (by decide),if_pos trivial]) hr))
end Go.Proofs.Ytpclhbcflkncnaa.Pure

namespace Go.Proofs.Ytpclhbcflkncnaa.Pure
open Go.RowKit Go.Proofs.Ytpclhbcflkncnaa.PAll Go.Proofs.YtpclhbcflkncnaaW.PrintWords Go.Proofs.YtpclhbcflkncnaaW.PrintLast
set_option linter.unusedVariables false
theorem keyed_eq (e : S40) : railplanref41_keyed.f e.f0 e.f1.f0 e.f1.f1 e.f1.f2 e.f1.f3 e.f2.f0 e.f2.f1 e.f2.f2 e.f2.f3 = some ((tr e).f0,(tr e).f1,(tr e).f2,(tr e).f3):=by
 unfold railplanref41_keyed.f tr
 by_cases h : e.f0 = 1
 ·rw [if_pos h,if_pos h]
 ·rw [if_neg h,if_neg h]
theorem find_ev (l : List S28) (t : S28) (hn : l.length ≤ 1024) (hl : ∀ u ∈ l,VT u) (ht : VT t) : ∃ r : Int,Ev (fun k => railplanref41_Find.f k l t.f0 t.f1 t.f2 t.f3) r ∧ (r = -1 ∧ (∀ u ∈ l,ky u ≠ ky t) ∨ ∃ i : Nat,i < l.length ∧ r = i ∧ ky (l.getD i z28) = ky t):=by
 have key : ∀ d i : Nat,i ≤ l.length → l.length - i = d → ∃ r : Int,Ev (fun k => railplanref41_Find.l0 k l (l.length : Int) (i : Int) t.f0 t.f1 t.f2 t.f3) r ∧ (r = -1 ∧ (∀ u ∈ l.drop i,ky u ≠ ky t) ∨ ∃ i : Nat,i < l.length ∧ r = i ∧ ky (l.getD i z28) = ky t):=by
  intro d
  induction d with
  | zero =>
   intro i hi hd
   obtain rfl : i = l.length:=by omega
   exact ⟨-1,Ev.at3 1 (fun k => by simp only [railplanref41_Find.l0];rw [if_neg (by omega)]),.inl ⟨rfl,fun u hu => by simp at hu⟩⟩
  | succ d ih =>
   intro i hi hd
   have hlt : i < l.length:=by omega
   have hv:=hl _ (getD_mem l z28 hlt)
   have o:=order_ev (l.getD i z28) t hv.one ht.one
   by_cases h : ky (l.getD i z28) = ky t
   ·refine ⟨i,Ev.step (fun k => by simp only [railplanref41_Find.l0];rw [if_pos (by omega),if_pos (by omega),if_pos (by omega),rd_nat28]) (Ev.bind o ?_),.inr ⟨i,hlt,rfl,h⟩⟩
    exact Ev.congr (fun k => if_pos (kc_zero.mpr h)) (Ev.now _)
   ·obtain ⟨r,hr,hr2⟩:=ih (i + 1) (by omega) (by omega)
    refine ⟨r,Ev.step (fun k => by simp only [railplanref41_Find.l0];rw [if_pos (by omega),if_pos (by omega),if_pos (by omega),rd_nat28]) (Ev.bind o ?_),?_⟩
    ·refine Ev.congr (fun k => by rw [if_neg (fun h' => h (kc_zero.mp h')),wsucc (n:=1024) (by omega) (by omega) (by decide)]) ?_
     exact_mod_cast hr
    ·rcases hr2 with ⟨h1,h2⟩|h2
     ·refine .inl ⟨h1,fun u hu => ?_⟩
      rw [drop_get l z28 hlt] at hu
      rcases List.mem_cons.mp hu with rfl|hu
      ·exact h
      ·exact h2 u hu
     ·exact .inr h2
 obtain ⟨r,hr,h⟩:=key l.length 0 (by omega) rfl
 exact ⟨r,by unfold railplanref41_Find.f;exact_mod_cast hr,by simpa using h⟩
theorem find_no {l : List S28} {t : S28} (hn : l.length ≤ 1024) (hl : ∀ u ∈ l,VT u) (ht : VT t) (h : ∀ u ∈ l,ky u ≠ ky t) : Ev (fun k => railplanref41_Find.f k l t.f0 t.f1 t.f2 t.f3) (-1):=by
 obtain ⟨r,hr,⟨rfl,_⟩|⟨i,hi,_,hk⟩⟩:=find_ev l t hn hl ht
 ·exact hr
 ·exact absurd hk (h _ (getD_mem l z28 hi))
theorem find_yes {l : List S28} {t u : S28} (hn : l.length ≤ 1024) (hl : OKL l) (ht : VT t) (hu : u ∈ l) (hk : ky u = ky t) : ∃ i : Nat,i < l.length ∧ l.getD i z28 = u ∧ Ev (fun k => railplanref41_Find.f k l t.f0 t.f1 t.f2 t.f3) (i : Int):=by
 obtain ⟨r,hr,⟨rfl,h⟩|⟨i,hi,rfl,hk'⟩⟩:=find_ev l t hn hl.1 ht
 ·exact absurd hk (h u hu)
 ·exact ⟨i,hi,sl_inj hl.2 (getD_mem l z28 hi) hu (hk'.trans hk.symm),hr⟩
theorem insert_ev (l : List S40) (e : S40) (hn : l.length ≤ 4096) (hl : ∀ x ∈ l,VT (tr x)) (he : VT (tr e)) (hs : SL ke l) (hne : ∀ x ∈ l,ke x ≠ ke e) :
  ∃ m,Ev (fun k => railplanref41_insertEdit.f k l e.f0 e.f1.f0 e.f1.f1 e.f1.f2 e.f1.f3 e.f2.f0 e.f2.f1 e.f2.f2 e.f2.f3) m ∧ SL ke m ∧ (∀ x,x ∈ m ↔ x = e ∨ x ∈ l) ∧ m.length = l.length + 1:=by
 have key : ∀ p : Nat,p ≤ l.length → (∀ x ∈ l.drop p,klt (ke e) (ke x)) → ∃ m,Ev (fun k => railplanref41_insertEdit.l0 k l (p : Int) e.f0 e.f1.f0 e.f1.f1 e.f1.f2 e.f1.f3 e.f2.f0 e.f2.f1 e.f2.f2 e.f2.f3) m ∧ SL ke m ∧ (∀ x,x ∈ m ↔ x = e ∨ x ∈ l) ∧ m.length = l.length + 1:=by
  intro p
  induction p with
  | zero =>
   intro _ hlt
   refine ⟨e :: l,Ev.at3 1 (fun k => ?_),List.Pairwise.cons (fun x hx => hlt x (by simpa using hx)) hs,fun x => by simp,by simp⟩
   simp only [railplanref41_insertEdit.l0]
   rw [if_neg (by decide),if_pos (by decide),if_pos (by omega),bindS,if_pos (by simp),bindS,if_pos (by simp),bindS,bindS,if_pos (by simp;omega)]
   simp
  | succ p ih =>
   intro hp hlt
   have hp' : p < l.length:=by omega
   have hv:=hl _ (getD_mem l z40 hp')
   have o:=order_ev (tr (l.getD p z40)) (tr e) hv.one he.one
   have start : ∀ r,Ev (fun k => if kc (ke (l.getD p z40)) (ke e) > 0 then railplanref41_insertEdit.l0 k l (p : Int) e.f0 e.f1.f0 e.f1.f1 e.f1.f2 e.f1.f3 e.f2.f0 e.f2.f1 e.f2.f2 e.f2.f3 else some (l.take (p + 1) ++ [e] ++ l.drop (p + 1))) r → Ev (fun k => railplanref41_insertEdit.l0 k l ((p + 1 : Nat) : Int) e.f0 e.f1.f0 e.f1.f1 e.f1.f2 e.f1.f3 e.f2.f0 e.f2.f1 e.f2.f2 e.f2.f3) r:=by
    intro r h
    refine Ev.step (fun k => by simp only [railplanref41_insertEdit.l0];rw [if_pos (by omega),show ((p + 1 : Nat) : Int) - 1 = (p : Int) by omega,wrap64_id (x:=(p : Int)) (by omega) (by omega),if_pos (by omega),if_pos (by omega),rd_nat40,keyed_eq,bindS,keyed_eq,bindS]) (Ev.bind o (Ev.congr (fun k => ?_) h))
    by_cases hc : kc (ke (l.getD p z40)) (ke e) > 0
    ·rw [if_pos (show kc (ky (tr (l.getD p z40))) (ky (tr e)) > 0 from hc),if_pos hc]
    ·rw [if_neg (show ¬ kc (ky (tr (l.getD p z40))) (ky (tr e)) > 0 from hc),if_neg hc,if_pos (by omega),if_pos (by omega),bindS,if_pos (by simp;omega),bindS,if_pos (by simp;omega),bindS,bindS,if_pos (by simp;omega)]
     simp
   by_cases hc : klt (ke e) (ke (l.getD p z40))
   ·obtain ⟨m,hm,h2⟩:=ih (by omega) (fun x hx => by
     rw [drop_get l z40 hp'] at hx
     rcases List.mem_cons.mp hx with rfl|hx
     ·exact hc
     ·exact hlt x hx)
    exact ⟨m,start m (Ev.congr (fun k => if_pos (kc_pos.mpr hc)) hm),h2⟩
   ·have hlt' : klt (ke (l.getD p z40)) (ke e):=by
     rcases klt_tri (ke e) (ke (l.getD p z40)) with h|h|h
     ·exact absurd h hc
     ·exact absurd h.symm (hne _ (getD_mem l z40 hp'))
     ·exact h
    have hl2 : SL ke (l.take (p + 1)):=hs.sublist (List.take_sublist _ _)
    have hl3 : SL ke (l.drop (p + 1)):=hs.sublist (List.drop_sublist _ _)
    have hpw : SL ke (l.take (p + 1) ++ l.drop (p + 1)):=by rw [List.take_append_drop];exact hs
    obtain ⟨_,_,hx⟩:=List.pairwise_append.mp hpw
    have before : ∀ x ∈ l.take (p + 1),klt (ke x) (ke e):=by
     intro x hx
     have ht : l.take (p + 1) = l.take p ++ [l.getD p z40]:=by
      rw [List.take_succ_eq_append_getElem hp'];simp [List.getD,List.getElem?_eq_getElem hp']
     have hl2':=hl2
     rw [ht] at hx hl2'
     rcases List.mem_append.mp hx with hx|hx
     ·exact klt_trans ((List.pairwise_append.mp hl2').2.2 x hx _ (by simp)) hlt'
     ·rw [List.mem_singleton.mp hx];exact hlt'
    refine ⟨l.take (p + 1) ++ [e] ++ l.drop (p + 1),start _ (Ev.congr (fun k => if_neg (fun h => hc (kc_pos.mp h))) (Ev.now _)),?_,fun x => ?_,by simp;omega⟩
    ·refine List.pairwise_append.mpr ⟨List.pairwise_append.mpr ⟨hl2,List.pairwise_singleton _ _,fun x hx y hy => by rw [List.mem_singleton.mp hy];exact before x hx⟩,hl3,fun x hx' y hy => ?_⟩
     rcases List.mem_append.mp hx' with hx'|hx'
     ·exact hx x hx' y hy
     ·rw [List.mem_singleton.mp hx'];exact hlt y hy
    ·conv => rhs;rw [← List.take_append_drop (p + 1) l]
     simp only [List.mem_append,List.mem_singleton]
     constructor
     ·rintro ((h|h)|h)
      ·exact .inr (.inl h)
      ·exact .inl h
      ·exact .inr (.inr h)
     ·rintro (h|h|h)
      ·exact .inl (.inr h)
      ·exact .inl (.inl h)
      ·exact .inr h
 obtain ⟨m,hm,h⟩:=key l.length (Nat.le_refl _) (fun x hx => by simp at hx)
 exact ⟨m,by unfold railplanref41_insertEdit.f;exact hm,h⟩
end Go.Proofs.Ytpclhbcflkncnaa.Pure

namespace Go.Proofs.Ytpclhbcflkncnaa.Pure
open Go.RowKit Go.Proofs.Ytpclhbcflkncnaa.PAll Go.Proofs.YtpclhbcflkncnaaW.PrintWords Go.Proofs.YtpclhbcflkncnaaW.PrintLast
set_option linter.unusedVariables false
theorem mem_take_succ {α : Type} {l : List α} {z : α} {i : Nat} (hi : i < l.length) {x : α} : x ∈ l.take (i + 1) ↔ x ∈ l.take i ∨ x = l.getD i z:=by
 rw [List.take_succ_eq_append_getElem hi,List.mem_append,List.mem_singleton]
 simp [List.getD,List.getElem?_eq_getElem hi]
theorem take_lt {α : Type} {K : α → Int × Int} {l : List α} {z : α} (h : SL K l) {i : Nat} (hi : i < l.length) : ∀ x ∈ l.take i,klt (K x) (K (l.getD i z)):=by
 intro x hx
 have hpw : SL K (l.take i ++ l.drop i):=by rw [List.take_append_drop];exact h
 exact (List.pairwise_append.mp hpw).2.2 x hx _ (by rw [drop_get l z hi];simp)
def D1 (a b : List S28) (e : S40) : Prop:=(∃ t ∈ a,(∀ u ∈ b,ky u ≠ ky t) ∧ e = mkR t) ∨ (∃ t ∈ a,∃ u ∈ b,ky t = ky u ∧ t ≠ u ∧ e = mkC t u)
def D2 (a b : List S28) (e : S40) : Prop:=∃ u ∈ b,(∀ t ∈ a,ky t ≠ ky u) ∧ e = mkA u
theorem D1_tr {a b : List S28} {e : S40} (h : D1 a b e) : tr e ∈ a:=by
 rcases h with ⟨t,ht,_,rfl⟩|⟨t,ht,u,_,_,_,rfl⟩
 ·rw [tr_R];exact ht
 ·rw [tr_C];exact ht
theorem D2_tr {a b : List S28} {e : S40} (h : D2 a b e) : tr e ∈ b ∧ ∀ t ∈ a,ky t ≠ ke e:=by
 obtain ⟨u,hu,hn,rfl⟩:=h
 exact ⟨by rw [tr_A];exact hu,fun t ht => by rw [ke_A];exact hn t ht⟩
theorem DE_iff {a b : List S28} {e : S40} : DE a b e ↔ D1 a b e ∨ D2 a b e:=by
 constructor
 ·rintro (h|h|h)
  ·exact .inl (.inl h)
  ·exact .inr h
  ·exact .inl (.inr h)
 ·rintro ((h|h)|h)
  ·exact .inl h
  ·exact .inr (.inr h)
  ·exact .inr (.inl h)
theorem rDiff_l1 (a b : List S28) (ha : OKL a) (hb : OKL b) (la : a.length ≤ 1024) (lb : b.length ≤ 1024) : ∀ (d j : Nat),j ≤ b.length → b.length - j = d → ∀ x6 : List S40,SL ke x6 → (∀ e,e ∈ x6 ↔ D1 a b e ∨ D2 a (b.take j) e) → x6.length ≤ 1024 + j →
  ∃ m : List S40,SL ke m ∧ (∀ e,e ∈ m ↔ DE a b e) ∧ m.length ≤ 2048 ∧ Ev (fun k => railplanref41_Diff.l1 k a x6 b (b.length : Int) (j : Int)) (m,0):=by
 intro d
 induction d with
 | zero =>
  intro j hj hd x6 hs hm hl
  obtain rfl : j = b.length:=by omega
  rw [List.take_length] at hm
  exact ⟨x6,hs,fun e => (hm e).trans DE_iff.symm,by omega,Ev.at3 1 (fun k => by simp only [railplanref41_Diff.l1];rw [if_neg (by omega)])⟩
 | succ d ih =>
  intro j hj hd x6 hs hm hl
  have hlt : j < b.length:=by omega
  have hv:=hb.1 _ (getD_mem b z28 hlt)
  have hvx : ∀ x ∈ x6,VT (tr x):=fun x hx => by
   rcases (hm x).mp hx with h|h
   ·exact ha.1 _ (D1_tr h)
   ·exact hb.1 _ (List.mem_of_mem_take (D2_tr h).1)
  by_cases hex : ∃ t ∈ a,ky t = ky (b.getD j z28)
  ·obtain ⟨t,ht,hk⟩:=hex
   obtain ⟨i,hi,hti,hf⟩:=find_yes la ha hv ht hk
   obtain ⟨m,h1,h2,h3,h4⟩:=ih (j + 1) (by omega) (by omega) x6 hs (fun e => by
    rw [hm]
    refine or_congr Iff.rfl ⟨fun ⟨u,hu,h⟩ => ⟨u,(mem_take_succ (z:=z28) hlt).mpr (.inl hu),h⟩,fun ⟨u,hu,h⟩ => ?_⟩
    rcases (mem_take_succ (z:=z28) hlt).mp hu with hu|rfl
    ·exact ⟨u,hu,h⟩
    ·exact absurd hk (h.1 t ht)) (by omega)
   refine ⟨m,h1,h2,h3,Ev.step (fun k => by simp only [railplanref41_Diff.l1];rw [if_pos (by omega),if_pos (by omega),if_pos (by omega),rd_nat28]) (Ev.bind hf ?_)⟩
   refine Ev.congr (fun k => by rw [if_neg (by omega),wsucc (n:=1024) (by omega) (by omega) (by decide)]) ?_
   exact_mod_cast h4
  ·have hno : ∀ t ∈ a,ky t ≠ ky (b.getD j z28):=fun t ht hk => hex ⟨t,ht,hk⟩
   obtain ⟨m0,g1,g2,g3,g4⟩:=insert_ev x6 (mkA (b.getD j z28)) (by omega) hvx (by rw [tr_A];exact hv) hs (fun x hx => by
    rw [ke_A]
    rcases (hm x).mp hx with h|h
    ·exact hno _ (D1_tr h)
    ·exact klt_ne (take_lt (z:=z28) hb.2 hlt _ (D2_tr h).1))
   obtain ⟨m,h1,h2,h3,h4⟩:=ih (j + 1) (by omega) (by omega) m0 g2 (fun e => by
    rw [g3,hm]
    constructor
    ·rintro (rfl|h|⟨u,hu,h⟩)
     ·exact .inr ⟨_,(mem_take_succ (z:=z28) hlt).mpr (.inr rfl),hno,rfl⟩
     ·exact .inl h
     ·exact .inr ⟨u,(mem_take_succ (z:=z28) hlt).mpr (.inl hu),h⟩
    ·rintro (h|⟨u,hu,h⟩)
     ·exact .inr (.inl h)
     ·rcases (mem_take_succ (z:=z28) hlt).mp hu with hu|rfl
      ·exact .inr (.inr ⟨u,hu,h⟩)
      ·exact .inl h.2) (by omega)
   refine ⟨m,h1,h2,h3,Ev.step (fun k => by simp only [railplanref41_Diff.l1];rw [if_pos (by omega),if_pos (by omega),if_pos (by omega),rd_nat28]) (Ev.bind (find_no la ha.1 hv hno) ?_)⟩
   refine Ev.congr (fun k => if_pos (show (-1 : Int) < 0 by decide)) (Ev.bind g1 ?_)
   refine Ev.congr (fun k => by rw [wsucc (n:=1024) (by omega) (by omega) (by decide)]) ?_
   exact_mod_cast h4
theorem rDiff_l0 (a b : List S28) (ha : OKL a) (hb : OKL b) (la : a.length ≤ 1024) (lb : b.length ≤ 1024) : ∀ (d i : Nat),i ≤ a.length → a.length - i = d → ∀ x6 : List S40,SL ke x6 → (∀ e,e ∈ x6 ↔ D1 (a.take i) b e) → x6.length ≤ i →
  ∃ m : List S40,SL ke m ∧ (∀ e,e ∈ m ↔ DE a b e) ∧ m.length ≤ 2048 ∧ Ev (fun k => railplanref41_Diff.l0 k a b x6 a (a.length : Int) (i : Int)) (m,0):=by
 intro d
 induction d with
 | zero =>
  intro i hi hd x6 hs hm hl
  obtain rfl : i = a.length:=by omega
  rw [List.take_length] at hm
  obtain ⟨m,h1,h2,h3,h4⟩:=rDiff_l1 a b ha hb la lb b.length 0 (by omega) (by omega) x6 hs (fun e => by
   rw [hm];exact ⟨.inl,fun h => h.resolve_right (fun ⟨u,hu,_⟩ => by simp at hu)⟩) (by omega)
  exact ⟨m,h1,h2,h3,Ev.step (fun k => by simp only [railplanref41_Diff.l0];rw [if_neg (by omega)]) (by exact_mod_cast h4)⟩
 | succ d ih =>
  intro i hi hd x6 hs hm hl
  have hlt : i < a.length:=by omega
  have hv:=ha.1 _ (getD_mem a z28 hlt)
  have hvx : ∀ x ∈ x6,VT (tr x):=fun x hx => ha.1 _ (List.mem_of_mem_take (D1_tr ((hm x).mp hx)))
  have hkx : ∀ x ∈ x6,ke x ≠ ky (a.getD i z28):=fun x hx => klt_ne (take_lt (z:=z28) ha.2 hlt _ (D1_tr ((hm x).mp hx)))
  by_cases hex : ∃ u ∈ b,ky u = ky (a.getD i z28)
  ·obtain ⟨u,hu,hk⟩:=hex
   obtain ⟨p,hp,hup,hf⟩:=find_yes lb hb hv hu hk
   have s:=sameTrip_ev (a.getD i z28) (b.getD p z28) hv.lt
   have start : ∀ r,Ev (fun k => (railplanref41_SameTrip.f k (a.getD i z28).f0 (a.getD i z28).f1 (a.getD i z28).f2 (a.getD i z28).f3 (b.getD p z28).f0 (b.getD p z28).f1 (b.getD p z28).f2 (b.getD p z28).f3).bind fun t529 => if t529 = true then railplanref41_Diff.l0 k a b x6 a (a.length : Int) ((i : Int) + 1) else (railplanref41_insertEdit.f k x6 3 (a.getD i z28).f0 (a.getD i z28).f1 (a.getD i z28).f2 (a.getD i z28).f3 (b.getD p z28).f0 (b.getD p z28).f1 (b.getD p z28).f2 (b.getD p z28).f3).bind fun t531 => railplanref41_Diff.l0 k a b t531 a (a.length : Int) ((i : Int) + 1)) r → Ev (fun k => railplanref41_Diff.l0 k a b x6 a (a.length : Int) (i : Int)) r:=by
    intro r h
    refine Ev.step (fun k => by simp only [railplanref41_Diff.l0];rw [if_pos (by omega),if_pos (by omega),if_pos (by omega),rd_nat28]) (Ev.bind hf ?_)
    exact Ev.congr (fun k => by rw [if_neg (by omega),if_pos (by omega),if_pos (by omega),rd_nat28,wsucc (n:=1024) (by omega) (by omega) (by decide)]) h
   by_cases heq : a.getD i z28 = b.getD p z28
   ·obtain ⟨m,h1,h2,h3,h4⟩:=ih (i + 1) (by omega) (by omega) x6 hs (fun e => by
     rw [hm]
     constructor
     ·rintro (⟨t,ht,h⟩|⟨t,ht,h⟩)
      ·exact .inl ⟨t,(mem_take_succ (z:=z28) hlt).mpr (.inl ht),h⟩
      ·exact .inr ⟨t,(mem_take_succ (z:=z28) hlt).mpr (.inl ht),h⟩
     ·rintro (⟨t,ht,h⟩|⟨t,ht,u',hu',h⟩)
      ·rcases (mem_take_succ (z:=z28) hlt).mp ht with ht|rfl
       ·exact .inl ⟨t,ht,h⟩
       ·exact absurd hk (h.1 u hu)
      ·rcases (mem_take_succ (z:=z28) hlt).mp ht with ht|rfl
       ·exact .inr ⟨t,ht,u',hu',h⟩
       ·exact absurd (heq.trans (hup.trans (sl_inj hb.2 hu hu' (hk.trans h.1)))) h.2.1) (by omega)
    refine ⟨m,h1,h2,h3,start _ (Ev.bind s ?_)⟩
    rw [decide_eq_true heq]
    refine Ev.congr (fun k => if_pos rfl) ?_
    exact_mod_cast h4
   ·obtain ⟨m0,g1,g2,g3,g4⟩:=insert_ev x6 (mkC (a.getD i z28) (b.getD p z28)) (by omega) hvx (by rw [tr_C];exact hv) hs (fun x hx => by rw [ke_C];exact hkx x hx)
    obtain ⟨m,h1,h2,h3,h4⟩:=ih (i + 1) (by omega) (by omega) m0 g2 (fun e => by
     rw [g3,hm]
     constructor
     ·rintro (rfl|⟨t,ht,h⟩|⟨t,ht,h⟩)
      ·exact .inr ⟨_,(mem_take_succ (z:=z28) hlt).mpr (.inr rfl),_,getD_mem b z28 hp,by rw [hup];exact hk.symm,heq,rfl⟩
      ·exact .inl ⟨t,(mem_take_succ (z:=z28) hlt).mpr (.inl ht),h⟩
      ·exact .inr ⟨t,(mem_take_succ (z:=z28) hlt).mpr (.inl ht),h⟩
     ·rintro (⟨t,ht,h⟩|⟨t,ht,u',hu',h⟩)
      ·rcases (mem_take_succ (z:=z28) hlt).mp ht with ht|rfl
       ·exact .inr (.inl ⟨t,ht,h⟩)
       ·exact absurd hk (h.1 u hu)
      ·rcases (mem_take_succ (z:=z28) hlt).mp ht with ht|rfl
       ·exact .inr (.inr ⟨t,ht,u',hu',h⟩)
       ·have e2:=sl_inj hb.2 hu hu' (hk.trans h.1)
        rw [h.2.2,hup,e2];exact .inl rfl) (by omega)
    refine ⟨m,h1,h2,h3,start _ (Ev.bind s ?_)⟩
    rw [decide_eq_false heq]
    refine Ev.congr (fun k => if_neg (by decide)) (Ev.bind g1 ?_)
    exact_mod_cast h4
  ·have hno : ∀ u ∈ b,ky u ≠ ky (a.getD i z28):=fun u hu hk => hex ⟨u,hu,hk⟩
   obtain ⟨m0,g1,g2,g3,g4⟩:=insert_ev x6 (mkR (a.getD i z28)) (by omega) hvx (by rw [tr_R];exact hv) hs (fun x hx => by rw [ke_R];exact hkx x hx)
   obtain ⟨m,h1,h2,h3,h4⟩:=ih (i + 1) (by omega) (by omega) m0 g2 (fun e => by
    rw [g3,hm]
    constructor
    ·rintro (rfl|⟨t,ht,h⟩|⟨t,ht,h⟩)
     ·exact .inl ⟨_,(mem_take_succ (z:=z28) hlt).mpr (.inr rfl),hno,rfl⟩
     ·exact .inl ⟨t,(mem_take_succ (z:=z28) hlt).mpr (.inl ht),h⟩
     ·exact .inr ⟨t,(mem_take_succ (z:=z28) hlt).mpr (.inl ht),h⟩
    ·rintro (⟨t,ht,h⟩|⟨t,ht,u',hu',h⟩)
     ·rcases (mem_take_succ (z:=z28) hlt).mp ht with ht|rfl
      ·exact .inr (.inl ⟨t,ht,h⟩)
      ·exact .inl h.2
     ·rcases (mem_take_succ (z:=z28) hlt).mp ht with ht|rfl
      ·exact .inr (.inr ⟨t,ht,u',hu',h⟩)
      ·exact absurd h.1.symm (hno u' hu')) (by omega)
   refine ⟨m,h1,h2,h3,Ev.step (fun k => by simp only [railplanref41_Diff.l0];rw [if_pos (by omega),if_pos (by omega),if_pos (by omega),rd_nat28]) (Ev.bind (find_no lb hb.1 hv hno) ?_)⟩
   refine Ev.congr (fun k => if_pos (show (-1 : Int) < 0 by decide)) (Ev.bind g1 ?_)
   refine Ev.congr (fun k => by rw [wsucc (n:=1024) (by omega) (by omega) (by decide)]) ?_
   exact_mod_cast h4

structure IsDiff (a b : List S28) (m : List S40) : Prop where
 sl : SL ke m
 mem : ∀ e,e ∈ m ↔ DE a b e
 len : m.length ≤ 2048
theorem IsDiff.uniq {a b : List S28} {m n : List S40} (h : IsDiff a b m) (h' : IsDiff a b n) : m = n:=sl_ext h.sl h'.sl (fun x => (h.mem x).trans (h'.mem x).symm)
theorem dDiff_ok (a b : List S28) (ha : CK a) (hb : CK b) : ∃ m,IsDiff a b m ∧ Ev (fun k => diff_Diff.f k a b) (m,0) ∧ Ev (fun k => railplanref41_Diff.f k a b) (m,0):=by
 obtain ⟨m,h1,h2,h3,h4⟩:=dDiff_loop a b ha.1 hb.1 ha.2 hb.2 2048 0 0 (by have:=ha.2;have:=hb.2;omega) (by omega) (by omega)
 obtain ⟨n,g2,g1,g3,g4⟩:=rDiff_l0 a b ha.1 hb.1 ha.2 hb.2 a.length 0 (by omega) rfl [] List.Pairwise.nil (fun e => ⟨fun h => by simp at h,fun h => by rcases h with ⟨t,ht,_⟩|⟨t,ht,_⟩ <;> simp at ht⟩) (by simp)
 have hm : IsDiff a b m:=⟨h2,by simpa using h1,h3⟩
 have hn : IsDiff a b n:=⟨g2,g1,g3⟩
 obtain rfl:=hm.uniq hn
 have ca:=dCheck_ev a (by have:=ha.2;omega)
 have cb:=dCheck_ev b (by have:=hb.2;omega)
 have ra:=rCheck_ev a (by have:=ha.2;omega)
 have rb:=rCheck_ev b (by have:=hb.2;omega)
 rw [decide_eq_true ha] at ca ra
 rw [decide_eq_true hb] at cb rb
 refine ⟨m,hm,?_,?_⟩
 ·unfold diff_Diff.f
  refine Ev.bind ca (Ev.congr (fun k => if_pos rfl) (Ev.bind cb ?_))
  refine Ev.step (fun k => by simp only [diff_Diff.j0];rw [if_neg (by decide)]) ?_
  have:=h4 [] (by simp)
  exact_mod_cast this
 ·unfold railplanref41_Diff.f
  refine Ev.bind ra (Ev.congr (fun k => if_pos rfl) (Ev.bind rb ?_))
  refine Ev.step (fun k => by simp only [railplanref41_Diff.j0];rw [if_neg (by decide)]) ?_
  exact_mod_cast g4
theorem diff_bad (a b : List S28) (hna : a.length ≤ 140737488351232) (hnb : b.length ≤ 140737488351232) (h : ¬ (CK a ∧ CK b)) : Ev (fun k => diff_Diff.f k a b) ([],1) ∧ Ev (fun k => railplanref41_Diff.f k a b) ([],1):=by
 have ca:=dCheck_ev a hna
 have cb:=dCheck_ev b hnb
 have ra:=rCheck_ev a hna
 have rb:=rCheck_ev b hnb
 unfold diff_Diff.f railplanref41_Diff.f
 by_cases ha : CK a
 ·rw [decide_eq_true ha] at ca ra
  rw [decide_eq_false (fun hb => h ⟨ha,hb⟩)] at cb rb
  exact ⟨Ev.bind ca (Ev.congr (fun k => if_pos rfl) (Ev.bind cb (Ev.at3 1 (fun k => by simp only [diff_Diff.j0];rw [if_pos (by decide)])))),
   Ev.bind ra (Ev.congr (fun k => if_pos rfl) (Ev.bind rb (Ev.at3 1 (fun k => by simp only [railplanref41_Diff.j0];rw [if_pos (by decide)]))))⟩
 ·rw [decide_eq_false ha] at ca ra
  exact ⟨Ev.bind ca (Ev.congr (fun k => if_neg (by decide)) (Ev.at3 1 (fun k => by simp only [diff_Diff.j0];rw [if_pos trivial]))),
   Ev.bind ra (Ev.congr (fun k => if_neg (by decide)) (Ev.at3 1 (fun k => by simp only [railplanref41_Diff.j0];rw [if_pos trivial])))⟩
end Go.Proofs.Ytpclhbcflkncnaa.Pure

namespace Go.Proofs.Ytpclhbcflkncnaa.Pure
open Go.RowKit Go.Proofs.Ytpclhbcflkncnaa.PAll Go.Proofs.YtpclhbcflkncnaaW.PrintWords Go.Proofs.YtpclhbcflkncnaaW.PrintLast
set_option linter.unusedVariables false
theorem awake_ev : Ev (fun k => railplanlaw42_awake.f k) true:=Ev.of (fun k => railplanlaw42_awake.mono k) (k:=40) (by kernel_rfl)
theorem u64_wrap (n : Int) (h0 : 0 ≤ n) (h1 : n < 18446744073709551616) : IntKind.u64.wrap n = n:=by
 simp [IntKind.wrap,IntKind.bits,IntKind.signed]
 omega
theorem u64_wrap_lo (n : Int) : 0 ≤ IntKind.u64.wrap n:=by
 simp [IntKind.wrap,IntKind.bits,IntKind.signed]
 omega
theorem pick_some (v n : Int) (h0 : 1 ≤ n) (h1 : n ≤ 4611686018427387904) : ∃ r,railplankeep_Pick.f v n = some r ∧ 0 ≤ r ∧ r < n:=by
 unfold railplankeep_Pick.f
 rw [u64_wrap n (by omega) (by omega),if_neg (by omega)]
 have a:=u64_wrap_lo v
 have h:=Int.tmod_nonneg n a
 have h2:=Int.tmod_lt_of_pos (IntKind.u64.wrap v) (show 0 < n by omega)
 exact ⟨_,rfl,by unfold wrap64;omega,by unfold wrap64;omega⟩
theorem next_some (l : List Int) (hl : l.length ≤ 140737488351232) (i n : Int) (hi : 0 ≤ i) (h0 : 1 ≤ n) (h1 : n ≤ 4611686018427387904) :
  ∃ r j,railplankeep_Source_Next.f l i n = some (r,j) ∧ 0 ≤ r ∧ r < n ∧ 0 ≤ j:=by
 unfold railplankeep_Source_Next.f
 by_cases h : i ≥ (l.length : Int)
 ·rw [if_pos h]
  exact ⟨0,i,rfl,by omega,by omega,hi⟩
 ·rw [if_neg h]
  have e1 : wrap64 (i + 1) = i + 1:=wrap64_id (by omega) (by omega)
  have e2 : wrap64 (i + 1 - 1) = i:=by rw [wrap64_id (by omega) (by omega)];omega
  rw [e1,e2,if_pos hi,if_pos (by omega)]
  obtain ⟨r,hr,hr0,hr1⟩:=pick_some (rd l i) n h0 h1
  rw [hr]
  exact ⟨r,i + 1,rfl,hr0,hr1,by omega⟩
theorem sl_snoc {α : Type} {K : α → Int × Int} {l : List α} {x : α} (h : SL K l) (hx : ∀ y ∈ l,klt (K y) (K x)) : SL K (l ++ [x]) :=
 List.pairwise_append.mpr ⟨h,List.pairwise_singleton _ _,fun y hy z hz => by rw [List.mem_singleton.mp hz];exact hx y hy⟩
def GT (l : List S28) (b : Int) : Prop:=OKL l ∧ ∀ t ∈ l,rd t.f2 0 ≤ b ∧ t.f1 ≤ 1
theorem gt_snoc {l : List S28} {b b' : Int} {t : S28} (h : GT l b) (hv : VT t) (hb : b < b') (h0 : rd t.f2 0 = b') (h1 : t.f1 ≤ 1) : GT (l ++ [t]) b':=by
 refine ⟨⟨fun x hx => ?_,sl_snoc h.1.2 (fun y hy => .inl (by have:=(h.2 y hy).1;show rd y.f2 0 < rd t.f2 0;omega))⟩,fun x hx => ?_⟩
 ·rcases List.mem_append.mp hx with hx|hx
  ·exact h.1.1 x hx
  ·rw [List.mem_singleton.mp hx];exact hv
 ·rcases List.mem_append.mp hx with hx|hx
  ·exact ⟨by have:=(h.2 x hx).1;omega,(h.2 x hx).2⟩
  ·rw [List.mem_singleton.mp hx];exact ⟨by omega,h1⟩
theorem trips_l1 (l : List Int) (hl : l.length ≤ 140737488351232) (x4 : List S28) (h4 : x4.length ≤ 5) (x5 x6 line day : Int) : ∀ (d : Nat) (x8 i : Int) (dep arr : List Int),0 ≤ i → 0 ≤ x8 → x8 ≤ 1000 + 10 * (dep.length : Int) → dep.length = arr.length → dep.length + d ≤ 2 → 1 ≤ dep.length + d → (dep ≠ [] → rd dep 0 = x5) → (dep = [] → x8 = x5) →
  ∃ dep' arr' j,0 ≤ j ∧ dep'.length = arr'.length ∧ 1 ≤ dep'.length ∧ dep'.length ≤ 2 ∧ rd dep' 0 = x5 ∧ ∀ r,Ev (fun k => railplankeep2_Trips.l0 k (x4 ++ [⟨line,day,dep',arr'⟩]) x5 (wrap64 (x6 - 1)) l j) r → Ev (fun k => railplankeep2_Trips.l1 k x4 x5 x6 x8 (d : Int) l i line day dep arr) r:=by
 intro d
 induction d with
 | zero =>
  intro x8 i dep arr hi h8 h8' hle hd1 hd2 h0 h0'
  refine ⟨dep,arr,i,hi,hle,by omega,by omega,h0 (fun e => by subst e;simp at hd2),fun r h => ?_⟩
  exact Ev.step (fun k => by simp only [railplankeep2_Trips.l1];rw [if_neg (by decide),if_pos (by omega)]) h
 | succ d ih =>
  intro x8 i dep arr hi h8 h8' hle hd1 hd2 h0 h0'
  obtain ⟨n,j,hn,n0,n1,hj⟩:=next_some l hl i 3 hi (by omega) (by omega)
  have e1 : wrap64 (1 + n) = 1 + n:=wrap64_id (by omega) (by omega)
  have e2 : wrap64 (x8 + (1 + n)) = x8 + (1 + n):=wrap64_id (by omega) (by omega)
  obtain ⟨dep',arr',j',q1,q2,q3,q4,q5,q6⟩:=ih (x8 + (1 + n)) j (dep ++ [x8]) (arr ++ [x8 + (1 + n)]) hj (by omega) (by simp;omega) (by simp;omega) (by simp;omega) (by simp;omega) (fun _ => by
   cases dep with
   | nil => exact h0' rfl
   | cons y ys => exact h0 (by simp)) (fun e => by simp at e)
  refine ⟨dep',arr',j',q1,q2,q3,q4,q5,fun r h => Ev.step (fun k => ?_) (q6 r h)⟩
  simp only [railplankeep2_Trips.l1]
  rw [if_pos (by omega),if_pos (by omega),hn,bindS,if_pos (by omega)]
  simp only [e1,e2]
  rw [show wrap64 (((d + 1 : Nat) : Int) - 1) = (d : Int) from by rw [wrap64_id (by omega) (by omega)];omega]
theorem trips_l0 (l : List Int) (hl : l.length ≤ 140737488351232) : ∀ (d : Nat) (x4 : List S28) (x5 i : Int),0 ≤ i → 0 ≤ x5 → x5 + 9 * d ≤ 45 → x4.length + d ≤ 5 → GT x4 x5 →
  ∃ m,Ev (fun k => railplankeep2_Trips.l0 k x4 x5 (d : Int) l i) m ∧ GT m 45 ∧ m.length ≤ 5:=by
 intro d
 induction d with
 | zero =>
  intro x4 x5 i hi h5 h5' h4 hg
  exact ⟨x4,Ev.at3 1 (fun k => by simp only [railplankeep2_Trips.l0];rw [if_neg (by decide)]),⟨hg.1,fun t ht => ⟨by have:=(hg.2 t ht).1;omega,(hg.2 t ht).2⟩⟩,by omega⟩
 | succ d ih =>
  intro x4 x5 i hi h5 h5' h4 hg
  obtain ⟨n,j1,hn,n0,n1,hj1⟩:=next_some l hl i 9 hi (by omega) (by omega)
  obtain ⟨p,j2,hp,p0,p1,hj2⟩:=next_some l hl j1 3 hj1 (by omega) (by omega)
  obtain ⟨q,j3,hq,q0,q1,hj3⟩:=next_some l hl j2 2 hj2 (by omega) (by omega)
  obtain ⟨s,j4,hs,s0,s1,hj4⟩:=next_some l hl j3 2 hj3 (by omega) (by omega)
  have e1 : wrap64 (1 + n) = 1 + n:=wrap64_id (by omega) (by omega)
  have e2 : wrap64 (x5 + (1 + n)) = x5 + (1 + n):=wrap64_id (by omega) (by omega)
  have e3 : wrap64 (1 + s) = 1 + s:=wrap64_id (by omega) (by omega)
  obtain ⟨u,hu⟩ : ∃ u : Nat,1 + s = (u : Int):=⟨(1 + s).toNat,by omega⟩
  have e4 : wrap64 (1 + s) = (u : Int):=e3.trans hu
  obtain ⟨dep,arr,j5,hj5,l1,l2,l3,l4,l5⟩:=trips_l1 l hl x4 (by omega) (x5 + (1 + n)) ((d + 1 : Nat) : Int) p q u (x5 + (1 + n)) j4 [] [] hj4 (by omega) (by simp;omega) rfl (by simp;omega) (by simp;omega) (fun h => absurd rfl h) (fun _ => rfl)
  obtain ⟨m,hm,hg',hle⟩:=ih (x4 ++ [⟨p,q,dep,arr⟩]) (x5 + (1 + n)) j5 hj5 (by omega) (by omega) (by simp;omega) (gt_snoc hg ⟨p0,q0,l1,l2,by show dep.length ≤ 12;omega,by show 0 ≤ rd dep 0;rw [l4];omega⟩ (by omega) l4 (by show q ≤ 1;omega))
  refine ⟨m,Ev.step (fun k => ?_) (l5 m ?_),hg',hle⟩
  ·simp only [railplankeep2_Trips.l0]
   rw [if_pos (by omega),hn,bindS,hp,bindS,hq,bindS,hs,bindS]
   simp only [e1,e2,e4]
  ·rw [show wrap64 (((d + 1 : Nat) : Int) - 1) = (d : Int) from by rw [wrap64_id (by omega) (by omega)];omega]
   exact hm
theorem trips_ev (l : List Int) (hl : l.length ≤ 140737488351232) : ∃ m,Ev (fun k => railplankeep2_Trips.f k l) m ∧ GT m 45 ∧ m.length ≤ 5:=by
 unfold railplankeep2_Trips.f railplankeep_From.f
 obtain ⟨n,j,hn,n0,n1,hj⟩:=next_some l hl 0 6 (by omega) (by omega) (by omega)
 obtain ⟨u,hu⟩ : ∃ u : Nat,n = (u : Int):=⟨n.toNat,by omega⟩
 subst hu
 obtain ⟨m,hm,h⟩:=trips_l0 l hl u [] 0 j hj (by omega) (by omega) (by simp;omega) ⟨⟨fun t ht => by simp at ht,List.Pairwise.nil⟩,fun t ht => by simp at ht⟩
 exact ⟨m,Ev.congr (fun k => by rw [bindS,hn,bindS]) hm,h⟩
theorem other_l1 (s : List Int) (hs : s.length ≤ 140737488351232) : ∀ (d : Nat) (x6 : List S28) (x9 i : Int),0 ≤ i → 60 ≤ x9 → x9 + 5 * d ≤ 100 → x6.length + d ≤ 10 → OKL x6 → (∀ t ∈ x6,rd t.f2 0 ≤ x9) →
  ∃ m,Ev (fun k => railplanlaw42_other.l1 k x6 x9 (d : Int) s i) m ∧ OKL m ∧ m.length ≤ 10:=by
 intro d
 induction d with
 | zero =>
  intro x6 x9 i hi h9 h9' hle hok hb
  exact ⟨x6,Ev.at3 1 (fun k => by simp only [railplanlaw42_other.l1];rw [if_neg (by decide)]),hok,by omega⟩
 | succ d ih =>
  intro x6 x9 i hi h9 h9' hle hok hb
  obtain ⟨n,j1,hn,n0,n1,hj1⟩:=next_some s hs i 5 hi (by omega) (by omega)
  obtain ⟨p,j2,hp,p0,p1,hj2⟩:=next_some s hs j1 3 hj1 (by omega) (by omega)
  have e1 : wrap64 (1 + n) = 1 + n:=wrap64_id (by omega) (by omega)
  have e2 : wrap64 (x9 + (1 + n)) = x9 + (1 + n):=wrap64_id (by omega) (by omega)
  have hv : VT ⟨p,0,[x9 + (1 + n)],[wrap64 (x9 + (1 + n) + 5)]⟩:=⟨p0,by show (0 : Int) ≤ 0;omega,rfl,by show 1 ≤ 1;omega,by show 1 ≤ 12;omega,by show 0 ≤ x9 + (1 + n);omega⟩
  obtain ⟨m,hm,h⟩:=ih (x6 ++ [⟨p,0,[x9 + (1 + n)],[wrap64 (x9 + (1 + n) + 5)]⟩]) (x9 + (1 + n)) j2 hj2 (by omega) (by omega) (by simp;omega) ⟨fun t ht => by
   rcases List.mem_append.mp ht with ht|ht
   ·exact hok.1 t ht
   ·rw [List.mem_singleton.mp ht];exact hv,sl_snoc hok.2 (fun y hy => .inl (by have:=hb y hy;show rd y.f2 0 < x9 + (1 + n);omega))⟩ (fun t ht => by
   rcases List.mem_append.mp ht with ht|ht
   ·have:=hb t ht;omega
   ·rw [List.mem_singleton.mp ht];show x9 + (1 + n) ≤ _;omega)
  refine ⟨m,Ev.step (fun k => ?_) hm,h⟩
  simp only [railplanlaw42_other.l1]
  rw [if_pos (by omega),hn,bindS,hp,bindS,if_pos (by omega)]
  simp only [e1,e2]
  rw [show wrap64 (((d + 1 : Nat) : Int) - 1) = (d : Int) from by rw [wrap64_id (by omega) (by omega)];omega]
theorem other_l0 (a : List S28) (ha : GT a 45) (la : a.length ≤ 5) (s : List Int) (hs : s.length ≤ 140737488351232) : ∀ (d i : Nat) (x6 : List S28) (j : Int),i ≤ a.length → a.length - i = d → 0 ≤ j → OKL x6 → x6.length ≤ i → (∀ t ∈ x6,∃ u ∈ a.take i,ky t = ky u) →
  ∃ m,Ev (fun k => railplanlaw42_other.l0 k x6 a (a.length : Int) (i : Int) s j) m ∧ OKL m ∧ m.length ≤ 10:=by
 intro d
 induction d with
 | zero =>
  intro i x6 j hi hd hj hok hle hb
  obtain rfl : i = a.length:=by omega
  obtain ⟨n,j1,hn,n0,n1,hj1⟩:=next_some s hs j 3 hj (by omega) (by omega)
  obtain ⟨u,hu⟩ : ∃ u : Nat,n = (u : Int):=⟨n.toNat,by omega⟩
  subst hu
  obtain ⟨m,hm,h⟩:=other_l1 s hs u x6 60 j1 hj1 (by omega) (by omega) (by omega) hok (fun t ht => by
   obtain ⟨u,hu,hk⟩:=hb t ht
   have:=(ha.2 u (List.mem_of_mem_take hu)).1
   have e : rd t.f2 0 = rd u.f2 0:=congrArg Prod.fst hk
   omega)
  exact ⟨m,Ev.step (fun k => by simp only [railplanlaw42_other.l0];rw [if_neg (by omega),hn,bindS]) hm,h⟩
 | succ d ih =>
  intro i x6 j hi hd hj hok hle hb
  have hlt : i < a.length:=by omega
  have hv:=ha.1.1 _ (getD_mem a z28 hlt)
  have hday:=(ha.2 _ (getD_mem a z28 hlt)).2
  have hbig : ∀ t ∈ x6,klt (ky t) (ky (a.getD i z28)):=by
   intro t ht
   obtain ⟨u,hu,hk⟩:=hb t ht
   rw [hk]
   have hpw : SL ky (a.take i ++ a.drop i):=by rw [List.take_append_drop];exact ha.1.2
   exact (List.pairwise_append.mp hpw).2.2 u hu _ (by rw [drop_get a z28 hlt];simp)
  -- the way on: nothing, or a trip of the same key
  have skip : ∀ j',0 ≤ j' → ∃ m,Ev (fun k => railplanlaw42_other.l0 k x6 a (a.length : Int) (wrap64 ((i : Int) + 1)) s j') m ∧ OKL m ∧ m.length ≤ 10:=by
   intro j' hj'
   obtain ⟨m,hm,h⟩:=ih (i + 1) x6 j' (by omega) (by omega) hj' hok (by omega) (fun t ht => by
    obtain ⟨u,hu,hk⟩:=hb t ht
    exact ⟨u,by rw [List.take_succ_eq_append_getElem hlt];exact List.mem_append_left _ hu,hk⟩)
   exact ⟨m,by rw [wsucc (n:=5) (by omega) (by omega) (by decide)];exact_mod_cast hm,h⟩
  have more : ∀ (t : S28) j',0 ≤ j' → VT t → ky t = ky (a.getD i z28) → ∃ m,Ev (fun k => railplanlaw42_other.l0 k (x6 ++ [t]) a (a.length : Int) (wrap64 ((i : Int) + 1)) s j') m ∧ OKL m ∧ m.length ≤ 10:=by
   intro t j' hj' hvt hkt
   obtain ⟨m,hm,h⟩:=ih (i + 1) (x6 ++ [t]) j' (by omega) (by omega) hj' ⟨fun x hx => by
    rcases List.mem_append.mp hx with hx|hx
    ·exact hok.1 x hx
    ·rw [List.mem_singleton.mp hx];exact hvt,sl_snoc hok.2 (fun y hy => by rw [hkt];exact hbig y hy)⟩ (by simp;omega) (fun x hx => by
    have ht : a.take (i + 1) = a.take i ++ [a.getD i z28]:=by
     rw [List.take_succ_eq_append_getElem hlt];simp [List.getD,List.getElem?_eq_getElem hlt]
    rw [ht]
    rcases List.mem_append.mp hx with hx|hx
    ·obtain ⟨u,hu,hk⟩:=hb x hx
     exact ⟨u,List.mem_append_left _ hu,hk⟩
    ·rw [List.mem_singleton.mp hx];exact ⟨_,by simp,hkt⟩)
   exact ⟨m,by rw [wsucc (n:=5) (by omega) (by omega) (by decide)];exact_mod_cast hm,h⟩
  obtain ⟨n,j1,hn,n0,n1,hj1⟩:=next_some s hs j 4 hj (by omega) (by omega)
  by_cases c0 : n = 0
  ·obtain ⟨m,hm,h⟩:=skip j1 hj1
   exact ⟨m,Ev.step (fun k => by simp only [railplanlaw42_other.l0];rw [if_pos (by omega),if_pos (by omega),if_pos (by omega),hn,bindS,if_pos c0]) hm,h⟩
  by_cases c1 : n = 1
  ·obtain ⟨p,j2,hp,p0,p1,hj2⟩:=next_some s hs j1 3 hj1 (by omega) (by omega)
   obtain ⟨m,hm,h⟩:=more ⟨(a.getD i z28).f0,(a.getD i z28).f1 + p,(a.getD i z28).f2,(a.getD i z28).f3⟩ j2 hj2 ⟨hv.1,by have:=hv.2.1;show 0 ≤ (a.getD i z28).f1 + p;omega,hv.2.2.1,hv.2.2.2.1,hv.2.2.2.2.1,hv.2.2.2.2.2⟩ rfl
   refine ⟨m,Ev.step (fun k => ?_) hm,h⟩
   simp only [railplanlaw42_other.l0]
   rw [if_pos (by omega),if_pos (by omega),if_pos (by omega),hn,bindS,if_neg c0,if_pos c1,hp,bindS,if_pos (by omega),rd_nat28,wrap64_id (x:=(a.getD i z28).f1 + p) (by have:=hv.2.1;omega) (by omega)]
  by_cases c2 : n = 2
  ·obtain ⟨p,j2,hp,p0,p1,hj2⟩:=next_some s hs j1 2 hj1 (by omega) (by omega)
   have h3 : (a.getD i z28).f3.length ≤ 12:=by have:=hv.2.2.1;have:=hv.2.2.2.2.1;omega
   have h3' : 1 ≤ (a.getD i z28).f3.length:=by have:=hv.2.2.1;have:=hv.2.2.2.1;omega
   obtain ⟨m,hm,h⟩:=more ⟨(a.getD i z28).f0,(a.getD i z28).f1,(a.getD i z28).f2,(a.getD i z28).f3.set (0 : Int).toNat (wrap64 (rd (a.getD i z28).f3 0 + p))⟩ j2 hj2 ⟨hv.1,hv.2.1,by rw [List.length_set];exact hv.2.2.1,hv.2.2.2.1,hv.2.2.2.2.1,hv.2.2.2.2.2⟩ rfl
   refine ⟨m,Ev.step (fun k => ?_) hm,h⟩
   simp only [railplanlaw42_other.l0]
   rw [if_pos (by omega),if_pos (by omega),if_pos (by omega),hn,bindS,if_neg c0,if_neg c1,if_pos c2,rd_nat28,if_pos (show ([] : List Int).length + (a.getD i z28).f3.length < 17592186044416 by rw [List.length_nil];omega),bindS,if_pos (show 0 < ((([] : List Int) ++ (a.getD i z28).f3).length : Int) by rw [List.nil_append];omega),hp,bindS,if_pos (by omega)]
   rfl
  ·obtain ⟨m,hm,h⟩:=more (a.getD i z28) j1 hj1 hv rfl
   refine ⟨m,Ev.step (fun k => ?_) hm,h⟩
   simp only [railplanlaw42_other.l0]
   rw [if_pos (by omega),if_pos (by omega),if_pos (by omega),hn,bindS,if_neg c0,if_neg c1,if_neg c2,rd_nat28,if_pos (by omega)]
theorem other_ev (a : List S28) (ha : GT a 45) (la : a.length ≤ 5) (s : List Int) (hs : s.length ≤ 140737488351232) : ∃ m,Ev (fun k => railplanlaw42_other.f k a s) m ∧ CK m:=by
 unfold railplanlaw42_other.f railplankeep_From.f
 obtain ⟨m,hm,h,hl⟩:=other_l0 a ha la s hs a.length 0 [] 0 (by omega) rfl (by omega) ⟨fun t ht => by simp at ht,List.Pairwise.nil⟩ (by simp) (fun t ht => by simp at ht)
 exact ⟨m,Ev.congr (fun k => bindS) (by exact_mod_cast hm),h,by omega⟩
end Go.Proofs.Ytpclhbcflkncnaa.Pure

namespace Go.Proofs.Ytpclhbcflkncnaa.Pure
open Go.RowKit Go.Proofs.Ytpclhbcflkncnaa.PAll Go.Proofs.YtpclhbcflkncnaaW.PrintWords Go.Proofs.YtpclhbcflkncnaaW.PrintLast
set_option linter.unusedVariables false
theorem DE_le {a b : List S28} {e : S40} (ha : OKL a) (hb : OKL b) (h : DE a b e) : LE e:=by
 rcases h with ⟨t,ht,_,rfl⟩|⟨u,hu,_,rfl⟩|⟨t,ht,u,hu,_,_,rfl⟩
 ·exact ⟨(ha.1 t ht).lt,z28_lt⟩
 ·exact ⟨z28_lt,(hb.1 u hu).lt⟩
 ·exact ⟨(ha.1 t ht).lt,(hb.1 u hu).lt⟩
theorem diff_pair (a b : List S28) (hna : a.length ≤ 140737488351232) (hnb : b.length ≤ 140737488351232) : ∃ m r,Ev (fun k => diff_Diff.f k a b) (m,r) ∧ Ev (fun k => railplanref41_Diff.f k a b) (m,r) ∧ m.length ≤ 2048 ∧ ∀ e ∈ m,LE e:=by
 by_cases h : CK a ∧ CK b
 ·obtain ⟨m,hm,h1,h2⟩:=dDiff_ok a b h.1 h.2
  exact ⟨m,0,h1,h2,hm.len,fun e he => DE_le h.1.1 h.2.1 ((hm.mem e).mp he)⟩
 ·obtain ⟨h1,h2⟩:=diff_bad a b hna hnb h
  exact ⟨[],1,h1,h2,by simp,fun e he => by simp at he⟩
theorem diffDiff_law (l0 l1 : List Int) (l2 : List S28) (h0 : l0.length ≤ 140737488351232) (h1 : l1.length ≤ 140737488351232) (h2 : l2.length ≤ 140737488351232) : ∃ k,railplanlaw42_DiffDiff.f k l0 l1 l2 = some true:=by
 obtain ⟨a,ea,ga,la⟩:=trips_ev l0 h0
 obtain ⟨b,eb,cb⟩:=other_ev a ga la l1 h1
 obtain ⟨m1,r1,p1,q1,n1,e1⟩:=diff_pair a b (by omega) (by have:=cb.2;omega)
 obtain ⟨m2,r2,p2,q2,n2,e2⟩:=diff_pair l2 b h2 (by have:=cb.2;omega)
 obtain ⟨m3,r3,p3,q3,n3,e3⟩:=diff_pair a l2 (by omega) h2
 have s1:=sameEdits_ev m1 m1 (by omega) e1
 have s2:=sameEdits_ev m2 m2 (by omega) e2
 rw [decide_eq_true rfl] at s1 s2
 refine Ev.rounds (g:=fun k => railplanlaw42_DiffDiff.f k l0 l1 l2) (Ev.bind ea (Ev.bind eb (Ev.bind p1 (Ev.bind q1 (Ev.bind p2 (Ev.bind q2 (Ev.bind p3 (Ev.bind q3 (Ev.bind awake_ev (Ev.congr (fun k => if_pos rfl) (Ev.bind s1 (Ev.congr (fun k => (if_pos rfl).trans (if_pos rfl)) (Ev.bind s2 (Ev.congr (fun k => (if_pos rfl).trans (if_pos rfl)) ?_))))))))))))))
 rw [show ((m3,r3).2 == (m3,r3).2) = true from beq_self_eq_true _]
 exact Ev.now _
end Go.Proofs.Ytpclhbcflkncnaa.Pure

namespace Go.Proofs.Ytpclhbcflkncnaa.Pure
open Go.RowKit Go.Proofs.Ytpclhbcflkncnaa.PAll Go.Proofs.YtpclhbcflkncnaaW.PrintWords Go.Proofs.YtpclhbcflkncnaaW.PrintLast
theorem DiffDiff : railplanlaw42_DiffDiff.Pure:=fun l0 l1 l2 _ h0 _ _ h1 _ _ h2 _ => diffDiff_law l0 l1 l2 (by omega) (by omega) (by omega)
end Go.Proofs.Ytpclhbcflkncnaa.Pure

