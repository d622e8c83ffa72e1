-- Packed by wip/tools/pack.py of this session out of what plugprint.py and the kit's print wrote. Lean checks it.
import Derived.Test.YtgbcgbfoejkieaaIS
import Derived.Test.YtgbcgbfoejkieaaI10
namespace Go.Proofs.Ytgbcgbfoejkieaa.PAll
open Go.RowKit Go.Proofs.YtgbcgbfoejkieaaW.PrintWords Go.Proofs.YtgbcgbfoejkieaaW.PrintLast Go.Proofs.YtgbcgbfoejkieaaW.PrintMore
attribute [local go_sem] max2_int min2_int max_two min_two max_three min_three max_four min_four
set_option linter.unusedVariables false
set_option linter.unusedSimpArgs false
/-! ### network_Check: function 57 (by hand) -/
/-- what is asked of a closure: where the predicate tells, the call hands it back. -/
def PredO {α : Type} (P : Program) (g : Nat) (lb : Array Value) (enc : α → Value) (p : α → Option Bool) (w : World) : Prop :=
 ∀ (W : World) (x : α) (b : Bool),p x = some b → Below w.heap.size w W → Calls P g (#[enc x] ++ lb) W fun e w' => e = .returned (.bool b) ∧ Below w.heap.size w w'
def findO {α : Type} (p : α → Option Bool) : List α → Option Int
 | [] => some (-1)
 | x :: l => (p x).bind fun b => if b then some 0 else (findO p l).bind fun i => some (if i < 0 then i else i + 1)
theorem findO_at {α : Type} (p : α → Option Bool) (d : α) : ∀ (l : List α) (r : Int),findO p l = some r → ∀ k : Nat,(∀ j,j < k → p (l.getD j d) = some false) → k < l.length →
  ∃ b,p (l.getD k d) = some b ∧ (b = true → r = k)
 | [],r,h,k,hk,hl => by simp at hl
 | x :: l,r,h,k,hk,hl => by
  simp only [findO] at h;obtain ⟨b,hb,h⟩:=Option.bind_eq_some_iff.mp h;cases k with
  | zero => exact ⟨b,by simpa using hb,fun e => by subst e;simpa using h.symm⟩
  | succ k =>
   have h0:=hk 0 (by omega);simp only [List.getD_cons_zero] at h0;rw [hb] at h0;obtain rfl:=Option.some.inj h0;simp only [Bool.false_eq_true,if_false] at h;obtain ⟨i,hi,h⟩:=Option.bind_eq_some_iff.mp h;obtain ⟨b',hb',hr⟩:=findO_at p d l i hi k (fun j hj => by have:=hk (j + 1) (by omega);simpa using this) (by simp at hl;omega);refine ⟨b',by simpa using hb',fun e => ?_⟩;have:=hr e;subst this;have h:=Option.some.inj h;rw [if_neg (by omega)] at h
   omega
theorem findO_none {α : Type} (p : α → Option Bool) (d : α) : ∀ (l : List α) (r : Int),findO p l = some r → (∀ j,j < l.length → p (l.getD j d) = some false) → r = -1
 | [],r,h,hk => by simpa [findO] using h.symm
 | x :: l,r,h,hk => by
  simp only [findO] at h;obtain ⟨b,hb,h⟩:=Option.bind_eq_some_iff.mp h;have h0:=hk 0 (by simp);simp only [List.getD_cons_zero] at h0;rw [hb] at h0;obtain rfl:=Option.some.inj h0;simp only [Bool.false_eq_true,if_false] at h;obtain ⟨i,hi,h⟩:=Option.bind_eq_some_iff.mp h;have:=findO_none p d l i hi (fun j hj => by have:=hk (j + 1) (by simpa using hj);simpa using this);subst this;(simpa using h.symm)

theorem findO_ge {α : Type} (p : α → Option Bool) : ∀ (l : List α) (r : Int),findO p l = some r → -1 ≤ r
 | [],r,h => by simp [findO] at h;omega
 | x :: l,r,h => by
  simp only [findO] at h;obtain ⟨b,hb,h⟩:=Option.bind_eq_some_iff.mp h;cases b with
  | true => simp at h;omega
  | false =>
   simp only [Bool.false_eq_true,if_false] at h;obtain ⟨i,hi,h⟩:=Option.bind_eq_some_iff.mp h;have:=findO_ge p l i hi;have h:=Option.some.inj h
   split at h <;> omega
theorem enters_fn {P : Program} {f : FuncId} {fn : Func} {c : Code} (hf : P.funcs[f]? = some fn) (hname : (fn.name == "runtime.NumGoroutine") = false) (hb : fn.body = some c) : ∀ args w, (callFunc f args).run P w = .ok (.enter f args) w := by
 intro args w; (have h1 : fn.name ≠ "runtime.NumGoroutine" := by simpa using hname); (simp [callFunc, hf, h1, hb, mark])
theorem findO_any {α : Type} (p : α → Bool) : ∀ (l : List α),∃ r,findO (fun x => some (p x)) l = some r ∧ decide (0 ≤ r) = l.any p
 | [] => ⟨-1,rfl,rfl⟩
 | x :: l => by
  obtain ⟨r,hr,he⟩:=findO_any p l;have hge:=findO_ge _ l r hr;cases hp : p x with
  | true => exact ⟨0,by simp [findO,hp],by simp [hp]⟩
  | false =>
   refine ⟨if r < 0 then r else r + 1,by simp [findO,hp,hr],?_⟩;rw [List.any_cons,hp,Bool.false_or,← he]
   by_cases h : r < 0
   (·rw [if_pos h]);(·rw [if_neg h,decide_eq_true (by omega),decide_eq_true (by omega)])
theorem below_drawn {w w' W : World} {n : Nat} (hB : Below n w W) (h : Drawn0 W w') (hn : n ≤ W.heap.size:=by omega) : Below n w w':=by
 obtain ⟨m,rfl⟩:=h;exact bN_ hB m
def enc40 (x : S62) : Value:=.agg #[.int .i64 x.f0,.int .i64 x.f1,.int .i64 x.f2,.int .i64 x.f3,.int .i64 x.f4,.int .i64 x.f5]
set_option maxHeartbeats 8000000 in
set_option maxRecDepth 100000 in
theorem IndexFunc40.calls (g : Nat) (lb : Array Value) (p : S62 → Option Bool) (eg : ∀ args w,(callFunc g args).run Try.prog w = .ok (.enter g args) w) (A : Option Addr) (c : Nat) (l : List S62) (r : Int) (w : World)
  (hr : Kd.C k62 w A l.length l) (hbig : l.length ≤ 9223372036854775807) (hp : PredO Try.prog g lb enc40 p w) (h : findO p l = some r) :
  Calls Try.prog 71 #[.slice A l.length c,.func (.func g) #[] lb] w fun e w' => e = .returned (.int .i64 r) ∧ Below w.heap.size w w':=by
 have hu62:=Try.underlying62
 have HR:=am_ hr
 have HP:=am_ hp
 have H:=am_ h
 clear hr hp h
 go_enter Try.func71,Try.ntmps71
 go_wp2
 go_loopg [5,8] l.length (fun gg _ s8 wr => ∃ kk : Nat,kk ≤ l.length ∧ l.length - kk ≤ gg ∧ s8 = .int .i64 kk ∧ Aside0 (Below w.heap.size w wr) ∧ Aside0 (∀ j,j < kk → p (l.getD j z62) = some false))
 case atStart => exact ⟨0,Nat.zero_le _,by omega,rfl,⟨Below.refl _ w⟩,⟨fun j hj => absurd hj (Nat.not_lt_zero _)⟩⟩
 case round =>
  obtain ⟨kk,hkk,hg,rfl,BW,AL⟩:=hrel
  by_cases hlt : kk < l.length
  ·have hltz : (kk : Int) < (l.length : Int):=by omega
   obtain ⟨ad,e,h0,h1,h2,h3,h4,h5⟩:=at_T62 HR.out (kk : Int) (by omega) hltz;cases e;obtain ⟨b,hb,hb'⟩:=findO_at p z62 l r H.out kk AL.out hlt;have HB:=am_ hb;have HB':=am_ hb';have hcall:=HP.out wr (l.getD kk z62) b hb BW.out;clear hb hb';(have erd : rd_T62 l (kk : Int) = l.getD kk z62:=by simp [rd_T62]);rw [erd] at h0 h1 h2 h3 h4 h5;clear erd;simp only [Int.toNat_natCast] at h0 h1 h2 h3 h4 h5;generalize hy : l.getD kk z62 = y at h0 h1 h2 h3 h4 h5 hcall HB;replace hcall:=am_ hcall;have HY:=am_ hy;clear hy;replace h0:=(BW.out.cell (wl_ w _ h0)).trans h0;replace h1:=(BW.out.cell (wl_ w _ h1)).trans h1;replace h2:=(BW.out.cell (wl_ w _ h2)).trans h2;replace h3:=(BW.out.cell (wl_ w _ h3)).trans h3;replace h4:=(BW.out.cell (wl_ w _ h4)).trans h4;replace h5:=(BW.out.cell (wl_ w _ h5)).trans h5;cases b with
   | true =>
    (go_wp2_with fail);refine (hcall.out).mono ?_;rintro e w' ⟨rfl,hb'⟩;(go_wp2);(go_ret);refine ⟨?_,hb'⟩;rw [HB'.out (by first|rfl|trivial)];rfl
   | false =>
    (go_wp2_with fail);refine (hcall.out).mono ?_;rintro e w' ⟨rfl,hb'⟩;(go_wp2);(go_roundg (l.length - (kk + 1)))
    case measure => omega
    case rel =>
     refine ⟨kk + 1,by omega,by omega,by go_num,⟨hb'⟩,⟨fun j hj => ?_⟩⟩
     by_cases e : j = kk
     (·subst e;rw [HY.out];exact HB.out);(·exact AL.out j (by omega))
  ·(have hltz : ¬ (kk : Int) < (l.length : Int):=by omega);((have : kk = l.length:=by omega);subst this;(go_wp2);(go_ret);refine ⟨?_,BW.out⟩;rw [findO_none p z62 l r H.out AL.out];rfl)
set_option maxHeartbeats 8000000 in
set_option maxRecDepth 100000 in
theorem ContainsFunc40.calls (g : Nat) (lb : Array Value) (p : S62 → Option Bool) (eg : ∀ args w,(callFunc g args).run Try.prog w = .ok (.enter g args) w) (A : Option Addr) (c : Nat) (l : List S62) (r : Int) (w : World)
  (hr : Kd.C k62 w A l.length l) (hbig : l.length ≤ 9223372036854775807) (hp : PredO Try.prog g lb enc40 p w) (h : findO p l = some r) :
  Calls Try.prog 68 #[.slice A l.length c,.func (.func g) #[] lb] w fun e w' => e = .returned (.bool (decide (0 ≤ r))) ∧ Below w.heap.size w w':=by
 have HC:=am_ (fun w' => IndexFunc40.calls g lb p eg A c l r w' )
 have HR:=am_ hr
 have HP:=am_ hp
 have H:=am_ h
 clear hr hp h
 go_enter Try.func68,Try.ntmps68
 go_wp2_with fail
 refine (HC.out _ HR.out hbig HP.out H.out).mono ?_
 rintro e w' ⟨rfl,hb⟩
 go_wp2
 go_ret
 exact ⟨rfl,hb⟩
theorem within_eq (a b c : Int) : network_within.f a b c = some (decide (b ≤ a) && decide (a ≤ c)):=by
 unfold network_within.f
 by_cases h : a ≥ b
 (·rw [if_pos h,decide_eq_true (show b ≤ a from h)];rfl);(·rw [if_neg h,decide_eq_false (show ¬ b ≤ a from h)];rfl)
/-- Check's closure. -/
def actBad (last per : Int) (x : S62) : Bool :=
 !(decide (0 ≤ x.f1) && decide (x.f1 ≤ last)) || !(decide (0 ≤ x.f2) && decide (x.f2 ≤ last)) || x.f1 == x.f2 || decide (x.f3 < -65536) || decide (x.f4 < x.f3) || decide (65536 < x.f4) || decide (per ≤ wrap64 (x.f4 - x.f3)) || !(decide (0 ≤ x.f5) && decide (x.f5 ≤ 1048576))
set_option maxHeartbeats 8000000 in
set_option maxRecDepth 100000 in
theorem CheckFn.calls (last per : Int) (B C : Nat) (w : World) (cs : Array Value) (hb : w.heap[B]? = some (.cells cs 26 (0,0))) (h0 : cs[0]? = some (.int .i64 per))
  (hl : w.heap[C]? = some (.cells #[.int .i64 last] 3 (0,0))) :
  PredO Try.prog 69 #[.pointer (some ⟨C,0,none⟩),.pointer (some ⟨B,0,none⟩)] enc40 (fun x => some (actBad last per x)) w:=by
 intro W x b hx HB0
 have HB:=am_ HB0
 obtain rfl:=Option.some.inj hx
 have hc : W.cell? ⟨B,0,none⟩ = some (.int .i64 per):=(kC_ (kB_ hb HB0) 0).trans h0
 have hcl : W.cell? ⟨C,0,none⟩ = some (.int .i64 last):=(kC_ (kB_ hl HB0) 0).trans rfl
 have hBW : B < W.heap.size:=blk_lt (kB_ hb HB0)
 have hCW : C < W.heap.size:=blk_lt (kB_ hl HB0)
 have hBn : B ≠ W.heap.size:=by omega
 have hCn : C ≠ W.heap.size:=by omega
 have HW:=am_ (fun a b c w' => network_within.calls a b c _ w' (within_eq a b c))
 clear HB0 h0 hb
 show Calls Try.prog 69 #[.agg #[.int .i64 x.f0,.int .i64 x.f1,.int .i64 x.f2,.int .i64 x.f3,.int .i64 x.f4,.int .i64 x.f5],.pointer (some ⟨C,0,none⟩),.pointer (some ⟨B,0,none⟩)] W _
 cases h1 : (decide (0 ≤ x.f1) && decide (x.f1 ≤ last)) with
 | false =>
  have H1:=am_ h1;clear h1;(go_enter Try.func69,Try.ntmps69);(go_wp2_with fail);refine (HW.out _ _ _ _).mono ?_;rintro e w' ⟨rfl,⟨m0,rfl⟩⟩;rw [H1.out];(go_wp2);(go_ret);exact ⟨by rw [show actBad last per x = true from by simp only [actBad];rw [H1.out];simp];rfl,below_drawn (bA_ HB.out _) ⟨⟨_,rfl⟩⟩ (by simp;have:=HB.out.size;omega)⟩
 | true =>
  have H1:=am_ h1;clear h1;cases h2 : (decide (0 ≤ x.f2) && decide (x.f2 ≤ last)) with
  | false =>
   have H2:=am_ h2;clear h2;(go_enter Try.func69,Try.ntmps69);(go_wp2_with fail);refine (HW.out _ _ _ _).mono ?_;rintro e w' ⟨rfl,⟨m0,rfl⟩⟩;rw [H1.out];(go_wp2_with fail);refine (HW.out _ _ _ _).mono ?_;rintro e w' ⟨rfl,⟨m1,rfl⟩⟩;rw [H2.out];(go_wp2);(go_ret);exact ⟨by rw [show actBad last per x = true from by simp only [actBad];rw [H1.out,H2.out];simp];rfl,below_drawn (bA_ HB.out _) ⟨⟨_,rfl⟩⟩ (by simp;have:=HB.out.size;omega)⟩
  | true =>
   have H2:=am_ h2;clear h2;cases h3 : (x.f1 == x.f2) with
   | true =>
    have H3:=am_ h3;(go_enter Try.func69,Try.ntmps69);(go_wp2_with fail);refine (HW.out _ _ _ _).mono ?_;rintro e w' ⟨rfl,⟨m0,rfl⟩⟩;rw [H1.out];(go_wp2_with fail);refine (HW.out _ _ _ _).mono ?_;rintro e w' ⟨rfl,⟨m1,rfl⟩⟩;rw [H2.out];(go_wp2);(go_ret);exact ⟨by rw [show actBad last per x = true from by simp only [actBad];rw [H1.out,H2.out,H3.out];simp];rfl,below_drawn (bA_ HB.out _) ⟨⟨_,rfl⟩⟩ (by simp;have:=HB.out.size;omega)⟩
   | false =>
    have H3:=am_ h3;cases h4 : decide (x.f3 < -65536) with
    | true =>
     have H4:=am_ h4;(go_enter Try.func69,Try.ntmps69);(go_wp2_with fail);refine (HW.out _ _ _ _).mono ?_;rintro e w' ⟨rfl,⟨m0,rfl⟩⟩;rw [H1.out];(go_wp2_with fail);refine (HW.out _ _ _ _).mono ?_;rintro e w' ⟨rfl,⟨m1,rfl⟩⟩;rw [H2.out];(go_wp2);(go_ret);exact ⟨by rw [show actBad last per x = true from by simp only [actBad];rw [H1.out,H2.out,H3.out,H4.out];simp];rfl,below_drawn (bA_ HB.out _) ⟨⟨_,rfl⟩⟩ (by simp;have:=HB.out.size;omega)⟩
    | false =>
     have H4:=am_ h4;cases h5 : decide (x.f4 < x.f3) with
     | true =>
      have H5:=am_ h5;(go_enter Try.func69,Try.ntmps69);(go_wp2_with fail);refine (HW.out _ _ _ _).mono ?_;rintro e w' ⟨rfl,⟨m0,rfl⟩⟩;rw [H1.out];(go_wp2_with fail);refine (HW.out _ _ _ _).mono ?_;rintro e w' ⟨rfl,⟨m1,rfl⟩⟩;rw [H2.out];(go_wp2);(go_ret);exact ⟨by rw [show actBad last per x = true from by simp only [actBad];rw [H1.out,H2.out,H3.out,H4.out,H5.out];simp];rfl,below_drawn (bA_ HB.out _) ⟨⟨_,rfl⟩⟩ (by simp;have:=HB.out.size;omega)⟩
     | false =>
      have H5:=am_ h5;cases h6 : decide (65536 < x.f4) with
      | true =>
       have H6:=am_ h6;(go_enter Try.func69,Try.ntmps69);(go_wp2_with fail);refine (HW.out _ _ _ _).mono ?_;rintro e w' ⟨rfl,⟨m0,rfl⟩⟩;rw [H1.out];(go_wp2_with fail);refine (HW.out _ _ _ _).mono ?_;rintro e w' ⟨rfl,⟨m1,rfl⟩⟩;rw [H2.out];(go_wp2);(go_ret);exact ⟨by rw [show actBad last per x = true from by simp only [actBad];rw [H1.out,H2.out,H3.out,H4.out,H5.out,H6.out];simp];rfl,below_drawn (bA_ HB.out _) ⟨⟨_,rfl⟩⟩ (by simp;have:=HB.out.size;omega)⟩
      | false =>
       have H6:=am_ h6;cases h7 : decide (per ≤ wrap64 (x.f4 - x.f3)) with
       | true =>
        have H7:=am_ h7;(go_enter Try.func69,Try.ntmps69);(go_wp2_with fail);refine (HW.out _ _ _ _).mono ?_;rintro e w' ⟨rfl,⟨m0,rfl⟩⟩;rw [H1.out];(go_wp2_with fail);refine (HW.out _ _ _ _).mono ?_;rintro e w' ⟨rfl,⟨m1,rfl⟩⟩;rw [H2.out];(go_wp2);(go_ret);exact ⟨by rw [show actBad last per x = true from by simp only [actBad];rw [H1.out,H2.out,H3.out,H4.out,H5.out,H6.out,H7.out];simp];rfl,below_drawn (bA_ HB.out _) ⟨⟨_,rfl⟩⟩ (by simp;have:=HB.out.size;omega)⟩
       | false =>
        have H7:=am_ h7;cases h8 : (decide (0 ≤ x.f5) && decide (x.f5 ≤ 1048576)) with
        | false =>
         have H8:=am_ h8;clear h8;(go_enter Try.func69,Try.ntmps69);(go_wp2_with fail);refine (HW.out _ _ _ _).mono ?_;rintro e w' ⟨rfl,⟨m0,rfl⟩⟩;rw [H1.out];(go_wp2_with fail);refine (HW.out _ _ _ _).mono ?_;rintro e w' ⟨rfl,⟨m1,rfl⟩⟩;rw [H2.out];(go_wp2_with fail);refine (HW.out _ _ _ _).mono ?_;rintro e w' ⟨rfl,⟨m2,rfl⟩⟩;rw [H8.out];(go_wp2);(go_ret);exact ⟨by rw [show actBad last per x = true from by simp only [actBad];rw [H1.out,H2.out,H3.out,H4.out,H5.out,H6.out,H7.out,H8.out];simp];rfl,below_drawn (bA_ HB.out _) ⟨⟨_,rfl⟩⟩ (by simp;have:=HB.out.size;omega)⟩
        | true =>
         have H8:=am_ h8;clear h8;(go_enter Try.func69,Try.ntmps69);(go_wp2_with fail);refine (HW.out _ _ _ _).mono ?_;rintro e w' ⟨rfl,⟨m0,rfl⟩⟩;rw [H1.out];(go_wp2_with fail);refine (HW.out _ _ _ _).mono ?_;rintro e w' ⟨rfl,⟨m1,rfl⟩⟩;rw [H2.out];(go_wp2_with fail);refine (HW.out _ _ _ _).mono ?_;rintro e w' ⟨rfl,⟨m2,rfl⟩⟩;rw [H8.out];(go_wp2);(go_ret);exact ⟨by rw [show actBad last per x = false from by simp only [actBad];rw [H1.out,H2.out,H3.out,H4.out,H5.out,H6.out,H7.out,H8.out];simp];rfl,below_drawn (bA_ HB.out _) ⟨⟨_,rfl⟩⟩ (by simp;have:=HB.out.size;omega)⟩
def network_Check.f (a0_0 : Int) (l0_1 : List S60) (l0_2 : List S62) : Option Bool :=
 if decide (2 ≤ a0_0) && decide (a0_0 ≤ 7200) && decide (l0_1.length ≤ 48) && decide (l0_2.length ≤ 512) then some (!(l0_2.any (actBad ((l0_1.length : Int) - 1) a0_0))) else some false
set_option maxHeartbeats 8000000 in
set_option maxRecDepth 100000 in
theorem network_Check.calls (a0_0 : Int) (A0_1 : Option Addr) (c0_1 : Nat) (l0_1 : List S60) (A0_2 : Option Addr) (c0_2 : Nat) (l0_2 : List S62) (r : Bool) (w : World) (hr0_1 : Kd.C k60 w A0_1 l0_1.length l0_1) (hc0_1 : l0_1.length ≤ c0_1) (hr0_2 : Kd.C k62 w A0_2 l0_2.length l0_2) (hc0_2 : l0_2.length ≤ c0_2) (h : network_Check.f a0_0 l0_1 l0_2 = some r) :
  Calls Try.prog 57 #[.agg #[.int .i64 a0_0,.slice A0_1 l0_1.length c0_1,.slice A0_2 l0_2.length c0_2]] w fun e w' => e = .returned (.bool r) ∧ Below w.heap.size w w':=by
 have HR1:=am_ hr0_1
 have HR2:=am_ hr0_2
 have HC:=am_ hc0_1
 clear hr0_1 hr0_2 hc0_1
 have HW:=am_ (fun a b c w' => network_within.calls a b c _ w' (within_eq a b c))
 have HF:=am_ (Below.refl w.heap.size w)
 unfold network_Check.f at h
 cases h1 : (decide (2 ≤ a0_0) && decide (a0_0 ≤ 7200)) with
 | false =>
  have H1:=am_ h1;rw [h1] at h;(simp at h);subst h;clear h1;(go_enter Try.func57,Try.ntmps57);(go_wp2_with fail);refine (HW.out _ _ _ _).mono ?_;rintro e w' ⟨rfl,⟨m,rfl⟩⟩;rw [H1.out];(go_wp2);(go_ret);exact ⟨rfl,below_drawn (bA_ HF.out _) ⟨⟨_,rfl⟩⟩ (by simp)⟩
 | true =>
  have H1:=am_ h1;rw [h1] at h;clear h1;simp only [Bool.true_and] at h
  by_cases h2 : l0_1.length ≤ 48
  ·by_cases h3 : l0_2.length ≤ 512
   ·rw [decide_eq_true h2,decide_eq_true h3] at h
    simp only [Bool.and_self,if_true] at h;obtain rfl:=Option.some.inj h;clear h;(have e2 : decide ((48 : Int) < (l0_1.length : Int)) = false:=by simp;omega);(have e3 : decide ((512 : Int) < (l0_2.length : Int)) = false:=by simp;omega);(have e2' : decide (48 < l0_1.length) = false:=by simp;omega);(have e3' : decide (512 < l0_2.length) = false:=by simp;omega);obtain ⟨rr,hrr,hany⟩:=findO_any (actBad ((l0_1.length : Int) - 1) a0_0) l0_2;have HRR:=am_ hrr;have HANY:=am_ hany;clear hrr hany;have eg : ∀ args w,(callFunc 69 args).run Try.prog w = .ok (.enter 69 args) w:=enters_fn Try.func69 (by kernel_rfl) rfl;have HCF:=am_ (fun c lb w' hr hp => ContainsFunc40.calls 69 lb _ eg A0_2 c l0_2 rr w' hr (by omega) hp HRR.out);clear eg;(go_enter Try.func57,Try.ntmps57);(go_wp2_with fail);refine (HW.out _ _ _ _).mono ?_;rintro e w' ⟨rfl,⟨m,rfl⟩⟩;rw [H1.out];(go_wp2_with fail);refine (HCF.out _ _ _ ?hr ?hp).mono ?_
    case hr => exact CA_ (CN_ (CA_ HR2.out _) _) _
    case hp =>
     exact CheckFn.calls _ _ w.heap.size (w.heap.size + 1) _ _ (by exact kA_ (kN_ (blk_new _ _) _) _) rfl (by have:=blk_new ((w.alloc (.cells #[Value.int IntKind.i64 a0_0,Value.slice A0_1 l0_1.length c0_1,Value.slice A0_2 l0_2.length c0_2] 26)).drewN m) (.cells #[Value.int IntKind.i64 ((l0_1.length : Int) - 1)] 3);simpa using this)
    rintro e w' ⟨rfl,hb⟩;have HB:=am_ hb;clear hb;rw [HANY.out];(go_wp2);(go_ret);exact ⟨by simp,(bA_ (bN_ (bA_ HF.out _) _) _).trans (HB.out.mono (by simp;omega))⟩
   ·(have e2 : decide ((48 : Int) < (l0_1.length : Int)) = false:=by simp;omega);((have e2' : decide (48 < l0_1.length) = false:=by simp;omega);(have e3 : decide ((512 : Int) < (l0_2.length : Int)) = true:=by simp;omega);(have e3' : decide (512 < l0_2.length) = true:=by simp;omega);rw [decide_eq_true h2,decide_eq_false h3] at h;(simp at h);subst h;(go_enter Try.func57,Try.ntmps57);(go_wp2_with fail);refine (HW.out _ _ _ _).mono ?_;rintro e w' ⟨rfl,⟨m,rfl⟩⟩;rw [H1.out];(go_wp2);(go_ret);exact ⟨rfl,bN_ (bA_ HF.out _) _⟩)
  ·(have e2 : decide ((48 : Int) < (l0_1.length : Int)) = true:=by simp;omega);((have e2' : decide (48 < l0_1.length) = true:=by simp;omega);rw [decide_eq_false h2] at h;(simp at h);subst h;(go_enter Try.func57,Try.ntmps57);(go_wp2_with fail);refine (HW.out _ _ _ _).mono ?_;rintro e w' ⟨rfl,⟨m,rfl⟩⟩;rw [H1.out];(go_wp2);(go_ret);exact ⟨rfl,bN_ (bA_ HF.out _) _⟩)
end Go.Proofs.Ytgbcgbfoejkieaa.PAll
