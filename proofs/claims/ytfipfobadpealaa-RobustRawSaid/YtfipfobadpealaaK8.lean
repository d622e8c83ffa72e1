-- Packed by wip/tools/pack.py of this session out of what plugprint.py and the kit's print wrote. Lean checks it.
import Derived.Test.YtfipfobadpealaaKS
import Derived.Test.YtfipfobadpealaaK5
import Derived.Test.YtfipfobadpealaaK6
import Derived.Test.YtfipfobadpealaaK7
namespace Go.Proofs.Ytfipfobadpealaa.PAll
open Go.RowKit Go.Proofs.YtfipfobadpealaaW.PrintWords Go.Proofs.YtfipfobadpealaaW.PrintLast Go.Proofs.YtfipfobadpealaaW.PrintMore
attribute [local go_sem] max2_int min2_int max_two min_two max_three min_three max_four min_four
set_option linter.unusedVariables false
set_option linter.unusedSimpArgs false
/-! ### network_First: function 38 (by hand) -/
def firstBad (a0_0 : Int) (l0_1 : List S59) (l0_2 : List S40) (l1 : List Int) (x : S40) : Option Bool :=
 (network_lasts.f a0_0 l0_1 l0_2 l1 x.f0 x.f1 x.f2 x.f3 x.f4 x.f5).bind fun d => some (decide (x.f4 < d))
def network_First.f (a0_0 : Int) (l0_1 : List S59) (l0_2 : List S40) (l1 : List Int) : Option (Int × Bool) :=
 (network_Good.f a0_0 l0_1 l0_2 l1).bind fun t => if t then (findO (firstBad a0_0 l0_1 l0_2 l1) l0_2).bind fun i => some (mx i 0,decide (0 ≤ i)) else some (0,false)
def Held1 (W : World) (g B C : Nat) (x : S40) (a0_0 : Int) (A0_1 : Option Addr) (c0_1 n0_1 : Nat) (A0_2 : Option Addr) (c0_2 n0_2 : Nat) (A1 : Option Addr) (c1 n1 : Nat) : Prop :=
 W.cell? ⟨B,0,none⟩ = some (.int .i64 a0_0) ∧ W.cell? ⟨B,1,none⟩ = some (.slice A0_1 n0_1 c0_1) ∧ W.cell? ⟨B,2,none⟩ = some (.slice A0_2 n0_2 c0_2) ∧ W.cell? ⟨C,0,none⟩ = some (.slice A1 n1 c1) ∧
 W.cell? ⟨g,0,none⟩ = some (.int .i64 x.f0) ∧ W.cell? ⟨g,1,none⟩ = some (.int .i64 x.f1) ∧ W.cell? ⟨g,2,none⟩ = some (.int .i64 x.f2) ∧ W.cell? ⟨g,3,none⟩ = some (.int .i64 x.f3) ∧ W.cell? ⟨g,4,none⟩ = some (.int .i64 x.f4) ∧ W.cell? ⟨g,5,none⟩ = some (.int .i64 x.f5)
theorem Held1.below {W W' : World} {g B C : Nat} {x : S40} {a0_0 : Int} {A0_1 : Option Addr} {c0_1 n0_1 : Nat} {A0_2 : Option Addr} {c0_2 n0_2 : Nat} {A1 : Option Addr} {c1 n1 : Nat} (h : Held1 W g B C x a0_0 A0_1 c0_1 n0_1 A0_2 c0_2 n0_2 A1 c1 n1) (hb : Below W.heap.size W W') :
  Held1 W' g B C x a0_0 A0_1 c0_1 n0_1 A0_2 c0_2 n0_2 A1 c1 n1:=by
 obtain ⟨s0,s1,s2,s3,s4,s5,s6,s7,s8,s9⟩:=h
 exact ⟨(hb.cell (wl_ W _ s0)).trans s0,(hb.cell (wl_ W _ s1)).trans s1,(hb.cell (wl_ W _ s2)).trans s2,(hb.cell (wl_ W _ s3)).trans s3,(hb.cell (wl_ W _ s4)).trans s4,(hb.cell (wl_ W _ s5)).trans s5,(hb.cell (wl_ W _ s6)).trans s6,(hb.cell (wl_ W _ s7)).trans s7,(hb.cell (wl_ W _ s8)).trans s8,(hb.cell (wl_ W _ s9)).trans s9⟩
set_option maxHeartbeats 8000000 in
set_option maxRecDepth 100000 in
theorem FirstFn.calls (a0_0 : Int) (A0_1 : Option Addr) (c0_1 : Nat) (l0_1 : List S59) (A0_2 : Option Addr) (c0_2 : Nat) (l0_2 : List S40) (A1 : Option Addr) (c1 : Nat) (l1 : List Int) (B C : Nat) (w : World) (hr0_1 : Kd.C k59 w A0_1 l0_1.length l0_1) (hc0_1 : l0_1.length ≤ c0_1) (hr0_2 : Kd.C k40 w A0_2 l0_2.length l0_2) (hc0_2 : l0_2.length ≤ c0_2) (hr1 : Kd.C (Kd.int .i64) w A1 l1.length l1) (hc1 : l1.length ≤ c1)
  (hb : w.heap[B]? = some (.cells #[.int .i64 a0_0,.slice A0_1 l0_1.length c0_1,.slice A0_2 l0_2.length c0_2] 26 (0,0))) (ht : w.heap[C]? = some (.cells #[.slice A1 l1.length c1] 22 (0,0))) :
  PredO Try.prog 47 #[.pointer (some ⟨B,0,none⟩),.pointer (some ⟨C,0,none⟩)] enc40 (firstBad a0_0 l0_1 l0_2 l1) w:=by
 intro W x b hx HB0
 unfold firstBad at hx
 obtain ⟨d,hd,hx⟩:=Option.bind_eq_some_iff.mp hx
 obtain rfl:=Option.some.inj hx
 have HB:=am_ HB0
 have hB0 : W.cell? ⟨B,0,none⟩ = some (.int .i64 a0_0):=(kC_ (kB_ hb HB0) 0).trans rfl
 have hB1 : W.cell? ⟨B,1,none⟩ = some (.slice A0_1 l0_1.length c0_1):=(kC_ (kB_ hb HB0) 1).trans rfl
 have hB2 : W.cell? ⟨B,2,none⟩ = some (.slice A0_2 l0_2.length c0_2):=(kC_ (kB_ hb HB0) 2).trans rfl
 have hC0 : W.cell? ⟨C,0,none⟩ = some (.slice A1 l1.length c1):=(kC_ (kB_ ht HB0) 0).trans rfl
 have hBW : B < W.heap.size:=blk_lt (kB_ hb HB0)
 have hCW : C < W.heap.size:=blk_lt (kB_ ht HB0)
 have hBn : B ≠ W.heap.size:=by omega
 have hCn : C ≠ W.heap.size:=by omega
 have HL:=am_ (fun w' (hw : Below w.heap.size w w') => network_lasts.calls a0_0 A0_1 c0_1 l0_1 A0_2 c0_2 l0_2 A1 c1 l1 x.f0 x.f1 x.f2 x.f3 x.f4 x.f5 d w' (CB_ hr0_1 hw) hc0_1 (CB_ hr0_2 hw) hc0_2 (CB_ hr1 hw) hc1 hd)
 clear hr0_1 hc0_1 hr0_2 hc0_2 hr1 hc1 hb ht HB0 hd hx
 have hu26:=Try.underlying26
 have hu40:=Try.underlying40
 show Calls Try.prog 47 #[.agg #[.int .i64 x.f0,.int .i64 x.f1,.int .i64 x.f2,.int .i64 x.f3,.int .i64 x.f4,.int .i64 x.f5],.pointer (some ⟨B,0,none⟩),.pointer (some ⟨C,0,none⟩)] W _
 go_enter Try.func47,Try.ntmps47
 go_wp2_with fail
 have hS : Held1 (W.alloc (.cells #[.int .i64 x.f0,.int .i64 x.f1,.int .i64 x.f2,.int .i64 x.f3,.int .i64 x.f4,.int .i64 x.f5] 40)) W.heap.size B C x a0_0 A0_1 c0_1 l0_1.length A0_2 c0_2 l0_2.length A1 c1 l1.length:=by
  (have hb1:=bA_ (Below.refl W.heap.size W) (.cells #[.int .i64 x.f0,.int .i64 x.f1,.int .i64 x.f2,.int .i64 x.f3,.int .i64 x.f4,.int .i64 x.f5] 40));refine ⟨(hb1.cell (p:=⟨B,0,none⟩) hBW).trans hB0,(hb1.cell (p:=⟨B,1,none⟩) hBW).trans hB1,(hb1.cell (p:=⟨B,2,none⟩) hBW).trans hB2,(hb1.cell (p:=⟨C,0,none⟩) hCW).trans hC0,?_,?_,?_,?_,?_,?_⟩;(all_goals exact (kC_ (blk_new W _) _).trans rfl)
 have hF : Below w.heap.size w (W.alloc (.cells #[.int .i64 x.f0,.int .i64 x.f1,.int .i64 x.f2,.int .i64 x.f3,.int .i64 x.f4,.int .i64 x.f5] 40)):=bA_ HB.out _
 have hg : W.heap.size < (W.alloc (.cells #[.int .i64 x.f0,.int .i64 x.f1,.int .i64 x.f2,.int .i64 x.f3,.int .i64 x.f4,.int .i64 x.f5] 40)).heap.size:=by simp
 generalize hWW : W.alloc (.cells #[.int .i64 x.f0,.int .i64 x.f1,.int .i64 x.f2,.int .i64 x.f3,.int .i64 x.f4,.int .i64 x.f5] 40) = WW at *
 have hBg : B < WW.heap.size:=by omega
 have hCg : C < WW.heap.size:=by omega
 have hF2 : Below w.heap.size w WW.drew:=b1_ hF
 obtain ⟨s0,s1,s2,s3,s4,s5,s6,s7,s8,s9⟩:=hS
 generalize W.heap.size = g at *
 clear hWW hB0 hB1 hB2 hC0 hBW hCW hBn hCn HB
 go_region_held3 (fun w' => w'.cell? ⟨B,0,none⟩ = some (.int .i64 a0_0) ∧ w'.cell? ⟨B,1,none⟩ = some (.slice A0_1 l0_1.length c0_1) ∧ w'.cell? ⟨B,2,none⟩ = some (.slice A0_2 l0_2.length c0_2) ∧ w'.cell? ⟨C,0,none⟩ = some (.slice A1 l1.length c1) ∧ w'.cell? ⟨g,0,none⟩ = some (.int .i64 x.f0) ∧ w'.cell? ⟨g,1,none⟩ = some (.int .i64 x.f1) ∧ w'.cell? ⟨g,2,none⟩ = some (.int .i64 x.f2) ∧ w'.cell? ⟨g,3,none⟩ = some (.int .i64 x.f3) ∧ w'.cell? ⟨g,4,none⟩ = some (.int .i64 x.f4) ∧ w'.cell? ⟨g,5,none⟩ = some (.int .i64 x.f5) ∧ Below w.heap.size w w') (first|(obtain ⟨h0,h1,h2,h3,h4,h5,h6,h7,h8,h9⟩:=Held1.below (W:=WW.drew) ⟨s0,s1,s2,s3,s4,s5,s6,s7,s8,s9⟩ hb;exact ⟨h0,h1,h2,h3,h4,h5,h6,h7,h8,h9,hF2.trans (hb.mono hF2.size)⟩)|(exact ⟨s0,s1,s2,s3,s4,s5,s6,s7,s8,s9,hF2⟩))
  (first|(go_at_call 48;refine (HL.out _ ?hw).mono ?_;(case hw => assumption);rintro e w' ⟨rfl,hb⟩))
 go_wp2
 go_ret
 exact ⟨rfl,hF2.trans (hb.mono hF2.size)⟩

theorem mx_zero (r : Int) : (if r < 0 then 0 else r) = mx r 0:=by unfold mx;split <;> rfl
set_option maxHeartbeats 8000000 in
set_option maxRecDepth 100000 in
theorem network_First.calls (a0_0 : Int) (A0_1 : Option Addr) (c0_1 : Nat) (l0_1 : List S59) (A0_2 : Option Addr) (c0_2 : Nat) (l0_2 : List S40) (A1 : Option Addr) (c1 : Nat) (l1 : List Int) (r1 : Int) (r2 : Bool) (w : World) (hr0_1 : Kd.C k59 w A0_1 l0_1.length l0_1) (hc0_1 : l0_1.length ≤ c0_1) (hr0_2 : Kd.C k40 w A0_2 l0_2.length l0_2) (hc0_2 : l0_2.length ≤ c0_2) (hr1 : Kd.C (Kd.int .i64) w A1 l1.length l1) (hc1 : l1.length ≤ c1) (h : network_First.f a0_0 l0_1 l0_2 l1 = some (r1,r2)) :
  Calls Try.prog 38 #[.agg #[.int .i64 a0_0,.slice A0_1 l0_1.length c0_1,.slice A0_2 l0_2.length c0_2],.slice A1 l1.length c1] w fun e w' => e = .returned (.tuple #[.int .i64 r1,.bool r2]) ∧ Below w.heap.size w w':=by
 have hu26:=Try.underlying26
 unfold network_First.f at h
 obtain ⟨t,ht,h⟩:=Option.bind_eq_some_iff.mp h
 have HG:=am_ (fun w' (hw : Below w.heap.size w w') => network_Good.calls a0_0 A0_1 c0_1 l0_1 A0_2 c0_2 l0_2 A1 c1 l1 t w' (CB_ hr0_1 hw) hc0_1 (CB_ hr0_2 hw) hc0_2 (CB_ hr1 hw) hc1 ht)
 have HF:=am_ (Below.refl w.heap.size w)
 have hbt : ∀ m,Below w.heap.size w (((w.alloc (.cells #[Value.int IntKind.i64 a0_0,Value.slice A0_1 l0_1.length c0_1,Value.slice A0_2 l0_2.length c0_2] 26)).alloc (.cells #[Value.slice A1 l1.length c1] 22)).drewN m):=fun m => bN_ (bA_ (bA_ HF.out _) _) m
 have HBT:=am_ hbt
 clear hbt
 cases t with
 | false =>
  (simp at h);obtain ⟨rfl,rfl⟩:=h;clear hr0_1 hr0_2 hr1 hc0_1 hc0_2 hc1 ht;(go_enter Try.func38,Try.ntmps38);(go_wp2_with fail);refine (HG.out _ (HBT.out 0)).mono ?_;rintro e w' ⟨rfl,hb⟩;(have HB:=am_ ((HBT.out 0).trans (hb.mono (HBT.out 0).size)));clear hb;(go_wp2);(go_ret2);exact ⟨rfl,HB.out⟩
 | true =>
  simp only [if_true] at h;obtain ⟨i,hi,h⟩:=Option.bind_eq_some_iff.mp h;(have hge:=findO_ge _ _ _ hi);simp only [Option.some.injEq,Prod.mk.injEq] at h;obtain ⟨rfl,rfl⟩:=h
  have hbig : l0_2.length ≤ 9223372036854775807:=by
   (unfold network_Good.f at ht);obtain ⟨t,ht',h'⟩:=Option.bind_eq_some_iff.mp ht;cases t with
   | false => simp at h'
   | true => have:=check_true ht';omega
  (have HR1:=am_ hr0_1);(have HR2:=am_ hr0_2);(have HRT:=am_ hr1);(have HC:=am_ (And.intro hc0_1 (And.intro hc0_2 hc1)));(have HI:=am_ hi);clear hr0_1 hr0_2 hr1 hc0_1 hc0_2 hc1 ht hi;(have eg : ∀ args w,(callFunc 47 args).run Try.prog w = .ok (.enter 47 args) w:=enters_fn Try.func47 (by kernel_rfl) rfl);(have HCF:=am_ (fun c lb w' hr hp => IndexFunc40.calls 47 lb _ eg A0_2 c l0_2 i w' hr hbig hp HI.out));clear eg;(go_enter Try.func38,Try.ntmps38);(go_wp2_with fail);refine (HG.out _ (HBT.out 0)).mono ?_;rintro e w' ⟨rfl,hb⟩;(have hbk:=kB_ (kA_ (blk_new w (.cells #[Value.int IntKind.i64 a0_0,Value.slice A0_1 l0_1.length c0_1,Value.slice A0_2 l0_2.length c0_2] 26)) (.cells #[Value.slice A1 l1.length c1] 22)) hb);(have hbt:=kB_ (blk_new (w.alloc (.cells #[Value.int IntKind.i64 a0_0,Value.slice A0_1 l0_1.length c0_1,Value.slice A0_2 l0_2.length c0_2] 26)) (.cells #[Value.slice A1 l1.length c1] 22)) hb);(have HB:=am_ ((HBT.out 0).trans (hb.mono (HBT.out 0).size)));(have HBK:=am_ hbk);(have HBL:=am_ hbt);(have hc2 : w'.cell? ⟨w.heap.size,2,none⟩ = some (Value.slice A0_2 l0_2.length c0_2):=(kC_ hbk 2).trans rfl);clear hb hbk hbt;(go_wp2_with fail);refine (HCF.out _ _ _ ?hr ?hp).mono ?_
  case hr => exact CB_ HR2.out HB.out
  case hp => exact FirstFn.calls a0_0 A0_1 c0_1 l0_1 A0_2 c0_2 l0_2 A1 c1 l1 _ _ _ (CB_ HR1.out HB.out) HC.out.1 (CB_ HR2.out HB.out) HC.out.2.1 (CB_ HRT.out HB.out) HC.out.2.2 HBK.out (by have:=HBL.out;simpa using this)
  rintro e w2 ⟨rfl,hb⟩;(have HB2:=am_ (HB.out.trans (hb.mono HB.out.size)));clear hb
  rcases (by omega : i < 0 ∨ 0 ≤ i) with hlt|hlt
  (·(have em : 0 = mx i 0:=by unfold mx;omega);((have EM:=am_ em);(have en : decide (0 ≤ i) = false:=decide_eq_false (by omega));clear em;(go_wp2);(go_ret2);exact ⟨by simp;exact ⟨EM.out,by omega⟩,HB2.out⟩));(·(have em : i = mx i 0:=by unfold mx;omega);((have EM:=am_ em);(have en : decide (0 ≤ i) = true:=decide_eq_true (by omega));clear em;(go_wp2);(go_ret2);exact ⟨by simp;exact ⟨EM.out,by omega⟩,HB2.out⟩))
/-! ### network_Feasible: function 26 -/
def network_Feasible.f (a0_0 : Int) (l0_1 : List (S59)) (l0_2 : List (S40)) (l1 : List Int) : Option (Bool):=(network_First.f a0_0 l0_1 l0_2 l1).bind fun bt169 => (if bt169.2 = true then (some false) else ((network_Good.f a0_0 l0_1 l0_2 l1).bind fun t171 => (some t171)))
set_option maxHeartbeats 8000000 in
set_option maxRecDepth 100000 in
theorem network_Feasible.calls (a0_0 : Int) (A0_1 : Option Addr) (c0_1 : Nat) (l0_1 : List (S59)) (A0_2 : Option Addr) (c0_2 : Nat) (l0_2 : List (S40)) (A1 : Option Addr) (c1 : Nat) (l1 : List Int) (r : Bool) (w : World) (hr0_1 : Kd.C k59 w A0_1 l0_1.length l0_1) (hc0_1 : l0_1.length ≤ c0_1) (hr0_2 : Kd.C k40 w A0_2 l0_2.length l0_2) (hc0_2 : l0_2.length ≤ c0_2) (hr1 : Kd.C (Kd.int .i64) w A1 l1.length l1) (hc1 : l1.length ≤ c1) (h : network_Feasible.f a0_0 l0_1 l0_2 l1 = some r) :
  Calls Try.prog 26 #[.agg #[.int .i64 a0_0,.slice A0_1 l0_1.length c0_1,.slice A0_2 l0_2.length c0_2],.slice A1 l1.length c1] w fun e w' => e = .returned (.bool r) ∧ Below w.heap.size w w':=by
 have hu26:=Try.underlying26
 have HR0_1:=am_ hr0_1
 have HC0_1:=am_ hc0_1
 clear hr0_1 hc0_1
 have HR0_2:=am_ hr0_2
 have HC0_2:=am_ hc0_2
 clear hr0_2 hc0_2
 have HR1:=am_ hr1
 have HC1:=am_ hc1
 clear hr1 hc1
 have HB:=am_ (Below.refl w.heap.size w)
 have H : ((network_First.f a0_0 l0_1 l0_2 l1).bind fun bt169 => (if bt169.2 = true then (some false) else ((network_Good.f a0_0 l0_1 l0_2 l1).bind fun t171 => (some t171)))) = some r:=h
 clear h
 replace H:=be_ H
 obtain ⟨⟨t169,t170⟩,A30,H⟩:=H
 replace H : (if t170 = true then (some false) else ((network_Good.f a0_0 l0_1 l0_2 l1).bind fun t171 => (some t171))) = some r:=H
 have A3:=am_ A30
 clear A30
 by_cases c4 : t170 = true
 ·subst c4;((have H1 : (some false) = some r:=by rw [if_pos rfl] at H;exact H);clear H;(have H:=H1);clear H1;obtain rfl:=Option.some.inj H;(go_enter Try.func26,Try.ntmps26);(go_wp2_with (first|((with_reducible refine gd_ (N:=2) rfl ?_);refine bx_ ?hg (N:=2) ?hd (cs:=#[.int .i64 a0_0,.slice A0_1 l0_1.length c0_1,.slice A0_2 l0_2.length c0_2]) (t:=26) ?hr ?_;(case hd => rfl);(case hg => rfl);(case hr => first|(go_simp;done)|(go_simp;rfl));intro gb168 hg w5 hbox hb;have n0_:=am_ (bs_ (by repeat (first|(with_reducible first|exact HB.out|apply bA_|apply bN_|apply b1_)|exact HB.out)) hb);have n1_:=am_ (hbox);have n2_:=am_ ((by rw [hg];exact (bz_ (by repeat (first|(with_reducible first|exact HB.out|apply bA_|apply bN_|apply b1_)|exact HB.out))) : w.heap.size ≤ gb168));have n3_:=am_ ((by rw [hg];exact (bz_ (by repeat (first|(with_reducible first|exact HB.out|apply bA_|apply bN_|apply b1_)|exact HB.out))) : w.heap.size ≤ gb168));clear HB;have HB:=n0_;have BK168:=n1_;have GW168:=n2_;have GE168:=n3_;clear n0_ n1_ n2_ n3_;clear hb hbox hg;have hcz6_0 : w5.cell? ⟨gb168,0,none⟩ = some (.int .i64 a0_0):=(kC_ BK168.out 0).trans rfl;have hcz6_1 : w5.cell? ⟨gb168,1,none⟩ = some (.slice A0_1 l0_1.length c0_1):=(kC_ BK168.out 1).trans rfl;have hcz6_2 : w5.cell? ⟨gb168,2,none⟩ = some (.slice A0_2 l0_2.length c0_2):=(kC_ BK168.out 2).trans rfl;have hfz6_0:=kF_ BK168.out 0;have hfz6_1:=kF_ BK168.out 1;have hfz6_2:=kF_ BK168.out 2)|((with_reducible refine gc_ (f:=38) rfl ?_);refine goesL_ (some 10) rfl rfl Try.func38 (by kernel_rfl) rfl #[.agg #[.int .i64 a0_0,.slice A0_1 l0_1.length c0_1,.slice A0_2 l0_2.length c0_2],.slice A1 l1.length c1] rfl (by (try simp only [List.map_toArray,List.map_cons,List.map_nil]);first|done|rfl|(simp only [List.length_drop,List.length_take];rfl)) ?_;(with_reducible refine (network_First.calls a0_0 _ _ l0_1 _ _ l0_2 _ _ l1 t169 true _ ?side1 ?side2 ?side3 ?side4 ?side5 ?side6 A3.out).mono ?_);(case side1 => repeat (first|exact (CB_ HR0_1.out HB.out)|(with_reducible first|refine CA_ ?_ _|refine CN_ ?_ _|refine CD_ ?_)));(case side2 => exact HC0_1.out);(case side3 => repeat (first|exact (CB_ HR0_2.out HB.out)|(with_reducible first|refine CA_ ?_ _|refine CN_ ?_ _|refine CD_ ?_)));(case side4 => exact HC0_2.out);(case side5 => repeat (first|exact (CB_ HR1.out HB.out)|(with_reducible first|refine CA_ ?_ _|refine CN_ ?_ _|refine CD_ ?_)));(case side6 => exact HC1.out);rintro e w7 ⟨rfl,hb⟩;refine ⟨_,rfl,?_⟩;have n0_:=am_ (kB_ (g:=gb168) (o:=.cells #[.int .i64 a0_0,.slice A0_1 l0_1.length c0_1,.slice A0_2 l0_2.length c0_2] 26 (0,0)) (by (with_reducible repeat (first|refine kN_ ?_ _|refine kD_ ?_|refine kA_ ?_ _));exact BK168.out) hb);have n1_:=am_ (bs_ (by repeat (first|(with_reducible first|exact HB.out|apply bA_|apply bN_|apply b1_|refine bS_ ?_ GE168.out)|exact HB.out)) hb);clear BK168;clear HB;have BK168:=n0_;have HB:=n1_;clear n0_ n1_;(try clear hb);(try clear hb2);(try clear hk);(try clear hi))));(go_ret);(exact ⟨by first|rfl|(simp [errW_none,errW_some] <;> rfl)|(simp [*,errW_none,errW_some] <;> rfl),by repeat (first|(with_reducible first|exact HB.out|apply bA_|apply bN_|apply b1_|refine bS_ ?_ GE168.out)|exact HB.out)⟩))
 ·replace c4:=Bool.eq_false_iff.mpr c4;(subst c4;(have H1 : ((network_Good.f a0_0 l0_1 l0_2 l1).bind fun t171 => (some t171)) = some r:=by rw [if_neg (show ¬ (false = true) by decide)] at H;exact H);clear H;(have H:=H1);clear H1;replace H:=be_ H;obtain ⟨t171,A80,H⟩:=H;replace H : (some t171) = some r:=H;(have A8:=am_ A80);clear A80;obtain rfl:=Option.some.inj H;(go_enter Try.func26,Try.ntmps26);(go_wp2_with (first|((with_reducible refine gd_ (N:=2) rfl ?_);refine bx_ ?hg (N:=2) ?hd (cs:=#[.int .i64 a0_0,.slice A0_1 l0_1.length c0_1,.slice A0_2 l0_2.length c0_2]) (t:=26) ?hr ?_;(case hd => rfl);(case hg => rfl);(case hr => first|(go_simp;done)|(go_simp;rfl));intro gb168 hg w9 hbox hb;have n0_:=am_ (bs_ (by repeat (first|(with_reducible first|exact HB.out|apply bA_|apply bN_|apply b1_)|exact HB.out)) hb);have n1_:=am_ (hbox);have n2_:=am_ ((by rw [hg];exact (bz_ (by repeat (first|(with_reducible first|exact HB.out|apply bA_|apply bN_|apply b1_)|exact HB.out))) : w.heap.size ≤ gb168));have n3_:=am_ ((by rw [hg];exact (bz_ (by repeat (first|(with_reducible first|exact HB.out|apply bA_|apply bN_|apply b1_)|exact HB.out))) : w.heap.size ≤ gb168));clear HB;have HB:=n0_;have BK168:=n1_;have GW168:=n2_;have GE168:=n3_;clear n0_ n1_ n2_ n3_;clear hb hbox hg;have hcz10_0 : w9.cell? ⟨gb168,0,none⟩ = some (.int .i64 a0_0):=(kC_ BK168.out 0).trans rfl;have hcz10_1 : w9.cell? ⟨gb168,1,none⟩ = some (.slice A0_1 l0_1.length c0_1):=(kC_ BK168.out 1).trans rfl;have hcz10_2 : w9.cell? ⟨gb168,2,none⟩ = some (.slice A0_2 l0_2.length c0_2):=(kC_ BK168.out 2).trans rfl;have hfz10_0:=kF_ BK168.out 0;have hfz10_1:=kF_ BK168.out 1;have hfz10_2:=kF_ BK168.out 2)|((with_reducible refine gc_ (f:=38) rfl ?_);refine goesL_ (some 10) rfl rfl Try.func38 (by kernel_rfl) rfl #[.agg #[.int .i64 a0_0,.slice A0_1 l0_1.length c0_1,.slice A0_2 l0_2.length c0_2],.slice A1 l1.length c1] rfl (by (try simp only [List.map_toArray,List.map_cons,List.map_nil]);first|done|rfl|(simp only [List.length_drop,List.length_take];rfl)) ?_;(with_reducible refine (network_First.calls a0_0 _ _ l0_1 _ _ l0_2 _ _ l1 t169 false _ ?side1 ?side2 ?side3 ?side4 ?side5 ?side6 A3.out).mono ?_);(case side1 => repeat (first|exact (CB_ HR0_1.out HB.out)|(with_reducible first|refine CA_ ?_ _|refine CN_ ?_ _|refine CD_ ?_)));(case side2 => exact HC0_1.out);(case side3 => repeat (first|exact (CB_ HR0_2.out HB.out)|(with_reducible first|refine CA_ ?_ _|refine CN_ ?_ _|refine CD_ ?_)));(case side4 => exact HC0_2.out);(case side5 => repeat (first|exact (CB_ HR1.out HB.out)|(with_reducible first|refine CA_ ?_ _|refine CN_ ?_ _|refine CD_ ?_)));(case side6 => exact HC1.out);rintro e w11 ⟨rfl,hb⟩;refine ⟨_,rfl,?_⟩;have n0_:=am_ (kB_ (g:=gb168) (o:=.cells #[.int .i64 a0_0,.slice A0_1 l0_1.length c0_1,.slice A0_2 l0_2.length c0_2] 26 (0,0)) (by (with_reducible repeat (first|refine kN_ ?_ _|refine kD_ ?_|refine kA_ ?_ _));exact BK168.out) hb);have n1_:=am_ (bs_ (by repeat (first|(with_reducible first|exact HB.out|apply bA_|apply bN_|apply b1_|refine bS_ ?_ GE168.out)|exact HB.out)) hb);clear BK168;clear HB;have BK168:=n0_;have HB:=n1_;clear n0_ n1_;(try clear hb);(try clear hb2);(try clear hk);(try clear hi);have hcz12_0 : w11.cell? ⟨gb168,0,none⟩ = some (.int .i64 a0_0):=(kC_ BK168.out 0).trans rfl;have hcz12_1 : w11.cell? ⟨gb168,1,none⟩ = some (.slice A0_1 l0_1.length c0_1):=(kC_ BK168.out 1).trans rfl;have hcz12_2 : w11.cell? ⟨gb168,2,none⟩ = some (.slice A0_2 l0_2.length c0_2):=(kC_ BK168.out 2).trans rfl;have hfz12_0:=kF_ BK168.out 0;have hfz12_1:=kF_ BK168.out 1;have hfz12_2:=kF_ BK168.out 2)|(go_at_call 39;(with_reducible refine (network_Good.calls a0_0 _ _ l0_1 _ _ l0_2 _ _ l1 t171 _ ?side1 ?side2 ?side3 ?side4 ?side5 ?side6 A8.out).mono ?_);(case side1 => repeat (first|exact (CB_ HR0_1.out HB.out)|(with_reducible first|refine CA_ ?_ _|refine CN_ ?_ _|refine CD_ ?_)));(case side2 => exact HC0_1.out);(case side3 => repeat (first|exact (CB_ HR0_2.out HB.out)|(with_reducible first|refine CA_ ?_ _|refine CN_ ?_ _|refine CD_ ?_)));(case side4 => exact HC0_2.out);(case side5 => repeat (first|exact (CB_ HR1.out HB.out)|(with_reducible first|refine CA_ ?_ _|refine CN_ ?_ _|refine CD_ ?_)));(case side6 => exact HC1.out);rintro e w13 ⟨rfl,hb⟩;have n0_:=am_ (kB_ (g:=gb168) (o:=.cells #[.int .i64 a0_0,.slice A0_1 l0_1.length c0_1,.slice A0_2 l0_2.length c0_2] 26 (0,0)) (by (with_reducible repeat (first|refine kN_ ?_ _|refine kD_ ?_|refine kA_ ?_ _));exact BK168.out) hb);have n1_:=am_ (bs_ (by repeat (first|(with_reducible first|exact HB.out|apply bA_|apply bN_|apply b1_|refine bS_ ?_ GE168.out)|exact HB.out)) hb);clear BK168;clear HB;have BK168:=n0_;have HB:=n1_;clear n0_ n1_;(try clear hb);(try clear hb2);(try clear hk);(try clear hi))));(go_ret);(exact ⟨by first|rfl|(simp [errW_none,errW_some] <;> rfl)|(simp [*,errW_none,errW_some] <;> rfl),by repeat (first|(with_reducible first|exact HB.out|apply bA_|apply bN_|apply b1_|refine bS_ ?_ GE168.out)|exact HB.out)⟩))
/-! ### robust_there: function 27 -/
def robust_there.f (a0_0 : Int) (l0_1 : List (S59)) (l0_2 : List (S40)) (a1 : Int) : Option (Bool):=if a1 ≥ 0 then (some (decide (a1 < (l0_1.length : Int)))) else (some false)
set_option maxHeartbeats 8000000 in
set_option maxRecDepth 100000 in
theorem robust_there.calls (a0_0 : Int) (A0_1 : Option Addr) (c0_1 : Nat) (l0_1 : List (S59)) (A0_2 : Option Addr) (c0_2 : Nat) (l0_2 : List (S40)) (a1 : Int) (r : Bool) (w : World) (hr0_1 : Kd.C k59 w A0_1 l0_1.length l0_1) (hc0_1 : l0_1.length ≤ c0_1) (hr0_2 : Kd.C k40 w A0_2 l0_2.length l0_2) (hc0_2 : l0_2.length ≤ c0_2) (h : robust_there.f a0_0 l0_1 l0_2 a1 = some r) :
  Calls Try.prog 27 #[.agg #[.int .i64 a0_0,.slice A0_1 l0_1.length c0_1,.slice A0_2 l0_2.length c0_2],.int .i64 a1] w fun e w' => e = .returned (.bool r) ∧ Below w.heap.size w w':=by
 have hu26:=Try.underlying26
 have HR0_1:=am_ hr0_1
 have HC0_1:=am_ hc0_1
 clear hr0_1 hc0_1
 have HR0_2:=am_ hr0_2
 have HC0_2:=am_ hc0_2
 clear hr0_2 hc0_2
 have HB:=am_ (Below.refl w.heap.size w)
 have H : (if a1 ≥ 0 then (some (decide (a1 < (l0_1.length : Int)))) else (some false)) = some r:=h
 clear h
 by_cases c3 : a1 ≥ 0
 ·rw [if_pos c3] at H;((have c3b0:=decide_eq_true c3);clear c3;obtain rfl:=Option.some.inj H;(go_enter Try.func27,Try.ntmps27);(go_wp2_with (first|((with_reducible refine gd_ (N:=2) rfl ?_);(try (refine gate_guard (by rfl) ?_;dsimp only));refine bx_ ?hg (N:=2) ?hd (cs:=#[.int .i64 a0_0,.slice A0_1 l0_1.length c0_1,.slice A0_2 l0_2.length c0_2]) (t:=26) ?hr ?_;(case hd => rfl);(case hg => rfl);(case hr => first|(go_simp;done)|(go_simp;rfl));intro gb172 hg w4 hbox hb;have n0_:=am_ (bs_ (by repeat (first|(with_reducible first|exact HB.out|apply bA_|apply bN_|apply b1_)|exact HB.out)) hb);have n1_:=am_ (hbox);have n2_:=am_ ((by rw [hg];exact (bz_ (by repeat (first|(with_reducible first|exact HB.out|apply bA_|apply bN_|apply b1_)|exact HB.out))) : w.heap.size ≤ gb172));have n3_:=am_ ((by rw [hg];exact (bz_ (by repeat (first|(with_reducible first|exact HB.out|apply bA_|apply bN_|apply b1_)|exact HB.out))) : w.heap.size ≤ gb172));clear HB;have HB:=n0_;have BK172:=n1_;have GW172:=n2_;have GE172:=n3_;clear n0_ n1_ n2_ n3_;clear hb hbox hg;have hcz5_0 : w4.cell? ⟨gb172,0,none⟩ = some (.int .i64 a0_0):=(kC_ BK172.out 0).trans rfl;have hcz5_1 : w4.cell? ⟨gb172,1,none⟩ = some (.slice A0_1 l0_1.length c0_1):=(kC_ BK172.out 1).trans rfl;have hcz5_2 : w4.cell? ⟨gb172,2,none⟩ = some (.slice A0_2 l0_2.length c0_2):=(kC_ BK172.out 2).trans rfl;have hfz5_0:=kF_ BK172.out 0;have hfz5_1:=kF_ BK172.out 1;have hfz5_2:=kF_ BK172.out 2)));(go_ret);(exact ⟨by first|rfl|(simp [errW_none,errW_some] <;> rfl)|(simp [*,errW_none,errW_some] <;> rfl),by repeat (first|(with_reducible first|exact HB.out|apply bA_|apply bN_|apply b1_|refine bS_ ?_ GE172.out)|exact HB.out)⟩))
 ·rw [if_neg c3] at H;((have c3b0:=decide_eq_false c3);clear c3;obtain rfl:=Option.some.inj H;(go_enter Try.func27,Try.ntmps27);(go_wp2_with (first|((with_reducible refine gd_ (N:=2) rfl ?_);(try (refine gate_guard (by rfl) ?_;dsimp only));refine bx_ ?hg (N:=2) ?hd (cs:=#[.int .i64 a0_0,.slice A0_1 l0_1.length c0_1,.slice A0_2 l0_2.length c0_2]) (t:=26) ?hr ?_;(case hd => rfl);(case hg => rfl);(case hr => first|(go_simp;done)|(go_simp;rfl));intro gb172 hg w6 hbox hb;have n0_:=am_ (bs_ (by repeat (first|(with_reducible first|exact HB.out|apply bA_|apply bN_|apply b1_)|exact HB.out)) hb);have n1_:=am_ (hbox);have n2_:=am_ ((by rw [hg];exact (bz_ (by repeat (first|(with_reducible first|exact HB.out|apply bA_|apply bN_|apply b1_)|exact HB.out))) : w.heap.size ≤ gb172));have n3_:=am_ ((by rw [hg];exact (bz_ (by repeat (first|(with_reducible first|exact HB.out|apply bA_|apply bN_|apply b1_)|exact HB.out))) : w.heap.size ≤ gb172));clear HB;have HB:=n0_;have BK172:=n1_;have GW172:=n2_;have GE172:=n3_;clear n0_ n1_ n2_ n3_;clear hb hbox hg)));(go_ret);(exact ⟨by first|rfl|(simp [errW_none,errW_some] <;> rfl)|(simp [*,errW_none,errW_some] <;> rfl),by repeat (first|(with_reducible first|exact HB.out|apply bA_|apply bN_|apply b1_|refine bS_ ?_ GE172.out)|exact HB.out)⟩))
/-! ### robust_least: function 29 -/
def robust_least.f (a0 : Int) (a1 : Int) : Option (Int):=if a0 = (-1) then (some a1) else (if a1 = (-1) then (some a0) else (some (mn a0 a1)))
set_option maxHeartbeats 8000000 in
set_option maxRecDepth 100000 in
theorem robust_least.calls (a0 : Int) (a1 : Int) (r : Int) (w : World) (h : robust_least.f a0 a1 = some r) :
  Calls Try.prog 29 #[.int .i64 a0,.int .i64 a1] w fun e w' => e = .returned (.int .i64 r) ∧ Below w.heap.size w w':=by
 have HB:=am_ (Below.refl w.heap.size w)
 have H : (if a0 = (-1) then (some a1) else (if a1 = (-1) then (some a0) else (some (mn a0 a1)))) = some r:=h
 clear h
 by_cases c3 : a0 = (-1)
 ·rw [if_pos c3] at H;((have c3b0 : (a0 == (-1)) = true:=beq_iff_eq.mpr c3);(have c3b1 : (a0 != (-1)) = false:=bne_eq_false_iff_eq.mpr c3);clear c3;obtain rfl:=Option.some.inj H;(go_enter Try.func29,Try.ntmps29);(go_wp2);(go_ret);(exact ⟨by first|rfl|(simp [errW_none,errW_some] <;> rfl)|(simp [*,errW_none,errW_some] <;> rfl),by repeat (first|(with_reducible first|exact HB.out|apply bA_|apply bN_|apply b1_)|exact HB.out)⟩))
 ·rw [if_neg c3] at H
  (have c3b0 : (a0 == (-1)) = false:=beq_eq_false_iff_ne.mpr c3);(have c3b1 : (a0 != (-1)) = true:=bne_iff_ne.mpr c3)
  by_cases c4 : a1 = (-1)
  (·rw [if_pos c4] at H;((have c4b0 : (a1 == (-1)) = true:=beq_iff_eq.mpr c4);(have c4b1 : (a1 != (-1)) = false:=bne_eq_false_iff_eq.mpr c4);clear c4;obtain rfl:=Option.some.inj H;(go_enter Try.func29,Try.ntmps29);(go_wp2);(go_ret);(exact ⟨by first|rfl|(simp [errW_none,errW_some] <;> rfl)|(simp [*,errW_none,errW_some] <;> rfl),by repeat (first|(with_reducible first|exact HB.out|apply bA_|apply bN_|apply b1_)|exact HB.out)⟩)));(·rw [if_neg c4] at H;((have c4b0 : (a1 == (-1)) = false:=beq_eq_false_iff_ne.mpr c4);(have c4b1 : (a1 != (-1)) = true:=bne_iff_ne.mpr c4);obtain ⟨ji5,hji5⟩ : ∃ j_ : Int,(mn a0 a1) = j_:=⟨_,rfl⟩;(replace H : (some ji5) = some r:=by first|(rw [hji5] at H;exact H)|(simp only [hji5] at H ⊢;exact H));(have hji5_ : (if a1 < a0 then a1 else a0) = ji5:=hji5);obtain rfl:=Option.some.inj H;(go_enter Try.func29,Try.ntmps29);(go_wp2);(go_ret);(exact ⟨by first|rfl|(simp [errW_none,errW_some] <;> rfl)|(simp only [← hji5];first|rfl|(simp [errW_none,errW_some] <;> rfl))|(simp [*,errW_none,errW_some] <;> rfl),by repeat (first|(with_reducible first|exact HB.out|apply bA_|apply bN_|apply b1_)|exact HB.out)⟩)))
end Go.Proofs.Ytfipfobadpealaa.PAll
