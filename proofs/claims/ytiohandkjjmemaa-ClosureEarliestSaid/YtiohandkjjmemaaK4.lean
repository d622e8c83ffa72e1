-- Packed by wip/tools/pack.py of this session out of what plugprint.py and the kit's print wrote. Lean checks it.
import Derived.Test.YtiohandkjjmemaaKS
namespace Go.Proofs.Ytiohandkjjmemaa.PAll
open Go.RowKit Go.Proofs.YtiohandkjjmemaaW.PrintWords Go.Proofs.YtiohandkjjmemaaW.PrintLast Go.Proofs.YtiohandkjjmemaaW.PrintMore
attribute [local go_sem] max2_int min2_int max_two min_two max_three min_three max_four min_four
set_option linter.unusedVariables false
set_option linter.unusedSimpArgs false
/-! ### api_Closure_31: function 31 -/
-- slices.Insert at elements of three cells (chapter 25's numbering: function 31, overlaps 35, slice type 23, element type 27)
/-- copy, elements of any size: all is read first. -/
theorem ins_copy {P : Program} (w : World) (dT sT ty elem : TypeId) (z g o dLen dCap : Nat) (a : Addr) (sLen sCap : Nat) (cur : Array Value) (t : TypeId) (cs : List Value)
  (hu : P.underlying dT = some (.slice elem)) (hs : (P.info? elem).map (·.size) = some z)
  (hg : w.heap[g]? = some (.cells cur t (0,0))) (hn : cs.length = Nat.min sLen dLen * z)
  (hsrc : ∀ j v,cs[j]? = some v → w.cell? (a.add j) = some v) (hfit : o + cs.length ≤ cur.size) (h1 : ∀ v ∈ cs,v.oneCell' = true) :
  (Builtin.copy_ #[dT,sT] ty #[.slice (some ⟨g,o,none⟩) dLen dCap,.slice (some a) sLen sCap]).run P w =
   .ok (goInt (Nat.min sLen dLen)) (w.setRow g (cur.toList.take o ++ cs ++ cur.toList.drop (o + cs.length)).toArray):=by
 have hl:=run_loadCells_list (P:=P) w a cs hsrc
 have hst:=run_storeCells_at P g o t cs 0 cur w hg (by simpa using hfit) h1
 cases hq : P.info? elem with
 | none => simp [hq] at hs
 | some i =>
  (have hi : i.size = z:=by simpa [hq] using hs);rw [hn] at hl;simp only [Nat.add_zero] at hst;(simp [Builtin.copy_,run_underlying hu,Builtin.lenOf,Builtin.firstCells,sizeOf,typeInfo,hq,hi,hl,hst])

/-- The operation 'copy(d, s)', where its run is known: in a row of operations, and in a region of open order. -/
theorem ins_wp {P : Program} (w : World) {o : Oper} {a : Act} {K : Act → World → Prop} {Q : Exit → Act → World → Prop} (d s : Operand) (t t' : TypeId) (ho : o.op = .call { callee:=.builtin .copy,args:=#[d,s],argTypes:=#[t,t'] }) (v u : Value) (hd : a.eval d = v) (hs : a.eval s = u)
  {v' : Value} {w' : World} (hr : (Builtin.copy_ #[t,t'] o.type #[v,u]).run P w = .ok v' w') (h : K (a.put o.dst v') w') : o.wp P a w K Q:=by
 unfold Oper.wp execOp
 simp only [ho,resolve,invoke,builtin,Sem.run_bind,Sem.run_pure,Result.andThen_ok,List.map_toArray,List.map_cons,List.map_nil,hd,hs,hr]
 exact h
theorem ins_wpL {P : Program} (w : World) {ops : Array Oper} {rest : List Oper} {o : Oper} {a : Act} {Q : Exit → Act → World → Prop} (hgd : o.guard = none) (d s : Operand) (t t' : TypeId) (ho : o.op = .call { callee:=.builtin .copy,args:=#[d,s],argTypes:=#[t,t'] }) (v u : Value) (hd : a.eval d = v) (hs : a.eval s = u)
  {v' : Value} {w' : World} (hr : (Builtin.copy_ #[t,t'] o.type #[v,u]).run P w = .ok v' w') (h : wpList P ops Q rest (a.put o.dst v') w') : wpList P ops Q (o :: rest) a w :=
 wpList_plain hgd fun _ hK => ins_wp w d s t t' ho v u hd hs hr (hK _ _ h)
theorem ins_step {P : Program} {ops : Array Oper} {o : Oper} {a : Act} {w : World} {K : Act → World → Prop} {Q : Exit → Act → World → Prop} {E : Prop} (hg : o.guard = none) (d x : Operand) (dT sT : TypeId) (hop : o.op = Op.call { callee:=Callee.builtin Builtin.copy,args:=#[d,x],argTypes:=#[dT,sT] })
  (v u : Value) (hd : a.eval d = v) (hx : a.eval x = u) {v' : Value} {w' : World} (hr : (Builtin.copy_ #[dT,sT] o.type #[v,u]).run P w = .ok v' w') (hK : K (a.put o.dst v') w') : if Region.wanted o (yielded ops a.tmps) = true then Oper.wp P o a w K Q else E:=by
 rw [if_pos (by simp [Region.wanted,hg])]
 exact ins_wp w d x dT sT hop v u hd hx hr hK
theorem ins_add (b off i : Nat) : (⟨b,off,none⟩ : Addr).add i = ⟨b,off + i,none⟩:=by
 unfold Addr.add
 split <;> simp_all
theorem ins_cut {P : Program} (t e : TypeId) {i : TypeInfo} (ht : P.underlying t = some (.slice e)) (hi : P.info? e = some i) (size : Nat) (hsz : i.size = size) (g n c j : Nat) (x : Int) (hx : x = (j : Int)) (hm : j ≤ n) (hc : j < c) (L : Nat) (hL : n - j = L) (W : World) :
  (Instr.slice t (.slice (some ⟨g,0,none⟩) n c) (some (.int .i64 x)) none none).run P W = .ok (.slice (some ⟨g,j * size,none⟩) L (c - j)) W:=by
 subst hx;subst hL
 rw [cut_from (P:=P) t e .i64 ht hi size hsz (some ⟨g,0,none⟩) n c j (by omega) (by omega)]
 simp only [Int.toNat_natCast,Option.map_some,ins_add,Nat.zero_add]
 rw [if_neg (by omega)]
theorem ins_cutH {P : Program} (t e : TypeId) {i : TypeInfo} (ht : P.underlying t = some (.slice e)) (hi : P.info? e = some i) (A : Option Addr) (n c j : Nat) (x : Int) (hx : x = (j : Int)) (hc : j ≤ c) (W : World) :
  (Instr.slice t (.slice A n c) none (some (.int .i64 x)) none).run P W = .ok (.slice A j c) W:=by
 subst hx
 have hel : P.elem t = e:=by simp [Program.elem,ht]
 have hu : P.underlying t = some (.slice (P.elem t)):=by rw [hel];exact ht
 have ha : (A.map fun x => x.add 0) = A:=by cases A <;> simp [Addr.add]
 rw [run_slice_h W t A n c hu .i64 j (by omega) (by omega),hel]
 simp [sizeOf,typeInfo,hi,sliced,Result.andThen,ha]
theorem ins_cell (w : World) (g o : Nat) (cur : Array Value) (t : TypeId) (fr : Nat × Nat) (hh : w.heap[g]? = some (.cells cur t fr)) : w.cell? ⟨g,o,none⟩ = cur[o]?:=by simp [World.cell?,hh]

set_option maxHeartbeats 4000000 in
set_option maxRecDepth 100000 in
theorem ins_shift (g n co i vb m vc : Nat) (cur vcur : Array Value) (in0 in2 : List Value) (w : World) (hi : i < n) (hm : 0 < m) (hroom : n + m ≤ co) (hc63 : co ≤ 9223372036854775807) (hne : vb ≠ g)
  (hh : w.heap[g]? = some (.cells cur 27 (0,0))) (hcs : cur.size = co * 3) (htk : cur.toList.take (n * 3) = in0) (hl0 : in0.length = n * 3)
  (hv : w.heap[vb]? = some (.cells vcur 27 (0,0))) (hvs : vcur.size = vc * 3) (hvt : vcur.toList.take (m * 3) = in2) (hl2 : in2.length = m * 3) (h10 : ∀ u ∈ in0,u.oneCell' = true) (h12 : ∀ u ∈ in2,u.oneCell' = true)
  (X1 X2 : Array Value) (hX1 : X1 = (cur.toList.take ((i + m) * 3) ++ in0.drop (i * 3) ++ cur.toList.drop ((i + m) * 3 + (in0.drop (i * 3)).length)).toArray)
  (hX2 : X2 = (X1.toList.take (i * 3) ++ in2 ++ X1.toList.drop (i * 3 + in2.length)).toArray) :
  Calls Try.prog 31 #[.slice (some ⟨g,0,none⟩) n co,.int .i64 i,.slice (some ⟨vb,0,none⟩) m vc] w fun e w' =>
   e = .returned (.slice (some ⟨g,0,none⟩) (n + m) co) ∧ w' = (w.drew.setRow g X1).setRow g X2:=by
 obtain ⟨i27,hi27,hz27,hs27,hb27⟩:=info_parts info27
 have hsz : (Try.prog.info? 27).map (·.size) = some 3:=by rw [hi27];simp [hs27]
 have hz1 : ¬ ((m : Int) = 0):=by omega
 have hz2 : ¬ ((i : Int) = (n : Int)):=by omega
 have hz3 : ¬ ((co : Int) < (n : Int) + (m : Int)):=by omega
 have hw1 : IntKind.i64.wrap ((i : Int) + (m : Int)) = (i : Int) + (m : Int):=by rw [IntKind.wrap_i64];omega
 have hw2 : IntKind.i64.wrap ((n : Int) + (m : Int)) = (n : Int) + (m : Int):=by rw [IntKind.wrap_i64];omega
 have hS : ∀ W : World,(Go.sizeOf 27).run Try.prog W = .ok 3 W:=fun W => by simp [sizeOf,typeInfo,hi27,hs27]
 have hcutA:=ins_cut (P:=Try.prog) 23 27 Try.underlying23 hi27 3 hs27 g n co i i rfl (by omega) (by omega) _ rfl
 have hcutB:=ins_cutH (P:=Try.prog) 23 27 Try.underlying23 hi27 (some ⟨g,0,none⟩) n co (n + m) ((n : Int) + (m : Int)) (by omega) hroom
 have hcutC:=ins_cut (P:=Try.prog) 23 27 Try.underlying23 hi27 3 hs27 g (n + m) co (i + m) ((i : Int) + (m : Int)) (by omega) (by omega) (by omega) (n - i) (by omega)
 have hcutD:=ins_cut (P:=Try.prog) 23 27 Try.underlying23 hi27 3 hs27 g (n + m) co i i rfl (by omega) (by omega) _ rfl
 have hov : ∀ lb cb,(callFunc 35 #[.slice (some ⟨vb,0,none⟩) m vc,.slice (some ⟨g,(i + m) * 3,none⟩) lb cb]).run Try.prog w = .ok (.value (.bool false)) w:=fun lb cb => by
  rw [run_callFunc_extern Try.func35 (by kernel_rfl) (by kernel_rfl) (by kernel_rfl) (e:=Extern.SlicesOverlaps.overlaps #[23,23] #[4]) (by kernel_rfl),
   Lib.run_overlaps_apart w 23 4 27 Try.underlying23 3 hS ⟨vb,0,none⟩ ⟨g,(i + m) * 3,none⟩ m vc lb cb hne 27 27 vcur.size cur.size (by simp [World.shape?,hv]) (by simp [World.shape?,hh]) (by omega) (by simp [World.frozen?,hv]) (by simp [World.frozen?,hv])]
  rfl
 have hdl : (in0.drop (i * 3)).length = (n - i) * 3:=by rw [List.length_drop,hl0,Nat.sub_mul]
 have hmin1 : Nat.min (n + m - i) (n - i) = n - i:=by simp only [Nat.min_def];split <;> omega
 have hmin2 : Nat.min m (n + m - i) = m:=by simp only [Nat.min_def];split <;> omega
 have hcell0 : ∀ j u,in0[j]? = some u → w.cell? ⟨g,j,none⟩ = some u:=fun j u hj => by
  rw [ins_cell w g j cur 27 (0,0) hh];rw [← htk,List.getElem?_take] at hj
  split at hj
  (·simpa using hj);(·cases hj)
 have hcell2 : ∀ j u,in2[j]? = some u → w.cell? ⟨vb,j,none⟩ = some u:=fun j u hj => by
  rw [ins_cell w vb j vcur 27 (0,0) hv];rw [← hvt,List.getElem?_take] at hj
  split at hj
  (·simpa using hj);(·cases hj)
 have hX1s : X1.size = co * 3:=by
  rw [hX1];simp only [List.size_toArray,List.length_append,List.length_take,List.length_drop,Array.length_toList,hcs,hl0]
  omega
 have hcp1 : ∀ ty dc sc,(Builtin.copy_ #[23,23] ty #[.slice (some ⟨g,(i + m) * 3,none⟩) (n - i) dc,.slice (some ⟨g,i * 3,none⟩) (n + m - i) sc]).run Try.prog w.drew = .ok (goInt (n - i : Nat)) (w.drew.setRow g X1):=fun ty dc sc => by
  have:=ins_copy (P:=Try.prog) w.drew 23 23 ty 27 3 g ((i + m) * 3) (n - i) dc ⟨g,i * 3,none⟩ (n + m - i) sc cur 27 (in0.drop (i * 3)) Try.underlying23 hsz hh (by rw [hdl,hmin1])
   (fun j u hj => by rw [ins_add];rw [List.getElem?_drop] at hj;exact hcell0 _ _ hj) (by rw [hdl,hcs];omega) (fun u hu => h10 u (List.mem_of_mem_drop hu))
  rw [← hX1,hmin1] at this;exact this
 have hg1 : (w.drew.setRow g X1).heap[g]? = some (.cells X1 27 (0,0)):=setRow_heap _ _ cur _ _ _ hh
 have hcp2 : ∀ ty dc sc,(Builtin.copy_ #[23,23] ty #[.slice (some ⟨g,i * 3,none⟩) (n + m - i) dc,.slice (some ⟨vb,0,none⟩) m sc]).run Try.prog (w.drew.setRow g X1) = .ok (goInt (m : Nat)) ((w.drew.setRow g X1).setRow g X2):=fun ty dc sc => by
  have:=ins_copy (P:=Try.prog) (w.drew.setRow g X1) 23 23 ty 27 3 g (i * 3) (n + m - i) dc ⟨vb,0,none⟩ m sc X1 27 in2 Try.underlying23 hsz hg1 (by rw [hl2,hmin2])
   (fun j u hj => by
    rw [ins_add,Nat.zero_add];(have h5 : (w.drew.setRow g X1).heap[vb]? = w.heap[vb]?:=setRow_other w.drew g vb X1 hne);rw [ins_cell _ vb j vcur 27 (0,0) (h5.trans hv),← ins_cell w vb j vcur 27 (0,0) hv]
    exact hcell2 j u hj) (by rw [hl2,hX1s];omega) h12
  rw [← hX2,hmin2] at this;exact this
 clear hX1 hX2
 have mixed : Try.prog.follows Departure.mixedOrders = true:=by kernel_rfl
 go_enter Try.func31,Try.ntmps31
 go_wp2_with (simp only [hov])
 go_region_law_o (refine ins_step rfl _ _ 23 23 rfl _ _ (by simp [Act.eval,Act.put]) (by simp [Act.eval,Act.put]) (hcp1 _ _ _) ?_)
 go_wp2_with (at_builtin;refine ins_wpL _ rfl _ _ 23 23 rfl _ _ rfl rfl (hcp2 _ _ _) ?_)

 go_ret
 exact ⟨rfl,rfl⟩

theorem ins_zsize (z : Value) (s k : Nat) (hz : z.cells.size = s) : (Builtin.zeroCells z.cells k).size = k * s:=by simp [Builtin.zeroCells,hz]

set_option maxHeartbeats 4000000 in
set_option maxRecDepth 100000 in
theorem ins_grow (g n co i vb m vc : Nat) (cur vcur : Array Value) (in0 in2 : List Value) (w : World) (hi : i < n) (hm : 0 < m) (hnc : n ≤ co) (hroom : co < n + m) (hbig : (n + m) * 24 ≤ 140737488355328) (hc63 : co ≤ 9223372036854775807)
  (hh : w.heap[g]? = some (.cells cur 27 (0,0))) (hcs : cur.size = co * 3) (htk : cur.toList.take (n * 3) = in0) (hl0 : in0.length = n * 3)
  (hv : w.heap[vb]? = some (.cells vcur 27 (0,0))) (hvs : vcur.size = vc * 3) (hvt : vcur.toList.take (m * 3) = in2) (hl2 : in2.length = m * 3) (h10 : ∀ u ∈ in0,u.oneCell' = true) (h12 : ∀ u ∈ in2,u.oneCell' = true)
  (G : Nat) (hG : G = grownCap w (n + m) co 27) (ROW X1 X2 : Array Value) (hR : ROW = (in0.take (i * 3)).toArray ++ Builtin.zeroCells (Value.agg #[(.int .i64 0),(.int .i64 0),(.int .i64 0)]).cells (n + m - i) ++ Builtin.zeroCells (Value.agg #[(.int .i64 0),(.int .i64 0),(.int .i64 0)]).cells (G - (n + m)))
  (hX1 : X1 = (ROW.toList.take (i * 3) ++ in2 ++ ROW.toList.drop (i * 3 + in2.length)).toArray)
  (hX2 : X2 = (X1.toList.take ((i + m) * 3) ++ in0.drop (i * 3) ++ X1.toList.drop ((i + m) * 3 + (in0.drop (i * 3)).length)).toArray) :
  Calls Try.prog 31 #[.slice (some ⟨g,0,none⟩) n co,.int .i64 i,.slice (some ⟨vb,0,none⟩) m vc] w fun e w' =>
   e = .returned (.slice (some ⟨w.heap.size,0,none⟩) (n + m) G) ∧ w' = (((w.drew.alloc (.cells ROW 27)).setRow w.heap.size X1).drew).setRow w.heap.size X2:=by
 obtain ⟨i27,hi27,hz27,hs27,hb27⟩:=info_parts info27
 have hsz : (Try.prog.info? 27).map (·.size) = some 3:=by rw [hi27];simp [hs27]
 have hz1 : ¬ ((m : Int) = 0):=by omega
 have hz2 : ¬ ((i : Int) = (n : Int)):=by omega
 have hz3 : ((co : Int) < (n : Int) + (m : Int)):=by omega
 have hw1 : IntKind.i64.wrap ((i : Int) + (m : Int)) = (i : Int) + (m : Int):=by rw [IntKind.wrap_i64];omega
 have hw2 : IntKind.i64.wrap ((n : Int) + (m : Int)) = (n : Int) + (m : Int):=by rw [IntKind.wrap_i64];omega
 have hw3 : IntKind.i64.wrap ((n : Int) + (m : Int) - (i : Int)) = (n : Int) + (m : Int) - (i : Int):=by rw [IntKind.wrap_i64];omega
 have hgl : g < w.heap.size:=by
  rcases Nat.lt_or_ge g w.heap.size with h|h
  (·exact h);(·rw [Array.getElem?_eq_none h] at hh;cases hh)
 have hvl : vb < w.heap.size:=by
  rcases Nat.lt_or_ge vb w.heap.size with h|h
  (·exact h);(·rw [Array.getElem?_eq_none h] at hv;cases hv)
 have hGn : n + m ≤ G:=by rw [hG];exact grownCap_ge w _ _ _
 have hdl : (in0.drop (i * 3)).length = (n - i) * 3:=by rw [List.length_drop,hl0,Nat.sub_mul]
 have hmin1 : Nat.min (n - i) (n - i) = n - i:=by simp only [Nat.min_def];split <;> omega
 have hmin2 : Nat.min m (n + m - i) = m:=by simp only [Nat.min_def];split <;> omega
 have hcell0 : ∀ j u,in0[j]? = some u → w.cell? ⟨g,j,none⟩ = some u:=fun j u hj => by
  rw [ins_cell w g j cur 27 (0,0) hh];rw [← htk,List.getElem?_take] at hj
  split at hj
  (·simpa using hj);(·cases hj)
 have hcell2 : ∀ j u,in2[j]? = some u → w.cell? ⟨vb,j,none⟩ = some u:=fun j u hj => by
  rw [ins_cell w vb j vcur 27 (0,0) hv];rw [← hvt,List.getElem?_take] at hj
  split at hj
  (·simpa using hj);(·cases hj)
 have hold : (Builtin.firstCells i27.size i (.slice (some ⟨g,0,none⟩) i co)).run Try.prog w.drew = .ok (in0.take (i * 3)).toArray w.drew:=by
  rw [hs27]
  exact run_firstCells_some w.drew 3 i ⟨g,0,none⟩ i co (in0.take (i * 3)) (by rw [List.length_take,hl0];omega) (fun j v hj => by
   rw [ins_add,Nat.zero_add];rw [List.getElem?_take] at hj
   split at hj
   ·exact hcell0 j v hj
   ·cases hj)
 have hik : i + (n + m - i) = n + m:=by omega
 have hrz : ∀ ty,(Builtin.append_ #[23,3] ty #[.slice (some ⟨g,0,none⟩) i co,.int .i64 ((n : Int) + (m : Int) - (i : Int))]).run Try.prog w = .ok (.slice (some ⟨w.heap.size,0,none⟩) (n + m) G) (w.drew.alloc (.cells ROW 27)):=fun ty => by
  (have h:=Lib.run_append_grow_zeros w 23 3 ty 27 i27 _ .i64 .i64 Try.underlying23 Try.underlying3 hi27 hz27 (some ⟨g,0,none⟩) i co (in0.take (i * 3)) hold (n + m - i) (by omega) (by omega) (by omega) (by omega) (by rw [hb27];omega) (by rw [hb27,hik];exact growslice_fits hroom hbig));rw [hik] at h;rw [show (n : Int) + (m : Int) - (i : Int) = ((n + m - i : Nat) : Int) by omega,hG,hR,hG];exact h
 have hRs : ROW.size = G * 3:=by
  (have hzs : ∀ k,(Builtin.zeroCells (Value.agg #[(.int .i64 0),(.int .i64 0),(.int .i64 0)]).cells k).size = k * 3:=fun k => ins_zsize (Value.agg #[(.int .i64 0),(.int .i64 0),(.int .i64 0)]) 3 k rfl);rw [hR,Array.size_append,Array.size_append,hzs,hzs];simp only [List.size_toArray,List.length_take,hl0]
  omega
 have hgN : (w.drew.alloc (.cells ROW 27)).heap[w.heap.size]? = some (.cells ROW 27 (0,0)):=by simpa using heap_alloc_new w.drew (.cells ROW 27)
 have hgo : ∀ k,k < w.heap.size → (w.drew.alloc (.cells ROW 27)).heap[k]? = w.heap[k]?:=fun k hk => (bA_ (Below.refl w.drew.heap.size w.drew) (.cells ROW 27)).block k hk
 obtain ⟨N,hN⟩ : ∃ N,N = w.heap.size:=⟨_,rfl⟩
 obtain ⟨W1,hW1⟩ : ∃ W1,W1 = w.drew.alloc (.cells ROW 27):=⟨_,rfl⟩
 rw [← hW1] at hgN hgo
 simp only [← hW1] at hrz ⊢
 simp only [← hN] at hrz hgN hgo hgl hvl ⊢
 have hX1s : X1.size = G * 3:=by
  rw [hX1];simp only [List.size_toArray,List.length_append,List.length_take,List.length_drop,Array.length_toList,hRs,hl2]
  omega
 have hcpA : ∀ ty dc sc,(Builtin.copy_ #[23,23] ty #[.slice (some ⟨N,i * 3,none⟩) (n + m - i) dc,.slice (some ⟨vb,0,none⟩) m sc]).run Try.prog W1 = .ok (goInt (m : Nat)) (W1.setRow N X1):=fun ty dc sc => by
  have:=ins_copy (P:=Try.prog) W1 23 23 ty 27 3 N (i * 3) (n + m - i) dc ⟨vb,0,none⟩ m sc ROW 27 in2 Try.underlying23 hsz hgN (by rw [hl2,hmin2])
   (fun j u hj => by
    rw [ins_add,Nat.zero_add];rw [ins_cell _ vb j vcur 27 (0,0) ((hgo vb hvl).trans hv),← ins_cell w vb j vcur 27 (0,0) hv]
    exact hcell2 j u hj) (by rw [hl2,hRs];omega) h12
  rw [← hX1,hmin2] at this;exact this
 have hg1 : ((W1.setRow N X1).drew).heap[N]? = some (.cells X1 27 (0,0)):=setRow_heap _ _ ROW _ _ _ hgN
 have hcpB : ∀ ty dc sc,(Builtin.copy_ #[23,23] ty #[.slice (some ⟨N,(i + m) * 3,none⟩) (n - i) dc,.slice (some ⟨g,i * 3,none⟩) (n - i) sc]).run Try.prog ((W1.setRow N X1).drew) = .ok (goInt (n - i : Nat)) (((W1.setRow N X1).drew).setRow N X2):=fun ty dc sc => by
  have:=ins_copy (P:=Try.prog) ((W1.setRow N X1).drew) 23 23 ty 27 3 N ((i + m) * 3) (n - i) dc ⟨g,i * 3,none⟩ (n - i) sc X1 27 (in0.drop (i * 3)) Try.underlying23 hsz hg1 (by rw [hdl,hmin1])
   (fun j u hj => by
    rw [ins_add];rw [List.getElem?_drop] at hj;(have h5 : ((W1.setRow N X1).drew).heap[g]? = w.heap[g]?:=(setRow_other W1 N g X1 (by omega)).trans (hgo g hgl));rw [ins_cell _ g _ cur 27 (0,0) (h5.trans hh),← ins_cell w g _ cur 27 (0,0) hh]
    exact hcell0 _ u hj) (by rw [hdl,hX1s];omega) (fun u hu => h10 u (List.mem_of_mem_drop hu))
  rw [← hX2,hmin1] at this;exact this
 have hcut1:=ins_cut (P:=Try.prog) 23 27 Try.underlying23 hi27 3 hs27 g n co i i rfl (by omega) (by omega) _ rfl
 have hcut2:=ins_cutH (P:=Try.prog) 23 27 Try.underlying23 hi27 (some ⟨g,0,none⟩) n co i i rfl (by omega)
 have hcut3:=ins_cut (P:=Try.prog) 23 27 Try.underlying23 hi27 3 hs27 N (n + m) G i i rfl (by omega) (by omega) _ rfl
 have hcut4:=ins_cut (P:=Try.prog) 23 27 Try.underlying23 hi27 3 hs27 N (n + m) G (i + m) ((i : Int) + (m : Int)) (by omega) (by omega) (by omega) (n - i) (by omega)
 clear hX1 hX2 hR hG hW1 hN hold hik
 have mixed : Try.prog.follows Departure.mixedOrders = true:=by kernel_rfl
 go_enter Try.func31,Try.ntmps31
 go_wp2_with (first
  | (at_builtin;refine Lib.wpList_append_run _ rfl _ _ _ _ rfl _ _ rfl rfl _ _ (hrz _) ?_)
  | (at_builtin;refine ins_wpL _ rfl _ _ 23 23 rfl _ _ rfl rfl (hcpA _ _ _) ?_))
 go_region_law_o (refine ins_step rfl _ _ 23 23 rfl _ _ (by simp [Act.eval,Act.put]) (by simp [Act.eval,Act.put]) (hcpB _ _ _) ?_)
 go_wp2
 go_ret
 exact ⟨rfl,rfl⟩

theorem ins_segs {A B C D : List Value} {a b c : Nat} (hA : A.length = a) (hB : B.length = b) (hC : C.length = c) : (A ++ B ++ C ++ D).take (a + b + c) = A ++ B ++ C:=by
 subst hA hB hC;rw [← List.length_append,← List.length_append];exact List.take_left' rfl

theorem ins_mid (P0_ P2_ : Nat → Prop) (u0 u2 : Value) (l0 : List S27) (i : Nat) (l2 : List S27) (w0 w : World) (hB : Below w0.heap.size w0 w) (ho0 : Kd.R k27 27 w w0.heap.size P0_ u0 l0) (hp0 : ∀ k,P0_ k → ¬ P2_ k)
  (ho2 : Kd.R k27 27 w w0.heap.size P2_ u2 l2) (hi : i < l0.length) (hm : 0 < l2.length) (hl : l0.length + l2.length < 5864062014805) :
  Calls Try.prog 31 #[u0,.int .i64 i,u2] w fun e w' => ∃ v0 : Value,e = .returned v0 ∧ Kd.R k27 27 w' w0.heap.size (fun k => ((P0_ k ∨ P2_ k) ∨ w.heap.size ≤ k)) v0 (l0.take i ++ l2 ++ l0.drop i) ∧ Below w0.heap.size w0 w' ∧ Kept w w' (fun k => P0_ k ∨ P2_ k):=by
 obtain ⟨hk0,in0,ho,hr0⟩:=ho0
 obtain ⟨hk2,in2,ho',hr2⟩:=ho2
 rcases ho.2 with ⟨_,h⟩|⟨g,co,cur,rfl,hg,hh,hnc,hcm,hcs,htk⟩
 ·omega
 rcases ho'.2 with ⟨_,h⟩|⟨vb,vc,vcur,rfl,hvg,hv,hvnc,hvcm,hvs,hvt⟩
 ·omega
 have hne : vb ≠ g:=fun e => hp0 g (hk0 g rfl) (hk2 g (by rw [e];rfl))
 have h10:=Kd.reps_one hr0 (by decide) (fun _ _ hp => k27.K_one (k27.K_of_M hp))
 have h12:=Kd.reps_one hr2 (by decide) (fun _ _ hp => k27.K_one (k27.K_of_M hp))
 have hl0 : in0.length = l0.length * 3:=ho.1
 have hl2 : in2.length = l2.length * 3:=ho'.1
 have hco : co ≤ 9223372036854775807:=hcm
 have hcs : cur.size = co * 3:=hcs
 have htk : cur.toList.take (l0.length * 3) = in0:=htk
 have hvt : vcur.toList.take (l2.length * 3) = in2:=hvt
 have hvs : vcur.size = vc * 3:=hvs
 have hgl : g < w.heap.size:=own_lt ho g rfl
 have hrep : ∀ (w' : World) (ok : Nat → Prop),Reps (k27.M w' w0.heap.size ok) 3 (l0.take i ++ l2 ++ l0.drop i) (in0.take (i * 3) ++ in2 ++ in0.drop (i * 3)):=fun w' ok => by
  (have c0 : Reps (k27.M w' w0.heap.size ok) 3 l0 in0:=hr0.imp_ (fun x c hp => by rw [k27_openM hp];exact k27_mkM _ _ _ _));(have c2 : Reps (k27.M w' w0.heap.size ok) 3 l2 in2:=hr2.imp_ (fun x c hp => by rw [k27_openM hp];exact k27_mkM _ _ _ _));exact Kd.reps_append (Kd.reps_append (Kd.reps_take c0 (by omega)) c2) (Kd.reps_drop c0)
 have hlen : (l0.take i ++ l2 ++ l0.drop i).length = l0.length + l2.length:=by
  simp only [List.length_append,List.length_take,List.length_drop];omega
 have hlin : (in0.take (i * 3) ++ in2 ++ in0.drop (i * 3)).length = (l0.length + l2.length) * 3:=by
  simp only [List.length_append,List.length_take,List.length_drop];omega
 rcases Nat.lt_or_ge co (l0.length + l2.length) with hr|hr
 ·refine (ins_grow g l0.length co i vb l2.length vc cur vcur in0 in2 w hi hm hnc hr (by omega) hco hh hcs htk hl0 hv hvs hvt hl2 h10 h12 _ rfl _ _ _ rfl rfl rfl).mono ?_
  rintro e w' ⟨rfl,hw'⟩;refine ⟨_,rfl,?_⟩;obtain ⟨G,hG⟩ : ∃ G,G = grownCap w (l0.length + l2.length) co 27:=⟨_,rfl⟩;rw [← hG] at hw' ⊢;(have hGn : l0.length + l2.length ≤ G:=by rw [hG];exact grownCap_ge w _ _ _);(have hGm : G ≤ maxLen:=by rw [hG];exact grownCap_le_maxLen w _ _ _ (by unfold maxLen;omega));(have hzs : ∀ k,(Builtin.zeroCells (Value.agg #[(.int .i64 0),(.int .i64 0),(.int .i64 0)]).cells k).size = k * 3:=fun k => ins_zsize (Value.agg #[(.int .i64 0),(.int .i64 0),(.int .i64 0)]) 3 k rfl);obtain ⟨ROW,hR⟩ : ∃ ROW,ROW = (in0.take (i * 3)).toArray ++ Builtin.zeroCells (Value.agg #[(.int .i64 0),(.int .i64 0),(.int .i64 0)]).cells (l0.length + l2.length - i) ++ Builtin.zeroCells (Value.agg #[(.int .i64 0),(.int .i64 0),(.int .i64 0)]).cells (G - (l0.length + l2.length)):=⟨_,rfl⟩;rw [← hR] at hw'
  have hRs : ROW.toList.length = G * 3:=by
   rw [hR,Array.length_toList,Array.size_append,Array.size_append,hzs,hzs];simp only [List.size_toArray,List.length_take,hl0]
   omega
  have hRt : ROW.toList.take (i * 3) = in0.take (i * 3):=by
   rw [hR];simp only [Array.toList_append,List.append_assoc];exact List.take_left' (by rw [List.length_take];omega)
  obtain ⟨X1,hX1⟩ : ∃ X1,X1 = (ROW.toList.take (i * 3) ++ in2 ++ ROW.toList.drop (i * 3 + in2.length)).toArray:=⟨_,rfl⟩;rw [← hX1] at hw';obtain ⟨X2,hX2⟩ : ∃ X2,X2 = (X1.toList.take ((i + l2.length) * 3) ++ in0.drop (i * 3) ++ X1.toList.drop ((i + l2.length) * 3 + (in0.drop (i * 3)).length)).toArray:=⟨_,rfl⟩;rw [← hX2] at hw'
  have e1 : X1.toList.take ((i + l2.length) * 3) = in0.take (i * 3) ++ in2:=by
   rw [hX1,hRt];show (in0.take (i * 3) ++ in2 ++ _).take _ = _;exact List.take_left' (by simp only [List.length_append,List.length_take];omega)
  have hX1l : X1.toList.length = G * 3:=by
   rw [hX1];simp only [List.length_append,List.length_take,List.length_drop,hRs,hl2]
   omega
  have hX2s : X2.size = G * 3:=by
   rw [hX2];simp only [List.size_toArray,List.length_append,List.length_take,List.length_drop,hX1l,hl0]
   omega
  have hX2t : X2.toList.take ((l0.length + l2.length) * 3) = in0.take (i * 3) ++ in2 ++ in0.drop (i * 3):=by
   rw [hX2,e1];show (in0.take (i * 3) ++ in2 ++ in0.drop (i * 3) ++ _).take _ = _;exact List.take_left' (by rw [hlin])
  have hN : (w.drew.alloc (.cells ROW 27)).heap[w.heap.size]? = some (.cells ROW 27 (0,0)):=by simpa using heap_alloc_new w.drew (.cells ROW 27)
  have hN2 : w'.heap[w.heap.size]? = some (.cells X2 27 (0,0)):=by
   rw [hw'];exact setRow_heap _ _ X1 _ _ _ (setRow_heap _ _ ROW _ _ _ hN)
  have hbl : Below w.heap.size w w':=by
   (have h2 : Below w.heap.size w (w.drew.alloc (.cells ROW 27)):=bA_ (b1_ (Below.refl w.heap.size w)) (.cells ROW 27));subst hw';exact ⟨h2.os,h2.tape,h2.output,by simp,fun k hk => (setRow_other _ _ _ _ (by omega)).trans ((setRow_other _ _ _ _ (by omega)).trans (h2.block k hk))⟩
  refine ⟨⟨fun k hk => ?_,in0.take (i * 3) ++ in2 ++ in0.drop (i * 3),?_,hrep _ _⟩,hB.trans (hbl.mono hB.size),Kept.of_below hbl _⟩;(·simp only [Value.ownBlock,Option.some.injEq] at hk;exact .inr (by omega));(·rw [hlen];exact ⟨hlin,.inr ⟨_,G,X2,rfl,hB.size,hN2,hGn,hGm,hX2s,hX2t⟩⟩)
 ·obtain ⟨X1,hX1⟩ : ∃ X1,X1 = (cur.toList.take ((i + l2.length) * 3) ++ in0.drop (i * 3) ++ cur.toList.drop ((i + l2.length) * 3 + (in0.drop (i * 3)).length)).toArray:=⟨_,rfl⟩
  obtain ⟨X2,hX2⟩ : ∃ X2,X2 = (X1.toList.take (i * 3) ++ in2 ++ X1.toList.drop (i * 3 + in2.length)).toArray:=⟨_,rfl⟩;refine (ins_shift g l0.length co i vb l2.length vc cur vcur in0 in2 w hi hm hr hco hne hh hcs htk hl0 hv hvs hvt hl2 h10 h12 X1 X2 hX1 hX2).mono ?_;rintro e w' ⟨rfl,hw'⟩;refine ⟨_,rfl,?_⟩
  have hX1l : X1.toList.length = co * 3:=by
   rw [hX1];simp only [List.length_append,List.length_take,List.length_drop,Array.length_toList,hcs,hl0]
   omega
  have hX2s : X2.size = co * 3:=by
   rw [hX2];simp only [List.size_toArray,List.length_append,List.length_take,List.length_drop,hX1l,hl2]
   omega
  have e0 : X1.toList.take (i * 3) = in0.take (i * 3):=by
   rw [hX1];show (cur.toList.take ((i + l2.length) * 3) ++ in0.drop (i * 3) ++ _).take _ = _;rw [List.append_assoc,List.take_append_of_le_length (by simp only [List.length_take,Array.length_toList,hcs];omega),List.take_take,Nat.min_eq_left (Nat.mul_le_mul_right 3 (Nat.le_add_right i l2.length)),← htk,List.take_take,Nat.min_eq_left (Nat.mul_le_mul_right 3 (Nat.le_of_lt hi))]
  have e1 : X1.toList.drop (i * 3 + in2.length) = in0.drop (i * 3) ++ cur.toList.drop ((i + l2.length) * 3 + (in0.drop (i * 3)).length):=by
   rw [hX1];show (cur.toList.take ((i + l2.length) * 3) ++ in0.drop (i * 3) ++ _).drop _ = _;rw [List.append_assoc];exact List.drop_left' (by simp only [List.length_take,Array.length_toList,hcs,hl2];omega)
  have hX2t : X2.toList.take ((l0.length + l2.length) * 3) = in0.take (i * 3) ++ in2 ++ in0.drop (i * 3):=by
   rw [hX2,e0,e1];show (in0.take (i * 3) ++ in2 ++ (in0.drop (i * 3) ++ _)).take _ = _;rw [← List.append_assoc];exact List.take_left' (by rw [hlin])
  have hN2 : w'.heap[g]? = some (.cells X2 27 (0,0)):=by
   rw [hw'];exact setRow_heap _ _ X1 _ _ _ (setRow_heap _ _ cur _ _ _ hh)
  have hgr : w.grownBy w' (some g):=by
   subst hw';exact ⟨rfl,rfl,rfl,by simp,fun k hk hne => (setRow_other _ _ _ _ (fun e => hne (by rw [e]))).trans (setRow_other _ _ _ _ (fun e => hne (by rw [e])))⟩
  refine ⟨⟨fun k hk => ?_,in0.take (i * 3) ++ in2 ++ in0.drop (i * 3),?_,hrep _ _⟩,hB.grown hgr hB.size (fun k hk => by injection hk with hk;omega),Kept.of_grown hgr (Kept.refl _ _) (fun k hk => ?_)⟩;(·simp only [Value.ownBlock,Option.some.injEq] at hk;exact .inl (.inl (hk ▸ hk0 g rfl)));(·rw [hlen];exact ⟨hlin,.inr ⟨_,co,X2,rfl,hg,hN2,hr,hcm,hX2s,hX2t⟩⟩)
  ·injection hk with hk
   exact .inl (.inl (hk ▸ hk0 g rfl))
def api_Closure_31.f (l0 : List (S27)) (a1 : Int) (l2 : List (S27)) : Option ((List (S27))):=if 0 ≤ a1 then (if a1 ≤ (l0.length : Int) then (if (l2.length : Int) = 0 then (some l0) else (if a1 = (l0.length : Int) then (if l0.length + l2.length < 5864062014805 then (some (l0 ++ l2)) else (none)) else (if l0.length + l2.length < 5864062014805 then (some (l0.take (a1 : Int).toNat ++ l2 ++ l0.drop (a1 : Int).toNat)) else (none)))) else (none)) else (none)
set_option maxHeartbeats 8000000 in
set_option maxRecDepth 100000 in
theorem api_Closure_31.calls (P0_ : Nat → Prop) (u9000_ : Value) (l0 : List (S27)) (a1 : Int) (P2_ : Nat → Prop) (u9001_ : Value) (l2 : List (S27)) (r : List (S27)) (w0 w : World) (hB : Below w0.heap.size w0 w) (ho0 : Kd.R k27 27 w w0.heap.size P0_ u9000_ l0) (hp0_2 : ∀ k_,P0_ k_ → ¬ P2_ k_) (ho2 : Kd.R k27 27 w w0.heap.size P2_ u9001_ l2) (hp2_0 : ∀ k_,P2_ k_ → ¬ P0_ k_) (h : api_Closure_31.f l0 a1 l2 = some r) :
  Calls Try.prog 31 #[u9000_,.int .i64 a1,u9001_] w fun e w' => ∃ v0_ : Value,e = .returned (v0_) ∧ Kd.R k27 27 w' w0.heap.size (fun k_ => ((P0_ k_ ∨ P2_ k_) ∨ w.heap.size ≤ k_)) v0_ r ∧ Below w0.heap.size w0 w' ∧ Kept w w' (fun k_ => P0_ k_ ∨ P2_ k_):=by
 have HX_:=am_ (fun i_ hi_ hm_ hl_ => ins_mid P0_ P2_ u9000_ u9001_ l0 i_ l2 w0 w hB ho0 hp0_2 ho2 hi_ hm_ hl_)
 have HO0:=am_ (show Kd.R k27 27 w w0.heap.size (fun k_ => ((P0_ k_ ∨ P2_ k_) ∨ w.heap.size ≤ k_) ∧ some k_ ≠ (u9001_ : Value).ownBlock) u9000_ l0 from RM_ ho0 (fun k_ hk => ⟨(.inl (.inl hk)),fun e_ => hp0_2 k_ hk (ho2.1 k_ e_.symm)⟩))
 have HO2:=am_ (show Kd.R k27 27 w w0.heap.size (fun k_ => ((P0_ k_ ∨ P2_ k_) ∨ w.heap.size ≤ k_) ∧ some k_ ≠ (u9000_ : Value).ownBlock) u9001_ l2 from RM_ ho2 (fun k_ hk => ⟨(.inl (.inr hk)),fun e_ => hp2_0 k_ hk (ho0.1 k_ e_.symm)⟩))
 have HK:=am_ (Kept.refl w (fun k_ => P0_ k_ ∨ P2_ k_))
 have HW0:=am_ hB.size
 have HB:=am_ hB
 clear hB
 have H : (if 0 ≤ a1 then (if a1 ≤ (l0.length : Int) then (if (l2.length : Int) = 0 then (some l0) else (if a1 = (l0.length : Int) then (if l0.length + l2.length < 5864062014805 then (some (l0 ++ l2)) else (none)) else (if l0.length + l2.length < 5864062014805 then (some (l0.take (a1 : Int).toNat ++ l2 ++ l0.drop (a1 : Int).toNat)) else (none)))) else (none)) else (none)) = some r:=h
 clear h
 by_cases c4 : 0 ≤ a1
 ·rw [if_pos c4] at H
  (have c4b0:=eq_true c4);(have c4b1:=decide_eq_true c4);clear c4
  by_cases c5 : a1 ≤ (l0.length : Int)
  ·rw [if_pos c5] at H
   (have c5b0:=eq_true c5);(have c5b1:=decide_eq_true c5);clear c5;obtain ⟨y122,hy122⟩ : ∃ y_ : List (S27),y_ = (l0.drop (a1 : Int).toNat):=⟨_,rfl⟩;(replace H : (if (l2.length : Int) = 0 then (some l0) else (if a1 = (l0.length : Int) then (if l0.length + l2.length < 5864062014805 then (some (l0 ++ l2)) else (none)) else (if l0.length + l2.length < 5864062014805 then (some (l0.take (a1 : Int).toNat ++ l2 ++ l0.drop (a1 : Int).toNat)) else (none)))) = some r:=by first|(rw [hy122];with_reducible exact H)|(have H2_:=(Option.bind_some _ _).symm.trans H;rw [hy122];with_reducible exact H2_)|(have H2_:=(Option.bind_some _ _).symm.trans H;with_reducible exact H2_)|with_reducible exact H|(rw [hy122];exact H)|exact H);(have Ny122:=am_ hy122);clear hy122
   by_cases c6 : (l2.length : Int) = 0
   ·rw [if_pos c6] at H;((have c6b0 : ((l2.length : Int) == 0) = true:=beq_iff_eq.mpr c6);(have c6b1 : ((l2.length : Int) != 0) = false:=bne_eq_false_iff_eq.mpr c6);clear c6;obtain rfl:=Option.some.inj H;obtain ⟨Ao8,co8,eo8⟩:=RS_ HO0.out;subst eo8;(have q7 : (a1 : Int) ≤ ((l0.length : Int) : Int):=of_decide_eq_true (by first|(with_reducible assumption)|assumption));obtain ⟨i07,hi07,_,hsz7,_⟩:=info_parts info27;(have hroom7 : l0.length ≤ co8:=(RR_ HO0.out).2.1);(have hC7 : Kd.C k27 _ Ao8 l0.length l0:=(RR_ HO0.out).2.2);(have q07 : (0 : Int) ≤ (a1 : Int):=of_decide_eq_true (by first|(with_reducible assumption)|assumption));(have hcut7:=cut_from (P:=Try.prog) 23 27 .i64 Try.underlying23 hi07 3 hsz7 Ao8 l0.length co8 a1 q07 q7);(have hr7:=Kd.C_drop (m:=(a1 : Int).toNat) (c:=co8) hC7 (by omega) hroom7);obtain ⟨A7,hA7⟩ : ∃ A1,A1 = (if co8 = (a1 : Int).toNat then Ao8 else (Ao8 : Option Addr).map (·.add ((a1 : Int).toNat * 3))):=⟨_,rfl⟩;obtain ⟨c7,hc7⟩ : ∃ c1,c1 = co8 - (a1 : Int).toNat:=⟨_,rfl⟩;(have hy7 : y122.length = l0.length - (a1 : Int).toNat:=(by rw [Ny122.out,List.length_drop] <;> omega));rw [show (l0).drop (a1 : Int).toNat = y122 from Ny122.out.symm] at hr7;replace hr7 : Kd.C k27 _ A7 y122.length y122:=(by rw [hA7];exact hr7);rw [← hy7,← hA7,← hc7] at hcut7;(have HR125:=am_ hr7);(have HC125:=am_ (show y122.length ≤ c7 from by rw [hy7,hc7];exact Nat.sub_le_sub_right hroom7 _));clear hr7 hC7 hroom7 hi07 hsz7 hc7;(have KY7:=am_ hy7);(have KA7:=am_ hA7);clear hy7 hA7;(have KL7:=am_ (show (a1 : Int).toNat ≤ l0.length from by omega));replace q7:=eq_true q7;obtain ⟨Ao9,co9,eo9⟩:=RS_ HO2.out;subst eo9;(go_enter Try.func31,Try.ntmps31);(go_wp2);(go_ret);(exact ⟨_,by first|rfl|(simp [errW_none,errW_some] <;> rfl)|(simp [*,errW_none,errW_some] <;> rfl),by (with_reducible repeat (first|apply RA_|apply RN_|apply RD_));exact RM_ HO0.out (fun _ hk => hk.1),by repeat (first|(with_reducible first|exact HB.out|apply bA_|apply bN_|apply b1_)|exact HB.out),by repeat (first|(with_reducible first|exact HK.out|apply Kept.alloc|apply Kept.drewN|apply Kept.drew)|exact HK.out)⟩))
   ·rw [if_neg c6] at H
    (have c6b0 : ((l2.length : Int) == 0) = false:=beq_eq_false_iff_ne.mpr c6);(have c6b1 : ((l2.length : Int) != 0) = true:=bne_iff_ne.mpr c6);(have c6b2 : ¬ (l2 = []):=fun h_ => c6 (by rw [h_];rfl))
    by_cases c10 : a1 = (l0.length : Int)
    ·rw [if_pos c10] at H
     (have c10b0 : (a1 == (l0.length : Int)) = true:=beq_iff_eq.mpr c10);(have c10b1 : (a1 != (l0.length : Int)) = false:=bne_eq_false_iff_eq.mpr c10);clear c10
     by_cases c11 : l0.length + l2.length < 5864062014805
     (·rw [if_pos c11] at H;((have LMc11:=am_ c11);clear c11;obtain ⟨y126,hy126⟩ : ∃ y_ : List (S27),y_ = (l0 ++ l2):=⟨_,rfl⟩;(replace H : (some y126) = some r:=by first|(rw [hy126];with_reducible exact H)|(have H2_:=(Option.bind_some _ _).symm.trans H;rw [hy126];with_reducible exact H2_)|(have H2_:=(Option.bind_some _ _).symm.trans H;with_reducible exact H2_)|with_reducible exact H|(rw [hy126];exact H)|exact H);(have Ny126:=am_ hy126);clear hy126;obtain rfl:=Option.some.inj H;obtain ⟨Ao13,co13,eo13⟩:=RS_ HO0.out;subst eo13;(have q12 : (a1 : Int) ≤ ((l0.length : Int) : Int):=of_decide_eq_true (by first|(with_reducible assumption)|assumption));obtain ⟨i012,hi012,_,hsz12,_⟩:=info_parts info27;(have hroom12 : l0.length ≤ co13:=(RR_ HO0.out).2.1);(have hC12 : Kd.C k27 _ Ao13 l0.length l0:=(RR_ HO0.out).2.2);(have q012 : (0 : Int) ≤ (a1 : Int):=of_decide_eq_true (by first|(with_reducible assumption)|assumption));(have hcut12:=cut_from (P:=Try.prog) 23 27 .i64 Try.underlying23 hi012 3 hsz12 Ao13 l0.length co13 a1 q012 q12);(have hr12:=Kd.C_drop (m:=(a1 : Int).toNat) (c:=co13) hC12 (by omega) hroom12);obtain ⟨A12,hA12⟩ : ∃ A1,A1 = (if co13 = (a1 : Int).toNat then Ao13 else (Ao13 : Option Addr).map (·.add ((a1 : Int).toNat * 3))):=⟨_,rfl⟩;obtain ⟨c12,hc12⟩ : ∃ c1,c1 = co13 - (a1 : Int).toNat:=⟨_,rfl⟩;(have hy12 : y122.length = l0.length - (a1 : Int).toNat:=(by rw [Ny122.out,List.length_drop] <;> omega));rw [show (l0).drop (a1 : Int).toNat = y122 from Ny122.out.symm] at hr12;replace hr12 : Kd.C k27 _ A12 y122.length y122:=(by rw [hA12];exact hr12);rw [← hy12,← hA12,← hc12] at hcut12;(have HR125:=am_ hr12);(have HC125:=am_ (show y122.length ≤ c12 from by rw [hy12,hc12];exact Nat.sub_le_sub_right hroom12 _));clear hr12 hC12 hroom12 hi012 hsz12 hc12;(have KY12:=am_ hy12);(have KA12:=am_ hA12);clear hy12 hA12;(have KL12:=am_ (show (a1 : Int).toNat ≤ l0.length from by omega));replace q12:=eq_true q12;obtain ⟨Ao14,co14,eo14⟩:=RS_ HO2.out;subst eo14;(go_enter Try.func31,Try.ntmps31);(go_wp2_with (first|((with_reducible refine gate_builtin (b:=.append) (xs:=#[.tmp 23,.tmp 24]) rfl ?_);at_builtin;refine Kd.R_append_rows k27 (w0:=w0) w0.heap.size rfl (.tmp 23) (.tmp 24) 23 27 (.agg #[(.int .i64 0),(.int .i64 0),(.int .i64 0)]) 24 rfl Try.underlying23 info27 rfl (by decide) (by omega) (.slice Ao13 l0.length co13) l0 l2 _ _ _ (fun k_ => ((P0_ k_ ∨ P2_ k_) ∨ w.heap.size ≤ k_) ∧ some k_ ≠ (.slice Ao14 l2.length co14 : Value).ownBlock) (fun _ => False) rfl rfl ?aO ?aR (fun _ _ h => h) (fun _ h => h.elim) ?aF ?aB ?aS ?aL ?_;(case aR => repeat (first|exact (RR_ HO2.out).2.2|(with_reducible first|refine CA_ ?_ _|refine CN_ ?_ _|refine CD_ ?_)));(case aB => exact (by repeat (first|(with_reducible first|exact HB.out|apply bA_|apply bN_|apply b1_)|exact HB.out)));(case aF => exact (fun k_ hk => ⟨(.inr (Nat.le_trans (by first|exact HK.out.1|exact (show Kept w _ (fun k_ => P0_ k_ ∨ P2_ k_) from by repeat (first|(with_reducible first|exact HK.out|apply Kept.alloc|apply Kept.drewN|apply Kept.drew)|exact HK.out)).1) hk)),Kd.fresh' (Kd.R_lt (by (with_reducible repeat (first|apply RA_|apply RN_|apply RD_));exact HO2.out)) k_ hk⟩));(case aO => exact (by (with_reducible repeat (first|apply RA_|apply RN_|apply RD_));exact HO0.out));(case aS => exact (bz_ (by repeat (first|(with_reducible first|exact HB.out|apply bA_|apply bN_|apply b1_)|exact HB.out))));(case aL => have:=LMc11.out;omega);intro v127 w15 ho hb hg hat;rw [← Ny126.out] at ho;have n0_:=am_ (Kd.R_after (ok:=(fun k_ => ((P0_ k_ ∨ P2_ k_) ∨ w.heap.size ≤ k_))) (by (with_reducible repeat (first|apply RA_|apply RN_|apply RD_));exact HO2.out) hg hat);have n1_:=am_ (hb);have n2_:=am_ (Kept.of_grown (S:=(fun k_ => P0_ k_ ∨ P2_ k_)) hg (by repeat (first|(with_reducible first|exact HK.out|apply Kept.alloc|apply Kept.drewN|apply Kept.drew)|exact HK.out)) (fun k_ e_ => (HO0.out.1 k_ e_).1));have n3_:=am_ (ho);clear HO2;clear HB;clear HK;clear HO0;have HO2:=n0_;have HB:=n1_;have HK:=n2_;have HO128:=n3_;clear n0_ n1_ n2_ n3_;clear ho hb hg hat)));(go_ret);(exact ⟨_,by first|rfl|(simp [errW_none,errW_some] <;> rfl)|(simp [*,errW_none,errW_some] <;> rfl),by (with_reducible repeat (first|apply RA_|apply RN_|apply RD_));exact RM_ HO128.out (fun _ hk => hk.1),by repeat (first|(with_reducible first|exact HB.out|apply bA_|apply bN_|apply b1_)|exact HB.out),by repeat (first|(with_reducible first|exact HK.out|apply Kept.alloc|apply Kept.drewN|apply Kept.drew)|exact HK.out)⟩)));(·rw [if_neg c11] at H;(simp at H))
    ·rw [if_neg c10] at H
     (have h4_ : 0 ≤ a1:=of_eq_true c4b0);(have h5_ : a1 ≤ (l0.length : Int):=of_eq_true c5b0)
     by_cases cL : l0.length + l2.length < 5864062014805
     (·rw [if_pos cL] at H;obtain rfl:=Option.some.inj H;obtain ⟨i_,hi_⟩:=Int.eq_ofNat_of_zero_le h4_;subst hi_;(simpa only [Int.toNat_natCast] using HX_.out i_ (by omega) (by omega) cL));(·rw [if_neg cL] at H;cases H)
  ·rw [if_neg c5] at H;(simp at H)
 ·rw [if_neg c4] at H;(simp at H)
end Go.Proofs.Ytiohandkjjmemaa.PAll
