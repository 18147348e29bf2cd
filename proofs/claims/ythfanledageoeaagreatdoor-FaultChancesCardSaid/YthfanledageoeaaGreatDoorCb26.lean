/- Loads of a part of a block. Contracts: the probability of the reference. Contracts: Chance. The region theorems with the frame under a name at every operation. -/
import Derived.Test.YthfanledageoeaaGreatDoorCb25
import Derived.Test.YthfanledageoeaaGreatDoorCb10
import Derived.Test.YthfanledageoeaaGreatDoorCb18
set_option linter.unusedVariables false
set_option linter.unusedSimpArgs false
set_option linter.constructorNameAsVariable false
namespace Go.Proofs
open Go.RowKit Go.Tw Go.Flow
/-- The cells from a place on. -/
def Part (w : World) (g off : Nat) (sub : Array Value) : Prop := ∀ k (hk : k < sub.size), w.cell? ⟨g, off + k, none⟩ = some sub[k]
theorem Part.ext {w w' : World} {g off : Nat} {sub : Array Value} (h : Part w g off sub) (hx : Ext w w') : Part w' g off sub := fun k hk => hx.cell (h k hk)
theorem run_loadPart {P : Program} {w : World} {g off : Nat} {cs : Array Value} (h : Part w g off cs) : (loadCells ⟨g, off, none⟩ cs.size).run P w = .ok cs w := by
 have gen : ∀ (n i : Nat) (acc : Array Value), i + n = cs.size → acc.toList = cs.toList.take i → (loadCellsFrom ⟨g, off, none⟩ i n acc).run P w = .ok cs w := by
  intro n
  induction n with
  | zero =>
    intro i acc hi ha
    have : acc = cs := by
     apply Array.toList_inj.1
     rw [ha, List.take_of_length_le (by simp; omega)]
    subst this
    simp [loadCellsFrom]
  | succ n ih =>
    intro i acc hi ha
    have hlt : i < cs.size := by omega
    have h0 := h i hlt
    have ea : (⟨g, off, none⟩ : Addr).add i = ⟨g, off + i, none⟩ := by rw [addr_add]
    rw [loadCellsFrom, ea]
    simp only [Sem.run_bind, load, Sem.run, h0, Result.andThen_ok]
    refine ih (i + 1) _ (by omega) ?_
    rw [Array.toList_push, ha, ← Array.getElem_toList (by simpa using hlt), List.take_append_getElem]
 exact gen cs.size 0 #[] (by omega) (by simp)
theorem run_loadVar_part {P : Program} {w : World} {g off : Nat} {T : TypeId} {cs : Array Value} (h : Part w g off cs) (hA : ∀ w, (isAgg T).run P w = .ok true w) (hS : ∀ w, (sizeOf T).run P w = .ok cs.size w) : (loadVar T ⟨g, off, none⟩).run P w = .ok (.agg cs) w := by
 unfold loadVar
 simp only [Sem.run_bind, hA, Result.andThen_ok, if_true, hS, run_loadPart h, Sem.run_pure]
theorem run_loadOp_part {P : Program} {w : World} {o : Oper} {a : Act} {p : Operand} {T : TypeId} {g off : Nat} {cs : Array Value} (hop : o.op = .load T p) (hA : ∀ w, (isAgg T).run P w = .ok true w) (hS : ∀ w, (sizeOf T).run P w = .ok cs.size w) (hp : a.eval p = .pointer (some ⟨g, off, none⟩)) (h : Part w g off cs) : (execOp a.eval o).run P w = .ok (.value (.agg cs)) w := by
 unfold execOp
 simp only [hop, hp, Instr.loadAt, Instr.sureAddr, Sem.run_bind, Sem.run_pure, Result.andThen_ok, run_loadVar_part h hA hS]
theorem wpList_load_part {P : Program} {w : World} {ops : Array Oper} {rest : List Oper} {o : Oper} {a : Act} {Q : Exit → Act → World → Prop} (hg : o.guard = none) (p : Operand) (T : TypeId) (hop : o.op = .load T p)
    (hA : ∀ w, (isAgg T).run P w = .ok true w) {n : Nat} (hS : ∀ w, (sizeOf T).run P w = .ok n w) {g off : Nat} (hp : a.eval p = .pointer (some ⟨g, off, none⟩)) {cs : Array Value} (hb : Part w g off cs) (hn : cs.size = n)
    (hK : wpList P ops Q rest (a.put o.dst (.agg cs)) w) : wpList P ops Q (o :: rest) a w := by
 subst hn
 refine wpList_plain hg fun K' hK' => ?_
 unfold Oper.wp
 rw [run_loadOp_part hop hA hS hp hb]
 exact hK' _ _ hK
theorem wpListIn_load_part {F : Fence} {n0 : Nat} {P : Program} {w : World} {ops : Array Oper} {rest : List Oper} {o : Oper} {a : Act} {Q : Exit → Act → World → Prop} (hw : Region.wanted o (yielded ops a.tmps) = true) (p : Operand) (T : TypeId) (hop : o.op = .load T p)
    (hA : ∀ w, (isAgg T).run P w = .ok true w) {n : Nat} (hS : ∀ w, (sizeOf T).run P w = .ok n w) {g off : Nat} (hp : a.eval p = .pointer (some ⟨g, off, none⟩)) {cs : Array Value} (hb : Part w g off cs) (hn : cs.size = n)
    (hK : wpListIn F n0 P ops Q rest (a.put o.dst (.agg cs)) w) : wpListIn F n0 P ops Q (o :: rest) a w := by
 subst hn
 refine BigFrame.wpListIn_want hw fun K' hK' => ?_
 unfold Oper.wpIn
 refine ⟨?_, ?_⟩
 · simp [Oper.about, hop]
 · rw [Oper.semAt_plain F _ _ (by rw [hop]; intro c hc'; cases hc'), run_loadOp_part hop hA hS hp hb]
   exact hK' _ _ hK
theorem gives_load_part {P : Program} {K : Value → World → Prop} {o : Oper} {a : Act} {w : World} (p : Operand) (T : TypeId) (ho : o.op = .load T p) (hA : ∀ w, (isAgg T).run P w = .ok true w) {n : Nat} (hS : ∀ w, (sizeOf T).run P w = .ok n w)
    {g off : Nat} (hp : a.eval p = .pointer (some ⟨g, off, none⟩)) {cs : Array Value} (hb : Part w g off cs) (hn : cs.size = n) (h : K (.agg cs) w) : gives P K ((execOp a.eval o).run P w) := by
 subst hn
 rw [run_loadOp_part ho hA hS hp hb]
 exact h
theorem chances_part {w : World} {g : Nat} {T : TypeId} {sz : Int} {fv : Value} {c : List Int} {nb : Int} {gv : Value} (h : Blk w g T (outA sz fv c nb gv)) : Part w g 2 (chA c) := by
 intro k hk
 have hk12 : k < 12 := hk
 have h1 := chA_at c hk12
 rw [Array.getElem?_eq_getElem hk] at h1
 rw [h.cell (2 + k), outA_at sz fv c nb gv hk12, h1]
end Go.Proofs
namespace Go.Proofs
open Go.RowKit Go.Tw Go.Flow
theorem _root_.Go.Tw.Valid.small {t : Tree} (h : Valid t) : Small t.chances := by
 refine ⟨by simpa [Tree.chances] using h.size, fun x hx => ?_⟩
 obtain ⟨i, hi, rfl⟩ := List.mem_map.1 hx
 exact h.chance (List.mem_range.1 hi)
theorem _root_.Go.Tw.Valid.nodes {t : Tree} (h : Valid t) : 1 ≤ t.nodes := by
 have := h.nb
 unfold Tree.nodes; omega
end Go.Proofs
namespace Go.Proofs
open Go.RowKit Go.Tw Go.Flow
def encR (r : Ratio) : Array Value := #[.int .i64 r.num, .int .i64 r.den]
theorem encR_one (r : Ratio) : ∀ u ∈ (encR r).toList, u.oneCell' = true := by
 intro u hu
 simp only [encR, List.mem_cons, List.not_mem_nil, or_false] at hu
 rcases hu with rfl | rfl <;> rfl
theorem results_blk_tmp {P : Program} {fn : Func} {p q : Tmp} {T : TypeId} (h : fn.results = #[.cell p T, .tmp q]) {tmps : Array Value} {w : World} {g : Nat} (ht : tmps.getD p undef = .pointer (some ⟨g, 0, none⟩)) {BT : TypeId} {cs : Array Value} (hb : Blk w g BT cs)
    (hA : ∀ w, (isAgg T).run P w = .ok true w) (hS : ∀ w, (sizeOf T).run P w = .ok cs.size w) {v : Value} (hq : tmps.getD q undef = v) : (results fn tmps).run P w = .ok (.tuple #[.agg cs, v]) w := by
 unfold results
 rw [h]
 simp only [List.mapM_toArray, List.mapM_cons, List.mapM_nil, Sem.run_bind, Sem.run_pure, ht, hq, asAddr]
 simp [run_loadVar_blk hb hA hS]
def chanceR (t : Tree) : Ratio := if t.err = 0 then lowest (weightW t t.chances 0) (powN 16 t.size) else ⟨0, 0⟩
set_option maxRecDepth 100000 in
set_option maxHeartbeats 1000000 in
theorem pChance_any (w : World) (v : Value) (t : Tree) (ht : IsTree w v t) :
    Calls Tryz.prog 27 #[v] w fun e w' => e = .returned (.tuple #[.agg (encR (chanceR t)), .int .i64 t.err]) ∧ Ext w w' := by
 obtain ⟨a, b, c, rfl, h3⟩ := ht
 obtain ⟨A, capa, rfl, hl1, hcap1, _⟩ := h3.basics.opened
 obtain ⟨B, capb, rfl, hl2, hcap2, _⟩ := h3.causes.opened
 obtain ⟨G, capg, rfl, hl3, hcap3, _⟩ := h3.gates.opened
 have HT0 := Lib.hid h3
 clear h3
 go_enter Tryz.func27, Tryz.ntmps27
 go_wp2_with fail
 change Calls _ _ _ ((w.alloc (.cells #[.slice A t.basics.length capa, .slice B t.causes.length capb, .slice G t.gates.length capg] 37)).alloc (.cells #[.int .i64 0, .int .i64 0] 56)) _
 have k0 := Blk.made w 37 #[.slice A t.basics.length capa, .slice B t.causes.length capb, .slice G t.gates.length capg]
 have x0 := Ext.box w (.cells #[.slice A t.basics.length capa, .slice B t.causes.length capb, .slice G t.gates.length capg] 37)
 have es0 : (w.alloc (.cells #[.slice A t.basics.length capa, .slice B t.causes.length capb, .slice G t.gates.length capg] 37)).heap.size = w.heap.size + 1 := by simp
 obtain ⟨X0, hX0⟩ : ∃ X, w.alloc (.cells #[.slice A t.basics.length capa, .slice B t.causes.length capb, .slice G t.gates.length capg] 37) = X := ⟨_, rfl⟩
 rw [hX0] at k0 x0 es0 ⊢
 clear hX0
 have k1 := Blk.made X0 56 #[.int .i64 0, .int .i64 0]
 have x1 := Ext.box X0 (.cells #[.int .i64 0, .int .i64 0] 56)
 have es1 : (X0.alloc (.cells #[.int .i64 0, .int .i64 0] 56)).heap.size = X0.heap.size + 1 := by simp
 obtain ⟨X1, hX1⟩ : ∃ X, X0.alloc (.cells #[.int .i64 0, .int .i64 0] 56) = X := ⟨_, rfl⟩
 rw [hX1] at k1 x1 es1 ⊢
 clear hX1
 replace k0 := k0.ext x1
 have e0 : X0.heap.size = w.heap.size + 1 := by omega
 have e1 : X1.heap.size = w.heap.size + 1 + 1 := by omega
 rw [e0] at k1
 have HXW : Hid (Ext w X1) := by exact (Ext.trans (x0) x1 : Ext w X1)
 have eW : X1.heap.size = w.heap.size + 1 + 1 := e1
 clear x0 es0 e0 x1 es1 e1
 obtain ⟨W, hWW⟩ : ∃ W, X1 = W := ⟨_, rfl⟩
 rw [hWW] at HXW eW ⊢ k0 k1
 clear hWW
 have HT := Lib.hid (HT0.out.ext HXW.out)
 refine (CheckTree_any _ _ t ⟨_, _, _, rfl, HT.out⟩).mono ?_
 rintro e w1 ⟨rfl, hx1⟩
 have kt := k0.ext hx1
 have c0 := kt.cell 0
 have c1 := kt.cell 1
 have c2 := kt.cell 2
 simp only [List.getElem?_toArray, List.getElem?_cons_zero, List.getElem?_cons_succ] at c0 c1 c2
 have HXX := Lib.hid (HXW.out.trans hx1)
 have HX1 := Lib.hid hx1
 clear kt hx1
 have hbr := k1.ext HX1.out
 clear k0 k1
 by_cases he : t.err = 0
 · have HR : Hid (chanceR t = lowest (weightW t t.chances 0) (powN 16 t.size)) := by exact (by unfold chanceR; rw [if_pos he] : chanceR t = lowest (weightW t t.chances 0) (powN 16 t.size))
   have hV := Valid.of he
   have HV := Lib.hid hV
   have HE0 := Lib.hid he
   have hsz := hV.size
   have hne : (t.err != 0) = false := by simp [he]
   clear he hV
   go_wp2_with fail
   refine (nodes_any _ _ t HV.out ⟨_, _, _, rfl, HT.out.ext HX1.out⟩).mono ?_
   rintro e w2 ⟨fv, gv, rfl, hn, hx2⟩
   obtain ⟨A1, cap1, rfl, _, _, _⟩ := hn.fails.opened
   obtain ⟨A2, cap2, rfl, _, _, _⟩ := hn.gates.opened
   rw [masks_len] at hn ⊢
   have HN := Lib.hid hn
   have HX2 := Lib.hid hx2
   clear hn hx2 c0 c1 c2
   replace hbr := hbr.ext HX2.out
   have hbl := hbr.lt
   go_wp2_with (first | (refine wpList_load_blk rfl _ 110 rfl Tryz.aggNodes Tryz.sizeNodes rfl hb9 rfl ?_) | (refine wpList_load_part rfl _ 105 rfl Tryz.aggCh Tryz.sizeCh rfl (chances_part hb9) rfl ?_) | (refine wpList_store_blk rfl _ _ 110 rfl Tryz.sizeNodes rfl rfl (Blk.made _ _ _) rfl rfl ?_ ?_; (focus (intro u hu; simp [outA] at hu; rcases hu with rfl | rfl | rfl | rfl | rfl | rfl | rfl | rfl | rfl | rfl | rfl | rfl | rfl | rfl | rfl | rfl <;> rfl)); intro w9 hb9 hl9 ho9) | fail)
   have hx9 : Ext w2 w9 := Below.trans (Ext.box w2 _) (hl9 _ (Nat.le_refl _))
   have HXX9 : Hid (Ext w w9) := by exact (HXX.out.trans HX2.out).trans hx9
   have HN9 := Lib.hid (HN.out.ext hx9)
   replace hbr := hbr.ext hx9
   clear hl9 ho9 hb9 hx9
   refine (probability_any _ _ _ t t.chances t.chances HV.out HN9.out HV.out.small (by unfold Tree.chances; simp)).mono ?_
   rintro e w3 ⟨rfl, hx3⟩
   replace hbr := hbr.ext hx3
   go_wp2_with (refine wpList_store_blk rfl _ _ _ rfl Tryz.sizeRat rfl rfl hbr rfl rfl ?_ ?_; (focus (exact ratA_one _ _)); intro w8 hb8 hl8 ho8)
   refine bodyPost_ret (results_blk_tmp Tryz.results27 rfl hb8 Tryz.aggRat Tryz.sizeRat rfl) rfl ?_
   exact ⟨by rw [HR.out, HE0.out]; rfl, Below.trans (HXX9.out.trans hx3) (hl8 _ (by omega))⟩
 · have HR : Hid (chanceR t = ⟨0, 0⟩) := by exact (by unfold chanceR; rw [if_neg he] : chanceR t = ⟨0, 0⟩)
   have hne : (t.err != 0) = true := by simp [he]
   clear he
   go_wp2_with (refine wpList_store_blk rfl _ _ _ rfl Tryz.sizeRat rfl rfl hbr rfl rfl ?_ ?_; (focus (exact encR_one ⟨0, 0⟩)); intro w8 hb8 hl8 ho8)
   refine bodyPost_ret (results_blk_tmp Tryz.results27 rfl hb8 Tryz.aggRat Tryz.sizeRat rfl) rfl ?_
   exact ⟨by rw [HR.out]; rfl, Below.trans HXX.out (hl8 _ (by omega))⟩
end Go.Proofs
namespace Go.Flow
open Go.RowKit Go.Tw
def OwedB (P : Program) (ops : Array Oper) (pre : Nat → List Nat) (tail : List Nat) (w0 : World) (D : Nat → (Nat → Value) → World → Prop) : List ((Nat → Value) → World → World → Prop) → ((Nat → Value) → World → World → Prop) → List Oper → List Kind → List Nat → ((Nat → Value) → Act) → Prop
 | El, T, o :: l, k :: kl, j :: jl, b =>
   match k, El with
   | .last, E :: El => (∀ v w1, Ext w0 w1 → Facts pre D v w1 ((pre j).filter fun i => !tail.contains i) (∀ w, T v w1 w → ∀ bb, bb = b v → Guarded ops o bb (Due P pre D E .last o j bb v w1 w) (Pass pre D E .last j v w1 w))) ∧
      OwedB P ops pre tail w0 D El (fun v w1 w => E (mask pre j v) w1 w) l kl jl (fun v => (b v).put o.dst (v j))
   | .last, [] => False
   | k, El => (∀ v w1, Ext w0 w1 → Facts pre D v w1 (pre j) (∀ bb, bb = b v → Guarded ops o bb (Due P pre D (fun _ _ _ => False) k o j bb v w1 w1) (Pass pre D (fun _ _ _ => False) k j v w1 w1))) ∧ OwedB P ops pre tail w0 D El T l kl jl (fun v => (b v).put o.dst (v j))
 | _, _, _, _, _, _ => True
theorem facts_mono {pre : Nat → List Nat} {D : Nat → (Nat → Value) → World → Prop} {v : Nat → Value} {w : World} {G G' : Prop} (h : G → G') : ∀ {l : List Nat}, Facts pre D v w l G → Facts pre D v w l G'
 | [], hg => h hg
 | _ :: _, hg => fun hd => facts_mono h (hg hd)
theorem owed_of {P : Program} {ops : Array Oper} {pre : Nat → List Nat} {tail : List Nat} {w0 : World} {D : Nat → (Nat → Value) → World → Prop} : ∀ (l : List Oper) (kl : List Kind) (jl : List Nat) (El : List ((Nat → Value) → World → World → Prop)) (T : (Nat → Value) → World → World → Prop) (b : (Nat → Value) → Act),
    OwedB P ops pre tail w0 D El T l kl jl b → Owed P ops pre tail w0 D El T l kl jl b
 | [], _, _, _, _, _, _ => by simp [Owed]
 | _ :: _, [], _, _, _, _, _ => by simp [Owed]
 | _ :: _, _ :: _, [], _, _, _, _ => by simp [Owed]
 | o :: l, .last :: kl, j :: jl, E :: El, T, b, h => ⟨h.1, owed_of l kl jl El _ _ h.2⟩
 | o :: l, .last :: kl, j :: jl, [], T, b, h => h
 | o :: l, .plain :: kl, j :: jl, El, T, b, h => ⟨fun v w1 hx => facts_mono (fun hg => hg _ rfl) (h.1 v w1 hx), owed_of l kl jl El _ _ h.2⟩
 | o :: l, .world :: kl, j :: jl, El, T, b, h => ⟨fun v w1 hx => facts_mono (fun hg => hg _ rfl) (h.1 v w1 hx), owed_of l kl jl El _ _ h.2⟩
section
variable {P : Program} {ops : List Oper} {id : Nat} {Q : Exit → Act → World → Prop} {a0 : Act} {w : World}
theorem regionB (kl : List Kind) (jl : List Nat) (pl : List (List Nat)) (tail : List Nat) (Dl : List Spec) (El : List ((Nat → Value) → World → World → Prop))
    (hm : P.follows .mixedOrders = true) (hjl : jl = List.range' 0 ops.length) (hok : okL ops pl kl tail El.length = true)
    (hvc : OwedB P ops.toArray (lookup pl []) tail w.drew (fun k => (lookup Dl .none k).D) El (fun _ w1 w => w = w1) ops kl jl (fun _ => a0))
    (hpost : ∀ v w1, Ext w.drew w1 → All (lookup pl []) (fun k => (lookup Dl .none k).D) v w1 tail jl (∀ w', endOf (lookup pl []) v w1 w' tail El → Q .normal (acts v ops jl a0) w')) :
    (Code.region id ops.toArray true).wp P Q a0 w := region kl jl pl tail Dl El hm hjl hok (owed_of _ _ _ _ _ _ hvc) hpost
theorem regionB0 (kl : List Kind) (jl : List Nat) (pl : List (List Nat)) (Dl : List Spec)
    (hm : P.follows .mixedOrders = true) (hjl : jl = List.range' 0 ops.length) (hok : okL ops pl kl [] 0 = true)
    (hvc : OwedB P ops.toArray (lookup pl []) [] w.drew (fun k => (lookup Dl .none k).D) [] (fun _ w1 w => w = w1) ops kl jl (fun _ => a0))
    (hpost : ∀ v w1, Ext w.drew w1 → All (lookup pl []) (fun k => (lookup Dl .none k).D) v w1 [] jl (Q .normal (acts v ops jl a0) w1)) :
    (Code.region id ops.toArray true).wp P Q a0 w := region0 kl jl pl Dl hm hjl hok (owed_of _ _ _ _ _ _ hvc) hpost
theorem regionIB0 {l n : Nat} (kl : List Kind) (jl : List Nat) (pl : List (List Nat)) (Dl : List Spec)
    (hm : P.follows .mixedOrders = true) (hnd : noDefer ops = true) (hjl : jl = List.range' 0 ops.length) (hok : okL ops pl kl [] 0 = true)
    (hvc : OwedB P ops.toArray (lookup pl []) [] w.drew (fun k => (lookup Dl .none k).D) [] (fun _ w1 w => w = w1) ops kl jl (fun _ => a0))
    (hpost : ∀ v w1, Ext w.drew w1 → All (lookup pl []) (fun k => (lookup Dl .none k).D) v w1 [] jl (Q .normal (acts v ops jl a0) w1)) :
    (Code.region id ops.toArray true).wpIn (rnd l) n P Q a0 w := regionI0 kl jl pl Dl hm hnd hjl hok (owed_of _ _ _ _ _ _ hvc) hpost
end
end Go.Flow
