/- Contracts: the reference's Cuts, Paths, Single, CheckSet, CheckSets, contains, CheckCuts. The contract of the reference's weight. The contract of the reference's Lowest. Contracts: chances with others in their place, probabilities. Contracts: probabilities of the reference. The last operations of a region: the frame under a name, its slots looked up one by one (to reckon the frame out runs away). Contract: a gate's mask and need. -/
import Derived.Test.YthfanledageoeaaGreatDoorFs13
import Derived.Test.YthfanledageoeaaGreatDoorFs05
import Derived.Test.YthfanledageoeaaGreatDoorFs10
import Derived.Shelf.Abstract
set_option linter.unusedVariables false
set_option linter.unusedSimpArgs false
set_option linter.constructorNameAsVariable false
namespace Go.Proofs
open Go.RowKit Go.Tw Go.Flow
set_option maxHeartbeats 400000 in
theorem Cuts_any (w : World) (v : Value) (t : Tree) (hfit : Fit t) (hn : 1 ≤ t.nodes) (hs : t.size ≤ 12) (ht : IsTree w v t) :
    Calls Tryz.prog 16 #[v] w fun e w' => ∃ x, e = .returned x ∧ IsIntss w' x (t.sets false) ∧ Ext w w' := by
 obtain ⟨a, b, c, rfl, h3⟩ := ht
 have hw := Ext.box w (.cells #[a, b, c] 26)
 have HT := Lib.hid (h3.ext hw)
 have HF := Lib.hid hfit
 clear h3 hfit
 go_enter Tryz.func16, Tryz.ntmps16
 go_wp2_with fail
 refine (sets_any _ _ t false HF.out hn hs ⟨_, _, _, rfl, HT.out⟩).mono ?_
 rintro e w1 ⟨x, rfl, h, hx⟩
 go_wp2
 go_ret
 exact ⟨_, rfl, h, hw.trans hx⟩
set_option maxHeartbeats 400000 in
theorem Paths_any (w : World) (v : Value) (t : Tree) (hfit : Fit t) (hn : 1 ≤ t.nodes) (hs : t.size ≤ 12) (ht : IsTree w v t) :
    Calls Tryz.prog 17 #[v] w fun e w' => ∃ x, e = .returned x ∧ IsIntss w' x (t.sets true) ∧ Ext w w' := by
 obtain ⟨a, b, c, rfl, h3⟩ := ht
 have hw := Ext.box w (.cells #[a, b, c] 26)
 have HT := Lib.hid (h3.ext hw)
 have HF := Lib.hid hfit
 clear h3 hfit
 go_enter Tryz.func17, Tryz.ntmps17
 go_wp2_with fail
 refine (sets_any _ _ t true HF.out hn hs ⟨_, _, _, rfl, HT.out⟩).mono ?_
 rintro e w1 ⟨x, rfl, h, hx⟩
 go_wp2
 go_ret
 exact ⟨_, rfl, h, hw.trans hx⟩
def singleTo (t : Tree) (n : Nat) : List Int := ((List.range n).map Int.ofNat).filter fun x => t.fails (evL [x])
theorem singleTo_succ (t : Tree) (n : Nat) : singleTo t (n + 1) = singleTo t n ++ if t.fails (evL [(n : Int)]) then [(n : Int)] else [] := by
 unfold singleTo
 rw [List.range_succ, List.map_append, List.filter_append]
 cases h : t.fails (evL [(n : Int)]) <;> simp [h]
theorem singleTo_len (t : Tree) (n : Nat) : (singleTo t n).length ≤ n := by
 unfold singleTo; exact Nat.le_trans (List.length_filter_le _ _) (by simp)
set_option maxRecDepth 100000 in
set_option maxHeartbeats 400000 in
theorem Single_any (w : World) (v : Value) (t : Tree) (hfit : Fit t) (hn : 1 ≤ t.nodes) (hs : t.size ≤ 100000) (ht : IsTree w v t) :
    Calls Tryz.prog 18 #[v] w fun e w' => ∃ x, e = .returned x ∧ IsInts w' x t.single ∧ Ext w w' := by
 obtain ⟨i0, hi, hz0, hz1, hz2⟩ := info_parts Tryz.info3
 obtain ⟨a, b, c, rfl, h3⟩ := ht
 have hw := Ext.box w (.cells #[a, b, c] 26)
 have c0 := cell_new w #[a, b, c] 26 0
 have c1 := cell_new w #[a, b, c] 26 1
 have c2 := cell_new w #[a, b, c] 26 2
 have HT := Lib.hid (h3.ext hw)
 have HF := Lib.hid hfit
 clear h3 hfit
 go_enter Tryz.func18, Tryz.ntmps18
 go_wp2
 obtain ⟨W, hW⟩ : ∃ W, w.alloc (.cells #[a, b, c] 26) = W := ⟨_, rfl⟩
 rw [hW] at c0 c1 c2 hw HT ⊢
 simp only [List.getElem?_toArray, List.getElem?_cons_zero, List.getElem?_cons_succ] at c0 c1 c2
 clear hW
 go_loopw [3, 4] (fun o i wr => ∃ (k : Nat), k ≤ t.size ∧ i = .int .i64 k ∧ Own1 wr W.heap.size 3 (.int .i64) o (singleTo t k) ∧ Ext W wr) (fun _ i _ => t.size - (intOf i).toNat)
 case atStart => exact ⟨0, Nat.zero_le _, rfl, Own1.nil _ _ _ _, Ext.refl _⟩
 case round =>
  obtain ⟨k, hk, rfl, hown, hx⟩ := hrel
  have d0 := hx.cell c0
  have d1 := hx.cell c1
  have d2 := hx.cell c2
  clear c0 c1 c2
  have hle := singleTo_len t k
  go_wp2_with fail
  refine (Size_any _ _ t ⟨_, _, _, rfl, HT.out.ext hx⟩).mono ?_
  rintro e w1 ⟨rfl, hx1⟩
  replace hown := hown.below hx1
  have hx' := hx.trans hx1
  replace d0 := hx1.cell d0
  replace d1 := hx1.cell d1
  replace d2 := hx1.cell d2
  clear hx hx1
  by_cases hlt : k < t.size
  · have hmk := IsInts.made w1 [(k : Int)] 3 (by simp)
    have HMK := Lib.hid hmk
    clear hmk
    go_wp2_with fail
    refine (Fails_any _ _ _ t [(k : Int)] HF.out hn ⟨_, _, _, rfl, HT.out.ext (hx'.alloc _)⟩ HMK.out).mono ?_
    rintro e w2 ⟨rfl, hx2⟩
    replace hown := (hown.below (Ext.box _ _)).below hx2
    replace hx' := (hx'.alloc _).trans hx2
    clear hx2 HMK
    cases hf : t.fails (evL [(k : Int)]) with
    | false =>
      go_wp2
      go_roundw
      case rel => exact ⟨k + 1, by omega, by go_num, by rw [singleTo_succ, hf]; simpa using hown, hx'⟩
      case measure => simp [intOf]; omega
    | true =>
      go_wp2_with (at_builtin; refine wpList_append_own _ rfl _ _ 39 rfl (W.heap.size) 3 i0 (.int .i64 0) 1 8 Tryz.underlying39 hi hz0 hz1 hz2 rfl (by decide) _ _ _ rfl (World.ownsRow.alloc hown _) ⟨w2.heap.size, 0, none⟩ 1 1 [.int .i64 k] rfl rfl ?_ ?_ ?_ ?_ ?_ ?_; exact one_new _ _ _; (focus (simp [Value.oneCell'])); (focus (unfold maxLen; omega)); (focus omega); (focus (have := hx'.size; simp at this ⊢; omega)); intro v' w1 hown' hgrow _)
      have hx2 := ext_grown hx' hown (Nat.le_refl _) hgrow
      go_roundw
      case rel => exact ⟨k + 1, by omega, by go_num, by rw [singleTo_succ, hf]; exact Own1.snoc hown', hx2⟩
      case measure => simp [intOf]; omega
  · go_wp2
    go_ret
    exact ⟨_, rfl, by rw [show t.single = singleTo t k from by rw [show k = t.size from by omega]; rfl]; exact hown.ints (by omega), hw.trans hx'⟩
end Go.Proofs
namespace Go.Proofs
open Go.RowKit Go.Tw Go.Flow
theorem evL_bits {s : Nat} (hs : s < 65536) : evL (bitsOf s) = evN s := by
 funext i
 unfold evL evN has bitsOf
 rw [Bool.eq_iff_iff]
 simp only [List.contains_iff_mem, List.mem_map, List.mem_filter, List.mem_range]
 constructor
 · rintro ⟨a, ⟨_, h⟩, he⟩
   have : a = i := by have : (a : Int) = (i : Int) := he; omega
   rw [← this]; exact h
 · intro h
   refine ⟨i, ⟨?_, h⟩, rfl⟩
   rcases Nat.lt_or_ge i 16 with h' | h'
   · exact h'
   · rw [Nat.testBit_lt_two_pow (Nat.lt_of_lt_of_le hs (Nat.pow_le_pow_right (n := 2) (by omega) h'))] at h
     cases h
/-- Chances of at most twelve events. -/
structure Small (c : List Int) : Prop where
 len : c.length ≤ 12
 range : ∀ x ∈ c, 0 ≤ x ∧ x ≤ 16
theorem Small.ix {c : List Int} (h : Small c) {j : Nat} (hj : j < c.length) : 0 ≤ ix c j ∧ ix c j ≤ 16 := by
 rw [ix_eq hj]; exact h.range _ (List.getElem_mem hj)
theorem Small.factor {c : List Int} (h : Small c) (s : Nat) {j : Nat} (hj : j < c.length) : 0 ≤ factor c s j ∧ factor c s j ≤ 16 := by
 have := h.ix hj
 unfold Tw.factor
 split <;> omega
theorem partTo_bd {c : List Int} (h : Small c) (s : Nat) : ∀ j, j ≤ c.length → 0 ≤ partTo c s j ∧ partTo c s j ≤ 16 ^ j
 | 0, _ => by simp [partTo]
 | j + 1, hj => by
   obtain ⟨h1, h2⟩ := partTo_bd h s j (by omega)
   obtain ⟨h3, h4⟩ := h.factor s (show j < c.length by omega)
   unfold partTo
   refine ⟨Int.mul_nonneg h1 h3, ?_⟩
   rw [Int.pow_succ]
   exact Int.mul_le_mul h2 h4 h3 (Int.le_trans h1 h2)
theorem pow16_le {j : Nat} (h : j ≤ 12) : (16 : Int) ^ j ≤ 281474976710656 := by
 have : (16 : Nat) ^ j ≤ 16 ^ 12 := Nat.pow_le_pow_right (by omega) h
 have h2 : ((16 ^ j : Nat) : Int) ≤ ((16 ^ 12 : Nat) : Int) := by exact_mod_cast this
 simpa using h2
theorem partTo_le {c : List Int} (h : Small c) (s : Nat) {j : Nat} (hj : j ≤ c.length) : 0 ≤ partTo c s j ∧ partTo c s j ≤ 281474976710656 := by
 have := partTo_bd h s j hj
 have h2 := pow16_le (show j ≤ 12 from Nat.le_trans hj h.len)
 omega
end Go.Proofs
namespace Go.Proofs
open Go.RowKit Go.Tw Go.Flow
theorem gcd_step (a b : Int) (h0 : 0 ≤ a) (hb : 0 < b) : Int.gcd b (a.tmod b) = Int.gcd a b := by
 obtain ⟨n, rfl⟩ := Int.eq_ofNat_of_zero_le h0
 obtain ⟨m, rfl⟩ := Int.eq_ofNat_of_zero_le (Int.le_of_lt hb)
 show Nat.gcd m (n % m) = Nat.gcd n m
 rw [Nat.gcd_comm n m, Nat.gcd_comm m, ← Nat.gcd_rec]
theorem Ext.frozen {a b : World} (h : Ext a b) {p : Addr} (hp : p.block < a.heap.size) : b.frozen? p = a.frozen? p := by
 obtain ⟨_, _, _, _, h5⟩ := h
 unfold World.frozen?; rw [h5 _ hp]
theorem wrap_in {n : Int} (h1 : -9223372036854775808 ≤ n) (h2 : n ≤ 9223372036854775807) : IntKind.i64.wrap n = n := by
 simp only [IntKind.wrap, IntKind.bits, IntKind.signed, Bool.true_and, decide_eq_true_eq, ge_iff_le]
 split <;> omega
theorem frozen_new (w : World) (cs : Array Value) (e : TypeId) (i : Nat) : (w.alloc (.cells cs e)).frozen? ⟨w.heap.size, i, none⟩ = false := by
 have h : (w.alloc (.cells cs e)).heap[w.heap.size]? = some (.cells cs e) := by show (w.heap.push _)[_]? = _; simp
 unfold World.frozen?; rw [h]; simp
end Go.Proofs
namespace Go.Proofs
open Go.RowKit Go.Tw Go.Flow
theorem _root_.Go.Tw.Own1.spot {w : World} {base : Nat} {e : TypeId} {v : Value} {l : List Int} (h : Own1 w base e (Value.int .i64) v l) (h0 : 0 < l.length) :
    ∃ g cap, v = .slice (some ⟨g, 0, none⟩) l.length cap ∧ base ≤ g ∧ l.length ≤ cap := by
 rcases h.2 with ⟨rfl, hn⟩ | ⟨g, cap, cur, hv, hb, hg, hc, _⟩
 · omega
 · exact ⟨g, cap, hv, hb, hc⟩
theorem _root_.Go.Tw.Own1.at {w : World} {base : Nat} {e : TypeId} {g cap n : Nat} {l : List Int} (h : Own1 w base e (Value.int .i64) (.slice (some ⟨g, 0, none⟩) n cap) l) {j : Nat} (hj : j < l.length) :
    w.cell? ⟨g, j, none⟩ = some (.int .i64 (ix l j)) ∧ w.frozen? ⟨g, j, none⟩ = false := by
 rcases h.2 with ⟨hv, hn⟩ | ⟨g', cap', cur, hv, hb, hg, hc, hm, hs, ht⟩
 · cases hv
 · injection hv with h1 h2 h3
   injection h1 with h1
   injection h1 with h1
   subst h1
   have h1 := congrArg (fun l => l[j]?) ht
   simp only [Nat.mul_one, List.getElem?_take, hj, if_true, List.getElem?_map, List.getElem?_eq_getElem hj, Option.map_some] at h1
   refine ⟨?_, ?_⟩
   · rw [ix_eq hj]; simp only [World.cell?, hg]; simpa using h1
   · unfold World.frozen?; rw [hg]; simp
theorem _root_.Go.Tw.Own1.set {w : World} {base : Nat} {e : TypeId} {g cap n : Nat} {l : List Int} (h : Own1 w base e (Value.int .i64) (.slice (some ⟨g, 0, none⟩) n cap) l) {j : Nat} (x : Int) :
    Own1 (w.setCell ⟨g, j, none⟩ (.int .i64 x)) base e (Value.int .i64) (.slice (some ⟨g, 0, none⟩) n cap) (l.set j x) := by
 refine ⟨by simp, ?_⟩
 rcases h.2 with ⟨hv, hn⟩ | ⟨g', cap', cur, hv, hb, hg, hc, hm, hs, ht⟩
 · cases hv
 · injection hv with h1 h2 h3
   injection h1 with h1
   injection h1 with h1
   subst h1 h3
   refine .inr ⟨g, cap, cur.setIfInBounds j (.int .i64 x), by rw [List.length_set, h2], hb, ?_, by simpa using hc, hm, by simpa using hs, ?_⟩
   · simp only [World.setCell, Array.getElem?_modify, if_true, hg, Option.map_some]; rfl
   · rw [Array.toList_setIfInBounds, List.take_set, List.length_set, ht, List.map_set]
def withTo (c l : List Int) (n : Int) (k : Nat) : List Int := (List.range c.length).map fun (i : Nat) => if has (l.take k) i then n else ix c i
end Go.Proofs
namespace Go.Proofs
open Go.RowKit Go.Tw Go.Flow
theorem stored2 {W : World} {g : Nat} {x y u0 u1 : Value} (h0 : W.cell? ⟨g, 0, none⟩ = some u0) (h1 : W.cell? ⟨g, 1, none⟩ = some u1) :
    ((W.setCell ⟨g, 0, none⟩ x).setCell ⟨g, 1, none⟩ y).cell? ⟨g, 0, none⟩ = some x ∧ ((W.setCell ⟨g, 0, none⟩ x).setCell ⟨g, 1, none⟩ y).cell? ⟨g, 1, none⟩ = some y := by
 refine ⟨Eq.trans (World.cell?_setCell_other _ _ _ _ ?_) (World.cell?_setCell_same _ _ _ h0), World.cell?_setCell_same _ _ _ (Eq.trans (World.cell?_setCell_other _ _ _ _ ?_) h1)⟩
 · intro h; cases h
 · intro h; cases h
theorem _root_.Go.Tw.Ext.stored2 {w W : World} (h : Ext w W) {g : Nat} (hg : w.heap.size ≤ g) (x y : Value) : Ext w ((W.setCell ⟨g, 0, none⟩ x).setCell ⟨g, 1, none⟩ y) :=
 (h.setCell (p := ⟨g, 0, none⟩) hg x).setCell (p := ⟨g, 1, none⟩) hg y
/-- A result of two numbers has its cells at a block. -/
structure Res (w : World) (g : Nat) : Prop where
 c0 : w.cell? ⟨g, 0, none⟩ = some (.int .i64 0)
 c1 : w.cell? ⟨g, 1, none⟩ = some (.int .i64 0)
 f0 : w.frozen? ⟨g, 0, none⟩ = false
 f1 : w.frozen? ⟨g, 1, none⟩ = false
theorem Res.ext {w w' : World} {g : Nat} (h : Res w g) (hx : Ext w w') : Res w' g :=
 have hb := World.block_lt_of_cell? w _ h.c0
 ⟨hx.cell h.c0, hx.cell h.c1, (hx.frozen (p := ⟨g, 0, none⟩) hb).trans h.f0, (hx.frozen (p := ⟨g, 1, none⟩) hb).trans h.f1⟩
theorem Res.new (w : World) (T : TypeId) : Res (w.alloc (.cells #[.int .i64 0, .int .i64 0] T)) w.heap.size :=
 ⟨cell_new w #[.int .i64 0, .int .i64 0] T 0, cell_new w #[.int .i64 0, .int .i64 0] T 1, frozen_new _ _ _ _, frozen_new _ _ _ _⟩
theorem Res.new1 (w : World) (o : Obj) (T : TypeId) : Res ((w.alloc o).alloc (.cells #[.int .i64 0, .int .i64 0] T)) (w.heap.size + 1) := by
 have h := Res.new (w.alloc o) T
 have e : (w.alloc o).heap.size = w.heap.size + 1 := by show (w.heap.push _).size = _; rw [Array.size_push]
 rwa [e] at h
end Go.Proofs
namespace Go.Flow
open Go.RowKit Go.Tw
theorem eval_put_ne {a : Act} {d : Tmp} {u : Value} {t : Tmp} (h : d ≠ t) : (a.put (some d) u).eval (.tmp t) = a.eval (.tmp t) := by
 show (a.tmps.setIfInBounds d u).getD t undef = a.tmps.getD t undef
 simp only [Array.getD_eq_getD_getElem?, Array.getElem?_setIfInBounds_ne h]
theorem size_put {a : Act} {d : Option Tmp} {u : Value} : (a.put d u).tmps.size = a.tmps.size := put_size a d u
theorem eval_put_eq {a : Act} {u : Value} {t : Tmp} (h : t < a.tmps.size) : (a.put (some t) u).eval (.tmp t) = u := by
 show (a.tmps.setIfInBounds t u).getD t undef = u
 simp [Array.getD_eq_getD_getElem?, h]
end Go.Flow
namespace Go.Proofs
open Go.RowKit Go.Tw Go.Flow
def gtV (m : Nat) (q : Int) : Value := .agg #[.int .i64 m, .int .i64 q]
def kindF (k : ByteArray) : Nat := if k = sAnd then 144 else if k = sOr then 145 else 146
theorem find_kind {k : ByteArray} (h : kindB k = true) (z : Value) : (findS k kindsL).getD z = kv (kindF k) := by
 unfold kindsL findS kindF
 by_cases h1 : k = sAnd
 · rw [if_pos (str_eq h1), if_pos h1]; rfl
 · rw [str_ne h1, if_neg (by simp), if_neg h1]
   unfold findS
   by_cases h2 : k = sOr
   · rw [if_pos (str_eq h2), if_pos h2]; rfl
   · rw [str_ne h2, if_neg (by simp), if_neg h2]
     unfold findS
     have h3 : k = sVote := by
      unfold kindB at h
      rw [str_ne h1, str_ne h2] at h
      exact str_beq (by simpa using h)
     rw [if_pos (str_eq h3)]; rfl
theorem run_field_kind (f : Nat) (w : World) : (Instr.field 169 (.agg #[.func (.func f) #[] #[]]) 0).run Tryz.prog w = .ok (.func (.func f) #[] #[]) w := by kernel_rfl
theorem enters_kind (k : ByteArray) (args : Array Value) (w : World) : (callFunc (kindF k) args).run Tryz.prog w = .ok (.enter (kindF k) args) w := by
 unfold kindF
 split
 · exact enters_of Tryz.func144 (by kernel_rfl) rfl _ _
 · split
   · exact enters_of Tryz.func145 (by kernel_rfl) rfl _ _
   · exact enters_of Tryz.func146 (by kernel_rfl) rfl _ _
theorem kindF_any (k : ByteArray) (w : World) (kv v : Value) (n : Int) (l : List Int) (hv : IsInts w v l) :
    Calls Tryz.prog (kindF k) #[.agg #[kv, .int .i64 n, v]] w fun e w' => e = .returned (.int .i64 (needOf k n l.length)) ∧ Ext w w' := by
 unfold kindF needOf
 by_cases h1 : k = sAnd
 · rw [if_pos h1, if_pos h1]; exact kind1_any _ _ _ _ _ hv
 · rw [if_neg h1, if_neg h1]
   by_cases h2 : k = sOr
   · rw [if_pos h2, if_pos h2]; exact kind2_any _ _ _ _
   · rw [if_neg h2, if_neg h2]; exact kind3_any _ _ _ _
/-- The store of a gate's two numbers, inside a region. -/
theorem gives_storeG {K : Value → World → Prop} {o : Oper} {a : Act} {w : World} (p x : Operand) (ho : o.op = .store 166 p x) (g : Nat) (hp : a.eval p = .pointer (some ⟨g, 0, none⟩)) (m : Nat) (q : Int) (hx : a.eval x = gtV m q) (R : Res w g)
    (h : ∀ v w', w' = (w.setCell ⟨g, 0, none⟩ (.int .i64 m)).setCell ⟨g, 1, none⟩ (.int .i64 q) → K v w') : gives Tryz.prog K ((execOp a.eval o).run Tryz.prog w) := by
 obtain ⟨r0, r1, f0, f1⟩ := R
 rw [gtV] at hx
 unfold execOp
 simp only [ho, hp, hx]
 go_simp
 exact h _ _ rfl
set_option maxRecDepth 100000 in
set_option maxHeartbeats 1000000 in
theorem node1_any (w : World) (k : ByteArray) (iv : Value) (n : Int) (l : List Int) (B b : Nat) (hB : w.cell? ⟨B, 0, none⟩ = some (.map (some b))) (hm : StrMap w b kindsL) (hk : kindB k = true) (hv : IsInts w iv l) (hl : ∀ x ∈ l, 0 ≤ x ∧ x < 62) :
    Calls Tryz.prog 121 #[.agg #[.string k, .int .i64 n, iv], .pointer (some ⟨B, 0, none⟩)] w fun e w' => e = .returned (gtV (maskOf l) (needOf k n l.length)) ∧ Ext w w' := by
 have HK := Lib.hid hk
 have HV := Lib.hid hv
 have HL := Lib.hid hl
 have HM := Lib.hid hm
 have hw := Ext.box w (.cells #[.string k, .int .i64 n, iv] 118)
 have c0 : (w.alloc (.cells #[.string k, .int .i64 n, iv] 118)).cell? ⟨w.heap.size, 0, none⟩ = some (.string k) := cell_new w #[.string k, .int .i64 n, iv] 118 0
 have c1 : (w.alloc (.cells #[.string k, .int .i64 n, iv] 118)).cell? ⟨w.heap.size, 1, none⟩ = some (.int .i64 n) := cell_new w #[.string k, .int .i64 n, iv] 118 1
 have c2 : (w.alloc (.cells #[.string k, .int .i64 n, iv] 118)).cell? ⟨w.heap.size, 2, none⟩ = some (iv) := cell_new w #[.string k, .int .i64 n, iv] 118 2
 have hx0 := Ext.box (w.alloc (.cells #[.string k, .int .i64 n, iv] 118)) (.cells #[.int .i64 0, .int .i64 0] 166)
 have R := Res.new1 w (.cells #[.string k, .int .i64 n, iv] 118) 166
 replace c0 := hx0.cell c0
 replace c1 := hx0.cell c1
 replace c2 := hx0.cell c2
 have hxx := hw.trans hx0
 have cB := hxx.cell hB
 clear hk hv hl hm hB
 go_enter Tryz.func121, Tryz.ntmps121
 go_wp2
 obtain ⟨W, hW⟩ : ∃ W, (w.alloc (.cells #[.string k, .int .i64 n, iv] 118)).alloc (.cells #[.int .i64 0, .int .i64 0] 166) = W := ⟨_, rfl⟩
 rw [hW] at c0 c1 c2 cB hxx R ⊢
 clear hW hw hx0
 have hxd := hxx.trans (Ext.refl W).drew
 refine Flow.region [.plain, .world, .world, .world, .plain, .world, .world, .plain, .world, .world, .plain, .last] [0, 1, 2, 3, 4, 5, 6, 7, 8, 9, 10, 11] [[], [0], [0, 1], [], [], [4], [3, 4, 5], [3, 4, 5, 6], [], [0, 1, 2, 3, 4, 5, 6, 7, 8], [0, 1, 2, 3, 4, 5, 6, 7, 8, 9], [0, 1, 2, 3, 4, 5, 6, 7, 8, 9, 10]] [11]
  [.is 0 (fun v => .pointer (some ⟨w.heap.size, 2, none⟩)), .is 1 (fun v => iv), .is 2 (fun v => .int .i64 (maskOf l : Nat)), .is 3 (fun v => .map (some b)), .is 4 (fun v => .pointer (some ⟨w.heap.size, 0, none⟩)), .is 5 (fun v => .string k), .is 6 (fun v => kv (kindF k)), .is 7 (fun v => .func (.func (kindF k)) #[] #[]), .is 8 (fun v => .agg #[.string k, .int .i64 n, iv]), .is 9 (fun v => .int .i64 (needOf k n l.length)), .is 10 (fun v => gtV (maskOf l) (needOf k n l.length)), .none]
  [fun v w1 w' => w'.cell? ⟨w.heap.size + 1, 0, none⟩ = some (.int .i64 (maskOf l : Nat)) ∧ w'.cell? ⟨w.heap.size + 1, 1, none⟩ = some (.int .i64 (needOf k n l.length)) ∧ Below w.heap.size w1 w'] (by kernel_rfl) rfl (by kernel_rfl) ⟨?g0, ?g1, ?g2, ?g3, ?g4, ?g5, ?g6, ?g7, ?g8, ?g9, ?g10, ?g11, trivial⟩ ?post
 case g0 =>
  intro v w1 hx
  have c0 := hx.cell c0
  have c1 := hx.cell c1
  have c2 := hx.cell c2
  have cB := hx.cell cB
  refine ⟨_, fun w => ?_, rfl⟩
  go_simp
 case g1 =>
  intro v w1 hx (q0 : v 0 = .pointer (some ⟨w.heap.size, 2, none⟩))
  have c0 := hx.cell c0
  have c1 := hx.cell c1
  have c2 := hx.cell c2
  have cB := hx.cell cB
  intro K hK
  go_simp
  exact hK _ _ (Ext.refl _) rfl
 case g2 =>
  intro v w1 hx (q0 : v 0 = .pointer (some ⟨w.heap.size, 2, none⟩)) (q1 : v 1 = iv)
  have c0 := hx.cell c0
  have c1 := hx.cell c1
  have c2 := hx.cell c2
  have cB := hx.cell cB
  intro K hK
  go_simp
  refine gives_call (mask_any _ _ _ (HV.out.ext (hxd.trans hx)) HL.out) ?_
  rintro e w2 ⟨rfl, rfl⟩
  exact ⟨_, rfl, hK _ _ (Ext.refl _) rfl⟩
 case g3 =>
  intro v w1 hx
  have c0 := hx.cell c0
  have c1 := hx.cell c1
  have c2 := hx.cell c2
  have cB := hx.cell cB
  intro K hK
  go_simp
  exact hK _ _ (Ext.refl _) rfl
 case g4 =>
  intro v w1 hx
  have c0 := hx.cell c0
  have c1 := hx.cell c1
  have c2 := hx.cell c2
  have cB := hx.cell cB
  refine ⟨_, fun w => ?_, rfl⟩
  go_simp
 case g5 =>
  intro v w1 hx (q4 : v 4 = .pointer (some ⟨w.heap.size, 0, none⟩))
  have c0 := hx.cell c0
  have c1 := hx.cell c1
  have c2 := hx.cell c2
  have cB := hx.cell cB
  intro K hK
  go_simp
  exact hK _ _ (Ext.refl _) rfl
 case g6 =>
  intro v w1 hx (q3 : v 3 = .map (some b)) (q4 : v 4 = .pointer (some ⟨w.heap.size, 0, none⟩)) (q5 : v 5 = .string k)
  have c0 := hx.cell c0
  have c1 := hx.cell c1
  have c2 := hx.cell c2
  have cB := hx.cell cB
  have hlk := run_lookup_str (P := Tryz.prog) (HM.out.ext (hxd.trans hx)) uKinds uStr (zKind _) k false
  rw [if_neg (by simp), find_kind HK.out] at hlk
  intro K hK
  go_simp
  exact hK _ _ (Ext.refl _) rfl
 case g7 =>
  intro v w1 hx (q3 : v 3 = .map (some b)) (q4 : v 4 = .pointer (some ⟨w.heap.size, 0, none⟩)) (q5 : v 5 = .string k) (q6 : v 6 = kv (kindF k))
  have c0 := hx.cell c0
  have c1 := hx.cell c1
  have c2 := hx.cell c2
  have cB := hx.cell cB
  unfold kv at q6
  have hfk := run_field_kind (kindF k)
  refine ⟨_, fun w => ?_, rfl⟩
  go_simp
 case g8 =>
  intro v w1 hx
  have c0 := hx.cell c0
  have c1 := hx.cell c1
  have c2 := hx.cell c2
  have cB := hx.cell cB
  intro K hK
  go_simp
  exact hK _ _ (Ext.refl _) rfl
 case g9 =>
  intro v w1 hx (q0 : v 0 = .pointer (some ⟨w.heap.size, 2, none⟩)) (q1 : v 1 = iv) (q2 : v 2 = .int .i64 (maskOf l : Nat)) (q3 : v 3 = .map (some b)) (q4 : v 4 = .pointer (some ⟨w.heap.size, 0, none⟩)) (q5 : v 5 = .string k) (q6 : v 6 = kv (kindF k)) (q7 : v 7 = .func (.func (kindF k)) #[] #[]) (q8 : v 8 = .agg #[.string k, .int .i64 n, iv])
  have c0 := hx.cell c0
  have c1 := hx.cell c1
  have c2 := hx.cell c2
  have cB := hx.cell cB
  have hen := enters_kind k
  intro K hK
  go_simp
  refine gives_call (kindF_any k _ _ _ _ l (HV.out.ext (hxd.trans hx))) ?_
  rintro e w2 ⟨rfl, hx2⟩
  exact ⟨_, rfl, hK _ _ hx2 rfl⟩
 case g10 =>
  intro v w1 hx (q0 : v 0 = .pointer (some ⟨w.heap.size, 2, none⟩)) (q1 : v 1 = iv) (q2 : v 2 = .int .i64 (maskOf l : Nat)) (q3 : v 3 = .map (some b)) (q4 : v 4 = .pointer (some ⟨w.heap.size, 0, none⟩)) (q5 : v 5 = .string k) (q6 : v 6 = kv (kindF k)) (q7 : v 7 = .func (.func (kindF k)) #[] #[]) (q8 : v 8 = .agg #[.string k, .int .i64 n, iv]) (q9 : v 9 = .int .i64 (needOf k n l.length))
  have c0 := hx.cell c0
  have c1 := hx.cell c1
  have c2 := hx.cell c2
  have cB := hx.cell cB
  refine ⟨_, fun w => ?_, rfl⟩
  go_simp
 case g11 =>
  intro v w1 hx (q0 : v 0 = .pointer (some ⟨w.heap.size, 2, none⟩)) (q1 : v 1 = iv) (q2 : v 2 = .int .i64 (maskOf l : Nat)) (q3 : v 3 = .map (some b)) (q4 : v 4 = .pointer (some ⟨w.heap.size, 0, none⟩)) (q5 : v 5 = .string k) (q6 : v 6 = kv (kindF k)) (q7 : v 7 = .func (.func (kindF k)) #[] #[]) (q8 : v 8 = .agg #[.string k, .int .i64 n, iv]) (q9 : v 9 = .int .i64 (needOf k n l.length)) (q10 : v 10 = gtV (maskOf l) (needOf k n l.length))
  intro wl hT
  obtain rfl : wl = w1 := hT
  intro bb hbb
  have c0 := hx.cell c0
  have c1 := hx.cell c1
  have c2 := hx.cell c2
  have cB := hx.cell cB
  intro K hK
  have o1 : bb.eval (.tmp 3) = .pointer (some ⟨w.heap.size + 1, 0, none⟩) := by rw [hbb]; dsimp only; simp (discharger := decide) only [eval_put_ne]; rfl
  have o2 : bb.eval (.tmp 14) = gtV (maskOf l) (needOf k n l.length) := by rw [hbb]; dsimp only; rw [eval_put_eq (by simp only [size_put]; exact (by decide : 14 < 15))]; exact q10
  have hxx2 := (Ext.refl W).drew.trans hx
  have R2 := R.ext hxx2
  obtain ⟨e0, e1⟩ := stored2 (x := .int .i64 (maskOf l : Nat)) (y := .int .i64 (needOf k n l.length)) R2.c0 R2.c1
  clear hbb
  refine gives_storeG _ _ rfl (w.heap.size + 1) o1 (maskOf l) (needOf k n l.length) o2 R2 (fun v' w' hw' => ?_)
  subst hw'
  exact hK _ _ ⟨e0, e1, ((Below.refl w.heap.size wl).setCell (p := ⟨w.heap.size + 1, 0, none⟩) (by show w.heap.size ≤ w.heap.size + 1; omega) _).setCell (p := ⟨w.heap.size + 1, 1, none⟩) (by show w.heap.size ≤ w.heap.size + 1; omega) _⟩
 case post =>
  intro v w1 hx (q0 : v 0 = .pointer (some ⟨w.heap.size, 2, none⟩)) (q1 : v 1 = iv) (q2 : v 2 = .int .i64 (maskOf l : Nat)) (q3 : v 3 = .map (some b)) (q4 : v 4 = .pointer (some ⟨w.heap.size, 0, none⟩)) (q5 : v 5 = .string k) (q6 : v 6 = kv (kindF k)) (q7 : v 7 = .func (.func (kindF k)) #[] #[]) (q8 : v 8 = .agg #[.string k, .int .i64 n, iv]) (q9 : v 9 = .int .i64 (needOf k n l.length)) (q10 : v 10 = gtV (maskOf l) (needOf k n l.length))
  intro w2 hE
  replace hE : (fun v w1 w' => w'.cell? ⟨w.heap.size + 1, 0, none⟩ = some (.int .i64 (maskOf l : Nat)) ∧ w'.cell? ⟨w.heap.size + 1, 1, none⟩ = some (.int .i64 (needOf k n l.length)) ∧ Below w.heap.size w1 w') v w1 w2 := hE
  simp only [Flow.acts, Act.put]
  go_simp
  obtain ⟨e0, e1, e2⟩ := hE
  go_wp2
  refine bodyPost_ret (v := gtV (maskOf l) (needOf k n l.length)) (by simp [results, Tryz.results121, go_sem, e0, e1, gtV]) rfl ?_
  exact ⟨rfl, Below.trans (hxd.trans hx) e2⟩
end Go.Proofs
