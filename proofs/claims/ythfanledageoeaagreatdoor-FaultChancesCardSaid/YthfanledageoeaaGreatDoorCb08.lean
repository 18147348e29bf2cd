/- The nodes of a tree as sets of bits, and what they come to: no program is in sight here. The contract of the reference's States and Fails. -/
import Derived.Test.YthfanledageoeaaGreatDoorCb07
import Derived.Test.YthfanledageoeaaGreatDoorCb05
set_option linter.unusedVariables false
set_option linter.unusedSimpArgs false
set_option linter.constructorNameAsVariable false
namespace Go.Tw
open Go.RowKit
/-! How many members of an ascending list have a property. -/
theorem asc_head {x : Int} {l : List Int} (h : ascB (x :: l) = true) : ∀ y ∈ l, x < y := by
 induction l generalizing x with
 | nil => intro y hy; cases hy
 | cons z l ih =>
   simp only [ascB, Bool.and_eq_true, decide_eq_true_eq] at h
   intro y hy
   rcases List.mem_cons.1 hy with rfl | hy
   · exact h.1
   · exact Int.lt_trans h.1 (ih h.2 y hy)
theorem asc_tail {x : Int} {l : List Int} (h : ascB (x :: l) = true) : ascB l = true := by
 cases l with
 | nil => rfl
 | cons z l => simp only [ascB, Bool.and_eq_true] at h; exact h.2
theorem count_one (a : Nat) (p : Nat → Bool) : ∀ k, (List.range k).countP (fun i => p i && decide (i = a)) = if a < k then (if p a then 1 else 0) else 0
 | 0 => rfl
 | k + 1 => by
   rw [List.range_succ, List.countP_append, count_one a p k, List.countP_singleton]
   by_cases h : a < k
   · have h2 : ¬ k = a := by omega
     have h3 : a < k + 1 := by omega
     simp [h, h2, h3]
   · by_cases h2 : k = a
     · subst h2; simp
     · have h3 : ¬ a < k + 1 := by omega
       simp [h, h2, h3]
theorem count_split (l : List Nat) (p q : Nat → Bool) (h : ∀ i ∈ l, ¬ (p i = true ∧ q i = true)) : l.countP (fun i => p i || q i) = l.countP p + l.countP q := by
 induction l with
 | nil => rfl
 | cons x l ih =>
   have h0 := h x (List.mem_cons_self ..)
   rw [List.countP_cons, List.countP_cons, List.countP_cons, ih (fun i hi => h i (List.mem_cons_of_mem _ hi))]
   cases hp : p x <;> cases hq : q x <;> simp_all <;> omega
theorem count_members (k : Nat) (p : Nat → Bool) : ∀ l : List Int, ascB l = true → (∀ x ∈ l, 0 ≤ x ∧ x < (k : Int)) → (List.range k).countP (fun i => p i && has l i) = l.countP fun x => p x.toNat
 | [], _, _ => by simp [has]
 | x :: l, ha, hb => by
   have h0 := hb x (List.mem_cons_self ..)
   have e : (List.range k).countP (fun i => p i && has (x :: l) i) = (List.range k).countP (fun i => (p i && decide (i = x.toNat)) || (p i && has l i)) := by
    refine List.countP_congr fun i _ => ?_
    rw [has_cons]
    have : (x == (i : Int)) = decide (i = x.toNat) := by
     by_cases h : x = (i : Int)
     · subst h; simp
     · rw [beq_false_of_ne h, decide_eq_false (by omega)]
    rw [this]
    cases p i <;> simp
   rw [e, count_split, count_one, if_pos (by omega), count_members k p l (asc_tail ha) (fun y hy => hb y (List.mem_cons_of_mem _ hy)), List.countP_cons]
   · omega
   · rintro i _ ⟨h1, h2⟩
     simp only [Bool.and_eq_true, decide_eq_true_eq] at h1 h2
     have := asc_head ha (i : Int) (has_iff.1 h2.2)
     omega
theorem pop_members {out : List Bool} {l : List Int} (ha : ascB l = true) (hb : ∀ x ∈ l, 0 ≤ x ∧ x < 64) : popN (packB out &&& maskOf l) 64 = failing out l := by
 unfold popN failing
 rw [← count_members 64 (fun i => bx out i) l ha hb]
 refine List.countP_congr fun i _ => ?_
 rw [Nat.testBit_and, packB_bit, maskOf_bit (fun x hx => (hb x hx).1)]
/-! Which nodes an event fails. -/
namespace Tree
def maskAt (t : Tree) (k : Nat) : Nat := if k < t.basics.length then 2 ^ k else maskOf (cMembers t.causes (k - t.basics.length))
def masks (t : Tree) : List Int := (List.range t.size).map fun k => (t.maskAt k : Int)
def gt (t : Tree) (k : Nat) : Nat × Int := (maskOf (gInputs t.gates k), needOf (gKind t.gates k) (gNeed t.gates k) (gInputs t.gates k).length)
def gts (t : Tree) : List (Nat × Int) := (List.range t.gates.length).map t.gt
def orTo (t : Tree) (s : Nat) : Nat → Nat
 | 0 => 0
 | k + 1 => if s.testBit k then t.orTo s k ||| t.maskAt k else t.orTo s k
end Tree
theorem masks_len (t : Tree) : t.masks.length = t.size := by simp [Tree.masks]
theorem gts_len (t : Tree) : t.gts.length = t.gates.length := by simp [Tree.gts]
theorem masks_ix {t : Tree} {k : Nat} (h : k < t.size) : ix t.masks k = (t.maskAt k : Int) := by
 rw [ix_eq (by rw [masks_len]; exact h)]; simp [Tree.masks]
theorem Valid.members {t : Tree} (h : Valid t) {k : Nat} (hk : k < t.causes.length) : ∀ x ∈ cMembers t.causes k, 0 ≤ x ∧ x < (t.basics.length : Int) := by
 have h1 := h.event (t.basics.length + k) (by unfold Tree.size; omega)
 unfold Tree.eventErr at h1
 rw [firstErr_zero] at h1
 have h2 := h1 (if t.basics.length + k < t.basics.length then 0 else listErr (cMembers t.causes (t.basics.length + k - t.basics.length)) t.basics.length) (by simp)
 rw [if_neg (by omega), Nat.add_sub_cancel_left] at h2
 exact (setErr_zero (listErr_zero h2).2).1
theorem Valid.maskAt_lt {t : Tree} (h : Valid t) {k : Nat} (hk : k < t.size) : t.maskAt k < 2 ^ t.basics.length := by
 unfold Tree.maskAt
 split
 · rename_i h1; exact Nat.pow_lt_pow_right (by omega) h1
 · exact maskOf_lt h.nb (fun x hx => (h.members (by unfold Tree.size at hk; omega) x hx).2)
theorem Valid.orTo_lt {t : Tree} (h : Valid t) (s : Nat) : ∀ k, k ≤ t.size → t.orTo s k < 2 ^ t.basics.length
 | 0, _ => Nat.two_pow_pos _
 | k + 1, hk => by
   have ih := h.orTo_lt s k (by omega)
   rw [Tree.orTo]
   split
   · exact Nat.or_lt_two_pow ih (h.maskAt_lt (by omega))
   · exact ih
theorem orTo_bit (t : Tree) (s i : Nat) : ∀ k, (t.orTo s k).testBit i = (List.range k).any fun j => s.testBit j && (t.maskAt j).testBit i
 | 0 => by simp [Tree.orTo]
 | k + 1 => by
   rw [Tree.orTo, List.range_succ, List.any_append, ← orTo_bit t s i k]
   cases h : s.testBit k
   · simp [h]
   · simp [h, Nat.testBit_or]
theorem range_any_split (a b : Nat) (p : Nat → Bool) : (List.range (a + b)).any p = ((List.range a).any p || (List.range b).any fun j => p (a + j)) := by
 rw [List.range_add, List.any_append, List.any_map]; rfl
theorem any_one (n i : Nat) (p : Nat → Bool) : ((List.range n).any fun j => p j && decide (i = j)) = (decide (i < n) && p i) := by
 induction n with
 | zero => rfl
 | succ n ih =>
   rw [List.range_succ, List.any_append, ih]
   by_cases h : i = n
   · subst h; simp
   · by_cases h2 : i < n
     · have h3 : i < n + 1 := by omega
       simp [h, h2, h3]
     · have h3 : ¬ i < n + 1 := by omega
       simp [h, h2, h3]
theorem Valid.orTo_all {t : Tree} (h : Valid t) (s : Nat) : t.orTo s t.size = packB (t.basicsB (evN s)) := by
 apply Nat.eq_of_testBit_eq
 intro i
 rw [packB_bit]
 rcases Nat.lt_or_ge i t.basics.length with hi | hi
 · have e : bx (t.basicsB (evN s)) i = t.basicB (evN s) i := by unfold bx Tree.basicsB; simp [hi]
   rw [e, orTo_bit, Tree.size, range_any_split]
   unfold Tree.basicB evN
   congr 1
   · have e2 : ((List.range t.basics.length).any fun j => s.testBit j && (t.maskAt j).testBit i) = (List.range t.basics.length).any fun j => s.testBit j && decide (i = j) := by
      rw [Bool.eq_iff_iff, List.any_eq_true, List.any_eq_true]
      constructor
      · rintro ⟨j, hj, h2⟩
        refine ⟨j, hj, ?_⟩
        unfold Tree.maskAt at h2
        rwa [if_pos (List.mem_range.1 hj), bit_pow] at h2
      · rintro ⟨j, hj, h2⟩
        refine ⟨j, hj, ?_⟩
        unfold Tree.maskAt
        rwa [if_pos (List.mem_range.1 hj), bit_pow]
     rw [e2, any_one, decide_eq_true hi, Bool.true_and]
   · rw [Bool.eq_iff_iff, List.any_eq_true, List.any_eq_true]
     have e3 : ∀ j, j < t.causes.length → (t.maskAt (t.basics.length + j)).testBit i = has (cMembers t.causes j) i := by
      intro j hj
      unfold Tree.maskAt
      rw [if_neg (by omega), Nat.add_sub_cancel_left, maskOf_bit (fun x hx => (h.members hj x hx).1)]
     constructor
     · rintro ⟨j, hj, h2⟩
       exact ⟨j, hj, by rwa [e3 j (List.mem_range.1 hj)] at h2⟩
     · rintro ⟨j, hj, h2⟩
       exact ⟨j, hj, by rwa [e3 j (List.mem_range.1 hj)]⟩
 · rw [bx_out (by simpa [Tree.basicsB] using hi)]
   exact Nat.testBit_lt_two_pow (Nat.lt_of_lt_of_le (h.orTo_lt s _ (Nat.le_refl _)) (Nat.pow_le_pow_right (by omega) hi))
theorem gatesB_length (t : Tree) (ev : Nat → Bool) : ∀ k, (t.gatesB ev k).length = t.basics.length + k
 | 0 => by simp [Tree.gatesB, Tree.basicsB]
 | k + 1 => by rw [Tree.gatesB, List.length_append, gatesB_length t ev k]; simp; omega
theorem Valid.gates_bd {t : Tree} (h : Valid t) (ev : Nat → Bool) {k : Nat} (hk : k ≤ t.gates.length) : packB (t.gatesB ev k) < 2 ^ 44 := by
 refine Nat.lt_of_lt_of_le (packB_lt _) ?_
 rw [gatesB_length]
 have := h.size; have := h.ng'
 unfold Tree.size at this
 exact Nat.pow_le_pow_right (by omega) (by have := h.size; unfold Tree.size at this; omega)
theorem Valid.gate_asc {t : Tree} (h : Valid t) {k : Nat} (hk : k < t.gates.length) : ascB (gInputs t.gates k) = true ∧ (∀ x ∈ gInputs t.gates k, 0 ≤ x ∧ x < 44) := by
 have h1 := setErr_zero (listErr_zero (h.inputs hk)).2
 have := h.size; have := h.ng'
 unfold Tree.size at *
 exact ⟨h1.2, fun x hx => by have := h1.1 x hx; omega⟩
theorem Valid.step {t : Tree} (h : Valid t) (ev : Nat → Bool) {k : Nat} (hk : k < t.gates.length) :
    packB (t.gatesB ev (k + 1)) = if (t.gt k).2 ≤ (popN (packB (t.gatesB ev k) &&& (t.gt k).1) 64 : Int) then packB (t.gatesB ev k) ||| 2 ^ (t.basics.length + k) else packB (t.gatesB ev k) := by
 obtain ⟨ha, hb⟩ := h.gate_asc hk
 rw [Tree.gatesB, packB_snoc, gatesB_length, Tree.gt, pop_members ha (fun x hx => by have := hb x hx; omega)]
 unfold gateB
 simp only [decide_eq_true_eq]
theorem Valid.gmask_lt {t : Tree} (h : Valid t) {k : Nat} (hk : k < t.gates.length) : (t.gt k).1 < 2 ^ 44 :=
 maskOf_lt (by omega) (fun x hx => ((h.gate_asc hk).2 x hx).2)
/-! The nodes as a Go value. -/
def chV (c : List Int) : Value := .agg #[.int .i64 (ix c 0), .int .i64 (ix c 1), .int .i64 (ix c 2), .int .i64 (ix c 3), .int .i64 (ix c 4), .int .i64 (ix c 5), .int .i64 (ix c 6), .int .i64 (ix c 7), .int .i64 (ix c 8), .int .i64 (ix c 9), .int .i64 (ix c 10), .int .i64 (ix c 11)]
def RGt (_ : World) (c : Nat → Value) (x : Nat × Int) : Prop := c 0 = .int .i64 (x.1 : Nat) ∧ c 1 = .int .i64 x.2
theorem RGt.ext (w w' : World) (c : Nat → Value) (x : Nat × Int) (_ : Ext w w') (h : RGt w c x) : RGt w' c x := h
def IsGts : World → Value → List (Nat × Int) → Prop := Go.Tw.Rows 2 RGt
theorem IsGts.ext {w w' : World} {v : Value} {l : List (Nat × Int)} (h : IsGts w v l) (hx : Ext w w') : IsGts w' v l := Rows.ext RGt.ext h hx
def evV (t : Tree) (c : List Int) (fv : Value) : Value := .agg #[.int .i64 t.size, fv, .int .i64 (ix c 0), .int .i64 (ix c 1), .int .i64 (ix c 2), .int .i64 (ix c 3), .int .i64 (ix c 4), .int .i64 (ix c 5), .int .i64 (ix c 6), .int .i64 (ix c 7), .int .i64 (ix c 8), .int .i64 (ix c 9), .int .i64 (ix c 10), .int .i64 (ix c 11)]
def noV (t : Tree) (c : List Int) (fv gv : Value) : Value := .agg #[.int .i64 t.size, fv, .int .i64 (ix c 0), .int .i64 (ix c 1), .int .i64 (ix c 2), .int .i64 (ix c 3), .int .i64 (ix c 4), .int .i64 (ix c 5), .int .i64 (ix c 6), .int .i64 (ix c 7), .int .i64 (ix c 8), .int .i64 (ix c 9), .int .i64 (ix c 10), .int .i64 (ix c 11), .int .i64 t.basics.length, gv]
structure IsNo (w : World) (fv gv : Value) (t : Tree) : Prop where
 fails : IsInts w fv t.masks
 gates : IsGts w gv t.gts
theorem IsNo.ext {w w' : World} {fv gv : Value} {t : Tree} (h : IsNo w fv gv t) (hx : Ext w w') : IsNo w' fv gv t := ⟨h.fails.ext hx, h.gates.ext hx⟩
theorem IsGts.opened {w : World} {v : Value} {t : Tree} (h : IsGts w v t.gts) :
    ∃ A cap, v = .slice A t.gates.length cap ∧ t.gates.length ≤ 17592186043904 ∧ t.gates.length ≤ cap ∧ ∀ k, k < t.gates.length → ∃ b off, A = some ⟨b, off, none⟩ ∧ b < w.heap.size ∧
     w.cell? ⟨b, off + k * 2, none⟩ = some (.int .i64 ((t.gt k).1 : Nat)) ∧ w.cell? ⟨b, off + k * 2 + 1, none⟩ = some (.int .i64 (t.gt k).2) := by
 obtain ⟨c, ⟨A, cap, hv, hn, hcap, hc⟩, h2⟩ := h
 rw [gts_len] at hv hn hcap hc
 refine ⟨A, cap, hv, hn, hcap, fun k hk => ?_⟩
 obtain ⟨b, off, hA, h0⟩ := hc (k * 2) (by omega)
 obtain ⟨b', off', hA', h1⟩ := hc (k * 2 + 1) (by omega)
 rw [hA] at hA'; cases hA'
 obtain ⟨e0, e1⟩ := h2 k (by rw [gts_len]; exact hk)
 have e : t.gts[k]'(by rw [gts_len]; exact hk) = t.gt k := by simp [Tree.gts]
 rw [e] at e0 e1
 simp only [Nat.add_zero] at e0
 refine ⟨b, off, hA, World.block_lt_of_cell? w _ h0, ?_, ?_⟩
 · rw [h0, e0]
 · rw [Nat.add_assoc]; exact h1.trans (congrArg some e1)
end Go.Tw
namespace Go.Proofs
open Go.RowKit Go.Tw Go.Flow
theorem Tryz.info4 : (Tryz.prog.info? 4).map (fun i => (i.zero, i.size, i.bytes)) = some (some (.bool false), 1, 1) := by kernel_rfl
def anyTo (t : Tree) (ev : Nat → Bool) (i n : Nat) : Bool := (List.range n).any fun k => ev (t.basics.length + k) && has (cMembers t.causes k) i
theorem anyTo_succ (t : Tree) (ev : Nat → Bool) (i n : Nat) : anyTo t ev i (n + 1) = (anyTo t ev i n || (ev (t.basics.length + n) && has (cMembers t.causes n) i)) := by
 unfold anyTo; rw [List.range_succ, List.any_append]; simp
def upTo (t : Tree) (ev : Nat → Bool) (n : Nat) : List Bool := (List.range n).map (t.basicB ev)
theorem upTo_succ (t : Tree) (ev : Nat → Bool) (n : Nat) : upTo t ev (n + 1) = upTo t ev n ++ [t.basicB ev n] := by
 unfold upTo; rw [List.range_succ, List.map_append]; rfl
theorem upTo_len (t : Tree) (ev : Nat → Bool) (n : Nat) : (upTo t ev n).length = n := by simp [upTo]
theorem basic_of (t : Tree) (ev : Nat → Bool) (i : Nat) : t.basicB ev i = (ev i || anyTo t ev i t.causes.length) := rfl
theorem gatesB_len (t : Tree) (ev : Nat → Bool) (n : Nat) : (t.gatesB ev n).length = t.basics.length + n := by
 induction n with
 | zero => simp [Tree.gatesB, Tree.basicsB]
 | succ n ih => rw [Tree.gatesB, List.length_append, ih]; rfl
def failTo (out : List Bool) (inp : List Int) (n : Nat) : Nat := (inp.take n).countP fun x => bx out x.toNat
theorem failTo_succ (out : List Bool) (inp : List Int) (n : Nat) (h : n < inp.length) : failTo out inp (n + 1) = failTo out inp n + if bx out (ix inp n).toNat then 1 else 0 := by
 unfold failTo
 rw [List.take_succ_eq_append_getElem h, List.countP_append, ix_eq h]
 simp [List.countP_cons]
theorem failTo_le (out : List Bool) (inp : List Int) (n : Nat) : failTo out inp n ≤ n := Nat.le_trans (List.countP_le_length) (List.length_take_le _ _)
set_option maxRecDepth 100000 in
set_option maxHeartbeats 2000000 in
theorem States_any (w : World) (v u : Value) (t : Tree) (l : List Int) (hfit : Fit t) (ht : IsTree w v t) (hl : IsInts w u l) :
    Calls Tryz.prog 53 #[v, u] w fun e w' => ∃ x, e = .returned x ∧ IsBools w' x (t.states (evL l)) ∧ Ext w w' := by
 obtain ⟨i0, hi, hz0, hz1, hz2⟩ := info_parts Tryz.info4
 obtain ⟨hnb, hnc, hng, hinp⟩ := hfit
 obtain ⟨a, b, c, rfl, h3⟩ := ht
 have c0 := cell_new w #[a, b, c] 26 0
 have c1 := cell_new w #[a, b, c] 26 1
 have c2 := cell_new w #[a, b, c] 26 2
 obtain ⟨A, cap, rfl, hl1, hcap, hc⟩ := h3.basics.opened
 obtain ⟨A', cap', rfl, hl', hcap', hc'⟩ := h3.causes.opened
 obtain ⟨A2, cap2, rfl, hl2, hcap2, hc2⟩ := h3.gates.opened
 clear h3 hc
 have HL := Lib.hid hl
 clear hl
 have HI := Lib.hid hinp; clear hinp
 go_enter Tryz.func53, Tryz.ntmps53
 go_wp2
 obtain ⟨W, hW⟩ : ∃ W, w.alloc (.cells #[.slice A t.basics.length cap, .slice A' t.causes.length cap', .slice A2 t.gates.length cap2] 26) = W := ⟨_, rfl⟩
 have hxW : Ext w W := by rw [← hW]; exact Ext.box _ _
 have hsz : W.heap.size = w.heap.size + 1 := by rw [← hW]; simp
 rw [hW] at c0 c1 c2 ⊢
 simp only [List.getElem?_toArray, List.getElem?_cons_zero, List.getElem?_cons_succ] at c0 c1 c2
 have HW := Lib.hid hW; clear hW
 have HC2 := Lib.hid c2
 have HS := Lib.hid hsz
 go_loopw [5, 6, 7, 8] (fun o i _ _ wr => ∃ (k : Nat), k ≤ t.basics.length ∧ i = .int .i64 k ∧ Own1 wr W.heap.size 4 Value.bool o (upTo t (evL l) k) ∧ Ext W wr) (fun _ i _ _ _ => t.basics.length - (intOf i).toNat)
 case atStart => exact ⟨0, Nat.zero_le _, rfl, Own1.nil _ _ _ _, Ext.refl _⟩
 case round =>
  obtain ⟨k, hk, rfl, hown, hx⟩ := hrel
  have d0 := hx.cell c0
  have d1 := hx.cell c1
  have d2 := hx.cell c2
  have hle := upTo_len t (evL l) k
  have HLE := Lib.hid hle; clear hle
  by_cases hlt : k < t.basics.length
  · go_wp2_with (go_at_call 97; refine (HasInt_any _ _ l _ (HL.out.ext (hxW.trans hx))).mono ?_; rintro e w' ⟨rfl, rfl⟩)
    go_loop [7, 8] (fun s i => ∃ (j : Nat), j ≤ t.causes.length ∧ i = .int .i64 j ∧ s = .bool (evL l k || anyTo t (evL l) k j)) (fun _ i => t.causes.length - (intOf i).toNat)
    case atStart => exact ⟨0, Nat.zero_le _, rfl, by simp [anyTo, evL]⟩
    case round =>
     obtain ⟨j, hj, rfl, rfl⟩ := hrel
     obtain ⟨s, hs⟩ : ∃ s, (evL l k || anyTo t (evL l) k j) = s := ⟨_, rfl⟩
     rw [hs]
     by_cases hlj : j < t.causes.length
     · obtain ⟨b, off, m, rfl, hb, e0, e1, e2, hM, _⟩ := hc' j hlj
       clear hc' hc2
       replace e2 := hx.cell (hxW.cell e2)
       have HMM := Lib.hid (hM.ext (hxW.trans hx))
       clear hM e0 e1
       have hnext : (evL l k || anyTo t (evL l) k (j + 1)) = (s || (has l ((t.basics.length : Int) + (j : Int)) && has (cMembers t.causes j) (k : Int))) := by
        rw [anyTo_succ, ← Bool.or_assoc, hs]
        unfold evL
        rw [show ((t.basics.length + j : Nat) : Int) = (t.basics.length : Int) + (j : Int) from by omega]
       have HN := Lib.hid hnext; clear hnext
       have HSS := Lib.hid hs; clear hs
       cases s with
       | true =>
         go_wp2
         go_round
         case rel => exact ⟨j + 1, by omega, by go_num, by rw [HN.out]; rfl⟩
         case measure => simp [intOf]; omega
       | false =>
         cases hev : has l ((t.basics.length : Int) + (j : Int)) with
         | false =>
           go_wp2_with (go_at_call 97; refine (HasInt_any _ _ l _ (HL.out.ext (hxW.trans hx))).mono ?_; rintro e w' ⟨rfl, rfl⟩)
           go_round
           case rel => exact ⟨j + 1, by omega, by go_num, by rw [HN.out, hev]; rfl⟩
           case measure => simp [intOf]; omega
         | true =>
           go_wp2_with (go_at_call 97; first | ((with_reducible refine (HasInt_any _ _ l _ (HL.out.ext (hxW.trans hx))).mono ?_); rintro e w' ⟨rfl, rfl⟩) | ((with_reducible refine (HasInt_any _ _ _ _ HMM.out).mono ?_); rintro e w' ⟨rfl, rfl⟩))
           go_round
           case rel => exact ⟨j + 1, by omega, by go_num, by rw [HN.out, hev]; rfl⟩
           case measure => simp [intOf]; omega
     · clear hc' hc2
       have hbas : t.basicB (evL l) k = s := by rw [basic_of, ← hs, show j = t.causes.length from by omega]
       have HBB := Lib.hid hbas; clear hbas
       have HSS := Lib.hid hs; clear hs
       have hlen2 : (upTo t (evL l) k).length ≤ 1000 := by rw [HLE.out]; omega
       go_wp2_with (at_builtin; refine wpList_append_own _ rfl _ _ 86 rfl (W.heap.size) 4 i0 (.bool false) 1 1 Tryz.underlying86 hi hz0 hz1 hz2 rfl (by decide) _ _ _ rfl (World.ownsRow.alloc hown _) ⟨wr.heap.size, 0, none⟩ 1 1 [.bool s] rfl rfl ?_ ?_ ?_ ?_ ?_ ?_; exact one_new _ _ _; (focus (simp [Value.oneCell'])); (focus (unfold maxLen; omega)); (focus omega); (focus (have := hx.size; simp at this ⊢; omega)); intro v' w1 hown' hgrow _)
       have hx' := ext_grown hx hown (Nat.le_refl _) hgrow
       go_wp2
       go_roundw
       case rel => exact ⟨k + 1, by omega, by go_num, by rw [upTo_succ, HBB.out]; exact Own1.snoc hown', hx'⟩
       case measure => simp [intOf]; omega
  · clear hc'
    have hown0 : Own1 wr W.heap.size 4 Value.bool u5 (t.gatesB (evL l) 0) := by
     have e : t.gatesB (evL l) 0 = upTo t (evL l) k := by rw [show k = t.basics.length from by omega]; rfl
     rw [e]; exact hown
    clear hown HLE
    go_wp2
    go_loopw [5, 9] (fun o i wr => ∃ (g : Nat), g ≤ t.gates.length ∧ i = .int .i64 g ∧ Own1 wr W.heap.size 4 Value.bool o (t.gatesB (evL l) g) ∧ Ext W wr) (fun _ i _ => t.gates.length - (intOf i).toNat)
    case atStart => exact ⟨0, Nat.zero_le _, rfl, hown0, hx⟩
    case round =>
     clear hown0 d0 d1 d2 c0 c1 c2 hx
     obtain ⟨g, hg, rfl, hown, hx⟩ := hrel
     have d2 := hx.cell HC2.out
     by_cases hlg : g < t.gates.length
     · obtain ⟨b, off, m, rfl, hb, e0, e1, e2, hM, hks⟩ := hc2 g hlg
       clear hc2
       replace e0 := hx.cell (hxW.cell e0)
       replace e1 := hx.cell (hxW.cell e1)
       replace e2 := hx.cell (hxW.cell e2)
       obtain ⟨A3, cap3, rfl, hl3, hcap3, hc3⟩ := (hM.ext (hxW.trans hx)).opened
       clear hM
       have HIN := Lib.hid (HI.out g hlg)
       go_light
       have hlen := gatesB_len t (evL l) g
       have HOB : Hid (IsBools wr u5 (t.gatesB (evL l) g)) := hown.bools (by omega)
       have e0' := cell_new wr #[.string (gKind t.gates g), .int .i64 (gNeed t.gates g), .slice A3 (gInputs t.gates g).length cap3] 103 0
       go_wp2
       obtain ⟨W2, hW2⟩ : ∃ W2, wr.alloc (.cells #[.string (gKind t.gates g), .int .i64 (gNeed t.gates g), .slice A3 (gInputs t.gates g).length cap3] 103) = W2 := ⟨_, rfl⟩
       have hx2 : Ext wr W2 := by rw [← hW2]; exact Ext.box _ _
       have f0 : W2.cell? ⟨wr.heap.size, 0, none⟩ = some (.string (gKind t.gates g)) := by rw [← hW2]; exact cell_new _ _ _ _
       have f1 : W2.cell? ⟨wr.heap.size, 1, none⟩ = some (.int .i64 (gNeed t.gates g)) := by rw [← hW2]; exact cell_new _ _ _ _
       have f2 : W2.cell? ⟨wr.heap.size, 2, none⟩ = some (.slice A3 (gInputs t.gates g).length cap3) := by rw [← hW2]; exact cell_new _ _ _ _
       rw [hW2]
       have hown2 := hown.below hx2
       have hxx := hx.trans hx2
       clear e0' hW2 hown
       go_loop [11, 12] (fun n i => ∃ (j : Nat), j ≤ (gInputs t.gates g).length ∧ i = .int .i64 j ∧ n = .int .i64 (failTo (t.gatesB (evL l) g) (gInputs t.gates g) j)) (fun _ i => (gInputs t.gates g).length - (intOf i).toNat)
       case atStart => exact ⟨0, Nat.zero_le _, rfl, rfl⟩
       case round =>
        obtain ⟨j, hj, rfl, rfl⟩ := hrel
        by_cases hlj : j < (gInputs t.gates g).length
        · obtain ⟨b3, off3, rfl, hcell⟩ := hc3 j hlj
          replace hcell := hx2.cell hcell
          clear hc3
          have hin := HIN.out (ix (gInputs t.gates g) j) (by rw [ix_eq hlj]; exact List.getElem_mem hlj)
          obtain ⟨p, hp⟩ := Int.eq_ofNat_of_zero_le hin.1
          have hpl : p < (t.gatesB (evL l) g).length := by omega
          obtain ⟨A4, cap4, rfl, _, _, hc4⟩ := (HOB.out).opened
          obtain ⟨b4, off4, rfl, hb4, hcell4⟩ := hc4 p hpl
          replace hcell4 := hx2.cell hcell4
          clear hc4
          have hfs := failTo_succ (t.gatesB (evL l) g) (gInputs t.gates g) j hlj
          rw [hp, Int.toNat_natCast] at hfs
          have hfl := failTo_le (t.gatesB (evL l) g) (gInputs t.gates g) j
          obtain ⟨q, hq⟩ : ∃ q, failTo (t.gatesB (evL l) g) (gInputs t.gates g) j = q := ⟨_, rfl⟩
          rw [hq] at hfs hfl ⊢
          rw [hp] at hcell
          have i1 : (p : Int) < ((t.gatesB (evL l) g).length : Int) := by omega
          go_light
          have HFS := Lib.hid hfs
          have HQ := Lib.hid hq
          have HP := Lib.hid hp
          clear hfs hq hp
          cases hbv : bx (t.gatesB (evL l) g) p with
          | true =>
            go_wp2
            go_round
            case rel => exact ⟨j + 1, by omega, by go_num, by rw [HFS.out, hbv]; rfl⟩
            case measure => simp [intOf]; omega
          | false =>
            go_wp2
            go_round
            case rel => exact ⟨j + 1, by omega, by go_num, by rw [HFS.out, hbv]; rfl⟩
            case measure => simp [intOf]; omega
        · clear hc3
          have hfin : failTo (t.gatesB (evL l) g) (gInputs t.gates g) j = failing (t.gatesB (evL l) g) (gInputs t.gates g) := by
           unfold failTo failing; rw [List.take_of_length_le (by omega)]
          have hfl : failing (t.gatesB (evL l) g) (gInputs t.gates g) ≤ 17592186043904 := by
           rw [← hfin]; exact Nat.le_trans (failTo_le _ _ _) (by omega)
          rw [hfin]
          have hlen2 : (t.gatesB (evL l) g).length ≤ 10000 := by omega
          have hstep : t.gatesB (evL l) (g + 1) = t.gatesB (evL l) g ++ [gateB (t.gatesB (evL l) g) (gKind t.gates g) (gNeed t.gates g) (gInputs t.gates g)] := rfl
          have HST := Lib.hid hstep
          have HB := Lib.hid hb
          clear hfin hlen hstep hb HIN
          obtain ⟨q, hq⟩ : ∃ q, failing (t.gatesB (evL l) g) (gInputs t.gates g) = q := ⟨_, rfl⟩
          rw [hq] at hfl ⊢
          have HQ := Lib.hid hq; clear hq
          by_cases hk1 : gKind t.gates g = sAnd
          · have hgb : gateB (t.gatesB (evL l) g) (gKind t.gates g) (gNeed t.gates g) (gInputs t.gates g) = decide ((gInputs t.gates g).length ≤ q) := by
             unfold gateB needOf; rw [if_pos hk1, HQ.out]; simp
            rw [hk1] at f0
            unfold sAnd at f0
            have HGB := Lib.hid hgb
            have HK1 := Lib.hid hk1
            clear hgb hk1
            go_wp2_with (at_builtin; refine wpList_append_own _ rfl _ _ 86 rfl (W.heap.size) 4 i0 (.bool false) 1 1 Tryz.underlying86 hi hz0 hz1 hz2 rfl (by decide) _ _ _ rfl (World.ownsRow.alloc hown2 _) ⟨W2.heap.size, 0, none⟩ 1 1 [.bool (decide ((gInputs t.gates g).length ≤ q))] rfl rfl ?_ ?_ ?_ ?_ ?_ ?_; exact one_new _ _ _; (focus (simp [Value.oneCell'])); (focus (unfold maxLen; omega)); (focus omega); (focus (have := hxx.size; simp at this ⊢; omega)); intro v' w1 hown' hgrow _)
            have hx' := ext_grown hxx hown2 (Nat.le_refl _) hgrow
            go_roundw
            case rel => exact ⟨g + 1, by omega, by go_num, by rw [HST.out, HGB.out]; exact Own1.snoc hown', hx'⟩
            case measure => simp [intOf]; omega
          · have hb1 := toList_ne and_list hk1
            by_cases hk2 : gKind t.gates g = sOr
            · have hgb : gateB (t.gatesB (evL l) g) (gKind t.gates g) (gNeed t.gates g) (gInputs t.gates g) = decide ((1 : Int) ≤ (q : Int)) := by
               unfold gateB needOf; rw [if_neg hk1, if_pos hk2, HQ.out]
              rw [hk2] at f0
              unfold sOr at f0
              have HGB := Lib.hid hgb
              have HK1 := Lib.hid hk1
              have HK2 := Lib.hid hk2
              clear hgb hk1 hk2 hb1
              go_wp2_with (at_builtin; refine wpList_append_own _ rfl _ _ 86 rfl (W.heap.size) 4 i0 (.bool false) 1 1 Tryz.underlying86 hi hz0 hz1 hz2 rfl (by decide) _ _ _ rfl (World.ownsRow.alloc hown2 _) ⟨W2.heap.size, 0, none⟩ 1 1 [.bool (decide ((1 : Int) ≤ (q : Int)))] rfl rfl ?_ ?_ ?_ ?_ ?_ ?_; exact one_new _ _ _; (focus (simp [Value.oneCell'])); (focus (unfold maxLen; omega)); (focus omega); (focus (have := hxx.size; simp at this ⊢; omega)); intro v' w1 hown' hgrow _)
              have hx' := ext_grown hxx hown2 (Nat.le_refl _) hgrow
              go_roundw
              case rel => exact ⟨g + 1, by omega, by go_num, by rw [HST.out, HGB.out]; exact Own1.snoc hown', hx'⟩
              case measure => simp [intOf]; omega
            · have hb2 := toList_ne or_list hk2
              have hgb : gateB (t.gatesB (evL l) g) (gKind t.gates g) (gNeed t.gates g) (gInputs t.gates g) = decide (gNeed t.gates g ≤ (q : Int)) := by
               unfold gateB needOf; rw [if_neg hk1, if_neg hk2, HQ.out]
              have HGB := Lib.hid hgb
              have HK1 := Lib.hid hk1
              have HK2 := Lib.hid hk2
              clear hgb hk1 hk2
              go_wp2_with (at_builtin; refine wpList_append_own _ rfl _ _ 86 rfl (W.heap.size) 4 i0 (.bool false) 1 1 Tryz.underlying86 hi hz0 hz1 hz2 rfl (by decide) _ _ _ rfl (World.ownsRow.alloc hown2 _) ⟨W2.heap.size, 0, none⟩ 1 1 [.bool (decide (gNeed t.gates g ≤ (q : Int)))] rfl rfl ?_ ?_ ?_ ?_ ?_ ?_; exact one_new _ _ _; (focus (simp [Value.oneCell'])); (focus (unfold maxLen; omega)); (focus omega); (focus (have := hxx.size; simp at this ⊢; omega)); intro v' w1 hown' hgrow _)
              have hx' := ext_grown hxx hown2 (Nat.le_refl _) hgrow
              go_roundw
              case rel => exact ⟨g + 1, by omega, by go_num, by rw [HST.out, HGB.out]; exact Own1.snoc hown', hx'⟩
              case measure => simp [intOf]; omega
     · clear hc2 HI
       have e : t.states (evL l) = t.gatesB (evL l) g := by rw [show g = t.gates.length from by omega]; rfl
       have HE := Lib.hid e; clear e
       have hlen := gatesB_len t (evL l) g
       go_wp2
       go_ret
       exact ⟨_, rfl, by rw [HE.out]; exact hown.bools (by omega), hxW.trans hx⟩
end Go.Proofs
