/- A list of lists that a call makes and appends to. -/
import Derived.Test.YthfanledageoeaaGreatDoorFs05
set_option linter.unusedVariables false
set_option linter.unusedSimpArgs false
set_option linter.constructorNameAsVariable false
namespace Go.Tw
open Go.RowKit Go.Flow
def idV (x : Value) : Value := x
/-- The values read as these lists. -/
def Reads (w : World) (vs : List Value) (ll : List (List Int)) : Prop := vs.length = ll.length ∧ ∀ i, i < ll.length → IsInts w (vs.getD i undef) (ll.getD i [])
theorem Reads.ext {w w' : World} {vs : List Value} {ll : List (List Int)} (h : Reads w vs ll) (hx : Ext w w') : Reads w' vs ll := ⟨h.1, fun i hi => (h.2 i hi).ext hx⟩
theorem IsInts.below {w w' : World} {B : Nat} {v : Value} {l : List Int} (h : IsInts w v l) (hb : Below B w w') (hlow : ∀ b o c, v = .slice (some ⟨b, o, none⟩) l.length c → l ≠ [] → b < B) : IsInts w' v l := by
 obtain ⟨c, ⟨A, cap, hv, hn, hcap, hc⟩, h2⟩ := h
 refine ⟨c, ⟨A, cap, hv, hn, hcap, fun j hj => ?_⟩, h2⟩
 obtain ⟨b, off, hA, h⟩ := hc j hj
 refine ⟨b, off, hA, ?_⟩
 have : b < B := hlow b off cap (by rw [hv, hA]) (fun e => by rw [e] at hj; simp at hj)
 exact (hb.cell (p := ⟨b, off + j, none⟩) this).trans h
theorem Reads.snoc {w : World} {vs : List Value} {ll : List (List Int)} {v : Value} {l : List Int} (h : Reads w vs ll) (hv : IsInts w v l) : Reads w (vs ++ [v]) (ll ++ [l]) := by
 refine ⟨by simp [h.1], fun i hi => ?_⟩
 rw [List.length_append, List.length_singleton] at hi
 by_cases hlt : i < ll.length
 · have e1 : (vs ++ [v]).getD i undef = vs.getD i undef := by simp [List.getElem?_append_left (show i < vs.length by rw [h.1]; exact hlt)]
   have e2 : (ll ++ [l]).getD i [] = ll.getD i [] := by simp [List.getElem?_append_left hlt]
   rw [e1, e2]; exact h.2 i hlt
 · have e : i = ll.length := by omega
   have e1 : (vs ++ [v]).getD i undef = v := by rw [e, ← h.1]; simp
   have e2 : (ll ++ [l]).getD i [] = l := by rw [e]; simp
   rw [e1, e2]; exact hv
theorem ins_get {α : Type} (x d : α) : ∀ (n : Nat) (xs : List α) (i : Nat), n ≤ xs.length → (xs.take n ++ [x] ++ xs.drop n).getD i d = if i < n then xs.getD i d else if i = n then x else xs.getD (i - 1) d
 | 0, xs, i, _ => by cases i <;> simp
 | n + 1, [], i, h => by simp at h
 | n + 1, y :: ys, 0, _ => by simp
 | n + 1, y :: ys, i + 1, h => by
   have := ins_get x d n ys i (by simpa using h)
   simp only [List.take_succ_cons, List.drop_succ_cons, List.cons_append, List.getD_cons_succ, this]
   by_cases h1 : i < n
   · have h1' : i + 1 < n + 1 := by omega
     simp only [h1, h1', if_true]
   · have h1' : ¬ (i + 1 < n + 1) := by omega
     by_cases h2 : i = n
     · subst h2
       simp
     · have h2' : ¬ (i + 1 = n + 1) := by omega
       obtain ⟨m, rfl⟩ : ∃ m, i = m + 1 := ⟨i - 1, by omega⟩
       simp only [h1, h1', h2, h2', if_false]
       simp
theorem Reads.insert {w : World} {vs : List Value} {ll : List (List Int)} {v : Value} {l : List Int} {n : Nat} (h : Reads w vs ll) (hv : IsInts w v l) (hn : n ≤ ll.length) : Reads w (vs.take n ++ [v] ++ vs.drop n) (ll.take n ++ [l] ++ ll.drop n) := by
 have hl := h.1
 refine ⟨by simp [hl], fun i hi => ?_⟩
 rw [ins_get _ _ _ _ _ (by omega), ins_get _ _ _ _ _ hn]
 simp only [List.length_append, List.length_take, List.length_drop, List.length_singleton] at hi
 split
 · exact h.2 i (by omega)
 · split
   · exact hv
   · exact h.2 (i - 1) (by omega)
theorem Own1.intss {w : World} {base : Nat} {e : TypeId} {v : Value} {vs : List Value} {ll : List (List Int)} (h : Own1 w base e idV v vs) (hr : Reads w vs ll) (hl : ll.length ≤ 17592186043904) : IsIntss w v ll := by
 refine ⟨fun k => vs.getD k undef, ?_, fun j hj => ?_⟩
 · rw [← hr.1]
   exact h.row (by rw [hr.1]; exact hl) _ (fun k hk => by simp [hk, idV])
 · have := hr.2 j hj
   rw [getD_of _ hj] at this
   simpa using this
theorem IsIntss.opened {w : World} {v : Value} {ll : List (List Int)} (h : IsIntss w v ll) :
    ∃ A cap, v = .slice A ll.length cap ∧ ll.length ≤ 17592186043904 ∧ ll.length ≤ cap ∧ ∀ k, k < ll.length → ∃ b off m, A = some ⟨b, off, none⟩ ∧ b < w.heap.size ∧ w.cell? ⟨b, off + k, none⟩ = some m ∧ IsInts w m (ll.getD k []) := by
 obtain ⟨c, ⟨A, cap, hv, hn, hcap, hc⟩, h2⟩ := h
 refine ⟨A, cap, hv, hn, hcap, fun k hk => ?_⟩
 obtain ⟨b, off, hA, h⟩ := hc k (by omega)
 refine ⟨b, off, c k, hA, World.block_lt_of_cell? w _ h, h, ?_⟩
 have := h2 k hk
 simp only [Nat.mul_one, Nat.add_zero] at this
 rw [getD_of _ hk]; exact this
/-- A slice of the call's own, as a source and as a thing to be indexed. -/
theorem Own1.cells {α : Type} {w : World} {base : Nat} {e : TypeId} {enc : α → Value} {v : Value} {xs : List α} (h : Own1 w base e enc v xs) :
    ∃ A c, v = .slice A xs.length c ∧ xs.length ≤ c ∧ (∀ j (hj : j < xs.length), ∃ g, A = some ⟨g, 0, none⟩ ∧ base ≤ g ∧ g < w.heap.size ∧ w.cell? ⟨g, 0 + j, none⟩ = some (enc xs[j])) := by
 obtain ⟨_, h2⟩ := h
 rcases h2 with ⟨rfl, h0⟩ | ⟨g, cap, cur, rfl, hb, hg, hcap, _, _, htake⟩
 · exact ⟨none, 0, by rw [h0], by omega, fun j hj => by omega⟩
 · refine ⟨some ⟨g, 0, none⟩, cap, rfl, hcap, fun j hj => ⟨g, rfl, hb, (Array.getElem?_eq_some_iff.1 hg).1, ?_⟩⟩
   rw [Nat.zero_add]
   have h1 := congrArg (fun l => l[j]?) htake
   simp only [Nat.mul_one, List.getElem?_take, hj, if_true, List.getElem?_map, List.getElem?_eq_getElem hj, Option.map_some] at h1
   simp only [World.cell?, hg]
   simpa using h1
theorem Own1.cells2 {α : Type} {w : World} {base : Nat} {e : TypeId} {enc : α → Value} {v : Value} {xs : List α} (h : Own1 w base e enc v xs) :
    (v = .slice none 0 0 ∧ xs = []) ∨ ∃ g c, v = .slice (some ⟨g, 0, none⟩) xs.length c ∧ xs.length ≤ c ∧ base ≤ g ∧ g < w.heap.size ∧ ∀ j (hj : j < xs.length), w.cell? ⟨g, 0 + j, none⟩ = some (enc xs[j]) := by
 obtain ⟨_, h2⟩ := h
 rcases h2 with ⟨rfl, h0⟩ | ⟨g, cap, cur, rfl, hb, hg, hcap, _, _, htake⟩
 · exact .inl ⟨rfl, List.length_eq_zero_iff.1 h0⟩
 · refine .inr ⟨g, cap, rfl, hcap, hb, (Array.getElem?_eq_some_iff.1 hg).1, fun j hj => ?_⟩
   rw [Nat.zero_add]
   have h1 := congrArg (fun l => l[j]?) htake
   simp only [Nat.mul_one, List.getElem?_take, hj, if_true, List.getElem?_map, List.getElem?_eq_getElem hj, Option.map_some] at h1
   simp only [World.cell?, hg]
   simpa using h1
theorem Own1.weaken {α : Type} {w : World} {base base' : Nat} {e : TypeId} {enc : α → Value} {v : Value} {xs : List α} (h : Own1 w base e enc v xs) (hb : base' ≤ base) : Own1 w base' e enc v xs := by
 obtain ⟨h1, h2⟩ := h
 refine ⟨h1, ?_⟩
 rcases h2 with h2 | ⟨g, cap, cur, hv, hbg, r⟩
 · exact .inl h2
 · exact .inr ⟨g, cap, cur, hv, Nat.le_trans hb hbg, r⟩
theorem IsInts.one {w : World} {v : Value} {l : List Int} (h : IsInts w v l) : (idV v).oneCell' = true := by
 obtain ⟨A, cap, rfl, _⟩ := h.opened
 rfl
theorem IsInts.cells {w : World} {v : Value} {l : List Int} (h : IsInts w v l) : v.cells = #[v] := by
 obtain ⟨A, cap, rfl, _⟩ := h.opened
 rfl
theorem Reads.one {w : World} {vs : List Value} {ll : List (List Int)} (h : Reads w vs ll) : ∀ y ∈ vs, (idV y).oneCell' = true := by
 intro y hy
 obtain ⟨i, hi, rfl⟩ := List.getElem_of_mem hy
 have := h.2 i (by rw [← h.1]; exact hi)
 rw [getD_of _ hi] at this
 exact this.one
def EmptyRow (w : World) (v : Value) (B : Nat) (e : TypeId) : Prop := ∃ g, v = .slice (some ⟨g, 0, none⟩) 0 0 ∧ B ≤ g ∧ w.heap[g]? = some (.cells #[] e (0, 0))
theorem EmptyRow.ext {w w' : World} {v : Value} {B : Nat} {e : TypeId} (h : EmptyRow w v B e) (hx : Ext w w') : EmptyRow w' v B e :=
 let ⟨g, h1, h2, h3⟩ := h; ⟨g, h1, h2, (Below.block hx g (Array.getElem?_eq_some_iff.1 h3).1).trans h3⟩
theorem EmptyRow.made (w : World) (B : Nat) (e : TypeId) (h : B ≤ w.heap.size) : EmptyRow (w.alloc (.cells #[] e)) (.slice (some ⟨w.heap.size, 0, none⟩) 0 0) B e := ⟨_, rfl, h, heap_alloc_new w _⟩
def OneRow (w : World) (v : Value) (x : Value) : Prop := ∃ g, v = .slice (some ⟨g, 0, none⟩) 1 1 ∧ w.cell? ⟨g, 0, none⟩ = some x
theorem OneRow.ext {w w' : World} {v x : Value} (h : OneRow w v x) (hx : Ext w w') : OneRow w' v x := let ⟨g, h1, h2⟩ := h; ⟨g, h1, hx.cell h2⟩
theorem OneRow.made (w : World) (x : Value) (e : TypeId) : OneRow (w.alloc (.cells #[x] e)) (.slice (some ⟨w.heap.size, 0, none⟩) 1 1) x := ⟨_, rfl, cell_new _ _ _ _⟩
theorem OneRow.src {w : World} {v x : Value} (h : OneRow w v x) : Src w idV v [x] := by
 obtain ⟨g, rfl, hc⟩ := h
 refine ⟨_, _, rfl, fun j hj => ⟨g, 0, rfl, ?_⟩⟩
 obtain rfl : j = 0 := by rw [List.length_singleton] at hj; omega
 exact hc
theorem below_ext {w w1 w2 : World} (hx : Ext w.drew w1) (hb : Below w.heap.size w1 w2) : Ext w w2 := Below.trans (((Ext.refl w).drew).trans hx) hb
/-- A literal list. -/
theorem IsInts.made (w : World) (xs : List Int) (e : TypeId) (h : xs.length ≤ 17592186043904) : IsInts (w.alloc (.cells (xs.map (Value.int .i64)).toArray e)) (.slice (some ⟨w.heap.size, 0, none⟩) xs.length xs.length) xs := by
 refine ⟨fun k => ((xs.map (Value.int .i64))[k]?).getD undef, ⟨_, _, rfl, h, Nat.le_refl _, fun j hj => ⟨_, 0, rfl, ?_⟩⟩, fun j hj => ?_⟩
 · have hj' : j < xs.length := by omega
   rw [Nat.zero_add, cell_new]
   simp [hj']
 · simp [hj]
end Go.Tw
