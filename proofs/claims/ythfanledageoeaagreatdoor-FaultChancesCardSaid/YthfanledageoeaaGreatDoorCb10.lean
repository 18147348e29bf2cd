/- Maps with string keys that a call makes, as lists of pairs: look-ups and stores. Contracts: the kinds of gates, what one of them needs, a gate's mask and need, its error. A list of lists that a call makes and appends to. The contract of the reference's sets, in order. Contracts: the reference's Cuts, Paths, Single, CheckSet, CheckSets, contains, CheckCuts. The contract of the reference's weight. The contract of the reference's Lowest. Contracts: chances with others in their place, probabilities. Contracts: probabilities of the reference. -/
import Derived.Test.YthfanledageoeaaGreatDoorCb05
import Derived.Maps.OwnSet
import Derived.MapKept
import Derived.Test.YthfanledageoeaaGreatDoorCb09
import Derived.IntWalk
set_option linter.unusedVariables false
set_option linter.unusedSimpArgs false
set_option linter.constructorNameAsVariable false
namespace Go.Tw
open Go.RowKit Go.Flow
def findS (s : ByteArray) : List (ByteArray × Value) → Option Value
 | [] => none
 | p :: l => if (s == p.1) = true then some p.2 else findS s l
def putS (s : ByteArray) (v : Value) : List (ByteArray × Value) → List (ByteArray × Value)
 | [] => [(s, v)]
 | p :: l => if (s == p.1) = true then (s, v) :: l else p :: putS s v l
/-- Block b is a map that holds these pairs. -/
def StrMap (w : World) (b : Nat) (l : List (ByteArray × Value)) : Prop :=
 ∃ a clock, w.heap[b]? = some (.map a clock) ∧ a.toList.map (fun e => (e.key, e.val)) = l.map fun p => (Value.string p.1, p.2)
theorem StrMap.made (w : World) : StrMap (w.alloc (.map #[] 0)) w.heap.size [] := ⟨#[], 0, by show (w.heap.push _)[w.heap.size]? = _; simp, rfl⟩
theorem StrMap.ext {w w' : World} {b : Nat} {l : List (ByteArray × Value)} (h : StrMap w b l) (hx : Ext w w') : StrMap w' b l := by
 obtain ⟨a, c, hb, he⟩ := h
 exact ⟨a, c, by rw [Below.block hx b (Array.getElem?_eq_some_iff.1 hb).1]; exact hb, he⟩
theorem StrMap.lt {w : World} {b : Nat} {l : List (ByteArray × Value)} (h : StrMap w b l) : b < w.heap.size := by
 obtain ⟨a, c, hb, _⟩ := h
 exact (Array.getElem?_eq_some_iff.1 hb).1
theorem findNow_str (s : ByteArray) : ∀ (es : List MapEntry) (l : List (ByteArray × Value)) (i : Nat), es.map (fun e => (e.key, e.val)) = l.map (fun p => (Value.string p.1, p.2)) →
    ∃ r, Instr.findNow .string (.string s) es i = some r ∧ r.map (·.2) = findS s l
 | [], [], i, _ => ⟨none, rfl, rfl⟩
 | [], _ :: _, _, h => by simp at h
 | _ :: _, [], _, h => by simp at h
 | e :: es, p :: l, i, h => by
   simp only [List.map_cons, List.cons.injEq, Prod.mk.injEq] at h
   obtain ⟨⟨h1, h2⟩, h3⟩ := h
   unfold Instr.findNow findS
   simp only [h1, Instr.sameNow, h2]
   cases hs : (s == p.1) with
   | true => exact ⟨some (i, p.2), by simp, by simp⟩
   | false =>
     obtain ⟨r, hr, hf⟩ := findNow_str s es l (i + 1) h3
     exact ⟨r, by simpa using hr, by simpa using hf⟩
theorem str_self (s : ByteArray) : (s == s) = true := str_eq rfl
theorem str_beq {a b : ByteArray} (h : (a == b) = true) : a = b := by
 cases hb : decide (a = b) with
 | true => exact of_decide_eq_true hb
 | false => rw [str_ne (of_decide_eq_false hb)] at h; cases h
/-- Where the key stands. -/
theorem findNow_at (s : ByteArray) : ∀ (es : List MapEntry) (l : List (ByteArray × Value)) (i : Nat), es.map (fun e => (e.key, e.val)) = l.map (fun p => (Value.string p.1, p.2)) →
    (Instr.findNow .string (.string s) es i = some none ∧ ∀ v, putS s v l = l ++ [(s, v)]) ∨
    (∃ j x, Instr.findNow .string (.string s) es i = some (some (i + j, x)) ∧ j < es.length ∧ (∃ e, es[j]? = some e ∧ e.key = .string s) ∧ ∀ v e, e.key = Value.string s → e.val = v →
     (es.set j e).map (fun e => (e.key, e.val)) = (putS s v l).map (fun p => (Value.string p.1, p.2)))
 | [], [], i, _ => .inl ⟨rfl, fun v => rfl⟩
 | [], _ :: _, _, h => by simp at h
 | _ :: _, [], _, h => by simp at h
 | e :: es, p :: l, i, h => by
   simp only [List.map_cons, List.cons.injEq, Prod.mk.injEq] at h
   obtain ⟨⟨h1, h2⟩, h3⟩ := h
   cases hs : (s == p.1) with
   | true =>
     have hsp := str_beq hs
     refine .inr ⟨0, e.val, ?_, by simp, ⟨e, rfl, by rw [h1, hsp]⟩, fun v e' h4 h5 => ?_⟩
     · unfold Instr.findNow
       simp only [h1, Instr.sameNow, hs]; rfl
     · unfold putS
       rw [if_pos hs]
       simp [h4, h5, h3]
   | false =>
     have hn : ¬ (s == p.1) = true := by rw [hs]; simp
     rcases findNow_at s es l (i + 1) h3 with ⟨ha, hb⟩ | ⟨j, x, ha, hj, ⟨e0, he0, hk0⟩, hb⟩
     · refine .inl ⟨?_, fun v => ?_⟩
       · unfold Instr.findNow
         simp only [h1, Instr.sameNow, hs]; exact ha
       · unfold putS
         rw [if_neg hn, hb v]; rfl
     · refine .inr ⟨j + 1, x, ?_, by simp; omega, ⟨e0, by simpa using he0, hk0⟩, fun v e' h4 h5 => ?_⟩
       · unfold Instr.findNow
         simp only [h1, Instr.sameNow, hs]
         rw [show i + (j + 1) = i + 1 + j from by omega]; exact ha
       · unfold putS
         rw [if_neg hn]
         simp only [List.set_cons_succ, List.map_cons, h1, h2]
         rw [hb v e' h4 h5]
theorem run_getMap {P : Program} {w : World} {r : Nat} {es : Array MapEntry} {clock : Nat} (hb : w.heap[r]? = some (.map es clock)) : (getObj r).run P w = .ok (.map es clock) w := by
 simp [getObj, Sem.run, hb]
theorem run_setMap {P : Program} {w : World} {r : Nat} {es : Array MapEntry} {clock : Nat} (o : Obj) (hb : w.heap[r]? = some (.map es clock)) : (setObj r o).run P w = .ok () { w with heap := w.heap.setIfInBounds r o } := by
 simp [setObj, Sem.run, hb]
theorem run_keyStr {P : Program} {w : World} {k : TypeId} (hk : P.underlying k = some .string) (e : Bool) (s : ByteArray) (n : Nat) : (Instr.checkKey e (n + 1) k (.string s)).run P w = .ok () w := by
 unfold Instr.checkKey
 simp only [Sem.run_bind, run_underlying hk, Result.andThen_ok, Sem.run_pure]
theorem run_lookup_str {P : Program} {w : World} {b : Nat} {l : List (ByteArray × Value)} (h : StrMap w b l) {t k e : TypeId} (ht : P.underlying t = some (.map k e)) (hk : P.underlying k = some .string) {z : Value} (hz : (zeroValue e).run P w = .ok z w) (s : ByteArray) (ok : Bool) :
    (Instr.lookup t (.map (some b)) (.string s) ok).run P w = .ok (if ok then .tuple #[(findS s l).getD z, .bool (findS s l).isSome] else (findS s l).getD z) w := by
 obtain ⟨a, clock, hb, he⟩ := h
 obtain ⟨r, hr, hf⟩ := findNow_str s a.toList l 0 he
 unfold Instr.lookup
 simp only [Sem.run_bind, run_underlying ht, Result.andThen_ok, run_getMap hb, Sem.run_pure, run_keyStr hk _ s 9999, Instr.findKey, run_underlying hk, hr]
 rw [← hf]
 cases r with
 | none => simp only [Sem.run_bind, hz, Result.andThen_ok, Sem.run_pure]; cases ok <;> rfl
 | some p => cases ok <;> rfl
theorem run_put_str {P : Program} {w : World} {b : Nat} {l : List (ByteArray × Value)} (h : StrMap w b l) {t k e : TypeId} (ht : P.underlying t = some (.map k e)) (hk : P.underlying k = some .string) (s : ByteArray) (v : Value) :
    ∃ w', (Instr.mapUpdate t (.map (some b)) (.string s) v).run P w = .ok () w' ∧ StrMap w' b (putS s v l) ∧ (∀ n, n ≤ b → Below n w w') ∧ w.grownBy w' (some b) := by
 obtain ⟨a, clock, hb, he⟩ := h
 have hlt := (Array.getElem?_eq_some_iff.1 hb).1
 have hbel : ∀ o n, n ≤ b → Below n w { w with heap := w.heap.setIfInBounds b o } := fun o n hn =>
  ⟨rfl, rfl, rfl, by simp, fun k hk' => by show (w.heap.setIfInBounds b o)[k]? = _; rw [Array.getElem?_setIfInBounds_ne (by omega)]⟩
 have hgr : ∀ o, w.grownBy { w with heap := w.heap.setIfInBounds b o } (some b) := fun o =>
  ⟨rfl, rfl, rfl, by simp, fun k _ hk' => by show (w.heap.setIfInBounds b o)[k]? = _; rw [Array.getElem?_setIfInBounds_ne (fun e => hk' (by rw [e]))]⟩
 rcases findNow_at s a.toList l 0 he with ⟨hr, hp⟩ | ⟨j, x, hr, hj, ⟨e0, he0, hk0⟩, hp⟩
 · refine ⟨{ w with heap := w.heap.setIfInBounds b (.map (a.push ⟨.string s, v, clock⟩) (clock + 1)) }, ?_, ⟨a.push ⟨.string s, v, clock⟩, clock + 1, ?_, ?_⟩, hbel _, hgr _⟩
   · unfold Instr.mapUpdate
     simp only [Sem.run_bind, run_underlying ht, Result.andThen_ok, run_getMap hb, Sem.run_pure, run_keyStr hk _ s 9999, Instr.findKey, run_underlying hk, hr]
     exact run_setMap _ hb
   · show (w.heap.setIfInBounds b _)[b]? = _; simp [hlt]
   · rw [hp v]; simp [he]
 · rw [Nat.zero_add] at hr
   have he0' : a[j]? = some e0 := by simpa using he0
   refine ⟨{ w with heap := w.heap.setIfInBounds b (.map (a.modify j fun e => { e with key := .string s, val := v }) clock) }, ?_, ⟨a.modify j fun e => { e with key := .string s, val := v }, clock, ?_, ?_⟩, hbel _, hgr _⟩
   · unfold Instr.mapUpdate
     simp only [Sem.run_bind, run_underlying ht, Result.andThen_ok, run_getMap hb, Sem.run_pure, run_keyStr hk _ s 9999, Instr.findKey, run_underlying hk, hr, he0', Option.map_some, Option.getD_some, hk0]
     have hkt : (Instr.keyThatStays (.string s) (.string s)).run P w = .ok (.string s) w := by
      unfold Instr.keyThatStays
      rw [if_pos (by unfold Instr.sameBits; exact str_self s)]; rfl
     simp only [hkt, Result.andThen_ok]
     exact run_setMap _ hb
   · show (w.heap.setIfInBounds b _)[b]? = _; simp [hlt]
   · have := hp v { e0 with key := .string s, val := v } rfl rfl
     rw [← this]
     congr 1
     apply List.ext_getElem?
     intro i
     rw [Array.getElem?_toList, Array.getElem?_modify, List.getElem?_set]
     by_cases hij : j = i
     · subst hij
       have hja : j < a.size := by simpa using hj
       simp only [he0', Option.map_some, if_true, Array.length_toList, hja]
     · simp [hij]
end Go.Tw
namespace Go.Proofs
open Go.RowKit Go.Tw Go.Flow
def kv (f : Nat) : Value := .agg #[.func (.func f) #[] #[]]
def kindsL : List (ByteArray × Value) := [(sAnd, kv 144), (sOr, kv 145), (sVote, kv 146)]
theorem uKinds : Tryz.prog.underlying 162 = some (.map 9 169) := by kernel_rfl
theorem uStr : Tryz.prog.underlying 9 = some .string := by kernel_rfl
theorem zKind (w : World) : (zeroValue 169).run Tryz.prog w = .ok (.agg #[.nilFunc]) w := by kernel_rfl
set_option maxRecDepth 1000000 in
theorem kinds_any (w : World) :
    Calls Tryz.prog 119 #[] w fun e w' => ∃ b, e = .returned (.map (some b)) ∧ StrMap w' b kindsL ∧ Ext w w' := by
 have hmm := @run_makeMap Tryz.prog
 obtain ⟨W1, e1, m1, b1, _⟩ := run_put_str (P := Tryz.prog) (StrMap.made w) uKinds uStr sAnd (kv 144)
 obtain ⟨W2, e2, m2, b2, _⟩ := run_put_str (P := Tryz.prog) m1 uKinds uStr sOr (kv 145)
 obtain ⟨W3, e3, m3, b3, _⟩ := run_put_str (P := Tryz.prog) m2 uKinds uStr sVote (kv 146)
 have hx : Ext w W3 := Below.trans (Below.trans (Below.trans (Ext.box w (.map #[] 0)) (b1 w.heap.size (Nat.le_refl _))) (b2 w.heap.size (Nat.le_refl _))) (b3 w.heap.size (Nat.le_refl _))
 have HM : Hid (StrMap W3 w.heap.size kindsL) := m3
 clear m1 m2 m3 b1 b2 b3
 unfold kv sAnd at e1
 unfold kv sOr at e2
 unfold kv sVote at e3
 go_enter Tryz.func119, Tryz.ntmps119
 go_wp2
 go_ret
 exact ⟨_, rfl, HM.out, hx⟩
theorem kind1_any (w : World) (k v : Value) (n : Int) (l : List Int) (hv : IsInts w v l) :
    Calls Tryz.prog 144 #[.agg #[k, .int .i64 n, v]] w fun e w' => e = .returned (.int .i64 l.length) ∧ Ext w w' := by
 obtain ⟨A, cap, rfl, hl, hcap, hc⟩ := hv.opened
 clear hv hc
 go_enter Tryz.func144, Tryz.ntmps144
 go_wp2
 go_ret
 exact ⟨rfl, Ext.box _ _⟩
theorem kind2_any (w : World) (k v : Value) (n : Int) :
    Calls Tryz.prog 145 #[.agg #[k, .int .i64 n, v]] w fun e w' => e = .returned (.int .i64 1) ∧ Ext w w' := by
 go_enter Tryz.func145, Tryz.ntmps145
 go_wp2
 go_ret
 exact ⟨rfl, Ext.box _ _⟩
theorem kind3_any (w : World) (k v : Value) (n : Int) :
    Calls Tryz.prog 146 #[.agg #[k, .int .i64 n, v]] w fun e w' => e = .returned (.int .i64 n) ∧ Ext w w' := by
 go_enter Tryz.func146, Tryz.ntmps146
 go_wp2
 go_ret
 exact ⟨rfl, Ext.box _ _⟩
end Go.Proofs
namespace Go.Tw
open Go.RowKit Go.Flow
def idV (x : Value) : Value := x
/-- The values read as these lists. -/
def Reads (w : World) (vs : List Value) (ll : List (List Int)) : Prop := vs.length = ll.length ∧ ∀ i, i < ll.length → IsInts w (vs.getD i undef) (ll.getD i [])
theorem Reads.ext {w w' : World} {vs : List Value} {ll : List (List Int)} (h : Reads w vs ll) (hx : Ext w w') : Reads w' vs ll := ⟨h.1, fun i hi => (h.2 i hi).ext hx⟩
theorem IsInts.below {w w' : World} {B : Nat} {v : Value} {l : List Int} (h : IsInts w v l) (hb : Below B w w') (hlow : ∀ b o c, v = .slice (some ⟨b, o, none⟩) l.length c → l ≠ [] → b < B) : IsInts w' v l := by
 obtain ⟨c, ⟨A, cap, hv, hn, hcap, hc⟩, h2⟩ := h
 refine ⟨c, ⟨A, cap, hv, hn, hcap, fun j hj => ?_⟩, h2⟩
 obtain ⟨b, off, hA, h⟩ := hc j hj
 refine ⟨b, off, hA, ?_⟩
 have : b < B := hlow b off cap (by rw [hv, hA]) (fun e => by rw [e] at hj; simp at hj)
 exact (hb.cell (p := ⟨b, off + j, none⟩) this).trans h
theorem Reads.snoc {w : World} {vs : List Value} {ll : List (List Int)} {v : Value} {l : List Int} (h : Reads w vs ll) (hv : IsInts w v l) : Reads w (vs ++ [v]) (ll ++ [l]) := by
 refine ⟨by simp [h.1], fun i hi => ?_⟩
 rw [List.length_append, List.length_singleton] at hi
 by_cases hlt : i < ll.length
 · have e1 : (vs ++ [v]).getD i undef = vs.getD i undef := by simp [List.getElem?_append_left (show i < vs.length by rw [h.1]; exact hlt)]
   have e2 : (ll ++ [l]).getD i [] = ll.getD i [] := by simp [List.getElem?_append_left hlt]
   rw [e1, e2]; exact h.2 i hlt
 · have e : i = ll.length := by omega
   have e1 : (vs ++ [v]).getD i undef = v := by rw [e, ← h.1]; simp
   have e2 : (ll ++ [l]).getD i [] = l := by rw [e]; simp
   rw [e1, e2]; exact hv
theorem Own1.intss {w : World} {base : Nat} {e : TypeId} {v : Value} {vs : List Value} {ll : List (List Int)} (h : Own1 w base e idV v vs) (hr : Reads w vs ll) (hl : ll.length ≤ 17592186043904) : IsIntss w v ll := by
 refine ⟨fun k => vs.getD k undef, ?_, fun j hj => ?_⟩
 · rw [← hr.1]
   exact h.row (by rw [hr.1]; exact hl) _ (fun k hk => by simp [hk, idV])
 · have := hr.2 j hj
   rw [getD_of _ hj] at this
   simpa using this
theorem IsIntss.opened {w : World} {v : Value} {ll : List (List Int)} (h : IsIntss w v ll) :
    ∃ A cap, v = .slice A ll.length cap ∧ ll.length ≤ 17592186043904 ∧ ll.length ≤ cap ∧ ∀ k, k < ll.length → ∃ b off m, A = some ⟨b, off, none⟩ ∧ b < w.heap.size ∧ w.cell? ⟨b, off + k, none⟩ = some m ∧ IsInts w m (ll.getD k []) := by
 obtain ⟨c, ⟨A, cap, hv, hn, hcap, hc⟩, h2⟩ := h
 refine ⟨A, cap, hv, hn, hcap, fun k hk => ?_⟩
 obtain ⟨b, off, hA, h⟩ := hc k (by omega)
 refine ⟨b, off, c k, hA, World.block_lt_of_cell? w _ h, h, ?_⟩
 have := h2 k hk
 simp only [Nat.mul_one, Nat.add_zero] at this
 rw [getD_of _ hk]; exact this
/-- A slice of the call's own, as a source and as a thing to be indexed. -/
theorem Own1.cells {α : Type} {w : World} {base : Nat} {e : TypeId} {enc : α → Value} {v : Value} {xs : List α} (h : Own1 w base e enc v xs) :
    ∃ A c, v = .slice A xs.length c ∧ xs.length ≤ c ∧ (∀ j (hj : j < xs.length), ∃ g, A = some ⟨g, 0, none⟩ ∧ base ≤ g ∧ g < w.heap.size ∧ w.cell? ⟨g, 0 + j, none⟩ = some (enc xs[j])) := by
 obtain ⟨_, h2⟩ := h
 rcases h2 with ⟨rfl, h0⟩ | ⟨g, cap, cur, rfl, hb, hg, hcap, _, _, htake⟩
 · exact ⟨none, 0, by rw [h0], by omega, fun j hj => by omega⟩
 · refine ⟨some ⟨g, 0, none⟩, cap, rfl, hcap, fun j hj => ⟨g, rfl, hb, (Array.getElem?_eq_some_iff.1 hg).1, ?_⟩⟩
   rw [Nat.zero_add]
   have h1 := congrArg (fun l => l[j]?) htake
   simp only [Nat.mul_one, List.getElem?_take, hj, if_true, List.getElem?_map, List.getElem?_eq_getElem hj, Option.map_some] at h1
   simp only [World.cell?, hg]
   simpa using h1
theorem Own1.cells2 {α : Type} {w : World} {base : Nat} {e : TypeId} {enc : α → Value} {v : Value} {xs : List α} (h : Own1 w base e enc v xs) :
    (v = .slice none 0 0 ∧ xs = []) ∨ ∃ g c, v = .slice (some ⟨g, 0, none⟩) xs.length c ∧ xs.length ≤ c ∧ base ≤ g ∧ g < w.heap.size ∧ ∀ j (hj : j < xs.length), w.cell? ⟨g, 0 + j, none⟩ = some (enc xs[j]) := by
 obtain ⟨_, h2⟩ := h
 rcases h2 with ⟨rfl, h0⟩ | ⟨g, cap, cur, rfl, hb, hg, hcap, _, _, htake⟩
 · exact .inl ⟨rfl, List.length_eq_zero_iff.1 h0⟩
 · refine .inr ⟨g, cap, rfl, hcap, hb, (Array.getElem?_eq_some_iff.1 hg).1, fun j hj => ?_⟩
   rw [Nat.zero_add]
   have h1 := congrArg (fun l => l[j]?) htake
   simp only [Nat.mul_one, List.getElem?_take, hj, if_true, List.getElem?_map, List.getElem?_eq_getElem hj, Option.map_some] at h1
   simp only [World.cell?, hg]
   simpa using h1
theorem Own1.weaken {α : Type} {w : World} {base base' : Nat} {e : TypeId} {enc : α → Value} {v : Value} {xs : List α} (h : Own1 w base e enc v xs) (hb : base' ≤ base) : Own1 w base' e enc v xs := by
 obtain ⟨h1, h2⟩ := h
 refine ⟨h1, ?_⟩
 rcases h2 with h2 | ⟨g, cap, cur, hv, hbg, r⟩
 · exact .inl h2
 · exact .inr ⟨g, cap, cur, hv, Nat.le_trans hb hbg, r⟩
theorem IsInts.one {w : World} {v : Value} {l : List Int} (h : IsInts w v l) : (idV v).oneCell' = true := by
 obtain ⟨A, cap, rfl, _⟩ := h.opened
 rfl
theorem IsInts.cells {w : World} {v : Value} {l : List Int} (h : IsInts w v l) : v.cells = #[v] := by
 obtain ⟨A, cap, rfl, _⟩ := h.opened
 rfl
theorem Reads.one {w : World} {vs : List Value} {ll : List (List Int)} (h : Reads w vs ll) : ∀ y ∈ vs, (idV y).oneCell' = true := by
 intro y hy
 obtain ⟨i, hi, rfl⟩ := List.getElem_of_mem hy
 have := h.2 i (by rw [← h.1]; exact hi)
 rw [getD_of _ hi] at this
 exact this.one
def EmptyRow (w : World) (v : Value) (B : Nat) (e : TypeId) : Prop := ∃ g, v = .slice (some ⟨g, 0, none⟩) 0 0 ∧ B ≤ g ∧ w.heap[g]? = some (.cells #[] e (0, 0))
theorem EmptyRow.ext {w w' : World} {v : Value} {B : Nat} {e : TypeId} (h : EmptyRow w v B e) (hx : Ext w w') : EmptyRow w' v B e :=
 let ⟨g, h1, h2, h3⟩ := h; ⟨g, h1, h2, (Below.block hx g (Array.getElem?_eq_some_iff.1 h3).1).trans h3⟩
theorem EmptyRow.made (w : World) (B : Nat) (e : TypeId) (h : B ≤ w.heap.size) : EmptyRow (w.alloc (.cells #[] e)) (.slice (some ⟨w.heap.size, 0, none⟩) 0 0) B e := ⟨_, rfl, h, heap_alloc_new w _⟩
def OneRow (w : World) (v : Value) (x : Value) : Prop := ∃ g, v = .slice (some ⟨g, 0, none⟩) 1 1 ∧ w.cell? ⟨g, 0, none⟩ = some x
theorem OneRow.ext {w w' : World} {v x : Value} (h : OneRow w v x) (hx : Ext w w') : OneRow w' v x := let ⟨g, h1, h2⟩ := h; ⟨g, h1, hx.cell h2⟩
theorem OneRow.made (w : World) (x : Value) (e : TypeId) : OneRow (w.alloc (.cells #[x] e)) (.slice (some ⟨w.heap.size, 0, none⟩) 1 1) x := ⟨_, rfl, cell_new _ _ _ _⟩
theorem OneRow.src {w : World} {v x : Value} (h : OneRow w v x) : Src w idV v [x] := by
 obtain ⟨g, rfl, hc⟩ := h
 refine ⟨_, _, rfl, fun j hj => ⟨g, 0, rfl, ?_⟩⟩
 obtain rfl : j = 0 := by rw [List.length_singleton] at hj; omega
 exact hc
/-- A literal list. -/
theorem IsInts.made (w : World) (xs : List Int) (e : TypeId) (h : xs.length ≤ 17592186043904) : IsInts (w.alloc (.cells (xs.map (Value.int .i64)).toArray e)) (.slice (some ⟨w.heap.size, 0, none⟩) xs.length xs.length) xs := by
 refine ⟨fun k => ((xs.map (Value.int .i64))[k]?).getD undef, ⟨_, _, rfl, h, Nat.le_refl _, fun j hj => ⟨_, 0, rfl, ?_⟩⟩, fun j hj => ?_⟩
 · have hj' : j < xs.length := by omega
   rw [Nat.zero_add, cell_new]
   simp [hj']
 · simp [hj]
end Go.Tw
namespace Go.Proofs
open Go.RowKit Go.Tw Go.Flow
theorem Tryz.info39 : (Tryz.prog.info? 39).map (fun i => (i.zero, i.size, i.bytes)) = some (some (.slice none 0 0), 1, 24) := by kernel_rfl
def setsTo (t : Tree) (p : Bool) (n : Nat) : List (List Int) := (List.range n).foldl (fun out s => if t.minimalB (bitsOf s) p then insertBack (bitsOf s) out else out) []
theorem setsTo_succ (t : Tree) (p : Bool) (n : Nat) : setsTo t p (n + 1) = if t.minimalB (bitsOf n) p then insertBack (bitsOf n) (setsTo t p n) else setsTo t p n := by
 unfold setsTo; rw [List.range_succ, List.foldl_append]; rfl
theorem posBack_le (l : List Int) (out : List (List Int)) : ∀ n, posBack l out n ≤ n
 | 0 => Nat.le_refl _
 | n + 1 => by
   unfold posBack
   split
   · exact Nat.le_trans (posBack_le l out n) (by omega)
   · exact Nat.le_refl _
end Go.Proofs
namespace Go.Proofs
open Go.RowKit Go.Tw Go.Flow
def singleTo (t : Tree) (n : Nat) : List Int := ((List.range n).map Int.ofNat).filter fun x => t.fails (evL [x])
theorem singleTo_succ (t : Tree) (n : Nat) : singleTo t (n + 1) = singleTo t n ++ if t.fails (evL [(n : Int)]) then [(n : Int)] else [] := by
 unfold singleTo
 rw [List.range_succ, List.map_append, List.filter_append]
 cases h : t.fails (evL [(n : Int)]) <;> simp [h]
theorem singleTo_len (t : Tree) (n : Nat) : (singleTo t n).length ≤ n := by
 unfold singleTo; exact Nat.le_trans (List.length_filter_le _ _) (by simp)
end Go.Proofs
namespace Go.Proofs
open Go.RowKit Go.Tw Go.Flow
theorem evL_bits {s : Nat} (hs : s < 65536) : evL (bitsOf s) = evN s := by
 funext i
 unfold evL evN has bitsOf
 rw [Bool.eq_iff_iff]
 simp only [List.contains_iff_mem, List.mem_map, List.mem_filter, List.mem_range]
 constructor
 · rintro ⟨a, ⟨_, h⟩, he⟩
   have : a = i := by have : (a : Int) = (i : Int) := he; omega
   rw [← this]; exact h
 · intro h
   refine ⟨i, ⟨?_, h⟩, rfl⟩
   rcases Nat.lt_or_ge i 16 with h' | h'
   · exact h'
   · rw [Nat.testBit_lt_two_pow (Nat.lt_of_lt_of_le hs (Nat.pow_le_pow_right (n := 2) (by omega) h'))] at h
     cases h
/-- Chances of at most twelve events. -/
structure Small (c : List Int) : Prop where
 len : c.length ≤ 12
 range : ∀ x ∈ c, 0 ≤ x ∧ x ≤ 16
theorem Small.ix {c : List Int} (h : Small c) {j : Nat} (hj : j < c.length) : 0 ≤ ix c j ∧ ix c j ≤ 16 := by
 rw [ix_eq hj]; exact h.range _ (List.getElem_mem hj)
theorem Small.factor {c : List Int} (h : Small c) (s : Nat) {j : Nat} (hj : j < c.length) : 0 ≤ factor c s j ∧ factor c s j ≤ 16 := by
 have := h.ix hj
 unfold Tw.factor
 split <;> omega
theorem partTo_bd {c : List Int} (h : Small c) (s : Nat) : ∀ j, j ≤ c.length → 0 ≤ partTo c s j ∧ partTo c s j ≤ 16 ^ j
 | 0, _ => by simp [partTo]
 | j + 1, hj => by
   obtain ⟨h1, h2⟩ := partTo_bd h s j (by omega)
   obtain ⟨h3, h4⟩ := h.factor s (show j < c.length by omega)
   unfold partTo
   refine ⟨Int.mul_nonneg h1 h3, ?_⟩
   rw [Int.pow_succ]
   exact Int.mul_le_mul h2 h4 h3 (Int.le_trans h1 h2)
theorem pow16_le {j : Nat} (h : j ≤ 12) : (16 : Int) ^ j ≤ 281474976710656 := by
 have : (16 : Nat) ^ j ≤ 16 ^ 12 := Nat.pow_le_pow_right (by omega) h
 have h2 : ((16 ^ j : Nat) : Int) ≤ ((16 ^ 12 : Nat) : Int) := by exact_mod_cast this
 simpa using h2
theorem partTo_le {c : List Int} (h : Small c) (s : Nat) {j : Nat} (hj : j ≤ c.length) : 0 ≤ partTo c s j ∧ partTo c s j ≤ 281474976710656 := by
 have := partTo_bd h s j hj
 have h2 := pow16_le (show j ≤ 12 from Nat.le_trans hj h.len)
 omega
end Go.Proofs
namespace Go.Proofs
open Go.RowKit Go.Tw Go.Flow
theorem gcd_step (a b : Int) (h0 : 0 ≤ a) (hb : 0 < b) : Int.gcd b (a.tmod b) = Int.gcd a b := by
 obtain ⟨n, rfl⟩ := Int.eq_ofNat_of_zero_le h0
 obtain ⟨m, rfl⟩ := Int.eq_ofNat_of_zero_le (Int.le_of_lt hb)
 show Nat.gcd m (n % m) = Nat.gcd n m
 rw [Nat.gcd_comm n m, Nat.gcd_comm m, ← Nat.gcd_rec]
theorem Ext.frozen {a b : World} (h : Ext a b) {p : Addr} (hp : p.block < a.heap.size) : b.frozen? p = a.frozen? p := by
 obtain ⟨_, _, _, _, h5⟩ := h
 unfold World.frozen?; rw [h5 _ hp]
theorem wrap_in {n : Int} (h1 : -9223372036854775808 ≤ n) (h2 : n ≤ 9223372036854775807) : IntKind.i64.wrap n = n := by
 simp only [IntKind.wrap, IntKind.bits, IntKind.signed, Bool.true_and, decide_eq_true_eq, ge_iff_le]
 split <;> omega
theorem frozen_new (w : World) (cs : Array Value) (e : TypeId) (i : Nat) : (w.alloc (.cells cs e)).frozen? ⟨w.heap.size, i, none⟩ = false := by
 have h : (w.alloc (.cells cs e)).heap[w.heap.size]? = some (.cells cs e) := by show (w.heap.push _)[_]? = _; simp
 unfold World.frozen?; rw [h]; simp
end Go.Proofs
namespace Go.Proofs
open Go.RowKit Go.Tw Go.Flow
theorem _root_.Go.Tw.Own1.spot {w : World} {base : Nat} {e : TypeId} {v : Value} {l : List Int} (h : Own1 w base e (Value.int .i64) v l) (h0 : 0 < l.length) :
    ∃ g cap, v = .slice (some ⟨g, 0, none⟩) l.length cap ∧ base ≤ g ∧ l.length ≤ cap := by
 rcases h.2 with ⟨rfl, hn⟩ | ⟨g, cap, cur, hv, hb, hg, hc, _⟩
 · omega
 · exact ⟨g, cap, hv, hb, hc⟩
theorem _root_.Go.Tw.Own1.at {w : World} {base : Nat} {e : TypeId} {g cap n : Nat} {l : List Int} (h : Own1 w base e (Value.int .i64) (.slice (some ⟨g, 0, none⟩) n cap) l) {j : Nat} (hj : j < l.length) :
    w.cell? ⟨g, j, none⟩ = some (.int .i64 (ix l j)) ∧ w.frozen? ⟨g, j, none⟩ = false := by
 rcases h.2 with ⟨hv, hn⟩ | ⟨g', cap', cur, hv, hb, hg, hc, hm, hs, ht⟩
 · cases hv
 · injection hv with h1 h2 h3
   injection h1 with h1
   injection h1 with h1
   subst h1
   have h1 := congrArg (fun l => l[j]?) ht
   simp only [Nat.mul_one, List.getElem?_take, hj, if_true, List.getElem?_map, List.getElem?_eq_getElem hj, Option.map_some] at h1
   refine ⟨?_, ?_⟩
   · rw [ix_eq hj]; simp only [World.cell?, hg]; simpa using h1
   · unfold World.frozen?; rw [hg]; simp
theorem _root_.Go.Tw.Own1.set {w : World} {base : Nat} {e : TypeId} {g cap n : Nat} {l : List Int} (h : Own1 w base e (Value.int .i64) (.slice (some ⟨g, 0, none⟩) n cap) l) {j : Nat} (x : Int) :
    Own1 (w.setCell ⟨g, j, none⟩ (.int .i64 x)) base e (Value.int .i64) (.slice (some ⟨g, 0, none⟩) n cap) (l.set j x) := by
 refine ⟨by simp, ?_⟩
 rcases h.2 with ⟨hv, hn⟩ | ⟨g', cap', cur, hv, hb, hg, hc, hm, hs, ht⟩
 · cases hv
 · injection hv with h1 h2 h3
   injection h1 with h1
   injection h1 with h1
   subst h1 h3
   refine .inr ⟨g, cap, cur.setIfInBounds j (.int .i64 x), by rw [List.length_set, h2], hb, ?_, by simpa using hc, hm, by simpa using hs, ?_⟩
   · simp only [World.setCell, Array.getElem?_modify, if_true, hg, Option.map_some]; rfl
   · rw [Array.toList_setIfInBounds, List.take_set, List.length_set, ht, List.map_set]
def withTo (c l : List Int) (n : Int) (k : Nat) : List Int := (List.range c.length).map fun (i : Nat) => if has (l.take k) i then n else ix c i
end Go.Proofs
namespace Go.Proofs
open Go.RowKit Go.Tw Go.Flow
theorem stored2 {W : World} {g : Nat} {x y u0 u1 : Value} (h0 : W.cell? ⟨g, 0, none⟩ = some u0) (h1 : W.cell? ⟨g, 1, none⟩ = some u1) :
    ((W.setCell ⟨g, 0, none⟩ x).setCell ⟨g, 1, none⟩ y).cell? ⟨g, 0, none⟩ = some x ∧ ((W.setCell ⟨g, 0, none⟩ x).setCell ⟨g, 1, none⟩ y).cell? ⟨g, 1, none⟩ = some y := by
 refine ⟨Eq.trans (World.cell?_setCell_other _ _ _ _ ?_) (World.cell?_setCell_same _ _ _ h0), World.cell?_setCell_same _ _ _ (Eq.trans (World.cell?_setCell_other _ _ _ _ ?_) h1)⟩
 · intro h; cases h
 · intro h; cases h
theorem _root_.Go.Tw.Ext.stored2 {w W : World} (h : Ext w W) {g : Nat} (hg : w.heap.size ≤ g) (x y : Value) : Ext w ((W.setCell ⟨g, 0, none⟩ x).setCell ⟨g, 1, none⟩ y) :=
 (h.setCell (p := ⟨g, 0, none⟩) hg x).setCell (p := ⟨g, 1, none⟩) hg y
/-- A result of two numbers has its cells at a block. -/
structure Res (w : World) (g : Nat) : Prop where
 c0 : w.cell? ⟨g, 0, none⟩ = some (.int .i64 0)
 c1 : w.cell? ⟨g, 1, none⟩ = some (.int .i64 0)
 f0 : w.frozen? ⟨g, 0, none⟩ = false
 f1 : w.frozen? ⟨g, 1, none⟩ = false
theorem Res.ext {w w' : World} {g : Nat} (h : Res w g) (hx : Ext w w') : Res w' g :=
 have hb := World.block_lt_of_cell? w _ h.c0
 ⟨hx.cell h.c0, hx.cell h.c1, (hx.frozen (p := ⟨g, 0, none⟩) hb).trans h.f0, (hx.frozen (p := ⟨g, 1, none⟩) hb).trans h.f1⟩
theorem Res.new (w : World) (T : TypeId) : Res (w.alloc (.cells #[.int .i64 0, .int .i64 0] T)) w.heap.size :=
 ⟨cell_new w #[.int .i64 0, .int .i64 0] T 0, cell_new w #[.int .i64 0, .int .i64 0] T 1, frozen_new _ _ _ _, frozen_new _ _ _ _⟩
theorem Res.new1 (w : World) (o : Obj) (T : TypeId) : Res ((w.alloc o).alloc (.cells #[.int .i64 0, .int .i64 0] T)) (w.heap.size + 1) := by
 have h := Res.new (w.alloc o) T
 have e : (w.alloc o).heap.size = w.heap.size + 1 := by show (w.heap.push _).size = _; rw [Array.size_push]
 rwa [e] at h
end Go.Proofs
