/- What the functions of chapter 7 come to, in plain lists and numbers: no program is in sight here. Contracts: Fails, the other events, sets without an element, cut sets and path sets, minimal ones. Contracts: sets without an element, cut sets and path sets, minimal ones. The contract of the reference's sets, in order. Contracts: the reference's Cuts, Paths, Single, CheckSet, CheckSets, contains, CheckCuts. Contracts: the reference's CheckSets, CheckCuts, chances, weight. Contracts: the reference's CheckCuts and ShortSets; the law's own function lists. The program's check of proofs is the reference's: plain lists and bits. The law FaultProofs: the call returns true. The law FaultProofs: for every input the call returns true, and each argument reads afterwards as before: the row's statement, and its tied card. The listed tables of math/bits and strconv are as the program's text lays them. -/
import Derived.Test.YthfanledageoeaaGreatDoorCb50
import Derived.WalkKit
import Derived.WalkSpells
import Derived.WalkLawsBesides
import Derived.Lib.Hide
import Derived.Below
import Derived.Carry
import Derived.Laws.AppendOwn
import Derived.Deep.DeepMust
import Derived.Deep.Light
import Derived.Test.YthfanledageoeaaGreatDoorProg
import Derived.Deep.QuietTactic
import Derived.BigQuiet
import Derived.Orders
import Derived.Deep.Draws
import Derived.Laws.StructEq
import Derived.IntWalk
import Derived.Laws.BitsLemmas
import Derived.Maps.OwnSet
import Derived.MapKept
import Derived.Shelf.Abstract
import Derived.OrdersIn
import Derived.RangeFuncCalls
import Derived.TacticsIn
import Derived.RangeFuncNested
import Derived.RangeFuncBound
import Derived.RangeFuncLeaves
import Derived.RangeFuncFrom
import Derived.Shelf.RegionOpen
import Derived.OwnWalkIn
import Derived.TacticsInMore
import Derived.LoopNIn
import Derived.LoopIn
import Derived.Ground.Names7Prog
import Derived.Ground.SlsfProg
import Derived.Shelf.Spec.TrailingZeros
import Derived.Shelf.SlSortCmp.Whole1
import Derived.Shelf.SlGeneric
import Derived.Shelf.Strings.Builder1
import Derived.Shelf.Strings.Builder2
import Derived.Shelf.Strings.OnBuilder
import Derived.Shelf.Small.Bits
import Derived.Shelf.Small.Wraps
import Derived.Shelf.Strings.BuilderF
import Derived.Shelf.Strings.BuilderK
import Derived.Shelf.Strings.Builder2Cap
import Derived.Shelf.Strconv.Itoa0
import Derived.Shelf.Strconv.Itoa1
import Derived.Shelf.LaysM
import Derived.Shelf.Strconv.Itoa2
import Derived.Shelf.Strconv.Itoa3
import Derived.Shelf.Strings.BuilderCap
import Derived.Shelf.Slices.Turned
import Derived.Ground.Names2Prog
import Derived.Shelf.Slices.Clone
import Derived.Shelf.Slices.SearchI
import Derived.Ground.SlgnProg
import Derived.Shelf.SlicesE.Clone
import Derived.ChangeKeysEq
import Derived.Laws.MakeOwn
import Derived.Deep.Slices
import Derived.Deep.Strs
import Derived.ProofKit
import Derived.SizedLaws
import Derived.Test.YthfanledageoeaaGreatDoorRows
import Derived.Test.YthfanledageoeaaGreatDoorTie
import Derived.Test.YthfanledageoeaaGreatDoorCards
import Derived.OpenShut
import Derived.LaidMore
import Derived.Lay
import Derived.Lib.LaidTab
import Derived.SevenTiedAt
import Derived.Stop.Joined
set_option linter.unusedVariables false
set_option linter.unusedSimpArgs false
set_option linter.constructorNameAsVariable false
namespace Go.Tw
/-! Errors -/
/-! Trees -/
namespace Tree
end Tree
namespace Tree
/-! States: 'ev' says which events occur. -/
end Tree
namespace Tree
end Tree
namespace Tree
end Tree
namespace Tree
end Tree
def containsB (l : List Int) (some : List (List Int)) : Bool := some.any fun p => p.all fun x => has l x
namespace Tree
def proofErr (t : Tree) (a b : List (List Int)) : Int :=
 if a.any (fun l => !t.setB l false) then 22 else if b.any (fun l => !t.setB l true) then 22 else
 if (List.range (2 ^ t.size)).any (fun s => !containsB (bitsOf s) a && !containsB (others t.size (bitsOf s)) b) then 22 else 0
end Tree
/-! Chances -/
namespace Tree
end Tree
end Go.Tw
namespace Go.Proofs
open Go.RowKit Go.Tw Go.Flow
def othersTo (n : Nat) (l : List Int) : List Int := ((List.range n).map Int.ofNat).filter fun x => !has l x
theorem othersTo_succ (n : Nat) (l : List Int) : othersTo (n + 1) l = othersTo n l ++ if has l (n : Int) then [] else [(n : Int)] := by
 unfold othersTo
 rw [List.range_succ, List.map_append, List.filter_append]
 cases h : has l (n : Int) <;> simp [h]
theorem othersTo_len (n : Nat) (l : List Int) : (othersTo n l).length ≤ n := by
 unfold othersTo; exact Nat.le_trans (List.length_filter_le _ _) (by simp)
set_option maxRecDepth 100000 in
set_option maxHeartbeats 400000 in
theorem Others_any (w : World) (v u : Value) (t : Tree) (l : List Int) (hn : t.size ≤ 100000) (ht : IsTree w v t) (hl : IsInts w u l) :
    Calls Tryz.prog 88 #[v, u] w fun e w' => ∃ x, e = .returned x ∧ IsInts w' x (others t.size l) ∧ Ext w w' := by
 obtain ⟨i0, hi, hz0, hz1, hz2⟩ := info_parts Tryz.info3
 obtain ⟨a, b, c, rfl, h3⟩ := ht
 have hw := Ext.box w (.cells #[a, b, c] 26)
 have c0 := cell_new w #[a, b, c] 26 0
 have c1 := cell_new w #[a, b, c] 26 1
 have c2 := cell_new w #[a, b, c] 26 2
 have HT := Lib.hid (h3.ext hw)
 have HL := Lib.hid (hl.ext hw)
 clear h3 hl
 go_enter Tryz.func88, Tryz.ntmps88
 go_wp2
 obtain ⟨W, hW⟩ : ∃ W, w.alloc (.cells #[a, b, c] 26) = W := ⟨_, rfl⟩
 have hsz : W.heap.size = w.heap.size + 1 := by rw [← hW]; simp
 rw [hW] at c0 c1 c2 hw HT HL ⊢
 simp only [List.getElem?_toArray, List.getElem?_cons_zero, List.getElem?_cons_succ] at c0 c1 c2
 clear hW
 go_loopw [5, 6] (fun o i wr => ∃ (k : Nat), k ≤ t.size ∧ i = .int .i64 k ∧ Own1 wr W.heap.size 3 (.int .i64) o (othersTo k l) ∧ Ext W wr) (fun _ i _ => t.size - (intOf i).toNat)
 case atStart => exact ⟨0, Nat.zero_le _, rfl, Own1.nil _ _ _ _, Ext.refl _⟩
 case round =>
  obtain ⟨k, hk, rfl, hown, hx⟩ := hrel
  have d0 := hx.cell c0
  have d1 := hx.cell c1
  have d2 := hx.cell c2
  clear c0 c1 c2
  have hle := othersTo_len k l
  go_wp2_with fail
  refine (Size_any _ _ t ⟨_, _, _, rfl, HT.out.ext hx⟩).mono ?_
  rintro e w1 ⟨rfl, hx1⟩
  replace hown := hown.below hx1
  have hx' := hx.trans hx1
  clear hx d0 d1 d2 hx1
  by_cases hlt : k < t.size
  · cases hh : has l (k : Int) with
    | true =>
      go_wp2_with (go_at_call 97; refine (HasInt_any _ _ l _ (HL.out.ext hx')).mono ?_; rintro e w' ⟨rfl, rfl⟩)
      go_roundw
      case rel => exact ⟨k + 1, by omega, by go_num, by rw [othersTo_succ, hh]; simpa using hown, hx'⟩
      case measure => simp [intOf]; omega
    | false =>
      go_wp2_with (first | (go_at_call 97; refine (HasInt_any _ _ l _ (HL.out.ext hx')).mono ?_; rintro e w' ⟨rfl, rfl⟩) | (at_builtin; refine wpList_append_own _ rfl _ _ 39 rfl (W.heap.size) 3 i0 (.int .i64 0) 1 8 Tryz.underlying39 hi hz0 hz1 hz2 rfl (by decide) _ _ _ rfl (World.ownsRow.alloc hown _) ⟨w1.heap.size, 0, none⟩ 1 1 [.int .i64 k] rfl rfl ?_ ?_ ?_ ?_ ?_ ?_; exact one_new _ _ _; (focus (simp [Value.oneCell'])); (focus (unfold maxLen; omega)); (focus omega); (focus (have := hx'.size; simp at this ⊢; omega)); intro v' w1 hown' hgrow _))
      have hx2 := ext_grown hx' hown (Nat.le_refl _) hgrow
      go_roundw
      case rel => exact ⟨k + 1, by omega, by go_num, by rw [othersTo_succ, hh]; exact Own1.snoc hown', hx2⟩
      case measure => simp [intOf]; omega
  · go_wp2
    go_ret
    exact ⟨_, rfl, by rw [show others t.size l = othersTo k l from by rw [show k = t.size from by omega]; rfl]; exact hown.ints (by omega), hw.trans hx'⟩
end Go.Proofs
namespace Go.Proofs
open Go.RowKit Go.Tw Go.Flow
set_option maxHeartbeats 400000 in
theorem cuts_any (w : World) (v u : Value) (t : Tree) (l : List Int) (paths : Bool) (hfit : Fit t) (hn : 1 ≤ t.nodes) (ht : IsTree w v t) (hl : IsInts w u l) :
    Calls Tryz.prog 84 #[v, u, .bool paths] w fun e w' => e = .returned (.bool (t.setB l paths)) ∧ Ext w w' := by
 obtain ⟨a, b, c, rfl, h3⟩ := ht
 have hw := Ext.box w (.cells #[a, b, c] 26)
 have c0 := cell_new w #[a, b, c] 26 0
 have c1 := cell_new w #[a, b, c] 26 1
 have c2 := cell_new w #[a, b, c] 26 2
 simp only [List.getElem?_toArray, List.getElem?_cons_zero, List.getElem?_cons_succ] at c0 c1 c2
 have HT := Lib.hid h3
 have HL := Lib.hid hl
 have HF := Lib.hid hfit
 have hsz : t.size ≤ 100000 := by unfold Tree.size; have := hfit.nb; have := hfit.nc; omega
 clear h3 hl hfit
 have hwd := hw.drew
 cases paths with
 | true =>
   go_enter Tryz.func84, Tryz.ntmps84
   go_wp2
   refine Flow.region0 [.world, .world, .plain, .world, .world, .plain, .plain] [0, 1, 2, 3, 4, 5, 6] [[], [], [], [1, 2], [0, 1, 2, 3], [0, 1, 2, 3, 4], [0, 1, 2, 3, 4, 5]]
    [.is 0 (fun v => .agg #[a, b, c]), .is 1 (fun v => .agg #[a, b, c]), .is 2 (fun v => u), ⟨fun v wz => IsInts wz (v 3) (others t.size l), fun _ _ _ hx h => h.ext hx⟩, .is 4 (fun v => .bool (t.fails (evL (others t.size l)))), .is 5 (fun v => .bool (!(t.fails (evL (others t.size l))))), .is 6 (fun v => .bool (!(t.fails (evL (others t.size l)))))]
    (by kernel_rfl) rfl (by kernel_rfl) ⟨?g0, ?g1, ?g2, ?g3, ?g4, ?g5, ?g6, trivial⟩ ?post
   case g0 =>
    intro v w1 hx
    have c0 := hx.cell c0
    have c1 := hx.cell c1
    have c2 := hx.cell c2
    intro K hK
    go_simp
    exact hK _ _ (Ext.refl _) rfl
   case g1 =>
    intro v w1 hx
    have c0 := hx.cell c0
    have c1 := hx.cell c1
    have c2 := hx.cell c2
    intro K hK
    go_simp
    exact hK _ _ (Ext.refl _) rfl
   case g2 =>
    intro v w1 hx
    have c0 := hx.cell c0
    have c1 := hx.cell c1
    have c2 := hx.cell c2
    refine ⟨_, fun w => ?_, rfl⟩
    go_simp
   case g3 =>
    intro v w1 hx (q1 : v 1 = .agg #[a, b, c]) (q2 : v 2 = u)
    have c0 := hx.cell c0
    have c1 := hx.cell c1
    have c2 := hx.cell c2
    intro K hK
    go_simp
    refine gives_call (Others_any _ _ _ t l hsz ⟨_, _, _, rfl, HT.out.ext (hwd.trans hx)⟩ (HL.out.ext (hwd.trans hx))) ?_
    rintro e w2 ⟨x, rfl, h, hx2⟩
    exact ⟨_, rfl, hK _ _ hx2 h⟩
   case g4 =>
    intro v w1 hx (q0 : v 0 = .agg #[a, b, c]) (q1 : v 1 = .agg #[a, b, c]) (q2 : v 2 = u) (q3 : IsInts w1 (v 3) (others t.size l))
    have c0 := hx.cell c0
    have c1 := hx.cell c1
    have c2 := hx.cell c2
    intro K hK
    go_simp
    refine gives_call (Fails_any _ _ _ t _ HF.out hn ⟨_, _, _, rfl, HT.out.ext (hwd.trans hx)⟩ q3) ?_
    rintro e w2 ⟨rfl, hx2⟩
    exact ⟨_, rfl, hK _ _ hx2 rfl⟩
   case g5 =>
    intro v w1 hx (q0 : v 0 = .agg #[a, b, c]) (q1 : v 1 = .agg #[a, b, c]) (q2 : v 2 = u) (q3 : IsInts w1 (v 3) (others t.size l)) (q4 : v 4 = .bool (t.fails (evL (others t.size l))))
    have c0 := hx.cell c0
    have c1 := hx.cell c1
    have c2 := hx.cell c2
    refine ⟨_, fun w => ?_, rfl⟩
    go_simp
   case g6 =>
    intro v w1 hx (q0 : v 0 = .agg #[a, b, c]) (q1 : v 1 = .agg #[a, b, c]) (q2 : v 2 = u) (q3 : IsInts w1 (v 3) (others t.size l)) (q4 : v 4 = .bool (t.fails (evL (others t.size l)))) (q5 : v 5 = .bool (!(t.fails (evL (others t.size l)))))
    have c0 := hx.cell c0
    have c1 := hx.cell c1
    have c2 := hx.cell c2
    refine ⟨_, fun w => ?_, rfl⟩
    go_simp
   case post =>
    intro v w1 hx (q0 : v 0 = .agg #[a, b, c]) (q1 : v 1 = .agg #[a, b, c]) (q2 : v 2 = u) (q3 : IsInts w1 (v 3) (others t.size l)) (q4 : v 4 = .bool (t.fails (evL (others t.size l)))) (q5 : v 5 = .bool (!(t.fails (evL (others t.size l))))) (q6 : v 6 = .bool (!(t.fails (evL (others t.size l)))))
    simp only [Flow.All, Flow.acts, Act.put]
    go_simp
    go_wp2
    go_ret
    exact ⟨ret_bool rfl, hwd.trans hx⟩
 | false =>
   go_enter Tryz.func84, Tryz.ntmps84
   go_wp2_with fail
   refine (Fails_any _ _ _ t l HF.out hn ⟨_, _, _, rfl, HT.out.ext hw⟩ (HL.out.ext hw)).mono ?_
   rintro e w1 ⟨rfl, hx⟩
   go_wp2
   go_ret
   exact ⟨ret_bool rfl, hw.trans hx⟩
end Go.Proofs
namespace Go.Proofs
open Go.RowKit Go.Tw Go.Flow
def pow2 (n : Nat) : Nat := 2 ^ n
theorem pow2_le {n : Nat} (h : n ≤ 12) : pow2 n ≤ 4096 := by
 have : (2 : Nat) ^ n ≤ 2 ^ 12 := Nat.pow_le_pow_right (by omega) h
 exact this
theorem power2_any (w : World) (n : Nat) (hn : n ≤ 12) :
    Calls Tryz.prog 85 #[.int .i64 2, .int .i64 n] w fun e w' => e = .returned (.int .i64 (pow2 n)) ∧ w = w' :=
 power_any w 2 n (by omega) (Nat.le_trans (Nat.pow_le_pow_right (n := 2) (by omega) hn) (by decide)) (by omega) (by omega)
end Go.Proofs
namespace Go.Proofs
open Go.RowKit Go.Tw Go.Flow
set_option maxHeartbeats 400000 in
theorem CheckSet_any (w : World) (v u : Value) (t : Tree) (l : List Int) (ht : IsTree w v t) (hl : IsInts w u l) :
    Calls Tryz.prog 31 #[v, u] w fun e w' => e = .returned (.int .i64 (setErr l t.size)) ∧ Ext w w' := by
 obtain ⟨a, b, c, rfl, h3⟩ := ht
 have hw := Ext.box w (.cells #[a, b, c] 26)
 have HT := Lib.hid (h3.ext hw)
 have HL := Lib.hid (hl.ext hw)
 clear h3 hl
 go_enter Tryz.func31, Tryz.ntmps31
 go_wp2_with fail
 refine (Size_any _ _ t ⟨_, _, _, rfl, HT.out⟩).mono ?_
 rintro e w1 ⟨rfl, hx⟩
 go_wp2_with fail
 refine (checkSet_any _ _ l _ (HL.out.ext hx)).mono ?_
 rintro e w2 ⟨rfl, hx2⟩
 go_wp2
 go_ret
 exact ⟨rfl, (hw.trans hx).trans hx2⟩
def subB (l p : List Int) : Bool := p.all fun x => has l x
theorem contains_step {l : List Int} {some : List (List Int)} {k : Nat} (h : k < some.length) : containsB l (some.drop k) = (subB l (some.getD k []) || containsB l (some.drop (k + 1))) := by
 rw [List.drop_eq_getElem_cons h, getD_of _ h]; rfl
theorem sub_step {l p : List Int} {k : Nat} (h : k < p.length) : subB l (p.drop k) = (has l (ix p k) && subB l (p.drop (k + 1))) := by
 rw [drop_ix h]; rfl
set_option maxRecDepth 100000 in
set_option maxHeartbeats 800000 in
theorem contains_any (w : World) (u v : Value) (l : List Int) (some : List (List Int)) (hu : IsInts w u l) (hv : IsIntss w v some) :
    Calls Tryz.prog 87 #[u, v] w fun e w' => e = .returned (.bool (containsB l some)) ∧ w = w' := by
 obtain ⟨A, cap, rfl, hl, hcap, hc⟩ := hv.opened
 have HU := Lib.hid hu
 clear hv hu
 go_enter Tryz.func87, Tryz.ntmps87
 go_wp2
 go_loop [5] (fun i => ∃ k : Nat, k ≤ some.length ∧ i = .int .i64 k ∧ containsB l (some.drop k) = containsB l some) (fun i => some.length - (intOf i).toNat)
 case atStart => exact ⟨0, Nat.zero_le _, rfl, rfl⟩
 case round =>
  obtain ⟨k, hk, rfl, hr⟩ := hrel
  have HR := Lib.hid hr; clear hr
  by_cases hlt : k < some.length
  · obtain ⟨b, off, m, rfl, hb, hcell, hm⟩ := hc k hlt
    clear hc
    obtain ⟨pl, hpl⟩ : ∃ pl, some.getD k [] = pl := ⟨_, rfl⟩
    have hst := contains_step (l := l) hlt
    rw [hpl] at hst hm
    obtain ⟨A2, cap2, rfl, hl2, hcap2, hc2⟩ := hm.opened
    have HST := Lib.hid hst
    clear hst hpl hm
    go_wp2
    go_loop [6, 7] (fun s i => ∃ j : Nat, j ≤ pl.length ∧ i = .int .i64 j ∧ ∃ q : Bool, s = .bool q ∧ (q && subB l (pl.drop j)) = subB l pl) (fun _ i => pl.length - (intOf i).toNat)
    case atStart => exact ⟨0, Nat.zero_le _, rfl, true, rfl, rfl⟩
    case round =>
     obtain ⟨j, hj, rfl, q, rfl, hq⟩ := hrel
     have HQ := Lib.hid hq; clear hq
     by_cases hlj : j < pl.length
     · obtain ⟨b2, off2, rfl, hcell2⟩ := hc2 j hlj
       clear hc2
       have hs2 := sub_step (l := l) hlj
       have HS2 := Lib.hid hs2; clear hs2
       cases q with
       | false =>
         go_wp2
         go_round
         case rel => exact ⟨j + 1, by omega, by go_num, false, rfl, by rw [← HQ.out]; rfl⟩
         case measure => simp [intOf]; omega
       | true =>
         go_wp2_with (go_at_call 97; refine (HasInt_any _ _ l _ HU.out).mono ?_; rintro e w' ⟨rfl, rfl⟩)
         go_round
         case rel => exact ⟨j + 1, by omega, by go_num, has l (ix pl j), rfl, by rw [← HQ.out, HS2.out, Bool.true_and]⟩
         case measure => simp [intOf]; omega
     · clear hc2
       have hqe : subB l pl = q := by
        have := HQ.out
        rw [List.drop_eq_nil_of_le (by omega)] at this
        rw [← this]; exact (Bool.and_true q)
       have HQE := Lib.hid hqe; clear hqe
       cases q with
       | true =>
         go_wp2
         go_ret
         exact ⟨ret_bool (by rw [← HR.out, HST.out, HQE.out]; rfl), rfl⟩
       | false =>
         go_wp2
         go_round
         case rel => exact ⟨k + 1, by omega, by go_num, by rw [← HR.out, HST.out, HQE.out, Bool.false_or]⟩
         case measure => simp [intOf]; omega
  · clear hc
    go_wp2
    go_ret
    exact ⟨ret_bool (by rw [← HR.out, List.drop_eq_nil_of_le (by omega)]; rfl), rfl⟩
end Go.Proofs
namespace Go.Proofs
open Go.RowKit Go.Tw Go.Flow
def errsFrom (n : Nat) (l : List (List Int)) : Int := firstErr (l.map fun x => setErr x n)
theorem errs_step {n : Nat} {l : List (List Int)} {k : Nat} (h : k < l.length) : errsFrom n (l.drop k) = if setErr (l.getD k []) n = 0 then errsFrom n (l.drop (k + 1)) else setErr (l.getD k []) n := by
 rw [List.drop_eq_getElem_cons h, getD_of _ h]; rfl
set_option maxRecDepth 100000 in
set_option maxHeartbeats 800000 in
theorem CheckSets_any (w : World) (v u : Value) (t : Tree) (l : List (List Int)) (ht : IsTree w v t) (hl : IsIntss w u l) :
    Calls Tryz.prog 25 #[v, u] w fun e w' => e = .returned (.int .i64 (setsErr t.size l)) ∧ Ext w w' := by
 obtain ⟨a, b, c, rfl, h3⟩ := ht
 have hw := Ext.box w (.cells #[a, b, c] 26)
 have c0 := cell_new w #[a, b, c] 26 0
 have c1 := cell_new w #[a, b, c] 26 1
 have c2 := cell_new w #[a, b, c] 26 2
 have HT := Lib.hid (h3.ext hw)
 obtain ⟨A, cap, rfl, hl1, hcap, hc⟩ := hl.opened
 clear h3 hl
 by_cases hbig : 1024 < l.length
 · clear hc
   go_enter Tryz.func25, Tryz.ntmps25
   go_wp2
   go_ret
   exact ⟨ret_int (by unfold setsErr; rw [if_pos hbig]), hw⟩
 · go_enter Tryz.func25, Tryz.ntmps25
   go_wp2
   obtain ⟨W, hW⟩ : ∃ W, w.alloc (.cells #[a, b, c] 26) = W := ⟨_, rfl⟩
   have hbw : w.heap.size ≤ W.heap.size := by rw [← hW]; simp
   rw [hW] at c0 c1 c2 hw HT ⊢
   simp only [List.getElem?_toArray, List.getElem?_cons_zero, List.getElem?_cons_succ] at c0 c1 c2
   clear hW
   go_loopw [5] (fun i wr => ∃ (k : Nat), k ≤ l.length ∧ i = .int .i64 k ∧ errsFrom t.size (l.drop k) = errsFrom t.size l ∧ Ext W wr) (fun i _ => l.length - (intOf i).toNat)
   case atStart => exact ⟨0, Nat.zero_le _, rfl, rfl, Ext.refl _⟩
   case round =>
    obtain ⟨k, hk, rfl, hr, hx⟩ := hrel
    have HR := Lib.hid hr; clear hr
    have d0 := hx.cell c0
    have d1 := hx.cell c1
    have d2 := hx.cell c2
    clear c0 c1 c2
    by_cases hlt : k < l.length
    · obtain ⟨b1, off, m, rfl, hb, hcell, hm⟩ := hc k hlt
      replace hcell := hx.cell (hw.cell hcell)
      have HM := Lib.hid (hm.ext (hw.trans hx))
      clear hc hm
      obtain ⟨x, hxe⟩ : ∃ x, setErr (l.getD k []) t.size = x := ⟨_, rfl⟩
      have hst := errs_step (n := t.size) hlt
      rw [hxe] at hst
      have HST := Lib.hid hst
      have HXE := Lib.hid hxe
      clear hst hxe
      have i2 : (k : Int) < l.length := by omega
      have hx0 := hx
      go_wp2
      refine Flow.region0 [.world, .plain, .plain, .plain, .world, .world, .plain] [0, 1, 2, 3, 4, 5, 6] [[], [], [], [1, 2], [1, 2, 3], [0, 1, 2, 3, 4], [0, 1, 2, 3, 4, 5]]
       [.is 0 (fun v => .agg #[a, b, c]), .is 1 (fun v => .slice (some ⟨b1, off, none⟩) l.length cap), .is 2 (fun v => .int .i64 k), .is 3 (fun v => .pointer (some ⟨b1, off + k, none⟩)), .is 4 (fun v => m), .is 5 (fun v => .int .i64 x), .is 6 (fun v => .int .i64 x)]
       (by kernel_rfl) rfl (by kernel_rfl) ⟨?g0, ?g1, ?g2, ?g3, ?g4, ?g5, ?g6, trivial⟩ ?post
      case g0 =>
       intro v w1 hx
       have d0 := hx.cell d0
       have d1 := hx.cell d1
       have d2 := hx.cell d2
       have hcell := hx.cell hcell
       intro K hK
       go_simp
       exact hK _ _ (Ext.refl _) rfl
      case g1 =>
       intro v w1 hx
       have d0 := hx.cell d0
       have d1 := hx.cell d1
       have d2 := hx.cell d2
       have hcell := hx.cell hcell
       refine ⟨_, fun w => ?_, rfl⟩
       go_simp
      case g2 =>
       intro v w1 hx
       have d0 := hx.cell d0
       have d1 := hx.cell d1
       have d2 := hx.cell d2
       have hcell := hx.cell hcell
       refine ⟨_, fun w => ?_, rfl⟩
       go_simp
      case g3 =>
       intro v w1 hx (q1 : v 1 = .slice (some ⟨b1, off, none⟩) l.length cap) (q2 : v 2 = .int .i64 k)
       have d0 := hx.cell d0
       have d1 := hx.cell d1
       have d2 := hx.cell d2
       have hcell := hx.cell hcell
       refine ⟨_, fun w => ?_, rfl⟩
       go_simp
      case g4 =>
       intro v w1 hx (q1 : v 1 = .slice (some ⟨b1, off, none⟩) l.length cap) (q2 : v 2 = .int .i64 k) (q3 : v 3 = .pointer (some ⟨b1, off + k, none⟩))
       have d0 := hx.cell d0
       have d1 := hx.cell d1
       have d2 := hx.cell d2
       have hcell := hx.cell hcell
       intro K hK
       go_simp
       exact hK _ _ (Ext.refl _) rfl
      case g5 =>
       intro v w1 hx (q0 : v 0 = .agg #[a, b, c]) (q1 : v 1 = .slice (some ⟨b1, off, none⟩) l.length cap) (q2 : v 2 = .int .i64 k) (q3 : v 3 = .pointer (some ⟨b1, off + k, none⟩)) (q4 : v 4 = m)
       have d0 := hx.cell d0
       have d1 := hx.cell d1
       have d2 := hx.cell d2
       have hcell := hx.cell hcell
       intro K hK
       go_simp
       refine gives_call (CheckSet_any _ _ _ t _ ⟨_, _, _, rfl, HT.out.ext (hx0.drew.trans hx)⟩ (HM.out.ext ((Ext.refl wr).drew.trans hx))) ?_
       rintro e w2 ⟨rfl, hx2⟩
       exact ⟨_, rfl, hK _ _ hx2 (congrArg (Value.int .i64) HXE.out)⟩
      case g6 =>
       intro v w1 hx (q0 : v 0 = .agg #[a, b, c]) (q1 : v 1 = .slice (some ⟨b1, off, none⟩) l.length cap) (q2 : v 2 = .int .i64 k) (q3 : v 3 = .pointer (some ⟨b1, off + k, none⟩)) (q4 : v 4 = m) (q5 : v 5 = .int .i64 x)
       have d0 := hx.cell d0
       have d1 := hx.cell d1
       have d2 := hx.cell d2
       have hcell := hx.cell hcell
       refine ⟨_, fun w => ?_, rfl⟩
       go_simp
      case post =>
       intro v w1 hx (q0 : v 0 = .agg #[a, b, c]) (q1 : v 1 = .slice (some ⟨b1, off, none⟩) l.length cap) (q2 : v 2 = .int .i64 k) (q3 : v 3 = .pointer (some ⟨b1, off + k, none⟩)) (q4 : v 4 = m) (q5 : v 5 = .int .i64 x) (q6 : v 6 = .int .i64 x)
       simp only [Flow.All, Flow.acts, Act.put]
       go_simp
       by_cases h0 : x = 0
       · have h1 : (x != 0) = false := by simp [h0]
         have H0 := Lib.hid h0; clear h0
         go_wp2
         go_roundw
         case rel => exact ⟨k + 1, by omega, by go_num, by rw [← HR.out, HST.out, if_pos H0.out], hx0.drew.trans hx⟩
         case measure => simp [intOf]; omega
       · have h1 : (x != 0) = true := by simp [h0]
         have H0 := Lib.hid h0; clear h0
         go_wp2
         go_ret
         exact ⟨ret_int (by unfold setsErr; rw [if_neg hbig]; show x = errsFrom t.size l; rw [← HR.out, HST.out, if_neg H0.out]), hw.trans (hx0.drew.trans hx)⟩
    · clear hc
      go_wp2
      go_ret
      exact ⟨ret_int (by unfold setsErr; rw [if_neg hbig]; show 0 = errsFrom t.size l; rw [← HR.out, List.drop_eq_nil_of_le (by omega)]; rfl), hw.trans hx⟩
end Go.Proofs
namespace Go.Proofs
open Go.RowKit Go.Tw Go.Flow
theorem any_bad {t : Tree} {A : List (List Int)} {p : Bool} (h : ∀ j, j < A.length → t.setB (A.getD j []) p = true) : (A.any fun l => !t.setB l p) = false := by
 rw [List.any_eq_false]
 intro l hl
 obtain ⟨j, hj, rfl⟩ := List.getElem_of_mem hl
 have := h j hj
 rw [getD_of _ hj] at this
 rw [this]; simp
theorem any_bad_yes {t : Tree} {A : List (List Int)} {p : Bool} {k : Nat} (hk : k < A.length) (h : t.setB (A.getD k []) p = false) : (A.any fun l => !t.setB l p) = true := by
 rw [List.any_eq_true]
 refine ⟨A.getD k [], ?_, by rw [h]; rfl⟩
 rw [getD_of _ hk]; exact List.getElem_mem hk
def gap (t : Tree) (A B : List (List Int)) (s : Nat) : Bool := !containsB (bitsOf s) A && !containsB (others t.size (bitsOf s)) B
theorem any_gap {t : Tree} {A B : List (List Int)} {n : Nat} (h : ∀ s, s < n → gap t A B s = false) : ((List.range n).any fun s => !containsB (bitsOf s) A && !containsB (others t.size (bitsOf s)) B) = false := by
 rw [List.any_eq_false]
 intro s hs
 have := h s (List.mem_range.1 hs)
 unfold gap at this
 rw [this]; simp
theorem any_gap_yes {t : Tree} {A B : List (List Int)} {n s : Nat} (hs : s < n) (h : gap t A B s = true) : ((List.range n).any fun s => !containsB (bitsOf s) A && !containsB (others t.size (bitsOf s)) B) = true := by
 rw [List.any_eq_true]
 exact ⟨s, List.mem_range.2 hs, h⟩
set_option maxRecDepth 100000 in
set_option maxHeartbeats 4000000 in
theorem rCheckCuts_any (w : World) (v u z : Value) (t : Tree) (P Q : List (List Int)) (hV : Valid t) (ht : IsTree w v t) (hu : IsIntss w u P) (hz : IsIntss w z Q) :
    Calls Tryz.prog 26 #[v, u, z] w fun e w' => e = .returned (.int .i64 (t.proofErr P Q)) ∧ Ext w w' := by
 obtain ⟨Au, capu, rfl, hlu, _, hcu⟩ := hu.opened
 obtain ⟨Az, capz, rfl, hlz, _, hcz⟩ := hz.opened
 have HV := Lib.hid hV
 have hsz := hV.size
 have HCU := Lib.hid hcu
 have HCZ := Lib.hid hcz
 have HU0 := Lib.hid hu
 have HZ0 := Lib.hid hz
 clear hu hz hV hcu hcz
 obtain ⟨a, b, c, rfl, h3⟩ := ht
 obtain ⟨A, capa, rfl, hl1, hcap1, _⟩ := h3.basics.opened
 obtain ⟨B, capb, rfl, hl2, hcap2, _⟩ := h3.causes.opened
 obtain ⟨G, capg, rfl, hl3, hcap3, _⟩ := h3.gates.opened
 have HT0 := Lib.hid h3
 clear h3
 have HPE : Hid (t.proofErr P Q = if P.any (fun l => !t.setB l false) then 22 else if Q.any (fun l => !t.setB l true) then 22 else if (List.range (2 ^ t.size)).any (fun s => !containsB (bitsOf s) P && !containsB (others t.size (bitsOf s)) Q) then 22 else 0) := by exact (rfl : t.proofErr P Q = _)
 go_enter Tryz.func26, Tryz.ntmps26
 go_wp2_with fail
 change Code.wp _ _ _ _ (w.alloc (.cells #[.slice A t.basics.length capa, .slice B t.causes.length capb, .slice G t.gates.length capg] 26))
 have k0 := Blk.made w 26 #[.slice A t.basics.length capa, .slice B t.causes.length capb, .slice G t.gates.length capg]
 have x0 := Ext.box w (.cells #[.slice A t.basics.length capa, .slice B t.causes.length capb, .slice G t.gates.length capg] 26)
 have es0 : (w.alloc (.cells #[.slice A t.basics.length capa, .slice B t.causes.length capb, .slice G t.gates.length capg] 26)).heap.size = w.heap.size + 1 := by simp
 obtain ⟨X0, hX0⟩ : ∃ X, w.alloc (.cells #[.slice A t.basics.length capa, .slice B t.causes.length capb, .slice G t.gates.length capg] 26) = X := ⟨_, rfl⟩
 rw [hX0] at k0 x0 es0 ⊢
 clear hX0
 have e0 : X0.heap.size = w.heap.size + 1 := by omega
 have HXW : Hid (Ext w X0) := by exact (x0 : Ext w X0)
 have eW : X0.heap.size = w.heap.size + 1 := e0
 clear x0 es0 e0
 obtain ⟨W, hWW⟩ : ∃ W, X0 = W := ⟨_, rfl⟩
 rw [hWW] at HXW eW ⊢ k0
 clear hWW
 have HT := Lib.hid (HT0.out.ext HXW.out)
 have K0 := Lib.hid k0
 have HU := Lib.hid (HU0.out.ext HXW.out)
 have HZ := Lib.hid (HZ0.out.ext HXW.out)
 clear k0
 go_loopw [7] (fun i wr => ∃ k : Nat, k ≤ P.length ∧ i = .int .i64 k ∧ (∀ j, j < k → t.setB (P.getD j []) false = true) ∧ Ext W wr) (fun i _ => P.length - (intOf i).toNat)
 case atStart => exact ⟨0, Nat.zero_le _, rfl, fun j hj => by omega, Ext.refl _⟩
 case round =>
  obtain ⟨k, hk, rfl, hz, hx⟩ := hrel
  have HZZ := Lib.hid hz
  have HX := Lib.hid hx
  have HK := Lib.hid (K0.out.ext hx)
  clear hz
  by_cases hlt : k < P.length
  · obtain ⟨b1, off1, m1, rfl, _, hc1, hm1⟩ := HCU.out k hlt
    replace hc1 := (HXW.out.trans hx).cell hc1
    have HM1 := Lib.hid (hm1.ext (HXW.out.trans hx))
    obtain ⟨l, hl0⟩ : ∃ l, P.getD k [] = l := ⟨_, rfl⟩
    rw [hl0] at HM1
    have HL := Lib.hid hl0
    obtain ⟨q, hq0⟩ : ∃ q, t.setB l false = q := ⟨_, rfl⟩
    have HQ := Lib.hid hq0
    have HCT : Hid (∀ w', Ext wr w' → Calls Tryz.prog 84 #[.agg #[.slice A t.basics.length capa, .slice B t.causes.length capb, .slice G t.gates.length capg], m1, .bool false] w' fun e w'' => e = .returned (.bool q) ∧ Ext w' w'') := by
     exact (fun w' h => by rw [← hq0]; exact cuts_any w' _ _ t l false HV.out.fit HV.out.nodes ⟨_, _, _, rfl, HT.out.ext (HX.out.trans h)⟩ (HM1.out.ext h) : ∀ w', Ext wr w' → Calls Tryz.prog 84 #[.agg #[.slice A t.basics.length capa, .slice B t.causes.length capb, .slice G t.gates.length capg], m1, .bool false] w' fun e w'' => e = .returned (.bool q) ∧ Ext w' w'')
    have hkI : (k : Int) < P.length := by omega
    have hdr := (Ext.refl wr).drew
    clear hm1 hl0 hq0 hx
    go_wp2
    refine Flow.regionB0 [.world, .plain, .plain, .plain, .world, .world, .plain] [0, 1, 2, 3, 4, 5, 6] [[], [], [], [1, 2], [1, 2, 3], [0, 1, 2, 3, 4], [0, 1, 2, 3, 4, 5]]
     [.is 0 (fun v => .agg #[.slice A t.basics.length capa, .slice B t.causes.length capb, .slice G t.gates.length capg]), .is 1 (fun v => .slice (some ⟨b1, off1, none⟩) P.length capu), .is 2 (fun v => .int .i64 k), .is 3 (fun v => .pointer (some ⟨b1, off1 + k, none⟩)), .is 4 (fun v => m1), .is 5 (fun v => .bool q), .is 6 (fun v => .bool (!q))]
     (by kernel_rfl) rfl (by kernel_rfl) ⟨?g0, ?g1, ?g2, ?g3, ?g4, ?g5, ?g6, trivial⟩ ?post
    case g0 =>
     intro v w1 hx
     intro bb hbb
     intro K hK
     have o1 : bb.eval (.tmp 3) = .pointer (some ⟨w.heap.size, 0, none⟩) := by rw [hbb]; dsimp only; (try simp (discharger := decide) only [eval_put_ne]); rfl
     exact gives_load_blk (.tmp 3) _ rfl Tryz.aggRTree Tryz.sizeRTree o1 (HK.out.ext (hdr.trans hx)) rfl (hK _ _ (Ext.refl _) rfl)
    case g1 =>
     intro v w1 hx
     intro bb hbb
     subst hbb
     refine ⟨_, fun w => ?_, rfl⟩
     go_simp
    case g2 =>
     intro v w1 hx
     intro bb hbb
     subst hbb
     refine ⟨_, fun w => ?_, rfl⟩
     go_simp
    case g3 =>
     intro v w1 hx (q1 : v 1 = .slice (some ⟨b1, off1, none⟩) P.length capu) (q2 : v 2 = .int .i64 k)
     intro bb hbb
     subst hbb
     refine ⟨_, fun w => ?_, rfl⟩
     go_simp
    case g4 =>
     intro v w1 hx (q1 : v 1 = .slice (some ⟨b1, off1, none⟩) P.length capu) (q2 : v 2 = .int .i64 k) (q3 : v 3 = .pointer (some ⟨b1, off1 + k, none⟩))
     intro bb hbb
     subst hbb
     have n0 : w1.cell? ⟨b1, off1 + k, none⟩ = some m1 := (hdr.trans hx).cell hc1
     intro K hK
     go_simp
     exact hK _ _ (Ext.refl _) rfl
    case g5 =>
     intro v w1 hx (q0 : v 0 = .agg #[.slice A t.basics.length capa, .slice B t.causes.length capb, .slice G t.gates.length capg]) (q1 : v 1 = .slice (some ⟨b1, off1, none⟩) P.length capu) (q2 : v 2 = .int .i64 k) (q3 : v 3 = .pointer (some ⟨b1, off1 + k, none⟩)) (q4 : v 4 = m1)
     intro bb hbb
     subst hbb
     intro K hK
     go_simp
     refine gives_call (HCT.out w1 (hdr.trans hx)) ?_
     rintro e w2 ⟨rfl, hx2⟩
     exact ⟨_, rfl, hK _ _ hx2 rfl⟩
    case g6 =>
     intro v w1 hx (q0 : v 0 = .agg #[.slice A t.basics.length capa, .slice B t.causes.length capb, .slice G t.gates.length capg]) (q1 : v 1 = .slice (some ⟨b1, off1, none⟩) P.length capu) (q2 : v 2 = .int .i64 k) (q3 : v 3 = .pointer (some ⟨b1, off1 + k, none⟩)) (q4 : v 4 = m1) (q5 : v 5 = .bool q)
     intro bb hbb
     subst hbb
     refine ⟨_, fun w => ?_, rfl⟩
     go_simp
    case post =>
     intro v w1 hx (q0 : v 0 = .agg #[.slice A t.basics.length capa, .slice B t.causes.length capb, .slice G t.gates.length capg]) (q1 : v 1 = .slice (some ⟨b1, off1, none⟩) P.length capu) (q2 : v 2 = .int .i64 k) (q3 : v 3 = .pointer (some ⟨b1, off1 + k, none⟩)) (q4 : v 4 = m1) (q5 : v 5 = .bool q) (q6 : v 6 = .bool (!q))
     simp only [Flow.All, Flow.acts, Act.put]
     go_simp
     have HX9 := Lib.hid (HX.out.trans (hdr.trans hx))
     clear hx hdr hc1 q0 q1 q2 q3 q4 q5 q6
     cases q with
     | true =>
       go_wp2
       go_roundw
       case rel => exact ⟨k + 1, by omega, by go_num, (fun j hj => by rcases Nat.lt_or_ge j k with h | h; exact HZZ.out j h; rw [show j = k from by omega, HL.out]; exact HQ.out), HX9.out⟩
       case measure => simp [intOf]; omega
     | false =>
       go_wp2
       go_ret
       exact ⟨ret_int (by rw [HPE.out, any_bad_yes hlt (by rw [HL.out]; exact HQ.out)]; rfl), HXW.out.trans HX9.out⟩
  · have HALL : Hid ((P.any fun l => !t.setB l false) = false) := by exact (any_bad fun j hj => HZZ.out j (by omega) : (P.any fun l => !t.setB l false) = false)
    clear hx HZZ HK
    go_wp2
    go_loopw [8] (fun i wr => ∃ k : Nat, k ≤ Q.length ∧ i = .int .i64 k ∧ (∀ j, j < k → t.setB (Q.getD j []) true = true) ∧ Ext W wr) (fun i _ => Q.length - (intOf i).toNat)
    case atStart => exact ⟨0, Nat.zero_le _, rfl, fun j hj => by omega, HX.out⟩
    case round =>
     obtain ⟨k, hk, rfl, hz, hx⟩ := hrel
     have HZZ := Lib.hid hz
     have HX := Lib.hid hx
     have HK := Lib.hid (K0.out.ext hx)
     clear hz
     by_cases hlt : k < Q.length
     · obtain ⟨b1, off1, m1, rfl, _, hc1, hm1⟩ := HCZ.out k hlt
       replace hc1 := (HXW.out.trans hx).cell hc1
       have HM1 := Lib.hid (hm1.ext (HXW.out.trans hx))
       obtain ⟨l, hl0⟩ : ∃ l, Q.getD k [] = l := ⟨_, rfl⟩
       rw [hl0] at HM1
       have HL := Lib.hid hl0
       obtain ⟨q, hq0⟩ : ∃ q, t.setB l true = q := ⟨_, rfl⟩
       have HQ := Lib.hid hq0
       have HCT : Hid (∀ w', Ext wr w' → Calls Tryz.prog 84 #[.agg #[.slice A t.basics.length capa, .slice B t.causes.length capb, .slice G t.gates.length capg], m1, .bool true] w' fun e w'' => e = .returned (.bool q) ∧ Ext w' w'') := by
        exact (fun w' h => by rw [← hq0]; exact cuts_any w' _ _ t l true HV.out.fit HV.out.nodes ⟨_, _, _, rfl, HT.out.ext (HX.out.trans h)⟩ (HM1.out.ext h) : ∀ w', Ext wr w' → Calls Tryz.prog 84 #[.agg #[.slice A t.basics.length capa, .slice B t.causes.length capb, .slice G t.gates.length capg], m1, .bool true] w' fun e w'' => e = .returned (.bool q) ∧ Ext w' w'')
       have hkI : (k : Int) < Q.length := by omega
       have hdr := (Ext.refl wr).drew
       clear hm1 hl0 hq0 hx
       go_wp2
       refine Flow.regionB0 [.world, .plain, .plain, .plain, .world, .world, .plain] [0, 1, 2, 3, 4, 5, 6] [[], [], [], [1, 2], [1, 2, 3], [0, 1, 2, 3, 4], [0, 1, 2, 3, 4, 5]]
        [.is 0 (fun v => .agg #[.slice A t.basics.length capa, .slice B t.causes.length capb, .slice G t.gates.length capg]), .is 1 (fun v => .slice (some ⟨b1, off1, none⟩) Q.length capz), .is 2 (fun v => .int .i64 k), .is 3 (fun v => .pointer (some ⟨b1, off1 + k, none⟩)), .is 4 (fun v => m1), .is 5 (fun v => .bool q), .is 6 (fun v => .bool (!q))]
        (by kernel_rfl) rfl (by kernel_rfl) ⟨?g0, ?g1, ?g2, ?g3, ?g4, ?g5, ?g6, trivial⟩ ?post
       case g0 =>
        intro v w1 hx
        intro bb hbb
        intro K hK
        have o1 : bb.eval (.tmp 3) = .pointer (some ⟨w.heap.size, 0, none⟩) := by rw [hbb]; dsimp only; (try simp (discharger := decide) only [eval_put_ne]); rfl
        exact gives_load_blk (.tmp 3) _ rfl Tryz.aggRTree Tryz.sizeRTree o1 (HK.out.ext (hdr.trans hx)) rfl (hK _ _ (Ext.refl _) rfl)
       case g1 =>
        intro v w1 hx
        intro bb hbb
        subst hbb
        refine ⟨_, fun w => ?_, rfl⟩
        go_simp
       case g2 =>
        intro v w1 hx
        intro bb hbb
        subst hbb
        refine ⟨_, fun w => ?_, rfl⟩
        go_simp
       case g3 =>
        intro v w1 hx (q1 : v 1 = .slice (some ⟨b1, off1, none⟩) Q.length capz) (q2 : v 2 = .int .i64 k)
        intro bb hbb
        subst hbb
        refine ⟨_, fun w => ?_, rfl⟩
        go_simp
       case g4 =>
        intro v w1 hx (q1 : v 1 = .slice (some ⟨b1, off1, none⟩) Q.length capz) (q2 : v 2 = .int .i64 k) (q3 : v 3 = .pointer (some ⟨b1, off1 + k, none⟩))
        intro bb hbb
        subst hbb
        have n0 : w1.cell? ⟨b1, off1 + k, none⟩ = some m1 := (hdr.trans hx).cell hc1
        intro K hK
        go_simp
        exact hK _ _ (Ext.refl _) rfl
       case g5 =>
        intro v w1 hx (q0 : v 0 = .agg #[.slice A t.basics.length capa, .slice B t.causes.length capb, .slice G t.gates.length capg]) (q1 : v 1 = .slice (some ⟨b1, off1, none⟩) Q.length capz) (q2 : v 2 = .int .i64 k) (q3 : v 3 = .pointer (some ⟨b1, off1 + k, none⟩)) (q4 : v 4 = m1)
        intro bb hbb
        subst hbb
        intro K hK
        go_simp
        refine gives_call (HCT.out w1 (hdr.trans hx)) ?_
        rintro e w2 ⟨rfl, hx2⟩
        exact ⟨_, rfl, hK _ _ hx2 rfl⟩
       case g6 =>
        intro v w1 hx (q0 : v 0 = .agg #[.slice A t.basics.length capa, .slice B t.causes.length capb, .slice G t.gates.length capg]) (q1 : v 1 = .slice (some ⟨b1, off1, none⟩) Q.length capz) (q2 : v 2 = .int .i64 k) (q3 : v 3 = .pointer (some ⟨b1, off1 + k, none⟩)) (q4 : v 4 = m1) (q5 : v 5 = .bool q)
        intro bb hbb
        subst hbb
        refine ⟨_, fun w => ?_, rfl⟩
        go_simp
       case post =>
        intro v w1 hx (q0 : v 0 = .agg #[.slice A t.basics.length capa, .slice B t.causes.length capb, .slice G t.gates.length capg]) (q1 : v 1 = .slice (some ⟨b1, off1, none⟩) Q.length capz) (q2 : v 2 = .int .i64 k) (q3 : v 3 = .pointer (some ⟨b1, off1 + k, none⟩)) (q4 : v 4 = m1) (q5 : v 5 = .bool q) (q6 : v 6 = .bool (!q))
        simp only [Flow.All, Flow.acts, Act.put]
        go_simp
        have HX9 := Lib.hid (HX.out.trans (hdr.trans hx))
        clear hx hdr hc1 q0 q1 q2 q3 q4 q5 q6
        cases q with
        | true =>
          go_wp2
          go_roundw
          case rel => exact ⟨k + 1, by omega, by go_num, (fun j hj => by rcases Nat.lt_or_ge j k with h | h; exact HZZ.out j h; rw [show j = k from by omega, HL.out]; exact HQ.out), HX9.out⟩
          case measure => simp [intOf]; omega
        | false =>
          go_wp2
          go_ret
          exact ⟨ret_int (by rw [HPE.out, HALL.out, any_bad_yes hlt (by rw [HL.out]; exact HQ.out)]; rfl), HXW.out.trans HX9.out⟩
     · have HALL2 : Hid ((Q.any fun l => !t.setB l true) = false) := by exact (any_bad fun j hj => HZZ.out j (by omega) : (Q.any fun l => !t.setB l true) = false)
       clear hx HZZ HK
       have hp2 := pow2_le hsz
       go_wp2
       go_loopw [9] (fun i wr => ∃ k : Nat, k ≤ pow2 t.size ∧ i = .int .i64 k ∧ (∀ s, s < k → gap t P Q s = false) ∧ Ext W wr) (fun i _ => pow2 t.size - (intOf i).toNat)
       case atStart => exact ⟨0, Nat.zero_le _, rfl, fun j hj => by omega, HX.out⟩
       case round =>
        obtain ⟨k, hk, rfl, hz, hx⟩ := hrel
        have HZZ := Lib.hid hz
        have HKx := Lib.hid (K0.out.ext hx)
        have d0 := HKx.out.cell 0
        have d1 := HKx.out.cell 1
        have d2 := HKx.out.cell 2
        simp only [List.getElem?_toArray, List.getElem?_cons_zero, List.getElem?_cons_succ] at d0 d1 d2
        clear hz
        go_wp2_with fail
        refine (Size_any _ _ t ⟨_, _, _, rfl, HT.out.ext hx⟩).mono ?_
        rintro e w1 ⟨rfl, hx1⟩
        go_wp2_with fail
        refine (power2_any _ _ hsz).mono ?_
        rintro e w1' ⟨rfl, rfl⟩
        replace hx := hx.trans hx1
        replace d0 := hx1.cell d0
        replace d1 := hx1.cell d1
        replace d2 := hx1.cell d2
        clear hx1
        by_cases hlt : k < pow2 t.size
        · go_wp2_with fail
          refine (Members_any _ k (by omega)).mono ?_
          rintro e w2 ⟨lv, rfl, hlv, hx2⟩
          replace d0 := hx2.cell d0
          replace d1 := hx2.cell d1
          replace d2 := hx2.cell d2
          have HLV := Lib.hid hlv
          have HX2 := Lib.hid (hx.trans hx2)
          have HG : Hid (gap t P Q k = (!containsB (bitsOf k) P && !containsB (others t.size (bitsOf k)) Q)) := by exact (rfl : gap t P Q k = _)
          clear hlv hx hx2
          go_wp2_with fail
          refine (contains_any _ _ _ (bitsOf k) P HLV.out (HU.out.ext HX2.out)).mono ?_
          rintro e w2' ⟨rfl, rfl⟩
          cases hc : containsB (bitsOf k) P with
          | true =>
            rw [hc] at HG
            go_wp2
            go_roundw
            case rel => exact ⟨k + 1, by omega, by go_num, (fun j hj => by rcases Nat.lt_or_ge j k with h | h; exact HZZ.out j h; rw [show j = k from by omega, HG.out]; rfl), HX2.out⟩
            case measure => simp [intOf]; omega
          | false =>
            rw [hc] at HG
            go_wp2_with fail
            refine (Others_any _ _ _ t (bitsOf k) (by omega) ⟨_, _, _, rfl, HT.out.ext HX2.out⟩ HLV.out).mono ?_
            rintro e w3 ⟨ov, rfl, hov, hx3⟩
            have HX3 := Lib.hid (HX2.out.trans hx3)
            have HOV := Lib.hid hov
            clear hov hx3 d0 d1 d2
            go_wp2_with fail
            refine (contains_any _ _ _ (others t.size (bitsOf k)) Q HOV.out (HZ.out.ext HX3.out)).mono ?_
            rintro e w3' ⟨rfl, rfl⟩
            cases hc2 : containsB (others t.size (bitsOf k)) Q with
            | true =>
              rw [hc2] at HG
              go_wp2
              go_roundw
              case rel => exact ⟨k + 1, by omega, by go_num, (fun j hj => by rcases Nat.lt_or_ge j k with h | h; exact HZZ.out j h; rw [show j = k from by omega, HG.out]; rfl), HX3.out⟩
              case measure => simp [intOf]; omega
            | false =>
              rw [hc2] at HG
              go_wp2
              go_ret
              exact ⟨ret_int (by rw [HPE.out, HALL.out, HALL2.out, any_gap_yes (show k < 2 ^ t.size from hlt) (by rw [HG.out]; rfl)]; rfl), HXW.out.trans HX3.out⟩
        · have HGG : Hid (((List.range (2 ^ t.size)).any fun s => !containsB (bitsOf s) P && !containsB (others t.size (bitsOf s)) Q) = false) := by exact (any_gap fun s hs => HZZ.out s (by have : s < pow2 t.size := hs; omega) : ((List.range (2 ^ t.size)).any fun s => !containsB (bitsOf s) P && !containsB (others t.size (bitsOf s)) Q) = false)
          go_wp2
          go_ret
          exact ⟨ret_int (by rw [HPE.out, HALL.out, HALL2.out, HGG.out]; rfl), HXW.out.trans hx⟩
/-- What ShortSets' call ends in. -/
def ShortsPost (ll : List (List Int)) (w : World) (e : Ending) (w' : World) : Prop := ∃ q, e = .returned (.bool q) ∧ (q = true → ll.length ≤ 1025 ∧ ∀ j, j < ll.length → (ll.getD j []).length ≤ 14) ∧ w = w'
theorem shorts_post {ll : List (List Int)} {w w' : World} {e : Ending} (q : Bool) (he : e = .returned (.bool q)) (hf : q = true → ll.length ≤ 1025 ∧ ∀ j, j < ll.length → (ll.getD j []).length ≤ 14) (hx : w = w') : ShortsPost ll w e w' := ⟨q, he, hf, hx⟩
set_option maxHeartbeats 1000000 in
theorem shortSets_any (w : World) (v : Value) (ll : List (List Int)) (hv : IsIntss w v ll) :
    Calls Tryz.prog 21 #[v, .int .i64 20] w fun e w' => ShortsPost ll w e w' := by
 obtain ⟨A, cap, rfl, hl, hcap, hc⟩ := hv.opened
 have HC := Lib.hid hc
 clear hv hc
 go_enter Tryz.func21, Tryz.ntmps21
 go_wp2
 go_loop [5] (fun i => ∃ k : Nat, k ≤ ll.length ∧ i = .int .i64 k ∧ (∀ j, j < k → (ll.getD j []).length ≤ 14)) (fun i => ll.length - (intOf i).toNat)
 case atStart => exact ⟨0, Nat.zero_le _, rfl, fun j hj => by omega⟩
 case round =>
  obtain ⟨k, hk, rfl, hm⟩ := hrel
  have HM := Lib.hid hm
  clear hm
  by_cases hlt : k < ll.length
  · obtain ⟨b1, off1, m1, rfl, _, hc1, hm1⟩ := HC.out k hlt
    obtain ⟨A3, cap3, rfl, hl33, _, _⟩ := hm1.opened
    obtain ⟨ml, hml⟩ : ∃ x, (ll.getD k []).length = x := ⟨_, rfl⟩
    rw [hml] at hc1 hl33
    have HML := Lib.hid hml
    have hkI : (k : Int) < ll.length := by omega
    clear hm1 hml
    by_cases h14 : 14 < ml
    · go_wp2
      go_ret
      exact shorts_post false rfl (fun h => by cases h) rfl
    · go_wp2
      go_round
      case rel => exact ⟨k + 1, by omega, by go_num, (fun j hj => by rcases Nat.lt_or_ge j k with h | h; exact HM.out j h; rw [show j = k from by omega, HML.out]; omega)⟩
      case measure => simp [intOf]; omega
  · have HALL : Hid (∀ j, j < ll.length → (ll.getD j []).length ≤ 14) := by exact (fun j hj => HM.out j (by omega) : ∀ j, j < ll.length → (ll.getD j []).length ≤ 14)
    by_cases h20 : ll.length ≤ 20
    · go_wp2
      go_ret
      exact shorts_post true rfl (fun _ => ⟨by omega, HALL.out⟩) rfl
    · have HQ : ∃ q, ((ll.length : Int) == 1025) = q ∧ (q = true → ll.length ≤ 1025) := ⟨_, rfl, fun h => by have := beq_iff_eq.1 h; omega⟩
      obtain ⟨q, hq, hq2⟩ := HQ
      have HQ2 := Lib.hid hq2
      clear hq2
      go_wp2
      go_ret
      exact shorts_post (decide ((ll.length : Int) ≤ 20) || q) rfl (fun h => ⟨HQ2.out (by simpa [show ¬ ((ll.length : Int) ≤ 20) by omega] using h), HALL.out⟩) rfl
theorem lists_read {w : World} {base : Nat} {T : TypeId} {v : Value} {vs : List Value} {ll : List (List Int)} (h : Own1 w base T idV v vs) (hlen : vs.length = ll.length) (hl : ll.length ≤ 2000) (hm : ∀ j, j < ll.length → Own1 w 0 3 (.int .i64) (vs.getD j undef) (ll.getD j []) ∧ (ll.getD j []).length ≤ 1000) : IsIntss w v ll := by
 have hr := h.row (by omega) (fun j => vs.getD j undef) (fun k hk => by simp [hk, idV])
 rw [hlen] at hr
 refine ⟨fun j => vs.getD j undef, hr, fun j hj => ?_⟩
 obtain ⟨h1, h2⟩ := hm j hj
 have := h1.ints (by omega)
 rw [getD_of _ hj] at this
 simpa using this
theorem getD_snoc {vs : List Value} {u : Value} {j : Nat} : (vs ++ [u]).getD j undef = if j < vs.length then vs.getD j undef else if j = vs.length then u else undef := by
 by_cases h : j < vs.length
 · rw [if_pos h]; simp [List.getElem?_append_left h]
 · rw [if_neg h]
   by_cases h2 : j = vs.length
   · rw [if_pos h2]; subst h2; simp
   · rw [if_neg h2]
     have : vs.length + 1 ≤ j := by omega
     simp [List.getD_eq_getElem?_getD, this]
set_option maxHeartbeats 1000000 in
theorem lists_any (w : World) (v : Value) (ll : List (List Int)) (hv : IsIntss w v ll) (hle : ll.length ≤ 1025) (h14 : ∀ j, j < ll.length → (ll.getD j []).length ≤ 14) :
    Calls Tryz.prog 23 #[v] w fun e w' => ∃ u, e = .returned u ∧ IsIntss w' u ll ∧ Ext w w' := by
 obtain ⟨i0, hi, hz0, hz1, hz2⟩ := info_parts Tryz.info39
 obtain ⟨A, cap, rfl, hl, hcap, hc⟩ := hv.opened
 have HC := Lib.hid hc
 have H14 := Lib.hid h14
 clear hv hc h14
 go_enter Tryz.func23, Tryz.ntmps23
 go_wp2
 go_loopw [3, 8] (fun o i wr => ∃ (k : Nat) (vs : List Value), k ≤ ll.length ∧ i = .int .i64 k ∧ vs.length = k ∧ Own1 wr w.heap.size 39 idV o vs ∧ (∀ j, j < k → Own1 wr 0 3 (.int .i64) (vs.getD j undef) (ll.getD j [])) ∧ Ext w wr) (fun _ i _ => ll.length - (intOf i).toNat)
 case atStart => exact ⟨0, [], Nat.zero_le _, rfl, rfl, Own1.nil _ _ _ _, fun j hj => by omega, Ext.refl _⟩
 case round =>
  obtain ⟨k, vs, hk, rfl, hvl, hown, hmem, hx⟩ := hrel
  by_cases hlt : k < ll.length
  · obtain ⟨b, off, m, rfl, _, hcell, hm⟩ := HC.out k hlt
    replace hcell := hx.cell hcell
    have HM := Lib.hid (hm.ext hx)
    obtain ⟨l, hl0⟩ : ∃ l, ll.getD k [] = l := ⟨_, rfl⟩
    have HL14 : Hid (l.length ≤ 14) := by exact (by rw [← hl0]; exact H14.out k hlt : l.length ≤ 14)
    rw [hl0] at HM
    have HL := Lib.hid hl0
    have HME := Lib.hid hmem
    have HVL := Lib.hid hvl
    clear hm hl0 hmem hvl
    go_wp2_with fail
    refine (lints_any _ _ l HM.out (by have := HL14.out; omega)).mono ?_
    rintro e wa ⟨u, rfl, hu, hx1⟩
    obtain ⟨A9, c9, hush, _⟩ := hu.shape
    have HUO := Lib.hid (Own1.weaken hu (Nat.zero_le _))
    have hown1 := hown.below hx1
    have HME1 := Lib.hid (fun j (hj : j < k) => (HME.out j hj).below hx1)
    have hx2 := hx.trans hx1
    rw [hush] at HUO ⊢
    unfold Own1 at hown1
    obtain ⟨n, hn⟩ : ∃ n, l.length = n := ⟨_, rfl⟩
    rw [hn] at HUO ⊢
    have hvl' := HVL.out
    clear hown hu hx hx1 hush HM HME hcell hn
    go_wp2_with (at_builtin; refine wpList_append_own _ rfl _ _ 29 rfl (w.heap.size) 39 i0 (.slice none 0 0) 1 24 Tryz.underlying29 hi hz0 hz1 hz2 rfl (by decide) _ _ _ rfl (World.ownsRow.alloc hown1 _) ⟨wa.heap.size, 0, none⟩ 1 1 [.slice A9 n c9] rfl rfl ?_ ?_ ?_ ?_ ?_ ?_; exact one_new _ _ _; (focus (simp [Value.oneCell'])); (focus (unfold maxLen; omega)); (focus omega); (focus (have := hx2.size; simp at this ⊢; omega)); intro v' w1 hown' hgrow _)
    have hx' := ext_grown hx2 hown1 (Nat.le_refl _) hgrow
    have hal := Ext.box wa (.cells #[.slice A9 n c9] 39)
    have HOW : Hid (Own1 w1 w.heap.size 39 idV v' (vs ++ [Value.slice A9 n c9])) := by exact (Own1.snoc (enc := idV) (x := .slice A9 n c9) hown' : Own1 w1 w.heap.size 39 idV v' (vs ++ [Value.slice A9 n c9]))
    have HM2 : Hid (∀ j, j < k + 1 → Own1 w1 0 3 (.int .i64) ((vs ++ [Value.slice A9 n c9]).getD j undef) (ll.getD j [])) := by
     exact (fun j hj => by
      rw [getD_snoc, HVL.out]
      by_cases hjk : j < k
      · rw [if_pos hjk]
        exact own1_grownT ((HME1.out j hjk).below hal) (World.ownsRow.alloc hown1 _) (by decide) hgrow
      · have hjk2 : j = k := by omega
        rw [if_neg hjk, if_pos hjk2, hjk2, HL.out]
        exact own1_grownT (HUO.out.below hal) (World.ownsRow.alloc hown1 _) (by decide) hgrow : ∀ j, j < k + 1 → Own1 w1 0 3 (.int .i64) ((vs ++ [Value.slice A9 n c9]).getD j undef) (ll.getD j []))
    go_wp2
    go_roundw
    case rel => exact ⟨k + 1, vs ++ [Value.slice A9 n c9], by omega, by go_num, by simp [HVL.out], HOW.out, HM2.out, hx'⟩
    case measure => simp [intOf]; omega
  · have e : k = ll.length := by omega
    subst e
    have HR := Lib.hid (lists_read hown hvl (by omega) (fun j hj => ⟨hmem j hj, by have := H14.out j hj; omega⟩))
    clear hown hmem hvl
    go_wp2
    go_ret
    exact ⟨_, rfl, HR.out, hx⟩
end Go.Proofs
namespace Go.Proofs
open Go.Tw
theorem cover_eq {l : List Int} {s : Nat} (h : ∀ i : Nat, has l i = s.testBit i) {p : List Int} (hp : ∀ x ∈ p, 0 ≤ x) : (clearB (maskOf p) s == 0) = p.all fun x => has l x := by
 rw [Bool.eq_iff_iff, beq_iff_eq, List.all_eq_true]
 constructor
 · intro h0 x hx
   obtain ⟨i, rfl⟩ : ∃ i : Nat, x = (i : Int) := ⟨x.toNat, by have := hp x hx; omega⟩
   rw [h i]
   have h1 := clearB_bit (maskOf p) s i
   rw [h0, Nat.zero_testBit, maskOf_bit hp, has_iff.2 hx, Bool.true_and] at h1
   cases hb : s.testBit i with
   | true => rfl
   | false => rw [hb] at h1; cases h1
 · intro h0
   apply Nat.eq_of_testBit_eq
   intro i
   rw [clearB_bit, Nat.zero_testBit, maskOf_bit hp]
   cases hb : has p i with
   | false => rfl
   | true =>
     have := h0 _ (has_iff.1 hb)
     rw [h i] at this
     rw [this]; rfl
theorem covB_eq {l : List Int} {s : Nat} (h : ∀ i : Nat, has l i = s.testBit i) {A : List (List Int)} (hA : ∀ p ∈ A, ∀ x ∈ p, 0 ≤ x) : covB s (A.map fun l => (maskOf l : Int)) = containsB l A := by
 unfold covB containsB
 rw [Bool.eq_iff_iff, List.any_eq_true, List.any_eq_true]
 constructor
 · rintro ⟨x, hx, h1⟩
   obtain ⟨p, hp, rfl⟩ := List.mem_map.1 hx
   rw [Int.toNat_natCast, cover_eq h (hA p hp)] at h1
   exact ⟨p, hp, h1⟩
 · rintro ⟨p, hp, h1⟩
   refine ⟨_, List.mem_map.2 ⟨p, hp, rfl⟩, ?_⟩
   rw [Int.toNat_natCast, cover_eq h (hA p hp)]
   exact h1
theorem othersL_eq {t : Tree} {l : List Int} (hl : ∀ x ∈ l, 0 ≤ x) : evN (othersN t (maskOf l)) = evL (others t.size l) := by
 funext i
 unfold evL evN othersN
 rw [clearB_bit, Nat.testBit_two_pow_sub_one, maskOf_bit hl]
 rw [Bool.eq_iff_iff, has_iff]
 unfold others
 simp only [List.mem_filter, List.mem_map, List.mem_range, Bool.and_eq_true, decide_eq_true_eq]
 constructor
 · rintro ⟨h1, h2⟩
   exact ⟨⟨i, h1, rfl⟩, h2⟩
 · rintro ⟨⟨a, ha, he⟩, h2⟩
   have : a = i := by have : (a : Int) = (i : Int) := he; omega
   exact ⟨by omega, h2⟩
theorem any_congr_mem {α : Type} {f g : α → Bool} : ∀ {l : List α}, (∀ x ∈ l, f x = g x) → l.any f = l.any g
 | [], _ => rfl
 | x :: l, h => by rw [List.any_cons, List.any_cons, h x (List.mem_cons_self ..), any_congr_mem fun y hy => h y (List.mem_cons_of_mem _ hy)]
theorem cutsBad_eq {t : Tree} {A : List (List Int)} (hA : ∀ p ∈ A, ∀ x ∈ p, 0 ≤ x) : cutsBad t A = A.any fun l => !t.setB l false := by
 unfold cutsBad
 rw [List.any_map]
 refine any_congr_mem fun l hl => ?_
 show (!t.fails (evN ((maskOf l : Int)).toNat)) = _
 rw [Int.toNat_natCast, evN_mask (hA l hl)]
 rfl
theorem pathsBad_eq {t : Tree} {A : List (List Int)} (hA : ∀ p ∈ A, ∀ x ∈ p, 0 ≤ x) : pathsBad t A = A.any fun l => !t.setB l true := by
 unfold pathsBad
 rw [List.any_map]
 refine any_congr_mem fun l hl => ?_
 show (!(!t.fails (evN (othersN t ((maskOf l : Int)).toNat)))) = _
 rw [Int.toNat_natCast, othersL_eq (hA l hl)]
 rfl
theorem covN_eq {t : Tree} (hs : t.size ≤ 12) {A B : List (List Int)} (hA : ∀ p ∈ A, ∀ x ∈ p, 0 ≤ x) (hB : ∀ p ∈ B, ∀ x ∈ p, 0 ≤ x) {s : Nat} (h : s < 2 ^ t.size) : covN t A B s = (containsB (bitsOf s) A || containsB (others t.size (bitsOf s)) B) := by
 have h16 : s < 65536 := Nat.lt_of_lt_of_le h (Nat.le_trans (Nat.pow_le_pow_right (n := 2) (by omega) hs) (by decide))
 unfold covN
 rw [covB_eq (l := bitsOf s) (fun i => congrFun (evL_bits h16) i) hA, covB_eq (l := others t.size (bitsOf s)) (fun i => congrFun (evL_others hs h) i) hB]
theorem cc_split {t : Tree} (he : t.err = 0) (A B : List (List Int)) : ccErr t A B = if firstErr [setsErr t.size A, setsErr t.size B] = 0 then t.proofErr A B else firstErr [setsErr t.size A, setsErr t.size B] := by
 unfold ccErr
 rw [if_pos he]
 by_cases h : firstErr [setsErr t.size A, setsErr t.size B] = 0
 · rw [if_pos h, if_pos h]
   have hz := h
   rw [firstErr_zero] at hz
   have hA : ∀ p ∈ A, ∀ x ∈ p, 0 ≤ x := fun p hp x hx => ((sets_zero (hz (setsErr t.size A) (by simp))).2 p hp x hx).1
   have hB : ∀ p ∈ B, ∀ x ∈ p, 0 ≤ x := fun p hp x hx => ((sets_zero (hz (setsErr t.size B) (by simp))).2 p hp x hx).1
   unfold Tree.proofErr
   rw [cutsBad_eq hA, pathsBad_eq hB]
   have hs := (Valid.of he).size
   have e : ((List.finRange (2 ^ t.size)).all fun x => covN t A B x.1) = !((List.range (2 ^ t.size)).any fun s => !containsB (bitsOf s) A && !containsB (others t.size (bitsOf s)) B) := by
    rw [Bool.eq_iff_iff, List.all_eq_true, Bool.not_eq_true', List.any_eq_false]
    constructor
    · intro h1 s hs1
      have hs2 := List.mem_range.1 hs1
      have := h1 ⟨s, hs2⟩ (List.mem_finRange _)
      rw [covN_eq hs hA hB hs2] at this
      cases h2 : containsB (bitsOf s) A <;> cases h3 : containsB (others t.size (bitsOf s)) B <;> simp [h2, h3] at this ⊢
    · intro h1 x _
      have := h1 x.1 (List.mem_range.2 x.2)
      rw [covN_eq hs hA hB x.2]
      cases h2 : containsB (bitsOf x.1) A <;> cases h3 : containsB (others t.size (bitsOf x.1)) B <;> simp [h2, h3] at this ⊢
   rw [e]
   cases (List.range (2 ^ t.size)).any fun s => !containsB (bitsOf s) A && !containsB (others t.size (bitsOf s)) B <;> rfl
 · rw [if_neg h, if_neg h]
theorem cc_bad {t : Tree} (he : t.err ≠ 0) (A B : List (List Int)) : ccErr t A B = t.err := by unfold ccErr; rw [if_neg he]
end Go.Proofs
namespace Go.Proofs
open Go.RowKit Go.Tw Go.Flow
theorem lShortSets (w : World) (v : Value) (ll : List (List Int)) (hv : IsIntss w v ll) :
    Calls Tryz.prog 21 #[v, .int .i64 20] w fun e w' => ∃ q, e = .returned (.bool q) ∧ (q = true → ll.length ≤ 1025 ∧ ∀ j, j < ll.length → (ll.getD j []).length ≤ 14) ∧ Ext w w' :=
 (shortSets_any w v ll hv).mono fun e w' ⟨q, h1, h2, h3⟩ => ⟨q, h1, h2, h3 ▸ Ext.refl _⟩
set_option maxRecDepth 100000 in
set_option maxHeartbeats 4000000 in
theorem faultProofs_any (w : World) (v u z : Value) (t : Tree) (pa pb : List (List Int)) (ht : IsTree w v t) (hpa : IsIntss w u pa) (hpb : IsIntss w z pb) (hT : Tab w) :
    Calls Tryz.prog 4 #[v, u, z] w fun e w' => e = .returned (.bool true) ∧ Ext w w' := by
 obtain ⟨a, b, c, rfl, h3⟩ := ht
 obtain ⟨A, capa, rfl, hl1, hcap1, _⟩ := h3.basics.opened
 obtain ⟨B, capb, rfl, hl2, hcap2, _⟩ := h3.causes.opened
 obtain ⟨G, capg, rfl, hl3, hcap3, _⟩ := h3.gates.opened
 have HT0 := Lib.hid h3
 clear h3
 have HTAB := Lib.hid hT
 clear hT
 have HLpa := Lib.hid hpa
 obtain ⟨Apa, cappa, rfl, hlpa, _, _⟩ := hpa.opened
 clear hpa
 have HLpb := Lib.hid hpb
 obtain ⟨Apb, cappb, rfl, hlpb, _, _⟩ := hpb.opened
 clear hpb
 go_enter Tryz.func4, Tryz.ntmps4
 go_wp2_with fail
 change Calls _ _ _ (w.alloc (.cells #[.slice A t.basics.length capa, .slice B t.causes.length capb, .slice G t.gates.length capg] 26)) _
 have k0 := Blk.made w 26 #[.slice A t.basics.length capa, .slice B t.causes.length capb, .slice G t.gates.length capg]
 have x0 := Ext.box w (.cells #[.slice A t.basics.length capa, .slice B t.causes.length capb, .slice G t.gates.length capg] 26)
 have es0 : (w.alloc (.cells #[.slice A t.basics.length capa, .slice B t.causes.length capb, .slice G t.gates.length capg] 26)).heap.size = w.heap.size + 1 := by simp
 obtain ⟨X0, hX0⟩ : ∃ X, w.alloc (.cells #[.slice A t.basics.length capa, .slice B t.causes.length capb, .slice G t.gates.length capg] 26) = X := ⟨_, rfl⟩
 rw [hX0] at k0 x0 es0 ⊢
 clear hX0
 have e0 : X0.heap.size = w.heap.size + 1 := by omega
 have HXW : Hid (Ext w X0) := by exact (x0 : Ext w X0)
 have eW : X0.heap.size = w.heap.size + 1 := e0
 clear x0 es0 e0
 obtain ⟨W, hWW⟩ : ∃ W, X0 = W := ⟨_, rfl⟩
 rw [hWW] at HXW eW ⊢ k0
 clear hWW
 obtain ⟨WB, hWB⟩ : ∃ X, W = X := ⟨_, rfl⟩
 rw [hWB] at HXW eW k0 ⊢
 clear hWB
 have HT := Lib.hid (HT0.out.ext HXW.out)
 have K0 := Lib.hid k0
 replace HTAB := Lib.hid (HTAB.out.ext HXW.out)
 replace HLpa := Lib.hid (HLpa.out.ext HXW.out)
 replace HLpb := Lib.hid (HLpb.out.ext HXW.out)
 have HW0 := Lib.hid HXW.out
 have HX := Lib.hid (Ext.refl WB)
 have c0 := k0.cell 0
 have c1 := k0.cell 1
 have c2 := k0.cell 2
 simp only [List.getElem?_toArray, List.getElem?_cons_zero, List.getElem?_cons_succ] at c0 c1 c2
 clear k0 HXW
 skip
 refine (awake_any _ HTAB.out).mono ?_
 rintro e w1 ⟨rfl, hx⟩
 have hxx : Ext WB w1 := hx
 replace HX := Lib.hid (HX.out.trans hxx)
 replace HT := Lib.hid (HT.out.ext hxx)
 replace c0 := hxx.cell c0
 replace c1 := hxx.cell c1
 replace c2 := hxx.cell c2
 replace HTAB := Lib.hid (HTAB.out.ext hxx)
 replace K0 := Lib.hid (K0.out.ext hxx)
 replace HLpa := Lib.hid (HLpa.out.ext hxx)
 replace HLpb := Lib.hid (HLpb.out.ext hxx)
 clear hx hxx
 go_wp2_with fail
 refine (short_any _ _ t 8 ⟨_, _, _, rfl, HT.out⟩ (by omega)).mono ?_
 rintro e w2 ⟨q, rfl, hq, hx⟩
 have hxx : Ext w1 w2 := hx
 replace HX := Lib.hid (HX.out.trans hxx)
 replace HT := Lib.hid (HT.out.ext hxx)
 replace c0 := hxx.cell c0
 replace c1 := hxx.cell c1
 replace c2 := hxx.cell c2
 replace HTAB := Lib.hid (HTAB.out.ext hxx)
 replace K0 := Lib.hid (K0.out.ext hxx)
 replace HLpa := Lib.hid (HLpa.out.ext hxx)
 replace HLpb := Lib.hid (HLpb.out.ext hxx)
 clear hx hxx
 cases q with
 | false =>
   clear hq
   clear c0 c1 c2
   go_wp2_with fail
   refine (awake_any _ HTAB.out).mono ?_
   rintro e w3 ⟨rfl, hx⟩
   have hxx : Ext w2 w3 := hx
   replace HX := Lib.hid (HX.out.trans hxx)
   replace HT := Lib.hid (HT.out.ext hxx)
   replace HTAB := Lib.hid (HTAB.out.ext hxx)
   replace K0 := Lib.hid (K0.out.ext hxx)
   replace HLpa := Lib.hid (HLpa.out.ext hxx)
   replace HLpb := Lib.hid (HLpb.out.ext hxx)
   clear hx hxx
   go_wp2
   go_ret
   exact ⟨rfl, HW0.out.trans HX.out⟩
 | true =>
   have HF := Lib.hid ((hq rfl).few (by omega))
   clear hq
   go_wp2_with fail
   refine (lShortSets _ _ pa HLpa.out).mono ?_
   rintro e w3 ⟨qpa, rfl, hqpa, hx⟩
   have hxx : Ext w2 w3 := hx
   replace HX := Lib.hid (HX.out.trans hxx)
   replace HT := Lib.hid (HT.out.ext hxx)
   replace c0 := hxx.cell c0
   replace c1 := hxx.cell c1
   replace c2 := hxx.cell c2
   replace HTAB := Lib.hid (HTAB.out.ext hxx)
   replace K0 := Lib.hid (K0.out.ext hxx)
   replace HLpa := Lib.hid (HLpa.out.ext hxx)
   replace HLpb := Lib.hid (HLpb.out.ext hxx)
   clear hx hxx
   cases qpa with
   | false =>
     clear hqpa HF
     clear c0 c1 c2
     go_wp2_with fail
     refine (awake_any _ HTAB.out).mono ?_
     rintro e w4 ⟨rfl, hx⟩
     have hxx : Ext w3 w4 := hx
     replace HX := Lib.hid (HX.out.trans hxx)
     replace HT := Lib.hid (HT.out.ext hxx)
     replace HTAB := Lib.hid (HTAB.out.ext hxx)
     replace K0 := Lib.hid (K0.out.ext hxx)
     replace HLpa := Lib.hid (HLpa.out.ext hxx)
     replace HLpb := Lib.hid (HLpb.out.ext hxx)
     clear hx hxx
     go_wp2
     go_ret
     exact ⟨rfl, HW0.out.trans HX.out⟩
   | true =>
     have HSpa := Lib.hid (hqpa rfl)
     clear hqpa
     go_wp2_with fail
     refine (lShortSets _ _ pb HLpb.out).mono ?_
     rintro e w4 ⟨qpb, rfl, hqpb, hx⟩
     have hxx : Ext w3 w4 := hx
     replace HX := Lib.hid (HX.out.trans hxx)
     replace HT := Lib.hid (HT.out.ext hxx)
     replace c0 := hxx.cell c0
     replace c1 := hxx.cell c1
     replace c2 := hxx.cell c2
     replace HTAB := Lib.hid (HTAB.out.ext hxx)
     replace K0 := Lib.hid (K0.out.ext hxx)
     replace HLpa := Lib.hid (HLpa.out.ext hxx)
     replace HLpb := Lib.hid (HLpb.out.ext hxx)
     clear hx hxx
     cases qpb with
     | false =>
       clear hqpb HF
       clear c0 c1 c2
       go_wp2_with fail
       refine (awake_any _ HTAB.out).mono ?_
       rintro e w5 ⟨rfl, hx⟩
       have hxx : Ext w4 w5 := hx
       replace HX := Lib.hid (HX.out.trans hxx)
       replace HT := Lib.hid (HT.out.ext hxx)
       replace HTAB := Lib.hid (HTAB.out.ext hxx)
       replace K0 := Lib.hid (K0.out.ext hxx)
       replace HLpa := Lib.hid (HLpa.out.ext hxx)
       replace HLpb := Lib.hid (HLpb.out.ext hxx)
       clear hx hxx
       go_wp2
       go_ret
       exact ⟨rfl, HW0.out.trans HX.out⟩
     | true =>
       have HSpb := Lib.hid (hqpb rfl)
       clear hqpb
       obtain ⟨E, hE⟩ : ∃ E, t.err = E := ⟨_, rfl⟩
       have HE := Lib.hid hE
       clear hE
       obtain ⟨C, hC⟩ : ∃ S, ccErr t pa pb = S := ⟨_, rfl⟩
       have HC := Lib.hid hC
       clear hC
       go_wp2_with fail
       refine (own_any _ _ t ⟨_, _, _, rfl, HT.out⟩ HF.out).mono ?_
       rintro e w5 ⟨uu, rfl, hu, hx⟩
       have hxx : Ext w4 w5 := hx
       replace HX := Lib.hid (HX.out.trans hxx)
       replace HT := Lib.hid (HT.out.ext hxx)
       replace c0 := hxx.cell c0
       replace c1 := hxx.cell c1
       replace c2 := hxx.cell c2
       replace HTAB := Lib.hid (HTAB.out.ext hxx)
       replace K0 := Lib.hid (K0.out.ext hxx)
       replace HLpa := Lib.hid (HLpa.out.ext hxx)
       replace HLpb := Lib.hid (HLpb.out.ext hxx)
       have HU := Lib.hid (hu)
       clear hx hxx
       clear hu
       go_wp2_with fail
       refine (lists_any _ _ pa HLpa.out HSpa.out.1 HSpa.out.2).mono ?_
       rintro e w6 ⟨va, rfl, hv, hx⟩
       have hxx : Ext w5 w6 := hx
       replace HX := Lib.hid (HX.out.trans hxx)
       replace HT := Lib.hid (HT.out.ext hxx)
       replace c0 := hxx.cell c0
       replace c1 := hxx.cell c1
       replace c2 := hxx.cell c2
       replace HTAB := Lib.hid (HTAB.out.ext hxx)
       replace K0 := Lib.hid (K0.out.ext hxx)
       replace HLpa := Lib.hid (HLpa.out.ext hxx)
       replace HLpb := Lib.hid (HLpb.out.ext hxx)
       replace HU := Lib.hid (HU.out.ext hxx)
       have HV1 := Lib.hid (hv)
       clear hx hxx
       clear hv
       go_wp2_with fail
       refine (lists_any _ _ pb HLpb.out HSpb.out.1 HSpb.out.2).mono ?_
       rintro e w7 ⟨vb, rfl, hv, hx⟩
       have hxx : Ext w6 w7 := hx
       replace HX := Lib.hid (HX.out.trans hxx)
       replace HT := Lib.hid (HT.out.ext hxx)
       replace c0 := hxx.cell c0
       replace c1 := hxx.cell c1
       replace c2 := hxx.cell c2
       replace HTAB := Lib.hid (HTAB.out.ext hxx)
       replace K0 := Lib.hid (K0.out.ext hxx)
       replace HLpa := Lib.hid (HLpa.out.ext hxx)
       replace HLpb := Lib.hid (HLpb.out.ext hxx)
       replace HU := Lib.hid (HU.out.ext hxx)
       replace HV1 := Lib.hid (HV1.out.ext hxx)
       have HV2 := Lib.hid (hv)
       clear hx hxx
       clear hv
       go_wp2_with fail
       refine (pCheckCuts_any _ _ _ _ t pa pb HU.out HV1.out HV2.out).mono ?_
       rintro e w8 ⟨rfl, hx⟩
       have hxx : Ext w7 w8 := hx
       replace HX := Lib.hid (HX.out.trans hxx)
       replace HT := Lib.hid (HT.out.ext hxx)
       replace c0 := hxx.cell c0
       replace c1 := hxx.cell c1
       replace c2 := hxx.cell c2
       clear HV1 HV2
       replace HTAB := Lib.hid (HTAB.out.ext hxx)
       replace K0 := Lib.hid (K0.out.ext hxx)
       replace HLpa := Lib.hid (HLpa.out.ext hxx)
       replace HLpb := Lib.hid (HLpb.out.ext hxx)
       replace HU := Lib.hid (HU.out.ext hxx)
       clear hx hxx
       rw [HC.out]
       clear HU
       go_wp2_with fail
       refine (rCheckTree_any _ _ t ⟨_, _, _, rfl, HT.out⟩).mono ?_
       rintro e w9 ⟨rfl, hx⟩
       have hxx : Ext w8 w9 := hx
       replace HX := Lib.hid (HX.out.trans hxx)
       replace HT := Lib.hid (HT.out.ext hxx)
       replace c0 := hxx.cell c0
       replace c1 := hxx.cell c1
       replace c2 := hxx.cell c2
       replace HTAB := Lib.hid (HTAB.out.ext hxx)
       replace K0 := Lib.hid (K0.out.ext hxx)
       replace HLpa := Lib.hid (HLpa.out.ext hxx)
       replace HLpb := Lib.hid (HLpb.out.ext hxx)
       clear hx hxx
       rw [HE.out]
       have hCC : (C == C) = true := by simp
       by_cases he : E = 0
       · have HV := Lib.hid (Valid.of (HE.out.trans he))
         have hne : (E == 0) = true := by simp [he]
         have HSP := Lib.hid (cc_split (HE.out.trans he) pa pb)
         obtain ⟨S, hS⟩ : ∃ S, firstErr [setsErr t.size pa, setsErr t.size pb] = S := ⟨_, rfl⟩
         have HS := Lib.hid hS
         rw [HC.out, hS] at HSP
         clear he hS
         have hdr := (Ext.refl w9).drew
         clear c0 c1 c2
         go_wp2
         refine Flow.regionB0 [.world, .plain, .world, .world, .plain, .world, .world, .world, .plain] [0, 1, 2, 3, 4, 5, 6, 7, 8] [[], [], [0, 1], [], [], [0, 1, 2, 3, 4], [0, 1, 2, 3, 4, 5], [0, 1, 2, 3, 4, 5, 6], [0, 1, 2, 3, 4, 5, 6, 7]]
          [.is 0 (fun v => .agg #[.slice A t.basics.length capa, .slice B t.causes.length capb, .slice G t.gates.length capg]), .is 1 (fun v => .slice Apa pa.length cappa), .is 2 (fun v => .int .i64 (setsErr t.size pa)), .is 3 (fun v => .agg #[.slice A t.basics.length capa, .slice B t.causes.length capb, .slice G t.gates.length capg]), .is 4 (fun v => .slice Apb pb.length cappb), .is 5 (fun v => .int .i64 (setsErr t.size pb)), ⟨fun v wz => IsInts wz (v 6) [setsErr t.size pa, setsErr t.size pb], fun _ _ _ hx h => h.ext hx⟩, .is 7 (fun v => .int .i64 S), .is 8 (fun v => .int .i64 S)]
          (by kernel_rfl) rfl (by kernel_rfl) ⟨?g0, ?g1, ?g2, ?g3, ?g4, ?g5, ?g6, ?g7, ?g8, trivial⟩ ?post
         case g0 =>
          intro v w1 hx
          intro bb hbb
          intro K hK
          have o1 : bb.eval (.tmp 3) = .pointer (some ⟨w.heap.size, 0, none⟩) := by rw [hbb]; dsimp only; (try simp (discharger := decide) only [eval_put_ne]); rfl
          exact gives_load_blk (.tmp 3) _ rfl Tryz.aggRTree Tryz.sizeRTree o1 (K0.out.ext (hdr.trans hx)) rfl (hK _ _ (Ext.refl _) rfl)
         case g1 =>
          intro v w1 hx
          intro bb hbb
          subst hbb
          refine ⟨_, fun w => ?_, rfl⟩
          go_simp
         case g2 =>
          intro v w1 hx (q0 : v 0 = .agg #[.slice A t.basics.length capa, .slice B t.causes.length capb, .slice G t.gates.length capg]) (q1 : v 1 = .slice Apa pa.length cappa)
          intro bb hbb
          subst hbb
          intro K hK
          go_simp
          refine gives_call (CheckSets_any w1 _ _ t pa ⟨_, _, _, rfl, HT.out.ext (hdr.trans hx)⟩ (HLpa.out.ext (hdr.trans hx))) ?_
          rintro e w2 ⟨rfl, hx2⟩
          exact ⟨_, rfl, hK _ _ hx2 rfl⟩
         case g3 =>
          intro v w1 hx
          intro bb hbb
          intro K hK
          have o1 : bb.eval (.tmp 3) = .pointer (some ⟨w.heap.size, 0, none⟩) := by rw [hbb]; dsimp only; (try simp (discharger := decide) only [eval_put_ne]); rfl
          exact gives_load_blk (.tmp 3) _ rfl Tryz.aggRTree Tryz.sizeRTree o1 (K0.out.ext (hdr.trans hx)) rfl (hK _ _ (Ext.refl _) rfl)
         case g4 =>
          intro v w1 hx
          intro bb hbb
          subst hbb
          refine ⟨_, fun w => ?_, rfl⟩
          go_simp
         case g5 =>
          intro v w1 hx (q0 : v 0 = .agg #[.slice A t.basics.length capa, .slice B t.causes.length capb, .slice G t.gates.length capg]) (q1 : v 1 = .slice Apa pa.length cappa) (q2 : v 2 = .int .i64 (setsErr t.size pa)) (q3 : v 3 = .agg #[.slice A t.basics.length capa, .slice B t.causes.length capb, .slice G t.gates.length capg]) (q4 : v 4 = .slice Apb pb.length cappb)
          intro bb hbb
          subst hbb
          intro K hK
          go_simp
          refine gives_call (CheckSets_any w1 _ _ t pb ⟨_, _, _, rfl, HT.out.ext (hdr.trans hx)⟩ (HLpb.out.ext (hdr.trans hx))) ?_
          rintro e w2 ⟨rfl, hx2⟩
          exact ⟨_, rfl, hK _ _ hx2 rfl⟩
         case g6 =>
          intro v w1 hx (q0 : v 0 = .agg #[.slice A t.basics.length capa, .slice B t.causes.length capb, .slice G t.gates.length capg]) (q1 : v 1 = .slice Apa pa.length cappa) (q2 : v 2 = .int .i64 (setsErr t.size pa)) (q3 : v 3 = .agg #[.slice A t.basics.length capa, .slice B t.causes.length capb, .slice G t.gates.length capg]) (q4 : v 4 = .slice Apb pb.length cappb) (q5 : v 5 = .int .i64 (setsErr t.size pb))
          intro bb hbb
          subst hbb
          intro K hK
          go_simp
          exact hK _ _ (Ext.box _ _) (ints_new (l := [setsErr t.size pa, setsErr t.size pb]) (by simp))
         case g7 =>
          intro v w1 hx (q0 : v 0 = .agg #[.slice A t.basics.length capa, .slice B t.causes.length capb, .slice G t.gates.length capg]) (q1 : v 1 = .slice Apa pa.length cappa) (q2 : v 2 = .int .i64 (setsErr t.size pa)) (q3 : v 3 = .agg #[.slice A t.basics.length capa, .slice B t.causes.length capb, .slice G t.gates.length capg]) (q4 : v 4 = .slice Apb pb.length cappb) (q5 : v 5 = .int .i64 (setsErr t.size pb)) (q6 : IsInts w1 (v 6) [setsErr t.size pa, setsErr t.size pb])
          intro bb hbb
          subst hbb
          intro K hK
          go_simp
          refine gives_call ((by rw [← HS.out]; exact First_any w1 _ _ q6 : Calls Tryz.prog 24 #[v 6] w1 fun e w' => e = .returned (.int .i64 S) ∧ w1 = w')) ?_
          rintro e w2 ⟨rfl, rfl⟩
          exact ⟨_, rfl, hK _ _ (Ext.refl _) rfl⟩
         case g8 =>
          intro v w1 hx (q0 : v 0 = .agg #[.slice A t.basics.length capa, .slice B t.causes.length capb, .slice G t.gates.length capg]) (q1 : v 1 = .slice Apa pa.length cappa) (q2 : v 2 = .int .i64 (setsErr t.size pa)) (q3 : v 3 = .agg #[.slice A t.basics.length capa, .slice B t.causes.length capb, .slice G t.gates.length capg]) (q4 : v 4 = .slice Apb pb.length cappb) (q5 : v 5 = .int .i64 (setsErr t.size pb)) (q6 : IsInts w1 (v 6) [setsErr t.size pa, setsErr t.size pb]) (q7 : v 7 = .int .i64 S)
          intro bb hbb
          subst hbb
          refine ⟨_, fun w => ?_, rfl⟩
          go_simp
         case post =>
          intro v w1 hx (q0 : v 0 = .agg #[.slice A t.basics.length capa, .slice B t.causes.length capb, .slice G t.gates.length capg]) (q1 : v 1 = .slice Apa pa.length cappa) (q2 : v 2 = .int .i64 (setsErr t.size pa)) (q3 : v 3 = .agg #[.slice A t.basics.length capa, .slice B t.causes.length capb, .slice G t.gates.length capg]) (q4 : v 4 = .slice Apb pb.length cappb) (q5 : v 5 = .int .i64 (setsErr t.size pb)) (q6 : IsInts w1 (v 6) [setsErr t.size pa, setsErr t.size pb]) (q7 : v 7 = .int .i64 S) (q8 : v 8 = .int .i64 S)
          simp only [Flow.All, Flow.acts, Act.put]
          go_simp
          have hxx := hdr.trans hx
          replace HX := Lib.hid (HX.out.trans hxx)
          replace HT := Lib.hid (HT.out.ext hxx)
          replace HTAB := Lib.hid (HTAB.out.ext hxx)
          replace K0 := Lib.hid (K0.out.ext hxx)
          replace HLpa := Lib.hid (HLpa.out.ext hxx)
          replace HLpb := Lib.hid (HLpb.out.ext hxx)
          have c0 := K0.out.cell 0
          have c1 := K0.out.cell 1
          have c2 := K0.out.cell 2
          simp only [List.getElem?_toArray, List.getElem?_cons_zero, List.getElem?_cons_succ] at c0 c1 c2
          clear hxx hx hdr q0 q1 q2 q3 q4 q5 q6 q7 q8
          obtain ⟨w10, hww⟩ : ∃ X, w1 = X := ⟨_, rfl⟩
          rw [hww] at HX HT c0 c1 c2 HTAB K0 HLpa HLpb ⊢
          clear hww
          by_cases hs0 : S = 0
          · have hns : (S == 0) = true := by simp [hs0]
            rw [if_pos hs0] at HSP
            clear hs0
            go_wp2_with fail
            refine (rCheckCuts_any _ _ _ _ t pa pb HV.out ⟨_, _, _, rfl, HT.out⟩ HLpa.out HLpb.out).mono ?_
            rintro e w11 ⟨rfl, hx⟩
            have hxx : Ext w10 w11 := hx
            replace HX := Lib.hid (HX.out.trans hxx)
            replace HT := Lib.hid (HT.out.ext hxx)
            replace c0 := hxx.cell c0
            replace c1 := hxx.cell c1
            replace c2 := hxx.cell c2
            replace HTAB := Lib.hid (HTAB.out.ext hxx)
            replace K0 := Lib.hid (K0.out.ext hxx)
            replace HLpa := Lib.hid (HLpa.out.ext hxx)
            replace HLpb := Lib.hid (HLpb.out.ext hxx)
            clear hx hxx
            rw [← HSP.out]
            go_wp2
            go_ret
            exact ⟨rfl, HW0.out.trans HX.out⟩
          · have hns : (S == 0) = false := by simp [hs0]
            rw [if_neg hs0] at HSP
            rw [← HSP.out] at hns ⊢
            clear hs0 c0 c1 c2
            go_wp2
            go_ret
            exact ⟨rfl, HW0.out.trans HX.out⟩
       · have hne : (E == 0) = false := by simp [he]
         have HSP : Hid (C = E) := by exact (by rw [← HC.out, cc_bad (by rw [HE.out]; exact he), HE.out] : C = E)
         rw [← HSP.out] at hne ⊢
         clear he c0 c1 c2
         go_wp2
         go_ret
         exact ⟨rfl, HW0.out.trans HX.out⟩
end Go.Proofs
namespace Go.Proofs.YthfanledageoeaaGreatDoor
open Go.ChangeShapes Go.WideShapes Go.ChangeAt Go.RowKit Go.Tw
set_option maxRecDepth 100000 in
theorem faultProofs_lifted (os : Os) (started : os.Started) (H : Type) (enc : TypeId × Value → H) :
    ReturnsInHanded {} Tryz.checked os 4 .any (fun w args => (Rows.faultProofsSpec.pre enc Tryz.prog Tryz.f4 Rows.faultProofsRow.domain false w args ∧ laidMetH Tryz.prog laidL w) ∧ sizedMet enc Tryz.prog Tryz.f4 (OpenSpec.ofChange Rows.faultProofsSpec) false w args)
     (Rows.faultProofsSpec.post enc Tryz.prog Tryz.f4 false true false false) := by
 refine returnsInHanded_of_change_and (C := Tryz.checked) (X := fun w _ => laidMetH Tryz.prog laidL w) (fun _ _ _ hh h => h.of_heap hh) own started (by kernel_rfl) Tryz.func4
  (ChangeSpec.witness_shaped (enc := enc) (C := Tryz.checked) (os := os) (X := fun w _ => laidMetH Tryz.prog laidL w) false (World.laidAll Tryz.prog os laidL) #[.agg #[.slice none 0 0, .slice none 0 0, .slice none 0 0], .slice none 0 0, .slice none 0 0] 8 (World.laidAll_os _ _ _)
   (World.shaped_of_ZipB (by kernel_rfl) (by kernel_rfl)) (by kernel_rfl) (by kernel_rfl) (by kernel_rfl)
   (by rw [MakeChecks.laidMetH_plain _ _ _ (by kernel_rfl)]; exact laidMet_laidAll _ (by kernel_rfl) (by kernel_rfl))) ?_
 intro W base args ds gs before hval0 hW hc hsz0 hL _
 have hval : ∀ (j : Nat) t v, Tryz.f4.params[j]? = some t → args[j]? = some v → Value.okWide Tryz.prog W .any base t v := hval0
 have hsz : (DataW.weightsEach Tryz.prog (Tryz.f4.params.toList ++ Rows.faultProofsSpec.plain.varTypes Tryz.prog) (ds ++ gs)).all (· ≤ reachBytes) = true := hsz0
 have hW' := hW
 obtain ⟨p, q, hA0, hV, rfl, hfz, hnd⟩ := hW
 have hA : DataW.TrodAll enc Tryz.prog W 0 (fun _ => true) true Tryz.f4.params.toList args.toList ds p := hA0
 rw [Tryz.params4] at hA hval hsz
 obtain ⟨v0, vs0, d0, ds0, p0, q0, hargs, rfl, rfl, h0, r0⟩ := trodAll_cons hA
 obtain ⟨v1, vs1, d1, ds1, p1, q1, rfl, rfl, rfl, h1, r1⟩ := trodAll_cons r0
 obtain ⟨v2, vs2, d2, ds2, p2, q2, rfl, rfl, rfl, h2, r2⟩ := trodAll_cons r1
 obtain ⟨rfl, rfl, rfl⟩ := trodAll_nil r2
 obtain rfl : args = #[v0, v1, v2] := by cases args; simp_all
 obtain ⟨rfl, rfl⟩ := trodVars_none hV
 have hfit : ∀ x ∈ DataW.weightsEach Tryz.prog [26, 29, 29] [d0, d1, d2], x ≤ 140737488351232 := fun x hx => by
  have := List.all_eq_true.1 (show (DataW.weightsEach Tryz.prog [26, 29, 29] [d0, d1, d2]).all (· ≤ reachBytes) = true from hsz) x hx
  exact Nat.le_trans (of_decide_eq_true this) (by decide)
 obtain ⟨f0, g0⟩ := fits_each hfit
 obtain ⟨f1, g1⟩ := fits_each g0
 obtain ⟨f2, g2⟩ := fits_each g1
 have k0 := h0
 have lt0 : ∀ x ∈ p0, x.block < W.heap.size := by obtain ⟨m, hm⟩ := k0; exact DataW.trod_lt m _ _ _ hm
 obtain ⟨t0, HI0⟩ := tree_of_trod (hval 0 26 v0 rfl rfl) h0 f0
 have k1 := h1
 have lt1 : ∀ x ∈ p1, x.block < W.heap.size := by obtain ⟨m, hm⟩ := k1; exact DataW.trod_lt m _ _ _ hm
 obtain ⟨a1, len1, cap1, rfl⟩ := okWide_slice Tryz.underlying29 (hval 1 29 v1 rfl rfl)
 obtain ⟨t1, HI1⟩ : ∃ l, IsIntss W (.slice a1 len1 cap1) l := by
  obtain ⟨m, hm⟩ := h1
  exact intss_of_trod (by simpa [Value.cells] using hm) f1
 have k2 := h2
 have lt2 : ∀ x ∈ p2, x.block < W.heap.size := by obtain ⟨m, hm⟩ := k2; exact DataW.trod_lt m _ _ _ hm
 obtain ⟨a2, len2, cap2, rfl⟩ := okWide_slice Tryz.underlying29 (hval 2 29 v2 rfl rfl)
 obtain ⟨t2, HI2⟩ : ∃ l, IsIntss W (.slice a2 len2 cap2) l := by
  obtain ⟨m, hm⟩ := h2
  exact intss_of_trod (by simpa [Value.cells] using hm) f2
 clear hA0 hval0 hsz0
 refine (faultProofs_any _ _ _ _ _ _ _ HI0 HI1 HI2 (tab_of_laid hL)).mono fun e W' ⟨he, bel⟩ => ?_
 subst he
 exact ⟨_, rfl, _, _, _, [], _, [], hW', trodAll_mk1 (shut_bool Tryz.underlying4 _), (trodAll_cons_mk (Below.trod laidOut (by kernel_rfl) (of_decide_eq_true (by kernel_rfl)) k0 bel lt0) (trodAll_cons_mk (Below.trod laidOut (by kernel_rfl) (of_decide_eq_true (by kernel_rfl)) k1 bel lt1) (trodAll_cons_mk (Below.trod laidOut (by kernel_rfl) (of_decide_eq_true (by kernel_rfl)) k2 bel lt2) trodAll_mk0))), rfl, bel.frame _, fun h => by cases h⟩
theorem faultProofs_holds : Rows.FaultProofsSaid :=
 OpenClaim.holds_of_wide 4 Tryz.f4 rfl rfl rfl rfl rfl rfl rfl ⟨rfl, rfl, rfl, rfl, rfl⟩ rfl rfl rfl rfl rfl (by kernel_rfl) Tryz.func4 (by kernel_rfl)
  (of_decide_eq_true (by kernel_rfl)) (by unfold Func.isWrapper; first | (rw [if_pos (by decide +kernel)]; kernel_rfl) | (rw [if_neg (by decide +kernel)]; exact ⟨rfl, rfl⟩))
  (fun os started H enc _ => faultProofs_lifted os started H enc)
theorem faultProofs_card : Rows.FaultProofsCardSaid :=
 Claim7.holds_tied_plain_at .later [] [.data, .data, .data] true _ false faultProofs_holds (fun _ h => by cases h) (by kernel_rfl) (fun _ h => by cases h) faultProofs_row_tie rfl ⟨rfl, rfl⟩ (by kernel_rfl) rfl
  (fun f fn hf hfn => by
   obtain rfl : f = 4 := Option.some.inj ((show Tryz.prog.funcNamed Rows.faultProofsRow.func = some 4 by kernel_rfl).symm.trans hf) |>.symm
   obtain rfl : fn = Tryz.f4 := (Option.some.inj (Tryz.func4.symm.trans hfn)).symm
   exact ⟨by kernel_rfl, fun j t ht => by
    rw [Tryz.params4] at ht
    have hm : t ∈ [26, 29, 29] := by simpa using Array.mem_of_getElem? ht
    have hall : ([26, 29, 29].all fun u => !Tryz.prog.wantsStandIn u) = true := by kernel_rfl
    exact (show Tryz.prog.wantsStandIn t = false by simpa using List.all_eq_true.1 hall t hm)⟩)
  (by kernel_rfl)
#print axioms faultProofs_card
end Go.Proofs.YthfanledageoeaaGreatDoor
