/- The contract of the reference's sets, in order. Contracts: the reference's Cuts, Paths, Single, CheckSet, CheckSets, contains, CheckCuts. Contracts: the reference's CheckSets, CheckCuts, chances, weight. The contract of the reference's weight. The contract of the reference's Lowest. Contracts: chances with others in their place, probabilities. Contracts: probabilities of the reference. Contracts: the probability of the reference. Contracts: the probability given some events. The program's weight of a tree is the reference's: plain sums. The law FaultChances: the call returns true. The law FaultChances: for every input the call returns true, and each argument reads afterwards as before: the row's statement, and its tied card. The listed tables of math/bits and strconv are as the program's text lays them. -/
import Derived.Test.YthfanledageoeaaGreatDoorCb50
import Derived.WalkKit
import Derived.WalkSpells
import Derived.WalkLawsBesides
import Derived.Lib.Hide
import Derived.Below
import Derived.Carry
import Derived.Laws.AppendOwn
import Derived.Deep.DeepMust
import Derived.Deep.Light
import Derived.Test.YthfanledageoeaaGreatDoorProg
import Derived.Deep.QuietTactic
import Derived.BigQuiet
import Derived.Orders
import Derived.Deep.Draws
import Derived.Laws.StructEq
import Derived.IntWalk
import Derived.Laws.BitsLemmas
import Derived.Maps.OwnSet
import Derived.MapKept
import Derived.Shelf.Abstract
import Derived.OrdersIn
import Derived.RangeFuncCalls
import Derived.TacticsIn
import Derived.RangeFuncNested
import Derived.RangeFuncBound
import Derived.RangeFuncLeaves
import Derived.RangeFuncFrom
import Derived.Shelf.RegionOpen
import Derived.OwnWalkIn
import Derived.TacticsInMore
import Derived.LoopNIn
import Derived.LoopIn
import Derived.Ground.Names7Prog
import Derived.Ground.SlsfProg
import Derived.Shelf.Spec.TrailingZeros
import Derived.Shelf.SlSortCmp.Whole1
import Derived.Shelf.SlGeneric
import Derived.Shelf.Strings.Builder1
import Derived.Shelf.Strings.Builder2
import Derived.Shelf.Strings.OnBuilder
import Derived.Shelf.Small.Bits
import Derived.Shelf.Small.Wraps
import Derived.Shelf.Strings.BuilderF
import Derived.Shelf.Strings.BuilderK
import Derived.Shelf.Strings.Builder2Cap
import Derived.Shelf.Strconv.Itoa0
import Derived.Shelf.Strconv.Itoa1
import Derived.Shelf.LaysM
import Derived.Shelf.Strconv.Itoa2
import Derived.Shelf.Strconv.Itoa3
import Derived.Shelf.Strings.BuilderCap
import Derived.Shelf.Slices.Turned
import Derived.Ground.Names2Prog
import Derived.Shelf.Slices.Clone
import Derived.Shelf.Slices.SearchI
import Derived.Ground.SlgnProg
import Derived.Shelf.SlicesE.Clone
import Derived.ChangeKeysEq
import Derived.Laws.MakeOwn
import Derived.Deep.Slices
import Derived.Deep.Strs
import Derived.ProofKit
import Derived.SizedLaws
import Derived.Test.YthfanledageoeaaGreatDoorRows
import Derived.Test.YthfanledageoeaaGreatDoorTie
import Derived.Test.YthfanledageoeaaGreatDoorCards
import Derived.OpenShut
import Derived.LaidMore
import Derived.Lay
import Derived.Lib.LaidTab
import Derived.SevenTiedAt
import Derived.Stop.Joined
set_option linter.unusedVariables false
set_option linter.unusedSimpArgs false
set_option linter.constructorNameAsVariable false
namespace Go.Proofs
open Go.RowKit Go.Tw Go.Flow
def pow2 (n : Nat) : Nat := 2 ^ n
theorem pow2_le {n : Nat} (h : n ≤ 12) : pow2 n ≤ 4096 := by
 have : (2 : Nat) ^ n ≤ 2 ^ 12 := Nat.pow_le_pow_right (by omega) h
 exact this
theorem power2_any (w : World) (n : Nat) (hn : n ≤ 12) :
    Calls Tryz.prog 85 #[.int .i64 2, .int .i64 n] w fun e w' => e = .returned (.int .i64 (pow2 n)) ∧ w = w' :=
 power_any w 2 n (by omega) (Nat.le_trans (Nat.pow_le_pow_right (n := 2) (by omega) hn) (by decide)) (by omega) (by omega)
end Go.Proofs
namespace Go.Proofs
open Go.RowKit Go.Tw Go.Flow
set_option maxHeartbeats 400000 in
theorem CheckSet_any (w : World) (v u : Value) (t : Tree) (l : List Int) (ht : IsTree w v t) (hl : IsInts w u l) :
    Calls Tryz.prog 31 #[v, u] w fun e w' => e = .returned (.int .i64 (setErr l t.size)) ∧ Ext w w' := by
 obtain ⟨a, b, c, rfl, h3⟩ := ht
 have hw := Ext.box w (.cells #[a, b, c] 26)
 have HT := Lib.hid (h3.ext hw)
 have HL := Lib.hid (hl.ext hw)
 clear h3 hl
 go_enter Tryz.func31, Tryz.ntmps31
 go_wp2_with fail
 refine (Size_any _ _ t ⟨_, _, _, rfl, HT.out⟩).mono ?_
 rintro e w1 ⟨rfl, hx⟩
 go_wp2_with fail
 refine (checkSet_any _ _ l _ (HL.out.ext hx)).mono ?_
 rintro e w2 ⟨rfl, hx2⟩
 go_wp2
 go_ret
 exact ⟨rfl, (hw.trans hx).trans hx2⟩
end Go.Proofs
namespace Go.Proofs
open Go.RowKit Go.Tw Go.Flow
def chancesTo (t : Tree) (n : Nat) : List Int := (List.range n).map t.chanceAt
theorem chancesTo_succ (t : Tree) (n : Nat) : chancesTo t (n + 1) = chancesTo t n ++ [t.chanceAt n] := by unfold chancesTo; rw [List.range_succ, List.map_append]; rfl
theorem chancesTo_len (t : Tree) (n : Nat) : (chancesTo t n).length = n := by simp [chancesTo]
set_option maxRecDepth 100000 in
set_option maxHeartbeats 400000 in
theorem chances_any (w : World) (v : Value) (t : Tree) (hs : t.size ≤ 100000) (ht : IsTree w v t) :
    Calls Tryz.prog 95 #[v] w fun e w' => ∃ x, e = .returned x ∧ IsInts w' x t.chances ∧ Ext w w' := by
 obtain ⟨i0, hi, hz0, hz1, hz2⟩ := info_parts Tryz.info3
 obtain ⟨a, b, c, rfl, h3⟩ := ht
 have hw := Ext.box w (.cells #[a, b, c] 26)
 have c0 := cell_new w #[a, b, c] 26 0
 have c1 := cell_new w #[a, b, c] 26 1
 have c2 := cell_new w #[a, b, c] 26 2
 have HT := Lib.hid (h3.ext hw)
 clear h3
 go_enter Tryz.func95, Tryz.ntmps95
 go_wp2
 obtain ⟨W, hW⟩ : ∃ W, w.alloc (.cells #[a, b, c] 26) = W := ⟨_, rfl⟩
 rw [hW] at c0 c1 c2 hw HT ⊢
 simp only [List.getElem?_toArray, List.getElem?_cons_zero, List.getElem?_cons_succ] at c0 c1 c2
 clear hW
 go_loopw [3, 4] (fun o i wr => ∃ (k : Nat), k ≤ t.size ∧ i = .int .i64 k ∧ Own1 wr W.heap.size 3 (.int .i64) o (chancesTo t k) ∧ Ext W wr) (fun _ i _ => t.size - (intOf i).toNat)
 case atStart => exact ⟨0, Nat.zero_le _, rfl, Own1.nil _ _ _ _, Ext.refl _⟩
 case round =>
  obtain ⟨k, hk, rfl, hown, hx⟩ := hrel
  have d0 := hx.cell c0
  have d1 := hx.cell c1
  have d2 := hx.cell c2
  clear c0 c1 c2
  have hle := chancesTo_len t k
  go_wp2_with fail
  refine (Size_any _ _ t ⟨_, _, _, rfl, HT.out.ext hx⟩).mono ?_
  rintro e w1 ⟨rfl, hx1⟩
  replace hown := hown.below hx1
  replace hx := hx.trans hx1
  replace d0 := hx1.cell d0
  replace d1 := hx1.cell d1
  replace d2 := hx1.cell d2
  clear hx1
  by_cases hlt : k < t.size
  · go_wp2_with fail
    refine (chance_any _ _ t k ⟨_, _, _, rfl, HT.out.ext hx⟩ hlt).mono ?_
    rintro e w2 ⟨rfl, hx2⟩
    replace hown := hown.below hx2
    replace hx := hx.trans hx2
    clear hx2 d0 d1 d2
    have hle2 : (chancesTo t k).length ≤ 100000 := by omega
    have HLE := Lib.hid hle; clear hle
    go_wp2_with (at_builtin; refine wpList_append_own _ rfl _ _ 39 rfl (W.heap.size) 3 i0 (.int .i64 0) 1 8 Tryz.underlying39 hi hz0 hz1 hz2 rfl (by decide) _ _ _ rfl (World.ownsRow.alloc hown _) ⟨w2.heap.size, 0, none⟩ 1 1 [.int .i64 (t.chanceAt k)] rfl rfl ?_ ?_ ?_ ?_ ?_ ?_; exact one_new _ _ _; (focus (simp [Value.oneCell'])); (focus (unfold maxLen; omega)); (focus omega); (focus (have := hx.size; simp at this ⊢; omega)); intro v' w1 hown' hgrow _)
    have hx2 := ext_grown hx hown (Nat.le_refl _) hgrow
    go_roundw
    case rel => exact ⟨k + 1, by omega, by go_num, by rw [chancesTo_succ]; exact Own1.snoc hown', hx2⟩
    case measure => simp [intOf]; omega
  · have HLE := Lib.hid hle; clear hle
    go_wp2
    go_ret
    exact ⟨_, rfl, by rw [show t.chances = chancesTo t k from by rw [show k = t.size from by omega]; rfl]; exact hown.ints (by have := HLE.out; omega), hw.trans hx⟩
end Go.Proofs
namespace Go.Proofs
open Go.RowKit Go.Tw Go.Flow
theorem weightTo_bd {c : List Int} (h : Small c) (t : Tree) : ∀ s, 0 ≤ t.weightTo c s ∧ t.weightTo c s ≤ s * 281474976710656
 | 0 => by simp [Tree.weightTo]
 | s + 1 => by
   have := weightTo_bd h t s
   have h2 := partTo_le h s (Nat.le_refl c.length)
   unfold Tree.weightTo Tw.partOf
   split <;> omega
set_option maxRecDepth 100000 in
set_option maxHeartbeats 2000000 in
theorem weight_any (w : World) (v u : Value) (t : Tree) (c : List Int) (hfit : Fit t) (hn : 1 ≤ t.nodes) (hs : t.size ≤ 12) (hc : Small c) (ht : IsTree w v t) (hl : IsInts w u c) :
    Calls Tryz.prog 104 #[v, u] w fun e w' => e = .returned (.int .i64 (t.weight c)) ∧ Ext w w' := by
 obtain ⟨a, b, d, rfl, h3⟩ := ht
 have hw := Ext.box w (.cells #[a, b, d] 26)
 have c0 := cell_new w #[a, b, d] 26 0
 have c1 := cell_new w #[a, b, d] 26 1
 have c2 := cell_new w #[a, b, d] 26 2
 have HT := Lib.hid (h3.ext hw)
 have HF := Lib.hid hfit
 have HCS := Lib.hid hc
 obtain ⟨A, cap, rfl, hl1, hcap, hcell⟩ := hl.opened
 have hlc := hc.len
 have hp2 := pow2_le hs
 clear h3 hl hfit hc
 go_enter Tryz.func104, Tryz.ntmps104
 go_wp2
 obtain ⟨W, hW⟩ : ∃ W, w.alloc (.cells #[a, b, d] 26) = W := ⟨_, rfl⟩
 rw [hW] at c0 c1 c2 hw HT ⊢
 simp only [List.getElem?_toArray, List.getElem?_cons_zero, List.getElem?_cons_succ] at c0 c1 c2
 clear hW
 go_loopw [5, 6] (fun o i wr => ∃ (k : Nat) (x : Int), k ≤ pow2 t.size ∧ i = .int .i64 k ∧ o = .int .i64 x ∧ x = t.weightTo c k ∧ Ext W wr) (fun _ i _ => pow2 t.size - (intOf i).toNat)
 case atStart => exact ⟨0, 0, Nat.zero_le _, rfl, rfl, rfl, Ext.refl _⟩
 case round =>
  obtain ⟨k, x, hk, rfl, rfl, hxe, hx⟩ := hrel
  have hbx := weightTo_bd HCS.out t k
  rw [← hxe] at hbx
  have HX := Lib.hid hxe
  have d0 := hx.cell c0
  have d1 := hx.cell c1
  have d2 := hx.cell c2
  clear c0 c1 c2 hxe
  go_wp2_with fail
  refine (Size_any _ _ t ⟨_, _, _, rfl, HT.out.ext hx⟩).mono ?_
  rintro e w1 ⟨rfl, hx1⟩
  go_wp2_with fail
  refine (power2_any _ _ hs).mono ?_
  rintro e w1' ⟨rfl, rfl⟩
  replace hx := hx.trans hx1
  replace d0 := hx1.cell d0
  replace d1 := hx1.cell d1
  replace d2 := hx1.cell d2
  clear hx1
  by_cases hlt : k < pow2 t.size
  · skip
    go_wp2_with fail
    refine (Members_any _ k (by omega)).mono ?_
    rintro e w2 ⟨lv, rfl, hlv, hx2⟩
    replace d0 := hx2.cell d0
    replace d1 := hx2.cell d1
    replace d2 := hx2.cell d2
    have HLV := Lib.hid hlv
    clear hlv
    go_wp2_with fail
    refine (Fails_any _ _ _ t (bitsOf k) HF.out hn ⟨_, _, _, rfl, HT.out.ext (hx.trans hx2)⟩ HLV.out).mono ?_
    rintro e w3 ⟨rfl, hx3⟩
    have hx' := (hx.trans hx2).trans hx3
    have HLV3 := Lib.hid (HLV.out.ext hx3)
    have hst : t.weightTo c (k + 1) = t.weightTo c k + if t.fails (evL (bitsOf k)) then partOf c k else 0 := by rw [evL_bits (by omega)]; rfl
    have HST := Lib.hid hst
    clear hx d0 d1 d2 hx2 hx3 hst HLV
    cases hm : t.fails (evL (bitsOf k)) with
    | false =>
      go_wp2
      go_roundw
      case rel => exact ⟨k + 1, x, by omega, by go_num, rfl, by rw [HST.out, hm, HX.out]; simp, hx'⟩
      case measure => simp [intOf]; omega
    | true =>
      go_wp2
      go_loop [8, 9] (fun y i => ∃ (j : Nat) (z : Int), j ≤ c.length ∧ i = .int .i64 j ∧ y = .int .i64 z ∧ z = partTo c k j) (fun _ i => c.length - (intOf i).toNat)
      case atStart => exact ⟨0, 1, Nat.zero_le _, rfl, rfl, rfl⟩
      case round =>
       obtain ⟨j, z, hj, rfl, rfl, hz⟩ := hrel
       have hbz := partTo_le HCS.out k hj
       rw [← hz] at hbz
       have HZ := Lib.hid hz
       clear hz
       by_cases hlj : j < c.length
       · obtain ⟨b1, off, rfl, hce⟩ := hcell j hlj
         replace hce := hx'.cell (hw.cell hce)
         have hfb := HCS.out.factor k hlj
         have hnext : partTo c k (j + 1) = z * factor c k j := by rw [partTo, HZ.out]
         have hbn := partTo_le HCS.out k (show j + 1 ≤ c.length by omega)
         rw [hnext] at hbn
         have hib := HCS.out.ix hlj
         have hbit : has (bitsOf k) (j : Int) = k.testBit j := congrFun (evL_bits (s := k) (by omega)) j
         have HBI := Lib.hid hbit
         have HNX := Lib.hid hnext
         clear hcell hnext hbit
         cases hb : k.testBit j with
         | true =>
           have hff : factor c k j = ix c j := by unfold factor; rw [hb]; rfl
           rw [hff] at hbn
           obtain ⟨y, hy⟩ : ∃ y, z * ix c j = y := ⟨_, rfl⟩
           rw [hy] at hbn
           have HY := Lib.hid hff
           go_wp2_with (go_at_call 97; refine (HasInt_any _ _ _ _ HLV3.out).mono ?_; rintro e w' ⟨rfl, rfl⟩; rw [HBI.out, hb])
           go_round
           case rel => exact ⟨j + 1, y, by omega, by go_num, rfl, by rw [HNX.out, HY.out, hy]⟩
           case measure => simp [intOf]; omega
         | false =>
           have hff : factor c k j = 16 - ix c j := by unfold factor; rw [hb]; rfl
           rw [hff] at hbn
           obtain ⟨y, hy⟩ : ∃ y, z * (16 - ix c j) = y := ⟨_, rfl⟩
           rw [hy] at hbn
           have HY := Lib.hid hff
           go_wp2_with (go_at_call 97; refine (HasInt_any _ _ _ _ HLV3.out).mono ?_; rintro e w' ⟨rfl, rfl⟩; rw [HBI.out, hb])
           go_round
           case rel => exact ⟨j + 1, y, by omega, by go_num, rfl, by rw [HNX.out, HY.out, hy]⟩
           case measure => simp [intOf]; omega
       · clear hcell
         have hk4 : (k : Int) ≤ 4095 := by omega
         go_wp2
         go_roundw
         case rel => exact ⟨k + 1, x + z, by omega, by go_num, by go_num, by rw [HST.out, hm, HX.out, HZ.out, show j = c.length from by omega]; rfl, hx'⟩
         case measure => simp [intOf]; omega
  · go_wp2
    go_ret
    exact ⟨ret_int (by rw [HX.out, show k = pow2 t.size from by omega]; rfl), hw.trans hx⟩
end Go.Proofs
namespace Go.Proofs
open Go.RowKit Go.Tw Go.Flow
set_option maxRecDepth 100000 in
set_option maxHeartbeats 800000 in
theorem Lowest_any (w : World) (a b : Int) (ha : 0 ≤ a) (ha2 : a ≤ 4611686018427387904) (hb : 1 ≤ b) (hb2 : b ≤ 4611686018427387904) :
    Calls Tryz.prog 105 #[.int .i64 a, .int .i64 b] w fun e w' => e = .returned (.agg #[.int .i64 (lowest a b).num, .int .i64 (lowest a b).den]) ∧ Ext w w' := by
 have hw := Ext.box w (.cells #[.int .i64 0, .int .i64 0] 56)
 have c0 := cell_new w #[.int .i64 0, .int .i64 0] 56 0
 have c1 := cell_new w #[.int .i64 0, .int .i64 0] 56 1
 have f0 := frozen_new w #[.int .i64 0, .int .i64 0] 56 0
 have f1 := frozen_new w #[.int .i64 0, .int .i64 0] 56 1
 have hsW : w.heap.size < (w.alloc (.cells #[.int .i64 0, .int .i64 0] 56)).heap.size := by show _ < (w.heap.push _).size; rw [Array.size_push]; omega
 have n1 : ¬ b < 0 := by omega
 go_enter Tryz.func105, Tryz.ntmps105
 go_wp2
 obtain ⟨W, hW⟩ : ∃ W, w.alloc (.cells #[.int .i64 0, .int .i64 0] 56) = W := ⟨_, rfl⟩
 rw [hW] at c0 c1 f0 f1 hsW hw ⊢
 simp only [List.getElem?_toArray, List.getElem?_cons_zero, List.getElem?_cons_succ] at c0 c1
 clear hW
 go_loopw [5, 6] (fun x y wr => ∃ (p q : Int), x = .int .i64 p ∧ y = .int .i64 q ∧ 0 ≤ p ∧ 0 ≤ q ∧ p ≤ 4611686018427387904 ∧ q ≤ 4611686018427387904 ∧ (0 < p ∨ 0 < q) ∧ Int.gcd p q = Int.gcd a b ∧ Ext W wr) (fun _ y _ => (intOf y).toNat)
 case atStart => exact ⟨a, b, by first | rfl | rw [show max a (-a) = a by omega], by first | rfl | rw [show max b (-b) = b by omega], ha, by omega, ha2, hb2, by omega, rfl, Ext.refl _⟩
 case round =>
  obtain ⟨p, q, rfl, rfl, hp, hq, hp2, hq2, hpq, hg, hx0⟩ := hrel
  by_cases hz : q = 0
  · subst hz
    have hpg : p = (Int.gcd a b : Int) := by rw [← hg, Int.gcd_zero]; omega
    have hdz : ¬ p = 0 := by omega
    replace c0 := hx0.cell c0
    replace c1 := hx0.cell c1
    have HPG := Lib.hid hpg
    clear hg hpg
    have hq1 : a / p ≤ a := Int.ediv_le_self _ ha
    have hq2 : b / p ≤ b := Int.ediv_le_self _ (by omega)
    have hq3 : 0 ≤ a / p := Int.ediv_nonneg ha hp
    have hq4 : 0 ≤ b / p := Int.ediv_nonneg (by omega) hp
    have hq5 : a.tdiv p = a / p := Int.tdiv_eq_ediv_of_nonneg ha
    have hq6 : b.tdiv p = b / p := Int.tdiv_eq_ediv_of_nonneg (by omega)
    have hq7 : IntKind.i64.wrap (a / p) = a / p := wrap_in (by omega) (by omega)
    have hq8 : IntKind.i64.wrap (b / p) = b / p := wrap_in (by omega) (by omega)
    have hwr := Nat.lt_of_lt_of_le hsW hx0.size
    replace f0 := (hx0.frozen hsW).trans f0
    replace f1 := (hx0.frozen hsW).trans f1
    go_wp2
    refine Flow.region [.plain, .plain, .plain, .plain, .plain, .plain, .plain, .last] [0, 1, 2, 3, 4, 5, 6, 7] [[], [], [0, 1], [], [], [3, 4], [0, 1, 2, 3, 4, 5], [0, 1, 2, 3, 4, 5, 6]] [7]
     [.is 0 (fun v => .int .i64 a), .is 1 (fun v => .int .i64 p), .is 2 (fun v => .int .i64 (a / p)), .is 3 (fun v => .int .i64 b), .is 4 (fun v => .int .i64 p), .is 5 (fun v => .int .i64 (b / p)), .is 6 (fun v => .agg #[.int .i64 (a / p), .int .i64 (b / p)]), .none]
     [fun v w1 w' => w'.cell? ⟨w.heap.size, 0, none⟩ = some (.int .i64 (a / p)) ∧ w'.cell? ⟨w.heap.size, 1, none⟩ = some (.int .i64 (b / p)) ∧ Below w.heap.size w1 w'] (by kernel_rfl) rfl (by kernel_rfl) ⟨?g0, ?g1, ?g2, ?g3, ?g4, ?g5, ?g6, ?g7, trivial⟩ ?post
    case g0 =>
     intro v w1 hx
     have c0 := hx.cell c0
     have c1 := hx.cell c1
     refine ⟨_, fun w => ?_, rfl⟩
     go_simp
    case g1 =>
     intro v w1 hx
     have c0 := hx.cell c0
     have c1 := hx.cell c1
     refine ⟨_, fun w => ?_, rfl⟩
     go_simp
    case g2 =>
     intro v w1 hx (q0 : v 0 = .int .i64 a) (q1 : v 1 = .int .i64 p)
     have c0 := hx.cell c0
     have c1 := hx.cell c1
     refine ⟨_, fun w => ?_, rfl⟩
     go_simp
    case g3 =>
     intro v w1 hx
     have c0 := hx.cell c0
     have c1 := hx.cell c1
     refine ⟨_, fun w => ?_, rfl⟩
     go_simp
    case g4 =>
     intro v w1 hx
     have c0 := hx.cell c0
     have c1 := hx.cell c1
     refine ⟨_, fun w => ?_, rfl⟩
     go_simp
    case g5 =>
     intro v w1 hx (q3 : v 3 = .int .i64 b) (q4 : v 4 = .int .i64 p)
     have c0 := hx.cell c0
     have c1 := hx.cell c1
     refine ⟨_, fun w => ?_, rfl⟩
     go_simp
    case g6 =>
     intro v w1 hx (q0 : v 0 = .int .i64 a) (q1 : v 1 = .int .i64 p) (q2 : v 2 = .int .i64 (a / p)) (q3 : v 3 = .int .i64 b) (q4 : v 4 = .int .i64 p) (q5 : v 5 = .int .i64 (b / p))
     have c0 := hx.cell c0
     have c1 := hx.cell c1
     refine ⟨_, fun w => ?_, rfl⟩
     go_simp
    case g7 =>
     intro v w1 hx (q0 : v 0 = .int .i64 a) (q1 : v 1 = .int .i64 p) (q2 : v 2 = .int .i64 (a / p)) (q3 : v 3 = .int .i64 b) (q4 : v 4 = .int .i64 p) (q5 : v 5 = .int .i64 (b / p)) (q6 : v 6 = .agg #[.int .i64 (a / p), .int .i64 (b / p)])
     intro wl hT
     obtain rfl : wl = w1 := hT
     intro bb hbb
     subst hbb
     have c0 := hx.cell c0
     have c1 := hx.cell c1
     intro K hK
     have g0 := (hx.frozen (p := ⟨w.heap.size, 0, none⟩) hwr).trans f0
     have g1 := (hx.frozen (p := ⟨w.heap.size, 1, none⟩) hwr).trans f1
     go_simp
     refine hK _ _ ⟨?_, ?_, ((Below.refl w.heap.size wl).setCell (p := ⟨w.heap.size, 0, none⟩) (Nat.le_refl _) _).setCell (p := ⟨w.heap.size, 1, none⟩) (Nat.le_refl _) _⟩
     · refine Eq.trans (World.cell?_setCell_other _ _ _ _ ?_) (World.cell?_setCell_same _ _ _ c0); intro h; cases h
     · refine World.cell?_setCell_same _ _ _ (Eq.trans (World.cell?_setCell_other _ _ _ _ ?_) c1); intro h; cases h
    case post =>
     intro v w1 hx (q0 : v 0 = .int .i64 a) (q1 : v 1 = .int .i64 p) (q2 : v 2 = .int .i64 (a / p)) (q3 : v 3 = .int .i64 b) (q4 : v 4 = .int .i64 p) (q5 : v 5 = .int .i64 (b / p)) (q6 : v 6 = .agg #[.int .i64 (a / p), .int .i64 (b / p)])
     intro w2 hE
     replace hE : (fun v w1 w' => w'.cell? ⟨w.heap.size, 0, none⟩ = some (.int .i64 (a / p)) ∧ w'.cell? ⟨w.heap.size, 1, none⟩ = some (.int .i64 (b / p)) ∧ Below w.heap.size w1 w') v w1 w2 := hE
     simp only [Flow.acts, Act.put]
     go_simp
     obtain ⟨e0, e1, e2⟩ := hE
     apply_assumption
     go_wp2
     refine bodyPost_ret (v := .agg #[.int .i64 (a / p), .int .i64 (b / p)]) (by simp [results, Tryz.results105, go_sem, e0, e1]) rfl ?_
     exact ⟨by rw [HPG.out]; rfl, Below.trans ((hw.trans hx0.drew).trans hx) e2⟩
  · have hq0 : 0 < q := by omega
    have hst := gcd_step p q hp hq0
    have htm : p % q < q := Int.emod_lt_of_pos p hq0
    have htn := Int.emod_nonneg p (show q ≠ 0 by omega)
    rw [Int.tmod_eq_emod_of_nonneg hp] at hst
    go_wp2
    go_quiet (fail)
    all_goals go_wp2
    go_roundw
    case rel => exact ⟨q, p % q, rfl, by go_num, by omega, htn, hq2, by omega, Or.inl hq0, by rw [hst, hg], hx0.drewN _⟩
    case measure => exact (Int.toNat_lt_toNat hq0).2 htm
end Go.Proofs
namespace Go.Proofs
open Go.RowKit Go.Tw Go.Flow
theorem withTo_len (c l : List Int) (n : Int) (k : Nat) : (withTo c l n k).length = c.length := by simp [withTo]
theorem withTo_zero (c l : List Int) (n : Int) : withTo c l n 0 = c := by
 apply List.ext_getElem
 · simp [withTo]
 · intro i h1 h2
   simp [withTo, has, ix_eq h2]
theorem withTo_succ {c l : List Int} {n : Int} {k : Nat} (hk : k < l.length) (h0 : 0 ≤ ix l k) : withTo c l n (k + 1) = (withTo c l n k).set (ix l k).toNat n := by
 apply List.ext_getElem
 · simp [withTo]
 · intro i h1 h2
   have e : l.take (k + 1) = l.take k ++ [ix l k] := by rw [ix_eq hk, List.take_append_getElem]
   simp only [withTo, List.getElem_set, List.getElem_map, List.getElem_range, e]
   have e2 : has (l.take k ++ [ix l k]) (i : Int) = (has (l.take k) i || decide ((ix l k).toNat = i)) := by
    rw [Bool.eq_iff_iff, has_iff, Bool.or_eq_true, has_iff, decide_eq_true_eq, List.mem_append, List.mem_singleton]
    constructor
    · rintro (h | h); · exact .inl h
      · right; omega
    · rintro (h | h); · exact .inl h
      · right; omega
   rw [e2]
   by_cases h : (ix l k).toNat = i
   · simp [h]
   · simp [h]
theorem withTo_all (c l : List Int) (n : Int) : withTo c l n l.length = withEv c l n := by unfold withTo withEv; rw [List.take_length]
theorem news_ints {w : World} {b off : Nat} {l : List Int} (h : ∀ j, j < l.length → w.cell? ⟨b, off + j, none⟩ = some (.int .i64 (ix l j))) :
    ∀ j u, (l.map (Value.int .i64))[j]? = some u → w.cell? ((⟨b, off, none⟩ : Addr).add j) = some u := by
 intro j u hu
 rw [List.getElem?_map] at hu
 rcases Nat.lt_or_ge j l.length with hj | hj
 · rw [List.getElem?_eq_getElem hj] at hu
   simp only [Option.map_some, Option.some.injEq] at hu
   rw [← hu, addr_add, h j hj, ix_eq hj]
 · rw [List.getElem?_eq_none hj] at hu; cases hu
set_option maxRecDepth 100000 in
set_option maxHeartbeats 800000 in
theorem with_any (w : World) (u v : Value) (c l : List Int) (n : Int) (h0 : 0 < c.length) (hl : ∀ k, k < l.length → 0 ≤ ix l k ∧ ix l k < c.length) (hu : IsInts w u c) (hv : IsInts w v l) :
    Calls Tryz.prog 98 #[u, v, .int .i64 n] w fun e w' => ∃ x, e = .returned x ∧ IsInts w' x (withEv c l n) ∧ Ext w w' := by
 obtain ⟨i0, hi, hz0, hz1, hz2⟩ := info_parts Tryz.info3
 obtain ⟨A, cap, rfl, hcl, hcap, hcc⟩ := hu.opened
 obtain ⟨b0, off0, rfl, hcell0⟩ := hcc 0 h0
 have hb := World.block_lt_of_cell? w _ hcell0
 have hcs : ∀ j, j < c.length → w.cell? ⟨b0, off0 + j, none⟩ = some (.int .i64 (ix c j)) := fun j hj => by
  obtain ⟨b', off', hA, h⟩ := hcc j hj
  cases hA; exact h
 clear hu hcc hcell0
 have HC := Lib.hid hcs; clear hcs
 obtain ⟨B, capl, rfl, hll, hcapl, hlc⟩ := hv.opened
 clear hv
 have HLC := Lib.hid hlc; clear hlc
 have HL := Lib.hid hl; clear hl
 have HH0 := Lib.hid h0
 clear h0
 go_enter Tryz.func98, Tryz.ntmps98
 go_wp2_with (at_builtin; refine wpList_append_own _ rfl _ _ 39 rfl w.heap.size 3 i0 (.int .i64 0) 1 8 Tryz.underlying39 hi hz0 hz1 hz2 rfl (by decide) _ _ _ rfl (Own1.made w w.heap.size 3 (Value.int .i64) (Nat.le_refl _)) ⟨b0, off0, none⟩ c.length cap (c.map (Value.int .i64)) rfl (by simp) ?_ ?_ ?_ ?_ ?_ ?_; exact news_ints (fun j hj => (Ext.box w _).cell (HC.out j hj)); (focus (intro u hu; obtain ⟨y, _, rfl⟩ := List.mem_map.1 hu; rfl)); (focus (unfold maxLen; simp; omega)); (focus (simp; omega)); (focus (simp)); intro v' w1 hown' hgrow _)
 have hx1 : Ext w w1 := Below.grown (Ext.box w _) hgrow (Ext.box w _).size (fun k hk => by
  have h : some w.heap.size = some k := hk
  injection h with h; omega)
 replace hown' : Own1 w1 w.heap.size 3 (Value.int .i64) v' c := by unfold Own1; simpa using hown'
 clear hgrow
 obtain ⟨g, cp, rfl, hg, hcp⟩ := hown'.spot HH0.out
 go_wp2
 go_loopw [8] (fun i wr => ∃ (k : Nat), k ≤ l.length ∧ i = .int .i64 k ∧ Own1 wr w.heap.size 3 (.int .i64) (.slice (some ⟨g, 0, none⟩) c.length cp) (withTo c l n k) ∧ Ext w wr) (fun i _ => l.length - (intOf i).toNat)
 case atStart => exact ⟨0, Nat.zero_le _, rfl, by rw [withTo_zero]; exact hown', hx1⟩
 case round =>
  obtain ⟨k, hk, rfl, hown, hx⟩ := hrel
  have hlen := withTo_len c l n k
  by_cases hlt : k < l.length
  · obtain ⟨b, off, rfl, hce⟩ := HLC.out k hlt
    replace hce := hx.cell hce
    obtain ⟨y0, y1⟩ := HL.out k hlt
    have hst := withTo_succ (c := c) (n := n) hlt y0
    obtain ⟨j, hj⟩ : ∃ j : Nat, ix l k = j := ⟨(ix l k).toNat, by omega⟩
    rw [hj] at hce y0 y1 hst
    rw [Int.toNat_natCast] at hst
    have hjl : j < c.length := by omega
    obtain ⟨m0, m1⟩ := hown.at (j := j) (by omega)
    have HOWN := Lib.hid hown
    have HST := Lib.hid hst
    have HJ := Lib.hid hj
    have HLEN := Lib.hid hlen
    clear hown hst hj hlen
    go_wp2
    go_roundw
    case rel => exact ⟨k + 1, by omega, by go_num, by rw [HST.out]; exact HOWN.out.set n, hx.setCell (p := ⟨g, j, none⟩) hg _⟩
    case measure => simp [intOf]; omega
  · have HLEN := Lib.hid hlen; clear hlen
    go_wp2
    go_ret
    exact ⟨_, rfl, by rw [← withTo_all, show l.length = k from by omega]; have := hown.ints (by have := HLEN.out; omega); exact this, hx⟩
end Go.Proofs
namespace Go.Proofs
open Go.RowKit Go.Tw Go.Flow
def ratV (r : Ratio) : Value := .agg #[.int .i64 r.num, .int .i64 r.den]
def probOf (t : Tree) (c : List Int) : Ratio := lowest (t.weight c) (powN 16 c.length)
theorem pow16_bd {n : Nat} (h : n ≤ 12) : 1 ≤ 16 ^ n ∧ 16 ^ n ≤ 281474976710656 := by
 refine ⟨Nat.le_trans Nat.one_le_two_pow (Nat.pow_le_pow_left (by omega : 2 ≤ 16) n), Nat.le_trans (Nat.pow_le_pow_right (by omega) h) (by decide)⟩
theorem powN16_bd {n : Nat} (h : n ≤ 12) : 1 ≤ powN 16 n ∧ powN 16 n ≤ 281474976710656 := pow16_bd h
theorem power16_any (w : World) (n : Nat) (hn : n ≤ 12) :
    Calls Tryz.prog 85 #[.int .i64 16, .int .i64 n] w fun e w' => e = .returned (.int .i64 (powN 16 n)) ∧ w = w' :=
 power_any w 16 n (by omega) (Nat.le_trans (pow16_bd hn).2 (by decide)) (by omega) (by omega)
theorem weight_bd {c : List Int} (h : Small c) {t : Tree} (hs : t.size ≤ 12) : 0 ≤ t.weight c ∧ t.weight c ≤ 1152921504606846976 := by
 have h1 := weightTo_bd h t (2 ^ t.size)
 have h2 : 2 ^ t.size ≤ 4096 := Nat.le_trans (Nat.pow_le_pow_right (n := 2) (by omega) hs) (by decide)
 unfold Tree.weight
 have h3 : ((2 ^ t.size : Nat) : Int) ≤ 4096 := Int.ofNat_le.2 h2
 omega
set_option maxRecDepth 100000 in
set_option maxHeartbeats 800000 in
theorem Probability_any (w : World) (v u : Value) (t : Tree) (c : List Int) (hfit : Fit t) (hn : 1 ≤ t.nodes) (hs : t.size ≤ 12) (hc : Small c) (ht : IsTree w v t) (hl : IsInts w u c) :
    Calls Tryz.prog 48 #[v, u] w fun e w' => e = .returned (ratV (probOf t c)) ∧ Ext w w' := by
 obtain ⟨a, b, d, rfl, h3⟩ := ht
 have hw := Ext.box w (.cells #[a, b, d] 26)
 have c0 := cell_new w #[a, b, d] 26 0
 have c1 := cell_new w #[a, b, d] 26 1
 have c2 := cell_new w #[a, b, d] 26 2
 have HT := Lib.hid (h3.ext hw)
 have HL := Lib.hid (hl.ext hw)
 have HF := Lib.hid hfit
 have HCS := Lib.hid hc
 obtain ⟨A, cap, rfl, hl1, hcap, hcell⟩ := hl.opened
 have hlc := hc.len
 have hwb := weight_bd hc hs
 have hpb := powN16_bd hlc
 clear h3 hl hfit hc hcell
 go_enter Tryz.func48, Tryz.ntmps48
 go_wp2_with fail
 have R := Res.new1 w (.cells #[a, b, d] 26) 56
 have hx0 := Ext.box (w.alloc (.cells #[a, b, d] 26)) (.cells #[.int .i64 0, .int .i64 0] 56)
 refine (weight_any _ _ _ t c HF.out hn hs HCS.out ⟨_, _, _, rfl, HT.out.ext hx0⟩ (HL.out.ext hx0)).mono ?_
 rintro e w1 ⟨rfl, hx1⟩
 replace R := R.ext hx1
 have hx := (hw.trans hx0).trans hx1
 clear hx0 hx1 c0 c1 c2 hw HT
 go_wp2_with fail
 refine (power16_any _ _ hlc).mono ?_
 rintro e w2 ⟨rfl, rfl⟩
 go_wp2_with fail
 refine (Lowest_any _ _ _ hwb.1 (by omega) (by omega) (by omega)).mono ?_
 rintro e w3 ⟨rfl, hx3⟩
 replace R := R.ext hx3
 replace hx := hx.trans hx3
 clear hx3
 obtain ⟨r0, r1, f0, f1⟩ := R
 go_wp2
 obtain ⟨e0, e1⟩ := stored2 (x := .int .i64 (lowest (t.weight c) (powN 16 c.length)).num) (y := .int .i64 (lowest (t.weight c) (powN 16 c.length)).den) r0 r1
 refine bodyPost_ret (v := ratV (probOf t c)) (by simp [results, Tryz.results48, go_sem, e0, e1, ratV, probOf]) rfl ?_
 exact ⟨rfl, Ext.stored2 hx (by omega) _ _⟩
end Go.Proofs
namespace Go.Proofs
open Go.RowKit Go.Tw Go.Flow
theorem prob_nums {t : Tree} {c : List Int} : ratV (probOf t c) = .agg #[.int .i64 (probOf t c).num, .int .i64 (probOf t c).den] := rfl
set_option maxRecDepth 100000 in
set_option maxHeartbeats 800000 in
theorem Chance_any (w : World) (v : Value) (t : Tree) (hv : Valid t) (ht : IsTree w v t) :
    Calls Tryz.prog 30 #[v] w fun e w' => e = .returned (ratV (probOf t t.chances)) ∧ Ext w w' := by
 obtain ⟨a, b, d, rfl, h3⟩ := ht
 have hw := Ext.box w (.cells #[a, b, d] 26)
 have c0 := cell_new w #[a, b, d] 26 0
 have c1 := cell_new w #[a, b, d] 26 1
 have c2 := cell_new w #[a, b, d] 26 2
 have hx0 := Ext.box (w.alloc (.cells #[a, b, d] 26)) (.cells #[.int .i64 0, .int .i64 0] 56)
 have R := Res.new1 w (.cells #[a, b, d] 26) 56
 have HT := Lib.hid (h3.ext hw)
 have HV := Lib.hid hv
 have hsz := hv.size
 replace c0 := hx0.cell c0
 replace c1 := hx0.cell c1
 replace c2 := hx0.cell c2
 have HTX := Lib.hid (HT.out.ext hx0)
 clear h3 hv
 go_enter Tryz.func30, Tryz.ntmps30
 go_wp2
 obtain ⟨W, hW⟩ : ∃ W, (w.alloc (.cells #[a, b, d] 26)).alloc (.cells #[.int .i64 0, .int .i64 0] 56) = W := ⟨_, rfl⟩
 rw [hW] at c0 c1 c2 hx0 R HTX ⊢
 have hxx := hw.trans hx0
 clear hW hw hx0
 refine Flow.region [.world, .world, .world, .world, .last] [0, 1, 2, 3, 4] [[], [], [1], [0, 1, 2], [0, 1, 2, 3]] [4]
  [.is 0 (fun v => .agg #[a, b, d]), .is 1 (fun v => .agg #[a, b, d]), ⟨fun v wz => IsInts wz (v 2) t.chances, fun _ _ _ hx h => h.ext hx⟩, .is 3 (fun v => ratV (probOf t t.chances)), .none]
  [fun v w1 w' => w'.cell? ⟨w.heap.size + 1, 0, none⟩ = some (.int .i64 (probOf t t.chances).num) ∧ w'.cell? ⟨w.heap.size + 1, 1, none⟩ = some (.int .i64 (probOf t t.chances).den) ∧ Below w.heap.size w1 w'] (by kernel_rfl) rfl (by kernel_rfl) ⟨?g0, ?g1, ?g2, ?g3, ?g4, trivial⟩ ?post
 case g0 =>
  intro v w1 hx
  have c0 := hx.cell c0
  have c1 := hx.cell c1
  have c2 := hx.cell c2
  intro K hK
  go_simp
  exact hK _ _ (Ext.refl _) rfl
 case g1 =>
  intro v w1 hx
  have c0 := hx.cell c0
  have c1 := hx.cell c1
  have c2 := hx.cell c2
  intro K hK
  go_simp
  exact hK _ _ (Ext.refl _) rfl
 case g2 =>
  intro v w1 hx (q1 : v 1 = .agg #[a, b, d])
  have c0 := hx.cell c0
  have c1 := hx.cell c1
  have c2 := hx.cell c2
  intro K hK
  go_simp
  refine gives_call (chances_any _ _ t (by omega) ⟨_, _, _, rfl, HTX.out.ext ((Ext.refl W).drew.trans hx)⟩) ?_
  rintro e w2 ⟨x, rfl, h, hx2⟩
  exact ⟨_, rfl, hK _ _ hx2 h⟩
 case g3 =>
  intro v w1 hx (q0 : v 0 = .agg #[a, b, d]) (q1 : v 1 = .agg #[a, b, d]) (q2 : IsInts w1 (v 2) t.chances)
  have c0 := hx.cell c0
  have c1 := hx.cell c1
  have c2 := hx.cell c2
  intro K hK
  go_simp
  refine gives_call (Probability_any _ _ _ t _ HV.out.fit HV.out.nodes hsz HV.out.small ⟨_, _, _, rfl, HTX.out.ext ((Ext.refl W).drew.trans hx)⟩ q2) ?_
  rintro e w2 ⟨rfl, hx2⟩
  exact ⟨_, rfl, hK _ _ hx2 rfl⟩
 case g4 =>
  intro v w1 hx (q0 : v 0 = .agg #[a, b, d]) (q1 : v 1 = .agg #[a, b, d]) (q2 : IsInts w1 (v 2) t.chances) (q3 : v 3 = ratV (probOf t t.chances))
  intro wl hT
  obtain rfl : wl = w1 := hT
  intro bb hbb
  subst hbb
  have c0 := hx.cell c0
  have c1 := hx.cell c1
  have c2 := hx.cell c2
  intro K hK
  obtain ⟨r0, r1, f0, f1⟩ := R.ext ((Ext.refl W).drew.trans hx)
  rw [prob_nums] at q3
  go_simp
  obtain ⟨e0, e1⟩ := stored2 (x := .int .i64 (probOf t t.chances).num) (y := .int .i64 (probOf t t.chances).den) r0 r1
  exact hK _ _ ⟨e0, e1, ((Below.refl w.heap.size wl).setCell (p := ⟨w.heap.size + 1, 0, none⟩) (by show w.heap.size ≤ w.heap.size + 1; omega) _).setCell (p := ⟨w.heap.size + 1, 1, none⟩) (by show w.heap.size ≤ w.heap.size + 1; omega) _⟩
 case post =>
  intro v w1 hx (q0 : v 0 = .agg #[a, b, d]) (q1 : v 1 = .agg #[a, b, d]) (q2 : IsInts w1 (v 2) t.chances) (q3 : v 3 = ratV (probOf t t.chances))
  intro w2 hE
  replace hE : (fun v w1 w' => w'.cell? ⟨w.heap.size + 1, 0, none⟩ = some (.int .i64 (probOf t t.chances).num) ∧ w'.cell? ⟨w.heap.size + 1, 1, none⟩ = some (.int .i64 (probOf t t.chances).den) ∧ Below w.heap.size w1 w') v w1 w2 := hE
  simp only [Flow.acts, Act.put]
  go_simp
  obtain ⟨e0, e1, e2⟩ := hE
  go_wp2
  refine bodyPost_ret (v := ratV (probOf t t.chances)) (by simp [results, Tryz.results30, go_sem, e0, e1, ratV]) rfl ?_
  exact ⟨rfl, Below.trans ((hxx.drew).trans hx) e2⟩
end Go.Proofs
namespace Go.Proofs
open Go.RowKit Go.Tw Go.Flow
def meet (occ no : List Int) : Bool := occ.any fun x => has no x
def gvR (t : Tree) (occ no : List Int) : Ratio := if meet occ no then ⟨0, 0⟩ else probOf t (withEv (withEv t.chances occ 16) no 0)
def gvE (occ no : List Int) : Int := if meet occ no then 30 else 0
def pairV (r : Ratio) (e : Int) : Value := .tuple #[ratV r, .int .i64 e]
def meetTo (occ no : List Int) (k : Nat) : Bool := (occ.take k).any fun x => has no x
theorem meetTo_succ {occ no : List Int} {k : Nat} (hk : k < occ.length) : meetTo occ no (k + 1) = (meetTo occ no k || has no (ix occ k)) := by
 unfold meetTo
 rw [ix_eq hk, ← List.take_append_getElem hk, List.any_append]
 simp
theorem meetTo_all (occ no : List Int) : meetTo occ no occ.length = meet occ no := by unfold meetTo meet; rw [List.take_length]
theorem meetTo_true {occ no : List Int} {k : Nat} (h : meetTo occ no k = true) : meet occ no = true := by
 unfold meetTo at h; unfold meet
 obtain ⟨x, hx, h⟩ := List.any_eq_true.1 h
 exact List.any_eq_true.2 ⟨x, List.mem_of_mem_take hx, h⟩
/-- The store of a result of two numbers, inside a region. -/
theorem gives_store2 {K : Value → World → Prop} {o : Oper} {a : Act} {w : World} (p x : Operand) (ho : o.op = .store 56 p x) (g : Nat) (hp : a.eval p = .pointer (some ⟨g, 0, none⟩)) (r : Ratio) (hx : a.eval x = ratV r) (R : Res w g)
    (h : ∀ v w', w' = (w.setCell ⟨g, 0, none⟩ (.int .i64 r.num)).setCell ⟨g, 1, none⟩ (.int .i64 r.den) → K v w') : gives Tryz.prog K ((execOp a.eval o).run Tryz.prog w) := by
 obtain ⟨r0, r1, f0, f1⟩ := R
 rw [ratV] at hx
 unfold execOp
 simp only [ho, hp, hx]
 go_simp
 exact h _ _ rfl
set_option maxRecDepth 100000 in
set_option maxHeartbeats 1000000 in
theorem Given_any (w : World) (v u z : Value) (t : Tree) (occ no : List Int) (hv : Valid t) (ho : ∀ x ∈ occ, 0 ≤ x ∧ x < t.size) (hno : ∀ x ∈ no, 0 ≤ x ∧ x < t.size) (ht : IsTree w v t) (hu : IsInts w u occ) (hz : IsInts w z no) :
    Calls Tryz.prog 32 #[v, u, z] w fun e w' => e = .returned (pairV (gvR t occ no) (gvE occ no)) ∧ Ext w w' := by
 obtain ⟨a, b, d, rfl, h3⟩ := ht
 have hw := Ext.box w (.cells #[a, b, d] 26)
 have c0 := cell_new w #[a, b, d] 26 0
 have c1 := cell_new w #[a, b, d] 26 1
 have c2 := cell_new w #[a, b, d] 26 2
 have hx0 := Ext.box (w.alloc (.cells #[a, b, d] 26)) (.cells #[.int .i64 0, .int .i64 0] 56)
 have R := Res.new1 w (.cells #[a, b, d] 26) 56
 have HV := Lib.hid hv
 have hsz := hv.size
 have hs1 : 1 ≤ t.size := by have := hv.nb; unfold Tree.size; omega
 replace c0 := hx0.cell c0
 replace c1 := hx0.cell c1
 replace c2 := hx0.cell c2
 have hxx := hw.trans hx0
 have HTX := Lib.hid ((h3.ext hw).ext hx0)
 have HU := Lib.hid (hu.ext hxx)
 have HZ := Lib.hid (hz.ext hxx)
 have HO := Lib.hid ho
 have HN := Lib.hid hno
 obtain ⟨A, capa, rfl, hl1, hcap1, hca⟩ := hu.opened
 obtain ⟨B, capb, rfl, hl2, hcap2, hcb⟩ := hz.opened
 have HCA := Lib.hid hca
 have HS1 := Lib.hid hs1
 clear h3 hv hu hz ho hno hca hcb hs1
 go_enter Tryz.func32, Tryz.ntmps32
 go_wp2
 obtain ⟨W, hW⟩ : ∃ W, (w.alloc (.cells #[a, b, d] 26)).alloc (.cells #[.int .i64 0, .int .i64 0] 56) = W := ⟨_, rfl⟩
 rw [hW] at c0 c1 c2 hxx R HTX HU HZ ⊢
 clear hW hw hx0
 go_loop [8] (fun i => ∃ (k : Nat), k ≤ occ.length ∧ i = .int .i64 k ∧ meetTo occ no k = false) (fun i => occ.length - (intOf i).toNat)
 case atStart => exact ⟨0, Nat.zero_le _, rfl, rfl⟩
 case round =>
  obtain ⟨k, hk, rfl, hm⟩ := hrel
  have HM := Lib.hid hm
  clear hm
  by_cases hlt : k < occ.length
  · obtain ⟨b1, off, rfl, hce⟩ := HCA.out k hlt
    replace hce := hxx.cell hce
    have hst := meetTo_succ (no := no) hlt
    rw [HM.out, Bool.false_or] at hst
    have HST := Lib.hid hst
    clear hst
    go_wp2_with fail
    refine (HasInt_any _ _ no (ix occ k) HZ.out).mono ?_
    rintro e w2 ⟨rfl, rfl⟩
    cases hh : has no (ix occ k) with
    | true =>
      rw [hh] at HST
      obtain ⟨r0, r1, f0, f1⟩ := R
      have hmt := Lib.hid (meetTo_true HST.out)
      go_wp2
      obtain ⟨e0, e1⟩ := stored2 (x := .int .i64 0) (y := .int .i64 0) r0 r1
      have hg : gvR t occ no = ⟨0, 0⟩ ∧ gvE occ no = 30 := by unfold gvR gvE; rw [hmt.out]; exact ⟨rfl, rfl⟩
      refine bodyPost_ret (v := pairV ⟨0, 0⟩ 30) (by simp [results, Tryz.results32, go_sem, e0, e1, pairV, ratV]) rfl ?_
      rw [hg.1, hg.2]
      exact ⟨rfl, Ext.stored2 hxx (by omega) _ _⟩
    | false =>
      rw [hh] at HST
      go_wp2
      go_round
      case rel => exact ⟨k + 1, by omega, by go_num, HST.out⟩
      case measure => simp [intOf]; omega
  · have hmf : meet occ no = false := by rw [← meetTo_all, show occ.length = k from by omega]; exact HM.out
    have hg : gvR t occ no = probOf t (withEv (withEv t.chances occ 16) no 0) ∧ gvE occ no = 0 := by unfold gvR gvE; rw [hmf]; exact ⟨rfl, rfl⟩
    have HG := Lib.hid hg
    have hs1 := HS1.out
    have HW1 : Hid (0 < t.chances.length) := by exact (by rw [chances_len]; omega : 0 < t.chances.length)
    have HW2 : Hid (0 < (withEv t.chances occ 16).length) := by exact (by rw [withEv_len, chances_len]; omega : 0 < (withEv t.chances occ 16).length)
    have HR1 : Hid (∀ k, k < occ.length → 0 ≤ ix occ k ∧ ix occ k < t.chances.length) := by
     exact (fun k hk => by rw [chances_len, ix_eq hk]; exact HO.out _ (List.getElem_mem hk) : ∀ k, k < occ.length → 0 ≤ ix occ k ∧ ix occ k < t.chances.length)
    have HR2 : Hid (∀ k, k < no.length → 0 ≤ ix no k ∧ ix no k < (withEv t.chances occ 16).length) := by
     exact (fun k hk => by rw [withEv_len, chances_len, ix_eq hk]; exact HN.out _ (List.getElem_mem hk) : ∀ k, k < no.length → 0 ≤ ix no k ∧ ix no k < (withEv t.chances occ 16).length)
    have HSM : Hid (Small (withEv (withEv t.chances occ 16) no 0)) := by exact ((HV.out.small.put (by omega) (by omega)).put (by omega) (by omega) : Small (withEv (withEv t.chances occ 16) no 0))
    obtain ⟨P, hP⟩ : ∃ P, probOf t (withEv (withEv t.chances occ 16) no 0) = P := ⟨_, rfl⟩
    have HP := Lib.hid hP
    have HPR : Hid (∀ (w' : World) (x y : Value), IsTree w' x t → IsInts w' y (withEv (withEv t.chances occ 16) no 0) → Calls Tryz.prog 48 #[x, y] w' fun e w'' => e = .returned (ratV P) ∧ Ext w' w'') := by
     exact (by intro w' x y h1 h2; rw [← hP]; exact Probability_any _ _ _ t _ HV.out.fit HV.out.nodes hsz HSM.out h1 h2 : ∀ (w' : World) (x y : Value), IsTree w' x t → IsInts w' y (withEv (withEv t.chances occ 16) no 0) → Calls Tryz.prog 48 #[x, y] w' fun e w'' => e = .returned (ratV P) ∧ Ext w' w'')
    clear hmf hg hP hs1
    go_wp2
    refine Flow.regionB [.world, .world, .world, .plain, .world, .plain, .world, .world, .last, .last] [0, 1, 2, 3, 4, 5, 6, 7, 8, 9] [[], [], [1], [], [1, 2, 3], [], [1, 2, 3, 4, 5], [0, 1, 2, 3, 4, 5, 6], [0, 1, 2, 3, 4, 5, 6, 7], [0, 1, 2, 3, 4, 5, 6, 7, 8]] [8, 9]
     [.is 0 (fun v => .agg #[a, b, d]), .is 1 (fun v => .agg #[a, b, d]), ⟨fun v wz => IsInts wz (v 2) t.chances, fun _ _ _ hx h => h.ext hx⟩, .is 3 (fun v => .slice A occ.length capa), ⟨fun v wz => IsInts wz (v 4) (withEv t.chances occ 16), fun _ _ _ hx h => h.ext hx⟩, .is 5 (fun v => .slice B no.length capb), ⟨fun v wz => IsInts wz (v 6) (withEv (withEv t.chances occ 16) no 0), fun _ _ _ hx h => h.ext hx⟩, .is 7 (fun v => ratV P), .none, .none]
     [fun v w1 w' => w'.cell? ⟨w.heap.size + 1, 0, none⟩ = some (.int .i64 P.num) ∧ w'.cell? ⟨w.heap.size + 1, 1, none⟩ = some (.int .i64 P.den) ∧ Below w.heap.size w1 w', fun v w1 w' => v 9 = .int .i64 0 ∧ w'.cell? ⟨w.heap.size + 1, 0, none⟩ = some (.int .i64 P.num) ∧ w'.cell? ⟨w.heap.size + 1, 1, none⟩ = some (.int .i64 P.den) ∧ Below w.heap.size w1 w'] (by kernel_rfl) rfl (by kernel_rfl) ⟨?g0, ?g1, ?g2, ?g3, ?g4, ?g5, ?g6, ?g7, ?g8, ?g9, trivial⟩ ?post
    case g0 =>
     intro v w1 hx
     intro bb hbb
     subst hbb
     have c0 := hx.cell c0
     have c1 := hx.cell c1
     have c2 := hx.cell c2
     intro K hK
     go_simp
     exact hK _ _ (Ext.refl _) rfl
    case g1 =>
     intro v w1 hx
     intro bb hbb
     subst hbb
     have c0 := hx.cell c0
     have c1 := hx.cell c1
     have c2 := hx.cell c2
     intro K hK
     go_simp
     exact hK _ _ (Ext.refl _) rfl
    case g2 =>
     intro v w1 hx (q1 : v 1 = .agg #[a, b, d])
     intro bb hbb
     subst hbb
     have c0 := hx.cell c0
     have c1 := hx.cell c1
     have c2 := hx.cell c2
     intro K hK
     go_simp
     refine gives_call (chances_any _ _ t (by omega) ⟨_, _, _, rfl, HTX.out.ext ((Ext.refl W).drew.trans hx)⟩) ?_
     rintro e w2 ⟨x, rfl, h, hx2⟩
     exact ⟨_, rfl, hK _ _ hx2 h⟩
    case g3 =>
     intro v w1 hx
     intro bb hbb
     subst hbb
     have c0 := hx.cell c0
     have c1 := hx.cell c1
     have c2 := hx.cell c2
     refine ⟨_, fun w => ?_, rfl⟩
     go_simp
    case g4 =>
     intro v w1 hx (q1 : v 1 = .agg #[a, b, d]) (q2 : IsInts w1 (v 2) t.chances) (q3 : v 3 = .slice A occ.length capa)
     intro bb hbb
     subst hbb
     have c0 := hx.cell c0
     have c1 := hx.cell c1
     have c2 := hx.cell c2
     intro K hK
     go_simp
     refine gives_call (with_any _ _ _ t.chances occ 16 HW1.out HR1.out q2 (HU.out.ext ((Ext.refl W).drew.trans hx))) ?_
     rintro e w2 ⟨x, rfl, h, hx2⟩
     exact ⟨_, rfl, hK _ _ hx2 h⟩
    case g5 =>
     intro v w1 hx
     intro bb hbb
     subst hbb
     have c0 := hx.cell c0
     have c1 := hx.cell c1
     have c2 := hx.cell c2
     refine ⟨_, fun w => ?_, rfl⟩
     go_simp
    case g6 =>
     intro v w1 hx (q1 : v 1 = .agg #[a, b, d]) (q2 : IsInts w1 (v 2) t.chances) (q3 : v 3 = .slice A occ.length capa) (q4 : IsInts w1 (v 4) (withEv t.chances occ 16)) (q5 : v 5 = .slice B no.length capb)
     intro bb hbb
     subst hbb
     have c0 := hx.cell c0
     have c1 := hx.cell c1
     have c2 := hx.cell c2
     intro K hK
     go_simp
     refine gives_call (with_any _ _ _ (withEv t.chances occ 16) no 0 HW2.out HR2.out q4 (HZ.out.ext ((Ext.refl W).drew.trans hx))) ?_
     rintro e w2 ⟨x, rfl, h, hx2⟩
     exact ⟨_, rfl, hK _ _ hx2 h⟩
    case g7 =>
     intro v w1 hx (q0 : v 0 = .agg #[a, b, d]) (q1 : v 1 = .agg #[a, b, d]) (q2 : IsInts w1 (v 2) t.chances) (q3 : v 3 = .slice A occ.length capa) (q4 : IsInts w1 (v 4) (withEv t.chances occ 16)) (q5 : v 5 = .slice B no.length capb) (q6 : IsInts w1 (v 6) (withEv (withEv t.chances occ 16) no 0))
     intro bb hbb
     subst hbb
     have c0 := hx.cell c0
     have c1 := hx.cell c1
     have c2 := hx.cell c2
     intro K hK
     go_simp
     refine gives_call (HPR.out _ _ _ ⟨_, _, _, rfl, HTX.out.ext ((Ext.refl W).drew.trans hx)⟩ q6) ?_
     rintro e w2 ⟨rfl, hx2⟩
     exact ⟨_, rfl, hK _ _ hx2 rfl⟩
    case g8 =>
     intro v w1 hx (q0 : v 0 = .agg #[a, b, d]) (q1 : v 1 = .agg #[a, b, d]) (q2 : IsInts w1 (v 2) t.chances) (q3 : v 3 = .slice A occ.length capa) (q4 : IsInts w1 (v 4) (withEv t.chances occ 16)) (q5 : v 5 = .slice B no.length capb) (q6 : IsInts w1 (v 6) (withEv (withEv t.chances occ 16) no 0)) (q7 : v 7 = ratV P)
     intro wl hT
     obtain rfl : wl = w1 := hT
     intro bb hbb
     have c0 := hx.cell c0
     have c1 := hx.cell c1
     have c2 := hx.cell c2
     intro K hK
     have R2 : Res wl (w.heap.size + 1) := Res.ext R (Ext.trans (Ext.drew (Ext.refl W)) hx)
     have o1 : bb.eval (.tmp 6) = .pointer (some ⟨w.heap.size + 1, 0, none⟩) := by rw [hbb]; dsimp only; (try simp (discharger := decide) only [eval_put_ne]); rfl
     have o2 : bb.eval (.tmp 29) = ratV P := by rw [hbb]; dsimp only; (try simp (discharger := decide) only [eval_put_ne]); rw [eval_put_eq (by simp only [size_put]; exact (by decide : 29 < 30))]; exact q7
     refine gives_store2 (.tmp 6) (.tmp 29) rfl (w.heap.size + 1) o1 P o2 R2 (fun v' w' hw' => ?_)
     obtain ⟨e0, e1⟩ := stored2 (x := .int .i64 P.num) (y := .int .i64 P.den) R2.c0 R2.c1
     subst hw'
     exact hK _ _ ⟨e0, e1, ((Below.refl w.heap.size wl).setCell (p := ⟨w.heap.size + 1, 0, none⟩) (by show w.heap.size ≤ w.heap.size + 1; omega) _).setCell (p := ⟨w.heap.size + 1, 1, none⟩) (by show w.heap.size ≤ w.heap.size + 1; omega) _⟩
    case g9 =>
     intro v w1 hx (q0 : v 0 = .agg #[a, b, d]) (q1 : v 1 = .agg #[a, b, d]) (q2 : IsInts w1 (v 2) t.chances) (q3 : v 3 = .slice A occ.length capa) (q4 : IsInts w1 (v 4) (withEv t.chances occ 16)) (q5 : v 5 = .slice B no.length capb) (q6 : IsInts w1 (v 6) (withEv (withEv t.chances occ 16) no 0)) (q7 : v 7 = ratV P)
     intro wl hT
     replace hT : (fun v w1 w' => w'.cell? ⟨w.heap.size + 1, 0, none⟩ = some (.int .i64 P.num) ∧ w'.cell? ⟨w.heap.size + 1, 1, none⟩ = some (.int .i64 P.den) ∧ Below w.heap.size w1 w') v w1 wl := hT
     intro bb hbb
     subst hbb
     have c0 := hx.cell c0
     have c1 := hx.cell c1
     have c2 := hx.cell c2
     intro K hK
     go_simp
     exact hK _ _ ⟨rfl, hT⟩
    case post =>
     intro v w1 hx (q0 : v 0 = .agg #[a, b, d]) (q1 : v 1 = .agg #[a, b, d]) (q2 : IsInts w1 (v 2) t.chances) (q3 : v 3 = .slice A occ.length capa) (q4 : IsInts w1 (v 4) (withEv t.chances occ 16)) (q5 : v 5 = .slice B no.length capb) (q6 : IsInts w1 (v 6) (withEv (withEv t.chances occ 16) no 0)) (q7 : v 7 = ratV P)
     intro w2 hE
     replace hE : (fun v w1 w' => v 9 = .int .i64 0 ∧ w'.cell? ⟨w.heap.size + 1, 0, none⟩ = some (.int .i64 P.num) ∧ w'.cell? ⟨w.heap.size + 1, 1, none⟩ = some (.int .i64 P.den) ∧ Below w.heap.size w1 w') v w1 w2 := hE
     simp only [Flow.acts, Act.put]
     go_simp
     obtain ⟨e3, e0, e1, e2⟩ := hE
     go_wp2
     refine bodyPost_ret (v := pairV P 0) (by simp [results, Tryz.results32, go_sem, e0, e1, e3, ratV, pairV]) rfl ?_
     exact ⟨by rw [HG.out.1, HG.out.2, HP.out], Below.trans ((hxx.drew).trans hx) e2⟩
end Go.Proofs
namespace Go.Proofs
open Go.Tw
theorem finRange_val (n : Nat) : (List.finRange n).map (fun x => x.1) = List.range n := by
 apply List.ext_getElem
 · simp
 · intro i h1 h2
   simp
theorem sumW_map {N : Nat} (t : Tree) (c : List Int) (wi : Nat) : ∀ l : List (Fin N), sumW t c wi l = ((l.map (fun x => x.1)).map (termW t c wi)).sum
 | [] => rfl
 | x :: l => by rw [sumW, sumW_map t c wi l]; simp
theorem weightTo_sum (t : Tree) (c : List Int) : ∀ n, t.weightTo c n = ((List.range n).map fun s => if t.fails (evN s) then partOf c s else 0).sum
 | 0 => rfl
 | n + 1 => by rw [Tree.weightTo, weightTo_sum t c n, List.range_succ, List.map_append, List.sum_append]; simp
theorem weightW_sum (t : Tree) (c : List Int) (wi : Nat) : weightW t c wi = ((List.range (2 ^ t.size)).map (termW t c wi)).sum := by
 unfold weightW
 rw [sumW_map, finRange_val]
theorem weightW_zero (t : Tree) (c : List Int) : weightW t c 0 = t.weight c := by
 rw [weightW_sum]
 unfold Tree.weight
 rw [weightTo_sum]
 congr 1
 apply List.map_congr_left
 intro s _
 unfold termW
 simp
end Go.Proofs
namespace Go.Proofs
open Go.RowKit Go.Tw Go.Flow
theorem lChance (w : World) (u : Value) (t : Tree) (a b : Int) (hC : chanceR t = ⟨a, b⟩) (hu : IsTree w u t) :
    Calls Tryz.prog 27 #[u] w fun e w' => e = .returned (.tuple #[.agg #[.int .i64 a, .int .i64 b], .int .i64 t.err]) ∧ Ext w w' := by
 have h := pChance_any w u t hu
 rw [hC] at h
 exact h
theorem lGiven (w : World) (u v z : Value) (t : Tree) (x y : List Int) (a b : Int) (hC : givenR t x y = ⟨a, b⟩) (hu : IsTree w u t) (hv : IsInts w v x) (hz : IsInts w z y) :
    Calls Tryz.prog 28 #[u, v, z] w fun e w' => e = .returned (.tuple #[.agg #[.int .i64 a, .int .i64 b], .int .i64 (givenErr t x y)]) ∧ Ext w w' := by
 have h := pGiven_any w u v z t x y hu hv hz
 rw [hC] at h
 exact h
theorem rChance (w : World) (u : Value) (t : Tree) (a b : Int) (hC : probOf t t.chances = ⟨a, b⟩) (hv : Valid t) (hu : IsTree w u t) :
    Calls Tryz.prog 30 #[u] w fun e w' => e = .returned (.agg #[.int .i64 a, .int .i64 b]) ∧ Ext w w' := by
 have h := Chance_any w u t hv hu
 rw [hC] at h
 exact h
theorem rGiven (w : World) (u v z : Value) (t : Tree) (x y : List Int) (a b : Int) (hC : gvR t x y = ⟨a, b⟩) (hv : Valid t) (ho : ∀ k ∈ x, 0 ≤ k ∧ k < t.size) (hn : ∀ k ∈ y, 0 ≤ k ∧ k < t.size) (hu : IsTree w u t) (hx : IsInts w v x) (hy : IsInts w z y) :
    Calls Tryz.prog 32 #[u, v, z] w fun e w' => e = .returned (.tuple #[.agg #[.int .i64 a, .int .i64 b], .int .i64 (gvE x y)]) ∧ Ext w w' := by
 have h := Given_any w u v z t x y hv ho hn hu hx hy
 rw [hC] at h
 exact h
theorem chance_eq {t : Tree} (he : t.err = 0) : chanceR t = probOf t t.chances := by
 unfold chanceR probOf
 rw [if_pos he, weightW_zero, chances_len]
theorem meet_any (x y : List Int) : meet x y = x.any (has y) := rfl
theorem given_split {t : Tree} {x y : List Int} (he : t.err = 0) : givenErr t x y = if firstErr [setErr x t.size, setErr y t.size] = 0 then gvE x y else firstErr [setErr x t.size, setErr y t.size] := by
 unfold givenErr treeSetErr gvE
 rw [if_pos he, if_pos he, meet_any]
 simp only [firstErr]
 by_cases h1 : setErr x t.size = 0
 · by_cases h2 : setErr y t.size = 0
   · cases h3 : x.any (has y) <;> simp [h1, h2, whenI]
   · simp [h1, h2]
 · simp [h1]
theorem given_bad {t : Tree} {x y : List Int} (he : t.err ≠ 0) : givenErr t x y = t.err := by
 unfold givenErr treeSetErr
 rw [if_neg he]
 simp [firstErr, he]
theorem given_eq {t : Tree} {x y : List Int} (he : t.err = 0) (hs : firstErr [setErr x t.size, setErr y t.size] = 0) : givenR t x y = gvR t x y := by
 have h1 := given_split (x := x) (y := y) he
 rw [if_pos hs] at h1
 unfold givenR gvR
 rw [h1]
 unfold gvE
 cases hm : meet x y with
 | true => simp
 | false =>
   simp only [Bool.false_eq_true, if_false, if_true]
   unfold givenW probOf
   rw [weightW_zero, withEv_len, withEv_len, chances_len]
theorem givenR_bad {t : Tree} {x y : List Int} (h : givenErr t x y ≠ 0) : givenR t x y = ⟨0, 0⟩ := by unfold givenR; rw [if_neg h]
theorem chanceR_bad {t : Tree} (h : t.err ≠ 0) : chanceR t = ⟨0, 0⟩ := by unfold chanceR; rw [if_neg h]
set_option maxRecDepth 100000 in
set_option maxHeartbeats 4000000 in
theorem faultChances_any (w : World) (v u z : Value) (t : Tree) (oc no : List Int) (ht : IsTree w v t) (hoc : IsInts w u oc) (hno : IsInts w z no) (hT : Tab w) :
    Calls Tryz.prog 5 #[v, u, z] w fun e w' => e = .returned (.bool true) ∧ Ext w w' := by
 obtain ⟨a, b, c, rfl, h3⟩ := ht
 obtain ⟨A, capa, rfl, hl1, hcap1, _⟩ := h3.basics.opened
 obtain ⟨B, capb, rfl, hl2, hcap2, _⟩ := h3.causes.opened
 obtain ⟨G, capg, rfl, hl3, hcap3, _⟩ := h3.gates.opened
 have HT0 := Lib.hid h3
 clear h3
 have HTAB := Lib.hid hT
 have HTAB0 := Lib.hid hT
 clear hT
 have HLoc := Lib.hid hoc
 have HL0oc := Lib.hid hoc
 obtain ⟨Aoc, capoc, rfl, hloc, _, _⟩ := hoc.opened
 clear hoc
 have HLno := Lib.hid hno
 have HL0no := Lib.hid hno
 obtain ⟨Ano, capno, rfl, hlno, _, _⟩ := hno.opened
 clear hno
 go_enter Tryz.func5, Tryz.ntmps5
 go_wp2_with fail
 change Calls _ _ _ (w.alloc (.cells #[.slice A t.basics.length capa, .slice B t.causes.length capb, .slice G t.gates.length capg] 26)) _
 have k0 := Blk.made w 26 #[.slice A t.basics.length capa, .slice B t.causes.length capb, .slice G t.gates.length capg]
 have x0 := Ext.box w (.cells #[.slice A t.basics.length capa, .slice B t.causes.length capb, .slice G t.gates.length capg] 26)
 have es0 : (w.alloc (.cells #[.slice A t.basics.length capa, .slice B t.causes.length capb, .slice G t.gates.length capg] 26)).heap.size = w.heap.size + 1 := by simp
 obtain ⟨X0, hX0⟩ : ∃ X, w.alloc (.cells #[.slice A t.basics.length capa, .slice B t.causes.length capb, .slice G t.gates.length capg] 26) = X := ⟨_, rfl⟩
 rw [hX0] at k0 x0 es0 ⊢
 clear hX0
 have e0 : X0.heap.size = w.heap.size + 1 := by omega
 have HXW : Hid (Ext w X0) := by exact (x0 : Ext w X0)
 have eW : X0.heap.size = w.heap.size + 1 := e0
 clear x0 es0 e0
 obtain ⟨W, hWW⟩ : ∃ W, X0 = W := ⟨_, rfl⟩
 rw [hWW] at HXW eW ⊢ k0
 clear hWW
 obtain ⟨WB, hWB⟩ : ∃ X, W = X := ⟨_, rfl⟩
 rw [hWB] at HXW eW k0 ⊢
 clear hWB
 have HT := Lib.hid (HT0.out.ext HXW.out)
 have K0 := Lib.hid k0
 replace HTAB := Lib.hid (HTAB.out.ext HXW.out)
 replace HLoc := Lib.hid (HLoc.out.ext HXW.out)
 replace HLno := Lib.hid (HLno.out.ext HXW.out)
 have HW0 := Lib.hid HXW.out
 have HX := Lib.hid (Ext.refl WB)
 have c0 := k0.cell 0
 have c1 := k0.cell 1
 have c2 := k0.cell 2
 simp only [List.getElem?_toArray, List.getElem?_cons_zero, List.getElem?_cons_succ] at c0 c1 c2
 clear k0 HXW
 skip
 refine (awake_any _ HTAB.out).mono ?_
 rintro e w1 ⟨rfl, hx⟩
 have hxx : Ext WB w1 := hx
 replace HX := Lib.hid (HX.out.trans hxx)
 replace HT := Lib.hid (HT.out.ext hxx)
 replace c0 := hxx.cell c0
 replace c1 := hxx.cell c1
 replace c2 := hxx.cell c2
 replace HTAB := Lib.hid (HTAB.out.ext hxx)
 replace K0 := Lib.hid (K0.out.ext hxx)
 replace HLoc := Lib.hid (HLoc.out.ext hxx)
 replace HLno := Lib.hid (HLno.out.ext hxx)
 clear hx hxx
 go_wp2_with fail
 refine (short_any _ _ t 8 ⟨_, _, _, rfl, HT.out⟩ (by omega)).mono ?_
 rintro e w2 ⟨q, rfl, hq, hx⟩
 have hxx : Ext w1 w2 := hx
 replace HX := Lib.hid (HX.out.trans hxx)
 replace HT := Lib.hid (HT.out.ext hxx)
 replace c0 := hxx.cell c0
 replace c1 := hxx.cell c1
 replace c2 := hxx.cell c2
 replace HTAB := Lib.hid (HTAB.out.ext hxx)
 replace K0 := Lib.hid (K0.out.ext hxx)
 replace HLoc := Lib.hid (HLoc.out.ext hxx)
 replace HLno := Lib.hid (HLno.out.ext hxx)
 clear hx hxx
 cases q with
 | false =>
   clear hq
   clear c0 c1 c2
   go_wp2_with fail
   refine (awake_any _ HTAB.out).mono ?_
   rintro e w3 ⟨rfl, hx⟩
   have hxx : Ext w2 w3 := hx
   replace HX := Lib.hid (HX.out.trans hxx)
   replace HT := Lib.hid (HT.out.ext hxx)
   replace HTAB := Lib.hid (HTAB.out.ext hxx)
   replace K0 := Lib.hid (K0.out.ext hxx)
   replace HLoc := Lib.hid (HLoc.out.ext hxx)
   replace HLno := Lib.hid (HLno.out.ext hxx)
   clear hx hxx
   go_wp2
   go_ret
   exact ⟨rfl, HW0.out.trans HX.out⟩
 | true =>
   have HF := Lib.hid ((hq rfl).few (by omega))
   clear hq
   by_cases hnoc : 14 < oc.length
   · clear HF
     clear c0 c1 c2
     go_wp2_with fail
     refine (awake_any _ HTAB.out).mono ?_
     rintro e w3 ⟨rfl, hx⟩
     have hxx : Ext w2 w3 := hx
     replace HX := Lib.hid (HX.out.trans hxx)
     replace HT := Lib.hid (HT.out.ext hxx)
     replace HTAB := Lib.hid (HTAB.out.ext hxx)
     replace K0 := Lib.hid (K0.out.ext hxx)
     replace HLoc := Lib.hid (HLoc.out.ext hxx)
     replace HLno := Lib.hid (HLno.out.ext hxx)
     clear hx hxx
     go_wp2
     go_ret
     exact ⟨rfl, HW0.out.trans HX.out⟩
   · by_cases hnno : 14 < no.length
     · clear HF
       clear c0 c1 c2
       go_wp2_with fail
       refine (awake_any _ HTAB.out).mono ?_
       rintro e w3 ⟨rfl, hx⟩
       have hxx : Ext w2 w3 := hx
       replace HX := Lib.hid (HX.out.trans hxx)
       replace HT := Lib.hid (HT.out.ext hxx)
       replace HTAB := Lib.hid (HTAB.out.ext hxx)
       replace K0 := Lib.hid (K0.out.ext hxx)
       replace HLoc := Lib.hid (HLoc.out.ext hxx)
       replace HLno := Lib.hid (HLno.out.ext hxx)
       clear hx hxx
       go_wp2
       go_ret
       exact ⟨rfl, HW0.out.trans HX.out⟩
     · obtain ⟨E, hE⟩ : ∃ E, t.err = E := ⟨_, rfl⟩
       have HE := Lib.hid hE
       obtain ⟨GE, hGE⟩ : ∃ E, givenErr t oc no = E := ⟨_, rfl⟩
       have HGE := Lib.hid hGE
       obtain ⟨⟨cn, cd⟩, hC⟩ : ∃ C, chanceR t = C := ⟨_, rfl⟩
       have HC := Lib.hid hC
       obtain ⟨⟨gn, gd⟩, hG⟩ : ∃ C, givenR t oc no = C := ⟨_, rfl⟩
       have HG := Lib.hid hG
       have HA10 := Lib.hid (show oc.length ≤ 4096 by omega)
       have HB10 := Lib.hid (show no.length ≤ 4096 by omega)
       have HA11 := Lib.hid (show oc.length ≤ 17592186043904 by omega)
       have HB11 := Lib.hid (show no.length ≤ 17592186043904 by omega)
       clear hE hGE hC hG
       go_wp2_with fail
       refine (own_any _ _ t ⟨_, _, _, rfl, HT.out⟩ HF.out).mono ?_
       rintro e w3 ⟨uu, rfl, hu, hx⟩
       have hxx : Ext w2 w3 := hx
       replace HX := Lib.hid (HX.out.trans hxx)
       replace HT := Lib.hid (HT.out.ext hxx)
       replace c0 := hxx.cell c0
       replace c1 := hxx.cell c1
       replace c2 := hxx.cell c2
       replace HTAB := Lib.hid (HTAB.out.ext hxx)
       replace K0 := Lib.hid (K0.out.ext hxx)
       replace HLoc := Lib.hid (HLoc.out.ext hxx)
       replace HLno := Lib.hid (HLno.out.ext hxx)
       have HU := Lib.hid (hu)
       clear hx hxx
       clear hu
       go_wp2_with fail
       refine (lChance _ _ t cn cd HC.out HU.out).mono ?_
       rintro e w4 ⟨rfl, hx⟩
       have hxx : Ext w3 w4 := hx
       replace HX := Lib.hid (HX.out.trans hxx)
       replace HT := Lib.hid (HT.out.ext hxx)
       replace c0 := hxx.cell c0
       replace c1 := hxx.cell c1
       replace c2 := hxx.cell c2
       replace HTAB := Lib.hid (HTAB.out.ext hxx)
       replace K0 := Lib.hid (K0.out.ext hxx)
       replace HLoc := Lib.hid (HLoc.out.ext hxx)
       replace HLno := Lib.hid (HLno.out.ext hxx)
       replace HU := Lib.hid (HU.out.ext hxx)
       clear hx hxx
       rw [HE.out]
       clear HU
       -- the first box
       have xp := Ext.box w4 (.cells #[.int .i64 cn, .int .i64 cd] 56)
       have d0 := xp.cell c0
       have d1 := xp.cell c1
       have d2 := xp.cell c2
       clear xp
       go_wp2_with fail
       have LOB7 : Hid (WB.heap.size ≤ w4.heap.size) := by exact (by have := HX.out.size; omega : WB.heap.size ≤ w4.heap.size)
       clear d0 d1 d2
       skip
       change Calls _ _ _ (w4.alloc (.cells #[.int .i64 cn, .int .i64 cd] 56)) _
       have k0 := Blk.made w4 56 #[.int .i64 cn, .int .i64 cd]
       have x0 := Ext.box w4 (.cells #[.int .i64 cn, .int .i64 cd] 56)
       have es0 : (w4.alloc (.cells #[.int .i64 cn, .int .i64 cd] 56)).heap.size = w4.heap.size + 1 := by simp
       obtain ⟨X0, hX0⟩ : ∃ X, w4.alloc (.cells #[.int .i64 cn, .int .i64 cd] 56) = X := ⟨_, rfl⟩
       rw [hX0] at k0 x0 es0 ⊢
       clear hX0
       have e0 : X0.heap.size = w4.heap.size + 1 := by omega
       have HXW : Hid (Ext w4 X0) := by exact (x0 : Ext w4 X0)
       have eW : X0.heap.size = w4.heap.size + 1 := e0
       clear x0 es0 e0
       obtain ⟨W, hWW⟩ : ∃ W, X0 = W := ⟨_, rfl⟩
       rw [hWW] at HXW eW ⊢ k0
       clear hWW
       refine (own_any _ _ t ⟨_, _, _, rfl, HT.out.ext HXW.out⟩ HF.out).mono ?_
       rintro e w5 ⟨uu, rfl, hu, hx⟩
       have hxx : Ext w4 w5 := HXW.out.trans hx
       replace HX := Lib.hid (HX.out.trans hxx)
       replace HT := Lib.hid (HT.out.ext hxx)
       replace c0 := hxx.cell c0
       replace c1 := hxx.cell c1
       replace c2 := hxx.cell c2
       replace HTAB := Lib.hid (HTAB.out.ext hxx)
       replace K0 := Lib.hid (K0.out.ext hxx)
       replace HLoc := Lib.hid (HLoc.out.ext hxx)
       replace HLno := Lib.hid (HLno.out.ext hxx)
       have HU := Lib.hid (hu)
       have B7 := Lib.hid (k0.ext hx)
       clear hx hxx HXW eW k0
       clear hu
       go_wp2_with fail
       refine (lints_any _ _ oc HLoc.out HA10.out).mono ?_
       rintro e w6 ⟨va, rfl, hv, hx⟩
       have hxx : Ext w5 w6 := hx
       replace HX := Lib.hid (HX.out.trans hxx)
       replace HT := Lib.hid (HT.out.ext hxx)
       replace c0 := hxx.cell c0
       replace c1 := hxx.cell c1
       replace c2 := hxx.cell c2
       replace HTAB := Lib.hid (HTAB.out.ext hxx)
       replace K0 := Lib.hid (K0.out.ext hxx)
       replace HLoc := Lib.hid (HLoc.out.ext hxx)
       replace HLno := Lib.hid (HLno.out.ext hxx)
       replace HU := Lib.hid (HU.out.ext hxx)
       replace B7 := Lib.hid (B7.out.ext hxx)
       have HV1 := Lib.hid (hv.ints HA11.out)
       clear hx hxx
       clear hv
       go_wp2_with fail
       refine (lints_any _ _ no HLno.out HB10.out).mono ?_
       rintro e w7 ⟨vb, rfl, hv, hx⟩
       have hxx : Ext w6 w7 := hx
       replace HX := Lib.hid (HX.out.trans hxx)
       replace HT := Lib.hid (HT.out.ext hxx)
       replace c0 := hxx.cell c0
       replace c1 := hxx.cell c1
       replace c2 := hxx.cell c2
       replace HTAB := Lib.hid (HTAB.out.ext hxx)
       replace K0 := Lib.hid (K0.out.ext hxx)
       replace HLoc := Lib.hid (HLoc.out.ext hxx)
       replace HLno := Lib.hid (HLno.out.ext hxx)
       replace HU := Lib.hid (HU.out.ext hxx)
       replace B7 := Lib.hid (B7.out.ext hxx)
       replace HV1 := Lib.hid (HV1.out.ext hxx)
       have HV2 := Lib.hid (hv.ints HB11.out)
       clear hx hxx
       clear hv
       go_wp2_with fail
       refine (lGiven _ _ _ _ t oc no gn gd HG.out HU.out HV1.out HV2.out).mono ?_
       rintro e w8 ⟨rfl, hx⟩
       have hxx : Ext w7 w8 := hx
       replace HX := Lib.hid (HX.out.trans hxx)
       replace HT := Lib.hid (HT.out.ext hxx)
       replace c0 := hxx.cell c0
       replace c1 := hxx.cell c1
       replace c2 := hxx.cell c2
       clear HV1 HV2
       replace HTAB := Lib.hid (HTAB.out.ext hxx)
       replace K0 := Lib.hid (K0.out.ext hxx)
       replace HLoc := Lib.hid (HLoc.out.ext hxx)
       replace HLno := Lib.hid (HLno.out.ext hxx)
       replace HU := Lib.hid (HU.out.ext hxx)
       replace B7 := Lib.hid (B7.out.ext hxx)
       clear hx hxx
       rw [HGE.out]
       clear HU
       have xp := Ext.box w8 (.cells #[.int .i64 gn, .int .i64 gd] 56)
       have d0 := xp.cell c0
       have d1 := xp.cell c1
       have d2 := xp.cell c2
       clear xp
       go_wp2_with fail
       have LOB9 : Hid (WB.heap.size ≤ w8.heap.size) := by exact (by have := HX.out.size; omega : WB.heap.size ≤ w8.heap.size)
       have NEB7_B9 : Hid (w4.heap.size ≠ w8.heap.size) := by exact (by have := B7.out.lt; omega : w4.heap.size ≠ w8.heap.size)
       clear d0 d1 d2
       skip
       change Calls _ _ _ (w8.alloc (.cells #[.int .i64 gn, .int .i64 gd] 56)) _
       have k0 := Blk.made w8 56 #[.int .i64 gn, .int .i64 gd]
       have x0 := Ext.box w8 (.cells #[.int .i64 gn, .int .i64 gd] 56)
       have es0 : (w8.alloc (.cells #[.int .i64 gn, .int .i64 gd] 56)).heap.size = w8.heap.size + 1 := by simp
       obtain ⟨X0, hX0⟩ : ∃ X, w8.alloc (.cells #[.int .i64 gn, .int .i64 gd] 56) = X := ⟨_, rfl⟩
       rw [hX0] at k0 x0 es0 ⊢
       clear hX0
       have e0 : X0.heap.size = w8.heap.size + 1 := by omega
       have HXW : Hid (Ext w8 X0) := by exact (x0 : Ext w8 X0)
       have eW : X0.heap.size = w8.heap.size + 1 := e0
       clear x0 es0 e0
       obtain ⟨W, hWW⟩ : ∃ W, X0 = W := ⟨_, rfl⟩
       rw [hWW] at HXW eW ⊢ k0
       clear hWW
       refine (rCheckTree_any _ _ t ⟨_, _, _, rfl, HT.out.ext HXW.out⟩).mono ?_
       rintro e w9 ⟨rfl, hx⟩
       have hxx : Ext w8 w9 := HXW.out.trans hx
       replace HX := Lib.hid (HX.out.trans hxx)
       replace HT := Lib.hid (HT.out.ext hxx)
       replace c0 := hxx.cell c0
       replace c1 := hxx.cell c1
       replace c2 := hxx.cell c2
       replace HTAB := Lib.hid (HTAB.out.ext hxx)
       replace K0 := Lib.hid (K0.out.ext hxx)
       replace HLoc := Lib.hid (HLoc.out.ext hxx)
       replace HLno := Lib.hid (HLno.out.ext hxx)
       replace B7 := Lib.hid (B7.out.ext hxx)
       have B9 := Lib.hid (k0.ext hx)
       clear hx hxx HXW eW k0
       rw [HE.out]
       by_cases he : E = 0
       · have HV := Lib.hid (Valid.of (HE.out.trans he))
         have hne : (E == 0) = true := by simp [he]
         have HE0 := Lib.hid he
         obtain ⟨⟨pn, pd⟩, hP⟩ : ∃ C, probOf t t.chances = C := ⟨_, rfl⟩
         have HP := Lib.hid hP
         have HR1 : Hid (cn = pn ∧ cd = pd) := by exact (by have h1 := chance_eq (HE.out.trans he); rw [HC.out, hP] at h1; injection h1 with h1 h2; exact ⟨h1, h2⟩ : cn = pn ∧ cd = pd)
         obtain ⟨S, hS⟩ : ∃ S, firstErr [setErr oc t.size, setErr no t.size] = S := ⟨_, rfl⟩
         have HS := Lib.hid hS
         clear he hP hS
         have xp := (Ext.box w9 (.cells #[.int .i64 0, .int .i64 0] 56)).trans (Ext.box (w9.alloc (.cells #[.int .i64 0, .int .i64 0] 56)) (.cells #[.int .i64 0, .int .i64 0] 56))
         have d0 := xp.cell c0
         have d1 := xp.cell c1
         have d2 := xp.cell c2
         clear xp
         go_wp2_with fail
         have LOB13 : Hid (WB.heap.size ≤ w9.heap.size) := by exact (by have := HX.out.size; omega : WB.heap.size ≤ w9.heap.size)
         have NEB7_B13 : Hid (w4.heap.size ≠ w9.heap.size) := by exact (by have := B7.out.lt; omega : w4.heap.size ≠ w9.heap.size)
         have NEB9_B13 : Hid (w8.heap.size ≠ w9.heap.size) := by exact (by have := B9.out.lt; omega : w8.heap.size ≠ w9.heap.size)
         have LOB14 : Hid (WB.heap.size ≤ w9.heap.size + 1) := by exact (by have := HX.out.size; omega : WB.heap.size ≤ w9.heap.size + 1)
         have NEB7_B14 : Hid (w4.heap.size ≠ w9.heap.size + 1) := by exact (by have := B7.out.lt; omega : w4.heap.size ≠ w9.heap.size + 1)
         have NEB9_B14 : Hid (w8.heap.size ≠ w9.heap.size + 1) := by exact (by have := B9.out.lt; omega : w8.heap.size ≠ w9.heap.size + 1)
         have NEB13_B14 : Hid (w9.heap.size ≠ w9.heap.size + 1) := by exact (by omega : w9.heap.size ≠ w9.heap.size + 1)
         clear d0 d1 d2
         skip
         change Calls _ _ _ ((w9.alloc (.cells #[.int .i64 0, .int .i64 0] 56)).alloc (.cells #[.int .i64 0, .int .i64 0] 56)) _
         have k0 := Blk.made w9 56 #[.int .i64 0, .int .i64 0]
         have x0 := Ext.box w9 (.cells #[.int .i64 0, .int .i64 0] 56)
         have es0 : (w9.alloc (.cells #[.int .i64 0, .int .i64 0] 56)).heap.size = w9.heap.size + 1 := by simp
         obtain ⟨X0, hX0⟩ : ∃ X, w9.alloc (.cells #[.int .i64 0, .int .i64 0] 56) = X := ⟨_, rfl⟩
         rw [hX0] at k0 x0 es0 ⊢
         clear hX0
         have k1 := Blk.made X0 56 #[.int .i64 0, .int .i64 0]
         have x1 := Ext.box X0 (.cells #[.int .i64 0, .int .i64 0] 56)
         have es1 : (X0.alloc (.cells #[.int .i64 0, .int .i64 0] 56)).heap.size = X0.heap.size + 1 := by simp
         obtain ⟨X1, hX1⟩ : ∃ X, X0.alloc (.cells #[.int .i64 0, .int .i64 0] 56) = X := ⟨_, rfl⟩
         rw [hX1] at k1 x1 es1 ⊢
         clear hX1
         replace k0 := k0.ext x1
         have e0 : X0.heap.size = w9.heap.size + 1 := by omega
         have e1 : X1.heap.size = w9.heap.size + 1 + 1 := by omega
         rw [e0] at k1
         have HXW : Hid (Ext w9 X1) := by exact (Ext.trans (x0) x1 : Ext w9 X1)
         have eW : X1.heap.size = w9.heap.size + 1 + 1 := e1
         clear x0 es0 e0 x1 es1 e1
         obtain ⟨W, hWW⟩ : ∃ W, X1 = W := ⟨_, rfl⟩
         rw [hWW] at HXW eW ⊢ k0 k1
         clear hWW
         refine (rChance _ _ t pn pd HP.out HV.out ⟨_, _, _, rfl, HT.out.ext HXW.out⟩).mono ?_
         rintro e w10 ⟨rfl, hx⟩
         have hxx : Ext w9 w10 := HXW.out.trans hx
         replace HX := Lib.hid (HX.out.trans hxx)
         replace HT := Lib.hid (HT.out.ext hxx)
         replace c0 := hxx.cell c0
         replace c1 := hxx.cell c1
         replace c2 := hxx.cell c2
         replace HTAB := Lib.hid (HTAB.out.ext hxx)
         replace K0 := Lib.hid (K0.out.ext hxx)
         replace HLoc := Lib.hid (HLoc.out.ext hxx)
         replace HLno := Lib.hid (HLno.out.ext hxx)
         replace B7 := Lib.hid (B7.out.ext hxx)
         replace B9 := Lib.hid (B9.out.ext hxx)
         have B13 := Lib.hid (k0.ext hx)
         have B14 := Lib.hid (k1.ext hx)
         clear hx hxx HXW eW k0 k1
         go_wp2_with (first | (refine wpList_store_blk rfl _ _ 56 rfl Tryz.sizeRat rfl rfl B13.out rfl rfl ?_ ?_; (focus (intro u hu; simp only [List.mem_cons, List.not_mem_nil, or_false] at hu; rcases hu with rfl | rfl <;> rfl)); intro w11 hb hl ho; refine halted ?_))
         have HXn : Hid (Ext WB w11) := by exact (Below.trans HX.out (hl _ LOB13.out) : Ext WB w11)
         replace HX := HXn
         clear HXn
         replace HT := Lib.hid (HT0.out.ext (HW0.out.trans HX.out))
         replace HTAB := Lib.hid (HTAB0.out.ext (HW0.out.trans HX.out))
         replace HLoc := Lib.hid (HL0oc.out.ext (HW0.out.trans HX.out))
         replace HLno := Lib.hid (HL0no.out.ext (HW0.out.trans HX.out))
         replace K0 := Lib.hid (K0.out.only (by have := LOB13.out; omega) ho)
         replace B7 := Lib.hid (B7.out.only NEB7_B13.out ho)
         replace B9 := Lib.hid (B9.out.only NEB9_B13.out ho)
         replace B14 := Lib.hid (B14.out.only (NEB13_B14.out).symm ho)
         replace B13 := Lib.hid hb
         clear hb hl ho
         have c0 := K0.out.cell 0
         have c1 := K0.out.cell 1
         have c2 := K0.out.cell 2
         simp only [List.getElem?_toArray, List.getElem?_cons_zero, List.getElem?_cons_succ] at c0 c1 c2
         unfold Halted
         have hsz := HV.out.size
         have hdr := (Ext.refl w11).drew
         clear c0 c1 c2
         go_wp2
         refine Flow.regionB0 [.world, .plain, .world, .world, .plain, .world, .world, .world, .plain] [0, 1, 2, 3, 4, 5, 6, 7, 8] [[], [], [0, 1], [], [], [0, 1, 2, 3, 4], [0, 1, 2, 3, 4, 5], [0, 1, 2, 3, 4, 5, 6], [0, 1, 2, 3, 4, 5, 6, 7]]
          [.is 0 (fun v => .agg #[.slice A t.basics.length capa, .slice B t.causes.length capb, .slice G t.gates.length capg]), .is 1 (fun v => .slice Aoc oc.length capoc), .is 2 (fun v => .int .i64 (setErr oc t.size)), .is 3 (fun v => .agg #[.slice A t.basics.length capa, .slice B t.causes.length capb, .slice G t.gates.length capg]), .is 4 (fun v => .slice Ano no.length capno), .is 5 (fun v => .int .i64 (setErr no t.size)), ⟨fun v wz => IsInts wz (v 6) [setErr oc t.size, setErr no t.size], fun _ _ _ hx h => h.ext hx⟩, .is 7 (fun v => .int .i64 S), .is 8 (fun v => .int .i64 S)]
          (by kernel_rfl) rfl (by kernel_rfl) ⟨?g0, ?g1, ?g2, ?g3, ?g4, ?g5, ?g6, ?g7, ?g8, trivial⟩ ?post
         case g0 =>
          intro v w1 hx
          intro bb hbb
          intro K hK
          have o1 : bb.eval (.tmp 3) = .pointer (some ⟨w.heap.size, 0, none⟩) := by rw [hbb]; dsimp only; (try simp (discharger := decide) only [eval_put_ne]); rfl
          exact gives_load_blk (.tmp 3) _ rfl Tryz.aggRTree Tryz.sizeRTree o1 (K0.out.ext (hdr.trans hx)) rfl (hK _ _ (Ext.refl _) rfl)
         case g1 =>
          intro v w1 hx
          intro bb hbb
          subst hbb
          refine ⟨_, fun w => ?_, rfl⟩
          go_simp
         case g2 =>
          intro v w1 hx (q0 : v 0 = .agg #[.slice A t.basics.length capa, .slice B t.causes.length capb, .slice G t.gates.length capg]) (q1 : v 1 = .slice Aoc oc.length capoc)
          intro bb hbb
          subst hbb
          intro K hK
          go_simp
          refine gives_call (CheckSet_any w1 _ _ t oc ⟨_, _, _, rfl, HT.out.ext (hdr.trans hx)⟩ (HLoc.out.ext (hdr.trans hx))) ?_
          rintro e w2 ⟨rfl, hx2⟩
          exact ⟨_, rfl, hK _ _ hx2 rfl⟩
         case g3 =>
          intro v w1 hx
          intro bb hbb
          intro K hK
          have o1 : bb.eval (.tmp 3) = .pointer (some ⟨w.heap.size, 0, none⟩) := by rw [hbb]; dsimp only; (try simp (discharger := decide) only [eval_put_ne]); rfl
          exact gives_load_blk (.tmp 3) _ rfl Tryz.aggRTree Tryz.sizeRTree o1 (K0.out.ext (hdr.trans hx)) rfl (hK _ _ (Ext.refl _) rfl)
         case g4 =>
          intro v w1 hx
          intro bb hbb
          subst hbb
          refine ⟨_, fun w => ?_, rfl⟩
          go_simp
         case g5 =>
          intro v w1 hx (q0 : v 0 = .agg #[.slice A t.basics.length capa, .slice B t.causes.length capb, .slice G t.gates.length capg]) (q1 : v 1 = .slice Aoc oc.length capoc) (q2 : v 2 = .int .i64 (setErr oc t.size)) (q3 : v 3 = .agg #[.slice A t.basics.length capa, .slice B t.causes.length capb, .slice G t.gates.length capg]) (q4 : v 4 = .slice Ano no.length capno)
          intro bb hbb
          subst hbb
          intro K hK
          go_simp
          refine gives_call (CheckSet_any w1 _ _ t no ⟨_, _, _, rfl, HT.out.ext (hdr.trans hx)⟩ (HLno.out.ext (hdr.trans hx))) ?_
          rintro e w2 ⟨rfl, hx2⟩
          exact ⟨_, rfl, hK _ _ hx2 rfl⟩
         case g6 =>
          intro v w1 hx (q0 : v 0 = .agg #[.slice A t.basics.length capa, .slice B t.causes.length capb, .slice G t.gates.length capg]) (q1 : v 1 = .slice Aoc oc.length capoc) (q2 : v 2 = .int .i64 (setErr oc t.size)) (q3 : v 3 = .agg #[.slice A t.basics.length capa, .slice B t.causes.length capb, .slice G t.gates.length capg]) (q4 : v 4 = .slice Ano no.length capno) (q5 : v 5 = .int .i64 (setErr no t.size))
          intro bb hbb
          subst hbb
          intro K hK
          go_simp
          exact hK _ _ (Ext.box _ _) (ints_new (l := [setErr oc t.size, setErr no t.size]) (by simp))
         case g7 =>
          intro v w1 hx (q0 : v 0 = .agg #[.slice A t.basics.length capa, .slice B t.causes.length capb, .slice G t.gates.length capg]) (q1 : v 1 = .slice Aoc oc.length capoc) (q2 : v 2 = .int .i64 (setErr oc t.size)) (q3 : v 3 = .agg #[.slice A t.basics.length capa, .slice B t.causes.length capb, .slice G t.gates.length capg]) (q4 : v 4 = .slice Ano no.length capno) (q5 : v 5 = .int .i64 (setErr no t.size)) (q6 : IsInts w1 (v 6) [setErr oc t.size, setErr no t.size])
          intro bb hbb
          subst hbb
          intro K hK
          go_simp
          refine gives_call ((by rw [← HS.out]; exact First_any w1 _ _ q6 : Calls Tryz.prog 24 #[v 6] w1 fun e w' => e = .returned (.int .i64 S) ∧ w1 = w')) ?_
          rintro e w2 ⟨rfl, rfl⟩
          exact ⟨_, rfl, hK _ _ (Ext.refl _) rfl⟩
         case g8 =>
          intro v w1 hx (q0 : v 0 = .agg #[.slice A t.basics.length capa, .slice B t.causes.length capb, .slice G t.gates.length capg]) (q1 : v 1 = .slice Aoc oc.length capoc) (q2 : v 2 = .int .i64 (setErr oc t.size)) (q3 : v 3 = .agg #[.slice A t.basics.length capa, .slice B t.causes.length capb, .slice G t.gates.length capg]) (q4 : v 4 = .slice Ano no.length capno) (q5 : v 5 = .int .i64 (setErr no t.size)) (q6 : IsInts w1 (v 6) [setErr oc t.size, setErr no t.size]) (q7 : v 7 = .int .i64 S)
          intro bb hbb
          subst hbb
          refine ⟨_, fun w => ?_, rfl⟩
          go_simp
         case post =>
          intro v w1 hx (q0 : v 0 = .agg #[.slice A t.basics.length capa, .slice B t.causes.length capb, .slice G t.gates.length capg]) (q1 : v 1 = .slice Aoc oc.length capoc) (q2 : v 2 = .int .i64 (setErr oc t.size)) (q3 : v 3 = .agg #[.slice A t.basics.length capa, .slice B t.causes.length capb, .slice G t.gates.length capg]) (q4 : v 4 = .slice Ano no.length capno) (q5 : v 5 = .int .i64 (setErr no t.size)) (q6 : IsInts w1 (v 6) [setErr oc t.size, setErr no t.size]) (q7 : v 7 = .int .i64 S) (q8 : v 8 = .int .i64 S)
          simp only [Flow.All, Flow.acts, Act.put]
          go_simp
          have hxx := hdr.trans hx
          replace HX := Lib.hid (HX.out.trans hxx)
          replace HT := Lib.hid (HT.out.ext hxx)
          replace HTAB := Lib.hid (HTAB.out.ext hxx)
          replace K0 := Lib.hid (K0.out.ext hxx)
          replace HLoc := Lib.hid (HLoc.out.ext hxx)
          replace HLno := Lib.hid (HLno.out.ext hxx)
          replace B7 := Lib.hid (B7.out.ext hxx)
          replace B9 := Lib.hid (B9.out.ext hxx)
          replace B13 := Lib.hid (B13.out.ext hxx)
          replace B14 := Lib.hid (B14.out.ext hxx)
          have c0 := K0.out.cell 0
          have c1 := K0.out.cell 1
          have c2 := K0.out.cell 2
          simp only [List.getElem?_toArray, List.getElem?_cons_zero, List.getElem?_cons_succ] at c0 c1 c2
          clear hxx hx hdr q0 q1 q2 q3 q4 q5 q6 q7 q8
          obtain ⟨w12, hww⟩ : ∃ X, w1 = X := ⟨_, rfl⟩
          rw [hww] at HX HT c0 c1 c2 HTAB K0 HLoc HLno B7 B9 B13 B14 ⊢
          clear hww
          by_cases hs0 : S = 0
          · have hns : (S == 0) = true := by simp [hs0]
            have HSS := Lib.hid hs0
            obtain ⟨⟨qn, qd⟩, hQ⟩ : ∃ C, gvR t oc no = C := ⟨_, rfl⟩
            have HQ := Lib.hid hQ
            have HGV : Hid (gvE oc no = GE) := by exact (by have h := given_split (x := oc) (y := no) (HE.out.trans HE0.out); rw [HS.out, if_pos hs0, HGE.out] at h; exact h.symm : gvE oc no = GE)
            have HR2 : Hid (gn = qn ∧ gd = qd) := by exact (by have h1 := given_eq (HE.out.trans HE0.out) (HS.out.trans hs0); rw [HG.out, hQ] at h1; injection h1 with h1 h2; exact ⟨h1, h2⟩ : gn = qn ∧ gd = qd)
            have HR3 : Hid (GE ≠ 0 → gn = 0 ∧ gd = 0) := by exact (fun h => by have h1 := givenR_bad (t := t) (x := oc) (y := no) (by rw [HGE.out]; exact h); rw [HG.out] at h1; injection h1 with h1 h2; exact ⟨h1, h2⟩ : GE ≠ 0 → gn = 0 ∧ gd = 0)
            have HO1 : Hid ((∀ k ∈ oc, 0 ≤ k ∧ k < (t.size : Int)) ∧ ∀ k ∈ no, 0 ≤ k ∧ k < (t.size : Int)) := by exact (by have h := HS.out.trans hs0; rw [firstErr_zero] at h; exact ⟨(setErr_zero (h _ (by simp))).1, (setErr_zero (h _ (by simp))).1⟩ : (∀ k ∈ oc, 0 ≤ k ∧ k < (t.size : Int)) ∧ ∀ k ∈ no, 0 ≤ k ∧ k < (t.size : Int))
            clear hs0 hQ
            go_wp2_with fail
            refine (rGiven _ _ _ _ t oc no qn qd HQ.out HV.out HO1.out.1 HO1.out.2 ⟨_, _, _, rfl, HT.out⟩ HLoc.out HLno.out).mono ?_
            rintro e w13 ⟨rfl, hx⟩
            have hxx : Ext w12 w13 := hx
            replace HX := Lib.hid (HX.out.trans hxx)
            replace HT := Lib.hid (HT.out.ext hxx)
            replace c0 := hxx.cell c0
            replace c1 := hxx.cell c1
            replace c2 := hxx.cell c2
            replace HTAB := Lib.hid (HTAB.out.ext hxx)
            replace K0 := Lib.hid (K0.out.ext hxx)
            replace HLoc := Lib.hid (HLoc.out.ext hxx)
            replace HLno := Lib.hid (HLno.out.ext hxx)
            replace B7 := Lib.hid (B7.out.ext hxx)
            replace B9 := Lib.hid (B9.out.ext hxx)
            replace B13 := Lib.hid (B13.out.ext hxx)
            replace B14 := Lib.hid (B14.out.ext hxx)
            clear hx hxx
            rw [HGV.out]
            go_wp2_with (first | (refine wpList_store_blk rfl _ _ 56 rfl Tryz.sizeRat rfl rfl B14.out rfl rfl ?_ ?_; (focus (intro u hu; simp only [List.mem_cons, List.not_mem_nil, or_false] at hu; rcases hu with rfl | rfl <;> rfl)); intro w14 hb hl ho; refine halted ?_))
            have HXn : Hid (Ext WB w14) := by exact (Below.trans HX.out (hl _ LOB14.out) : Ext WB w14)
            replace HX := HXn
            clear HXn
            replace HT := Lib.hid (HT0.out.ext (HW0.out.trans HX.out))
            replace HTAB := Lib.hid (HTAB0.out.ext (HW0.out.trans HX.out))
            replace HLoc := Lib.hid (HL0oc.out.ext (HW0.out.trans HX.out))
            replace HLno := Lib.hid (HL0no.out.ext (HW0.out.trans HX.out))
            replace K0 := Lib.hid (K0.out.only (by have := LOB14.out; omega) ho)
            replace B7 := Lib.hid (B7.out.only NEB7_B14.out ho)
            replace B9 := Lib.hid (B9.out.only NEB9_B14.out ho)
            replace B13 := Lib.hid (B13.out.only NEB13_B14.out ho)
            replace B14 := Lib.hid hb
            clear hb hl ho
            have c0 := K0.out.cell 0
            have c1 := K0.out.cell 1
            have c2 := K0.out.cell 2
            simp only [List.getElem?_toArray, List.getElem?_cons_zero, List.getElem?_cons_succ] at c0 c1 c2
            unfold Halted
            have b7_0 := B7.out.cell 0
            have b7_1 := B7.out.cell 1
            have b9_0 := B9.out.cell 0
            have b9_1 := B9.out.cell 1
            have b13_0 := B13.out.cell 0
            have b13_1 := B13.out.cell 1
            have b14_0 := B14.out.cell 0
            have b14_1 := B14.out.cell 1
            simp only [List.getElem?_toArray, List.getElem?_cons_zero, List.getElem?_cons_succ] at b7_0 b7_1 b9_0 b9_1 b13_0 b13_1 b14_0 b14_1
            clear c0 c1 c2
            go_wp2_with fail
            refine (ratio_ok _ E cn cd pn pd (fun _ => HR1.out) (fun h => absurd HE0.out h)).mono ?_
            rintro e w15 ⟨rfl, hx⟩
            have hxx : Ext w14 w15 := hx
            replace HX := Lib.hid (HX.out.trans hxx)
            replace HT := Lib.hid (HT.out.ext hxx)
            replace HTAB := Lib.hid (HTAB.out.ext hxx)
            replace K0 := Lib.hid (K0.out.ext hxx)
            replace HLoc := Lib.hid (HLoc.out.ext hxx)
            replace HLno := Lib.hid (HLno.out.ext hxx)
            replace B7 := Lib.hid (B7.out.ext hxx)
            replace B9 := Lib.hid (B9.out.ext hxx)
            replace B13 := Lib.hid (B13.out.ext hxx)
            replace B14 := Lib.hid (B14.out.ext hxx)
            clear hx hxx
            clear b7_0 b7_1 b9_0 b9_1 b13_0 b13_1 b14_0 b14_1
            have b9_0 := B9.out.cell 0
            have b9_1 := B9.out.cell 1
            have b14_0 := B14.out.cell 0
            have b14_1 := B14.out.cell 1
            simp only [List.getElem?_toArray, List.getElem?_cons_zero, List.getElem?_cons_succ] at b9_0 b9_1 b14_0 b14_1
            go_wp2_with fail
            refine (ratio_ok _ GE gn gd qn qd (fun _ => HR2.out) HR3.out).mono ?_
            rintro e w16 ⟨rfl, hx⟩
            have hxx : Ext w15 w16 := hx
            replace HX := Lib.hid (HX.out.trans hxx)
            replace HT := Lib.hid (HT.out.ext hxx)
            replace HTAB := Lib.hid (HTAB.out.ext hxx)
            replace K0 := Lib.hid (K0.out.ext hxx)
            replace HLoc := Lib.hid (HLoc.out.ext hxx)
            replace HLno := Lib.hid (HLno.out.ext hxx)
            replace B7 := Lib.hid (B7.out.ext hxx)
            replace B9 := Lib.hid (B9.out.ext hxx)
            replace B13 := Lib.hid (B13.out.ext hxx)
            replace B14 := Lib.hid (B14.out.ext hxx)
            clear hx hxx
            go_wp2
            go_ret
            exact ⟨rfl, HW0.out.trans HX.out⟩
          · have hns : (S == 0) = false := by simp [hs0]
            have HSS : Hid (GE = S) := by exact (by have h := given_split (x := oc) (y := no) (HE.out.trans HE0.out); rw [HS.out, if_neg hs0, HGE.out] at h; exact h : GE = S)
            have HS0 := Lib.hid hs0
            have HR3 : Hid (gn = 0 ∧ gd = 0) := by exact (by have h1 := givenR_bad (t := t) (x := oc) (y := no) (by rw [HGE.out, HSS.out]; exact hs0); rw [HG.out] at h1; injection h1 with h1 h2; exact ⟨h1, h2⟩ : gn = 0 ∧ gd = 0)
            clear hs0
            rw [HSS.out]
            have b7_0 := B7.out.cell 0
            have b7_1 := B7.out.cell 1
            have b9_0 := B9.out.cell 0
            have b9_1 := B9.out.cell 1
            have b13_0 := B13.out.cell 0
            have b13_1 := B13.out.cell 1
            have b14_0 := B14.out.cell 0
            have b14_1 := B14.out.cell 1
            simp only [List.getElem?_toArray, List.getElem?_cons_zero, List.getElem?_cons_succ] at b7_0 b7_1 b9_0 b9_1 b13_0 b13_1 b14_0 b14_1
            clear c0 c1 c2
            go_wp2_with fail
            refine (ratio_ok _ E cn cd pn pd (fun _ => HR1.out) (fun h => absurd HE0.out h)).mono ?_
            rintro e w13 ⟨rfl, hx⟩
            have hxx : Ext w12 w13 := hx
            replace HX := Lib.hid (HX.out.trans hxx)
            replace HT := Lib.hid (HT.out.ext hxx)
            replace HTAB := Lib.hid (HTAB.out.ext hxx)
            replace K0 := Lib.hid (K0.out.ext hxx)
            replace HLoc := Lib.hid (HLoc.out.ext hxx)
            replace HLno := Lib.hid (HLno.out.ext hxx)
            replace B7 := Lib.hid (B7.out.ext hxx)
            replace B9 := Lib.hid (B9.out.ext hxx)
            replace B13 := Lib.hid (B13.out.ext hxx)
            replace B14 := Lib.hid (B14.out.ext hxx)
            clear hx hxx
            clear b7_0 b7_1 b9_0 b9_1 b13_0 b13_1 b14_0 b14_1
            have b9_0 := B9.out.cell 0
            have b9_1 := B9.out.cell 1
            have b14_0 := B14.out.cell 0
            have b14_1 := B14.out.cell 1
            simp only [List.getElem?_toArray, List.getElem?_cons_zero, List.getElem?_cons_succ] at b9_0 b9_1 b14_0 b14_1
            go_wp2_with fail
            refine (ratio_ok _ S gn gd 0 0 (fun h => absurd h HS0.out) (fun _ => HR3.out)).mono ?_
            rintro e w14 ⟨rfl, hx⟩
            have hxx : Ext w13 w14 := hx
            replace HX := Lib.hid (HX.out.trans hxx)
            replace HT := Lib.hid (HT.out.ext hxx)
            replace HTAB := Lib.hid (HTAB.out.ext hxx)
            replace K0 := Lib.hid (K0.out.ext hxx)
            replace HLoc := Lib.hid (HLoc.out.ext hxx)
            replace HLno := Lib.hid (HLno.out.ext hxx)
            replace B7 := Lib.hid (B7.out.ext hxx)
            replace B9 := Lib.hid (B9.out.ext hxx)
            replace B13 := Lib.hid (B13.out.ext hxx)
            replace B14 := Lib.hid (B14.out.ext hxx)
            clear hx hxx
            go_wp2
            go_ret
            exact ⟨rfl, HW0.out.trans HX.out⟩
       · have hne : (E == 0) = false := by simp [he]
         have HE0 := Lib.hid he
         have HGG : Hid (GE = E) := by exact (by rw [← HGE.out, given_bad (by rw [HE.out]; exact he), HE.out] : GE = E)
         have HR1 : Hid (cn = 0 ∧ cd = 0) := by exact (by have h1 := chanceR_bad (t := t) (by rw [HE.out]; exact he); rw [HC.out] at h1; injection h1 with h1 h2; exact ⟨h1, h2⟩ : cn = 0 ∧ cd = 0)
         have HR3 : Hid (gn = 0 ∧ gd = 0) := by exact (by have h1 := givenR_bad (t := t) (x := oc) (y := no) (by rw [HGE.out, HGG.out]; exact he); rw [HG.out] at h1; injection h1 with h1 h2; exact ⟨h1, h2⟩ : gn = 0 ∧ gd = 0)
         clear he
         rw [HGG.out]
         have b7_0 := B7.out.cell 0
         have b7_1 := B7.out.cell 1
         have b9_0 := B9.out.cell 0
         have b9_1 := B9.out.cell 1
         simp only [List.getElem?_toArray, List.getElem?_cons_zero, List.getElem?_cons_succ] at b7_0 b7_1 b9_0 b9_1
         replace b7_0 := ((Ext.box w9 (.cells #[.int .i64 0, .int .i64 0] 56)).trans (Ext.box _ (.cells #[.int .i64 0, .int .i64 0] 56))).cell b7_0
         replace b7_1 := ((Ext.box w9 (.cells #[.int .i64 0, .int .i64 0] 56)).trans (Ext.box _ (.cells #[.int .i64 0, .int .i64 0] 56))).cell b7_1
         clear c0 c1 c2
         go_wp2_with fail
         have LOB13 : Hid (WB.heap.size ≤ w9.heap.size) := by exact (by have := HX.out.size; omega : WB.heap.size ≤ w9.heap.size)
         have NEB7_B13 : Hid (w4.heap.size ≠ w9.heap.size) := by exact (by have := B7.out.lt; omega : w4.heap.size ≠ w9.heap.size)
         have NEB9_B13 : Hid (w8.heap.size ≠ w9.heap.size) := by exact (by have := B9.out.lt; omega : w8.heap.size ≠ w9.heap.size)
         have LOB14 : Hid (WB.heap.size ≤ w9.heap.size + 1) := by exact (by have := HX.out.size; omega : WB.heap.size ≤ w9.heap.size + 1)
         have NEB7_B14 : Hid (w4.heap.size ≠ w9.heap.size + 1) := by exact (by have := B7.out.lt; omega : w4.heap.size ≠ w9.heap.size + 1)
         have NEB9_B14 : Hid (w8.heap.size ≠ w9.heap.size + 1) := by exact (by have := B9.out.lt; omega : w8.heap.size ≠ w9.heap.size + 1)
         have NEB13_B14 : Hid (w9.heap.size ≠ w9.heap.size + 1) := by exact (by omega : w9.heap.size ≠ w9.heap.size + 1)
         skip
         change Calls _ _ _ ((w9.alloc (.cells #[.int .i64 0, .int .i64 0] 56)).alloc (.cells #[.int .i64 0, .int .i64 0] 56)) _
         have k0 := Blk.made w9 56 #[.int .i64 0, .int .i64 0]
         have x0 := Ext.box w9 (.cells #[.int .i64 0, .int .i64 0] 56)
         have es0 : (w9.alloc (.cells #[.int .i64 0, .int .i64 0] 56)).heap.size = w9.heap.size + 1 := by simp
         obtain ⟨X0, hX0⟩ : ∃ X, w9.alloc (.cells #[.int .i64 0, .int .i64 0] 56) = X := ⟨_, rfl⟩
         rw [hX0] at k0 x0 es0 ⊢
         clear hX0
         have k1 := Blk.made X0 56 #[.int .i64 0, .int .i64 0]
         have x1 := Ext.box X0 (.cells #[.int .i64 0, .int .i64 0] 56)
         have es1 : (X0.alloc (.cells #[.int .i64 0, .int .i64 0] 56)).heap.size = X0.heap.size + 1 := by simp
         obtain ⟨X1, hX1⟩ : ∃ X, X0.alloc (.cells #[.int .i64 0, .int .i64 0] 56) = X := ⟨_, rfl⟩
         rw [hX1] at k1 x1 es1 ⊢
         clear hX1
         replace k0 := k0.ext x1
         have e0 : X0.heap.size = w9.heap.size + 1 := by omega
         have e1 : X1.heap.size = w9.heap.size + 1 + 1 := by omega
         rw [e0] at k1
         have HXW : Hid (Ext w9 X1) := by exact (Ext.trans (x0) x1 : Ext w9 X1)
         have eW : X1.heap.size = w9.heap.size + 1 + 1 := e1
         clear x0 es0 e0 x1 es1 e1
         obtain ⟨W, hWW⟩ : ∃ W, X1 = W := ⟨_, rfl⟩
         rw [hWW] at HXW eW ⊢ k0 k1
         clear hWW
         refine (ratio_ok _ E cn cd 0 0 (fun h => absurd h HE0.out) (fun _ => HR1.out)).mono ?_
         rintro e w10 ⟨rfl, hx⟩
         have hxx : Ext w9 w10 := HXW.out.trans hx
         replace HX := Lib.hid (HX.out.trans hxx)
         replace HT := Lib.hid (HT.out.ext hxx)
         replace HTAB := Lib.hid (HTAB.out.ext hxx)
         replace K0 := Lib.hid (K0.out.ext hxx)
         replace HLoc := Lib.hid (HLoc.out.ext hxx)
         replace HLno := Lib.hid (HLno.out.ext hxx)
         replace B7 := Lib.hid (B7.out.ext hxx)
         replace B9 := Lib.hid (B9.out.ext hxx)
         have B13 := Lib.hid (k0.ext hx)
         have B14 := Lib.hid (k1.ext hx)
         clear hx hxx HXW eW k0 k1
         clear b7_0 b7_1 b9_0 b9_1
         have b9_0 := B9.out.cell 0
         have b9_1 := B9.out.cell 1
         have b14_0 := B14.out.cell 0
         have b14_1 := B14.out.cell 1
         simp only [List.getElem?_toArray, List.getElem?_cons_zero, List.getElem?_cons_succ] at b9_0 b9_1 b14_0 b14_1
         go_wp2_with fail
         refine (ratio_ok _ E gn gd 0 0 (fun h => absurd h HE0.out) (fun _ => HR3.out)).mono ?_
         rintro e w11 ⟨rfl, hx⟩
         have hxx : Ext w10 w11 := hx
         replace HX := Lib.hid (HX.out.trans hxx)
         replace HT := Lib.hid (HT.out.ext hxx)
         replace HTAB := Lib.hid (HTAB.out.ext hxx)
         replace K0 := Lib.hid (K0.out.ext hxx)
         replace HLoc := Lib.hid (HLoc.out.ext hxx)
         replace HLno := Lib.hid (HLno.out.ext hxx)
         replace B7 := Lib.hid (B7.out.ext hxx)
         replace B9 := Lib.hid (B9.out.ext hxx)
         replace B13 := Lib.hid (B13.out.ext hxx)
         replace B14 := Lib.hid (B14.out.ext hxx)
         clear hx hxx
         go_wp2
         go_ret
         exact ⟨rfl, HW0.out.trans HX.out⟩
end Go.Proofs
namespace Go.Proofs.YthfanledageoeaaGreatDoor
open Go.ChangeShapes Go.WideShapes Go.ChangeAt Go.RowKit Go.Tw
set_option maxRecDepth 100000 in
theorem faultChances_lifted (os : Os) (started : os.Started) (H : Type) (enc : TypeId × Value → H) :
    ReturnsInHanded {} Tryz.checked os 5 .any (fun w args => (Rows.faultChancesSpec.pre enc Tryz.prog Tryz.f5 Rows.faultChancesRow.domain false w args ∧ laidMetH Tryz.prog laidL w) ∧ sizedMet enc Tryz.prog Tryz.f5 (OpenSpec.ofChange Rows.faultChancesSpec) false w args)
     (Rows.faultChancesSpec.post enc Tryz.prog Tryz.f5 false true false false) := by
 refine returnsInHanded_of_change_and (C := Tryz.checked) (X := fun w _ => laidMetH Tryz.prog laidL w) (fun _ _ _ hh h => h.of_heap hh) own started (by kernel_rfl) Tryz.func5
  (ChangeSpec.witness_shaped (enc := enc) (C := Tryz.checked) (os := os) (X := fun w _ => laidMetH Tryz.prog laidL w) false (World.laidAll Tryz.prog os laidL) #[.agg #[.slice none 0 0, .slice none 0 0, .slice none 0 0], .slice none 0 0, .slice none 0 0] 8 (World.laidAll_os _ _ _)
   (World.shaped_of_ZipB (by kernel_rfl) (by kernel_rfl)) (by kernel_rfl) (by kernel_rfl) (by kernel_rfl)
   (by rw [MakeChecks.laidMetH_plain _ _ _ (by kernel_rfl)]; exact laidMet_laidAll _ (by kernel_rfl) (by kernel_rfl))) ?_
 intro W base args ds gs before hval0 hW hc hsz0 hL _
 have hval : ∀ (j : Nat) t v, Tryz.f5.params[j]? = some t → args[j]? = some v → Value.okWide Tryz.prog W .any base t v := hval0
 have hsz : (DataW.weightsEach Tryz.prog (Tryz.f5.params.toList ++ Rows.faultChancesSpec.plain.varTypes Tryz.prog) (ds ++ gs)).all (· ≤ reachBytes) = true := hsz0
 have hW' := hW
 obtain ⟨p, q, hA0, hV, rfl, hfz, hnd⟩ := hW
 have hA : DataW.TrodAll enc Tryz.prog W 0 (fun _ => true) true Tryz.f5.params.toList args.toList ds p := hA0
 rw [Tryz.params5] at hA hval hsz
 obtain ⟨v0, vs0, d0, ds0, p0, q0, hargs, rfl, rfl, h0, r0⟩ := trodAll_cons hA
 obtain ⟨v1, vs1, d1, ds1, p1, q1, rfl, rfl, rfl, h1, r1⟩ := trodAll_cons r0
 obtain ⟨v2, vs2, d2, ds2, p2, q2, rfl, rfl, rfl, h2, r2⟩ := trodAll_cons r1
 obtain ⟨rfl, rfl, rfl⟩ := trodAll_nil r2
 obtain rfl : args = #[v0, v1, v2] := by cases args; simp_all
 obtain ⟨rfl, rfl⟩ := trodVars_none hV
 have hfit : ∀ x ∈ DataW.weightsEach Tryz.prog [26, 39, 39] [d0, d1, d2], x ≤ 140737488351232 := fun x hx => by
  have := List.all_eq_true.1 (show (DataW.weightsEach Tryz.prog [26, 39, 39] [d0, d1, d2]).all (· ≤ reachBytes) = true from hsz) x hx
  exact Nat.le_trans (of_decide_eq_true this) (by decide)
 obtain ⟨f0, g0⟩ := fits_each hfit
 obtain ⟨f1, g1⟩ := fits_each g0
 obtain ⟨f2, g2⟩ := fits_each g1
 have k0 := h0
 have lt0 : ∀ x ∈ p0, x.block < W.heap.size := by obtain ⟨m, hm⟩ := k0; exact DataW.trod_lt m _ _ _ hm
 obtain ⟨t0, HI0⟩ := tree_of_trod (hval 0 26 v0 rfl rfl) h0 f0
 have k1 := h1
 have lt1 : ∀ x ∈ p1, x.block < W.heap.size := by obtain ⟨m, hm⟩ := k1; exact DataW.trod_lt m _ _ _ hm
 obtain ⟨a1, len1, cap1, rfl⟩ := okWide_slice Tryz.underlying39 (hval 1 39 v1 rfl rfl)
 obtain ⟨t1, HI1⟩ : ∃ l, IsInts W (.slice a1 len1 cap1) l := by
  obtain ⟨m, hm⟩ := h1
  exact ints_of_trod (by simpa [Value.cells] using hm) f1
 have k2 := h2
 have lt2 : ∀ x ∈ p2, x.block < W.heap.size := by obtain ⟨m, hm⟩ := k2; exact DataW.trod_lt m _ _ _ hm
 obtain ⟨a2, len2, cap2, rfl⟩ := okWide_slice Tryz.underlying39 (hval 2 39 v2 rfl rfl)
 obtain ⟨t2, HI2⟩ : ∃ l, IsInts W (.slice a2 len2 cap2) l := by
  obtain ⟨m, hm⟩ := h2
  exact ints_of_trod (by simpa [Value.cells] using hm) f2
 clear hA0 hval0 hsz0
 refine (faultChances_any _ _ _ _ _ _ _ HI0 HI1 HI2 (tab_of_laid hL)).mono fun e W' ⟨he, bel⟩ => ?_
 subst he
 exact ⟨_, rfl, _, _, _, [], _, [], hW', trodAll_mk1 (shut_bool Tryz.underlying4 _), (trodAll_cons_mk (Below.trod laidOut (by kernel_rfl) (of_decide_eq_true (by kernel_rfl)) k0 bel lt0) (trodAll_cons_mk (Below.trod laidOut (by kernel_rfl) (of_decide_eq_true (by kernel_rfl)) k1 bel lt1) (trodAll_cons_mk (Below.trod laidOut (by kernel_rfl) (of_decide_eq_true (by kernel_rfl)) k2 bel lt2) trodAll_mk0))), rfl, bel.frame _, fun h => by cases h⟩
theorem faultChances_holds : Rows.FaultChancesSaid :=
 OpenClaim.holds_of_wide 5 Tryz.f5 rfl rfl rfl rfl rfl rfl rfl ⟨rfl, rfl, rfl, rfl, rfl⟩ rfl rfl rfl rfl rfl (by kernel_rfl) Tryz.func5 (by kernel_rfl)
  (of_decide_eq_true (by kernel_rfl)) (by unfold Func.isWrapper; first | (rw [if_pos (by decide +kernel)]; kernel_rfl) | (rw [if_neg (by decide +kernel)]; exact ⟨rfl, rfl⟩))
  (fun os started H enc _ => faultChances_lifted os started H enc)
theorem faultChances_card : Rows.FaultChancesCardSaid :=
 Claim7.holds_tied_plain_at .later [] [.data, .data, .data] true _ false faultChances_holds (fun _ h => by cases h) (by kernel_rfl) (fun _ h => by cases h) faultChances_row_tie rfl ⟨rfl, rfl⟩ (by kernel_rfl) rfl
  (fun f fn hf hfn => by
   obtain rfl : f = 5 := Option.some.inj ((show Tryz.prog.funcNamed Rows.faultChancesRow.func = some 5 by kernel_rfl).symm.trans hf) |>.symm
   obtain rfl : fn = Tryz.f5 := (Option.some.inj (Tryz.func5.symm.trans hfn)).symm
   exact ⟨by kernel_rfl, fun j t ht => by
    rw [Tryz.params5] at ht
    have hm : t ∈ [26, 39, 39] := by simpa using Array.mem_of_getElem? ht
    have hall : ([26, 39, 39].all fun u => !Tryz.prog.wantsStandIn u) = true := by kernel_rfl
    exact (show Tryz.prog.wantsStandIn t = false by simpa using List.all_eq_true.1 hall t hm)⟩)
  (by kernel_rfl)
#print axioms faultChances_card
end Go.Proofs.YthfanledageoeaaGreatDoor
