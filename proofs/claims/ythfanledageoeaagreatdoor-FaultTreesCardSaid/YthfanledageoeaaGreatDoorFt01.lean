/- Contracts: the reference's Cuts, Paths, Single, CheckSet, CheckSets, contains, CheckCuts. The law FaultTrees: the call returns true. The law FaultTrees: for every input the call returns true, and each argument reads afterwards as before: the row's statement, and its tied card. The listed tables of math/bits and strconv are as the program's text lays them. -/
import Derived.Test.YthfanledageoeaaGreatDoorCb50
import Derived.WalkKit
import Derived.WalkSpells
import Derived.WalkLawsBesides
import Derived.Lib.Hide
import Derived.Below
import Derived.Carry
import Derived.Laws.AppendOwn
import Derived.Deep.DeepMust
import Derived.Deep.Light
import Derived.Test.YthfanledageoeaaGreatDoorProg
import Derived.Deep.QuietTactic
import Derived.BigQuiet
import Derived.Orders
import Derived.Deep.Draws
import Derived.Laws.StructEq
import Derived.IntWalk
import Derived.Laws.BitsLemmas
import Derived.Maps.OwnSet
import Derived.MapKept
import Derived.Shelf.Abstract
import Derived.OrdersIn
import Derived.RangeFuncCalls
import Derived.TacticsIn
import Derived.RangeFuncNested
import Derived.RangeFuncBound
import Derived.RangeFuncLeaves
import Derived.RangeFuncFrom
import Derived.Shelf.RegionOpen
import Derived.OwnWalkIn
import Derived.TacticsInMore
import Derived.LoopNIn
import Derived.LoopIn
import Derived.Ground.Names7Prog
import Derived.Ground.SlsfProg
import Derived.Shelf.Spec.TrailingZeros
import Derived.Shelf.SlSortCmp.Whole1
import Derived.Shelf.SlGeneric
import Derived.Shelf.Strings.Builder1
import Derived.Shelf.Strings.Builder2
import Derived.Shelf.Strings.OnBuilder
import Derived.Shelf.Small.Bits
import Derived.Shelf.Small.Wraps
import Derived.Shelf.Strings.BuilderF
import Derived.Shelf.Strings.BuilderK
import Derived.Shelf.Strings.Builder2Cap
import Derived.Shelf.Strconv.Itoa0
import Derived.Shelf.Strconv.Itoa1
import Derived.Shelf.LaysM
import Derived.Shelf.Strconv.Itoa2
import Derived.Shelf.Strconv.Itoa3
import Derived.Shelf.Strings.BuilderCap
import Derived.Shelf.Slices.Turned
import Derived.Ground.Names2Prog
import Derived.Shelf.Slices.Clone
import Derived.Shelf.Slices.SearchI
import Derived.Ground.SlgnProg
import Derived.Shelf.SlicesE.Clone
import Derived.ChangeKeysEq
import Derived.Laws.MakeOwn
import Derived.Deep.Slices
import Derived.Deep.Strs
import Derived.ProofKit
import Derived.SizedLaws
import Derived.Test.YthfanledageoeaaGreatDoorRows
import Derived.Test.YthfanledageoeaaGreatDoorTie
import Derived.Test.YthfanledageoeaaGreatDoorCards
import Derived.OpenShut
import Derived.LaidMore
import Derived.Lay
import Derived.Lib.LaidTab
import Derived.SevenTiedAt
import Derived.Stop.Joined
set_option linter.unusedVariables false
set_option linter.unusedSimpArgs false
set_option linter.constructorNameAsVariable false
namespace Go.Proofs
open Go.RowKit Go.Tw Go.Flow
set_option maxHeartbeats 400000 in
theorem CheckSet_any (w : World) (v u : Value) (t : Tree) (l : List Int) (ht : IsTree w v t) (hl : IsInts w u l) :
    Calls Tryz.prog 31 #[v, u] w fun e w' => e = .returned (.int .i64 (setErr l t.size)) ∧ Ext w w' := by
 obtain ⟨a, b, c, rfl, h3⟩ := ht
 have hw := Ext.box w (.cells #[a, b, c] 26)
 have HT := Lib.hid (h3.ext hw)
 have HL := Lib.hid (hl.ext hw)
 clear h3 hl
 go_enter Tryz.func31, Tryz.ntmps31
 go_wp2_with fail
 refine (Size_any _ _ t ⟨_, _, _, rfl, HT.out⟩).mono ?_
 rintro e w1 ⟨rfl, hx⟩
 go_wp2_with fail
 refine (checkSet_any _ _ l _ (HL.out.ext hx)).mono ?_
 rintro e w2 ⟨rfl, hx2⟩
 go_wp2
 go_ret
 exact ⟨rfl, (hw.trans hx).trans hx2⟩
end Go.Proofs
namespace Go.Proofs
open Go.RowKit Go.Tw Go.Flow
def sizeR (t : Tree) : Int := if t.err = 0 then t.size else 0
set_option maxRecDepth 100000 in
set_option maxHeartbeats 1000000 in
theorem pSize_any (w : World) (v : Value) (t : Tree) (ht : IsTree w v t) :
    Calls Tryz.prog 49 #[v] w fun e w' => e = .returned (.tuple #[.int .i64 (sizeR t), .int .i64 t.err]) ∧ Ext w w' := by
 obtain ⟨a, b, c, rfl, h3⟩ := ht
 obtain ⟨A, capa, rfl, hl1, hcap1, _⟩ := h3.basics.opened
 obtain ⟨B, capb, rfl, hl2, hcap2, _⟩ := h3.causes.opened
 obtain ⟨G, capg, rfl, hl3, hcap3, _⟩ := h3.gates.opened
 have HT0 := Lib.hid h3
 clear h3
 go_enter Tryz.func49, Tryz.ntmps49
 go_wp2_with fail
 change Calls _ _ _ (w.alloc (.cells #[.slice A t.basics.length capa, .slice B t.causes.length capb, .slice G t.gates.length capg] 37)) _
 have k0 := Blk.made w 37 #[.slice A t.basics.length capa, .slice B t.causes.length capb, .slice G t.gates.length capg]
 have x0 := Ext.box w (.cells #[.slice A t.basics.length capa, .slice B t.causes.length capb, .slice G t.gates.length capg] 37)
 have es0 : (w.alloc (.cells #[.slice A t.basics.length capa, .slice B t.causes.length capb, .slice G t.gates.length capg] 37)).heap.size = w.heap.size + 1 := by simp
 obtain ⟨X0, hX0⟩ : ∃ X, w.alloc (.cells #[.slice A t.basics.length capa, .slice B t.causes.length capb, .slice G t.gates.length capg] 37) = X := ⟨_, rfl⟩
 rw [hX0] at k0 x0 es0 ⊢
 clear hX0
 have e0 : X0.heap.size = w.heap.size + 1 := by omega
 have HXW : Hid (Ext w X0) := by exact (x0 : Ext w X0)
 have eW : X0.heap.size = w.heap.size + 1 := e0
 clear x0 es0 e0
 obtain ⟨W, hWW⟩ : ∃ W, X0 = W := ⟨_, rfl⟩
 rw [hWW] at HXW eW ⊢ k0
 clear hWW
 have HT := Lib.hid (HT0.out.ext HXW.out)
 refine (CheckTree_any _ _ t ⟨_, _, _, rfl, HT.out⟩).mono ?_
 rintro e w1 ⟨rfl, hx1⟩
 have kt := k0.ext hx1
 have c0 := kt.cell 0
 have c1 := kt.cell 1
 have c2 := kt.cell 2
 simp only [List.getElem?_toArray, List.getElem?_cons_zero, List.getElem?_cons_succ] at c0 c1 c2
 have HXX := Lib.hid (HXW.out.trans hx1)
 have HX1 := Lib.hid hx1
 clear kt hx1
 clear k0
 by_cases he : t.err = 0
 · have HR : Hid (sizeR t = (t.basics.length : Int) + t.causes.length) := by exact (by unfold sizeR Tree.size; rw [if_pos he, Int.natCast_add] : sizeR t = (t.basics.length : Int) + t.causes.length)
   have hne : (t.err != 0) = false := by simp [he]
   have HE := Lib.hid he
   have hw : IntKind.i64.wrap ((t.basics.length : Int) + (t.causes.length : Int)) = (t.basics.length : Int) + t.causes.length := wrap62 _ (by omega) (by omega)
   clear he
   go_wp2
   go_ret2
   exact ⟨by rw [HR.out, HE.out]; rfl, HXX.out⟩
 · have HR : Hid (sizeR t = 0) := by exact (by unfold sizeR; rw [if_neg he] : sizeR t = 0)
   have hne : (t.err != 0) = true := by simp [he]
   clear he
   go_wp2
   go_ret2
   exact ⟨by rw [HR.out]; rfl, HXX.out⟩
set_option maxRecDepth 100000 in
set_option maxHeartbeats 4000000 in
theorem faultTrees_any (w : World) (v u : Value) (t : Tree) (l : List Int) (ht : IsTree w v t) (hl : IsInts w u l) (hT : Tab w) :
    Calls Tryz.prog 8 #[v, u] w fun e w' => e = .returned (.bool true) ∧ Ext w w' := by
 obtain ⟨a, b, c, rfl, h3⟩ := ht
 obtain ⟨A, capa, rfl, hl1, hcap1, _⟩ := h3.basics.opened
 obtain ⟨B, capb, rfl, hl2, hcap2, _⟩ := h3.causes.opened
 obtain ⟨G, capg, rfl, hl3, hcap3, _⟩ := h3.gates.opened
 have HT0 := Lib.hid h3
 clear h3
 have HTAB := Lib.hid hT
 clear hT
 have HLl := Lib.hid hl
 obtain ⟨Al, capl, rfl, hll, _, _⟩ := hl.opened
 clear hl
 go_enter Tryz.func8, Tryz.ntmps8
 go_wp2_with fail
 change Calls _ _ _ (w.alloc (.cells #[.slice A t.basics.length capa, .slice B t.causes.length capb, .slice G t.gates.length capg] 26)) _
 have k0 := Blk.made w 26 #[.slice A t.basics.length capa, .slice B t.causes.length capb, .slice G t.gates.length capg]
 have x0 := Ext.box w (.cells #[.slice A t.basics.length capa, .slice B t.causes.length capb, .slice G t.gates.length capg] 26)
 have es0 : (w.alloc (.cells #[.slice A t.basics.length capa, .slice B t.causes.length capb, .slice G t.gates.length capg] 26)).heap.size = w.heap.size + 1 := by simp
 obtain ⟨X0, hX0⟩ : ∃ X, w.alloc (.cells #[.slice A t.basics.length capa, .slice B t.causes.length capb, .slice G t.gates.length capg] 26) = X := ⟨_, rfl⟩
 rw [hX0] at k0 x0 es0 ⊢
 clear hX0
 have e0 : X0.heap.size = w.heap.size + 1 := by omega
 have HXW : Hid (Ext w X0) := by exact (x0 : Ext w X0)
 have eW : X0.heap.size = w.heap.size + 1 := e0
 clear x0 es0 e0
 obtain ⟨W, hWW⟩ : ∃ W, X0 = W := ⟨_, rfl⟩
 rw [hWW] at HXW eW ⊢ k0
 clear hWW
 have HT := Lib.hid (HT0.out.ext HXW.out)
 have K0 := Lib.hid k0
 replace HTAB := Lib.hid (HTAB.out.ext HXW.out)
 replace HLl := Lib.hid (HLl.out.ext HXW.out)
 have HW0 := Lib.hid HXW.out
 have HX := Lib.hid (Ext.refl W)
 have c0 := k0.cell 0
 have c1 := k0.cell 1
 have c2 := k0.cell 2
 simp only [List.getElem?_toArray, List.getElem?_cons_zero, List.getElem?_cons_succ] at c0 c1 c2
 clear k0 HXW
 skip
 refine (awake_any _ HTAB.out).mono ?_
 rintro e w1 ⟨rfl, hx⟩
 have hxx : Ext W w1 := hx
 replace HX := Lib.hid (HX.out.trans hxx)
 replace HT := Lib.hid (HT.out.ext hxx)
 replace c0 := hxx.cell c0
 replace c1 := hxx.cell c1
 replace c2 := hxx.cell c2
 replace HTAB := Lib.hid (HTAB.out.ext hxx)
 replace K0 := Lib.hid (K0.out.ext hxx)
 replace HLl := Lib.hid (HLl.out.ext hxx)
 clear hx hxx
 go_wp2_with fail
 refine (short_any _ _ t 8 ⟨_, _, _, rfl, HT.out⟩ (by omega)).mono ?_
 rintro e w2 ⟨q, rfl, hq, hx⟩
 have hxx : Ext w1 w2 := hx
 replace HX := Lib.hid (HX.out.trans hxx)
 replace HT := Lib.hid (HT.out.ext hxx)
 replace c0 := hxx.cell c0
 replace c1 := hxx.cell c1
 replace c2 := hxx.cell c2
 replace HTAB := Lib.hid (HTAB.out.ext hxx)
 replace K0 := Lib.hid (K0.out.ext hxx)
 replace HLl := Lib.hid (HLl.out.ext hxx)
 clear hx hxx
 cases q with
 | false =>
   clear hq
   clear c0 c1 c2
   go_wp2_with fail
   refine (awake_any _ HTAB.out).mono ?_
   rintro e w3 ⟨rfl, hx⟩
   have hxx : Ext w2 w3 := hx
   replace HX := Lib.hid (HX.out.trans hxx)
   replace HT := Lib.hid (HT.out.ext hxx)
   replace HTAB := Lib.hid (HTAB.out.ext hxx)
   replace K0 := Lib.hid (K0.out.ext hxx)
   replace HLl := Lib.hid (HLl.out.ext hxx)
   clear hx hxx
   go_wp2
   go_ret
   exact ⟨rfl, HW0.out.trans HX.out⟩
 | true =>
   have HF := Lib.hid ((hq rfl).few (by omega))
   clear hq
   by_cases hnl : 14 < l.length
   · clear HF
     clear c0 c1 c2
     go_wp2_with fail
     refine (awake_any _ HTAB.out).mono ?_
     rintro e w3 ⟨rfl, hx⟩
     have hxx : Ext w2 w3 := hx
     replace HX := Lib.hid (HX.out.trans hxx)
     replace HT := Lib.hid (HT.out.ext hxx)
     replace HTAB := Lib.hid (HTAB.out.ext hxx)
     replace K0 := Lib.hid (K0.out.ext hxx)
     replace HLl := Lib.hid (HLl.out.ext hxx)
     clear hx hxx
     go_wp2
     go_ret
     exact ⟨rfl, HW0.out.trans HX.out⟩
   · have HE := Lib.hid (rfl : t.err = t.err)
     obtain ⟨E, hE⟩ : ∃ E, t.err = E := ⟨_, rfl⟩
     replace HE := Lib.hid hE
     clear hE
     obtain ⟨S, hS⟩ : ∃ S, treeSetErr t l = S := ⟨_, rfl⟩
     have HS := Lib.hid hS
     clear hS
     go_wp2_with fail
     refine (own_any _ _ t ⟨_, _, _, rfl, HT.out⟩ HF.out).mono ?_
     rintro e w3 ⟨uu, rfl, hu, hx⟩
     have hxx : Ext w2 w3 := hx
     replace HX := Lib.hid (HX.out.trans hxx)
     replace HT := Lib.hid (HT.out.ext hxx)
     replace c0 := hxx.cell c0
     replace c1 := hxx.cell c1
     replace c2 := hxx.cell c2
     replace HTAB := Lib.hid (HTAB.out.ext hxx)
     replace K0 := Lib.hid (K0.out.ext hxx)
     replace HLl := Lib.hid (HLl.out.ext hxx)
     have HU := Lib.hid (hu)
     clear hx hxx
     clear hu
     go_wp2_with fail
     refine (pSize_any _ _ t HU.out).mono ?_
     rintro e w4 ⟨rfl, hx⟩
     have hxx : Ext w3 w4 := hx
     replace HX := Lib.hid (HX.out.trans hxx)
     replace HT := Lib.hid (HT.out.ext hxx)
     replace c0 := hxx.cell c0
     replace c1 := hxx.cell c1
     replace c2 := hxx.cell c2
     replace HTAB := Lib.hid (HTAB.out.ext hxx)
     replace K0 := Lib.hid (K0.out.ext hxx)
     replace HLl := Lib.hid (HLl.out.ext hxx)
     replace HU := Lib.hid (HU.out.ext hxx)
     clear hx hxx
     rw [HE.out]
     clear HU
     go_wp2_with fail
     refine (own_any _ _ t ⟨_, _, _, rfl, HT.out⟩ HF.out).mono ?_
     rintro e w5 ⟨uu, rfl, hu, hx⟩
     have hxx : Ext w4 w5 := hx
     replace HX := Lib.hid (HX.out.trans hxx)
     replace HT := Lib.hid (HT.out.ext hxx)
     replace c0 := hxx.cell c0
     replace c1 := hxx.cell c1
     replace c2 := hxx.cell c2
     replace HTAB := Lib.hid (HTAB.out.ext hxx)
     replace K0 := Lib.hid (K0.out.ext hxx)
     replace HLl := Lib.hid (HLl.out.ext hxx)
     have HU := Lib.hid (hu)
     clear hx hxx
     clear hu
     go_wp2_with fail
     refine (lints_any _ _ l HLl.out (by omega)).mono ?_
     rintro e w6 ⟨vl, rfl, hv, hx⟩
     have hxx : Ext w5 w6 := hx
     replace HX := Lib.hid (HX.out.trans hxx)
     replace HT := Lib.hid (HT.out.ext hxx)
     replace c0 := hxx.cell c0
     replace c1 := hxx.cell c1
     replace c2 := hxx.cell c2
     replace HTAB := Lib.hid (HTAB.out.ext hxx)
     replace K0 := Lib.hid (K0.out.ext hxx)
     replace HLl := Lib.hid (HLl.out.ext hxx)
     replace HU := Lib.hid (HU.out.ext hxx)
     have HV1 := Lib.hid (hv.ints (by omega))
     clear hx hxx
     clear hv
     go_wp2_with fail
     refine (pFails_any _ _ _ t l HU.out HV1.out).mono ?_
     rintro e w7 ⟨rfl, hx⟩
     have hxx : Ext w6 w7 := hx
     replace HX := Lib.hid (HX.out.trans hxx)
     replace HT := Lib.hid (HT.out.ext hxx)
     replace c0 := hxx.cell c0
     replace c1 := hxx.cell c1
     replace c2 := hxx.cell c2
     clear HV1
     replace HTAB := Lib.hid (HTAB.out.ext hxx)
     replace K0 := Lib.hid (K0.out.ext hxx)
     replace HLl := Lib.hid (HLl.out.ext hxx)
     replace HU := Lib.hid (HU.out.ext hxx)
     clear hx hxx
     rw [HS.out]
     clear HU
     go_wp2_with fail
     refine (own_any _ _ t ⟨_, _, _, rfl, HT.out⟩ HF.out).mono ?_
     rintro e w8 ⟨uu, rfl, hu, hx⟩
     have hxx : Ext w7 w8 := hx
     replace HX := Lib.hid (HX.out.trans hxx)
     replace HT := Lib.hid (HT.out.ext hxx)
     replace c0 := hxx.cell c0
     replace c1 := hxx.cell c1
     replace c2 := hxx.cell c2
     replace HTAB := Lib.hid (HTAB.out.ext hxx)
     replace K0 := Lib.hid (K0.out.ext hxx)
     replace HLl := Lib.hid (HLl.out.ext hxx)
     have HU := Lib.hid (hu)
     clear hx hxx
     clear hu
     go_wp2_with fail
     refine (lints_any _ _ l HLl.out (by omega)).mono ?_
     rintro e w9 ⟨vl2, rfl, hv, hx⟩
     have hxx : Ext w8 w9 := hx
     replace HX := Lib.hid (HX.out.trans hxx)
     replace HT := Lib.hid (HT.out.ext hxx)
     replace c0 := hxx.cell c0
     replace c1 := hxx.cell c1
     replace c2 := hxx.cell c2
     replace HTAB := Lib.hid (HTAB.out.ext hxx)
     replace K0 := Lib.hid (K0.out.ext hxx)
     replace HLl := Lib.hid (HLl.out.ext hxx)
     replace HU := Lib.hid (HU.out.ext hxx)
     have HV2 := Lib.hid (hv.ints (by omega))
     clear hx hxx
     clear hv
     go_wp2_with fail
     refine (pStates_any _ _ _ t l HU.out HV2.out).mono ?_
     rintro e w10 ⟨xs, rfl, hs, hx⟩
     have hxx : Ext w9 w10 := hx
     replace HX := Lib.hid (HX.out.trans hxx)
     replace HT := Lib.hid (HT.out.ext hxx)
     replace c0 := hxx.cell c0
     replace c1 := hxx.cell c1
     replace c2 := hxx.cell c2
     clear HV2
     replace HTAB := Lib.hid (HTAB.out.ext hxx)
     replace K0 := Lib.hid (K0.out.ext hxx)
     replace HLl := Lib.hid (HLl.out.ext hxx)
     replace HU := Lib.hid (HU.out.ext hxx)
     have HST := Lib.hid (hs)
     clear hx hxx
     rw [HS.out]
     clear hs
     clear HU
     go_wp2_with fail
     refine (rCheckTree_any _ _ t ⟨_, _, _, rfl, HT.out⟩).mono ?_
     rintro e w11 ⟨rfl, hx⟩
     have hxx : Ext w10 w11 := hx
     replace HX := Lib.hid (HX.out.trans hxx)
     replace HT := Lib.hid (HT.out.ext hxx)
     replace c0 := hxx.cell c0
     replace c1 := hxx.cell c1
     replace c2 := hxx.cell c2
     replace HTAB := Lib.hid (HTAB.out.ext hxx)
     replace K0 := Lib.hid (K0.out.ext hxx)
     replace HLl := Lib.hid (HLl.out.ext hxx)
     replace HST := Lib.hid (HST.out.ext hxx)
     clear hx hxx
     rw [HE.out]
     have hEE : (E == E) = true := by simp
     have hSS : (S == S) = true := by simp
     have HN0 : Hid (E = 0 → sizeR t = t.size) := by exact (fun h => by unfold sizeR; rw [HE.out, if_pos h] : E = 0 → sizeR t = t.size)
     have HN1 : Hid (E ≠ 0 → sizeR t = 0) := by exact (fun h => by unfold sizeR; rw [HE.out, if_neg h] : E ≠ 0 → sizeR t = 0)
     by_cases he : E = 0
     · have HSE : Hid (S = setErr l t.size) := by exact (by rw [← HS.out]; unfold treeSetErr; rw [HE.out, if_pos he] : S = setErr l t.size)
       have hne : (E == 0) = true := by simp [he]
       have HV := Lib.hid (Valid.of (HE.out.trans he))
       clear he
       go_wp2_with fail
       refine (CheckSet_any _ _ _ t l ⟨_, _, _, rfl, HT.out⟩ HLl.out).mono ?_
       rintro e w12 ⟨rfl, hx⟩
       have hxx : Ext w11 w12 := hx
       replace HX := Lib.hid (HX.out.trans hxx)
       replace HT := Lib.hid (HT.out.ext hxx)
       replace c0 := hxx.cell c0
       replace c1 := hxx.cell c1
       replace c2 := hxx.cell c2
       replace HTAB := Lib.hid (HTAB.out.ext hxx)
       replace K0 := Lib.hid (K0.out.ext hxx)
       replace HLl := Lib.hid (HLl.out.ext hxx)
       replace HST := Lib.hid (HST.out.ext hxx)
       clear hx hxx
       rw [← HSE.out]
       by_cases hs0 : S = 0
       · have hns : (S == 0) = true := by simp [hs0]
         have HFL : Hid (failsR t l = t.fails (evL l)) := by exact (by unfold failsR; rw [HS.out, if_pos hs0] : failsR t l = t.fails (evL l))
         have HB : Hid (decide (statesR t l = t.states (evL l)) = true) := by exact (by unfold statesR; rw [HS.out, if_pos hs0]; simp : decide (statesR t l = t.states (evL l)) = true)
         obtain ⟨f, hf⟩ : ∃ f, t.fails (evL l) = f := ⟨_, rfl⟩
         have HFF := Lib.hid hf
         rw [HFL.out, hf]
         clear hs0 hf
         have hsz := HV.out.size
         have hdr := (Ext.refl w12).drew
         clear c0 c1 c2
         go_wp2
         refine Flow.regionB0 [.world, .plain, .world, .world, .plain, .world, .plain, .plain] [0, 1, 2, 3, 4, 5, 6, 7] [[], [], [0, 1], [], [], [0, 1, 2, 3, 4], [0, 1, 2, 3, 4, 5], [0, 1, 2, 3, 4, 5, 6]]
          [.is 0 (fun v => .agg #[.slice A t.basics.length capa, .slice B t.causes.length capb, .slice G t.gates.length capg]), .is 1 (fun v => .slice Al l.length capl), .is 2 (fun v => .bool f), .is 3 (fun v => .agg #[.slice A t.basics.length capa, .slice B t.causes.length capb, .slice G t.gates.length capg]), .is 4 (fun v => .slice Al l.length capl), ⟨fun v wz => IsBools wz (v 5) (t.states (evL l)), fun _ _ _ hx h => h.ext hx⟩, .is 6 (fun v => .bool f), .is 7 (fun v => v 5)]
          (by kernel_rfl) rfl (by kernel_rfl) ⟨?g0, ?g1, ?g2, ?g3, ?g4, ?g5, ?g6, ?g7, trivial⟩ ?post
         case g0 =>
          intro v w1 hx
          intro bb hbb
          intro K hK
          have o1 : bb.eval (.tmp 2) = .pointer (some ⟨w.heap.size, 0, none⟩) := by rw [hbb]; dsimp only; (try simp (discharger := decide) only [eval_put_ne]); rfl
          exact gives_load_blk (.tmp 2) _ rfl Tryz.aggRTree Tryz.sizeRTree o1 (K0.out.ext (hdr.trans hx)) rfl (hK _ _ (Ext.refl _) rfl)
         case g1 =>
          intro v w1 hx
          intro bb hbb
          subst hbb
          refine ⟨_, fun w => ?_, rfl⟩
          go_simp
         case g2 =>
          intro v w1 hx (q0 : v 0 = .agg #[.slice A t.basics.length capa, .slice B t.causes.length capb, .slice G t.gates.length capg]) (q1 : v 1 = .slice Al l.length capl)
          intro bb hbb
          subst hbb
          intro K hK
          go_simp
          refine gives_call ((by rw [← HFF.out]; exact Fails_any w1 _ _ t l HV.out.fit HV.out.nodes ⟨_, _, _, rfl, HT.out.ext (hdr.trans hx)⟩ (HLl.out.ext (hdr.trans hx)) : Calls Tryz.prog 52 #[.agg #[.slice A t.basics.length capa, .slice B t.causes.length capb, .slice G t.gates.length capg], .slice Al l.length capl] w1 fun e w' => e = .returned (.bool f) ∧ Ext w1 w')) ?_
          rintro e w2 ⟨rfl, hx2⟩
          exact ⟨_, rfl, hK _ _ hx2 rfl⟩
         case g3 =>
          intro v w1 hx
          intro bb hbb
          intro K hK
          have o1 : bb.eval (.tmp 2) = .pointer (some ⟨w.heap.size, 0, none⟩) := by rw [hbb]; dsimp only; (try simp (discharger := decide) only [eval_put_ne]); rfl
          exact gives_load_blk (.tmp 2) _ rfl Tryz.aggRTree Tryz.sizeRTree o1 (K0.out.ext (hdr.trans hx)) rfl (hK _ _ (Ext.refl _) rfl)
         case g4 =>
          intro v w1 hx
          intro bb hbb
          subst hbb
          refine ⟨_, fun w => ?_, rfl⟩
          go_simp
         case g5 =>
          intro v w1 hx (q0 : v 0 = .agg #[.slice A t.basics.length capa, .slice B t.causes.length capb, .slice G t.gates.length capg]) (q1 : v 1 = .slice Al l.length capl) (q2 : v 2 = .bool f) (q3 : v 3 = .agg #[.slice A t.basics.length capa, .slice B t.causes.length capb, .slice G t.gates.length capg]) (q4 : v 4 = .slice Al l.length capl)
          intro bb hbb
          subst hbb
          intro K hK
          go_simp
          refine gives_call (States_any w1 _ _ t l HV.out.fit ⟨_, _, _, rfl, HT.out.ext (hdr.trans hx)⟩ (HLl.out.ext (hdr.trans hx))) ?_
          rintro e w2 ⟨x, rfl, h, hx2⟩
          exact ⟨_, rfl, hK _ _ hx2 h⟩
         case g6 =>
          intro v w1 hx (q0 : v 0 = .agg #[.slice A t.basics.length capa, .slice B t.causes.length capb, .slice G t.gates.length capg]) (q1 : v 1 = .slice Al l.length capl) (q2 : v 2 = .bool f) (q3 : v 3 = .agg #[.slice A t.basics.length capa, .slice B t.causes.length capb, .slice G t.gates.length capg]) (q4 : v 4 = .slice Al l.length capl) (q5 : IsBools w1 (v 5) (t.states (evL l)))
          intro bb hbb
          subst hbb
          refine ⟨_, fun w => ?_, rfl⟩
          go_simp
         case g7 =>
          intro v w1 hx (q0 : v 0 = .agg #[.slice A t.basics.length capa, .slice B t.causes.length capb, .slice G t.gates.length capg]) (q1 : v 1 = .slice Al l.length capl) (q2 : v 2 = .bool f) (q3 : v 3 = .agg #[.slice A t.basics.length capa, .slice B t.causes.length capb, .slice G t.gates.length capg]) (q4 : v 4 = .slice Al l.length capl) (q5 : IsBools w1 (v 5) (t.states (evL l))) (q6 : v 6 = .bool f)
          intro bb hbb
          subst hbb
          refine ⟨_, fun w => ?_, rfl⟩
          go_simp
         case post =>
          intro v w1 hx (q0 : v 0 = .agg #[.slice A t.basics.length capa, .slice B t.causes.length capb, .slice G t.gates.length capg]) (q1 : v 1 = .slice Al l.length capl) (q2 : v 2 = .bool f) (q3 : v 3 = .agg #[.slice A t.basics.length capa, .slice B t.causes.length capb, .slice G t.gates.length capg]) (q4 : v 4 = .slice Al l.length capl) (q5 : IsBools w1 (v 5) (t.states (evL l))) (q6 : v 6 = .bool f) (q7 : v 7 = v 5)
          simp only [Flow.All, Flow.acts, Act.put]
          go_simp
          have hxx := hdr.trans hx
          replace HX := Lib.hid (HX.out.trans hxx)
          replace HT := Lib.hid (HT.out.ext hxx)
          replace HTAB := Lib.hid (HTAB.out.ext hxx)
          replace K0 := Lib.hid (K0.out.ext hxx)
          replace HLl := Lib.hid (HLl.out.ext hxx)
          replace HST := Lib.hid (HST.out.ext hxx)
          have Q5 := Lib.hid q5
          have c0 := K0.out.cell 0
          have c1 := K0.out.cell 1
          have c2 := K0.out.cell 2
          simp only [List.getElem?_toArray, List.getElem?_cons_zero, List.getElem?_cons_succ] at c0 c1 c2
          clear hxx hx q0 q1 q2 q3 q4 q5 q6 q7
          obtain ⟨w13, hww⟩ : ∃ X, w1 = X := ⟨_, rfl⟩
          rw [hww] at HX HT c0 c1 c2 Q5 HTAB K0 HLl HST ⊢
          clear hww
          go_wp2_with fail
          refine (own_any _ _ t ⟨_, _, _, rfl, HT.out⟩ HF.out).mono ?_
          rintro e w14 ⟨uu, rfl, hu, hx⟩
          have hxx : Ext w13 w14 := hx
          replace HX := Lib.hid (HX.out.trans hxx)
          replace HT := Lib.hid (HT.out.ext hxx)
          replace c0 := hxx.cell c0
          replace c1 := hxx.cell c1
          replace c2 := hxx.cell c2
          replace HTAB := Lib.hid (HTAB.out.ext hxx)
          replace K0 := Lib.hid (K0.out.ext hxx)
          replace HLl := Lib.hid (HLl.out.ext hxx)
          replace HST := Lib.hid (HST.out.ext hxx)
          replace Q5 := Lib.hid (Q5.out.ext hxx)
          have HU := Lib.hid (hu)
          clear hx hxx
          clear hu
          go_wp2_with fail
          refine (CheckTree_any _ _ t HU.out).mono ?_
          rintro e w15 ⟨rfl, hx⟩
          have hxx : Ext w14 w15 := hx
          replace HX := Lib.hid (HX.out.trans hxx)
          replace HT := Lib.hid (HT.out.ext hxx)
          replace c0 := hxx.cell c0
          replace c1 := hxx.cell c1
          replace c2 := hxx.cell c2
          replace HTAB := Lib.hid (HTAB.out.ext hxx)
          replace K0 := Lib.hid (K0.out.ext hxx)
          replace HLl := Lib.hid (HLl.out.ext hxx)
          replace HST := Lib.hid (HST.out.ext hxx)
          replace Q5 := Lib.hid (Q5.out.ext hxx)
          replace HU := Lib.hid (HU.out.ext hxx)
          clear hx hxx
          rw [HE.out]
          clear HU
          go_wp2_with fail
          refine (Size_any _ _ t ⟨_, _, _, rfl, HT.out⟩).mono ?_
          rintro e w16 ⟨rfl, hx⟩
          have hxx : Ext w15 w16 := hx
          replace HX := Lib.hid (HX.out.trans hxx)
          replace HT := Lib.hid (HT.out.ext hxx)
          replace c0 := hxx.cell c0
          replace c1 := hxx.cell c1
          replace c2 := hxx.cell c2
          replace HTAB := Lib.hid (HTAB.out.ext hxx)
          replace K0 := Lib.hid (K0.out.ext hxx)
          replace HLl := Lib.hid (HLl.out.ext hxx)
          replace HST := Lib.hid (HST.out.ext hxx)
          replace Q5 := Lib.hid (Q5.out.ext hxx)
          clear hx hxx
          go_wp2_with fail
          refine (number_ok _ E (sizeR t) t.size HN0.out HN1.out).mono ?_
          rintro e w17 ⟨rfl, hx⟩
          have hxx : Ext w16 w17 := hx
          replace HX := Lib.hid (HX.out.trans hxx)
          replace HT := Lib.hid (HT.out.ext hxx)
          replace c0 := hxx.cell c0
          replace c1 := hxx.cell c1
          replace c2 := hxx.cell c2
          replace HTAB := Lib.hid (HTAB.out.ext hxx)
          replace K0 := Lib.hid (K0.out.ext hxx)
          replace HLl := Lib.hid (HLl.out.ext hxx)
          replace HST := Lib.hid (HST.out.ext hxx)
          replace Q5 := Lib.hid (Q5.out.ext hxx)
          clear hx hxx
          have hff : (f == f) = true := by simp
          go_wp2_with fail
          refine (sameBools_any _ _ _ _ _ HST.out Q5.out).mono ?_
          rintro e w18 ⟨rfl, hx⟩
          have hxx : Ext w17 w18 := hx
          replace HX := Lib.hid (HX.out.trans hxx)
          replace HT := Lib.hid (HT.out.ext hxx)
          replace c0 := hxx.cell c0
          replace c1 := hxx.cell c1
          replace c2 := hxx.cell c2
          replace HTAB := Lib.hid (HTAB.out.ext hxx)
          replace K0 := Lib.hid (K0.out.ext hxx)
          replace HLl := Lib.hid (HLl.out.ext hxx)
          replace HST := Lib.hid (HST.out.ext hxx)
          replace Q5 := Lib.hid (Q5.out.ext hxx)
          clear hx hxx
          rw [HB.out]
          go_wp2
          go_ret
          exact ⟨rfl, HW0.out.trans HX.out⟩
       · have hns : (S == 0) = false := by simp [hs0]
         have HFL : Hid (failsR t l = false) := by exact (by unfold failsR; rw [HS.out, if_neg hs0] : failsR t l = false)
         have HB : Hid (decide (statesR t l = []) = true) := by exact (by unfold statesR; rw [HS.out, if_neg hs0]; simp : decide (statesR t l = []) = true)
         rw [HFL.out]
         clear hs0
         go_wp2_with fail
         refine (own_any _ _ t ⟨_, _, _, rfl, HT.out⟩ HF.out).mono ?_
         rintro e w13 ⟨uu, rfl, hu, hx⟩
         have hxx : Ext w12 w13 := hx
         replace HX := Lib.hid (HX.out.trans hxx)
         replace HT := Lib.hid (HT.out.ext hxx)
         replace c0 := hxx.cell c0
         replace c1 := hxx.cell c1
         replace c2 := hxx.cell c2
         replace HTAB := Lib.hid (HTAB.out.ext hxx)
         replace K0 := Lib.hid (K0.out.ext hxx)
         replace HLl := Lib.hid (HLl.out.ext hxx)
         replace HST := Lib.hid (HST.out.ext hxx)
         have HU := Lib.hid (hu)
         clear hx hxx
         clear hu
         go_wp2_with fail
         refine (CheckTree_any _ _ t HU.out).mono ?_
         rintro e w14 ⟨rfl, hx⟩
         have hxx : Ext w13 w14 := hx
         replace HX := Lib.hid (HX.out.trans hxx)
         replace HT := Lib.hid (HT.out.ext hxx)
         replace c0 := hxx.cell c0
         replace c1 := hxx.cell c1
         replace c2 := hxx.cell c2
         replace HTAB := Lib.hid (HTAB.out.ext hxx)
         replace K0 := Lib.hid (K0.out.ext hxx)
         replace HLl := Lib.hid (HLl.out.ext hxx)
         replace HST := Lib.hid (HST.out.ext hxx)
         replace HU := Lib.hid (HU.out.ext hxx)
         clear hx hxx
         rw [HE.out]
         clear HU
         go_wp2_with fail
         refine (Size_any _ _ t ⟨_, _, _, rfl, HT.out⟩).mono ?_
         rintro e w15 ⟨rfl, hx⟩
         have hxx : Ext w14 w15 := hx
         replace HX := Lib.hid (HX.out.trans hxx)
         replace HT := Lib.hid (HT.out.ext hxx)
         replace c0 := hxx.cell c0
         replace c1 := hxx.cell c1
         replace c2 := hxx.cell c2
         replace HTAB := Lib.hid (HTAB.out.ext hxx)
         replace K0 := Lib.hid (K0.out.ext hxx)
         replace HLl := Lib.hid (HLl.out.ext hxx)
         replace HST := Lib.hid (HST.out.ext hxx)
         clear hx hxx
         go_wp2_with fail
         refine (number_ok _ E (sizeR t) t.size HN0.out HN1.out).mono ?_
         rintro e w16 ⟨rfl, hx⟩
         have hxx : Ext w15 w16 := hx
         replace HX := Lib.hid (HX.out.trans hxx)
         replace HT := Lib.hid (HT.out.ext hxx)
         replace c0 := hxx.cell c0
         replace c1 := hxx.cell c1
         replace c2 := hxx.cell c2
         replace HTAB := Lib.hid (HTAB.out.ext hxx)
         replace K0 := Lib.hid (K0.out.ext hxx)
         replace HLl := Lib.hid (HLl.out.ext hxx)
         replace HST := Lib.hid (HST.out.ext hxx)
         clear hx hxx
         go_wp2_with fail
         refine (sameBools_any _ _ _ _ _ HST.out (nil_bools _)).mono ?_
         rintro e w17 ⟨rfl, hx⟩
         have hxx : Ext w16 w17 := hx
         replace HX := Lib.hid (HX.out.trans hxx)
         replace HT := Lib.hid (HT.out.ext hxx)
         replace c0 := hxx.cell c0
         replace c1 := hxx.cell c1
         replace c2 := hxx.cell c2
         replace HTAB := Lib.hid (HTAB.out.ext hxx)
         replace K0 := Lib.hid (K0.out.ext hxx)
         replace HLl := Lib.hid (HLl.out.ext hxx)
         replace HST := Lib.hid (HST.out.ext hxx)
         clear hx hxx
         rw [HB.out]
         go_wp2
         go_ret
         exact ⟨rfl, HW0.out.trans HX.out⟩
     · have HSE : Hid (S = E) := by exact (by rw [← HS.out]; unfold treeSetErr; rw [HE.out, if_neg he] : S = E)
       have hne : (E == 0) = false := by simp [he]
       have HFL : Hid (failsR t l = false) := by exact (by unfold failsR; rw [HS.out, HSE.out, if_neg he] : failsR t l = false)
       have HB : Hid (decide (statesR t l = []) = true) := by exact (by unfold statesR; rw [HS.out, HSE.out, if_neg he]; simp : decide (statesR t l = []) = true)
       have hse : (S == E) = true := by rw [HSE.out]; simp
       rw [HFL.out]
       clear he
       go_wp2_with fail
       refine (own_any _ _ t ⟨_, _, _, rfl, HT.out⟩ HF.out).mono ?_
       rintro e w12 ⟨uu, rfl, hu, hx⟩
       have hxx : Ext w11 w12 := hx
       replace HX := Lib.hid (HX.out.trans hxx)
       replace HT := Lib.hid (HT.out.ext hxx)
       replace c0 := hxx.cell c0
       replace c1 := hxx.cell c1
       replace c2 := hxx.cell c2
       replace HTAB := Lib.hid (HTAB.out.ext hxx)
       replace K0 := Lib.hid (K0.out.ext hxx)
       replace HLl := Lib.hid (HLl.out.ext hxx)
       replace HST := Lib.hid (HST.out.ext hxx)
       have HU := Lib.hid (hu)
       clear hx hxx
       clear hu
       go_wp2_with fail
       refine (CheckTree_any _ _ t HU.out).mono ?_
       rintro e w13 ⟨rfl, hx⟩
       have hxx : Ext w12 w13 := hx
       replace HX := Lib.hid (HX.out.trans hxx)
       replace HT := Lib.hid (HT.out.ext hxx)
       replace c0 := hxx.cell c0
       replace c1 := hxx.cell c1
       replace c2 := hxx.cell c2
       replace HTAB := Lib.hid (HTAB.out.ext hxx)
       replace K0 := Lib.hid (K0.out.ext hxx)
       replace HLl := Lib.hid (HLl.out.ext hxx)
       replace HST := Lib.hid (HST.out.ext hxx)
       replace HU := Lib.hid (HU.out.ext hxx)
       clear hx hxx
       rw [HE.out]
       clear HU
       go_wp2_with fail
       refine (Size_any _ _ t ⟨_, _, _, rfl, HT.out⟩).mono ?_
       rintro e w14 ⟨rfl, hx⟩
       have hxx : Ext w13 w14 := hx
       replace HX := Lib.hid (HX.out.trans hxx)
       replace HT := Lib.hid (HT.out.ext hxx)
       replace c0 := hxx.cell c0
       replace c1 := hxx.cell c1
       replace c2 := hxx.cell c2
       replace HTAB := Lib.hid (HTAB.out.ext hxx)
       replace K0 := Lib.hid (K0.out.ext hxx)
       replace HLl := Lib.hid (HLl.out.ext hxx)
       replace HST := Lib.hid (HST.out.ext hxx)
       clear hx hxx
       go_wp2_with fail
       refine (number_ok _ E (sizeR t) t.size HN0.out HN1.out).mono ?_
       rintro e w15 ⟨rfl, hx⟩
       have hxx : Ext w14 w15 := hx
       replace HX := Lib.hid (HX.out.trans hxx)
       replace HT := Lib.hid (HT.out.ext hxx)
       replace c0 := hxx.cell c0
       replace c1 := hxx.cell c1
       replace c2 := hxx.cell c2
       replace HTAB := Lib.hid (HTAB.out.ext hxx)
       replace K0 := Lib.hid (K0.out.ext hxx)
       replace HLl := Lib.hid (HLl.out.ext hxx)
       replace HST := Lib.hid (HST.out.ext hxx)
       clear hx hxx
       go_wp2_with fail
       refine (sameBools_any _ _ _ _ _ HST.out (nil_bools _)).mono ?_
       rintro e w16 ⟨rfl, hx⟩
       have hxx : Ext w15 w16 := hx
       replace HX := Lib.hid (HX.out.trans hxx)
       replace HT := Lib.hid (HT.out.ext hxx)
       replace c0 := hxx.cell c0
       replace c1 := hxx.cell c1
       replace c2 := hxx.cell c2
       replace HTAB := Lib.hid (HTAB.out.ext hxx)
       replace K0 := Lib.hid (K0.out.ext hxx)
       replace HLl := Lib.hid (HLl.out.ext hxx)
       replace HST := Lib.hid (HST.out.ext hxx)
       clear hx hxx
       rw [HB.out]
       go_wp2
       go_ret
       exact ⟨rfl, HW0.out.trans HX.out⟩
end Go.Proofs
namespace Go.Proofs.YthfanledageoeaaGreatDoor
open Go.ChangeShapes Go.WideShapes Go.ChangeAt Go.RowKit Go.Tw
set_option maxRecDepth 100000 in
theorem faultTrees_lifted (os : Os) (started : os.Started) (H : Type) (enc : TypeId × Value → H) :
    ReturnsInHanded {} Tryz.checked os 8 .any (fun w args => (Rows.faultTreesSpec.pre enc Tryz.prog Tryz.f8 Rows.faultTreesRow.domain false w args ∧ laidMetH Tryz.prog laidL w) ∧ sizedMet enc Tryz.prog Tryz.f8 (OpenSpec.ofChange Rows.faultTreesSpec) false w args)
     (Rows.faultTreesSpec.post enc Tryz.prog Tryz.f8 false true false false) := by
 refine returnsInHanded_of_change_and (C := Tryz.checked) (X := fun w _ => laidMetH Tryz.prog laidL w) (fun _ _ _ hh h => h.of_heap hh) own started (by kernel_rfl) Tryz.func8
  (ChangeSpec.witness_shaped (enc := enc) (C := Tryz.checked) (os := os) (X := fun w _ => laidMetH Tryz.prog laidL w) false (World.laidAll Tryz.prog os laidL) #[.agg #[.slice none 0 0, .slice none 0 0, .slice none 0 0], .slice none 0 0] 8 (World.laidAll_os _ _ _)
   (World.shaped_of_ZipB (by kernel_rfl) (by kernel_rfl)) (by kernel_rfl) (by kernel_rfl) (by kernel_rfl)
   (by rw [MakeChecks.laidMetH_plain _ _ _ (by kernel_rfl)]; exact laidMet_laidAll _ (by kernel_rfl) (by kernel_rfl))) ?_
 intro W base args ds gs before hval0 hW hc hsz0 hL _
 have hval : ∀ (j : Nat) t v, Tryz.f8.params[j]? = some t → args[j]? = some v → Value.okWide Tryz.prog W .any base t v := hval0
 have hsz : (DataW.weightsEach Tryz.prog (Tryz.f8.params.toList ++ Rows.faultTreesSpec.plain.varTypes Tryz.prog) (ds ++ gs)).all (· ≤ reachBytes) = true := hsz0
 have hW' := hW
 obtain ⟨p, q, hA0, hV, rfl, hfz, hnd⟩ := hW
 have hA : DataW.TrodAll enc Tryz.prog W 0 (fun _ => true) true Tryz.f8.params.toList args.toList ds p := hA0
 rw [Tryz.params8] at hA hval hsz
 obtain ⟨v0, vs0, d0, ds0, p0, q0, hargs, rfl, rfl, h0, r0⟩ := trodAll_cons hA
 obtain ⟨v1, vs1, d1, ds1, p1, q1, rfl, rfl, rfl, h1, r1⟩ := trodAll_cons r0
 obtain ⟨rfl, rfl, rfl⟩ := trodAll_nil r1
 obtain rfl : args = #[v0, v1] := by cases args; simp_all
 obtain ⟨rfl, rfl⟩ := trodVars_none hV
 have hfit : ∀ x ∈ DataW.weightsEach Tryz.prog [26, 39] [d0, d1], x ≤ 140737488351232 := fun x hx => by
  have := List.all_eq_true.1 (show (DataW.weightsEach Tryz.prog [26, 39] [d0, d1]).all (· ≤ reachBytes) = true from hsz) x hx
  exact Nat.le_trans (of_decide_eq_true this) (by decide)
 obtain ⟨f0, g0⟩ := fits_each hfit
 obtain ⟨f1, g1⟩ := fits_each g0
 have k0 := h0
 have lt0 : ∀ x ∈ p0, x.block < W.heap.size := by obtain ⟨m, hm⟩ := k0; exact DataW.trod_lt m _ _ _ hm
 obtain ⟨t0, HI0⟩ := tree_of_trod (hval 0 26 v0 rfl rfl) h0 f0
 have k1 := h1
 have lt1 : ∀ x ∈ p1, x.block < W.heap.size := by obtain ⟨m, hm⟩ := k1; exact DataW.trod_lt m _ _ _ hm
 obtain ⟨a1, len1, cap1, rfl⟩ := okWide_slice Tryz.underlying39 (hval 1 39 v1 rfl rfl)
 obtain ⟨t1, HI1⟩ : ∃ l, IsInts W (.slice a1 len1 cap1) l := by
  obtain ⟨m, hm⟩ := h1
  exact ints_of_trod (by simpa [Value.cells] using hm) f1
 clear hA0 hval0 hsz0
 refine (faultTrees_any _ _ _ _ _ HI0 HI1 (tab_of_laid hL)).mono fun e W' ⟨he, bel⟩ => ?_
 subst he
 exact ⟨_, rfl, _, _, _, [], _, [], hW', trodAll_mk1 (shut_bool Tryz.underlying4 _), (trodAll_cons_mk (Below.trod laidOut (by kernel_rfl) (of_decide_eq_true (by kernel_rfl)) k0 bel lt0) (trodAll_cons_mk (Below.trod laidOut (by kernel_rfl) (of_decide_eq_true (by kernel_rfl)) k1 bel lt1) trodAll_mk0)), rfl, bel.frame _, fun h => by cases h⟩
theorem faultTrees_holds : Rows.FaultTreesSaid :=
 OpenClaim.holds_of_wide 8 Tryz.f8 rfl rfl rfl rfl rfl rfl rfl ⟨rfl, rfl, rfl, rfl, rfl⟩ rfl rfl rfl rfl rfl (by kernel_rfl) Tryz.func8 (by kernel_rfl)
  (of_decide_eq_true (by kernel_rfl)) (by unfold Func.isWrapper; first | (rw [if_pos (by decide +kernel)]; kernel_rfl) | (rw [if_neg (by decide +kernel)]; exact ⟨rfl, rfl⟩))
  (fun os started H enc _ => faultTrees_lifted os started H enc)
theorem faultTrees_card : Rows.FaultTreesCardSaid :=
 Claim7.holds_tied_plain_at .later [] [.data, .data, .data] true _ false faultTrees_holds (fun _ h => by cases h) (by kernel_rfl) (fun _ h => by cases h) faultTrees_row_tie rfl ⟨rfl, rfl⟩ (by kernel_rfl) rfl
  (fun f fn hf hfn => by
   obtain rfl : f = 8 := Option.some.inj ((show Tryz.prog.funcNamed Rows.faultTreesRow.func = some 8 by kernel_rfl).symm.trans hf) |>.symm
   obtain rfl : fn = Tryz.f8 := (Option.some.inj (Tryz.func8.symm.trans hfn)).symm
   exact ⟨by kernel_rfl, fun j t ht => by
    rw [Tryz.params8] at ht
    have hm : t ∈ [26, 39] := by simpa using Array.mem_of_getElem? ht
    have hall : ([26, 39].all fun u => !Tryz.prog.wantsStandIn u) = true := by kernel_rfl
    exact (show Tryz.prog.wantsStandIn t = false by simpa using List.all_eq_true.1 hall t hm)⟩)
  (by kernel_rfl)
#print axioms faultTrees_card
end Go.Proofs.YthfanledageoeaaGreatDoor
