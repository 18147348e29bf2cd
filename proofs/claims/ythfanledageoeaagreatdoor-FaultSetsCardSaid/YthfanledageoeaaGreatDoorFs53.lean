/- The law FaultSets: the call returns true. The law FaultSets: for every input the call returns true, and each argument reads afterwards as before: the row's statement, and its tied card. The listed tables of math/bits and strconv are as the program's text lays them. -/
import Derived.Test.YthfanledageoeaaGreatDoorFs52
import Derived.Test.YthfanledageoeaaGreatDoorFs49
import Derived.Test.YthfanledageoeaaGreatDoorFs14
import Derived.Test.YthfanledageoeaaGreatDoorFs24
set_option linter.unusedVariables false
set_option linter.unusedSimpArgs false
set_option linter.constructorNameAsVariable false
namespace Go.Proofs
open Go.RowKit Go.Tw Go.Flow
theorem firstErr_bd {l : List Int} (h : ∀ x ∈ l, 0 ≤ x ∧ x ≤ 1000) : 0 ≤ firstErr l ∧ firstErr l ≤ 1000 := by
 induction l with
 | nil => simp [firstErr]
 | cons x l ih =>
   unfold firstErr
   split
   · exact ih fun y hy => h y (List.mem_cons_of_mem _ hy)
   · exact h x (List.mem_cons_self ..)
theorem rangeErr_bd (x a b : Int) : 0 ≤ rangeErr x a b ∧ rangeErr x a b ≤ 1000 := by unfold rangeErr; split <;> omega
theorem setErr_bd (l : List Int) (n : Int) : 0 ≤ setErr l n ∧ setErr l n ≤ 1000 := by
 unfold setErr
 split
 · omega
 · split <;> omega
theorem listErr_bd (l : List Int) (n : Int) : 0 ≤ listErr l n ∧ listErr l n ≤ 1000 := by
 unfold listErr
 split
 · omega
 · exact setErr_bd l n
theorem err_bd (t : Tree) : 0 ≤ t.err ∧ t.err ≤ 1000 := by
 unfold Tree.err
 split
 · omega
 · split
   · omega
   · refine firstErr_bd fun x hx => ?_
     rcases List.mem_append.1 hx with hx | hx
     · obtain ⟨i, _, rfl⟩ := List.mem_map.1 hx
       unfold Tree.eventErr
       refine firstErr_bd fun y hy => ?_
       simp only [List.mem_cons, List.not_mem_nil, or_false] at hy
       rcases hy with rfl | rfl | rfl | rfl
       · unfold nameErr; split <;> omega
       · exact rangeErr_bd _ _ _
       · split <;> omega
       · split
         · omega
         · exact listErr_bd _ _
     · obtain ⟨i, _, rfl⟩ := List.mem_map.1 hx
       unfold Tree.gateErrAt gateErr
       refine firstErr_bd fun y hy => ?_
       simp only [List.mem_cons, List.not_mem_nil, or_false] at hy
       rcases hy with rfl | rfl | rfl | rfl
       · split <;> omega
       · split <;> omega
       · exact listErr_bd _ _
       · unfold needErr; split <;> exact rangeErr_bd _ _ _
theorem setsB_ok {t : Tree} {E : Int} (hE : t.err = E) (p : Bool) : setsB (setsR t p) E E (if E = 0 then t.sets p else []) = true := by
 unfold setsB setsR
 rw [hE]
 by_cases h : E = 0
 · simp [h]
 · simp [h]
theorem nil_intss (w : World) : IsIntss w (.slice none 0 0) [] := Go.Tw.Rows.nil _ _ _
set_option maxRecDepth 100000 in
set_option maxHeartbeats 4000000 in
theorem faultSets_any (w : World) (v : Value) (t : Tree) (ht : IsTree w v t) (hT : Tab w) :
    Calls Tryz.prog 3 #[v] w fun e w' => e = .returned (.bool true) ∧ Ext w w' := by
 obtain ⟨a, b, c, rfl, h3⟩ := ht
 obtain ⟨A, capa, rfl, hl1, hcap1, _⟩ := h3.basics.opened
 obtain ⟨B, capb, rfl, hl2, hcap2, _⟩ := h3.causes.opened
 obtain ⟨G, capg, rfl, hl3, hcap3, _⟩ := h3.gates.opened
 have HT0 := Lib.hid h3
 clear h3
 have HTAB := Lib.hid hT
 clear hT
 go_enter Tryz.func3, Tryz.ntmps3
 go_wp2_with fail
 change Calls _ _ _ (w.alloc (.cells #[.slice A t.basics.length capa, .slice B t.causes.length capb, .slice G t.gates.length capg] 26)) _
 have k0 := Blk.made w 26 #[.slice A t.basics.length capa, .slice B t.causes.length capb, .slice G t.gates.length capg]
 have x0 := Ext.box w (.cells #[.slice A t.basics.length capa, .slice B t.causes.length capb, .slice G t.gates.length capg] 26)
 have es0 : (w.alloc (.cells #[.slice A t.basics.length capa, .slice B t.causes.length capb, .slice G t.gates.length capg] 26)).heap.size = w.heap.size + 1 := by simp
 obtain ⟨X0, hX0⟩ : ∃ X, w.alloc (.cells #[.slice A t.basics.length capa, .slice B t.causes.length capb, .slice G t.gates.length capg] 26) = X := ⟨_, rfl⟩
 rw [hX0] at k0 x0 es0 ⊢
 clear hX0
 have e0 : X0.heap.size = w.heap.size + 1 := by omega
 have HXW : Hid (Ext w X0) := by exact (x0 : Ext w X0)
 have eW : X0.heap.size = w.heap.size + 1 := e0
 clear x0 es0 e0
 obtain ⟨W, hWW⟩ : ∃ W, X0 = W := ⟨_, rfl⟩
 rw [hWW] at HXW eW ⊢ k0
 clear hWW
 have HT := Lib.hid (HT0.out.ext HXW.out)
 have K0 := Lib.hid k0
 replace HTAB := Lib.hid (HTAB.out.ext HXW.out)
 clear k0
 refine (awake_any _ HTAB.out).mono ?_
 rintro e w1 ⟨rfl, hx1⟩
 have kt := K0.out.ext hx1
 have c0 := kt.cell 0
 have c1 := kt.cell 1
 have c2 := kt.cell 2
 simp only [List.getElem?_toArray, List.getElem?_cons_zero, List.getElem?_cons_succ] at c0 c1 c2
 clear kt
 go_wp2_with fail
 refine (short_any _ _ t 8 ⟨_, _, _, rfl, HT.out.ext hx1⟩ (by omega)).mono ?_
 rintro e w2 ⟨q, rfl, hq, hx2⟩
 have HX := Lib.hid (hx1.trans hx2)
 replace c0 := hx2.cell c0
 replace c1 := hx2.cell c1
 replace c2 := hx2.cell c2
 clear hx1 hx2
 cases q with
 | false =>
   clear hq c0 c1 c2
   go_wp2_with fail
   refine (awake_any _ (HTAB.out.ext HX.out)).mono ?_
   rintro e w3 ⟨rfl, hx3⟩
   go_wp2
   go_ret
   exact ⟨rfl, HXW.out.trans (HX.out.trans hx3)⟩
 | true =>
   have HF := Lib.hid ((hq rfl).few (by omega))
   obtain ⟨E, hE⟩ : ∃ E, t.err = E := ⟨_, rfl⟩
   have HE := Lib.hid hE
   clear hq hE
   go_wp2_with fail
   refine (own_any _ _ t ⟨_, _, _, rfl, HT.out.ext HX.out⟩ HF.out).mono ?_
   rintro e w3 ⟨u3, rfl, hu, hx⟩
   replace HX := Lib.hid (HX.out.trans hx)
   replace c0 := hx.cell c0
   replace c1 := hx.cell c1
   replace c2 := hx.cell c2
   have HU := Lib.hid hu
   clear hx hu
   go_wp2_with fail
   refine (pCuts_any _ _ t HU.out (HTAB.out.ext HX.out)).mono ?_
   rintro e w4 ⟨xc, rfl, hc, hx⟩
   rw [HE.out]
   replace HX := Lib.hid (HX.out.trans hx)
   replace c0 := hx.cell c0
   replace c1 := hx.cell c1
   replace c2 := hx.cell c2
   have HC := Lib.hid hc
   clear hx hc HU
   go_wp2_with fail
   refine (own_any _ _ t ⟨_, _, _, rfl, HT.out.ext HX.out⟩ HF.out).mono ?_
   rintro e w5 ⟨u5, rfl, hu, hx⟩
   replace HX := Lib.hid (HX.out.trans hx)
   replace c0 := hx.cell c0
   replace c1 := hx.cell c1
   replace c2 := hx.cell c2
   replace HC := Lib.hid (HC.out.ext hx)
   have HU := Lib.hid hu
   clear hx hu
   go_wp2_with fail
   refine (pPaths_any _ _ t HU.out (HTAB.out.ext HX.out)).mono ?_
   rintro e w6 ⟨xp, rfl, hp, hx⟩
   rw [HE.out]
   replace HX := Lib.hid (HX.out.trans hx)
   replace c0 := hx.cell c0
   replace c1 := hx.cell c1
   replace c2 := hx.cell c2
   replace HC := Lib.hid (HC.out.ext hx)
   have HP := Lib.hid hp
   clear hx hp HU
   go_wp2_with fail
   refine (own_any _ _ t ⟨_, _, _, rfl, HT.out.ext HX.out⟩ HF.out).mono ?_
   rintro e w7 ⟨u7, rfl, hu, hx⟩
   replace HX := Lib.hid (HX.out.trans hx)
   replace c0 := hx.cell c0
   replace c1 := hx.cell c1
   replace c2 := hx.cell c2
   replace HC := Lib.hid (HC.out.ext hx)
   replace HP := Lib.hid (HP.out.ext hx)
   have HU := Lib.hid hu
   clear hx hu
   go_wp2_with fail
   refine (pSingle_any _ _ t HU.out).mono ?_
   rintro e w8 ⟨xs, rfl, hs, hx⟩
   rw [HE.out]
   replace HX := Lib.hid (HX.out.trans hx)
   replace c0 := hx.cell c0
   replace c1 := hx.cell c1
   replace c2 := hx.cell c2
   replace HC := Lib.hid (HC.out.ext hx)
   replace HP := Lib.hid (HP.out.ext hx)
   have HS := Lib.hid hs
   clear hx hs HU
   go_wp2_with fail
   refine (rCheckTree_any _ _ t ⟨_, _, _, rfl, HT.out.ext HX.out⟩).mono ?_
   rintro e w9 ⟨rfl, hx⟩
   rw [HE.out]
   replace HX := Lib.hid (HX.out.trans hx)
   replace c0 := hx.cell c0
   replace c1 := hx.cell c1
   replace c2 := hx.cell c2
   replace HC := Lib.hid (HC.out.ext hx)
   replace HP := Lib.hid (HP.out.ext hx)
   replace HS := Lib.hid (HS.out.ext hx)
   clear hx
   have HBD : Hid (-9223372036854775808 ≤ E ∧ E ≤ 9223372036854775807) := by exact (by have := err_bd t; rw [HE.out] at this; omega : -9223372036854775808 ≤ E ∧ E ≤ 9223372036854775807)
   have HOK : Hid (∀ p, setsB (setsR t p) E E (if E = 0 then t.sets p else []) = true) := by exact (setsB_ok HE.out : ∀ p, setsB (setsR t p) E E (if E = 0 then t.sets p else []) = true)
   have HEE : Hid ((E == E) = true) := by exact (by simp : (E == E) = true)
   by_cases he : E = 0
   · have HV := Lib.hid (Valid.of (HE.out.trans he))
     have hne : (E == 0) = true := by simp [he]
     have HOK2 : Hid (∀ p, setsB (setsR t p) E E (t.sets p) = true) := by exact (fun p => by have := HOK.out p; rw [if_pos he] at this; exact this : ∀ p, setsB (setsR t p) E E (t.sets p) = true)
     have HSI : Hid (decide (singleR t = t.single) = true) := by exact (by unfold singleR; rw [HE.out, if_pos he]; simp : decide (singleR t = t.single) = true)
     have hsz := HV.out.size
     have hdr := (Ext.refl w9).drew
     have HKT := Lib.hid (K0.out.ext HX.out)
     clear he c0 c1 c2
     go_wp2
     refine Flow.regionB0 [.world, .world, .world, .world, .world, .world, .plain, .plain, .plain] [0, 1, 2, 3, 4, 5, 6, 7, 8] [[], [0], [], [0, 1, 2], [], [0, 1, 2, 3, 4], [0, 1, 2, 3, 4, 5], [0, 1, 2, 3, 4, 5, 6], [0, 1, 2, 3, 4, 5, 6, 7]]
      [.is 0 (fun v => .agg #[.slice A t.basics.length capa, .slice B t.causes.length capb, .slice G t.gates.length capg]), ⟨fun v wz => IsIntss wz (v 1) (t.sets false), fun _ _ _ hx h => h.ext hx⟩, .is 2 (fun v => .agg #[.slice A t.basics.length capa, .slice B t.causes.length capb, .slice G t.gates.length capg]), ⟨fun v wz => IsIntss wz (v 3) (t.sets true), fun _ _ _ hx h => h.ext hx⟩, .is 4 (fun v => .agg #[.slice A t.basics.length capa, .slice B t.causes.length capb, .slice G t.gates.length capg]), ⟨fun v wz => IsInts wz (v 5) t.single, fun _ _ _ hx h => h.ext hx⟩, .is 6 (fun v => v 1), .is 7 (fun v => v 3), .is 8 (fun v => v 5)]
      (by kernel_rfl) rfl (by kernel_rfl) ⟨?g0, ?g1, ?g2, ?g3, ?g4, ?g5, ?g6, ?g7, ?g8, trivial⟩ ?post
     case g0 =>
      intro v w1 hx
      intro bb hbb
      intro K hK
      have o1 : bb.eval (.tmp 1) = .pointer (some ⟨w.heap.size, 0, none⟩) := by rw [hbb]; dsimp only; (try simp (discharger := decide) only [eval_put_ne]); rfl
      exact gives_load_blk (.tmp 1) _ rfl Tryz.aggRTree Tryz.sizeRTree o1 (HKT.out.ext (hdr.trans hx)) rfl (hK _ _ (Ext.refl _) rfl)
     case g1 =>
      intro v w1 hx (q0 : v 0 = .agg #[.slice A t.basics.length capa, .slice B t.causes.length capb, .slice G t.gates.length capg])
      intro bb hbb
      subst hbb
      intro K hK
      go_simp
      refine gives_call (Cuts_any w1 _ t HV.out.fit HV.out.nodes hsz ⟨_, _, _, rfl, HT.out.ext (HX.out.trans (hdr.trans hx))⟩) ?_
      rintro e w2 ⟨x, rfl, h, hx2⟩
      exact ⟨_, rfl, hK _ _ hx2 h⟩
     case g2 =>
      intro v w1 hx
      intro bb hbb
      intro K hK
      have o1 : bb.eval (.tmp 1) = .pointer (some ⟨w.heap.size, 0, none⟩) := by rw [hbb]; dsimp only; (try simp (discharger := decide) only [eval_put_ne]); rfl
      exact gives_load_blk (.tmp 1) _ rfl Tryz.aggRTree Tryz.sizeRTree o1 (HKT.out.ext (hdr.trans hx)) rfl (hK _ _ (Ext.refl _) rfl)
     case g3 =>
      intro v w1 hx (q0 : v 0 = .agg #[.slice A t.basics.length capa, .slice B t.causes.length capb, .slice G t.gates.length capg]) (q1 : IsIntss w1 (v 1) (t.sets false)) (q2 : v 2 = .agg #[.slice A t.basics.length capa, .slice B t.causes.length capb, .slice G t.gates.length capg])
      intro bb hbb
      subst hbb
      intro K hK
      go_simp
      refine gives_call (Paths_any w1 _ t HV.out.fit HV.out.nodes hsz ⟨_, _, _, rfl, HT.out.ext (HX.out.trans (hdr.trans hx))⟩) ?_
      rintro e w2 ⟨x, rfl, h, hx2⟩
      exact ⟨_, rfl, hK _ _ hx2 h⟩
     case g4 =>
      intro v w1 hx
      intro bb hbb
      intro K hK
      have o1 : bb.eval (.tmp 1) = .pointer (some ⟨w.heap.size, 0, none⟩) := by rw [hbb]; dsimp only; (try simp (discharger := decide) only [eval_put_ne]); rfl
      exact gives_load_blk (.tmp 1) _ rfl Tryz.aggRTree Tryz.sizeRTree o1 (HKT.out.ext (hdr.trans hx)) rfl (hK _ _ (Ext.refl _) rfl)
     case g5 =>
      intro v w1 hx (q0 : v 0 = .agg #[.slice A t.basics.length capa, .slice B t.causes.length capb, .slice G t.gates.length capg]) (q1 : IsIntss w1 (v 1) (t.sets false)) (q2 : v 2 = .agg #[.slice A t.basics.length capa, .slice B t.causes.length capb, .slice G t.gates.length capg]) (q3 : IsIntss w1 (v 3) (t.sets true)) (q4 : v 4 = .agg #[.slice A t.basics.length capa, .slice B t.causes.length capb, .slice G t.gates.length capg])
      intro bb hbb
      subst hbb
      intro K hK
      go_simp
      refine gives_call (Single_any w1 _ t HV.out.fit HV.out.nodes (by omega) ⟨_, _, _, rfl, HT.out.ext (HX.out.trans (hdr.trans hx))⟩) ?_
      rintro e w2 ⟨x, rfl, h, hx2⟩
      exact ⟨_, rfl, hK _ _ hx2 h⟩
     case g6 =>
      intro v w1 hx (q0 : v 0 = .agg #[.slice A t.basics.length capa, .slice B t.causes.length capb, .slice G t.gates.length capg]) (q1 : IsIntss w1 (v 1) (t.sets false)) (q2 : v 2 = .agg #[.slice A t.basics.length capa, .slice B t.causes.length capb, .slice G t.gates.length capg]) (q3 : IsIntss w1 (v 3) (t.sets true)) (q4 : v 4 = .agg #[.slice A t.basics.length capa, .slice B t.causes.length capb, .slice G t.gates.length capg]) (q5 : IsInts w1 (v 5) t.single)
      intro bb hbb
      subst hbb
      refine ⟨_, fun w => ?_, rfl⟩
      go_simp
     case g7 =>
      intro v w1 hx (q0 : v 0 = .agg #[.slice A t.basics.length capa, .slice B t.causes.length capb, .slice G t.gates.length capg]) (q1 : IsIntss w1 (v 1) (t.sets false)) (q2 : v 2 = .agg #[.slice A t.basics.length capa, .slice B t.causes.length capb, .slice G t.gates.length capg]) (q3 : IsIntss w1 (v 3) (t.sets true)) (q4 : v 4 = .agg #[.slice A t.basics.length capa, .slice B t.causes.length capb, .slice G t.gates.length capg]) (q5 : IsInts w1 (v 5) t.single) (q6 : v 6 = v 1)
      intro bb hbb
      subst hbb
      refine ⟨_, fun w => ?_, rfl⟩
      go_simp
     case g8 =>
      intro v w1 hx (q0 : v 0 = .agg #[.slice A t.basics.length capa, .slice B t.causes.length capb, .slice G t.gates.length capg]) (q1 : IsIntss w1 (v 1) (t.sets false)) (q2 : v 2 = .agg #[.slice A t.basics.length capa, .slice B t.causes.length capb, .slice G t.gates.length capg]) (q3 : IsIntss w1 (v 3) (t.sets true)) (q4 : v 4 = .agg #[.slice A t.basics.length capa, .slice B t.causes.length capb, .slice G t.gates.length capg]) (q5 : IsInts w1 (v 5) t.single) (q6 : v 6 = v 1) (q7 : v 7 = v 3)
      intro bb hbb
      subst hbb
      refine ⟨_, fun w => ?_, rfl⟩
      go_simp
     case post =>
      intro v w1 hx (q0 : v 0 = .agg #[.slice A t.basics.length capa, .slice B t.causes.length capb, .slice G t.gates.length capg]) (q1 : IsIntss w1 (v 1) (t.sets false)) (q2 : v 2 = .agg #[.slice A t.basics.length capa, .slice B t.causes.length capb, .slice G t.gates.length capg]) (q3 : IsIntss w1 (v 3) (t.sets true)) (q4 : v 4 = .agg #[.slice A t.basics.length capa, .slice B t.causes.length capb, .slice G t.gates.length capg]) (q5 : IsInts w1 (v 5) t.single) (q6 : v 6 = v 1) (q7 : v 7 = v 3) (q8 : v 8 = v 5)
      simp only [Flow.All, Flow.acts, Act.put]
      go_simp
      have hxx := hdr.trans hx
      replace HX := Lib.hid (HX.out.trans hxx)
      replace HC := Lib.hid (HC.out.ext hxx)
      replace HP := Lib.hid (HP.out.ext hxx)
      replace HS := Lib.hid (HS.out.ext hxx)
      have Q1 := Lib.hid q1
      have Q3 := Lib.hid q3
      have Q5 := Lib.hid q5
      clear hxx hx q0 q1 q2 q3 q4 q5 q6 q7 q8
      go_wp2_with fail
      refine (lsets_any _ _ _ _ _ _ _ HC.out Q1.out HBD.out).mono ?_
      rintro e wa ⟨rfl, hx⟩
      rw [HOK2.out]
      replace HX := Lib.hid (HX.out.trans hx)
      replace HP := Lib.hid (HP.out.ext hx)
      replace HS := Lib.hid (HS.out.ext hx)
      replace Q3 := Lib.hid (Q3.out.ext hx)
      replace Q5 := Lib.hid (Q5.out.ext hx)
      clear hx
      go_wp2_with fail
      refine (lsets_any _ _ _ _ _ _ _ HP.out Q3.out HBD.out).mono ?_
      rintro e wb ⟨rfl, hx⟩
      rw [HOK2.out]
      replace HX := Lib.hid (HX.out.trans hx)
      replace HS := Lib.hid (HS.out.ext hx)
      replace Q5 := Lib.hid (Q5.out.ext hx)
      have hee := HEE.out
      clear hx
      go_wp2_with fail
      refine (sameInts_any _ _ _ _ _ HS.out Q5.out).mono ?_
      rintro e wc ⟨rfl, hx⟩
      rw [HSI.out]
      go_wp2
      go_ret
      exact ⟨rfl, HXW.out.trans (HX.out.trans hx)⟩
   · have hne : (E == 0) = false := by simp [he]
     have HOK2 : Hid (∀ p, setsB (setsR t p) E E [] = true) := by exact (fun p => by have := HOK.out p; rw [if_neg he] at this; exact this : ∀ p, setsB (setsR t p) E E [] = true)
     have HSI : Hid (decide (singleR t = []) = true) := by exact (by unfold singleR; rw [HE.out, if_neg he]; simp : decide (singleR t = []) = true)
     clear he c0 c1 c2
     go_wp2_with fail
     refine (lsets_any _ _ _ _ _ _ _ HC.out (nil_intss _) HBD.out).mono ?_
     rintro e wa ⟨rfl, hx⟩
     rw [HOK2.out]
     replace HX := Lib.hid (HX.out.trans hx)
     replace HP := Lib.hid (HP.out.ext hx)
     replace HS := Lib.hid (HS.out.ext hx)
     clear hx
     go_wp2_with fail
     refine (lsets_any _ _ _ _ _ _ _ HP.out (nil_intss _) HBD.out).mono ?_
     rintro e wb ⟨rfl, hx⟩
     rw [HOK2.out]
     replace HX := Lib.hid (HX.out.trans hx)
     replace HS := Lib.hid (HS.out.ext hx)
     have hee := HEE.out
     clear hx
     go_wp2_with fail
     refine (sameInts_any _ _ _ _ _ HS.out (nil_ints _)).mono ?_
     rintro e wc ⟨rfl, hx⟩
     rw [HSI.out]
     go_wp2
     go_ret
     exact ⟨rfl, HXW.out.trans (HX.out.trans hx)⟩
end Go.Proofs
namespace Go.Proofs.YthfanledageoeaaGreatDoor
open Go.ChangeShapes Go.WideShapes Go.ChangeAt Go.RowKit Go.Tw
set_option maxRecDepth 100000 in
theorem faultSets_lifted (os : Os) (started : os.Started) (H : Type) (enc : TypeId × Value → H) :
    ReturnsInHanded {} Tryz.checked os 3 .any (fun w args => (Rows.faultSetsSpec.pre enc Tryz.prog Tryz.f3 Rows.faultSetsRow.domain false w args ∧ laidMetH Tryz.prog laidL w) ∧ sizedMet enc Tryz.prog Tryz.f3 (OpenSpec.ofChange Rows.faultSetsSpec) false w args)
     (Rows.faultSetsSpec.post enc Tryz.prog Tryz.f3 false true false false) := by
 refine returnsInHanded_of_change_and (C := Tryz.checked) (X := fun w _ => laidMetH Tryz.prog laidL w) (fun _ _ _ hh h => h.of_heap hh) own started (by kernel_rfl) Tryz.func3
  (ChangeSpec.witness_shaped (enc := enc) (C := Tryz.checked) (os := os) (X := fun w _ => laidMetH Tryz.prog laidL w) false (World.laidAll Tryz.prog os laidL) #[.agg #[.slice none 0 0, .slice none 0 0, .slice none 0 0]] 8 (World.laidAll_os _ _ _)
   (World.shaped_of_ZipB (by kernel_rfl) (by kernel_rfl)) (by kernel_rfl) (by kernel_rfl) (by kernel_rfl)
   (by rw [MakeChecks.laidMetH_plain _ _ _ (by kernel_rfl)]; exact laidMet_laidAll _ (by kernel_rfl) (by kernel_rfl))) ?_
 intro W base args ds gs before hval0 hW hc hsz0 hL _
 have hval : ∀ (j : Nat) t v, Tryz.f3.params[j]? = some t → args[j]? = some v → Value.okWide Tryz.prog W .any base t v := hval0
 have hsz : (DataW.weightsEach Tryz.prog (Tryz.f3.params.toList ++ Rows.faultSetsSpec.plain.varTypes Tryz.prog) (ds ++ gs)).all (· ≤ reachBytes) = true := hsz0
 have hW' := hW
 obtain ⟨p, q, hA0, hV, rfl, hfz, hnd⟩ := hW
 have hA : DataW.TrodAll enc Tryz.prog W 0 (fun _ => true) true Tryz.f3.params.toList args.toList ds p := hA0
 rw [Tryz.params3] at hA hval hsz
 obtain ⟨v0, vs0, d0, ds0, p0, q0, hargs, rfl, rfl, h0, r0⟩ := trodAll_cons hA
 obtain ⟨rfl, rfl, rfl⟩ := trodAll_nil r0
 obtain rfl : args = #[v0] := by cases args; simp_all
 obtain ⟨rfl, rfl⟩ := trodVars_none hV
 have hfit : ∀ x ∈ DataW.weightsEach Tryz.prog [26] [d0], x ≤ 140737488351232 := fun x hx => by
  have := List.all_eq_true.1 (show (DataW.weightsEach Tryz.prog [26] [d0]).all (· ≤ reachBytes) = true from hsz) x hx
  exact Nat.le_trans (of_decide_eq_true this) (by decide)
 obtain ⟨f0, g0⟩ := fits_each hfit
 have k0 := h0
 have lt0 : ∀ x ∈ p0, x.block < W.heap.size := by obtain ⟨m, hm⟩ := k0; exact DataW.trod_lt m _ _ _ hm
 obtain ⟨t0, HI0⟩ := tree_of_trod (hval 0 26 v0 rfl rfl) h0 f0
 clear hA0 hval0 hsz0
 refine (faultSets_any _ _ _ HI0 (tab_of_laid hL)).mono fun e W' ⟨he, bel⟩ => ?_
 subst he
 exact ⟨_, rfl, _, _, _, [], _, [], hW', trodAll_mk1 (shut_bool Tryz.underlying4 _), (trodAll_cons_mk (Below.trod laidOut (by kernel_rfl) (of_decide_eq_true (by kernel_rfl)) k0 bel lt0) trodAll_mk0), rfl, bel.frame _, fun h => by cases h⟩
theorem faultSets_holds : Rows.FaultSetsSaid :=
 OpenClaim.holds_of_wide 3 Tryz.f3 rfl rfl rfl rfl rfl rfl rfl ⟨rfl, rfl, rfl, rfl, rfl⟩ rfl rfl rfl rfl rfl (by kernel_rfl) Tryz.func3 (by kernel_rfl)
  (of_decide_eq_true (by kernel_rfl)) (by unfold Func.isWrapper; first | (rw [if_pos (by decide +kernel)]; kernel_rfl) | (rw [if_neg (by decide +kernel)]; exact ⟨rfl, rfl⟩))
  (fun os started H enc _ => faultSets_lifted os started H enc)
theorem faultSets_card : Rows.FaultSetsCardSaid :=
 Claim7.holds_tied_plain_at .later [] [.data, .data, .data] true _ false faultSets_holds (fun _ h => by cases h) (by kernel_rfl) (fun _ h => by cases h) faultSets_row_tie rfl ⟨rfl, rfl⟩ (by kernel_rfl) rfl
  (fun f fn hf hfn => by
   obtain rfl : f = 3 := Option.some.inj ((show Tryz.prog.funcNamed Rows.faultSetsRow.func = some 3 by kernel_rfl).symm.trans hf) |>.symm
   obtain rfl : fn = Tryz.f3 := (Option.some.inj (Tryz.func3.symm.trans hfn)).symm
   exact ⟨by kernel_rfl, fun j t ht => by
    rw [Tryz.params3] at ht
    have hm : t ∈ [26] := by simpa using Array.mem_of_getElem? ht
    have hall : ([26].all fun u => !Tryz.prog.wantsStandIn u) = true := by kernel_rfl
    exact (show Tryz.prog.wantsStandIn t = false by simpa using List.all_eq_true.1 hall t hm)⟩)
  (by kernel_rfl)
#print axioms faultSets_card
end Go.Proofs.YthfanledageoeaaGreatDoor
