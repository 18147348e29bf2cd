/- The law FaultBounds: the call returns true. -/
import Derived.Test.YthfanledageoeaaGreatDoorYb49
import Derived.Test.YthfanledageoeaaGreatDoorYb46
import Derived.Test.YthfanledageoeaaGreatDoorYb12
import Derived.Test.YthfanledageoeaaGreatDoorYb50
import Derived.Test.YthfanledageoeaaGreatDoorYb51
set_option linter.unusedVariables false
set_option linter.unusedSimpArgs false
set_option linter.constructorNameAsVariable false
namespace Go.Proofs
open Go.RowKit Go.Tw Go.Flow
attribute [local go_sem ↓] run_eql_r2g
theorem lBound (w:World) (u:Value) (t:Tree) (a b:Int) (hC:boundR t = ⟨a,b⟩) (hu:IsTree w u t) (hT:Tab w) :
    Calls Tryz.prog 42 #[u] w fun e w'=>e = .returned (.tuple #[.agg #[.int .i64 a,.int .i64 b],.int .i64 t.err]) ∧ Ext w w':=by
 have h:=pBound_any w u t hu hT
 rw [hC] at h
 exact h
theorem lInterval (w:World) (u v:Value) (t:Tree) (l:List Int) (a b c d:Int) (hC:lowR t l = ⟨a,b⟩) (hD:highR t l = ⟨c,d⟩) (hu:IsTree w u t) (hv:IsInts w v l) :
    Calls Tryz.prog 43 #[u,v] w fun e w'=>e = .returned (.tuple #[.agg #[.int .i64 a,.int .i64 b,.int .i64 c,.int .i64 d],.int .i64 (intervalErr t l)]) ∧ Ext w w':=by
 have h:=pInterval_any w u v t l hu hv
 rw [hC,hD] at h
 exact h
theorem lNext (w:World) (u:Value) (t:Tree) (n a b:Int) (hN:(nextAt t:Int) = n) (hC:nextR t = ⟨a,b⟩) (hu:IsTree w u t) :
    Calls Tryz.prog 44 #[u] w fun e w'=>e = .returned (.tuple #[.int .i64 n,.agg #[.int .i64 a,.int .i64 b],.int .i64 (nextErr t)]) ∧ Ext w w':=by
 have h:=pNext_any w u t hu
 rw [hC,hN] at h
 exact h
theorem rB (w:World) (u:Value) (t:Tree) (a b:Int) (hC:boundR t = ⟨a,b⟩) (he:t.err = 0) (hu:IsTree w u t) :
    Calls Tryz.prog 45 #[u] w fun e w'=>e = .returned (.agg #[.int .i64 a,.int .i64 b]) ∧ Ext w w':=by
 have h:=rBound_any w u t (Valid.of he) hu
 unfold boundR at hC
 rw [if_pos he] at hC
 rw [hC] at h
 exact h
theorem rN (w:World) (u:Value) (t:Tree) (n a b x:Int) (hN:(nextAt t:Int) = n) (hC:nextR t = ⟨a,b⟩) (hX:nextErr t = x) (he:t.err = 0) (hu:IsTree w u t) :
    Calls Tryz.prog 46 #[u] w fun e w'=>e = .returned (.tuple #[.int .i64 n,.agg #[.int .i64 a,.int .i64 b],.int .i64 x]) ∧ Ext w w':=by
 refine (rNext_any w u t (Valid.of he) hu).mono ?_
 rintro e w' ⟨a',r,x',rfl,h,hx⟩
 refine ⟨?_,hx⟩
 have key:a' = n ∧ r = ⟨a,b⟩ ∧ x' = x:=by
  rcases h with ⟨h0,rfl,rfl,rfl⟩ | ⟨h0,rfl,rfl,rfl⟩
  · have hs:=next_none h0
    unfold nextAt at hN
    unfold nextR at hC
    unfold nextErr at hX
    rw [if_pos he,hs] at hN hC hX
    exact ⟨by simpa using hN,by simpa using hC,by simpa using hX⟩
  · obtain ⟨hs,hat⟩:=next_some (Valid.of he) h0
    unfold nextAt at hN
    unfold nextR at hC
    unfold nextErr at hX
    rw [if_pos he,hs] at hN hC hX
    simp only [Bool.false_eq_true,if_false] at hN hC hX
    exact ⟨hat.trans hN,hC,hX⟩
 obtain ⟨rfl,rfl,rfl⟩:=key
 rfl
theorem rP (w:World) (u v:Value) (t:Tree) (c:List Int) (a b:Int) (hC:probOf t c = ⟨a,b⟩) (hv:Valid t) (hc:Small c) (hu:IsTree w u t) (hl:IsInts w v c) :
    Calls Tryz.prog 48 #[u,v] w fun e w'=>e = .returned (.agg #[.int .i64 a,.int .i64 b]) ∧ Ext w w':=by
 have h:=Probability_any w u v t c hv.fit hv.nodes hv.size hc hu hl
 rw [hC] at h
 exact h
set_option maxRecDepth 100000 in
set_option maxHeartbeats 8000000 in
theorem faultBounds_any (w:World) (v u:Value) (t:Tree) (ml:List Int) (ht:IsTree w v t) (hml:IsInts w u ml) (hT:Tab w) :
    Calls Tryz.prog 7 #[v,u] w fun e w'=>e = .returned (.bool true) ∧ Ext w w':=by
 obtain ⟨a,b,c,rfl,h3⟩:=ht
 obtain ⟨A,capa,rfl,hl1,hcap1,_⟩:=h3.basics.opened
 obtain ⟨B,capb,rfl,hl2,hcap2,_⟩:=h3.causes.opened
 obtain ⟨G,capg,rfl,hl3,hcap3,_⟩:=h3.gates.opened
 have HT0:=Lib.hid h3
 clear h3
 have HTAB:=Lib.hid hT
 have HTAB0:=Lib.hid hT
 clear hT
 have HLml:=Lib.hid hml
 have HL0ml:=Lib.hid hml
 obtain ⟨Aml,capml,rfl,hlml,_,_⟩:=hml.opened
 clear hml
 go_enter Tryz.func7,Tryz.ntmps7
 go_wp2_with fail
 change Calls _ _ _ (w.alloc (.cells #[.slice A t.basics.length capa,.slice B t.causes.length capb,.slice G t.gates.length capg] 26)) _
 have k0:=Blk.made w 26 #[.slice A t.basics.length capa,.slice B t.causes.length capb,.slice G t.gates.length capg]
 have x0:=Ext.box w (.cells #[.slice A t.basics.length capa,.slice B t.causes.length capb,.slice G t.gates.length capg] 26)
 have es0:(w.alloc (.cells #[.slice A t.basics.length capa,.slice B t.causes.length capb,.slice G t.gates.length capg] 26)).heap.size = w.heap.size + 1:=by simp
 obtain ⟨X0,hX0⟩:∃ X,w.alloc (.cells #[.slice A t.basics.length capa,.slice B t.causes.length capb,.slice G t.gates.length capg] 26) = X:=⟨_,rfl⟩
 rw [hX0] at k0 x0 es0 ⊢
 clear hX0
 have e0:X0.heap.size = w.heap.size + 1:=by omega
 have HXW:Hid (Ext w X0):=by exact (x0:Ext w X0)
 have eW:X0.heap.size = w.heap.size + 1:=e0
 clear x0 es0 e0
 obtain ⟨W,hWW⟩:∃ W,X0 = W:=⟨_,rfl⟩
 rw [hWW] at HXW eW ⊢ k0
 clear hWW
 obtain ⟨WB,hWB⟩:∃ X,W = X:=⟨_,rfl⟩
 rw [hWB] at HXW eW k0 ⊢
 clear hWB
 have HT:=Lib.hid (HT0.out.ext HXW.out)
 have K0:=Lib.hid k0
 replace HTAB:=Lib.hid (HTAB.out.ext HXW.out)
 replace HLml:=Lib.hid (HLml.out.ext HXW.out)
 have HW0:=Lib.hid HXW.out
 have HX:=Lib.hid (Ext.refl WB)
 have c0:=k0.cell 0
 have c1:=k0.cell 1
 have c2:=k0.cell 2
 simp only [List.getElem?_toArray,List.getElem?_cons_zero,List.getElem?_cons_succ] at c0 c1 c2
 clear k0 HXW
 skip
 refine (awake_any _ HTAB.out).mono ?_
 rintro e w1 ⟨rfl,hx⟩
 have hxx:Ext WB w1:=hx
 replace HX:=Lib.hid (HX.out.trans hxx)
 replace HT:=Lib.hid (HT.out.ext hxx)
 replace c0:=hxx.cell c0
 replace c1:=hxx.cell c1
 replace c2:=hxx.cell c2
 replace HTAB:=Lib.hid (HTAB.out.ext hxx)
 replace K0:=Lib.hid (K0.out.ext hxx)
 replace HLml:=Lib.hid (HLml.out.ext hxx)
 clear hx hxx
 go_wp2_with fail
 refine (short_any _ _ t 8 ⟨_,_,_,rfl,HT.out⟩ (by omega)).mono ?_
 rintro e w2 ⟨q,rfl,hq,hx⟩
 have hxx:Ext w1 w2:=hx
 replace HX:=Lib.hid (HX.out.trans hxx)
 replace HT:=Lib.hid (HT.out.ext hxx)
 replace c0:=hxx.cell c0
 replace c1:=hxx.cell c1
 replace c2:=hxx.cell c2
 replace HTAB:=Lib.hid (HTAB.out.ext hxx)
 replace K0:=Lib.hid (K0.out.ext hxx)
 replace HLml:=Lib.hid (HLml.out.ext hxx)
 clear hx hxx
 cases q with
 | false =>
   clear hq
   clear c0 c1 c2
   go_wp2_with fail
   refine (awake_any _ HTAB.out).mono ?_
   rintro e w3 ⟨rfl,hx⟩
   have hxx:Ext w2 w3:=hx
   replace HX:=Lib.hid (HX.out.trans hxx)
   replace HT:=Lib.hid (HT.out.ext hxx)
   replace HTAB:=Lib.hid (HTAB.out.ext hxx)
   replace K0:=Lib.hid (K0.out.ext hxx)
   replace HLml:=Lib.hid (HLml.out.ext hxx)
   clear hx hxx
   go_wp2
   go_ret
   exact ⟨rfl,HW0.out.trans HX.out⟩
 | true =>
   have HF:=Lib.hid ((hq rfl).few (by omega))
   clear hq
   by_cases hnml:14 < ml.length
   · clear HF
     clear c0 c1 c2
     go_wp2_with fail
     refine (awake_any _ HTAB.out).mono ?_
     rintro e w3 ⟨rfl,hx⟩
     have hxx:Ext w2 w3:=hx
     replace HX:=Lib.hid (HX.out.trans hxx)
     replace HT:=Lib.hid (HT.out.ext hxx)
     replace HTAB:=Lib.hid (HTAB.out.ext hxx)
     replace K0:=Lib.hid (K0.out.ext hxx)
     replace HLml:=Lib.hid (HLml.out.ext hxx)
     clear hx hxx
     go_wp2
     go_ret
     exact ⟨rfl,HW0.out.trans HX.out⟩
   · obtain ⟨E,hE⟩:∃ E,t.err = E:=⟨_,rfl⟩
     have HE:=Lib.hid hE
     obtain ⟨IE,hIE⟩:∃ E,intervalErr t ml = E:=⟨_,rfl⟩
     have HIE:=Lib.hid hIE
     obtain ⟨NE,hNE⟩:∃ E,nextErr t = E:=⟨_,rfl⟩
     have HNE:=Lib.hid hNE
     obtain ⟨na,hna⟩:∃ n:Int,(nextAt t:Int) = n:=⟨_,rfl⟩
     have HNA:=Lib.hid hna
     obtain ⟨⟨bn,bd⟩,hB⟩:∃ C,boundR t = C:=⟨_,rfl⟩
     have HB:=Lib.hid hB
     obtain ⟨⟨ln,ld⟩,hL⟩:∃ C,lowR t ml = C:=⟨_,rfl⟩
     have HLO:=Lib.hid hL
     obtain ⟨⟨un,ud⟩,hU⟩:∃ C,highR t ml = C:=⟨_,rfl⟩
     have HUP:=Lib.hid hU
     obtain ⟨⟨nn,nd⟩,hN⟩:∃ C,nextR t = C:=⟨_,rfl⟩
     have HN:=Lib.hid hN
     have HA10:=Lib.hid (show ml.length ≤ 4096 by omega)
     have HA11:=Lib.hid (show ml.length ≤ 17592186043904 by omega)
     clear hE hIE hNE hna hB hL hU hN
     go_wp2_with fail
     refine (own_any _ _ t ⟨_,_,_,rfl,HT.out⟩ HF.out).mono ?_
     rintro e w3 ⟨uu,rfl,hu,hx⟩
     have hxx:Ext w2 w3:=hx
     replace HX:=Lib.hid (HX.out.trans hxx)
     replace HT:=Lib.hid (HT.out.ext hxx)
     replace c0:=hxx.cell c0
     replace c1:=hxx.cell c1
     replace c2:=hxx.cell c2
     replace HTAB:=Lib.hid (HTAB.out.ext hxx)
     replace K0:=Lib.hid (K0.out.ext hxx)
     replace HLml:=Lib.hid (HLml.out.ext hxx)
     have HU:=Lib.hid (hu)
     clear hx hxx
     clear hu
     go_wp2_with fail
     refine (lBound _ _ t bn bd HB.out HU.out HTAB.out).mono ?_
     rintro e w4 ⟨rfl,hx⟩
     have hxx:Ext w3 w4:=hx
     replace HX:=Lib.hid (HX.out.trans hxx)
     replace HT:=Lib.hid (HT.out.ext hxx)
     replace c0:=hxx.cell c0
     replace c1:=hxx.cell c1
     replace c2:=hxx.cell c2
     replace HTAB:=Lib.hid (HTAB.out.ext hxx)
     replace K0:=Lib.hid (K0.out.ext hxx)
     replace HLml:=Lib.hid (HLml.out.ext hxx)
     replace HU:=Lib.hid (HU.out.ext hxx)
     clear hx hxx
     rw [HE.out]
     clear HU
     have xp:=Ext.box w4 (.cells #[.int .i64 bn,.int .i64 bd] 56)
     have d0:=xp.cell c0
     have d1:=xp.cell c1
     have d2:=xp.cell c2
     clear xp
     go_wp2_with fail
     have LOB5:Hid (WB.heap.size ≤ w4.heap.size):=by exact (by have:=HX.out.size; omega:WB.heap.size ≤ w4.heap.size)
     clear d0 d1 d2
     skip
     change Calls _ _ _ (w4.alloc (.cells #[.int .i64 bn,.int .i64 bd] 56)) _
     have k0:=Blk.made w4 56 #[.int .i64 bn,.int .i64 bd]
     have x0:=Ext.box w4 (.cells #[.int .i64 bn,.int .i64 bd] 56)
     have es0:(w4.alloc (.cells #[.int .i64 bn,.int .i64 bd] 56)).heap.size = w4.heap.size + 1:=by simp
     obtain ⟨X0,hX0⟩:∃ X,w4.alloc (.cells #[.int .i64 bn,.int .i64 bd] 56) = X:=⟨_,rfl⟩
     rw [hX0] at k0 x0 es0 ⊢
     clear hX0
     have e0:X0.heap.size = w4.heap.size + 1:=by omega
     have HXW:Hid (Ext w4 X0):=by exact (x0:Ext w4 X0)
     have eW:X0.heap.size = w4.heap.size + 1:=e0
     clear x0 es0 e0
     obtain ⟨W,hWW⟩:∃ W,X0 = W:=⟨_,rfl⟩
     rw [hWW] at HXW eW ⊢ k0
     clear hWW
     refine (own_any _ _ t ⟨_,_,_,rfl,HT.out.ext HXW.out⟩ HF.out).mono ?_
     rintro e w5 ⟨uu,rfl,hu,hx⟩
     have hxx:Ext w4 w5:=HXW.out.trans hx
     replace HX:=Lib.hid (HX.out.trans hxx)
     replace HT:=Lib.hid (HT.out.ext hxx)
     replace c0:=hxx.cell c0
     replace c1:=hxx.cell c1
     replace c2:=hxx.cell c2
     replace HTAB:=Lib.hid (HTAB.out.ext hxx)
     replace K0:=Lib.hid (K0.out.ext hxx)
     replace HLml:=Lib.hid (HLml.out.ext hxx)
     have HU:=Lib.hid (hu)
     have B5:=Lib.hid (k0.ext hx)
     clear hx hxx HXW eW k0
     clear hu
     go_wp2_with fail
     refine (lints_any _ _ ml HLml.out HA10.out).mono ?_
     rintro e w6 ⟨va,rfl,hv,hx⟩
     have hxx:Ext w5 w6:=hx
     replace HX:=Lib.hid (HX.out.trans hxx)
     replace HT:=Lib.hid (HT.out.ext hxx)
     replace c0:=hxx.cell c0
     replace c1:=hxx.cell c1
     replace c2:=hxx.cell c2
     replace HTAB:=Lib.hid (HTAB.out.ext hxx)
     replace K0:=Lib.hid (K0.out.ext hxx)
     replace HLml:=Lib.hid (HLml.out.ext hxx)
     replace HU:=Lib.hid (HU.out.ext hxx)
     replace B5:=Lib.hid (B5.out.ext hxx)
     have HV1:=Lib.hid (hv.ints HA11.out)
     clear hx hxx
     clear hv
     go_wp2_with fail
     refine (lInterval _ _ _ t ml ln ld un ud HLO.out HUP.out HU.out HV1.out).mono ?_
     rintro e w7 ⟨rfl,hx⟩
     have hxx:Ext w6 w7:=hx
     replace HX:=Lib.hid (HX.out.trans hxx)
     replace HT:=Lib.hid (HT.out.ext hxx)
     replace c0:=hxx.cell c0
     replace c1:=hxx.cell c1
     replace c2:=hxx.cell c2
     clear HV1
     replace HTAB:=Lib.hid (HTAB.out.ext hxx)
     replace K0:=Lib.hid (K0.out.ext hxx)
     replace HLml:=Lib.hid (HLml.out.ext hxx)
     replace HU:=Lib.hid (HU.out.ext hxx)
     replace B5:=Lib.hid (B5.out.ext hxx)
     clear hx hxx
     rw [HIE.out]
     clear HU
     have xp:=Ext.box w7 (.cells #[.int .i64 ln,.int .i64 ld,.int .i64 un,.int .i64 ud] 74)
     have d0:=xp.cell c0
     have d1:=xp.cell c1
     have d2:=xp.cell c2
     clear xp
     go_wp2_with fail
     have LOB7:Hid (WB.heap.size ≤ w7.heap.size):=by exact (by have:=HX.out.size; omega:WB.heap.size ≤ w7.heap.size)
     have NEB5_B7:Hid (w4.heap.size ≠ w7.heap.size):=by exact (by have:=B5.out.lt; omega:w4.heap.size ≠ w7.heap.size)
     clear d0 d1 d2
     skip
     change Calls _ _ _ (w7.alloc (.cells #[.int .i64 ln,.int .i64 ld,.int .i64 un,.int .i64 ud] 74)) _
     have k0:=Blk.made w7 74 #[.int .i64 ln,.int .i64 ld,.int .i64 un,.int .i64 ud]
     have x0:=Ext.box w7 (.cells #[.int .i64 ln,.int .i64 ld,.int .i64 un,.int .i64 ud] 74)
     have es0:(w7.alloc (.cells #[.int .i64 ln,.int .i64 ld,.int .i64 un,.int .i64 ud] 74)).heap.size = w7.heap.size + 1:=by simp
     obtain ⟨X0,hX0⟩:∃ X,w7.alloc (.cells #[.int .i64 ln,.int .i64 ld,.int .i64 un,.int .i64 ud] 74) = X:=⟨_,rfl⟩
     rw [hX0] at k0 x0 es0 ⊢
     clear hX0
     have e0:X0.heap.size = w7.heap.size + 1:=by omega
     have HXW:Hid (Ext w7 X0):=by exact (x0:Ext w7 X0)
     have eW:X0.heap.size = w7.heap.size + 1:=e0
     clear x0 es0 e0
     obtain ⟨W,hWW⟩:∃ W,X0 = W:=⟨_,rfl⟩
     rw [hWW] at HXW eW ⊢ k0
     clear hWW
     refine (own_any _ _ t ⟨_,_,_,rfl,HT.out.ext HXW.out⟩ HF.out).mono ?_
     rintro e w8 ⟨uu2,rfl,hu,hx⟩
     have hxx:Ext w7 w8:=HXW.out.trans hx
     replace HX:=Lib.hid (HX.out.trans hxx)
     replace HT:=Lib.hid (HT.out.ext hxx)
     replace c0:=hxx.cell c0
     replace c1:=hxx.cell c1
     replace c2:=hxx.cell c2
     replace HTAB:=Lib.hid (HTAB.out.ext hxx)
     replace K0:=Lib.hid (K0.out.ext hxx)
     replace HLml:=Lib.hid (HLml.out.ext hxx)
     replace B5:=Lib.hid (B5.out.ext hxx)
     have HU:=Lib.hid (hu)
     have B7:=Lib.hid (k0.ext hx)
     clear hx hxx HXW eW k0
     clear hu
     go_wp2_with fail
     refine (lNext _ _ t na nn nd HNA.out HN.out HU.out).mono ?_
     rintro e w9 ⟨rfl,hx⟩
     have hxx:Ext w8 w9:=hx
     replace HX:=Lib.hid (HX.out.trans hxx)
     replace HT:=Lib.hid (HT.out.ext hxx)
     replace c0:=hxx.cell c0
     replace c1:=hxx.cell c1
     replace c2:=hxx.cell c2
     replace HTAB:=Lib.hid (HTAB.out.ext hxx)
     replace K0:=Lib.hid (K0.out.ext hxx)
     replace HLml:=Lib.hid (HLml.out.ext hxx)
     replace B5:=Lib.hid (B5.out.ext hxx)
     replace HU:=Lib.hid (HU.out.ext hxx)
     replace B7:=Lib.hid (B7.out.ext hxx)
     clear hx hxx
     rw [HNE.out]
     clear HU
     have xp:=Ext.box w9 (.cells #[.int .i64 nn,.int .i64 nd] 56)
     have d0:=xp.cell c0
     have d1:=xp.cell c1
     have d2:=xp.cell c2
     clear xp
     go_wp2_with fail
     have LOB10:Hid (WB.heap.size ≤ w9.heap.size):=by exact (by have:=HX.out.size; omega:WB.heap.size ≤ w9.heap.size)
     have NEB5_B10:Hid (w4.heap.size ≠ w9.heap.size):=by exact (by have:=B5.out.lt; omega:w4.heap.size ≠ w9.heap.size)
     have NEB7_B10:Hid (w7.heap.size ≠ w9.heap.size):=by exact (by have:=B7.out.lt; omega:w7.heap.size ≠ w9.heap.size)
     clear d0 d1 d2
     skip
     change Calls _ _ _ (w9.alloc (.cells #[.int .i64 nn,.int .i64 nd] 56)) _
     have k0:=Blk.made w9 56 #[.int .i64 nn,.int .i64 nd]
     have x0:=Ext.box w9 (.cells #[.int .i64 nn,.int .i64 nd] 56)
     have es0:(w9.alloc (.cells #[.int .i64 nn,.int .i64 nd] 56)).heap.size = w9.heap.size + 1:=by simp
     obtain ⟨X0,hX0⟩:∃ X,w9.alloc (.cells #[.int .i64 nn,.int .i64 nd] 56) = X:=⟨_,rfl⟩
     rw [hX0] at k0 x0 es0 ⊢
     clear hX0
     have e0:X0.heap.size = w9.heap.size + 1:=by omega
     have HXW:Hid (Ext w9 X0):=by exact (x0:Ext w9 X0)
     have eW:X0.heap.size = w9.heap.size + 1:=e0
     clear x0 es0 e0
     obtain ⟨W,hWW⟩:∃ W,X0 = W:=⟨_,rfl⟩
     rw [hWW] at HXW eW ⊢ k0
     clear hWW
     refine (rCheckTree_any _ _ t ⟨_,_,_,rfl,HT.out.ext HXW.out⟩).mono ?_
     rintro e w10 ⟨rfl,hx⟩
     have hxx:Ext w9 w10:=HXW.out.trans hx
     replace HX:=Lib.hid (HX.out.trans hxx)
     replace HT:=Lib.hid (HT.out.ext hxx)
     replace c0:=hxx.cell c0
     replace c1:=hxx.cell c1
     replace c2:=hxx.cell c2
     replace HTAB:=Lib.hid (HTAB.out.ext hxx)
     replace K0:=Lib.hid (K0.out.ext hxx)
     replace HLml:=Lib.hid (HLml.out.ext hxx)
     replace B5:=Lib.hid (B5.out.ext hxx)
     replace B7:=Lib.hid (B7.out.ext hxx)
     have B10:=Lib.hid (k0.ext hx)
     clear hx hxx HXW eW k0
     rw [HE.out]
     have hEE:(E == E) = true:=by simp
     have hII:(IE == IE) = true:=by simp
     by_cases he:E = 0
     · have HV:=Lib.hid (Valid.of (HE.out.trans he))
       have hne:(E == 0) = true:=by simp [he]
       have HE0:=Lib.hid he
       have HIM:Hid (mostErr t ml = IE):=by exact (by rw [← HIE.out]; unfold intervalErr; rw [if_pos (HE.out.trans he)]:mostErr t ml = IE)
       have HZN:Hid (NE ≠ 0 → na = 0 ∧ nn = 0 ∧ nd = 0):=by exact (fun h=>by
        have h1:=HNE.out
        have h2:=HNA.out
        have h3:=HN.out
        unfold nextErr at h1
        unfold nextAt at h2
        unfold nextR at h3
        rw [if_pos (HE.out.trans he)] at h1 h2 h3
        cases hs:nextSame t with
        | true =>
          rw [hs] at h2 h3
          simp only [if_true] at h2 h3
          injection h3 with h3 h4
          exact ⟨by simpa using h2.symm,h3.symm,h4.symm⟩
        | false =>
          rw [hs] at h1
          exact absurd (by simpa using h1.symm) h:NE ≠ 0 → na = 0 ∧ nn = 0 ∧ nd = 0)
       clear he
       have xp:=((Ext.box w10 (.cells #[.int .i64 0,.int .i64 0] 56)).trans (Ext.box (w10.alloc (.cells #[.int .i64 0,.int .i64 0] 56)) (.cells #[.int .i64 0,.int .i64 0] 56))).trans (Ext.box ((w10.alloc (.cells #[.int .i64 0,.int .i64 0] 56)).alloc (.cells #[.int .i64 0,.int .i64 0] 56)) (.cells #[.int .i64 0,.int .i64 0,.int .i64 0,.int .i64 0] 74))
       have d0:=xp.cell c0
       have d1:=xp.cell c1
       have d2:=xp.cell c2
       clear xp
       go_wp2_with fail
       have LOB15:Hid (WB.heap.size ≤ w10.heap.size):=by exact (by have:=HX.out.size; omega:WB.heap.size ≤ w10.heap.size)
       have NEB5_B15:Hid (w4.heap.size ≠ w10.heap.size):=by exact (by have:=B5.out.lt; omega:w4.heap.size ≠ w10.heap.size)
       have NEB7_B15:Hid (w7.heap.size ≠ w10.heap.size):=by exact (by have:=B7.out.lt; omega:w7.heap.size ≠ w10.heap.size)
       have NEB10_B15:Hid (w9.heap.size ≠ w10.heap.size):=by exact (by have:=B10.out.lt; omega:w9.heap.size ≠ w10.heap.size)
       have LOB16:Hid (WB.heap.size ≤ w10.heap.size + 1):=by exact (by have:=HX.out.size; omega:WB.heap.size ≤ w10.heap.size + 1)
       have NEB5_B16:Hid (w4.heap.size ≠ w10.heap.size + 1):=by exact (by have:=B5.out.lt; omega:w4.heap.size ≠ w10.heap.size + 1)
       have NEB7_B16:Hid (w7.heap.size ≠ w10.heap.size + 1):=by exact (by have:=B7.out.lt; omega:w7.heap.size ≠ w10.heap.size + 1)
       have NEB10_B16:Hid (w9.heap.size ≠ w10.heap.size + 1):=by exact (by have:=B10.out.lt; omega:w9.heap.size ≠ w10.heap.size + 1)
       have LOB17:Hid (WB.heap.size ≤ w10.heap.size + 1 + 1):=by exact (by have:=HX.out.size; omega:WB.heap.size ≤ w10.heap.size + 1 + 1)
       have NEB5_B17:Hid (w4.heap.size ≠ w10.heap.size + 1 + 1):=by exact (by have:=B5.out.lt; omega:w4.heap.size ≠ w10.heap.size + 1 + 1)
       have NEB7_B17:Hid (w7.heap.size ≠ w10.heap.size + 1 + 1):=by exact (by have:=B7.out.lt; omega:w7.heap.size ≠ w10.heap.size + 1 + 1)
       have NEB10_B17:Hid (w9.heap.size ≠ w10.heap.size + 1 + 1):=by exact (by have:=B10.out.lt; omega:w9.heap.size ≠ w10.heap.size + 1 + 1)
       have NEB15_B16:Hid (w10.heap.size ≠ w10.heap.size + 1):=by exact (by omega:w10.heap.size ≠ w10.heap.size + 1)
       have NEB15_B17:Hid (w10.heap.size ≠ w10.heap.size + 1 + 1):=by exact (by omega:w10.heap.size ≠ w10.heap.size + 1 + 1)
       have NEB16_B17:Hid (w10.heap.size + 1 ≠ w10.heap.size + 1 + 1):=by exact (by omega:w10.heap.size + 1 ≠ w10.heap.size + 1 + 1)
       clear d0 d1 d2
       skip
       change Calls _ _ _ (((w10.alloc (.cells #[.int .i64 0,.int .i64 0] 56)).alloc (.cells #[.int .i64 0,.int .i64 0] 56)).alloc (.cells #[.int .i64 0,.int .i64 0,.int .i64 0,.int .i64 0] 74)) _
       have k0:=Blk.made w10 56 #[.int .i64 0,.int .i64 0]
       have x0:=Ext.box w10 (.cells #[.int .i64 0,.int .i64 0] 56)
       have es0:(w10.alloc (.cells #[.int .i64 0,.int .i64 0] 56)).heap.size = w10.heap.size + 1:=by simp
       obtain ⟨X0,hX0⟩:∃ X,w10.alloc (.cells #[.int .i64 0,.int .i64 0] 56) = X:=⟨_,rfl⟩
       rw [hX0] at k0 x0 es0 ⊢
       clear hX0
       have k1:=Blk.made X0 56 #[.int .i64 0,.int .i64 0]
       have x1:=Ext.box X0 (.cells #[.int .i64 0,.int .i64 0] 56)
       have es1:(X0.alloc (.cells #[.int .i64 0,.int .i64 0] 56)).heap.size = X0.heap.size + 1:=by simp
       obtain ⟨X1,hX1⟩:∃ X,X0.alloc (.cells #[.int .i64 0,.int .i64 0] 56) = X:=⟨_,rfl⟩
       rw [hX1] at k1 x1 es1 ⊢
       clear hX1
       have k2:=Blk.made X1 74 #[.int .i64 0,.int .i64 0,.int .i64 0,.int .i64 0]
       have x2:=Ext.box X1 (.cells #[.int .i64 0,.int .i64 0,.int .i64 0,.int .i64 0] 74)
       have es2:(X1.alloc (.cells #[.int .i64 0,.int .i64 0,.int .i64 0,.int .i64 0] 74)).heap.size = X1.heap.size + 1:=by simp
       obtain ⟨X2,hX2⟩:∃ X,X1.alloc (.cells #[.int .i64 0,.int .i64 0,.int .i64 0,.int .i64 0] 74) = X:=⟨_,rfl⟩
       rw [hX2] at k2 x2 es2 ⊢
       clear hX2
       replace k0:=(k0.ext x1).ext x2
       replace k1:=k1.ext x2
       have e0:X0.heap.size = w10.heap.size + 1:=by omega
       have e1:X1.heap.size = w10.heap.size + 1 + 1:=by omega
       have e2:X2.heap.size = w10.heap.size + 1 + 1 + 1:=by omega
       rw [e0] at k1
       rw [e1] at k2
       have HXW:Hid (Ext w10 X2):=by exact (Ext.trans (Ext.trans (x0) x1) x2:Ext w10 X2)
       have eW:X2.heap.size = w10.heap.size + 1 + 1 + 1:=e2
       clear x0 es0 e0 x1 es1 e1 x2 es2 e2
       obtain ⟨W,hWW⟩:∃ W,X2 = W:=⟨_,rfl⟩
       rw [hWW] at HXW eW ⊢ k0 k1 k2
       clear hWW
       refine (rB _ _ t bn bd HB.out (HE.out.trans HE0.out) ⟨_,_,_,rfl,HT.out.ext HXW.out⟩).mono ?_
       rintro e w11 ⟨rfl,hx⟩
       have hxx:Ext w10 w11:=HXW.out.trans hx
       replace HX:=Lib.hid (HX.out.trans hxx)
       replace HT:=Lib.hid (HT.out.ext hxx)
       replace c0:=hxx.cell c0
       replace c1:=hxx.cell c1
       replace c2:=hxx.cell c2
       replace HTAB:=Lib.hid (HTAB.out.ext hxx)
       replace K0:=Lib.hid (K0.out.ext hxx)
       replace HLml:=Lib.hid (HLml.out.ext hxx)
       replace B5:=Lib.hid (B5.out.ext hxx)
       replace B7:=Lib.hid (B7.out.ext hxx)
       replace B10:=Lib.hid (B10.out.ext hxx)
       have B15:=Lib.hid (k0.ext hx)
       have B16:=Lib.hid (k1.ext hx)
       have B17:=Lib.hid (k2.ext hx)
       clear hx hxx HXW eW k0 k1 k2
       go_wp2_with (first | (refine wpList_store_blk rfl _ _ 56 rfl Tryz.sizeRat rfl rfl B15.out rfl rfl ?_ ?_; (focus (intro u hu; simp only [List.mem_cons,List.not_mem_nil,or_false] at hu; rcases hu with rfl | rfl <;> rfl)); intro w12 hb hl ho; refine halted ?_))
       have HXn:Hid (Ext WB w12):=by exact (Below.trans HX.out (hl _ LOB15.out):Ext WB w12)
       replace HX:=HXn
       clear HXn
       replace HT:=Lib.hid (HT0.out.ext (HW0.out.trans HX.out))
       replace HTAB:=Lib.hid (HTAB0.out.ext (HW0.out.trans HX.out))
       replace HLml:=Lib.hid (HL0ml.out.ext (HW0.out.trans HX.out))
       replace K0:=Lib.hid (K0.out.only (by have:=LOB15.out; omega) ho)
       replace B5:=Lib.hid (B5.out.only NEB5_B15.out ho)
       replace B7:=Lib.hid (B7.out.only NEB7_B15.out ho)
       replace B10:=Lib.hid (B10.out.only NEB10_B15.out ho)
       replace B16:=Lib.hid (B16.out.only (NEB15_B16.out).symm ho)
       replace B17:=Lib.hid (B17.out.only (NEB15_B17.out).symm ho)
       replace B15:=Lib.hid hb
       clear hb hl ho
       have c0:=K0.out.cell 0
       have c1:=K0.out.cell 1
       have c2:=K0.out.cell 2
       simp only [List.getElem?_toArray,List.getElem?_cons_zero,List.getElem?_cons_succ] at c0 c1 c2
       unfold Halted
       go_wp2_with fail
       refine (rN _ _ t na nn nd NE HNA.out HN.out HNE.out (HE.out.trans HE0.out) ⟨_,_,_,rfl,HT.out⟩).mono ?_
       rintro e w13 ⟨rfl,hx⟩
       have hxx:Ext w12 w13:=hx
       replace HX:=Lib.hid (HX.out.trans hxx)
       replace HT:=Lib.hid (HT.out.ext hxx)
       replace c0:=hxx.cell c0
       replace c1:=hxx.cell c1
       replace c2:=hxx.cell c2
       replace HTAB:=Lib.hid (HTAB.out.ext hxx)
       replace K0:=Lib.hid (K0.out.ext hxx)
       replace HLml:=Lib.hid (HLml.out.ext hxx)
       replace B5:=Lib.hid (B5.out.ext hxx)
       replace B7:=Lib.hid (B7.out.ext hxx)
       replace B10:=Lib.hid (B10.out.ext hxx)
       replace B15:=Lib.hid (B15.out.ext hxx)
       replace B16:=Lib.hid (B16.out.ext hxx)
       replace B17:=Lib.hid (B17.out.ext hxx)
       clear hx hxx
       go_wp2_with (first | (refine wpList_store_blk rfl _ _ 56 rfl Tryz.sizeRat rfl rfl B16.out rfl rfl ?_ ?_; (focus (intro u hu; simp only [List.mem_cons,List.not_mem_nil,or_false] at hu; rcases hu with rfl | rfl <;> rfl)); intro w14 hb hl ho; refine halted ?_))
       have HXn:Hid (Ext WB w14):=by exact (Below.trans HX.out (hl _ LOB16.out):Ext WB w14)
       replace HX:=HXn
       clear HXn
       replace HT:=Lib.hid (HT0.out.ext (HW0.out.trans HX.out))
       replace HTAB:=Lib.hid (HTAB0.out.ext (HW0.out.trans HX.out))
       replace HLml:=Lib.hid (HL0ml.out.ext (HW0.out.trans HX.out))
       replace K0:=Lib.hid (K0.out.only (by have:=LOB16.out; omega) ho)
       replace B5:=Lib.hid (B5.out.only NEB5_B16.out ho)
       replace B7:=Lib.hid (B7.out.only NEB7_B16.out ho)
       replace B10:=Lib.hid (B10.out.only NEB10_B16.out ho)
       replace B15:=Lib.hid (B15.out.only NEB15_B16.out ho)
       replace B17:=Lib.hid (B17.out.only (NEB16_B17.out).symm ho)
       replace B16:=Lib.hid hb
       clear hb hl ho
       have c0:=K0.out.cell 0
       have c1:=K0.out.cell 1
       have c2:=K0.out.cell 2
       simp only [List.getElem?_toArray,List.getElem?_cons_zero,List.getElem?_cons_succ] at c0 c1 c2
       unfold Halted
       go_wp2_with fail
       refine (rCheckMost_any _ _ _ t ml ⟨_,_,_,rfl,HT.out⟩ HLml.out (by have:=HV.out.size; omega)).mono ?_
       rintro e w15 ⟨rfl,hx⟩
       have hxx:Ext w14 w15:=hx
       replace HX:=Lib.hid (HX.out.trans hxx)
       replace HT:=Lib.hid (HT.out.ext hxx)
       replace c0:=hxx.cell c0
       replace c1:=hxx.cell c1
       replace c2:=hxx.cell c2
       replace HTAB:=Lib.hid (HTAB.out.ext hxx)
       replace K0:=Lib.hid (K0.out.ext hxx)
       replace HLml:=Lib.hid (HLml.out.ext hxx)
       replace B5:=Lib.hid (B5.out.ext hxx)
       replace B7:=Lib.hid (B7.out.ext hxx)
       replace B10:=Lib.hid (B10.out.ext hxx)
       replace B15:=Lib.hid (B15.out.ext hxx)
       replace B16:=Lib.hid (B16.out.ext hxx)
       replace B17:=Lib.hid (B17.out.ext hxx)
       clear hx hxx
       rw [HIM.out]
       by_cases hi0:IE = 0
       · have hni:(IE == 0) = true:=by simp [hi0]
         have HMS:=Lib.hid (most_small (HIM.out.trans hi0) HV.out.size)
         have HLQ:Hid (probOf t t.chances = ⟨ln,ld⟩):=by exact (by rw [← low_eq (HIE.out.trans hi0),HLO.out]:probOf t t.chances = ⟨ln,ld⟩)
         have HUQ:Hid (probOf t ml = ⟨un,ud⟩):=by exact (by rw [← high_eq (HIE.out.trans hi0) HMS.out.1,HUP.out]:probOf t ml = ⟨un,ud⟩)
         have hsz:=HV.out.size
         have hdr:=(Ext.refl w15).drew
         clear hi0 c0 c1 c2
         go_wp2
         refine Flow.regionB [.world,.world,.world,.plain,.world,.plain,.last] [0,1,2,3,4,5,6] [[],[0],[],[],[0,1,2,3],[0,1,2,3,4],[0,1,2,3,4,5]] [6]
          [.is 0 (fun v=>.agg #[.slice A t.basics.length capa,.slice B t.causes.length capb,.slice G t.gates.length capg]),.is 1 (fun v=>.agg #[.int .i64 ln,.int .i64 ld]),.is 2 (fun v=>.agg #[.slice A t.basics.length capa,.slice B t.causes.length capb,.slice G t.gates.length capg]),.is 3 (fun v=>.slice Aml ml.length capml),.is 4 (fun v=>.agg #[.int .i64 un,.int .i64 ud]),.is 5 (fun v=>.agg (encR2 ⟨ln,ld⟩ ⟨un,ud⟩)),.none]
          [fun v w1 w'=>Blk w' (w10.heap.size + 1 + 1) 74 #[.int .i64 ln,.int .i64 ld,.int .i64 un,.int .i64 ud] ∧ (∀ n,n ≤ w10.heap.size + 1 + 1 → Below n w1 w') ∧ ∀ k,k ≠ w10.heap.size + 1 + 1 → w'.heap[k]? = w1.heap[k]?] (by kernel_rfl) rfl (by kernel_rfl) ⟨?g0,?g1,?g2,?g3,?g4,?g5,?g6,trivial⟩ ?post
         case g0 =>
          intro v w1 hx
          intro bb hbb
          intro K hK
          have o1:bb.eval (.tmp 2) = .pointer (some ⟨w.heap.size,0,none⟩):=by rw [hbb]; dsimp only; (try simp (discharger:=decide) only [eval_put_ne]); rfl
          exact gives_load_blk (.tmp 2) _ rfl Tryz.aggRTree Tryz.sizeRTree o1 (K0.out.ext (hdr.trans hx)) rfl (hK _ _ (Ext.refl _) rfl)
         case g1 =>
          intro v w1 hx (q0:v 0 = .agg #[.slice A t.basics.length capa,.slice B t.causes.length capb,.slice G t.gates.length capg])
          intro bb hbb
          subst hbb
          intro K hK
          go_simp
          refine gives_call (rChance w1 _ t ln ld HLQ.out HV.out ⟨_,_,_,rfl,HT.out.ext (hdr.trans hx)⟩) ?_
          rintro e w2 ⟨rfl,hx2⟩
          exact ⟨_,rfl,hK _ _ hx2 rfl⟩
         case g2 =>
          intro v w1 hx
          intro bb hbb
          intro K hK
          have o1:bb.eval (.tmp 2) = .pointer (some ⟨w.heap.size,0,none⟩):=by rw [hbb]; dsimp only; (try simp (discharger:=decide) only [eval_put_ne]); rfl
          exact gives_load_blk (.tmp 2) _ rfl Tryz.aggRTree Tryz.sizeRTree o1 (K0.out.ext (hdr.trans hx)) rfl (hK _ _ (Ext.refl _) rfl)
         case g3 =>
          intro v w1 hx
          intro bb hbb
          subst hbb
          refine ⟨_,fun w=>?_,rfl⟩
          go_simp
         case g4 =>
          intro v w1 hx (q0:v 0 = .agg #[.slice A t.basics.length capa,.slice B t.causes.length capb,.slice G t.gates.length capg]) (q1:v 1 = .agg #[.int .i64 ln,.int .i64 ld]) (q2:v 2 = .agg #[.slice A t.basics.length capa,.slice B t.causes.length capb,.slice G t.gates.length capg]) (q3:v 3 = .slice Aml ml.length capml)
          intro bb hbb
          subst hbb
          intro K hK
          go_simp
          refine gives_call (rP w1 _ _ t ml un ud HUQ.out HV.out HMS.out.2 ⟨_,_,_,rfl,HT.out.ext (hdr.trans hx)⟩ (HLml.out.ext (hdr.trans hx))) ?_
          rintro e w2 ⟨rfl,hx2⟩
          exact ⟨_,rfl,hK _ _ hx2 rfl⟩
         case g5 =>
          intro v w1 hx (q0:v 0 = .agg #[.slice A t.basics.length capa,.slice B t.causes.length capb,.slice G t.gates.length capg]) (q1:v 1 = .agg #[.int .i64 ln,.int .i64 ld]) (q2:v 2 = .agg #[.slice A t.basics.length capa,.slice B t.causes.length capb,.slice G t.gates.length capg]) (q3:v 3 = .slice Aml ml.length capml) (q4:v 4 = .agg #[.int .i64 un,.int .i64 ud])
          intro bb hbb
          have o1:bb.eval (.tmp 73) = .agg (encR ⟨ln,ld⟩):=by rw [hbb]; dsimp only; (try simp (discharger:=decide) only [eval_put_ne]); rw [eval_put_eq (by simp only [size_put]; exact (by decide:73 < 107))]; exact q1
          have o2:bb.eval (.tmp 76) = .agg (encR ⟨un,ud⟩):=by rw [hbb]; dsimp only; (try simp (discharger:=decide) only [eval_put_ne]); rw [eval_put_eq (by simp only [size_put]; exact (by decide:76 < 107))]; exact q4
          exact ⟨.agg (encR2 ⟨ln,ld⟩ ⟨un,ud⟩),fun w=>run_build_op (.tmp 73) (.tmp 76) rfl ⟨ln,ld⟩ ⟨un,ud⟩ o1 o2,rfl⟩
         case g6 =>
          intro v w1 hx (q0:v 0 = .agg #[.slice A t.basics.length capa,.slice B t.causes.length capb,.slice G t.gates.length capg]) (q1:v 1 = .agg #[.int .i64 ln,.int .i64 ld]) (q2:v 2 = .agg #[.slice A t.basics.length capa,.slice B t.causes.length capb,.slice G t.gates.length capg]) (q3:v 3 = .slice Aml ml.length capml) (q4:v 4 = .agg #[.int .i64 un,.int .i64 ud]) (q5:v 5 = .agg (encR2 ⟨ln,ld⟩ ⟨un,ud⟩))
          intro wl hT
          obtain rfl:wl = w1:=hT
          intro bb hbb
          intro K hK
          have o1:bb.eval (.tmp 17) = .pointer (some ⟨w10.heap.size + 1 + 1,0,none⟩):=by rw [hbb]; dsimp only; (try simp (discharger:=decide) only [eval_put_ne]); rfl
          have o2:bb.eval (.tmp 77) = .agg (encR2 ⟨ln,ld⟩ ⟨un,ud⟩):=by rw [hbb]; dsimp only; (try simp (discharger:=decide) only [eval_put_ne]); rw [eval_put_eq (by simp only [size_put]; exact (by decide:77 < 107))]; exact q5
          exact gives_store_blk (.tmp 17) (.tmp 77) _ rfl Tryz.sizeR2 o1 o2 (B17.out.ext (hdr.trans hx)) rfl rfl (encR2_one _ _) (fun vv w' hb hl ho=>hK _ _ ⟨hb,hl,ho⟩)
         case post =>
          intro v w1 hx (q0:v 0 = .agg #[.slice A t.basics.length capa,.slice B t.causes.length capb,.slice G t.gates.length capg]) (q1:v 1 = .agg #[.int .i64 ln,.int .i64 ld]) (q2:v 2 = .agg #[.slice A t.basics.length capa,.slice B t.causes.length capb,.slice G t.gates.length capg]) (q3:v 3 = .slice Aml ml.length capml) (q4:v 4 = .agg #[.int .i64 un,.int .i64 ud]) (q5:v 5 = .agg (encR2 ⟨ln,ld⟩ ⟨un,ud⟩))
          intro w2 hE
          replace hE:(fun v w1 w'=>Blk w' (w10.heap.size + 1 + 1) 74 #[.int .i64 ln,.int .i64 ld,.int .i64 un,.int .i64 ud] ∧ (∀ n,n ≤ w10.heap.size + 1 + 1 → Below n w1 w') ∧ ∀ k,k ≠ w10.heap.size + 1 + 1 → w'.heap[k]? = w1.heap[k]?) v w1 w2:=hE
          simp only [Flow.acts,Act.put]
          go_simp
          obtain ⟨hb,hl,ho⟩:=hE
          have hxx:=hdr.trans hx
          replace HX:=Lib.hid (HX.out.trans hxx)
          replace K0:=Lib.hid (K0.out.ext hxx)
          replace B5:=Lib.hid (B5.out.ext hxx)
          replace B7:=Lib.hid (B7.out.ext hxx)
          replace B10:=Lib.hid (B10.out.ext hxx)
          replace B15:=Lib.hid (B15.out.ext hxx)
          replace B16:=Lib.hid (B16.out.ext hxx)
          replace B17:=Lib.hid (B17.out.ext hxx)
          obtain ⟨w16,hww⟩:∃ X,w2 = X:=⟨_,rfl⟩
          rw [hww] at hb hl ho ⊢
          clear hww
          have HXn:Hid (Ext WB w16):=by exact (Below.trans HX.out (hl _ LOB17.out):Ext WB w16)
          replace HX:=HXn
          clear HXn
          replace HT:=Lib.hid (HT0.out.ext (HW0.out.trans HX.out))
          replace HTAB:=Lib.hid (HTAB0.out.ext (HW0.out.trans HX.out))
          replace HLml:=Lib.hid (HL0ml.out.ext (HW0.out.trans HX.out))
          replace K0:=Lib.hid (K0.out.only (by have:=LOB17.out; omega) ho)
          replace B5:=Lib.hid (B5.out.only NEB5_B17.out ho)
          replace B7:=Lib.hid (B7.out.only NEB7_B17.out ho)
          replace B10:=Lib.hid (B10.out.only NEB10_B17.out ho)
          replace B15:=Lib.hid (B15.out.only NEB15_B17.out ho)
          replace B16:=Lib.hid (B16.out.only NEB16_B17.out ho)
          replace B17:=Lib.hid hb
          clear hb hl ho hxx hx hdr q0 q1 q2 q3 q4 q5
          have c0:=K0.out.cell 0
          have c1:=K0.out.cell 1
          have c2:=K0.out.cell 2
          simp only [List.getElem?_toArray,List.getElem?_cons_zero,List.getElem?_cons_succ] at c0 c1 c2
          have b5_0:=B5.out.cell 0
          have b5_1:=B5.out.cell 1
          have b15_0:=B15.out.cell 0
          have b15_1:=B15.out.cell 1
          simp only [List.getElem?_toArray,List.getElem?_cons_zero,List.getElem?_cons_succ] at b5_0 b5_1 b15_0 b15_1
          clear c0 c1 c2
          go_wp2_with fail
          refine (ratio_ok _ E bn bd bn bd (fun _=>⟨rfl,rfl⟩) (fun h=>absurd HE0.out h)).mono ?_
          rintro e w17 ⟨rfl,hx⟩
          have hxx:Ext w16 w17:=hx
          replace HX:=Lib.hid (HX.out.trans hxx)
          replace HT:=Lib.hid (HT.out.ext hxx)
          replace HTAB:=Lib.hid (HTAB.out.ext hxx)
          replace K0:=Lib.hid (K0.out.ext hxx)
          replace HLml:=Lib.hid (HLml.out.ext hxx)
          replace B5:=Lib.hid (B5.out.ext hxx)
          replace B7:=Lib.hid (B7.out.ext hxx)
          replace B10:=Lib.hid (B10.out.ext hxx)
          replace B15:=Lib.hid (B15.out.ext hxx)
          replace B16:=Lib.hid (B16.out.ext hxx)
          replace B17:=Lib.hid (B17.out.ext hxx)
          clear hx hxx
          clear b5_0 b5_1 b15_0 b15_1
          have b7_0:=B7.out.cell 0
          have b7_1:=B7.out.cell 1
          have b7_2:=B7.out.cell 2
          have b7_3:=B7.out.cell 3
          have b17_0:=B17.out.cell 0
          have b17_1:=B17.out.cell 1
          have b17_2:=B17.out.cell 2
          have b17_3:=B17.out.cell 3
          simp only [List.getElem?_toArray,List.getElem?_cons_zero,List.getElem?_cons_succ] at b7_0 b7_1 b7_2 b7_3 b17_0 b17_1 b17_2 b17_3
          go_wp2_with fail
          refine (number_ok _ NE na na (fun _=>rfl) (fun h=>(HZN.out h).1)).mono ?_
          rintro e w18 ⟨rfl,hx⟩
          have hxx:Ext w17 w18:=hx
          replace HX:=Lib.hid (HX.out.trans hxx)
          replace HT:=Lib.hid (HT.out.ext hxx)
          replace HTAB:=Lib.hid (HTAB.out.ext hxx)
          replace K0:=Lib.hid (K0.out.ext hxx)
          replace HLml:=Lib.hid (HLml.out.ext hxx)
          replace B5:=Lib.hid (B5.out.ext hxx)
          replace B7:=Lib.hid (B7.out.ext hxx)
          replace B10:=Lib.hid (B10.out.ext hxx)
          replace B15:=Lib.hid (B15.out.ext hxx)
          replace B16:=Lib.hid (B16.out.ext hxx)
          replace B17:=Lib.hid (B17.out.ext hxx)
          clear hx hxx
          clear b7_0 b7_1 b7_2 b7_3 b17_0 b17_1 b17_2 b17_3
          have b10_0:=B10.out.cell 0
          have b10_1:=B10.out.cell 1
          have b16_0:=B16.out.cell 0
          have b16_1:=B16.out.cell 1
          simp only [List.getElem?_toArray,List.getElem?_cons_zero,List.getElem?_cons_succ] at b10_0 b10_1 b16_0 b16_1
          go_wp2_with fail
          refine (ratio_ok _ NE nn nd nn nd (fun _=>⟨rfl,rfl⟩) (fun h=>(HZN.out h).2)).mono ?_
          rintro e w19 ⟨rfl,hx⟩
          have hxx:Ext w18 w19:=hx
          replace HX:=Lib.hid (HX.out.trans hxx)
          replace HT:=Lib.hid (HT.out.ext hxx)
          replace HTAB:=Lib.hid (HTAB.out.ext hxx)
          replace K0:=Lib.hid (K0.out.ext hxx)
          replace HLml:=Lib.hid (HLml.out.ext hxx)
          replace B5:=Lib.hid (B5.out.ext hxx)
          replace B7:=Lib.hid (B7.out.ext hxx)
          replace B10:=Lib.hid (B10.out.ext hxx)
          replace B15:=Lib.hid (B15.out.ext hxx)
          replace B16:=Lib.hid (B16.out.ext hxx)
          replace B17:=Lib.hid (B17.out.ext hxx)
          clear hx hxx
          go_wp2
          go_ret
          exact ⟨rfl,HW0.out.trans HX.out⟩
       · have hni:(IE == 0) = false:=by simp [hi0]
         have HZI:Hid ((⟨ln,ld⟩:Ratio) = ⟨0,0⟩ ∧ (⟨un,ud⟩:Ratio) = ⟨0,0⟩):=by exact (⟨by rw [← HLO.out]; unfold lowR; rw [HIE.out,if_neg hi0],by rw [← HUP.out]; unfold highR; rw [HIE.out,if_neg hi0]⟩:(⟨ln,ld⟩:Ratio) = ⟨0,0⟩ ∧ (⟨un,ud⟩:Ratio) = ⟨0,0⟩)
         obtain ⟨hz1,hz2⟩:=HZI.out
         injection hz1 with hz3 hz4
         injection hz2 with hz5 hz6
         rw [hz3,hz4,hz5,hz6] at B7
         clear hi0 hz3 hz4 hz5 hz6 HZI
         have b5_0:=B5.out.cell 0
         have b5_1:=B5.out.cell 1
         have b15_0:=B15.out.cell 0
         have b15_1:=B15.out.cell 1
         simp only [List.getElem?_toArray,List.getElem?_cons_zero,List.getElem?_cons_succ] at b5_0 b5_1 b15_0 b15_1
         clear c0 c1 c2
         go_wp2_with fail
         refine (ratio_ok _ E bn bd bn bd (fun _=>⟨rfl,rfl⟩) (fun h=>absurd HE0.out h)).mono ?_
         rintro e w16 ⟨rfl,hx⟩
         have hxx:Ext w15 w16:=hx
         replace HX:=Lib.hid (HX.out.trans hxx)
         replace HT:=Lib.hid (HT.out.ext hxx)
         replace HTAB:=Lib.hid (HTAB.out.ext hxx)
         replace K0:=Lib.hid (K0.out.ext hxx)
         replace HLml:=Lib.hid (HLml.out.ext hxx)
         replace B5:=Lib.hid (B5.out.ext hxx)
         replace B7:=Lib.hid (B7.out.ext hxx)
         replace B10:=Lib.hid (B10.out.ext hxx)
         replace B15:=Lib.hid (B15.out.ext hxx)
         replace B16:=Lib.hid (B16.out.ext hxx)
         replace B17:=Lib.hid (B17.out.ext hxx)
         clear hx hxx
         clear b5_0 b5_1 b15_0 b15_1
         have b7_0:=B7.out.cell 0
         have b7_1:=B7.out.cell 1
         have b7_2:=B7.out.cell 2
         have b7_3:=B7.out.cell 3
         have b17_0:=B17.out.cell 0
         have b17_1:=B17.out.cell 1
         have b17_2:=B17.out.cell 2
         have b17_3:=B17.out.cell 3
         simp only [List.getElem?_toArray,List.getElem?_cons_zero,List.getElem?_cons_succ] at b7_0 b7_1 b7_2 b7_3 b17_0 b17_1 b17_2 b17_3
         go_wp2_with fail
         refine (number_ok _ NE na na (fun _=>rfl) (fun h=>(HZN.out h).1)).mono ?_
         rintro e w17 ⟨rfl,hx⟩
         have hxx:Ext w16 w17:=hx
         replace HX:=Lib.hid (HX.out.trans hxx)
         replace HT:=Lib.hid (HT.out.ext hxx)
         replace HTAB:=Lib.hid (HTAB.out.ext hxx)
         replace K0:=Lib.hid (K0.out.ext hxx)
         replace HLml:=Lib.hid (HLml.out.ext hxx)
         replace B5:=Lib.hid (B5.out.ext hxx)
         replace B7:=Lib.hid (B7.out.ext hxx)
         replace B10:=Lib.hid (B10.out.ext hxx)
         replace B15:=Lib.hid (B15.out.ext hxx)
         replace B16:=Lib.hid (B16.out.ext hxx)
         replace B17:=Lib.hid (B17.out.ext hxx)
         clear hx hxx
         clear b7_0 b7_1 b7_2 b7_3 b17_0 b17_1 b17_2 b17_3
         have b10_0:=B10.out.cell 0
         have b10_1:=B10.out.cell 1
         have b16_0:=B16.out.cell 0
         have b16_1:=B16.out.cell 1
         simp only [List.getElem?_toArray,List.getElem?_cons_zero,List.getElem?_cons_succ] at b10_0 b10_1 b16_0 b16_1
         go_wp2_with fail
         refine (ratio_ok _ NE nn nd nn nd (fun _=>⟨rfl,rfl⟩) (fun h=>(HZN.out h).2)).mono ?_
         rintro e w18 ⟨rfl,hx⟩
         have hxx:Ext w17 w18:=hx
         replace HX:=Lib.hid (HX.out.trans hxx)
         replace HT:=Lib.hid (HT.out.ext hxx)
         replace HTAB:=Lib.hid (HTAB.out.ext hxx)
         replace K0:=Lib.hid (K0.out.ext hxx)
         replace HLml:=Lib.hid (HLml.out.ext hxx)
         replace B5:=Lib.hid (B5.out.ext hxx)
         replace B7:=Lib.hid (B7.out.ext hxx)
         replace B10:=Lib.hid (B10.out.ext hxx)
         replace B15:=Lib.hid (B15.out.ext hxx)
         replace B16:=Lib.hid (B16.out.ext hxx)
         replace B17:=Lib.hid (B17.out.ext hxx)
         clear hx hxx
         go_wp2
         go_ret
         exact ⟨rfl,HW0.out.trans HX.out⟩
     · have hne:(E == 0) = false:=by simp [he]
       have HE0:=Lib.hid he
       have het:t.err ≠ 0:=by rw [HE.out]; exact he
       have HIQ:Hid (IE = E):=by exact (by rw [← HIE.out]; unfold intervalErr; rw [if_neg het,HE.out]:IE = E)
       have HNQ:Hid (NE = E):=by exact (by rw [← HNE.out]; unfold nextErr; rw [if_neg het,HE.out]:NE = E)
       have HNZ:Hid (na = 0):=by exact (by rw [← HNA.out]; unfold nextAt; rw [if_neg het]; rfl:na = 0)
       have HZI:Hid ((⟨ln,ld⟩:Ratio) = ⟨0,0⟩ ∧ (⟨un,ud⟩:Ratio) = ⟨0,0⟩):=by exact (⟨by rw [← HLO.out]; unfold lowR; rw [HIE.out,HIQ.out,if_neg he],by rw [← HUP.out]; unfold highR; rw [HIE.out,HIQ.out,if_neg he]⟩:(⟨ln,ld⟩:Ratio) = ⟨0,0⟩ ∧ (⟨un,ud⟩:Ratio) = ⟨0,0⟩)
       have HZB:Hid (bn = 0 ∧ bd = 0):=by exact (by have h:=HB.out; unfold boundR at h; rw [if_neg het] at h; injection h with h1 h2; exact ⟨h1.symm,h2.symm⟩:bn = 0 ∧ bd = 0)
       have HZN:Hid (nn = 0 ∧ nd = 0):=by exact (by have h:=HN.out; unfold nextR at h; rw [if_neg het] at h; injection h with h1 h2; exact ⟨h1.symm,h2.symm⟩:nn = 0 ∧ nd = 0)
       obtain ⟨hz1,hz2⟩:=HZI.out
       injection hz1 with hz3 hz4
       injection hz2 with hz5 hz6
       rw [hz3,hz4,hz5,hz6] at B7
       rw [HIQ.out,HNQ.out]
       clear he het hz3 hz4 hz5 hz6 HZI hII
       have b5_0:=B5.out.cell 0
       have b5_1:=B5.out.cell 1
       simp only [List.getElem?_toArray,List.getElem?_cons_zero,List.getElem?_cons_succ] at b5_0 b5_1
       replace b5_0:=(((Ext.box w10 (.cells #[.int .i64 0,.int .i64 0] 56)).trans (Ext.box _ (.cells #[.int .i64 0,.int .i64 0] 56))).trans (Ext.box _ (.cells #[.int .i64 0,.int .i64 0,.int .i64 0,.int .i64 0] 74))).cell b5_0
       replace b5_1:=(((Ext.box w10 (.cells #[.int .i64 0,.int .i64 0] 56)).trans (Ext.box _ (.cells #[.int .i64 0,.int .i64 0] 56))).trans (Ext.box _ (.cells #[.int .i64 0,.int .i64 0,.int .i64 0,.int .i64 0] 74))).cell b5_1
       clear c0 c1 c2
       go_wp2_with fail
       have LOB15:Hid (WB.heap.size ≤ w10.heap.size):=by exact (by have:=HX.out.size; omega:WB.heap.size ≤ w10.heap.size)
       have NEB5_B15:Hid (w4.heap.size ≠ w10.heap.size):=by exact (by have:=B5.out.lt; omega:w4.heap.size ≠ w10.heap.size)
       have NEB7_B15:Hid (w7.heap.size ≠ w10.heap.size):=by exact (by have:=B7.out.lt; omega:w7.heap.size ≠ w10.heap.size)
       have NEB10_B15:Hid (w9.heap.size ≠ w10.heap.size):=by exact (by have:=B10.out.lt; omega:w9.heap.size ≠ w10.heap.size)
       have LOB16:Hid (WB.heap.size ≤ w10.heap.size + 1):=by exact (by have:=HX.out.size; omega:WB.heap.size ≤ w10.heap.size + 1)
       have NEB5_B16:Hid (w4.heap.size ≠ w10.heap.size + 1):=by exact (by have:=B5.out.lt; omega:w4.heap.size ≠ w10.heap.size + 1)
       have NEB7_B16:Hid (w7.heap.size ≠ w10.heap.size + 1):=by exact (by have:=B7.out.lt; omega:w7.heap.size ≠ w10.heap.size + 1)
       have NEB10_B16:Hid (w9.heap.size ≠ w10.heap.size + 1):=by exact (by have:=B10.out.lt; omega:w9.heap.size ≠ w10.heap.size + 1)
       have LOB17:Hid (WB.heap.size ≤ w10.heap.size + 1 + 1):=by exact (by have:=HX.out.size; omega:WB.heap.size ≤ w10.heap.size + 1 + 1)
       have NEB5_B17:Hid (w4.heap.size ≠ w10.heap.size + 1 + 1):=by exact (by have:=B5.out.lt; omega:w4.heap.size ≠ w10.heap.size + 1 + 1)
       have NEB7_B17:Hid (w7.heap.size ≠ w10.heap.size + 1 + 1):=by exact (by have:=B7.out.lt; omega:w7.heap.size ≠ w10.heap.size + 1 + 1)
       have NEB10_B17:Hid (w9.heap.size ≠ w10.heap.size + 1 + 1):=by exact (by have:=B10.out.lt; omega:w9.heap.size ≠ w10.heap.size + 1 + 1)
       have NEB15_B16:Hid (w10.heap.size ≠ w10.heap.size + 1):=by exact (by omega:w10.heap.size ≠ w10.heap.size + 1)
       have NEB15_B17:Hid (w10.heap.size ≠ w10.heap.size + 1 + 1):=by exact (by omega:w10.heap.size ≠ w10.heap.size + 1 + 1)
       have NEB16_B17:Hid (w10.heap.size + 1 ≠ w10.heap.size + 1 + 1):=by exact (by omega:w10.heap.size + 1 ≠ w10.heap.size + 1 + 1)
       skip
       change Calls _ _ _ (((w10.alloc (.cells #[.int .i64 0,.int .i64 0] 56)).alloc (.cells #[.int .i64 0,.int .i64 0] 56)).alloc (.cells #[.int .i64 0,.int .i64 0,.int .i64 0,.int .i64 0] 74)) _
       have k0:=Blk.made w10 56 #[.int .i64 0,.int .i64 0]
       have x0:=Ext.box w10 (.cells #[.int .i64 0,.int .i64 0] 56)
       have es0:(w10.alloc (.cells #[.int .i64 0,.int .i64 0] 56)).heap.size = w10.heap.size + 1:=by simp
       obtain ⟨X0,hX0⟩:∃ X,w10.alloc (.cells #[.int .i64 0,.int .i64 0] 56) = X:=⟨_,rfl⟩
       rw [hX0] at k0 x0 es0 ⊢
       clear hX0
       have k1:=Blk.made X0 56 #[.int .i64 0,.int .i64 0]
       have x1:=Ext.box X0 (.cells #[.int .i64 0,.int .i64 0] 56)
       have es1:(X0.alloc (.cells #[.int .i64 0,.int .i64 0] 56)).heap.size = X0.heap.size + 1:=by simp
       obtain ⟨X1,hX1⟩:∃ X,X0.alloc (.cells #[.int .i64 0,.int .i64 0] 56) = X:=⟨_,rfl⟩
       rw [hX1] at k1 x1 es1 ⊢
       clear hX1
       have k2:=Blk.made X1 74 #[.int .i64 0,.int .i64 0,.int .i64 0,.int .i64 0]
       have x2:=Ext.box X1 (.cells #[.int .i64 0,.int .i64 0,.int .i64 0,.int .i64 0] 74)
       have es2:(X1.alloc (.cells #[.int .i64 0,.int .i64 0,.int .i64 0,.int .i64 0] 74)).heap.size = X1.heap.size + 1:=by simp
       obtain ⟨X2,hX2⟩:∃ X,X1.alloc (.cells #[.int .i64 0,.int .i64 0,.int .i64 0,.int .i64 0] 74) = X:=⟨_,rfl⟩
       rw [hX2] at k2 x2 es2 ⊢
       clear hX2
       replace k0:=(k0.ext x1).ext x2
       replace k1:=k1.ext x2
       have e0:X0.heap.size = w10.heap.size + 1:=by omega
       have e1:X1.heap.size = w10.heap.size + 1 + 1:=by omega
       have e2:X2.heap.size = w10.heap.size + 1 + 1 + 1:=by omega
       rw [e0] at k1
       rw [e1] at k2
       have HXW:Hid (Ext w10 X2):=by exact (Ext.trans (Ext.trans (x0) x1) x2:Ext w10 X2)
       have eW:X2.heap.size = w10.heap.size + 1 + 1 + 1:=e2
       clear x0 es0 e0 x1 es1 e1 x2 es2 e2
       obtain ⟨W,hWW⟩:∃ W,X2 = W:=⟨_,rfl⟩
       rw [hWW] at HXW eW ⊢ k0 k1 k2
       clear hWW
       refine (ratio_ok _ E bn bd 0 0 (fun h=>absurd h HE0.out) (fun _=>HZB.out)).mono ?_
       rintro e w11 ⟨rfl,hx⟩
       have hxx:Ext w10 w11:=HXW.out.trans hx
       replace HX:=Lib.hid (HX.out.trans hxx)
       replace HT:=Lib.hid (HT.out.ext hxx)
       replace HTAB:=Lib.hid (HTAB.out.ext hxx)
       replace K0:=Lib.hid (K0.out.ext hxx)
       replace HLml:=Lib.hid (HLml.out.ext hxx)
       replace B5:=Lib.hid (B5.out.ext hxx)
       replace B7:=Lib.hid (B7.out.ext hxx)
       replace B10:=Lib.hid (B10.out.ext hxx)
       have B15:=Lib.hid (k0.ext hx)
       have B16:=Lib.hid (k1.ext hx)
       have B17:=Lib.hid (k2.ext hx)
       clear hx hxx HXW eW k0 k1 k2
       clear b5_0 b5_1
       have b7_0:=B7.out.cell 0
       have b7_1:=B7.out.cell 1
       have b7_2:=B7.out.cell 2
       have b7_3:=B7.out.cell 3
       have b17_0:=B17.out.cell 0
       have b17_1:=B17.out.cell 1
       have b17_2:=B17.out.cell 2
       have b17_3:=B17.out.cell 3
       simp only [List.getElem?_toArray,List.getElem?_cons_zero,List.getElem?_cons_succ] at b7_0 b7_1 b7_2 b7_3 b17_0 b17_1 b17_2 b17_3
       go_wp2_with fail
       refine (number_ok _ E na 0 (fun _=>HNZ.out) (fun _=>HNZ.out)).mono ?_
       rintro e w12 ⟨rfl,hx⟩
       have hxx:Ext w11 w12:=hx
       replace HX:=Lib.hid (HX.out.trans hxx)
       replace HT:=Lib.hid (HT.out.ext hxx)
       replace HTAB:=Lib.hid (HTAB.out.ext hxx)
       replace K0:=Lib.hid (K0.out.ext hxx)
       replace HLml:=Lib.hid (HLml.out.ext hxx)
       replace B5:=Lib.hid (B5.out.ext hxx)
       replace B7:=Lib.hid (B7.out.ext hxx)
       replace B10:=Lib.hid (B10.out.ext hxx)
       replace B15:=Lib.hid (B15.out.ext hxx)
       replace B16:=Lib.hid (B16.out.ext hxx)
       replace B17:=Lib.hid (B17.out.ext hxx)
       clear hx hxx
       clear b7_0 b7_1 b7_2 b7_3 b17_0 b17_1 b17_2 b17_3
       have b10_0:=B10.out.cell 0
       have b10_1:=B10.out.cell 1
       have b16_0:=B16.out.cell 0
       have b16_1:=B16.out.cell 1
       simp only [List.getElem?_toArray,List.getElem?_cons_zero,List.getElem?_cons_succ] at b10_0 b10_1 b16_0 b16_1
       go_wp2_with fail
       refine (ratio_ok _ E nn nd 0 0 (fun h=>absurd h HE0.out) (fun _=>HZN.out)).mono ?_
       rintro e w13 ⟨rfl,hx⟩
       have hxx:Ext w12 w13:=hx
       replace HX:=Lib.hid (HX.out.trans hxx)
       replace HT:=Lib.hid (HT.out.ext hxx)
       replace HTAB:=Lib.hid (HTAB.out.ext hxx)
       replace K0:=Lib.hid (K0.out.ext hxx)
       replace HLml:=Lib.hid (HLml.out.ext hxx)
       replace B5:=Lib.hid (B5.out.ext hxx)
       replace B7:=Lib.hid (B7.out.ext hxx)
       replace B10:=Lib.hid (B10.out.ext hxx)
       replace B15:=Lib.hid (B15.out.ext hxx)
       replace B16:=Lib.hid (B16.out.ext hxx)
       replace B17:=Lib.hid (B17.out.ext hxx)
       clear hx hxx
       go_wp2
       go_ret
       exact ⟨rfl,HW0.out.trans HX.out⟩
end Go.Proofs
