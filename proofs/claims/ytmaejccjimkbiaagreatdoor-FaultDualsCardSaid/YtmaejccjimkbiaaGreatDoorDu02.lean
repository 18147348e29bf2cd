/- The law FaultDuals: the call returns true. The law FaultDuals: for every input the call returns true, and each argument reads afterwards as before: the row's statement, and its tied card. The listed tables of math/bits and strconv are as the program's text lays them. -/
import Derived.Test.YtmaejccjimkbiaaGreatDoorBc46
import Derived.Test.YtmaejccjimkbiaaGreatDoorDu01
import Derived.Deep.DeepCutAuto
set_option linter.unusedVariables false
set_option linter.unusedSimpArgs false
set_option linter.constructorNameAsVariable false
namespace Go.Proofs
open Go.RowKit Go.Tw Go.Flow
theorem ValidOf.few {t:Tree} (h:t.err = 0):Few t:=by
 have hv:=Valid.of h
 have h1:=hv.size
 have h2:=hv.ng'
 unfold Tree.size at h1
 refine ⟨by omega,by omega,by omega,fun k hk=>?_,fun k hk=>?_⟩
 · have:=(hv.cause hk).2.2.1; omega
 · have:=(hv.gatep hk).2.2.1; omega
theorem lDual (w:World) (u:Value) (t:Tree) (he:t.err = 0) (hc:t.causes = []) (hu:IsTree w u t) :
    Calls Tryz.prog 27 #[u] w fun e w'=>∃ x,e = .returned (.tuple #[x,.int .i64 0]) ∧ IsTree w' x (dualOf t) ∧ Ext w w':=by
 have h0:dualErr t = 0:=by unfold dualErr; rw [he,hc]; rfl
 have h1:dualT t = dualOf t:=by unfold dualT; rw [if_pos h0]; rfl
 have h:=pDual_any w u t hu
 rw [h0,h1] at h
 exact h
theorem lDual19 (w:World) (u:Value) (t:Tree) (he:t.err = 0) (hc:0 < t.causes.length) (hu:IsTree w u t) :
    Calls Tryz.prog 27 #[u] w fun e w'=>∃ x,e = .returned (.tuple #[x,.int .i64 19]) ∧ IsTree w' x ⟨[],[],[]⟩ ∧ Ext w w':=by
 have h0:dualErr t = 19:=by unfold dualErr; rw [he,decide_eq_true hc]; rfl
 have h1:dualT t = ⟨[],[],[]⟩:=by unfold dualT; rw [h0,if_neg (by decide)]
 have h:=pDual_any w u t hu
 rw [h0,h1] at h
 exact h
theorem lChance0 (w:World) (u:Value) (t:Tree) (a b:Int) (he:t.err = 0) (hC:lowest (t.weight t.chances) (16 ^ t.size) = ⟨a,b⟩) (hu:IsTree w u t) :
    Calls Tryz.prog 29 #[u] w fun e w'=>e = .returned (.tuple #[.agg #[.int .i64 a,.int .i64 b],.int .i64 0]) ∧ Ext w w':=by
 have h:=pChance_any w u t hu
 have e:chanceR t = ⟨a,b⟩:=by
  unfold chanceR
  rw [if_pos he,weightW_zero]
  unfold powN
  rw [← hC]
  congr 1
 rw [e,he] at h
 exact h
theorem lvalid_yes (w:World) (v:Value) (t:Tree) (n:Nat) (hg:t.err = 0 ∧ Good t n) (ht:IsTree w v t) (hn:n ≤ 1000) :
    Calls Tryz.prog 12 #[v,.int .i64 n] w fun e w'=>e = .returned (.bool true) ∧ Ext w w':=by
 refine (lvalid_any w v t n ht hn).mono ?_
 rintro e w' ⟨q,rfl,_,hx,h2⟩
 cases q with
 | true=>exact ⟨rfl,hx⟩
 | false=>exact absurd hg (h2 rfl)
theorem gives_buildSlice2 {K:Value → World → Prop} {o:Oper} {a:Act} {w:World} (T E:TypeId) (x y:Operand) (ho:o.op = .buildSlice T 2 #[(0,x),(1,y)]) {u v:Value} (hx:a.eval x = u) (hy:a.eval y = v) {cs:Array Value} (hr:(Instr.buildSlice T 2 #[(0,u),(1,v)]).run Tryz.prog w = .ok (.slice (some ⟨w.heap.size,0,none⟩) 2 2) (w.alloc (.cells cs E)))
    (h:K (.slice (some ⟨w.heap.size,0,none⟩) 2 2) (w.alloc (.cells cs E))):gives Tryz.prog K ((execOp a.eval o).run Tryz.prog w):=by
 unfold execOp
 simp only [ho,hx,hy,List.map_toArray,List.map_cons,List.map_nil,Sem.run_bind,hr,Result.andThen_ok,Sem.run_pure]
 exact h
theorem run_bs_rat2 (w:World) (a b c d:Int):(Instr.buildSlice 143 2 #[(0,.agg #[.int .i64 a,.int .i64 b]),(1,.agg #[.int .i64 c,.int .i64 d])]).run Tryz.prog w = .ok (.slice (some ⟨w.heap.size,0,none⟩) 2 2) (w.alloc (.cells #[.int .i64 a,.int .i64 b,.int .i64 c,.int .i64 d] 59)):=by kernel_rfl
theorem dual_rooms {P:Tree} (hv:Valid P) (hc:P.causes = []) (hs:P.size ≤ 7) {pn pd rn rd:Int} (hp:lowest (P.weight P.chances) (16 ^ P.size) = ⟨pn,pd⟩) (hr:lowest ((dualOf P).weight (dualOf P).chances) (16 ^ (dualOf P).size) = ⟨rn,rd⟩) :
    HasRoom ⟨pn,pd⟩ ∧ HasRoom ⟨rn,rd⟩ ∧ rd = pd ∧ pn + rn = pd:=by
 have hw:=dual_weight hv hc
 have h1:=weight_le_all (t:=P) hv.small (chances_len P)
 have e:(dualOf P).weight (dualOf P).chances = 16 ^ P.size - P.weight P.chances:=by omega
 have h16:(16:Int) ^ P.size ≤ 268435456:=by
  have:(16:Nat) ^ P.size ≤ 16 ^ 7:=Nat.pow_le_pow_right (by omega) hs
  have h2:=Int.ofNat_le.2 (Nat.le_trans this (show 16 ^ 7 ≤ 268435456 by decide))
  rw [Int.natCast_pow] at h2
  exact h2
 rw [dual_size,e] at hr
 have r1:=lowest_room (n:=P.size) h1.1 h1.2 rfl
 have r2:=lowest_room (a:=16 ^ P.size - P.weight P.chances) (b:=16 ^ P.size) (n:=P.size) (by omega) (by omega) rfl
 have r3:=lowest_dual (a:=P.weight P.chances) (b:=16 ^ P.size)
 rw [hp,hr] at r3
 rw [hp] at r1
 rw [hr] at r2
 dsimp only at r1 r2 r3
 exact ⟨⟨r1.1,by show pn ≤ _; omega,r1.2.2.1,by show pd ≤ _; omega⟩,⟨r2.1,by show rn ≤ _; omega,r2.2.2.1,by show rd ≤ _; omega⟩,r3.1,r3.2⟩
theorem lSameSets (w:World) (u v:Value) (l:List (List Int)) (hu:IsIntss w u l) (hv:IsIntss w v l) :
    Calls Tryz.prog 31 #[u,v] w fun e w'=>e = .returned (.bool true) ∧ Ext w w':=by
 have h:=sameSets_any w u v l l hu hv
 rw [decide_eq_true rfl] at h
 exact h
theorem lToldFew (w:World) (v:Value) (t:Tree) (hf:Few t) (ht:IsTree w v t) :
    Calls Tryz.prog 28 #[v] w fun e w'=>∃ u,e = .returned u ∧ IsTree w' u t ∧ Ext w w':=told_any w v t ht hf.b hf.c hf.g
theorem others_setErr (n:Nat) (l:List Int):setErr (others n l) n = 0:=by
 unfold setErr
 have hp:(others n l).Pairwise (· < ·):=by
  unfold others
  refine List.Pairwise.filter _ ?_
  rw [List.pairwise_map]
  exact List.pairwise_lt_range.imp fun h=>Int.ofNat_lt.2 h
 rw [asc_of_pairwise hp,if_pos rfl,if_neg]
 unfold outB
 rw [Bool.not_eq_true,List.any_eq_false]
 intro x hx
 unfold others at hx
 obtain ⟨i,hi,rfl⟩:=List.mem_map.1 (List.mem_filter.1 hx).1
 have:=List.mem_range.1 hi
 simp only [decide_eq_true_eq]
 have e:(Int.ofNat i) = (i:Int):=rfl
 omega
theorem lFailsL (w:World) (u v:Value) (t:Tree) (l:List Int) (f:Bool) (he:t.err = 0) (hs:setErr l t.size = 0) (hf:t.fails (evL l) = f) (hu:IsTree w u t) (hv:IsInts w v l) :
    Calls Tryz.prog 22 #[u,v] w fun e w'=>e = .returned (.tuple #[.bool f,.int .i64 0]) ∧ Ext w w':=by
 have h:=pFails_any w u v t l hu hv
 have h1:treeSetErr t l = 0:=by unfold treeSetErr; rw [if_pos he]; exact hs
 have h2:failsR t l = f:=by unfold failsR; rw [if_pos h1]; exact hf
 rw [h1,h2] at h
 exact h
theorem dual_others {t:Tree} (hv:Valid t) (hc:t.causes = []) (l:List Int):(dualOf t).fails (evL (others t.size l)) = !t.fails (evL l):=by
 have hsz:t.size = t.basics.length:=by unfold Tree.size; rw [hc]; simp
 refine dual_fails hv hc fun i hi=>?_
 unfold evL others
 rw [Bool.eq_iff_iff]
 simp only [has_iff,Bool.not_eq_true',Bool.eq_false_iff,ne_eq,List.mem_filter,List.mem_map,List.mem_range]
 constructor
 · intro h
   exact h.2
 · intro h
   exact ⟨⟨i,by omega,rfl⟩,h⟩
theorem good_dual {t:Tree} (h:t.err = 0) (hc:t.causes = []) (hs:t.size ≤ 7) (hg:t.gates.length ≤ 8):Good (dualOf t) 7:=by
 have hd:=dual_err h hc
 have hv:=Valid.of hd
 have e:(dualOf t).size = t.size:=dual_size t
 have hz:=hv.size
 have hb:(dualOf t).basics.length ≤ (dualOf t).size:=by unfold Tree.size; omega
 refine ⟨by omega,by show t.causes.length ≤ 7; rw [hc]; simp,by rw [dual_glen]; exact hg,fun k hk=>?_,fun k hk=>?_,fun k hk=>?_,fun k hk=>?_,by omega⟩
 · have h1:=hv.event k hk
   unfold Tree.eventErr at h1
   rw [firstErr_zero] at h1
   have:=name_size (h1 (nameErr ((dualOf t).nameAt k)) (by simp))
   omega
 · have:(dualOf t).causes.length = 0:=by show t.causes.length = 0; rw [hc]; rfl
   omega
 · have:=kind_size (hv.kind hk); omega
 · have:=(hv.gatep hk).2.2.1; omega
set_option maxRecDepth 100000 in
set_option maxHeartbeats 16000000 in
theorem faultDuals_any (w:World) (v:Value) (t:Tree) (ht:IsTree w v t) (hT:Tab w) :
    Calls Tryz.prog 4 #[v] w fun e w'=>e = .returned (.bool true) ∧ Ext w w':=by
 obtain ⟨a,b,c,rfl,h3⟩:=ht
 obtain ⟨A,capa,rfl,hl1,hcap1,_⟩:=h3.basics.opened
 obtain ⟨B,capb,rfl,hl2,hcap2,_⟩:=h3.causes.opened
 obtain ⟨G,capg,rfl,hl3,hcap3,_⟩:=h3.gates.opened
 have HT0:=Lib.hid h3
 clear h3
 have HTAB:=Lib.hid hT
 clear hT
 go_enter Tryz.func4,Tryz.ntmps4
 go_wp2_with fail
 change Calls _ _ _ (w.alloc (.cells #[.slice A t.basics.length capa,.slice B t.causes.length capb,.slice G t.gates.length capg] 26)) _
 have k0:=Blk.made w 26 #[.slice A t.basics.length capa,.slice B t.causes.length capb,.slice G t.gates.length capg]
 have x0:=Ext.box w (.cells #[.slice A t.basics.length capa,.slice B t.causes.length capb,.slice G t.gates.length capg] 26)
 have es0:(w.alloc (.cells #[.slice A t.basics.length capa,.slice B t.causes.length capb,.slice G t.gates.length capg] 26)).heap.size = w.heap.size + 1:=by simp
 obtain ⟨X0,hX0⟩:∃ X,w.alloc (.cells #[.slice A t.basics.length capa,.slice B t.causes.length capb,.slice G t.gates.length capg] 26) = X:=⟨_,rfl⟩
 rw [hX0] at k0 x0 es0 ⊢
 clear hX0
 have e0:X0.heap.size = w.heap.size + 1:=by omega
 have HXW:Hid (Ext w X0):=by exact (x0:Ext w X0)
 have eW:X0.heap.size = w.heap.size + 1:=e0
 clear x0 es0 e0
 obtain ⟨W,hWW⟩:∃ W,X0 = W:=⟨_,rfl⟩
 rw [hWW] at HXW eW ⊢ k0
 clear hWW
 obtain ⟨WB,hWB⟩:∃ X,W = X:=⟨_,rfl⟩
 rw [hWB] at HXW eW k0 ⊢
 clear hWB
 have HT:=Lib.hid (HT0.out.ext HXW.out)
 have K0:=Lib.hid k0
 replace HTAB:=Lib.hid (HTAB.out.ext HXW.out)
 have HW0:=Lib.hid HXW.out
 have HX:=Lib.hid (Ext.refl WB)
 clear k0 HXW
 skip
 refine (awake_any _ HTAB.out).mono ?_
 rintro e w1 ⟨rfl,hx⟩
 have hxx:Ext WB w1:=hx
 replace HX:=Lib.hid (HX.out.trans hxx)
 replace HTAB:=Lib.hid (HTAB.out.ext hxx)
 replace K0:=Lib.hid (K0.out.ext hxx)
 replace HT:=Lib.hid (HT.out.ext hxx)
 clear hx hxx
 have k0_0:=K0.out.cell 0
 have k0_1:=K0.out.cell 1
 have k0_2:=K0.out.cell 2
 simp only [List.getElem?_toArray,List.getElem?_cons_zero,List.getElem?_cons_succ] at k0_0 k0_1 k0_2
 go_wp2_with fail
 clear k0_0 k0_1 k0_2
 refine (lvalid_any _ _ t 7 ⟨_,_,_,rfl,HT.out⟩ (by omega)).mono ?_
 rintro e w2 ⟨q,rfl,hq,hx,_⟩
 replace HX:=Lib.hid (HX.out.trans hx)
 replace HTAB:=Lib.hid (HTAB.out.ext hx)
 replace K0:=Lib.hid (K0.out.ext hx)
 replace HT:=Lib.hid (HT.out.ext hx)
 clear hx
 cases q with
 | false =>
   clear hq
   go_wp2_with fail
   refine (awake_any _ HTAB.out).mono ?_
   rintro e w3 ⟨rfl,hx⟩
   have hxx:Ext w2 w3:=hx
   replace HX:=Lib.hid (HX.out.trans hxx)
   replace HTAB:=Lib.hid (HTAB.out.ext hxx)
   replace K0:=Lib.hid (K0.out.ext hxx)
   replace HT:=Lib.hid (HT.out.ext hxx)
   clear hx hxx
   go_wp2
   go_ret
   exact ⟨rfl,HW0.out.trans HX.out⟩
 | true =>
   have HE:=Lib.hid (hq rfl).1
   have HF:=Lib.hid ((hq rfl).2.1.few (by omega))
   have HSZ:=Lib.hid (hq rfl).2.2
   have hg8:=(hq rfl).2.1.g8
   have hng:=(Valid.of HE.out).ng'
   have HG8:Hid (t.gates.length ≤ 8):=by exact (by omega:t.gates.length ≤ 8)
   clear hq hg8 hng
   have HPE:=Lib.hid (plain_err HE.out)
   have HPF:=Lib.hid (ValidOf.few HPE.out)
   have HPV:=Lib.hid (Valid.of HPE.out)
   have HPS:Hid ((plainT t).size ≤ 7):=by exact (by rw [plain_size]; have:=HSZ.out; unfold Tree.size at this; omega:(plainT t).size ≤ 7)
   obtain ⟨P,hP⟩:∃ P,plainT t = P:=⟨_,rfl⟩
   have HPP:=Lib.hid hP
   have HPC:Hid (P.causes = []):=by exact (by rw [← hP]; rfl:P.causes = [])
   have HPG:Hid (P.gates.length ≤ 8):=by exact (by rw [← hP]; exact HG8.out:P.gates.length ≤ 8)
   rw [hP] at HPE HPF HPV HPS
   have HDE:=Lib.hid (dual_err HPE.out HPC.out)
   have HDF:=Lib.hid (ValidOf.few HDE.out)
   have HDC:Hid ((dualOf P).causes = []):=by exact (HPC.out:(dualOf P).causes = [])
   have HDG:=Lib.hid (good_dual HPE.out HPC.out HPS.out HPG.out)
   have HDD:=Lib.hid (dual_twice HPV.out)
   have HDS:=Lib.hid (dual_size P)
   have HWT:=Lib.hid (dual_weight HPV.out HPC.out)
   have HCS:=Lib.hid (dual_sets HPV.out HPC.out)
   have HFL:=Lib.hid (fun l=>dual_others HPV.out HPC.out l)
   clear hP
   have k0_0:=K0.out.cell 0
   have k0_1:=K0.out.cell 1
   have k0_2:=K0.out.cell 2
   simp only [List.getElem?_toArray,List.getElem?_cons_zero,List.getElem?_cons_succ] at k0_0 k0_1 k0_2
   go_upto_region 5 with fail
   clear k0_0 k0_1 k0_2
   have hbk:=Blk.made w2 26 #[.slice A t.basics.length capa,.slice none 0 0,.slice G t.gates.length capg]
   have hxp:=Ext.box w2 (.cells #[.slice A t.basics.length capa,.slice none 0 0,.slice G t.gates.length capg] 26)
   replace HX:=Lib.hid (HX.out.trans hxp)
   replace HTAB:=Lib.hid (HTAB.out.ext hxp)
   replace K0:=Lib.hid (K0.out.ext hxp)
   replace HT:=Lib.hid (HT.out.ext hxp)
   have KP:=Lib.hid (hbk)
   clear hbk hxp
   obtain ⟨w3,hww⟩:∃ X,w2.alloc (.cells #[.slice A t.basics.length capa,.slice none 0 0,.slice G t.gates.length capg] 26) = X:=⟨_,rfl⟩
   rw [hww] at HX HTAB K0 HT KP ⊢
   clear hww
   have HTP:=Lib.hid ((⟨HT.out.basics,Go.Tw.Rows.nil _ _ _,HT.out.gates⟩:IsTree3 w3 (.slice A t.basics.length capa) (.slice none 0 0) (.slice G t.gates.length capg) (plainT t)))
   rw [HPP.out] at HTP
   have k0_0:=K0.out.cell 0
   have k0_1:=K0.out.cell 1
   have k0_2:=K0.out.cell 2
   simp only [List.getElem?_toArray,List.getElem?_cons_zero,List.getElem?_cons_succ] at k0_0 k0_1 k0_2
   have HXB1:=Lib.hid HX.out
   clear HX
   go_upto_if 38 with fail
   clear k0_0 k0_1 k0_2
   go_cut [] (fun wx=>Ext w3 wx)
   case first =>
    by_cases hcz:0 < t.causes.length
    · skip
      have HX:=Lib.hid (Ext.refl w3)
      have k0_0:=K0.out.cell 0
      have k0_1:=K0.out.cell 1
      have k0_2:=K0.out.cell 2
      simp only [List.getElem?_toArray,List.getElem?_cons_zero,List.getElem?_cons_succ] at k0_0 k0_1 k0_2
      go_wp2_with fail
      clear k0_0 k0_1 k0_2
      refine (own_any _ _ (t) ⟨_,_,_,rfl,HT.out⟩ HF.out).mono ?_
      rintro e w4 ⟨uu,rfl,hu,hx⟩
      have hxx:Ext w3 w4:=hx
      replace HX:=Lib.hid (HX.out.trans hxx)
      replace HTAB:=Lib.hid (HTAB.out.ext hxx)
      replace K0:=Lib.hid (K0.out.ext hxx)
      replace HT:=Lib.hid (HT.out.ext hxx)
      replace KP:=Lib.hid (KP.out.ext hxx)
      replace HTP:=Lib.hid (HTP.out.ext hxx)
      have HU:=Lib.hid (hu)
      clear hu
      clear hx hxx
      go_wp2_with fail
      refine (lDual19 _ _ t HE.out hcz HU.out).mono ?_
      rintro e w5 ⟨xz,rfl,hz,hx⟩
      have hxx:Ext w4 w5:=hx
      replace HX:=Lib.hid (HX.out.trans hxx)
      replace HTAB:=Lib.hid (HTAB.out.ext hxx)
      replace K0:=Lib.hid (K0.out.ext hxx)
      replace HT:=Lib.hid (HT.out.ext hxx)
      replace KP:=Lib.hid (KP.out.ext hxx)
      replace HTP:=Lib.hid (HTP.out.ext hxx)
      replace HU:=Lib.hid (HU.out.ext hxx)
      have HZ:=Lib.hid (hz)
      clear hz
      clear hx hxx
      clear HU
      obtain ⟨y1,y2,y3,rfl,h3⟩:=HZ.out
      obtain ⟨A4,capA4,rfl,_,_,_⟩:=h3.basics.opened
      obtain ⟨B4,capB4,rfl,_,_,_⟩:=h3.causes.opened
      obtain ⟨G4,capG4,rfl,_,_,_⟩:=h3.gates.opened
      clear HZ h3
      go_wp2_with fail
      go_meet
      exact HX.out.trans (Ext.box _ _)
    · skip
      go_wp2_with fail
      go_meet
      exact Ext.refl _
   case rest =>
    obtain ⟨w4,rfl⟩:∃ X,X = wc:=⟨_,rfl⟩
    have HX:=Lib.hid (Ext.refl w3)
    replace HX:=Lib.hid (HX.out.trans hcut)
    replace HTAB:=Lib.hid (HTAB.out.ext hcut)
    replace K0:=Lib.hid (K0.out.ext hcut)
    replace HT:=Lib.hid (HT.out.ext hcut)
    replace KP:=Lib.hid (KP.out.ext hcut)
    replace HTP:=Lib.hid (HTP.out.ext hcut)
    clear hcut
    replace HX:=Lib.hid (HXB1.out.trans HX.out)
    clear HXB1
    have kp_0:=KP.out.cell 0
    have kp_1:=KP.out.cell 1
    have kp_2:=KP.out.cell 2
    simp only [List.getElem?_toArray,List.getElem?_cons_zero,List.getElem?_cons_succ] at kp_0 kp_1 kp_2
    go_wp2_with fail
    clear kp_0 kp_1 kp_2
    refine (own_any _ _ (P) ⟨_,_,_,rfl,HTP.out⟩ HPF.out).mono ?_
    rintro e w5 ⟨uu,rfl,hu,hx⟩
    have hxx:Ext w4 w5:=hx
    replace HX:=Lib.hid (HX.out.trans hxx)
    replace HTAB:=Lib.hid (HTAB.out.ext hxx)
    replace K0:=Lib.hid (K0.out.ext hxx)
    replace HT:=Lib.hid (HT.out.ext hxx)
    replace KP:=Lib.hid (KP.out.ext hxx)
    replace HTP:=Lib.hid (HTP.out.ext hxx)
    have HU:=Lib.hid (hu)
    clear hu
    clear hx hxx
    go_wp2_with fail
    refine (lDual _ _ P HPE.out HPC.out HU.out).mono ?_
    rintro e w6 ⟨xd,rfl,hd,hx⟩
    have hxx:Ext w5 w6:=hx
    replace HX:=Lib.hid (HX.out.trans hxx)
    replace HTAB:=Lib.hid (HTAB.out.ext hxx)
    replace K0:=Lib.hid (K0.out.ext hxx)
    replace HT:=Lib.hid (HT.out.ext hxx)
    replace KP:=Lib.hid (KP.out.ext hxx)
    replace HTP:=Lib.hid (HTP.out.ext hxx)
    replace HU:=Lib.hid (HU.out.ext hxx)
    have HD:=Lib.hid (hd)
    clear hd
    clear hx hxx
    clear HU
    obtain ⟨y1,y2,y3,rfl,h3⟩:=HD.out
    obtain ⟨A6,capA6,rfl,_,_,_⟩:=h3.basics.opened
    obtain ⟨B6,capB6,rfl,_,_,_⟩:=h3.causes.opened
    obtain ⟨G6,capG6,rfl,_,_,_⟩:=h3.gates.opened
    replace HD:=Lib.hid h3
    clear h3
    have HK6:=Lib.hid (Blk.made w6 37 #[.slice A6 (dualOf P).basics.length capA6,.slice B6 (dualOf P).causes.length capB6,.slice G6 (dualOf P).gates.length capG6])
    have hx6:=Ext.box w6 (.cells #[.slice A6 (dualOf P).basics.length capA6,.slice B6 (dualOf P).causes.length capB6,.slice G6 (dualOf P).gates.length capG6] 37)
    go_wp2
    replace HX:=Lib.hid (HX.out.trans hx6)
    replace HTAB:=Lib.hid (HTAB.out.ext hx6)
    replace K0:=Lib.hid (K0.out.ext hx6)
    replace HT:=Lib.hid (HT.out.ext hx6)
    replace KP:=Lib.hid (KP.out.ext hx6)
    replace HTP:=Lib.hid (HTP.out.ext hx6)
    replace HD:=Lib.hid (HD.out.ext hx6)
    have K6:=Lib.hid (HK6.out)
    clear HK6 hx6
    obtain ⟨g6,hg6⟩:∃ g,w6.heap.size = g:=⟨_,rfl⟩
    rw [hg6] at K6 ⊢
    obtain ⟨w7,hww⟩:∃ X,w6.alloc (.cells #[.slice A6 (dualOf P).basics.length capA6,.slice B6 (dualOf P).causes.length capB6,.slice G6 (dualOf P).gates.length capG6] 37) = X:=⟨_,rfl⟩
    rw [hww] at HX HTAB K0 HT KP HTP HD K6 ⊢
    clear hww hg6
    have hdr:=(Ext.refl w7).drew
    refine Flow.regionB0 [.plain,.plain,.plain,.world,.world,.world,.plain,.plain,.plain,.world,.world,.world,.world,.world,.plain,.plain] [0,1,2,3,4,5,6,7,8,9,10,11,12,13,14,15] [[],[0],[1],[2],[2,3],[2,4],[2,5],[2,6],[5,7],[8],[8,9],[8,10],[8],[8,11,12],[8,11,13],[8,14]]
     [.is 0 (fun v=>.int .i64 0),.is 1 (fun v=>.bool false),.is 2 (fun v=>.bool false),.is 3 (fun v=>.agg #[.slice A6 (dualOf P).basics.length capA6,.slice B6 (dualOf P).causes.length capB6,.slice G6 (dualOf P).gates.length capG6]),⟨fun v wz=>IsTree wz (v 4) (dualOf P),fun _ _ _ hx h=>h.ext hx⟩,.is 5 (fun v=>.bool true),.is 6 (fun v=>.bool (!true)),.is 7 (fun v=>.bool false),.is 8 (fun v=>.bool false),.is 9 (fun v=>.agg #[.slice A6 (dualOf P).basics.length capA6,.slice B6 (dualOf P).causes.length capB6,.slice G6 (dualOf P).gates.length capG6]),⟨fun v wz=>IsTree wz (v 10) (dualOf P),fun _ _ _ hx h=>h.ext hx⟩,.is 11 (fun v=>.int .i64 (P.size:Nat)),.is 12 (fun v=>.agg #[.slice A t.basics.length capa,.slice none 0 0,.slice G t.gates.length capg]),.is 13 (fun v=>.int .i64 (P.size:Nat)),.is 14 (fun v=>.bool false),.is 15 (fun v=>.bool false)]
     (by kernel_rfl) rfl (by kernel_rfl) ⟨?g0,?g1,?g2,?g3,?g4,?g5,?g6,?g7,?g8,?g9,?g10,?g11,?g12,?g13,?g14,?g15,trivial⟩ ?post
    case g0 =>
     intro v w1 hx
     intro bb hbb
     subst hbb
     refine ⟨_,fun w=>?_,rfl⟩
     go_simp
    case g1 =>
     intro v w1 hx (q0:v 0 = .int .i64 0)
     intro bb hbb
     subst hbb
     refine ⟨_,fun w=>?_,rfl⟩
     go_simp
    case g2 =>
     intro v w1 hx (q1:v 1 = .bool false)
     intro bb hbb
     subst hbb
     refine ⟨_,fun w=>?_,rfl⟩
     go_simp
    case g3 =>
     intro v w1 hx (q2:v 2 = .bool false)
     intro bb hbb
     refine Flow.guarded_yes (d:=55) rfl rfl (by rw [hbb]; simp only [size_put]; exact (by decide:55 < 193)) (by rw [hbb]; dsimp only; (try simp (discharger:=decide) only [eval_put_ne]); rw [eval_put_eq (by simp only [size_put]; exact (by decide:55 < 193))]; exact q2) ?_
     intro K2 hK2
     have o1:bb.eval (.tmp 6) = .pointer (some ⟨g6,0,none⟩):=by rw [hbb]; dsimp only; (try simp (discharger:=decide) only [eval_put_ne]); rfl
     exact gives_load_blk (.tmp 6) _ rfl Tryz.aggTree Tryz.sizeTree o1 (K6.out.ext (hdr.trans hx)) rfl (hK2 _ _ (Ext.refl _) rfl)
    case g4 =>
     intro v w1 hx (q2:v 2 = .bool false) (q3:v 3 = .agg #[.slice A6 (dualOf P).basics.length capA6,.slice B6 (dualOf P).causes.length capB6,.slice G6 (dualOf P).gates.length capG6])
     intro bb hbb
     refine Flow.guarded_yes (d:=55) rfl rfl (by rw [hbb]; simp only [size_put]; exact (by decide:55 < 193)) (by rw [hbb]; dsimp only; (try simp (discharger:=decide) only [eval_put_ne]); rw [eval_put_eq (by simp only [size_put]; exact (by decide:55 < 193))]; exact q2) ?_
     subst hbb
     intro K hK
     go_simp
     refine gives_call (lToldFew w1 _ (dualOf P) HDF.out ⟨_,_,_,rfl,HD.out.ext (hdr.trans hx)⟩) ?_
     rintro e w2 ⟨x,rfl,h,hx2⟩
     exact ⟨_,rfl,hK _ _ hx2 h⟩
    case g5 =>
     intro v w1 hx (q2:v 2 = .bool false) (q4:IsTree w1 (v 4) (dualOf P))
     intro bb hbb
     refine Flow.guarded_yes (d:=55) rfl rfl (by rw [hbb]; simp only [size_put]; exact (by decide:55 < 193)) (by rw [hbb]; dsimp only; (try simp (discharger:=decide) only [eval_put_ne]); rw [eval_put_eq (by simp only [size_put]; exact (by decide:55 < 193))]; exact q2) ?_
     subst hbb
     intro K hK
     go_simp
     refine gives_call (lvalid_yes w1 _ (dualOf P) 7 ⟨HDE.out,HDG.out⟩ q4 (by omega)) ?_
     rintro e w2 ⟨rfl,hx2⟩
     exact ⟨_,rfl,hK _ _ hx2 rfl⟩
    case g6 =>
     intro v w1 hx (q2:v 2 = .bool false) (q5:v 5 = .bool true)
     intro bb hbb
     refine Flow.guarded_yes (d:=55) rfl rfl (by rw [hbb]; simp only [size_put]; exact (by decide:55 < 193)) (by rw [hbb]; dsimp only; (try simp (discharger:=decide) only [eval_put_ne]); rw [eval_put_eq (by simp only [size_put]; exact (by decide:55 < 193))]; exact q2) ?_
     subst hbb
     refine ⟨_,fun w=>?_,rfl⟩
     go_simp
    case g7 =>
     intro v w1 hx (q2:v 2 = .bool false) (q6:v 6 = .bool (!true))
     intro bb hbb
     subst hbb
     refine ⟨_,fun w=>?_,rfl⟩
     go_simp
    case g8 =>
     intro v w1 hx (q5:v 5 = .bool true) (q7:v 7 = .bool false)
     intro bb hbb
     subst hbb
     refine ⟨_,fun w=>?_,rfl⟩
     go_simp
    case g9 =>
     intro v w1 hx (q8:v 8 = .bool false)
     intro bb hbb
     refine Flow.guarded_yes (d:=61) rfl rfl (by rw [hbb]; simp only [size_put]; exact (by decide:61 < 193)) (by rw [hbb]; dsimp only; (try simp (discharger:=decide) only [eval_put_ne]); rw [eval_put_eq (by simp only [size_put]; exact (by decide:61 < 193))]; exact q8) ?_
     intro K2 hK2
     have o1:bb.eval (.tmp 6) = .pointer (some ⟨g6,0,none⟩):=by rw [hbb]; dsimp only; (try simp (discharger:=decide) only [eval_put_ne]); rfl
     exact gives_load_blk (.tmp 6) _ rfl Tryz.aggTree Tryz.sizeTree o1 (K6.out.ext (hdr.trans hx)) rfl (hK2 _ _ (Ext.refl _) rfl)
    case g10 =>
     intro v w1 hx (q8:v 8 = .bool false) (q9:v 9 = .agg #[.slice A6 (dualOf P).basics.length capA6,.slice B6 (dualOf P).causes.length capB6,.slice G6 (dualOf P).gates.length capG6])
     intro bb hbb
     refine Flow.guarded_yes (d:=61) rfl rfl (by rw [hbb]; simp only [size_put]; exact (by decide:61 < 193)) (by rw [hbb]; dsimp only; (try simp (discharger:=decide) only [eval_put_ne]); rw [eval_put_eq (by simp only [size_put]; exact (by decide:61 < 193))]; exact q8) ?_
     subst hbb
     intro K hK
     go_simp
     refine gives_call (lToldFew w1 _ (dualOf P) HDF.out ⟨_,_,_,rfl,HD.out.ext (hdr.trans hx)⟩) ?_
     rintro e w2 ⟨x,rfl,h,hx2⟩
     exact ⟨_,rfl,hK _ _ hx2 h⟩
    case g11 =>
     intro v w1 hx (q8:v 8 = .bool false) (q10:IsTree w1 (v 10) (dualOf P))
     intro bb hbb
     refine Flow.guarded_yes (d:=61) rfl rfl (by rw [hbb]; simp only [size_put]; exact (by decide:61 < 193)) (by rw [hbb]; dsimp only; (try simp (discharger:=decide) only [eval_put_ne]); rw [eval_put_eq (by simp only [size_put]; exact (by decide:61 < 193))]; exact q8) ?_
     subst hbb
     intro K2 hK2
     go_simp
     refine gives_call (Size_any w1 _ (dualOf P) q10) ?_
     rintro e w2 ⟨rfl,hx2⟩
     rw [HDS.out]
     exact ⟨_,rfl,hK2 _ _ hx2 rfl⟩
    case g12 =>
     intro v w1 hx (q8:v 8 = .bool false)
     intro bb hbb
     refine Flow.guarded_yes (d:=61) rfl rfl (by rw [hbb]; simp only [size_put]; exact (by decide:61 < 193)) (by rw [hbb]; dsimp only; (try simp (discharger:=decide) only [eval_put_ne]); rw [eval_put_eq (by simp only [size_put]; exact (by decide:61 < 193))]; exact q8) ?_
     intro K2 hK2
     have o1:bb.eval (.tmp 3) = .pointer (some ⟨w2.heap.size,0,none⟩):=by rw [hbb]; dsimp only; (try simp (discharger:=decide) only [eval_put_ne]); rfl
     exact gives_load_blk (.tmp 3) _ rfl Tryz.aggRTree Tryz.sizeRTree o1 (KP.out.ext (hdr.trans hx)) rfl (hK2 _ _ (Ext.refl _) rfl)
    case g13 =>
     intro v w1 hx (q8:v 8 = .bool false) (q11:v 11 = .int .i64 (P.size:Nat)) (q12:v 12 = .agg #[.slice A t.basics.length capa,.slice none 0 0,.slice G t.gates.length capg])
     intro bb hbb
     refine Flow.guarded_yes (d:=61) rfl rfl (by rw [hbb]; simp only [size_put]; exact (by decide:61 < 193)) (by rw [hbb]; dsimp only; (try simp (discharger:=decide) only [eval_put_ne]); rw [eval_put_eq (by simp only [size_put]; exact (by decide:61 < 193))]; exact q8) ?_
     subst hbb
     intro K hK
     go_simp
     refine gives_call (Size_any w1 _ P ⟨_,_,_,rfl,HTP.out.ext (hdr.trans hx)⟩) ?_
     rintro e w2 ⟨rfl,hx2⟩
     exact ⟨_,rfl,hK _ _ hx2 rfl⟩
    case g14 =>
     intro v w1 hx (q8:v 8 = .bool false) (q11:v 11 = .int .i64 (P.size:Nat)) (q13:v 13 = .int .i64 (P.size:Nat))
     intro bb hbb
     refine Flow.guarded_yes (d:=61) rfl rfl (by rw [hbb]; simp only [size_put]; exact (by decide:61 < 193)) (by rw [hbb]; dsimp only; (try simp (discharger:=decide) only [eval_put_ne]); rw [eval_put_eq (by simp only [size_put]; exact (by decide:61 < 193))]; exact q8) ?_
     subst hbb
     refine ⟨_,fun w=>?_,rfl⟩
     go_simp
    case g15 =>
     intro v w1 hx (q8:v 8 = .bool false) (q14:v 14 = .bool false)
     intro bb hbb
     subst hbb
     refine ⟨_,fun w=>?_,rfl⟩
     go_simp
    case post =>
     intro v w1 hx (q0:v 0 = .int .i64 0) (q1:v 1 = .bool false) (q2:v 2 = .bool false) (q3:v 3 = .agg #[.slice A6 (dualOf P).basics.length capA6,.slice B6 (dualOf P).causes.length capB6,.slice G6 (dualOf P).gates.length capG6]) (q4:IsTree w1 (v 4) (dualOf P)) (q5:v 5 = .bool true) (q6:v 6 = .bool (!true)) (q7:v 7 = .bool false) (q8:v 8 = .bool false) (q9:v 9 = .agg #[.slice A6 (dualOf P).basics.length capA6,.slice B6 (dualOf P).causes.length capB6,.slice G6 (dualOf P).gates.length capG6]) (q10:IsTree w1 (v 10) (dualOf P)) (q11:v 11 = .int .i64 (P.size:Nat)) (q12:v 12 = .agg #[.slice A t.basics.length capa,.slice none 0 0,.slice G t.gates.length capg]) (q13:v 13 = .int .i64 (P.size:Nat)) (q14:v 14 = .bool false) (q15:v 15 = .bool false)
     simp only [Flow.All,Flow.acts,Act.put]
     go_simp
     have hxx:=hdr.trans hx
     replace HX:=Lib.hid (HX.out.trans hxx)
     replace HTAB:=Lib.hid (HTAB.out.ext hxx)
     replace K0:=Lib.hid (K0.out.ext hxx)
     replace HT:=Lib.hid (HT.out.ext hxx)
     replace KP:=Lib.hid (KP.out.ext hxx)
     replace HTP:=Lib.hid (HTP.out.ext hxx)
     replace HD:=Lib.hid (HD.out.ext hxx)
     replace K6:=Lib.hid (K6.out.ext hxx)
     clear hxx hx hdr q0 q1 q2 q3 q4 q5 q6 q7 q8 q9 q10 q11 q12 q13 q14 q15
     obtain ⟨w8,rfl⟩:∃ X,X = w1:=⟨_,rfl⟩
     have k6_0:=K6.out.cell 0
     have k6_1:=K6.out.cell 1
     have k6_2:=K6.out.cell 2
     simp only [List.getElem?_toArray,List.getElem?_cons_zero,List.getElem?_cons_succ] at k6_0 k6_1 k6_2
     have hne0:True:=trivial
     go_wp2_with fail
     clear k6_0 k6_1 k6_2
     refine (lToldFew _ _ (dualOf P) HDF.out ⟨_,_,_,rfl,HD.out⟩).mono ?_
     rintro e w9 ⟨xo,rfl,ho,hx⟩
     have hxx:Ext w8 w9:=hx
     replace HX:=Lib.hid (HX.out.trans hxx)
     replace HTAB:=Lib.hid (HTAB.out.ext hxx)
     replace K0:=Lib.hid (K0.out.ext hxx)
     replace HT:=Lib.hid (HT.out.ext hxx)
     replace KP:=Lib.hid (KP.out.ext hxx)
     replace HTP:=Lib.hid (HTP.out.ext hxx)
     replace HD:=Lib.hid (HD.out.ext hxx)
     replace K6:=Lib.hid (K6.out.ext hxx)
     have HO:=Lib.hid (ho)
     clear ho
     clear hx hxx
     obtain ⟨y1,y2,y3,rfl,h3⟩:=HO.out
     obtain ⟨A8,capA8,rfl,_,_,_⟩:=h3.basics.opened
     obtain ⟨B8,capB8,rfl,_,_,_⟩:=h3.causes.opened
     obtain ⟨G8,capG8,rfl,_,_,_⟩:=h3.gates.opened
     replace HO:=Lib.hid h3
     clear h3
     go_wp2_with fail
     change Calls _ _ _ (w9.alloc (.cells #[.slice A8 (dualOf P).basics.length capA8,.slice B8 (dualOf P).causes.length capB8,.slice G8 (dualOf P).gates.length capG8] 26)) _
     have k0:=Blk.made w9 26 #[.slice A8 (dualOf P).basics.length capA8,.slice B8 (dualOf P).causes.length capB8,.slice G8 (dualOf P).gates.length capG8]
     have x0:=Ext.box w9 (.cells #[.slice A8 (dualOf P).basics.length capA8,.slice B8 (dualOf P).causes.length capB8,.slice G8 (dualOf P).gates.length capG8] 26)
     have es0:(w9.alloc (.cells #[.slice A8 (dualOf P).basics.length capA8,.slice B8 (dualOf P).causes.length capB8,.slice G8 (dualOf P).gates.length capG8] 26)).heap.size = w9.heap.size + 1:=by simp
     obtain ⟨X0,hX0⟩:∃ X,w9.alloc (.cells #[.slice A8 (dualOf P).basics.length capA8,.slice B8 (dualOf P).causes.length capB8,.slice G8 (dualOf P).gates.length capG8] 26) = X:=⟨_,rfl⟩
     rw [hX0] at k0 x0 es0 ⊢
     clear hX0
     have e0:X0.heap.size = w9.heap.size + 1:=by omega
     have HXW:Hid (Ext w9 X0):=by exact (x0:Ext w9 X0)
     have eW:X0.heap.size = w9.heap.size + 1:=e0
     clear x0 es0 e0
     obtain ⟨W,hWW⟩:∃ W,X0 = W:=⟨_,rfl⟩
     rw [hWW] at HXW eW ⊢ k0
     clear hWW
     refine (own_any _ _ (dualOf P) ⟨_,_,_,rfl,HO.out.ext HXW.out⟩ HDF.out).mono ?_
     rintro e w10 ⟨uu,rfl,hu,hx⟩
     have hxx:Ext w9 w10:=HXW.out.trans hx
     replace HX:=Lib.hid (HX.out.trans hxx)
     replace HTAB:=Lib.hid (HTAB.out.ext hxx)
     replace K0:=Lib.hid (K0.out.ext hxx)
     replace HT:=Lib.hid (HT.out.ext hxx)
     replace KP:=Lib.hid (KP.out.ext hxx)
     replace HTP:=Lib.hid (HTP.out.ext hxx)
     replace HD:=Lib.hid (HD.out.ext hxx)
     replace K6:=Lib.hid (K6.out.ext hxx)
     replace HO:=Lib.hid (HO.out.ext hxx)
     have HU:=Lib.hid (hu)
     have K8:=Lib.hid (k0.ext hx)
     clear hu
     clear hx hxx HXW eW k0
     obtain ⟨g8,hg8⟩:∃ g,w9.heap.size = g:=⟨_,rfl⟩
     rw [hg8] at K8 ⊢
     clear hg8
     go_wp2_with fail
     refine (lDual _ _ (dualOf P) HDE.out HDC.out HU.out).mono ?_
     rintro e w11 ⟨xb,rfl,hd,hx⟩
     have hxx:Ext w10 w11:=hx
     replace HX:=Lib.hid (HX.out.trans hxx)
     replace HTAB:=Lib.hid (HTAB.out.ext hxx)
     replace K0:=Lib.hid (K0.out.ext hxx)
     replace HT:=Lib.hid (HT.out.ext hxx)
     replace KP:=Lib.hid (KP.out.ext hxx)
     replace HTP:=Lib.hid (HTP.out.ext hxx)
     replace HD:=Lib.hid (HD.out.ext hxx)
     replace K6:=Lib.hid (K6.out.ext hxx)
     replace HO:=Lib.hid (HO.out.ext hxx)
     replace HU:=Lib.hid (HU.out.ext hxx)
     replace K8:=Lib.hid (K8.out.ext hxx)
     have HBA:=Lib.hid (hd)
     clear hd
     clear hx hxx
     clear HU
     rw [HDD.out] at HBA
     obtain ⟨y1,y2,y3,rfl,h3⟩:=HBA.out
     obtain ⟨A9,capA9,rfl,_,_,_⟩:=h3.basics.opened
     obtain ⟨B9,capB9,rfl,_,_,_⟩:=h3.causes.opened
     obtain ⟨G9,capG9,rfl,_,_,_⟩:=h3.gates.opened
     replace HBA:=Lib.hid h3
     clear h3
     have kp_0:=(KP.out.ext (Ext.box w11 (.cells #[.slice A9 P.basics.length capA9,.slice B9 P.causes.length capB9,.slice G9 P.gates.length capG9] 37))).cell 0
     have kp_1:=(KP.out.ext (Ext.box w11 (.cells #[.slice A9 P.basics.length capA9,.slice B9 P.causes.length capB9,.slice G9 P.gates.length capG9] 37))).cell 1
     have kp_2:=(KP.out.ext (Ext.box w11 (.cells #[.slice A9 P.basics.length capA9,.slice B9 P.causes.length capB9,.slice G9 P.gates.length capG9] 37))).cell 2
     simp only [List.getElem?_toArray,List.getElem?_cons_zero,List.getElem?_cons_succ] at kp_0 kp_1 kp_2
     go_wp2_with fail
     clear kp_0 kp_1 kp_2
     change Calls _ _ _ (w11.alloc (.cells #[.slice A9 P.basics.length capA9,.slice B9 P.causes.length capB9,.slice G9 P.gates.length capG9] 37)) _
     have k0:=Blk.made w11 37 #[.slice A9 P.basics.length capA9,.slice B9 P.causes.length capB9,.slice G9 P.gates.length capG9]
     have x0:=Ext.box w11 (.cells #[.slice A9 P.basics.length capA9,.slice B9 P.causes.length capB9,.slice G9 P.gates.length capG9] 37)
     have es0:(w11.alloc (.cells #[.slice A9 P.basics.length capA9,.slice B9 P.causes.length capB9,.slice G9 P.gates.length capG9] 37)).heap.size = w11.heap.size + 1:=by simp
     obtain ⟨X0,hX0⟩:∃ X,w11.alloc (.cells #[.slice A9 P.basics.length capA9,.slice B9 P.causes.length capB9,.slice G9 P.gates.length capG9] 37) = X:=⟨_,rfl⟩
     rw [hX0] at k0 x0 es0 ⊢
     clear hX0
     have e0:X0.heap.size = w11.heap.size + 1:=by omega
     have HXW:Hid (Ext w11 X0):=by exact (x0:Ext w11 X0)
     have eW:X0.heap.size = w11.heap.size + 1:=e0
     clear x0 es0 e0
     obtain ⟨W,hWW⟩:∃ W,X0 = W:=⟨_,rfl⟩
     rw [hWW] at HXW eW ⊢ k0
     clear hWW
     refine (own_any _ _ (P) ⟨_,_,_,rfl,HTP.out.ext HXW.out⟩ HPF.out).mono ?_
     rintro e w12 ⟨uu,rfl,hu,hx⟩
     have hxx:Ext w11 w12:=HXW.out.trans hx
     replace HX:=Lib.hid (HX.out.trans hxx)
     replace HTAB:=Lib.hid (HTAB.out.ext hxx)
     replace K0:=Lib.hid (K0.out.ext hxx)
     replace HT:=Lib.hid (HT.out.ext hxx)
     replace KP:=Lib.hid (KP.out.ext hxx)
     replace HTP:=Lib.hid (HTP.out.ext hxx)
     replace HD:=Lib.hid (HD.out.ext hxx)
     replace K6:=Lib.hid (K6.out.ext hxx)
     replace HO:=Lib.hid (HO.out.ext hxx)
     replace K8:=Lib.hid (K8.out.ext hxx)
     replace HBA:=Lib.hid (HBA.out.ext hxx)
     have HU:=Lib.hid (hu)
     have K9:=Lib.hid (k0.ext hx)
     clear hu
     clear hx hxx HXW eW k0
     obtain ⟨g9,hg9⟩:∃ g,w11.heap.size = g:=⟨_,rfl⟩
     rw [hg9] at K9 ⊢
     clear hg9
     obtain ⟨⟨pn,pd⟩,hp⟩:∃ r,lowest (P.weight P.chances) (16 ^ P.size) = r:=⟨_,rfl⟩
     obtain ⟨⟨rn,rd⟩,hr⟩:∃ r,lowest ((dualOf P).weight (dualOf P).chances) (16 ^ (dualOf P).size) = r:=⟨_,rfl⟩
     have HPR:=Lib.hid hp
     have HRR:=Lib.hid hr
     have HRM:Hid (HasRoom ⟨pn,pd⟩ ∧ HasRoom ⟨rn,rd⟩ ∧ rd = pd ∧ pn + rn = pd):=by exact (dual_rooms HPV.out HPC.out HPS.out hp hr:HasRoom ⟨pn,pd⟩ ∧ HasRoom ⟨rn,rd⟩ ∧ rd = pd ∧ pn + rn = pd)
     clear hp hr
     go_wp2_with fail
     refine (lChance0 _ _ P pn pd HPE.out HPR.out HU.out).mono ?_
     rintro e w13 ⟨rfl,hx⟩
     have hxx:Ext w12 w13:=hx
     replace HX:=Lib.hid (HX.out.trans hxx)
     replace HTAB:=Lib.hid (HTAB.out.ext hxx)
     replace K0:=Lib.hid (K0.out.ext hxx)
     replace HT:=Lib.hid (HT.out.ext hxx)
     replace KP:=Lib.hid (KP.out.ext hxx)
     replace HTP:=Lib.hid (HTP.out.ext hxx)
     replace HD:=Lib.hid (HD.out.ext hxx)
     replace K6:=Lib.hid (K6.out.ext hxx)
     replace HO:=Lib.hid (HO.out.ext hxx)
     replace K8:=Lib.hid (K8.out.ext hxx)
     replace HBA:=Lib.hid (HBA.out.ext hxx)
     replace HU:=Lib.hid (HU.out.ext hxx)
     replace K9:=Lib.hid (K9.out.ext hxx)
     clear hx hxx
     clear HU
     have k8_0:=(K8.out.ext (Ext.box w13 (.cells #[.int .i64 pn,.int .i64 pd] 59))).cell 0
     have k8_1:=(K8.out.ext (Ext.box w13 (.cells #[.int .i64 pn,.int .i64 pd] 59))).cell 1
     have k8_2:=(K8.out.ext (Ext.box w13 (.cells #[.int .i64 pn,.int .i64 pd] 59))).cell 2
     simp only [List.getElem?_toArray,List.getElem?_cons_zero,List.getElem?_cons_succ] at k8_0 k8_1 k8_2
     go_wp2_with fail
     clear k8_0 k8_1 k8_2
     change Calls _ _ _ (w13.alloc (.cells #[.int .i64 pn,.int .i64 pd] 59)) _
     have k0:=Blk.made w13 59 #[.int .i64 pn,.int .i64 pd]
     have x0:=Ext.box w13 (.cells #[.int .i64 pn,.int .i64 pd] 59)
     have es0:(w13.alloc (.cells #[.int .i64 pn,.int .i64 pd] 59)).heap.size = w13.heap.size + 1:=by simp
     obtain ⟨X0,hX0⟩:∃ X,w13.alloc (.cells #[.int .i64 pn,.int .i64 pd] 59) = X:=⟨_,rfl⟩
     rw [hX0] at k0 x0 es0 ⊢
     clear hX0
     have e0:X0.heap.size = w13.heap.size + 1:=by omega
     have HXW:Hid (Ext w13 X0):=by exact (x0:Ext w13 X0)
     have eW:X0.heap.size = w13.heap.size + 1:=e0
     clear x0 es0 e0
     obtain ⟨W,hWW⟩:∃ W,X0 = W:=⟨_,rfl⟩
     rw [hWW] at HXW eW ⊢ k0
     clear hWW
     refine (own_any _ _ (dualOf P) ⟨_,_,_,rfl,HO.out.ext HXW.out⟩ HDF.out).mono ?_
     rintro e w14 ⟨uu,rfl,hu,hx⟩
     have hxx:Ext w13 w14:=HXW.out.trans hx
     replace HX:=Lib.hid (HX.out.trans hxx)
     replace HTAB:=Lib.hid (HTAB.out.ext hxx)
     replace K0:=Lib.hid (K0.out.ext hxx)
     replace HT:=Lib.hid (HT.out.ext hxx)
     replace KP:=Lib.hid (KP.out.ext hxx)
     replace HTP:=Lib.hid (HTP.out.ext hxx)
     replace HD:=Lib.hid (HD.out.ext hxx)
     replace K6:=Lib.hid (K6.out.ext hxx)
     replace HO:=Lib.hid (HO.out.ext hxx)
     replace K8:=Lib.hid (K8.out.ext hxx)
     replace HBA:=Lib.hid (HBA.out.ext hxx)
     replace K9:=Lib.hid (K9.out.ext hxx)
     have HU:=Lib.hid (hu)
     have K11:=Lib.hid (k0.ext hx)
     clear hu
     clear hx hxx HXW eW k0
     obtain ⟨g11,hg11⟩:∃ g,w13.heap.size = g:=⟨_,rfl⟩
     rw [hg11] at K11 ⊢
     clear hg11
     go_wp2_with fail
     refine (lChance0 _ _ (dualOf P) rn rd HDE.out HRR.out HU.out).mono ?_
     rintro e w15 ⟨rfl,hx⟩
     have hxx:Ext w14 w15:=hx
     replace HX:=Lib.hid (HX.out.trans hxx)
     replace HTAB:=Lib.hid (HTAB.out.ext hxx)
     replace K0:=Lib.hid (K0.out.ext hxx)
     replace HT:=Lib.hid (HT.out.ext hxx)
     replace KP:=Lib.hid (KP.out.ext hxx)
     replace HTP:=Lib.hid (HTP.out.ext hxx)
     replace HD:=Lib.hid (HD.out.ext hxx)
     replace K6:=Lib.hid (K6.out.ext hxx)
     replace HO:=Lib.hid (HO.out.ext hxx)
     replace K8:=Lib.hid (K8.out.ext hxx)
     replace HBA:=Lib.hid (HBA.out.ext hxx)
     replace K9:=Lib.hid (K9.out.ext hxx)
     replace HU:=Lib.hid (HU.out.ext hxx)
     replace K11:=Lib.hid (K11.out.ext hxx)
     clear hx hxx
     clear HU
     have k8_0:=(K8.out.ext (Ext.box w15 (.cells #[.int .i64 rn,.int .i64 rd] 59))).cell 0
     have k8_1:=(K8.out.ext (Ext.box w15 (.cells #[.int .i64 rn,.int .i64 rd] 59))).cell 1
     have k8_2:=(K8.out.ext (Ext.box w15 (.cells #[.int .i64 rn,.int .i64 rd] 59))).cell 2
     simp only [List.getElem?_toArray,List.getElem?_cons_zero,List.getElem?_cons_succ] at k8_0 k8_1 k8_2
     go_wp2_with fail
     clear k8_0 k8_1 k8_2
     change Calls _ _ _ (w15.alloc (.cells #[.int .i64 rn,.int .i64 rd] 59)) _
     have k0:=Blk.made w15 59 #[.int .i64 rn,.int .i64 rd]
     have x0:=Ext.box w15 (.cells #[.int .i64 rn,.int .i64 rd] 59)
     have es0:(w15.alloc (.cells #[.int .i64 rn,.int .i64 rd] 59)).heap.size = w15.heap.size + 1:=by simp
     obtain ⟨X0,hX0⟩:∃ X,w15.alloc (.cells #[.int .i64 rn,.int .i64 rd] 59) = X:=⟨_,rfl⟩
     rw [hX0] at k0 x0 es0 ⊢
     clear hX0
     have e0:X0.heap.size = w15.heap.size + 1:=by omega
     have HXW:Hid (Ext w15 X0):=by exact (x0:Ext w15 X0)
     have eW:X0.heap.size = w15.heap.size + 1:=e0
     clear x0 es0 e0
     obtain ⟨W,hWW⟩:∃ W,X0 = W:=⟨_,rfl⟩
     rw [hWW] at HXW eW ⊢ k0
     clear hWW
     refine (own_any _ _ (dualOf P) ⟨_,_,_,rfl,HO.out.ext HXW.out⟩ HDF.out).mono ?_
     rintro e w16 ⟨uu,rfl,hu,hx⟩
     have hxx:Ext w15 w16:=HXW.out.trans hx
     replace HX:=Lib.hid (HX.out.trans hxx)
     replace HTAB:=Lib.hid (HTAB.out.ext hxx)
     replace K0:=Lib.hid (K0.out.ext hxx)
     replace HT:=Lib.hid (HT.out.ext hxx)
     replace KP:=Lib.hid (KP.out.ext hxx)
     replace HTP:=Lib.hid (HTP.out.ext hxx)
     replace HD:=Lib.hid (HD.out.ext hxx)
     replace K6:=Lib.hid (K6.out.ext hxx)
     replace HO:=Lib.hid (HO.out.ext hxx)
     replace K8:=Lib.hid (K8.out.ext hxx)
     replace HBA:=Lib.hid (HBA.out.ext hxx)
     replace K9:=Lib.hid (K9.out.ext hxx)
     replace K11:=Lib.hid (K11.out.ext hxx)
     have HU:=Lib.hid (hu)
     have K13:=Lib.hid (k0.ext hx)
     clear hu
     clear hx hxx HXW eW k0
     obtain ⟨g13,hg13⟩:∃ g,w15.heap.size = g:=⟨_,rfl⟩
     rw [hg13] at K13 ⊢
     clear hg13
     go_wp2_with fail
     refine (lCuts _ _ (dualOf P) false HDE.out HU.out HTAB.out).mono ?_
     rintro e w17 ⟨xc,rfl,hc,hx⟩
     have hxx:Ext w16 w17:=hx
     replace HX:=Lib.hid (HX.out.trans hxx)
     replace HTAB:=Lib.hid (HTAB.out.ext hxx)
     replace K0:=Lib.hid (K0.out.ext hxx)
     replace HT:=Lib.hid (HT.out.ext hxx)
     replace KP:=Lib.hid (KP.out.ext hxx)
     replace HTP:=Lib.hid (HTP.out.ext hxx)
     replace HD:=Lib.hid (HD.out.ext hxx)
     replace K6:=Lib.hid (K6.out.ext hxx)
     replace HO:=Lib.hid (HO.out.ext hxx)
     replace K8:=Lib.hid (K8.out.ext hxx)
     replace HBA:=Lib.hid (HBA.out.ext hxx)
     replace K9:=Lib.hid (K9.out.ext hxx)
     replace K11:=Lib.hid (K11.out.ext hxx)
     replace HU:=Lib.hid (HU.out.ext hxx)
     replace K13:=Lib.hid (K13.out.ext hxx)
     have HC:=Lib.hid (hc)
     clear hc
     clear hx hxx
     clear HU
     rw [HCS.out] at HC
     have kp_0:=KP.out.cell 0
     have kp_1:=KP.out.cell 1
     have kp_2:=KP.out.cell 2
     simp only [List.getElem?_toArray,List.getElem?_cons_zero,List.getElem?_cons_succ] at kp_0 kp_1 kp_2
     go_wp2_with fail
     clear kp_0 kp_1 kp_2
     refine (own_any _ _ (P) ⟨_,_,_,rfl,HTP.out⟩ HPF.out).mono ?_
     rintro e w18 ⟨uu,rfl,hu,hx⟩
     have hxx:Ext w17 w18:=hx
     replace HX:=Lib.hid (HX.out.trans hxx)
     replace HTAB:=Lib.hid (HTAB.out.ext hxx)
     replace K0:=Lib.hid (K0.out.ext hxx)
     replace HT:=Lib.hid (HT.out.ext hxx)
     replace KP:=Lib.hid (KP.out.ext hxx)
     replace HTP:=Lib.hid (HTP.out.ext hxx)
     replace HD:=Lib.hid (HD.out.ext hxx)
     replace K6:=Lib.hid (K6.out.ext hxx)
     replace HO:=Lib.hid (HO.out.ext hxx)
     replace K8:=Lib.hid (K8.out.ext hxx)
     replace HBA:=Lib.hid (HBA.out.ext hxx)
     replace K9:=Lib.hid (K9.out.ext hxx)
     replace K11:=Lib.hid (K11.out.ext hxx)
     replace K13:=Lib.hid (K13.out.ext hxx)
     replace HC:=Lib.hid (HC.out.ext hxx)
     have HU:=Lib.hid (hu)
     clear hu
     clear hx hxx
     go_wp2_with fail
     refine (lCuts _ _ P true HPE.out HU.out HTAB.out).mono ?_
     rintro e w19 ⟨xp,rfl,hc,hx⟩
     have hxx:Ext w18 w19:=hx
     replace HX:=Lib.hid (HX.out.trans hxx)
     replace HTAB:=Lib.hid (HTAB.out.ext hxx)
     replace K0:=Lib.hid (K0.out.ext hxx)
     replace HT:=Lib.hid (HT.out.ext hxx)
     replace KP:=Lib.hid (KP.out.ext hxx)
     replace HTP:=Lib.hid (HTP.out.ext hxx)
     replace HD:=Lib.hid (HD.out.ext hxx)
     replace K6:=Lib.hid (K6.out.ext hxx)
     replace HO:=Lib.hid (HO.out.ext hxx)
     replace K8:=Lib.hid (K8.out.ext hxx)
     replace HBA:=Lib.hid (HBA.out.ext hxx)
     replace K9:=Lib.hid (K9.out.ext hxx)
     replace K11:=Lib.hid (K11.out.ext hxx)
     replace K13:=Lib.hid (K13.out.ext hxx)
     replace HC:=Lib.hid (HC.out.ext hxx)
     replace HU:=Lib.hid (HU.out.ext hxx)
     have HP:=Lib.hid (hc)
     clear hc
     clear hx hxx
     clear HU
     obtain ⟨Q,hQ⟩:∃ Q,P.sets true = Q:=⟨_,rfl⟩
     rw [hQ] at HC HP
     obtain ⟨Ac,capc,rfl,_,_,_⟩:=HC.out.opened
     obtain ⟨Ap,capp,rfl,_,_,_⟩:=HP.out.opened
     clear hQ
     obtain ⟨hr1,hr2,hrd,hsum⟩:=HRM.out
     subst hrd
     have hwr:IntKind.i64.wrap (pn + rn) = rd:=by rw [hsum]; obtain ⟨_,_,h3,h4⟩:=hr1; dsimp only at h3 h4; exact wrap_in (by omega) (by omega)
     have HRR2:Hid (∀ x ∈ [(⟨pn,rd⟩:Ratio),⟨rn,rd⟩],HasRoom x):=by exact (fun x hx=>by
      simp only [List.mem_cons,List.not_mem_nil,or_false] at hx
      rcases hx with rfl | rfl
      · exact hr1
      · exact hr2:∀ x ∈ [(⟨pn,rd⟩:Ratio),⟨rn,rd⟩],HasRoom x)
     clear hr1 hr2 hsum
     have hdr:=(Ext.refl w19).drew
     go_wp2
     refine Flow.regionB0 [.plain,.plain,.plain,.plain,.plain,.plain,.plain,.plain,.plain,.plain,.plain,.plain,.plain,.plain,.plain,.plain,.plain,.plain,.plain,.world,.world,.world,.world,.plain,.plain,.plain,.plain,.plain,.world,.plain,.plain,.plain,.world,.world,.world,.world,.plain,.plain,.plain,.plain,.world,.plain,.world,.plain,.plain,.plain,.plain,.world,.plain,.world,.plain,.plain,.world,.plain,.plain] [0,1,2,3,4,5,6,7,8,9,10,11,12,13,14,15,16,17,18,19,20,21,22,23,24,25,26,27,28,29,30,31,32,33,34,35,36,37,38,39,40,41,42,43,44,45,46,47,48,49,50,51,52,53,54] [[],[0],[1],[2],[2,3],[2,4],[2,5],[6],[6,7],[6,8],[6,9],[10],[10,11],[10,12],[10,13],[14],[14,15],[14,16],[14,17],[18],[18,19],[18],[18,20,21],[18,22],[18,23],[22,24],[25],[25],[25,26,27],[25,28],[25,29],[28,30],[31],[31],[31,32,33],[31,34],[31,35],[31,36],[35,37],[38],[38,39],[38],[38,41],[38,40,42],[38,43],[38,44],[45],[45,46],[45],[45,48],[45,47,49],[45],[45,51],[45,50,52],[45,53]]
      [.is 0 (fun v=>.int .i64 0),.is 1 (fun v=>.bool false),.is 2 (fun v=>.bool false),.is 3 (fun v=>.int .i64 0),.is 4 (fun v=>.bool false),.is 5 (fun v=>.bool false),.is 6 (fun v=>.bool false),.is 7 (fun v=>.int .i64 0),.is 8 (fun v=>.bool false),.is 9 (fun v=>.bool false),.is 10 (fun v=>.bool false),.is 11 (fun v=>.int .i64 0),.is 12 (fun v=>.bool false),.is 13 (fun v=>.bool false),.is 14 (fun v=>.bool false),.is 15 (fun v=>.int .i64 0),.is 16 (fun v=>.bool false),.is 17 (fun v=>.bool false),.is 18 (fun v=>.bool false),.is 19 (fun v=>.agg #[.slice A9 P.basics.length capA9,.slice B9 P.causes.length capB9,.slice G9 P.gates.length capG9]),⟨fun v wz=>IsTree wz (v 20) P,fun _ _ _ hx h=>h.ext hx⟩,.is 21 (fun v=>.agg #[.slice A t.basics.length capa,.slice none 0 0,.slice G t.gates.length capg]),.is 22 (fun v=>.bool true),.is 23 (fun v=>.bool false),.is 24 (fun v=>.bool false),.is 25 (fun v=>.bool false),.is 26 (fun v=>.slice Ac Q.length capc),.is 27 (fun v=>.slice Ap Q.length capp),.is 28 (fun v=>.bool true),.is 29 (fun v=>.bool false),.is 30 (fun v=>.bool false),.is 31 (fun v=>.bool false),.is 32 (fun v=>.agg #[.int .i64 pn,.int .i64 rd]),.is 33 (fun v=>.agg #[.int .i64 rn,.int .i64 rd]),⟨fun v wz=>IsRats wz (v 34) [⟨pn,rd⟩,⟨rn,rd⟩],fun _ _ _ hx h=>h.ext hx⟩,.is 35 (fun v=>.bool true),.is 36 (fun v=>.bool false),.is 37 (fun v=>.bool false),.is 38 (fun v=>.bool false),.is 39 (fun v=>.pointer (some ⟨g11,1,none⟩)),.is 40 (fun v=>.int .i64 rd),.is 41 (fun v=>.pointer (some ⟨g13,1,none⟩)),.is 42 (fun v=>.int .i64 rd),.is 43 (fun v=>.bool false),.is 44 (fun v=>.bool false),.is 45 (fun v=>.bool false),.is 46 (fun v=>.pointer (some ⟨g11,0,none⟩)),.is 47 (fun v=>.int .i64 pn),.is 48 (fun v=>.pointer (some ⟨g13,0,none⟩)),.is 49 (fun v=>.int .i64 rn),.is 50 (fun v=>.int .i64 rd),.is 51 (fun v=>.pointer (some ⟨g11,1,none⟩)),.is 52 (fun v=>.int .i64 rd),.is 53 (fun v=>.bool false),.is 54 (fun v=>.bool false)]
      (by kernel_rfl) rfl (by kernel_rfl) ?owed ?post
     case owed =>
      refine ⟨?g0,?g1,?g2,?g3,?g4,?g5,?g6,?g7,?g8,?g9,?g10,?g11,?g12,?g13,?g14,?g15,?g16,?g17,?g18,?g19,?g20,?g21,?g22,?g23,?g24,?g25,?g26,?g27,?g28,?g29,?g30,?g31,?g32,?g33,?g34,?g35,?g36,?g37,?g38,?g39,?g40,?g41,?g42,?g43,?g44,?g45,?g46,?g47,?g48,?g49,?g50,?g51,?g52,?g53,?g54,trivial⟩
      case g0 =>
       intro v w1 hx
       intro bb hbb
       subst hbb
       refine ⟨_,fun w=>?_,rfl⟩
       go_simp
      case g1 =>
       intro v w1 hx (q0:v 0 = .int .i64 0)
       intro bb hbb
       subst hbb
       refine ⟨_,fun w=>?_,rfl⟩
       go_simp
      case g2 =>
       intro v w1 hx (q1:v 1 = .bool false)
       intro bb hbb
       subst hbb
       refine ⟨_,fun w=>?_,rfl⟩
       go_simp
      case g3 =>
       intro v w1 hx (q2:v 2 = .bool false)
       intro bb hbb
       refine Flow.guarded_yes (d:=103) rfl rfl (by rw [hbb]; simp only [size_put]; exact (by decide:103 < 193)) (by rw [hbb]; dsimp only; (try simp (discharger:=decide) only [eval_put_ne]); rw [eval_put_eq (by simp only [size_put]; exact (by decide:103 < 193))]; exact q2) ?_
       subst hbb
       refine ⟨_,fun w=>?_,rfl⟩
       go_simp
      case g4 =>
       intro v w1 hx (q2:v 2 = .bool false) (q3:v 3 = .int .i64 0)
       intro bb hbb
       refine Flow.guarded_yes (d:=103) rfl rfl (by rw [hbb]; simp only [size_put]; exact (by decide:103 < 193)) (by rw [hbb]; dsimp only; (try simp (discharger:=decide) only [eval_put_ne]); rw [eval_put_eq (by simp only [size_put]; exact (by decide:103 < 193))]; exact q2) ?_
       subst hbb
       refine ⟨_,fun w=>?_,rfl⟩
       go_simp
      case g5 =>
       intro v w1 hx (q2:v 2 = .bool false) (q4:v 4 = .bool false)
       intro bb hbb
       subst hbb
       refine ⟨_,fun w=>?_,rfl⟩
       go_simp
      case g6 =>
       intro v w1 hx (q2:v 2 = .bool false) (q5:v 5 = .bool false)
       intro bb hbb
       subst hbb
       refine ⟨_,fun w=>?_,rfl⟩
       go_simp
      case g7 =>
       intro v w1 hx (q6:v 6 = .bool false)
       intro bb hbb
       refine Flow.guarded_yes (d:=107) rfl rfl (by rw [hbb]; simp only [size_put]; exact (by decide:107 < 193)) (by rw [hbb]; dsimp only; (try simp (discharger:=decide) only [eval_put_ne]); rw [eval_put_eq (by simp only [size_put]; exact (by decide:107 < 193))]; exact q6) ?_
       subst hbb
       refine ⟨_,fun w=>?_,rfl⟩
       go_simp
      case g8 =>
       intro v w1 hx (q6:v 6 = .bool false) (q7:v 7 = .int .i64 0)
       intro bb hbb
       refine Flow.guarded_yes (d:=107) rfl rfl (by rw [hbb]; simp only [size_put]; exact (by decide:107 < 193)) (by rw [hbb]; dsimp only; (try simp (discharger:=decide) only [eval_put_ne]); rw [eval_put_eq (by simp only [size_put]; exact (by decide:107 < 193))]; exact q6) ?_
       subst hbb
       refine ⟨_,fun w=>?_,rfl⟩
       go_simp
      case g9 =>
       intro v w1 hx (q6:v 6 = .bool false) (q8:v 8 = .bool false)
       intro bb hbb
       subst hbb
       refine ⟨_,fun w=>?_,rfl⟩
       go_simp
      case g10 =>
       intro v w1 hx (q6:v 6 = .bool false) (q9:v 9 = .bool false)
       intro bb hbb
       subst hbb
       refine ⟨_,fun w=>?_,rfl⟩
       go_simp
      case g11 =>
       intro v w1 hx (q10:v 10 = .bool false)
       intro bb hbb
       refine Flow.guarded_yes (d:=111) rfl rfl (by rw [hbb]; simp only [size_put]; exact (by decide:111 < 193)) (by rw [hbb]; dsimp only; (try simp (discharger:=decide) only [eval_put_ne]); rw [eval_put_eq (by simp only [size_put]; exact (by decide:111 < 193))]; exact q10) ?_
       subst hbb
       refine ⟨_,fun w=>?_,rfl⟩
       go_simp
      case g12 =>
       intro v w1 hx (q10:v 10 = .bool false) (q11:v 11 = .int .i64 0)
       intro bb hbb
       refine Flow.guarded_yes (d:=111) rfl rfl (by rw [hbb]; simp only [size_put]; exact (by decide:111 < 193)) (by rw [hbb]; dsimp only; (try simp (discharger:=decide) only [eval_put_ne]); rw [eval_put_eq (by simp only [size_put]; exact (by decide:111 < 193))]; exact q10) ?_
       subst hbb
       refine ⟨_,fun w=>?_,rfl⟩
       go_simp
      case g13 =>
       intro v w1 hx (q10:v 10 = .bool false) (q12:v 12 = .bool false)
       intro bb hbb
       subst hbb
       refine ⟨_,fun w=>?_,rfl⟩
       go_simp
      case g14 =>
       intro v w1 hx (q10:v 10 = .bool false) (q13:v 13 = .bool false)
       intro bb hbb
       subst hbb
       refine ⟨_,fun w=>?_,rfl⟩
       go_simp
      case g15 =>
       intro v w1 hx (q14:v 14 = .bool false)
       intro bb hbb
       refine Flow.guarded_yes (d:=115) rfl rfl (by rw [hbb]; simp only [size_put]; exact (by decide:115 < 193)) (by rw [hbb]; dsimp only; (try simp (discharger:=decide) only [eval_put_ne]); rw [eval_put_eq (by simp only [size_put]; exact (by decide:115 < 193))]; exact q14) ?_
       subst hbb
       refine ⟨_,fun w=>?_,rfl⟩
       go_simp
      case g16 =>
       intro v w1 hx (q14:v 14 = .bool false) (q15:v 15 = .int .i64 0)
       intro bb hbb
       refine Flow.guarded_yes (d:=115) rfl rfl (by rw [hbb]; simp only [size_put]; exact (by decide:115 < 193)) (by rw [hbb]; dsimp only; (try simp (discharger:=decide) only [eval_put_ne]); rw [eval_put_eq (by simp only [size_put]; exact (by decide:115 < 193))]; exact q14) ?_
       subst hbb
       refine ⟨_,fun w=>?_,rfl⟩
       go_simp
      case g17 =>
       intro v w1 hx (q14:v 14 = .bool false) (q16:v 16 = .bool false)
       intro bb hbb
       subst hbb
       refine ⟨_,fun w=>?_,rfl⟩
       go_simp
      case g18 =>
       intro v w1 hx (q14:v 14 = .bool false) (q17:v 17 = .bool false)
       intro bb hbb
       subst hbb
       refine ⟨_,fun w=>?_,rfl⟩
       go_simp
      case g19 =>
       intro v w1 hx (q18:v 18 = .bool false)
       intro bb hbb
       refine Flow.guarded_yes (d:=119) rfl rfl (by rw [hbb]; simp only [size_put]; exact (by decide:119 < 193)) (by rw [hbb]; dsimp only; (try simp (discharger:=decide) only [eval_put_ne]); rw [eval_put_eq (by simp only [size_put]; exact (by decide:119 < 193))]; exact q18) ?_
       intro K2 hK2
       have o1:bb.eval (.tmp 9) = .pointer (some ⟨g9,0,none⟩):=by rw [hbb]; dsimp only; (try simp (discharger:=decide) only [eval_put_ne]); rfl
       exact gives_load_blk (.tmp 9) _ rfl Tryz.aggTree Tryz.sizeTree o1 (K9.out.ext (hdr.trans hx)) rfl (hK2 _ _ (Ext.refl _) rfl)
      case g20 =>
       intro v w1 hx (q18:v 18 = .bool false) (q19:v 19 = .agg #[.slice A9 P.basics.length capA9,.slice B9 P.causes.length capB9,.slice G9 P.gates.length capG9])
       intro bb hbb
       refine Flow.guarded_yes (d:=119) rfl rfl (by rw [hbb]; simp only [size_put]; exact (by decide:119 < 193)) (by rw [hbb]; dsimp only; (try simp (discharger:=decide) only [eval_put_ne]); rw [eval_put_eq (by simp only [size_put]; exact (by decide:119 < 193))]; exact q18) ?_
       subst hbb
       intro K hK
       go_simp
       refine gives_call (lToldFew w1 _ P HPF.out ⟨_,_,_,rfl,HBA.out.ext (hdr.trans hx)⟩) ?_
       rintro e w2 ⟨x,rfl,h,hx2⟩
       exact ⟨_,rfl,hK _ _ hx2 h⟩
      case g21 =>
       intro v w1 hx (q18:v 18 = .bool false)
       intro bb hbb
       refine Flow.guarded_yes (d:=119) rfl rfl (by rw [hbb]; simp only [size_put]; exact (by decide:119 < 193)) (by rw [hbb]; dsimp only; (try simp (discharger:=decide) only [eval_put_ne]); rw [eval_put_eq (by simp only [size_put]; exact (by decide:119 < 193))]; exact q18) ?_
       intro K2 hK2
       have o1:bb.eval (.tmp 3) = .pointer (some ⟨w2.heap.size,0,none⟩):=by rw [hbb]; dsimp only; (try simp (discharger:=decide) only [eval_put_ne]); rfl
       exact gives_load_blk (.tmp 3) _ rfl Tryz.aggRTree Tryz.sizeRTree o1 (KP.out.ext (hdr.trans hx)) rfl (hK2 _ _ (Ext.refl _) rfl)
      case g22 =>
       intro v w1 hx (q18:v 18 = .bool false) (q20:IsTree w1 (v 20) P) (q21:v 21 = .agg #[.slice A t.basics.length capa,.slice none 0 0,.slice G t.gates.length capg])
       intro bb hbb
       refine Flow.guarded_yes (d:=119) rfl rfl (by rw [hbb]; simp only [size_put]; exact (by decide:119 < 193)) (by rw [hbb]; dsimp only; (try simp (discharger:=decide) only [eval_put_ne]); rw [eval_put_eq (by simp only [size_put]; exact (by decide:119 < 193))]; exact q18) ?_
       subst hbb
       intro K hK
       go_simp
       refine gives_call (same_ok w1 _ _ P q20 ⟨_,_,_,rfl,HTP.out.ext (hdr.trans hx)⟩) ?_
       rintro e w2 ⟨rfl,hx2⟩
       exact ⟨_,rfl,hK _ _ hx2 rfl⟩
      case g23 =>
       intro v w1 hx (q18:v 18 = .bool false) (q22:v 22 = .bool true)
       intro bb hbb
       refine Flow.guarded_yes (d:=119) rfl rfl (by rw [hbb]; simp only [size_put]; exact (by decide:119 < 193)) (by rw [hbb]; dsimp only; (try simp (discharger:=decide) only [eval_put_ne]); rw [eval_put_eq (by simp only [size_put]; exact (by decide:119 < 193))]; exact q18) ?_
       subst hbb
       refine ⟨_,fun w=>?_,rfl⟩
       go_simp
      case g24 =>
       intro v w1 hx (q18:v 18 = .bool false) (q23:v 23 = .bool false)
       intro bb hbb
       subst hbb
       refine ⟨_,fun w=>?_,rfl⟩
       go_simp
      case g25 =>
       intro v w1 hx (q22:v 22 = .bool true) (q24:v 24 = .bool false)
       intro bb hbb
       subst hbb
       refine ⟨_,fun w=>?_,rfl⟩
       go_simp
      case g26 =>
       intro v w1 hx (q25:v 25 = .bool false)
       intro bb hbb
       refine Flow.guarded_yes (d:=126) rfl rfl (by rw [hbb]; simp only [size_put]; exact (by decide:126 < 193)) (by rw [hbb]; dsimp only; (try simp (discharger:=decide) only [eval_put_ne]); rw [eval_put_eq (by simp only [size_put]; exact (by decide:126 < 193))]; exact q25) ?_
       subst hbb
       refine ⟨_,fun w=>?_,rfl⟩
       go_simp
      case g27 =>
       intro v w1 hx (q25:v 25 = .bool false)
       intro bb hbb
       refine Flow.guarded_yes (d:=126) rfl rfl (by rw [hbb]; simp only [size_put]; exact (by decide:126 < 193)) (by rw [hbb]; dsimp only; (try simp (discharger:=decide) only [eval_put_ne]); rw [eval_put_eq (by simp only [size_put]; exact (by decide:126 < 193))]; exact q25) ?_
       subst hbb
       refine ⟨_,fun w=>?_,rfl⟩
       go_simp
      case g28 =>
       intro v w1 hx (q25:v 25 = .bool false) (q26:v 26 = .slice Ac Q.length capc) (q27:v 27 = .slice Ap Q.length capp)
       intro bb hbb
       refine Flow.guarded_yes (d:=126) rfl rfl (by rw [hbb]; simp only [size_put]; exact (by decide:126 < 193)) (by rw [hbb]; dsimp only; (try simp (discharger:=decide) only [eval_put_ne]); rw [eval_put_eq (by simp only [size_put]; exact (by decide:126 < 193))]; exact q25) ?_
       subst hbb
       intro K hK
       go_simp
       refine gives_call (lSameSets w1 _ _ Q (HC.out.ext (hdr.trans hx)) (HP.out.ext (hdr.trans hx))) ?_
       rintro e w2 ⟨rfl,hx2⟩
       exact ⟨_,rfl,hK _ _ hx2 rfl⟩
      case g29 =>
       intro v w1 hx (q25:v 25 = .bool false) (q28:v 28 = .bool true)
       intro bb hbb
       refine Flow.guarded_yes (d:=126) rfl rfl (by rw [hbb]; simp only [size_put]; exact (by decide:126 < 193)) (by rw [hbb]; dsimp only; (try simp (discharger:=decide) only [eval_put_ne]); rw [eval_put_eq (by simp only [size_put]; exact (by decide:126 < 193))]; exact q25) ?_
       subst hbb
       refine ⟨_,fun w=>?_,rfl⟩
       go_simp
      case g30 =>
       intro v w1 hx (q25:v 25 = .bool false) (q29:v 29 = .bool false)
       intro bb hbb
       subst hbb
       refine ⟨_,fun w=>?_,rfl⟩
       go_simp
      case g31 =>
       intro v w1 hx (q28:v 28 = .bool true) (q30:v 30 = .bool false)
       intro bb hbb
       subst hbb
       refine ⟨_,fun w=>?_,rfl⟩
       go_simp
      case g32 =>
       intro v w1 hx (q31:v 31 = .bool false)
       intro bb hbb
       refine Flow.guarded_yes (d:=132) rfl rfl (by rw [hbb]; simp only [size_put]; exact (by decide:132 < 193)) (by rw [hbb]; dsimp only; (try simp (discharger:=decide) only [eval_put_ne]); rw [eval_put_eq (by simp only [size_put]; exact (by decide:132 < 193))]; exact q31) ?_
       intro K2 hK2
       have o1:bb.eval (.tmp 11) = .pointer (some ⟨g11,0,none⟩):=by rw [hbb]; dsimp only; (try simp (discharger:=decide) only [eval_put_ne]); rfl
       exact gives_load_blk (.tmp 11) _ rfl Tryz.aggRat Tryz.sizeRat o1 (K11.out.ext (hdr.trans hx)) rfl (hK2 _ _ (Ext.refl _) rfl)
      case g33 =>
       intro v w1 hx (q31:v 31 = .bool false)
       intro bb hbb
       refine Flow.guarded_yes (d:=132) rfl rfl (by rw [hbb]; simp only [size_put]; exact (by decide:132 < 193)) (by rw [hbb]; dsimp only; (try simp (discharger:=decide) only [eval_put_ne]); rw [eval_put_eq (by simp only [size_put]; exact (by decide:132 < 193))]; exact q31) ?_
       intro K2 hK2
       have o1:bb.eval (.tmp 13) = .pointer (some ⟨g13,0,none⟩):=by rw [hbb]; dsimp only; (try simp (discharger:=decide) only [eval_put_ne]); rfl
       exact gives_load_blk (.tmp 13) _ rfl Tryz.aggRat Tryz.sizeRat o1 (K13.out.ext (hdr.trans hx)) rfl (hK2 _ _ (Ext.refl _) rfl)
      case g34 =>
       intro v w1 hx (q31:v 31 = .bool false) (q32:v 32 = .agg #[.int .i64 pn,.int .i64 rd]) (q33:v 33 = .agg #[.int .i64 rn,.int .i64 rd])
       intro bb hbb
       refine Flow.guarded_yes (d:=132) rfl rfl (by rw [hbb]; simp only [size_put]; exact (by decide:132 < 193)) (by rw [hbb]; dsimp only; (try simp (discharger:=decide) only [eval_put_ne]); rw [eval_put_eq (by simp only [size_put]; exact (by decide:132 < 193))]; exact q31) ?_
       intro K2 hK2
       have o1:bb.eval (.tmp 133) = .agg #[.int .i64 pn,.int .i64 rd]:=by rw [hbb]; dsimp only; (try simp (discharger:=decide) only [eval_put_ne]); rw [eval_put_eq (by simp only [size_put]; exact (by decide:133 < 193))]; exact q32
       have o2:bb.eval (.tmp 134) = .agg #[.int .i64 rn,.int .i64 rd]:=by rw [hbb]; dsimp only; (try simp (discharger:=decide) only [eval_put_ne]); rw [eval_put_eq (by simp only [size_put]; exact (by decide:134 < 193))]; exact q33
       exact gives_buildSlice2 143 59 (.tmp 133) (.tmp 134) rfl o1 o2 (run_bs_rat2 w1 _ _ _ _) (hK2 _ _ (Ext.box _ _) (rats_new (l:=[⟨pn,rd⟩,⟨rn,rd⟩]) (by simp)))
      case g35 =>
       intro v w1 hx (q31:v 31 = .bool false) (q34:IsRats w1 (v 34) [⟨pn,rd⟩,⟨rn,rd⟩])
       intro bb hbb
       refine Flow.guarded_yes (d:=132) rfl rfl (by rw [hbb]; simp only [size_put]; exact (by decide:132 < 193)) (by rw [hbb]; dsimp only; (try simp (discharger:=decide) only [eval_put_ne]); rw [eval_put_eq (by simp only [size_put]; exact (by decide:132 < 193))]; exact q31) ?_
       subst hbb
       intro K hK
       go_simp
       refine gives_call (room_ok w1 _ _ q34 HRR2.out) ?_
       rintro e w2 ⟨rfl,hx2⟩
       exact ⟨_,rfl,hK _ _ hx2 rfl⟩
      case g36 =>
       intro v w1 hx (q31:v 31 = .bool false) (q35:v 35 = .bool true)
       intro bb hbb
       refine Flow.guarded_yes (d:=132) rfl rfl (by rw [hbb]; simp only [size_put]; exact (by decide:132 < 193)) (by rw [hbb]; dsimp only; (try simp (discharger:=decide) only [eval_put_ne]); rw [eval_put_eq (by simp only [size_put]; exact (by decide:132 < 193))]; exact q31) ?_
       subst hbb
       refine ⟨_,fun w=>?_,rfl⟩
       go_simp
      case g37 =>
       intro v w1 hx (q31:v 31 = .bool false) (q36:v 36 = .bool false)
       intro bb hbb
       subst hbb
       refine ⟨_,fun w=>?_,rfl⟩
       go_simp
      case g38 =>
       intro v w1 hx (q35:v 35 = .bool true) (q37:v 37 = .bool false)
       intro bb hbb
       subst hbb
       refine ⟨_,fun w=>?_,rfl⟩
       go_simp
      case g39 =>
       intro v w1 hx (q38:v 38 = .bool false)
       intro bb hbb
       refine Flow.guarded_yes (d:=139) rfl rfl (by rw [hbb]; simp only [size_put]; exact (by decide:139 < 193)) (by rw [hbb]; dsimp only; (try simp (discharger:=decide) only [eval_put_ne]); rw [eval_put_eq (by simp only [size_put]; exact (by decide:139 < 193))]; exact q38) ?_
       subst hbb
       refine ⟨_,fun w=>?_,rfl⟩
       go_simp
      case g40 =>
       intro v w1 hx (q38:v 38 = .bool false) (q39:v 39 = .pointer (some ⟨g11,1,none⟩))
       intro bb hbb
       have n0:w1.cell? ⟨g11,1,none⟩ = some (.int .i64 rd):=(K11.out.ext (hdr.trans hx)).cell 1
       refine Flow.guarded_yes (d:=139) rfl rfl (by rw [hbb]; simp only [size_put]; exact (by decide:139 < 193)) (by rw [hbb]; dsimp only; (try simp (discharger:=decide) only [eval_put_ne]); rw [eval_put_eq (by simp only [size_put]; exact (by decide:139 < 193))]; exact q38) ?_
       subst hbb
       intro K hK
       go_simp
       exact hK _ _ (Ext.refl _) rfl
      case g41 =>
       intro v w1 hx (q38:v 38 = .bool false)
       intro bb hbb
       refine Flow.guarded_yes (d:=139) rfl rfl (by rw [hbb]; simp only [size_put]; exact (by decide:139 < 193)) (by rw [hbb]; dsimp only; (try simp (discharger:=decide) only [eval_put_ne]); rw [eval_put_eq (by simp only [size_put]; exact (by decide:139 < 193))]; exact q38) ?_
       subst hbb
       refine ⟨_,fun w=>?_,rfl⟩
       go_simp
      case g42 =>
       intro v w1 hx (q38:v 38 = .bool false) (q41:v 41 = .pointer (some ⟨g13,1,none⟩))
       intro bb hbb
       have n0:w1.cell? ⟨g13,1,none⟩ = some (.int .i64 rd):=(K13.out.ext (hdr.trans hx)).cell 1
       refine Flow.guarded_yes (d:=139) rfl rfl (by rw [hbb]; simp only [size_put]; exact (by decide:139 < 193)) (by rw [hbb]; dsimp only; (try simp (discharger:=decide) only [eval_put_ne]); rw [eval_put_eq (by simp only [size_put]; exact (by decide:139 < 193))]; exact q38) ?_
       subst hbb
       intro K hK
       go_simp
       exact hK _ _ (Ext.refl _) rfl
      case g43 =>
       intro v w1 hx (q38:v 38 = .bool false) (q40:v 40 = .int .i64 rd) (q42:v 42 = .int .i64 rd)
       intro bb hbb
       refine Flow.guarded_yes (d:=139) rfl rfl (by rw [hbb]; simp only [size_put]; exact (by decide:139 < 193)) (by rw [hbb]; dsimp only; (try simp (discharger:=decide) only [eval_put_ne]); rw [eval_put_eq (by simp only [size_put]; exact (by decide:139 < 193))]; exact q38) ?_
       subst hbb
       refine ⟨_,fun w=>?_,rfl⟩
       go_simp
      case g44 =>
       intro v w1 hx (q38:v 38 = .bool false) (q43:v 43 = .bool false)
       intro bb hbb
       subst hbb
       refine ⟨_,fun w=>?_,rfl⟩
       go_simp
      case g45 =>
       intro v w1 hx (q38:v 38 = .bool false) (q44:v 44 = .bool false)
       intro bb hbb
       subst hbb
       refine ⟨_,fun w=>?_,rfl⟩
       go_simp
      case g46 =>
       intro v w1 hx (q45:v 45 = .bool false)
       intro bb hbb
       refine Flow.guarded_yes (d:=146) rfl rfl (by rw [hbb]; simp only [size_put]; exact (by decide:146 < 193)) (by rw [hbb]; dsimp only; (try simp (discharger:=decide) only [eval_put_ne]); rw [eval_put_eq (by simp only [size_put]; exact (by decide:146 < 193))]; exact q45) ?_
       subst hbb
       refine ⟨_,fun w=>?_,rfl⟩
       go_simp
      case g47 =>
       intro v w1 hx (q45:v 45 = .bool false) (q46:v 46 = .pointer (some ⟨g11,0,none⟩))
       intro bb hbb
       have n0:w1.cell? ⟨g11,0,none⟩ = some (.int .i64 pn):=(K11.out.ext (hdr.trans hx)).cell 0
       refine Flow.guarded_yes (d:=146) rfl rfl (by rw [hbb]; simp only [size_put]; exact (by decide:146 < 193)) (by rw [hbb]; dsimp only; (try simp (discharger:=decide) only [eval_put_ne]); rw [eval_put_eq (by simp only [size_put]; exact (by decide:146 < 193))]; exact q45) ?_
       subst hbb
       intro K hK
       go_simp
       exact hK _ _ (Ext.refl _) rfl
      case g48 =>
       intro v w1 hx (q45:v 45 = .bool false)
       intro bb hbb
       refine Flow.guarded_yes (d:=146) rfl rfl (by rw [hbb]; simp only [size_put]; exact (by decide:146 < 193)) (by rw [hbb]; dsimp only; (try simp (discharger:=decide) only [eval_put_ne]); rw [eval_put_eq (by simp only [size_put]; exact (by decide:146 < 193))]; exact q45) ?_
       subst hbb
       refine ⟨_,fun w=>?_,rfl⟩
       go_simp
      case g49 =>
       intro v w1 hx (q45:v 45 = .bool false) (q48:v 48 = .pointer (some ⟨g13,0,none⟩))
       intro bb hbb
       have n0:w1.cell? ⟨g13,0,none⟩ = some (.int .i64 rn):=(K13.out.ext (hdr.trans hx)).cell 0
       refine Flow.guarded_yes (d:=146) rfl rfl (by rw [hbb]; simp only [size_put]; exact (by decide:146 < 193)) (by rw [hbb]; dsimp only; (try simp (discharger:=decide) only [eval_put_ne]); rw [eval_put_eq (by simp only [size_put]; exact (by decide:146 < 193))]; exact q45) ?_
       subst hbb
       intro K hK
       go_simp
       exact hK _ _ (Ext.refl _) rfl
      case g50 =>
       intro v w1 hx (q45:v 45 = .bool false) (q47:v 47 = .int .i64 pn) (q49:v 49 = .int .i64 rn)
       intro bb hbb
       refine Flow.guarded_yes (d:=146) rfl rfl (by rw [hbb]; simp only [size_put]; exact (by decide:146 < 193)) (by rw [hbb]; dsimp only; (try simp (discharger:=decide) only [eval_put_ne]); rw [eval_put_eq (by simp only [size_put]; exact (by decide:146 < 193))]; exact q45) ?_
       subst hbb
       refine ⟨_,fun w=>?_,rfl⟩
       go_simp
      case g51 =>
       intro v w1 hx (q45:v 45 = .bool false)
       intro bb hbb
       refine Flow.guarded_yes (d:=146) rfl rfl (by rw [hbb]; simp only [size_put]; exact (by decide:146 < 193)) (by rw [hbb]; dsimp only; (try simp (discharger:=decide) only [eval_put_ne]); rw [eval_put_eq (by simp only [size_put]; exact (by decide:146 < 193))]; exact q45) ?_
       subst hbb
       refine ⟨_,fun w=>?_,rfl⟩
       go_simp
      case g52 =>
       intro v w1 hx (q45:v 45 = .bool false) (q51:v 51 = .pointer (some ⟨g11,1,none⟩))
       intro bb hbb
       have n0:w1.cell? ⟨g11,1,none⟩ = some (.int .i64 rd):=(K11.out.ext (hdr.trans hx)).cell 1
       refine Flow.guarded_yes (d:=146) rfl rfl (by rw [hbb]; simp only [size_put]; exact (by decide:146 < 193)) (by rw [hbb]; dsimp only; (try simp (discharger:=decide) only [eval_put_ne]); rw [eval_put_eq (by simp only [size_put]; exact (by decide:146 < 193))]; exact q45) ?_
       subst hbb
       intro K hK
       go_simp
       exact hK _ _ (Ext.refl _) rfl
      case g53 =>
       intro v w1 hx (q45:v 45 = .bool false) (q50:v 50 = .int .i64 rd) (q52:v 52 = .int .i64 rd)
       intro bb hbb
       refine Flow.guarded_yes (d:=146) rfl rfl (by rw [hbb]; simp only [size_put]; exact (by decide:146 < 193)) (by rw [hbb]; dsimp only; (try simp (discharger:=decide) only [eval_put_ne]); rw [eval_put_eq (by simp only [size_put]; exact (by decide:146 < 193))]; exact q45) ?_
       subst hbb
       refine ⟨_,fun w=>?_,rfl⟩
       go_simp
      case g54 =>
       intro v w1 hx (q45:v 45 = .bool false) (q53:v 53 = .bool false)
       intro bb hbb
       subst hbb
       refine ⟨_,fun w=>?_,rfl⟩
       go_simp
     case post =>
      intro v w1 hx (q0:v 0 = .int .i64 0) (q1:v 1 = .bool false) (q2:v 2 = .bool false) (q3:v 3 = .int .i64 0) (q4:v 4 = .bool false) (q5:v 5 = .bool false) (q6:v 6 = .bool false) (q7:v 7 = .int .i64 0) (q8:v 8 = .bool false) (q9:v 9 = .bool false) (q10:v 10 = .bool false) (q11:v 11 = .int .i64 0) (q12:v 12 = .bool false) (q13:v 13 = .bool false) (q14:v 14 = .bool false) (q15:v 15 = .int .i64 0) (q16:v 16 = .bool false) (q17:v 17 = .bool false) (q18:v 18 = .bool false) (q19:v 19 = .agg #[.slice A9 P.basics.length capA9,.slice B9 P.causes.length capB9,.slice G9 P.gates.length capG9]) (q20:IsTree w1 (v 20) P) (q21:v 21 = .agg #[.slice A t.basics.length capa,.slice none 0 0,.slice G t.gates.length capg]) (q22:v 22 = .bool true) (q23:v 23 = .bool false) (q24:v 24 = .bool false) (q25:v 25 = .bool false) (q26:v 26 = .slice Ac Q.length capc) (q27:v 27 = .slice Ap Q.length capp) (q28:v 28 = .bool true) (q29:v 29 = .bool false) (q30:v 30 = .bool false) (q31:v 31 = .bool false) (q32:v 32 = .agg #[.int .i64 pn,.int .i64 rd]) (q33:v 33 = .agg #[.int .i64 rn,.int .i64 rd]) (q34:IsRats w1 (v 34) [⟨pn,rd⟩,⟨rn,rd⟩]) (q35:v 35 = .bool true) (q36:v 36 = .bool false) (q37:v 37 = .bool false) (q38:v 38 = .bool false) (q39:v 39 = .pointer (some ⟨g11,1,none⟩)) (q40:v 40 = .int .i64 rd) (q41:v 41 = .pointer (some ⟨g13,1,none⟩)) (q42:v 42 = .int .i64 rd) (q43:v 43 = .bool false) (q44:v 44 = .bool false) (q45:v 45 = .bool false) (q46:v 46 = .pointer (some ⟨g11,0,none⟩)) (q47:v 47 = .int .i64 pn) (q48:v 48 = .pointer (some ⟨g13,0,none⟩)) (q49:v 49 = .int .i64 rn) (q50:v 50 = .int .i64 rd) (q51:v 51 = .pointer (some ⟨g11,1,none⟩)) (q52:v 52 = .int .i64 rd) (q53:v 53 = .bool false) (q54:v 54 = .bool false)
      simp only [Flow.All,Flow.acts,Act.put]
      go_simp
      have hxx:=hdr.trans hx
      replace HX:=Lib.hid (HX.out.trans hxx)
      replace HTAB:=Lib.hid (HTAB.out.ext hxx)
      replace K0:=Lib.hid (K0.out.ext hxx)
      replace HT:=Lib.hid (HT.out.ext hxx)
      replace KP:=Lib.hid (KP.out.ext hxx)
      replace HTP:=Lib.hid (HTP.out.ext hxx)
      replace HD:=Lib.hid (HD.out.ext hxx)
      replace K6:=Lib.hid (K6.out.ext hxx)
      replace HO:=Lib.hid (HO.out.ext hxx)
      replace K8:=Lib.hid (K8.out.ext hxx)
      replace HBA:=Lib.hid (HBA.out.ext hxx)
      replace K9:=Lib.hid (K9.out.ext hxx)
      replace K11:=Lib.hid (K11.out.ext hxx)
      replace K13:=Lib.hid (K13.out.ext hxx)
      replace HC:=Lib.hid (HC.out.ext hxx)
      replace HP:=Lib.hid (HP.out.ext hxx)
      clear hxx hx hdr q0 q1 q2 q3 q4 q5 q6 q7 q8 q9 q10 q11 q12 q13 q14 q15 q16 q17 q18 q19 q20 q21 q22 q23 q24 q25 q26 q27 q28 q29 q30 q31 q32 q33 q34 q35 q36 q37 q38 q39 q40 q41 q42 q43 q44 q45 q46 q47 q48 q49 q50 q51 q52 q53 q54
      obtain ⟨w20,rfl⟩:∃ X,X = w1:=⟨_,rfl⟩
      have kp_0:=KP.out.cell 0
      have kp_1:=KP.out.cell 1
      have kp_2:=KP.out.cell 2
      simp only [List.getElem?_toArray,List.getElem?_cons_zero,List.getElem?_cons_succ] at kp_0 kp_1 kp_2
      go_wp2_with fail
      clear kp_0 kp_1 kp_2
      refine (Size_any _ _ P ⟨_,_,_,rfl,HTP.out⟩).mono ?_
      rintro e w21 ⟨rfl,hx⟩
      have hxx:Ext w20 w21:=hx
      replace HX:=Lib.hid (HX.out.trans hxx)
      replace HTAB:=Lib.hid (HTAB.out.ext hxx)
      replace K0:=Lib.hid (K0.out.ext hxx)
      replace HT:=Lib.hid (HT.out.ext hxx)
      replace KP:=Lib.hid (KP.out.ext hxx)
      replace HTP:=Lib.hid (HTP.out.ext hxx)
      replace HD:=Lib.hid (HD.out.ext hxx)
      replace K6:=Lib.hid (K6.out.ext hxx)
      replace HO:=Lib.hid (HO.out.ext hxx)
      replace K8:=Lib.hid (K8.out.ext hxx)
      replace HBA:=Lib.hid (HBA.out.ext hxx)
      replace K9:=Lib.hid (K9.out.ext hxx)
      replace K11:=Lib.hid (K11.out.ext hxx)
      replace K13:=Lib.hid (K13.out.ext hxx)
      replace HC:=Lib.hid (HC.out.ext hxx)
      replace HP:=Lib.hid (HP.out.ext hxx)
      clear hx hxx
      obtain ⟨sz,hsz⟩:∃ x,P.size = x:=⟨_,rfl⟩
      rw [hsz]
      have hs7':sz ≤ 7:=by rw [← hsz]; exact HPS.out
      have hp7:=shl1 sz hs7'
      have hp0:=Nat.two_pow_pos sz
      obtain ⟨N,hN⟩:∃ N,2 ^ sz = N:=⟨_,rfl⟩
      have HN:Hid (2 ^ P.size = N):=by exact (by rw [hsz,hN]:2 ^ P.size = N)
      have p1:=pow64 (n:=sz) (by omega)
      rw [hN] at hp7 hp0 p1
      clear hsz hN hwr
      have p1v:=congrArg (Value.int .i64) p1
      go_wp2
      try simp only [p1]
      clear p1
      have HXB2:=Lib.hid HX.out
      clear HX
      go_loopw [159] (fun i wr=>∃ s:Nat,s ≤ N ∧ i = .int .i64 s ∧ Ext w21 wr) (fun i _=>N - (intOf i).toNat)
      case atStart=>exact ⟨0,Nat.zero_le _,rfl,Ext.refl _⟩
      case round =>
       obtain ⟨s,hs,rfl,hx⟩:=hrel
       obtain ⟨w22,rfl⟩:∃ X,X = wr:=⟨_,rfl⟩
       have HX:=Lib.hid hx
       replace HTAB:=Lib.hid (HTAB.out.ext hx)
       replace K0:=Lib.hid (K0.out.ext hx)
       replace HT:=Lib.hid (HT.out.ext hx)
       replace KP:=Lib.hid (KP.out.ext hx)
       replace HTP:=Lib.hid (HTP.out.ext hx)
       replace HD:=Lib.hid (HD.out.ext hx)
       replace K6:=Lib.hid (K6.out.ext hx)
       replace HO:=Lib.hid (HO.out.ext hx)
       replace K8:=Lib.hid (K8.out.ext hx)
       replace HBA:=Lib.hid (HBA.out.ext hx)
       replace K9:=Lib.hid (K9.out.ext hx)
       replace K11:=Lib.hid (K11.out.ext hx)
       replace K13:=Lib.hid (K13.out.ext hx)
       clear hx
       by_cases hls:s < N
       · have HS2:Hid (s < 2 ^ P.size):=by exact (by rw [HN.out]; exact hls:s < 2 ^ P.size)
         go_wp2_with fail
         refine (Members_any _ s (by omega)).mono ?_
         rintro e w23 ⟨ul,rfl,hl,hx⟩
         have hxx:Ext w22 w23:=hx
         replace HX:=Lib.hid (HX.out.trans hxx)
         replace HTAB:=Lib.hid (HTAB.out.ext hxx)
         replace K0:=Lib.hid (K0.out.ext hxx)
         replace HT:=Lib.hid (HT.out.ext hxx)
         replace KP:=Lib.hid (KP.out.ext hxx)
         replace HTP:=Lib.hid (HTP.out.ext hxx)
         replace HD:=Lib.hid (HD.out.ext hxx)
         replace K6:=Lib.hid (K6.out.ext hxx)
         replace HO:=Lib.hid (HO.out.ext hxx)
         replace K8:=Lib.hid (K8.out.ext hxx)
         replace HBA:=Lib.hid (HBA.out.ext hxx)
         replace K9:=Lib.hid (K9.out.ext hxx)
         replace K11:=Lib.hid (K11.out.ext hxx)
         replace K13:=Lib.hid (K13.out.ext hxx)
         have HB:=Lib.hid (hl)
         clear hl
         clear hx hxx
         obtain ⟨f,hf⟩:∃ f,P.fails (evL (bitsOf s)) = f:=⟨_,rfl⟩
         have HFF:=Lib.hid hf
         have HSB:=Lib.hid (bits_setErr HS2.out)
         have HDO:=Lib.hid (HFL.out (bitsOf s))
         have HBL:Hid ((bitsOf s).length ≤ 7):=by exact (Nat.le_trans (bits_len HS2.out) HPS.out:(bitsOf s).length ≤ 7)
         obtain ⟨bl,hbl⟩:∃ l,bitsOf s = l:=⟨_,rfl⟩
         rw [hf] at HDO
         rw [hbl] at HB HFF HSB HDO HBL
         have hbl7:=HBL.out
         obtain ⟨Ab,capb2,rfl,_,_,_⟩:=HB.out.opened
         clear hf hbl
         have kp_0:=KP.out.cell 0
         have kp_1:=KP.out.cell 1
         have kp_2:=KP.out.cell 2
         simp only [List.getElem?_toArray,List.getElem?_cons_zero,List.getElem?_cons_succ] at kp_0 kp_1 kp_2
         go_wp2_with fail
         clear kp_0 kp_1 kp_2
         refine (own_any _ _ (P) ⟨_,_,_,rfl,HTP.out⟩ HPF.out).mono ?_
         rintro e w24 ⟨uu,rfl,hu,hx⟩
         have hxx:Ext w23 w24:=hx
         replace HX:=Lib.hid (HX.out.trans hxx)
         replace HTAB:=Lib.hid (HTAB.out.ext hxx)
         replace K0:=Lib.hid (K0.out.ext hxx)
         replace HT:=Lib.hid (HT.out.ext hxx)
         replace KP:=Lib.hid (KP.out.ext hxx)
         replace HTP:=Lib.hid (HTP.out.ext hxx)
         replace HD:=Lib.hid (HD.out.ext hxx)
         replace K6:=Lib.hid (K6.out.ext hxx)
         replace HO:=Lib.hid (HO.out.ext hxx)
         replace K8:=Lib.hid (K8.out.ext hxx)
         replace HBA:=Lib.hid (HBA.out.ext hxx)
         replace K9:=Lib.hid (K9.out.ext hxx)
         replace K11:=Lib.hid (K11.out.ext hxx)
         replace K13:=Lib.hid (K13.out.ext hxx)
         replace HB:=Lib.hid (HB.out.ext hxx)
         have HU:=Lib.hid (hu)
         clear hu
         clear hx hxx
         go_wp2_with fail
         refine (lints_any _ _ bl HB.out (by have:=HBL.out; omega)).mono ?_
         rintro e w25 ⟨vb,rfl,hv,hx⟩
         have hxx:Ext w24 w25:=hx
         replace HX:=Lib.hid (HX.out.trans hxx)
         replace HTAB:=Lib.hid (HTAB.out.ext hxx)
         replace K0:=Lib.hid (K0.out.ext hxx)
         replace HT:=Lib.hid (HT.out.ext hxx)
         replace KP:=Lib.hid (KP.out.ext hxx)
         replace HTP:=Lib.hid (HTP.out.ext hxx)
         replace HD:=Lib.hid (HD.out.ext hxx)
         replace K6:=Lib.hid (K6.out.ext hxx)
         replace HO:=Lib.hid (HO.out.ext hxx)
         replace K8:=Lib.hid (K8.out.ext hxx)
         replace HBA:=Lib.hid (HBA.out.ext hxx)
         replace K9:=Lib.hid (K9.out.ext hxx)
         replace K11:=Lib.hid (K11.out.ext hxx)
         replace K13:=Lib.hid (K13.out.ext hxx)
         replace HB:=Lib.hid (HB.out.ext hxx)
         replace HU:=Lib.hid (HU.out.ext hxx)
         have HVB:=Lib.hid (hv.ints (by have:=HBL.out; omega))
         clear hv
         clear hx hxx
         go_wp2_with fail
         refine (lFailsL _ _ _ P bl f HPE.out HSB.out HFF.out HU.out HVB.out).mono ?_
         rintro e w26 ⟨rfl,hx⟩
         have hxx:Ext w25 w26:=hx
         replace HX:=Lib.hid (HX.out.trans hxx)
         clear HVB
         replace HTAB:=Lib.hid (HTAB.out.ext hxx)
         replace K0:=Lib.hid (K0.out.ext hxx)
         replace HT:=Lib.hid (HT.out.ext hxx)
         replace KP:=Lib.hid (KP.out.ext hxx)
         replace HTP:=Lib.hid (HTP.out.ext hxx)
         replace HD:=Lib.hid (HD.out.ext hxx)
         replace K6:=Lib.hid (K6.out.ext hxx)
         replace HO:=Lib.hid (HO.out.ext hxx)
         replace K8:=Lib.hid (K8.out.ext hxx)
         replace HBA:=Lib.hid (HBA.out.ext hxx)
         replace K9:=Lib.hid (K9.out.ext hxx)
         replace K11:=Lib.hid (K11.out.ext hxx)
         replace K13:=Lib.hid (K13.out.ext hxx)
         replace HB:=Lib.hid (HB.out.ext hxx)
         replace HU:=Lib.hid (HU.out.ext hxx)
         clear hx hxx
         clear HU
         have hdr:=(Ext.refl w26).drew
         go_wp2
         refine Flow.regionB0 [.world,.world,.world,.plain,.world,.world,.plain,.plain,.plain,.plain,.plain] [0,1,2,3,4,5,6,7,8,9,10] [[],[0],[],[],[0,1,2,3],[0,1,2,3,4],[0,1,2,3,4,5],[0,1,2,3,4,5,6],[0,1,2,3,4,5,6],[0,1,2,3,4,5,6,7],[0,1,2,3,4,5,6,7,8,9]]
          [.is 0 (fun v=>.agg #[.slice A8 (dualOf P).basics.length capA8,.slice B8 (dualOf P).causes.length capB8,.slice G8 (dualOf P).gates.length capG8]),⟨fun v wz=>IsTree wz (v 1) (dualOf P),fun _ _ _ hx h=>h.ext hx⟩,.is 2 (fun v=>.agg #[.slice A t.basics.length capa,.slice none 0 0,.slice G t.gates.length capg]),.is 3 (fun v=>.slice Ab bl.length capb2),⟨fun v wz=>IsInts wz (v 4) (others P.size bl),fun _ _ _ hx h=>h.ext hx⟩,.is 5 (fun v=>.tuple #[.bool (!f),.int .i64 0]),.is 6 (fun v=>.tuple #[.bool (!f),.int .i64 0]),.is 7 (fun v=>.bool (!f)),.is 8 (fun v=>.int .i64 0),.is 9 (fun v=>.bool (!f)),.is 10 (fun v=>.int .i64 0)]
          (by kernel_rfl) rfl (by kernel_rfl) ⟨?g0,?g1,?g2,?g3,?g4,?g5,?g6,?g7,?g8,?g9,?g10,trivial⟩ ?post
         case g0 =>
          intro v w1 hx
          intro bb hbb
          intro K2 hK2
          have o1:bb.eval (.tmp 8) = .pointer (some ⟨g8,0,none⟩):=by rw [hbb]; dsimp only; (try simp (discharger:=decide) only [eval_put_ne]); rfl
          exact gives_load_blk (.tmp 8) _ rfl Tryz.aggRTree Tryz.sizeRTree o1 (K8.out.ext (hdr.trans hx)) rfl (hK2 _ _ (Ext.refl _) rfl)
         case g1 =>
          intro v w1 hx (q0:v 0 = .agg #[.slice A8 (dualOf P).basics.length capA8,.slice B8 (dualOf P).causes.length capB8,.slice G8 (dualOf P).gates.length capG8])
          intro bb hbb
          subst hbb
          intro K hK
          go_simp
          refine gives_call (own_any w1 _ (dualOf P) ⟨_,_,_,rfl,HO.out.ext (hdr.trans hx)⟩ HDF.out) ?_
          rintro e w2 ⟨x,rfl,h,hx2⟩
          exact ⟨_,rfl,hK _ _ hx2 h⟩
         case g2 =>
          intro v w1 hx
          intro bb hbb
          intro K2 hK2
          have o1:bb.eval (.tmp 3) = .pointer (some ⟨w2.heap.size,0,none⟩):=by rw [hbb]; dsimp only; (try simp (discharger:=decide) only [eval_put_ne]); rfl
          exact gives_load_blk (.tmp 3) _ rfl Tryz.aggRTree Tryz.sizeRTree o1 (KP.out.ext (hdr.trans hx)) rfl (hK2 _ _ (Ext.refl _) rfl)
         case g3 =>
          intro v w1 hx
          intro bb hbb
          subst hbb
          refine ⟨_,fun w=>?_,rfl⟩
          go_simp
         case g4 =>
          intro v w1 hx (q0:v 0 = .agg #[.slice A8 (dualOf P).basics.length capA8,.slice B8 (dualOf P).causes.length capB8,.slice G8 (dualOf P).gates.length capG8]) (q1:IsTree w1 (v 1) (dualOf P)) (q2:v 2 = .agg #[.slice A t.basics.length capa,.slice none 0 0,.slice G t.gates.length capg]) (q3:v 3 = .slice Ab bl.length capb2)
          intro bb hbb
          subst hbb
          intro K hK
          go_simp
          refine gives_call (lOthers w1 _ _ P bl HPV.out.size ⟨_,_,_,rfl,HTP.out.ext (hdr.trans hx)⟩ (HB.out.ext (hdr.trans hx))) ?_
          rintro e w2 ⟨x,rfl,h,hx2⟩
          exact ⟨_,rfl,hK _ _ hx2 h⟩
         case g5 =>
          intro v w1 hx (q0:v 0 = .agg #[.slice A8 (dualOf P).basics.length capA8,.slice B8 (dualOf P).causes.length capB8,.slice G8 (dualOf P).gates.length capG8]) (q1:IsTree w1 (v 1) (dualOf P)) (q2:v 2 = .agg #[.slice A t.basics.length capa,.slice none 0 0,.slice G t.gates.length capg]) (q3:v 3 = .slice Ab bl.length capb2) (q4:IsInts w1 (v 4) (others P.size bl))
          intro bb hbb
          subst hbb
          intro K hK
          go_simp
          refine gives_call (lFailsL w1 _ _ (dualOf P) (others P.size bl) (!f) HDE.out (by rw [HDS.out]; exact others_setErr _ _) HDO.out q1 q4) ?_
          rintro e w2 ⟨rfl,hx2⟩
          exact ⟨_,rfl,hK _ _ hx2 rfl⟩
         case g6 =>
          intro v w1 hx (q0:v 0 = .agg #[.slice A8 (dualOf P).basics.length capA8,.slice B8 (dualOf P).causes.length capB8,.slice G8 (dualOf P).gates.length capG8]) (q1:IsTree w1 (v 1) (dualOf P)) (q2:v 2 = .agg #[.slice A t.basics.length capa,.slice none 0 0,.slice G t.gates.length capg]) (q3:v 3 = .slice Ab bl.length capb2) (q4:IsInts w1 (v 4) (others P.size bl)) (q5:v 5 = .tuple #[.bool (!f),.int .i64 0])
          intro bb hbb
          subst hbb
          refine ⟨_,fun w=>?_,rfl⟩
          go_simp
         case g7 =>
          intro v w1 hx (q0:v 0 = .agg #[.slice A8 (dualOf P).basics.length capA8,.slice B8 (dualOf P).causes.length capB8,.slice G8 (dualOf P).gates.length capG8]) (q1:IsTree w1 (v 1) (dualOf P)) (q2:v 2 = .agg #[.slice A t.basics.length capa,.slice none 0 0,.slice G t.gates.length capg]) (q3:v 3 = .slice Ab bl.length capb2) (q4:IsInts w1 (v 4) (others P.size bl)) (q5:v 5 = .tuple #[.bool (!f),.int .i64 0]) (q6:v 6 = .tuple #[.bool (!f),.int .i64 0])
          intro bb hbb
          subst hbb
          refine ⟨_,fun w=>?_,rfl⟩
          go_simp
         case g8 =>
          intro v w1 hx (q0:v 0 = .agg #[.slice A8 (dualOf P).basics.length capA8,.slice B8 (dualOf P).causes.length capB8,.slice G8 (dualOf P).gates.length capG8]) (q1:IsTree w1 (v 1) (dualOf P)) (q2:v 2 = .agg #[.slice A t.basics.length capa,.slice none 0 0,.slice G t.gates.length capg]) (q3:v 3 = .slice Ab bl.length capb2) (q4:IsInts w1 (v 4) (others P.size bl)) (q5:v 5 = .tuple #[.bool (!f),.int .i64 0]) (q6:v 6 = .tuple #[.bool (!f),.int .i64 0])
          intro bb hbb
          subst hbb
          refine ⟨_,fun w=>?_,rfl⟩
          go_simp
         case g9 =>
          intro v w1 hx (q0:v 0 = .agg #[.slice A8 (dualOf P).basics.length capA8,.slice B8 (dualOf P).causes.length capB8,.slice G8 (dualOf P).gates.length capG8]) (q1:IsTree w1 (v 1) (dualOf P)) (q2:v 2 = .agg #[.slice A t.basics.length capa,.slice none 0 0,.slice G t.gates.length capg]) (q3:v 3 = .slice Ab bl.length capb2) (q4:IsInts w1 (v 4) (others P.size bl)) (q5:v 5 = .tuple #[.bool (!f),.int .i64 0]) (q6:v 6 = .tuple #[.bool (!f),.int .i64 0]) (q7:v 7 = .bool (!f))
          intro bb hbb
          subst hbb
          refine ⟨_,fun w=>?_,rfl⟩
          go_simp
         case g10 =>
          intro v w1 hx (q0:v 0 = .agg #[.slice A8 (dualOf P).basics.length capA8,.slice B8 (dualOf P).causes.length capB8,.slice G8 (dualOf P).gates.length capG8]) (q1:IsTree w1 (v 1) (dualOf P)) (q2:v 2 = .agg #[.slice A t.basics.length capa,.slice none 0 0,.slice G t.gates.length capg]) (q3:v 3 = .slice Ab bl.length capb2) (q4:IsInts w1 (v 4) (others P.size bl)) (q5:v 5 = .tuple #[.bool (!f),.int .i64 0]) (q6:v 6 = .tuple #[.bool (!f),.int .i64 0]) (q7:v 7 = .bool (!f)) (q8:v 8 = .int .i64 0) (q9:v 9 = .bool (!f))
          intro bb hbb
          subst hbb
          refine ⟨_,fun w=>?_,rfl⟩
          go_simp
         case post =>
          intro v w1 hx (q0:v 0 = .agg #[.slice A8 (dualOf P).basics.length capA8,.slice B8 (dualOf P).causes.length capB8,.slice G8 (dualOf P).gates.length capG8]) (q1:IsTree w1 (v 1) (dualOf P)) (q2:v 2 = .agg #[.slice A t.basics.length capa,.slice none 0 0,.slice G t.gates.length capg]) (q3:v 3 = .slice Ab bl.length capb2) (q4:IsInts w1 (v 4) (others P.size bl)) (q5:v 5 = .tuple #[.bool (!f),.int .i64 0]) (q6:v 6 = .tuple #[.bool (!f),.int .i64 0]) (q7:v 7 = .bool (!f)) (q8:v 8 = .int .i64 0) (q9:v 9 = .bool (!f)) (q10:v 10 = .int .i64 0)
          simp only [Flow.All,Flow.acts,Act.put]
          go_simp
          have hxx:=hdr.trans hx
          replace HX:=Lib.hid (HX.out.trans hxx)
          replace HTAB:=Lib.hid (HTAB.out.ext hxx)
          replace K0:=Lib.hid (K0.out.ext hxx)
          replace HT:=Lib.hid (HT.out.ext hxx)
          replace KP:=Lib.hid (KP.out.ext hxx)
          replace HTP:=Lib.hid (HTP.out.ext hxx)
          replace HD:=Lib.hid (HD.out.ext hxx)
          replace K6:=Lib.hid (K6.out.ext hxx)
          replace HO:=Lib.hid (HO.out.ext hxx)
          replace K8:=Lib.hid (K8.out.ext hxx)
          replace HBA:=Lib.hid (HBA.out.ext hxx)
          replace K9:=Lib.hid (K9.out.ext hxx)
          replace K11:=Lib.hid (K11.out.ext hxx)
          replace K13:=Lib.hid (K13.out.ext hxx)
          replace HB:=Lib.hid (HB.out.ext hxx)
          clear hxx hx hdr q0 q1 q2 q3 q4 q5 q6 q7 q8 q9 q10
          obtain ⟨w27,rfl⟩:∃ X,X = w1:=⟨_,rfl⟩
          cases f with
          | true =>
            go_wp2
            go_roundw
            case rel=>exact ⟨s + 1,by omega,by go_num,HX.out⟩
            case measure=>simp [intOf]; omega
          | false =>
            go_wp2
            go_roundw
            case rel=>exact ⟨s + 1,by omega,by go_num,HX.out⟩
            case measure=>simp [intOf]; omega
       · skip
         replace HX:=Lib.hid (HXB2.out.trans HX.out)
         clear HXB2
         go_wp2
         go_ret
         exact ⟨rfl,HW0.out.trans HX.out⟩
end Go.Proofs
namespace Go.Proofs.YtmaejccjimkbiaaGreatDoor
open Go.ChangeShapes Go.WideShapes Go.ChangeAt Go.RowKit Go.Tw
set_option maxRecDepth 100000 in
theorem faultDuals_lifted (os:Os) (started:os.Started) (H:Type) (enc:TypeId × Value → H) :
    ReturnsInHanded {} Tryz.checked os 4 .any (fun w args=>(Rows.faultDualsSpec.pre enc Tryz.prog Tryz.f4 Rows.faultDualsRow.domain false w args ∧ laidMetH Tryz.prog laidL w) ∧ sizedMet enc Tryz.prog Tryz.f4 (OpenSpec.ofChange Rows.faultDualsSpec) false w args)
     (Rows.faultDualsSpec.post enc Tryz.prog Tryz.f4 false true false false):=by
 refine returnsInHanded_of_change_and (C:=Tryz.checked) (X:=fun w _=>laidMetH Tryz.prog laidL w) (fun _ _ _ hh h=>h.of_heap hh) own started (by kernel_rfl) Tryz.func4
  (ChangeSpec.witness_shaped (enc:=enc) (C:=Tryz.checked) (os:=os) (X:=fun w _=>laidMetH Tryz.prog laidL w) false (World.laidAll Tryz.prog os laidL) #[.agg #[.slice none 0 0,.slice none 0 0,.slice none 0 0]] 8 (World.laidAll_os _ _ _)
   (World.shaped_of_ZipB (by kernel_rfl) (by kernel_rfl)) (by kernel_rfl) (by kernel_rfl) (by kernel_rfl)
   (by rw [MakeChecks.laidMetH_plain _ _ _ (by kernel_rfl)]; exact laidMet_laidAll _ (by kernel_rfl) (by kernel_rfl))) ?_
 intro W base args ds gs before hval0 hW hc hsz0 hL _
 have hval:∀ (j:Nat) t v,Tryz.f4.params[j]? = some t → args[j]? = some v → Value.okWide Tryz.prog W .any base t v:=hval0
 have hsz:(DataW.weightsEach Tryz.prog (Tryz.f4.params.toList ++ Rows.faultDualsSpec.plain.varTypes Tryz.prog) (ds ++ gs)).all (· ≤ reachBytes) = true:=hsz0
 have hW':=hW
 obtain ⟨p,q,hA0,hV,rfl,hfz,hnd⟩:=hW
 have hA:DataW.TrodAll enc Tryz.prog W 0 (fun _=>true) true Tryz.f4.params.toList args.toList ds p:=hA0
 rw [Tryz.params4] at hA hval hsz
 obtain ⟨v0,vs0,d0,ds0,p0,q0,hargs,rfl,rfl,h0,r0⟩:=trodAll_cons hA
 obtain ⟨rfl,rfl,rfl⟩:=trodAll_nil r0
 obtain rfl:args = #[v0]:=by cases args; simp_all
 obtain ⟨rfl,rfl⟩:=trodVars_none hV
 have hfit:∀ x ∈ DataW.weightsEach Tryz.prog [26] [d0],x ≤ 140737488351232:=fun x hx=>by
  have:=List.all_eq_true.1 (show (DataW.weightsEach Tryz.prog [26] [d0]).all (· ≤ reachBytes) = true from hsz) x hx
  exact Nat.le_trans (of_decide_eq_true this) (by decide)
 obtain ⟨f0,g0⟩:=fits_each hfit
 have k0:=h0
 have lt0:∀ x ∈ p0,x.block < W.heap.size:=by obtain ⟨m,hm⟩:=k0; exact DataW.trod_lt m _ _ _ hm
 obtain ⟨t0,HI0⟩:=tree_of_trod (hval 0 26 v0 rfl rfl) h0 f0
 clear hA0 hval0 hsz0
 refine (faultDuals_any _ _ _ HI0 (tab_of_laid hL)).mono fun e W' ⟨he,bel⟩=>?_
 subst he
 exact ⟨_,rfl,_,_,_,[],_,[],hW',trodAll_mk1 (shut_bool Tryz.underlying4 _),(trodAll_cons_mk (Below.trod laidOut (by kernel_rfl) (of_decide_eq_true (by kernel_rfl)) k0 bel lt0) trodAll_mk0),rfl,bel.frame _,fun h=>by cases h⟩
theorem faultDuals_holds:Rows.FaultDualsSaid :=
 OpenClaim.holds_of_wide 4 Tryz.f4 rfl rfl rfl rfl rfl rfl rfl ⟨rfl,rfl,rfl,rfl,rfl⟩ rfl rfl rfl rfl rfl (by kernel_rfl) Tryz.func4 (by kernel_rfl)
  (of_decide_eq_true (by kernel_rfl)) (by unfold Func.isWrapper; first | (rw [if_pos (by decide +kernel)]; kernel_rfl) | (rw [if_neg (by decide +kernel)]; exact ⟨rfl,rfl⟩))
  (fun os started H enc _=>faultDuals_lifted os started H enc)
theorem faultDuals_card:Rows.FaultDualsCardSaid :=
 Claim7.holds_tied_plain_at .later [] [.data,.data,.data] true _ false faultDuals_holds (fun _ h=>by cases h) (by kernel_rfl) (fun _ h=>by cases h) faultDuals_row_tie rfl ⟨rfl,rfl⟩ (by kernel_rfl) rfl
  (fun f fn hf hfn=>by
   obtain rfl:f = 4:=Option.some.inj ((show Tryz.prog.funcNamed Rows.faultDualsRow.func = some 4 by kernel_rfl).symm.trans hf) |>.symm
   obtain rfl:fn = Tryz.f4:=(Option.some.inj (Tryz.func4.symm.trans hfn)).symm
   exact ⟨by kernel_rfl,fun j t ht=>by
    rw [Tryz.params4] at ht
    have hm:t ∈ [26]:=by simpa using Array.mem_of_getElem? ht
    have hall:([26].all fun u=>!Tryz.prog.wantsStandIn u) = true:=by kernel_rfl
    exact (show Tryz.prog.wantsStandIn t = false by simpa using List.all_eq_true.1 hall t hm)⟩)
  (by kernel_rfl)
#print axioms faultDuals_card
end Go.Proofs.YtmaejccjimkbiaaGreatDoor
