/- Contract: the reference's Next. Bounds, intervals, the next event: the program's are the reference's. -/
import Derived.Test.YthfanledageoeaaGreatDoorYb50
import Derived.Test.YthfanledageoeaaGreatDoorYb31
set_option linter.unusedVariables false
set_option linter.unusedSimpArgs false
set_option linter.constructorNameAsVariable false
namespace Go.Proofs
open Go.RowKit Go.Tw Go.Flow
def atTo (t:Tree):Nat → Int
 | 0=>-1
 | k + 1=>if nextW t k < (nextTo t k).2 then (k:Int) else atTo t k
theorem atTo_bd (t:Tree):∀ k,-1 ≤ atTo t k ∧ atTo t k < k
 | 0=>by simp [atTo]
 | k + 1=>by
   have:=atTo_bd t k
   rw [atTo]
   split <;> omega
theorem atTo_cases (t:Tree):∀ k,(atTo t k = -1 ∧ (nextTo t k).2 = weightW t t.chances 0) ∨ (0 ≤ atTo t k ∧ atTo t k = ((nextTo t k).1:Int) ∧ (nextTo t k).2 < weightW t t.chances 0)
 | 0=>.inl ⟨rfl,rfl⟩
 | k + 1=>by
   have h:=atTo_cases t k
   show (_ ∧ (nextStep t (nextTo t k) k).2 = _) ∨ (_ ∧ _ = ((nextStep t (nextTo t k) k).1:Int) ∧ (nextStep t (nextTo t k) k).2 < _)
   unfold nextStep
   rw [atTo]
   by_cases hc:nextW t k < (nextTo t k).2
   · rw [if_pos hc,if_pos hc]
     refine .inr ⟨by omega,rfl,?_⟩
     show nextW t k < _
     rcases h with ⟨_,h2⟩ | ⟨_,_,h2⟩ <;> omega
   · rw [if_neg hc,if_neg hc]; exact h
set_option maxRecDepth 100000 in
set_option maxHeartbeats 4000000 in
theorem rNext_any (w:World) (v:Value) (t:Tree) (hv:Valid t) (ht:IsTree w v t) :
    Calls Tryz.prog 46 #[v] w fun e w'=>∃ (a:Int) (r:Ratio) (x:Int),e = .returned (.tuple #[.int .i64 a,.agg #[.int .i64 r.num,.int .i64 r.den],.int .i64 x]) ∧
     ((atTo t t.size < 0 ∧ a = 0 ∧ r = ⟨0,0⟩ ∧ x = 7) ∨ (0 ≤ atTo t t.size ∧ a = atTo t t.size ∧ r = lowest (nextTo t t.size).2 (powN 16 t.size) ∧ x = 0)) ∧ Ext w w':=by
 have HV:=Lib.hid hv
 have hsz:=hv.size
 have HSM:=Lib.hid hv.small
 have HCL:=Lib.hid (chances_len t)
 have hpb:=powN16_bd hsz
 clear hv
 obtain ⟨a,b,c,rfl,h3⟩:=ht
 obtain ⟨A,capa,rfl,hl1,hcap1,_⟩:=h3.basics.opened
 obtain ⟨B,capb,rfl,hl2,hcap2,_⟩:=h3.causes.opened
 obtain ⟨G,capg,rfl,hl3,hcap3,_⟩:=h3.gates.opened
 have HT0:=Lib.hid h3
 clear h3
 go_enter Tryz.func46,Tryz.ntmps46
 go_wp2_with fail
 change Code.wp _ _ _ _ ((w.alloc (.cells #[.slice A t.basics.length capa,.slice B t.causes.length capb,.slice G t.gates.length capg] 26)).alloc (.cells #[.int .i64 0,.int .i64 0] 56))
 have k0:=Blk.made w 26 #[.slice A t.basics.length capa,.slice B t.causes.length capb,.slice G t.gates.length capg]
 have x0:=Ext.box w (.cells #[.slice A t.basics.length capa,.slice B t.causes.length capb,.slice G t.gates.length capg] 26)
 have es0:(w.alloc (.cells #[.slice A t.basics.length capa,.slice B t.causes.length capb,.slice G t.gates.length capg] 26)).heap.size = w.heap.size + 1:=by simp
 obtain ⟨X0,hX0⟩:∃ X,w.alloc (.cells #[.slice A t.basics.length capa,.slice B t.causes.length capb,.slice G t.gates.length capg] 26) = X:=⟨_,rfl⟩
 rw [hX0] at k0 x0 es0 ⊢
 clear hX0
 have k1:=Blk.made X0 56 #[.int .i64 0,.int .i64 0]
 have x1:=Ext.box X0 (.cells #[.int .i64 0,.int .i64 0] 56)
 have es1:(X0.alloc (.cells #[.int .i64 0,.int .i64 0] 56)).heap.size = X0.heap.size + 1:=by simp
 obtain ⟨X1,hX1⟩:∃ X,X0.alloc (.cells #[.int .i64 0,.int .i64 0] 56) = X:=⟨_,rfl⟩
 rw [hX1] at k1 x1 es1 ⊢
 clear hX1
 replace k0:=k0.ext x1
 have e0:X0.heap.size = w.heap.size + 1:=by omega
 have e1:X1.heap.size = w.heap.size + 1 + 1:=by omega
 rw [e0] at k1
 have HXW:Hid (Ext w X1):=by exact (Ext.trans (x0) x1:Ext w X1)
 have eW:X1.heap.size = w.heap.size + 1 + 1:=e1
 clear x0 es0 e0 x1 es1 e1
 obtain ⟨W,hWW⟩:∃ W,X1 = W:=⟨_,rfl⟩
 rw [hWW] at HXW eW ⊢ k0 k1
 clear hWW
 have HT:=Lib.hid (HT0.out.ext HXW.out)
 have K0:=Lib.hid k0
 have K1:=Lib.hid k1
 clear k0 k1
 have hwb:=weight_bd HSM.out (t:=t) hsz
 have HW00:=Lib.hid (weightW_zero t t.chances)
 obtain ⟨w00,hw00⟩:∃ x,t.weight t.chances = x:=⟨_,rfl⟩
 have HW0:=Lib.hid hw00
 rw [hw00] at hwb
 have hdr:=(Ext.refl W).drew
 clear hw00
 refine Flow.regionB0 [.world,.world,.world,.world,.plain,.plain] [0,1,2,3,4,5] [[],[],[1],[0,1,2],[0,1,2,3],[0,1,2,3,4]]
  [.is 0 (fun v=>.agg #[.slice A t.basics.length capa,.slice B t.causes.length capb,.slice G t.gates.length capg]),.is 1 (fun v=>.agg #[.slice A t.basics.length capa,.slice B t.causes.length capb,.slice G t.gates.length capg]),⟨fun v wz=>IsInts wz (v 2) t.chances,fun _ _ _ hx h=>h.ext hx⟩,.is 3 (fun v=>.int .i64 w00),.is 4 (fun v=>.int .i64 w00),.is 5 (fun v=>.int .i64 (-1))]
  (by kernel_rfl) rfl (by kernel_rfl) ⟨?g0,?g1,?g2,?g3,?g4,?g5,trivial⟩ ?post
 case g0 =>
  intro v w1 hx
  intro bb hbb
  intro K hK
  have o1:bb.eval (.tmp 1) = .pointer (some ⟨w.heap.size,0,none⟩):=by rw [hbb]; dsimp only; (try simp (discharger:=decide) only [eval_put_ne]); rfl
  exact gives_load_blk (.tmp 1) _ rfl Tryz.aggRTree Tryz.sizeRTree o1 (K0.out.ext (hdr.trans hx)) rfl (hK _ _ (Ext.refl _) rfl)
 case g1 =>
  intro v w1 hx
  intro bb hbb
  intro K hK
  have o1:bb.eval (.tmp 1) = .pointer (some ⟨w.heap.size,0,none⟩):=by rw [hbb]; dsimp only; (try simp (discharger:=decide) only [eval_put_ne]); rfl
  exact gives_load_blk (.tmp 1) _ rfl Tryz.aggRTree Tryz.sizeRTree o1 (K0.out.ext (hdr.trans hx)) rfl (hK _ _ (Ext.refl _) rfl)
 case g2 =>
  intro v w1 hx (q1:v 1 = .agg #[.slice A t.basics.length capa,.slice B t.causes.length capb,.slice G t.gates.length capg])
  intro bb hbb
  subst hbb
  intro K hK
  go_simp
  refine gives_call (chances_any _ _ t (by omega) ⟨_,_,_,rfl,HT.out.ext (hdr.trans hx)⟩) ?_
  rintro e w2 ⟨x,rfl,h,hx2⟩
  exact ⟨_,rfl,hK _ _ hx2 h⟩
 case g3 =>
  intro v w1 hx (q0:v 0 = .agg #[.slice A t.basics.length capa,.slice B t.causes.length capb,.slice G t.gates.length capg]) (q1:v 1 = .agg #[.slice A t.basics.length capa,.slice B t.causes.length capb,.slice G t.gates.length capg]) (q2:IsInts w1 (v 2) t.chances)
  intro bb hbb
  subst hbb
  intro K hK
  go_simp
  refine gives_call ((by rw [← HW0.out]; exact weight_any w1 _ _ t t.chances HV.out.fit HV.out.nodes hsz HSM.out ⟨_,_,_,rfl,HT.out.ext (hdr.trans hx)⟩ q2:Calls Tryz.prog 104 #[.agg #[.slice A t.basics.length capa,.slice B t.causes.length capb,.slice G t.gates.length capg],v 2] w1 fun e w'=>e = .returned (.int .i64 w00) ∧ Ext w1 w')) ?_
  rintro e w2 ⟨rfl,hx2⟩
  exact ⟨_,rfl,hK _ _ hx2 rfl⟩
 case g4 =>
  intro v w1 hx (q0:v 0 = .agg #[.slice A t.basics.length capa,.slice B t.causes.length capb,.slice G t.gates.length capg]) (q1:v 1 = .agg #[.slice A t.basics.length capa,.slice B t.causes.length capb,.slice G t.gates.length capg]) (q2:IsInts w1 (v 2) t.chances) (q3:v 3 = .int .i64 w00)
  intro bb hbb
  subst hbb
  refine ⟨_,fun w=>?_,rfl⟩
  go_simp
 case g5 =>
  intro v w1 hx (q0:v 0 = .agg #[.slice A t.basics.length capa,.slice B t.causes.length capb,.slice G t.gates.length capg]) (q1:v 1 = .agg #[.slice A t.basics.length capa,.slice B t.causes.length capb,.slice G t.gates.length capg]) (q2:IsInts w1 (v 2) t.chances) (q3:v 3 = .int .i64 w00) (q4:v 4 = .int .i64 w00)
  intro bb hbb
  subst hbb
  refine ⟨_,fun w=>?_,rfl⟩
  go_simp
 case post =>
  intro v w1 hx (q0:v 0 = .agg #[.slice A t.basics.length capa,.slice B t.causes.length capb,.slice G t.gates.length capg]) (q1:v 1 = .agg #[.slice A t.basics.length capa,.slice B t.causes.length capb,.slice G t.gates.length capg]) (q2:IsInts w1 (v 2) t.chances) (q3:v 3 = .int .i64 w00) (q4:v 4 = .int .i64 w00) (q5:v 5 = .int .i64 (-1))
  simp only [Flow.All,Flow.acts,Act.put]
  go_simp
  have HX1:=Lib.hid (hdr.trans hx)
  have HST0:Hid (w00 = (nextTo t 0).2):=by exact (by rw [← HW0.out,← HW00.out]; rfl:w00 = (nextTo t 0).2)
  clear hx hdr q0 q1 q2 q3 q4 q5
  go_wp2
  go_loopw [5,6,7] (fun b a i wr=>∃ (k:Nat),k ≤ t.size ∧ i = .int .i64 k ∧ b = .int .i64 (nextTo t k).2 ∧ a = .int .i64 (atTo t k) ∧ Ext W wr) (fun _ _ i _=>t.size - (intOf i).toNat)
  case atStart=>exact ⟨0,Nat.zero_le _,rfl,by rw [HST0.out],rfl,HX1.out⟩
  case round =>
   obtain ⟨k,hk,rfl,rfl,rfl,hx⟩:=hrel
   have hnb:=nextTo_bd HV.out k
   have hab:=atTo_bd t k
   have HKX:=Lib.hid (K0.out.ext hx)
   have d0:=HKX.out.cell 0
   have d1:=HKX.out.cell 1
   have d2:=HKX.out.cell 2
   simp only [List.getElem?_toArray,List.getElem?_cons_zero,List.getElem?_cons_succ] at d0 d1 d2
   go_wp2_with fail
   refine (Size_any _ _ t ⟨_,_,_,rfl,HT.out.ext hx⟩).mono ?_
   rintro e w4 ⟨rfl,hx4⟩
   have HX4:=Lib.hid (hx.trans hx4)
   clear hx
   by_cases hlt:k < t.size
   · have HKY:=Lib.hid (HKX.out.ext hx4)
     have HST:Hid (nextTo t (k + 1) = if nextW t k < (nextTo t k).2 then (k,nextW t k) else nextTo t k):=by exact (rfl:nextTo t (k + 1) = _)
     have HAT:Hid (atTo t (k + 1) = if nextW t k < (nextTo t k).2 then (k:Int) else atTo t k):=by exact (rfl:atTo t (k + 1) = _)
     have hnw:=nextW_bd HV.out k
     have HS0:=Lib.hid (Small.put (l:=[(k:Int)]) HSM.out (n:=0) (by omega) (by omega))
     have HNW:Hid (t.weight (withEv t.chances [(k:Int)] 0) = nextW t k):=by exact (by unfold nextW; rw [weightW_zero]:t.weight (withEv t.chances [(k:Int)] 0) = nextW t k)
     obtain ⟨m,hm⟩:∃ m,nextW t k = m:=⟨_,rfl⟩
     rw [hm] at HST HAT hnw HNW
     obtain ⟨bk,hbk⟩:∃ m,(nextTo t k).2 = m:=⟨_,rfl⟩
     have HBK:=Lib.hid hbk
     rw [hbk] at HST HAT hnb ⊢
     obtain ⟨ak,hak⟩:∃ m,atTo t k = m:=⟨_,rfl⟩
     have HAK:=Lib.hid hak
     rw [hak] at HAT hab ⊢
     have HPOS:Hid (0 < t.chances.length):=by exact (by rw [HCL.out]; omega:0 < t.chances.length)
     have HRNG:Hid (∀ j,j < [(k:Int)].length → 0 ≤ ix [(k:Int)] j ∧ ix [(k:Int)] j < t.chances.length):=by
      exact (fun j hj => by have e : j = 0 := by simpa using hj
                            subst e
                            show 0 ≤ (k:Int) ∧ (k:Int) < t.chances.length
                            rw [HCL.out]; omega:∀ j,j < [(k:Int)].length → 0 ≤ ix [(k:Int)] j ∧ ix [(k:Int)] j < t.chances.length)
     have hdr:=(Ext.refl w4).drew
     clear d0 d1 d2 hx4 hm hbk hak
     go_wp2
     refine Flow.regionB0 [.world,.world,.world,.plain,.world,.world,.world,.plain] [0,1,2,3,4,5,6,7] [[],[],[1],[],[3],[1,2,3,4],[0,1,2,3,4,5],[0,1,2,3,4,5,6]]
      [.is 0 (fun v=>.agg #[.slice A t.basics.length capa,.slice B t.causes.length capb,.slice G t.gates.length capg]),.is 1 (fun v=>.agg #[.slice A t.basics.length capa,.slice B t.causes.length capb,.slice G t.gates.length capg]),⟨fun v wz=>IsInts wz (v 2) t.chances,fun _ _ _ hx h=>h.ext hx⟩,.is 3 (fun v=>.int .i64 k),⟨fun v wz=>IsInts wz (v 4) [(k:Int)],fun _ _ _ hx h=>h.ext hx⟩,⟨fun v wz=>IsInts wz (v 5) (withEv t.chances [(k:Int)] 0),fun _ _ _ hx h=>h.ext hx⟩,.is 6 (fun v=>.int .i64 m),.is 7 (fun v=>.int .i64 m)]
      (by kernel_rfl) rfl (by kernel_rfl) ⟨?g0,?g1,?g2,?g3,?g4,?g5,?g6,?g7,trivial⟩ ?post
     case g0 =>
      intro v w1 hx
      intro bb hbb
      intro K hK
      have o1:bb.eval (.tmp 1) = .pointer (some ⟨w.heap.size,0,none⟩):=by rw [hbb]; dsimp only; (try simp (discharger:=decide) only [eval_put_ne]); rfl
      exact gives_load_blk (.tmp 1) _ rfl Tryz.aggRTree Tryz.sizeRTree o1 (HKY.out.ext (hdr.trans hx)) rfl (hK _ _ (Ext.refl _) rfl)
     case g1 =>
      intro v w1 hx
      intro bb hbb
      intro K hK
      have o1:bb.eval (.tmp 1) = .pointer (some ⟨w.heap.size,0,none⟩):=by rw [hbb]; dsimp only; (try simp (discharger:=decide) only [eval_put_ne]); rfl
      exact gives_load_blk (.tmp 1) _ rfl Tryz.aggRTree Tryz.sizeRTree o1 (HKY.out.ext (hdr.trans hx)) rfl (hK _ _ (Ext.refl _) rfl)
     case g2 =>
      intro v w1 hx (q1:v 1 = .agg #[.slice A t.basics.length capa,.slice B t.causes.length capb,.slice G t.gates.length capg])
      intro bb hbb
      subst hbb
      intro K hK
      go_simp
      refine gives_call (chances_any _ _ t (by omega) ⟨_,_,_,rfl,HT.out.ext (HX4.out.trans (hdr.trans hx))⟩) ?_
      rintro e w2 ⟨x,rfl,h,hx2⟩
      exact ⟨_,rfl,hK _ _ hx2 h⟩
     case g3 =>
      intro v w1 hx
      intro bb hbb
      subst hbb
      refine ⟨_,fun w=>?_,rfl⟩
      go_simp
     case g4 =>
      intro v w1 hx (q3:v 3 = .int .i64 k)
      intro bb hbb
      subst hbb
      intro K hK
      go_simp
      exact hK _ _ (Ext.box _ _) (ints_new (l:=[(k:Int)]) (by simp))
     case g5 =>
      intro v w1 hx (q1:v 1 = .agg #[.slice A t.basics.length capa,.slice B t.causes.length capb,.slice G t.gates.length capg]) (q2:IsInts w1 (v 2) t.chances) (q3:v 3 = .int .i64 k) (q4:IsInts w1 (v 4) [(k:Int)])
      intro bb hbb
      subst hbb
      intro K hK
      go_simp
      refine gives_call (with_any _ _ _ t.chances [(k:Int)] 0 HPOS.out HRNG.out q2 q4) ?_
      rintro e w2 ⟨x,rfl,h,hx2⟩
      exact ⟨_,rfl,hK _ _ hx2 h⟩
     case g6 =>
      intro v w1 hx (q0:v 0 = .agg #[.slice A t.basics.length capa,.slice B t.causes.length capb,.slice G t.gates.length capg]) (q1:v 1 = .agg #[.slice A t.basics.length capa,.slice B t.causes.length capb,.slice G t.gates.length capg]) (q2:IsInts w1 (v 2) t.chances) (q3:v 3 = .int .i64 k) (q4:IsInts w1 (v 4) [(k:Int)]) (q5:IsInts w1 (v 5) (withEv t.chances [(k:Int)] 0))
      intro bb hbb
      subst hbb
      intro K hK
      go_simp
      refine gives_call ((by rw [← HNW.out]; exact weight_any w1 _ _ t _ HV.out.fit HV.out.nodes hsz HS0.out ⟨_,_,_,rfl,HT.out.ext (HX4.out.trans (hdr.trans hx))⟩ q5:Calls Tryz.prog 104 #[.agg #[.slice A t.basics.length capa,.slice B t.causes.length capb,.slice G t.gates.length capg],v 5] w1 fun e w'=>e = .returned (.int .i64 m) ∧ Ext w1 w')) ?_
      rintro e w2 ⟨rfl,hx2⟩
      exact ⟨_,rfl,hK _ _ hx2 rfl⟩
     case g7 =>
      intro v w1 hx (q0:v 0 = .agg #[.slice A t.basics.length capa,.slice B t.causes.length capb,.slice G t.gates.length capg]) (q1:v 1 = .agg #[.slice A t.basics.length capa,.slice B t.causes.length capb,.slice G t.gates.length capg]) (q2:IsInts w1 (v 2) t.chances) (q3:v 3 = .int .i64 k) (q4:IsInts w1 (v 4) [(k:Int)]) (q5:IsInts w1 (v 5) (withEv t.chances [(k:Int)] 0)) (q6:v 6 = .int .i64 m)
      intro bb hbb
      subst hbb
      refine ⟨_,fun w=>?_,rfl⟩
      go_simp
     case post =>
      intro v w1 hx (q0:v 0 = .agg #[.slice A t.basics.length capa,.slice B t.causes.length capb,.slice G t.gates.length capg]) (q1:v 1 = .agg #[.slice A t.basics.length capa,.slice B t.causes.length capb,.slice G t.gates.length capg]) (q2:IsInts w1 (v 2) t.chances) (q3:v 3 = .int .i64 k) (q4:IsInts w1 (v 4) [(k:Int)]) (q5:IsInts w1 (v 5) (withEv t.chances [(k:Int)] 0)) (q6:v 6 = .int .i64 m) (q7:v 7 = .int .i64 m)
      simp only [Flow.All,Flow.acts,Act.put]
      go_simp
      have HX9:=Lib.hid (HX4.out.trans (hdr.trans hx))
      clear hx hdr q0 q1 q2 q3 q4 q5 q6 q7
      by_cases hc:m < bk
      · rw [if_pos hc] at HST HAT
        go_wp2
        go_roundw
        case rel=>exact ⟨k + 1,by omega,by go_num,by rw [HST.out],by rw [HAT.out],HX9.out⟩
        case measure=>simp [intOf]; omega
      · rw [if_neg hc] at HST HAT
        go_wp2
        go_roundw
        case rel=>exact ⟨k + 1,by omega,by go_num,by rw [HST.out,HBK.out],by rw [HAT.out],HX9.out⟩
        case measure=>simp [intOf]; omega
   · have hkn:k = t.size:=by omega
     subst hkn
     have HKY:=Lib.hid (HKX.out.ext hx4)
     obtain ⟨bk,hbk⟩:∃ m,(nextTo t t.size).2 = m:=⟨_,rfl⟩
     have HBK:=Lib.hid hbk
     rw [hbk] at hnb ⊢
     obtain ⟨ak,hak⟩:∃ m,atTo t t.size = m:=⟨_,rfl⟩
     have HAK:=Lib.hid hak
     rw [hak] at hab ⊢
     have HK1:=Lib.hid (K1.out.ext HX4.out)
     clear d0 d1 d2 hx4 hbk hak
     by_cases hneg:ak < 0
     · skip
       go_wp2_with (refine wpList_store_blk rfl _ _ 56 rfl Tryz.sizeRat rfl rfl HK1.out rfl rfl ?_ ?_; (focus (intro u hu; simp only [List.mem_cons,List.not_mem_nil,or_false] at hu; rcases hu with rfl | rfl <;> rfl)); intro w8 hb8 hl8 ho8)
       refine bodyPost_ret (results_tmp_blk_tmp Tryz.results46 rfl hb8 Tryz.aggRat Tryz.sizeRat rfl rfl) rfl ?_
       exact ⟨0,⟨0,0⟩,7,rfl,.inl ⟨(by first | exact hneg | (rw [HAK.out]; exact hneg)),rfl,rfl,rfl⟩,Below.trans (HXW.out.trans HX4.out) (hl8 _ (by omega))⟩
     · have d0:=HKY.out.cell 0
       have d1:=HKY.out.cell 1
       have d2:=HKY.out.cell 2
       simp only [List.getElem?_toArray,List.getElem?_cons_zero,List.getElem?_cons_succ] at d0 d1 d2
       go_wp2_with fail
       refine (Size_any _ _ t ⟨_,_,_,rfl,HT.out.ext HX4.out⟩).mono ?_
       rintro e w5 ⟨rfl,hx5⟩
       have HX5:=Lib.hid (HX4.out.trans hx5)
       clear hx5 d0 d1 d2
       go_wp2_with fail
       refine (power16_any _ _ hsz).mono ?_
       rintro e w6 ⟨rfl,rfl⟩
       go_wp2_with fail
       refine (Lowest_any _ _ _ hnb.1 (by omega) (by omega) (by omega)).mono ?_
       rintro e w7 ⟨rfl,hx7⟩
       have HX7:=Lib.hid (HX5.out.trans hx7)
       have HK7:=K1.out.ext HX7.out
       clear hx7
       go_wp2_with (refine wpList_store_blk rfl _ _ 56 rfl Tryz.sizeRat rfl rfl HK7 rfl rfl ?_ ?_; (focus (intro u hu; simp only [List.mem_cons,List.not_mem_nil,or_false] at hu; rcases hu with rfl | rfl <;> rfl)); intro w8 hb8 hl8 ho8)
       refine bodyPost_ret (results_tmp_blk_tmp Tryz.results46 rfl hb8 Tryz.aggRat Tryz.sizeRat rfl rfl) rfl ?_
       exact ⟨ak,lowest bk (powN 16 t.size),0,rfl,.inr ⟨(by first | omega | (rw [HAK.out]; omega)),(by first | rfl | rw [HAK.out]),(by first | rfl | rw [HBK.out]),rfl⟩,Below.trans (HXW.out.trans HX7.out) (hl8 _ (by omega))⟩
end Go.Proofs
namespace Go.Proofs
open Go.RowKit Go.Tw Go.Flow
theorem lowest_inj {a b d:Int} (ha:0 ≤ a) (hb:0 ≤ b) (hd:0 < d) (h:lowest a d = lowest b d):a = b:=by
 unfold lowest at h
 injection h with h1 h2
 have g1:(Int.gcd a d:Int) ∣ d:=Int.gcd_dvd_right _ _
 have g2:(Int.gcd b d:Int) ∣ d:=Int.gcd_dvd_right _ _
 have g3:(Int.gcd a d:Int) ∣ a:=Int.gcd_dvd_left _ _
 have g4:(Int.gcd b d:Int) ∣ b:=Int.gcd_dvd_left _ _
 have e1:=Int.ediv_mul_cancel g1
 have e2:=Int.ediv_mul_cancel g2
 have e3:=Int.ediv_mul_cancel g3
 have e4:=Int.ediv_mul_cancel g4
 have hne:d / (Int.gcd a d:Int) ≠ 0:=by
  intro h0
  rw [h0,Int.zero_mul] at e1
  omega
 have hg:(Int.gcd a d:Int) = (Int.gcd b d:Int):=by
  have h3:d / (Int.gcd a d:Int) * (Int.gcd a d:Int) = d / (Int.gcd a d:Int) * (Int.gcd b d:Int):=by rw [e1,h2,e2]
  exact Int.eq_of_mul_eq_mul_left hne h3
 rw [← e3,← e4,h1,hg]
theorem powN16_pos (n:Nat):(0:Int) < (powN 16 n:Nat):=by
 unfold powN
 have:0 < 16 ^ n:=Nat.pow_pos (by omega)
 exact_mod_cast this
theorem next_none {t:Tree} (h:atTo t t.size < 0):nextSame t = true:=by
 rcases atTo_cases t t.size with ⟨_,h2⟩ | ⟨h1,_,_⟩
 · unfold nextSame nextP
   rw [h2,ratB_iff]
 · omega
theorem next_some {t:Tree} (hv:Valid t) (h:0 ≤ atTo t t.size):nextSame t = false ∧ atTo t t.size = ((nextP t).1:Int):=by
 rcases atTo_cases t t.size with ⟨h1,_⟩ | ⟨_,h2,h3⟩
 · omega
 · refine ⟨?_,h2⟩
   cases hq:nextSame t with
   | false=>rfl
   | true =>
     unfold nextSame nextP at hq
     rw [ratB_iff] at hq
     have:=lowest_inj (nextTo_bd hv t.size).1 (weightW_bd hv.small t 0 hv.size).1 (powN16_pos _) hq
     omega
theorem most_small {t:Tree} {l:List Int} (h:mostErr t l = 0) (hs:t.size ≤ 12):l.length = t.size ∧ Small l:=by
 unfold mostErr at h
 split at h
 · rename_i hl
   refine ⟨hl,⟨by omega,fun x hx=>?_⟩⟩
   rw [firstErr_zero] at h
   obtain ⟨i,hi,rfl⟩:=List.getElem_of_mem hx
   rw [← ix_eq hi]
   exact mostE_small (h _ (List.mem_map.2 ⟨i,List.mem_range.2 (by omega),rfl⟩))
 · cases h
theorem low_eq {t:Tree} {l:List Int} (he:intervalErr t l = 0):lowR t l = probOf t t.chances:=by
 unfold lowR probOf
 rw [if_pos he,weightW_zero,chances_len]
theorem high_eq {t:Tree} {l:List Int} (he:intervalErr t l = 0) (hl:l.length = t.size):highR t l = probOf t l:=by
 unfold highR probOf
 rw [if_pos he,weightW_zero,hl]
theorem eq_rat_at (w:World) (n:Nat) (a b:Int):(Op.equalIn (n + 2) 56 (.agg #[.int .i64 a,.int .i64 b]) (.agg #[.int .i64 a,.int .i64 b])).run Tryz.prog w = .ok true w:=by
 have u3:=Tryz.underlying3
 have a3:∀ w,(isAgg 3).run Tryz.prog w = .ok false w:=fun w=>by kernel_rfl
 have z3:∀ w,(sizeOf 3).run Tryz.prog w = .ok 1 w:=fun w=>by kernel_rfl
 have hS:Tryz.prog.underlying 56 = some (.struct (Tryz.prog.fieldsOf 56)):=by kernel_rfl
 have hp:Tryz.prog.stoodInHeld 56 = false:=by kernel_rfl
 rw [run_equalIn_agg w (n + 1) 56 _ _ hS hp]
 simp only [Program.fieldsOf,Tryz.underlying56]
 go_simp
theorem run_eql_r2g (w:World) (a b c d:Int):(binOp .eql 74 (.agg #[.int .i64 a,.int .i64 b,.int .i64 c,.int .i64 d]) (.agg #[.int .i64 a,.int .i64 b,.int .i64 c,.int .i64 d])).run Tryz.prog w = .ok (.bool true) w:=by
 obtain ⟨i,hi⟩:∃ i,Tryz.prog.info? 56 = some i:=by
  cases hh:Tryz.prog.info? 56 with
  | none => exact absurd hh (by have : (Tryz.prog.info? 56).isSome = true := by kernel_rfl
                                intro h; rw [h] at this; cases this)
  | some i=>exact ⟨i,rfl⟩
 have hu:Tryz.prog.underlying 74 = some (.array 2 56):=by kernel_rfl
 have hc:Tryz.prog.cellsOf 56 = 2:=by kernel_rfl
 have p0:(part 56 #[.int .i64 a,.int .i64 b,.int .i64 c,.int .i64 d] (0 * 2)).run Tryz.prog w = .ok (.agg #[.int .i64 a,.int .i64 b]) w:=by kernel_rfl
 have p1:(part 56 #[.int .i64 a,.int .i64 b,.int .i64 c,.int .i64 d] (1 * 2)).run Tryz.prog w = .ok (.agg #[.int .i64 c,.int .i64 d]) w:=by kernel_rfl
 have q0:(Op.equalIn (9998 + 1) 56 (.agg #[.int .i64 a,.int .i64 b]) (.agg #[.int .i64 a,.int .i64 b])).run Tryz.prog w = .ok true w:=eq_rat_at w 9997 a b
 have q1:(Op.equalIn (9998 + 1) 56 (.agg #[.int .i64 c,.int .i64 d]) (.agg #[.int .i64 c,.int .i64 d])).run Tryz.prog w = .ok true w:=eq_rat_at w 9997 c d
 rw [run_eql_struct,show (10000:Nat) = 9998 + 1 + 1 from rfl,run_equalIn_array w (9998 + 1) _ _ hu hi,hc,show List.range 2 = [0,1] from rfl]
 simp [Op.eqItems,p0,p1,q0,q1]
end Go.Proofs
