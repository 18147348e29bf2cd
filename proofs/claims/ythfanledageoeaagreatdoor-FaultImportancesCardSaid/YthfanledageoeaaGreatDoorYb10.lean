/- Contracts: sets without an element, cut sets and path sets, minimal ones. Contracts: minimal sets; the order of sets. A list of lists that a call makes and appends to. -/
import Derived.Test.YthfanledageoeaaGreatDoorYb08
import Derived.IntWalk
import Derived.Test.YthfanledageoeaaGreatDoorYb05
set_option linter.unusedVariables false
set_option linter.unusedSimpArgs false
set_option linter.constructorNameAsVariable false
namespace Go.Proofs
open Go.RowKit Go.Tw Go.Flow
theorem take_ix {l:List Int} {n j:Nat} (hj:j < (l.take n).length):(l.take n)[j] = ix l j:=by
 have:j < l.length:=by rw [List.length_take] at hj; omega
 rw [List.getElem_take,ix_eq this]
theorem dropn_ix {l:List Int} {n j:Nat} (hj:j < (l.drop n).length):(l.drop n)[j] = ix l (n + j):=by
 have:n + j < l.length:=by rw [List.length_drop] at hj; omega
 rw [List.getElem_drop,ix_eq this]
set_option maxRecDepth 100000 in
set_option maxHeartbeats 400000 in
theorem without_any (w:World) (v:Value) (l:List Int) (k:Nat) (hk:k < l.length) (hv:IsInts w v l) :
    Calls Tryz.prog 151 #[v,.int .i64 k] w fun e w'=>∃ x,e = .returned x ∧ IsInts w' x (without l k) ∧ Ext w w':=by
 obtain ⟨i0,hi,hz0,hz1,hz2⟩:=info_parts Tryz.info3
 obtain ⟨A,cap,rfl,hl,hcap,hc⟩:=hv.opened
 obtain ⟨b,off,rfl,hcell0⟩:=hc k hk
 have hb:=World.block_lt_of_cell? w _ hcell0
 have hcs:∀ j,j < l.length → w.cell? ⟨b,off + j,none⟩ = some (.int .i64 (ix l j)):=fun j hj=>by
  obtain ⟨b',off',hA,h⟩:=hc j hj
  cases hA; exact h
 clear hv hc hcell0
 have HC:=Lib.hid hcs; clear hcs
 have k1:¬ cap < k:=by omega
 have k2:(0:Int) ≤ (k:Int) + 1:=by omega
 have k3:(k:Int) + 1 ≤ (l.length:Int):=by omega
 have k4:IntKind.i64.wrap ((k:Int) + 1) = (k:Int) + 1:=IntWalk.i64_in _ (by omega)
 have l1:(l.take k).length = k:=by rw [List.length_take]; omega
 have l2:(l.drop (k + 1)).length = l.length - (k + 1):=List.length_drop
 have L1:=Lib.hid l1
 have L2:=Lib.hid l2
 clear l1 l2
 go_enter Tryz.func151,Tryz.ntmps151
 go_wp2
 refine Flow.region [.world,.plain,.plain,.plain,.last,.plain,.plain,.plain,.plain,.last,.last] [0,1,2,3,4,5,6,7,8,9,10] [[],[],[],[1,2],[0,1,2,3],[],[],[6],[5,6,7],[0,1,2,3,4,5,6,7,8],[0,1,2,3,4,5,6,7,8,9]] [4,9,10]
  [⟨fun v wz=>(fun v w'=>Own1 w' w.heap.size 3 (Value.int .i64) (v 0) ([]:List Int)) v wz,fun _ _ _ hx h=>Own1.below h hx⟩,.is 1 (fun v=>.slice (some ⟨b,off,none⟩) l.length cap),.is 2 (fun v=>.int .i64 k),.is 3 (fun v=>.slice (some ⟨b,off,none⟩) k cap),.none,.is 5 (fun v=>.slice (some ⟨b,off,none⟩) l.length cap),.is 6 (fun v=>.int .i64 k),.is 7 (fun v=>.int .i64 (k + 1)),.is 8 (fun v=>.slice (if cap = k + 1 then some ⟨b,off,none⟩ else some ⟨b,off + (k + 1),none⟩) (l.length - (k + 1)) (cap - (k + 1))),.none,.none]
  [fun v w1 w'=>Own1 w' w.heap.size 3 (Value.int .i64) (v 4) (l.take k) ∧ Below w.heap.size w1 w',fun v w1 w'=>Own1 w' w.heap.size 3 (Value.int .i64) (v 9) (without l k) ∧ Below w.heap.size w1 w',fun v w1 w'=>v 10 = v 9 ∧ Own1 w' w.heap.size 3 (Value.int .i64) (v 9) (without l k) ∧ Below w.heap.size w1 w'] (by kernel_rfl) rfl (by kernel_rfl) ⟨?g0,?g1,?g2,?g3,?g4,?g5,?g6,?g7,?g8,?g9,?g10,trivial⟩ ?post
 case g0 =>
  intro v w1 hx
  intro K hK
  go_simp
  exact hK _ _ (Ext.box _ _) (Own1.made _ _ _ _ hx.size)
 case g1 =>
  intro v w1 hx
  refine ⟨_,fun w=>?_,rfl⟩
  go_simp
 case g2 =>
  intro v w1 hx
  refine ⟨_,fun w=>?_,rfl⟩
  go_simp
 case g3 =>
  intro v w1 hx (q1:v 1 = .slice (some ⟨b,off,none⟩) l.length cap) (q2:v 2 = .int .i64 k)
  refine ⟨_,fun w=>?_,rfl⟩
  go_simp
 case g4 =>
  intro v w1 hx (q0:(fun v w'=>Own1 w' w.heap.size 3 (Value.int .i64) (v 0) ([]:List Int)) v w1) (q1:v 1 = .slice (some ⟨b,off,none⟩) l.length cap) (q2:v 2 = .int .i64 k) (q3:v 3 = .slice (some ⟨b,off,none⟩) k cap)
  intro wl hT
  obtain rfl:wl = w1:=hT
  intro bb hbb
  subst hbb
  intro K hK
  refine gives_append _ _ 39 rfl w.heap.size 3 i0 (.int .i64 0) 8 Tryz.underlying39 hi hz0 hz1 hz2 rfl (.int .i64) (v 0) [] (l.take k) (by go_simp) q0 ⟨b,off,none⟩ cap (by rw [L1.out]; go_simp) (fun j hj=>?_) (fun _=>rfl) (by rw [L1.out]; simp; omega) (by decide) hx.size (fun v' w' hown hg=>?_)
  · rw [addr_add,take_ix hj]; exact hx.cell (HC.out j (by have:=L1.out; omega))
  · exact hK _ _ ⟨hown,below_grown q0 hg (Nat.le_refl _) hx.size⟩
 case g5 =>
  intro v w1 hx
  refine ⟨_,fun w=>?_,rfl⟩
  go_simp
 case g6 =>
  intro v w1 hx
  refine ⟨_,fun w=>?_,rfl⟩
  go_simp
 case g7 =>
  intro v w1 hx (q6:v 6 = .int .i64 k)
  refine ⟨_,fun w=>?_,rfl⟩
  go_simp
 case g8 =>
  intro v w1 hx (q5:v 5 = .slice (some ⟨b,off,none⟩) l.length cap) (q6:v 6 = .int .i64 k) (q7:v 7 = .int .i64 (k + 1))
  refine ⟨_,fun w=>?_,rfl⟩
  go_simp
 case g9 =>
  intro v w1 hx (q0:(fun v w'=>Own1 w' w.heap.size 3 (Value.int .i64) (v 0) ([]:List Int)) v w1) (q1:v 1 = .slice (some ⟨b,off,none⟩) l.length cap) (q2:v 2 = .int .i64 k) (q3:v 3 = .slice (some ⟨b,off,none⟩) k cap) (q5:v 5 = .slice (some ⟨b,off,none⟩) l.length cap) (q6:v 6 = .int .i64 k) (q7:v 7 = .int .i64 (k + 1)) (q8:v 8 = .slice (if cap = k + 1 then some ⟨b,off,none⟩ else some ⟨b,off + (k + 1),none⟩) (l.length - (k + 1)) (cap - (k + 1)))
  intro wl hT
  replace hT:(fun v w1 w'=>Own1 w' w.heap.size 3 (Value.int .i64) (v 4) (l.take k) ∧ Below w.heap.size w1 w') v w1 wl:=hT
  intro bb hbb
  subst hbb
  obtain ⟨hT1,hT2⟩:=hT
  intro K hK
  have hsz:w.heap.size ≤ wl.heap.size:=Nat.le_trans hx.size hT2.size
  have hc2:∀ j,j < l.length → wl.cell? ⟨b,off + j,none⟩ = some (.int .i64 (ix l j)):=fun j hj=>(hT2.cell (p:=⟨b,off + j,none⟩) hb).trans (hx.cell (HC.out j hj))
  have HC2:=Lib.hid hc2
  clear hc2
  refine gives_append _ _ 39 rfl w.heap.size 3 i0 (.int .i64 0) 8 Tryz.underlying39 hi hz0 hz1 hz2 rfl (.int .i64) (v 4) (l.take k) (l.drop (k + 1)) (by go_simp) hT1 (if cap = k + 1 then ⟨b,off,none⟩ else ⟨b,off + (k + 1),none⟩) (cap - (k + 1)) (by rw [L2.out,show (some (if cap = k + 1 then (⟨b,off,none⟩:Addr) else ⟨b,off + (k + 1),none⟩)) = if cap = k + 1 then some ⟨b,off,none⟩ else some ⟨b,off + (k + 1),none⟩ from by split <;> rfl]; go_simp) (fun j hj=>?_) (fun _=>rfl) (by rw [L1.out,L2.out]; omega) (by decide) hsz (fun v' w' hown hg=>?_)
  · rw [if_neg (by have:=L2.out; omega),addr_add,dropn_ix hj,Nat.add_assoc]; exact HC2.out (k + 1 + j) (by have:=L2.out; omega)
  · exact hK _ _ ⟨hown,hT2.trans (below_grown hT1 hg (Nat.le_refl _) hsz)⟩
 case g10 =>
  intro v w1 hx (q0:(fun v w'=>Own1 w' w.heap.size 3 (Value.int .i64) (v 0) ([]:List Int)) v w1) (q1:v 1 = .slice (some ⟨b,off,none⟩) l.length cap) (q2:v 2 = .int .i64 k) (q3:v 3 = .slice (some ⟨b,off,none⟩) k cap) (q5:v 5 = .slice (some ⟨b,off,none⟩) l.length cap) (q6:v 6 = .int .i64 k) (q7:v 7 = .int .i64 (k + 1)) (q8:v 8 = .slice (if cap = k + 1 then some ⟨b,off,none⟩ else some ⟨b,off + (k + 1),none⟩) (l.length - (k + 1)) (cap - (k + 1)))
  intro wl hT
  replace hT:(fun v w1 w'=>Own1 w' w.heap.size 3 (Value.int .i64) (v 9) (without l k) ∧ Below w.heap.size w1 w') v w1 wl:=hT
  intro bb hbb
  subst hbb
  intro K hK
  go_simp
  exact hK _ _ ⟨rfl,hT⟩
 case post =>
  intro v w1 hx (q0:(fun v w'=>Own1 w' w.heap.size 3 (Value.int .i64) (v 0) ([]:List Int)) v w1) (q1:v 1 = .slice (some ⟨b,off,none⟩) l.length cap) (q2:v 2 = .int .i64 k) (q3:v 3 = .slice (some ⟨b,off,none⟩) k cap) (q5:v 5 = .slice (some ⟨b,off,none⟩) l.length cap) (q6:v 6 = .int .i64 k) (q7:v 7 = .int .i64 (k + 1)) (q8:v 8 = .slice (if cap = k + 1 then some ⟨b,off,none⟩ else some ⟨b,off + (k + 1),none⟩) (l.length - (k + 1)) (cap - (k + 1)))
  intro w2 hE
  replace hE:(fun v w1 w'=>v 10 = v 9 ∧ Own1 w' w.heap.size 3 (Value.int .i64) (v 9) (without l k) ∧ Below w.heap.size w1 w') v w1 w2:=hE
  simp only [Flow.acts,Act.put]
  go_simp
  obtain ⟨_,e2,e3⟩:=hE
  go_wp2
  all_goals
   go_ret
   exact ⟨_,rfl,e2.ints (by unfold without; rw [List.length_append,L1.out,L2.out]; omega),Below.trans (((Ext.refl w).drew).trans hx) e3⟩
set_option maxHeartbeats 400000 in
theorem cuts_any (w:World) (v u:Value) (t:Tree) (l:List Int) (paths:Bool) (hfit:Fit t) (hn:1 ≤ t.nodes) (ht:IsTree w v t) (hl:IsInts w u l) :
    Calls Tryz.prog 84 #[v,u,.bool paths] w fun e w'=>e = .returned (.bool (t.setB l paths)) ∧ Ext w w':=by
 obtain ⟨a,b,c,rfl,h3⟩:=ht
 have hw:=Ext.box w (.cells #[a,b,c] 26)
 have c0:=cell_new w #[a,b,c] 26 0
 have c1:=cell_new w #[a,b,c] 26 1
 have c2:=cell_new w #[a,b,c] 26 2
 simp only [List.getElem?_toArray,List.getElem?_cons_zero,List.getElem?_cons_succ] at c0 c1 c2
 have HT:=Lib.hid h3
 have HL:=Lib.hid hl
 have HF:=Lib.hid hfit
 have hsz:t.size ≤ 100000:=by unfold Tree.size; have:=hfit.nb; have:=hfit.nc; omega
 clear h3 hl hfit
 have hwd:=hw.drew
 cases paths with
 | true =>
   go_enter Tryz.func84,Tryz.ntmps84
   go_wp2
   refine Flow.region0 [.world,.world,.plain,.world,.world,.plain,.plain] [0,1,2,3,4,5,6] [[],[],[],[1,2],[0,1,2,3],[0,1,2,3,4],[0,1,2,3,4,5]]
    [.is 0 (fun v=>.agg #[a,b,c]),.is 1 (fun v=>.agg #[a,b,c]),.is 2 (fun v=>u),⟨fun v wz=>IsInts wz (v 3) (others t.size l),fun _ _ _ hx h=>h.ext hx⟩,.is 4 (fun v=>.bool (t.fails (evL (others t.size l)))),.is 5 (fun v=>.bool (!(t.fails (evL (others t.size l))))),.is 6 (fun v=>.bool (!(t.fails (evL (others t.size l)))))]
    (by kernel_rfl) rfl (by kernel_rfl) ⟨?g0,?g1,?g2,?g3,?g4,?g5,?g6,trivial⟩ ?post
   case g0 =>
    intro v w1 hx
    have c0:=hx.cell c0
    have c1:=hx.cell c1
    have c2:=hx.cell c2
    intro K hK
    go_simp
    exact hK _ _ (Ext.refl _) rfl
   case g1 =>
    intro v w1 hx
    have c0:=hx.cell c0
    have c1:=hx.cell c1
    have c2:=hx.cell c2
    intro K hK
    go_simp
    exact hK _ _ (Ext.refl _) rfl
   case g2 =>
    intro v w1 hx
    have c0:=hx.cell c0
    have c1:=hx.cell c1
    have c2:=hx.cell c2
    refine ⟨_,fun w=>?_,rfl⟩
    go_simp
   case g3 =>
    intro v w1 hx (q1:v 1 = .agg #[a,b,c]) (q2:v 2 = u)
    have c0:=hx.cell c0
    have c1:=hx.cell c1
    have c2:=hx.cell c2
    intro K hK
    go_simp
    refine gives_call (Others_any _ _ _ t l hsz ⟨_,_,_,rfl,HT.out.ext (hwd.trans hx)⟩ (HL.out.ext (hwd.trans hx))) ?_
    rintro e w2 ⟨x,rfl,h,hx2⟩
    exact ⟨_,rfl,hK _ _ hx2 h⟩
   case g4 =>
    intro v w1 hx (q0:v 0 = .agg #[a,b,c]) (q1:v 1 = .agg #[a,b,c]) (q2:v 2 = u) (q3:IsInts w1 (v 3) (others t.size l))
    have c0:=hx.cell c0
    have c1:=hx.cell c1
    have c2:=hx.cell c2
    intro K hK
    go_simp
    refine gives_call (Fails_any _ _ _ t _ HF.out hn ⟨_,_,_,rfl,HT.out.ext (hwd.trans hx)⟩ q3) ?_
    rintro e w2 ⟨rfl,hx2⟩
    exact ⟨_,rfl,hK _ _ hx2 rfl⟩
   case g5 =>
    intro v w1 hx (q0:v 0 = .agg #[a,b,c]) (q1:v 1 = .agg #[a,b,c]) (q2:v 2 = u) (q3:IsInts w1 (v 3) (others t.size l)) (q4:v 4 = .bool (t.fails (evL (others t.size l))))
    have c0:=hx.cell c0
    have c1:=hx.cell c1
    have c2:=hx.cell c2
    refine ⟨_,fun w=>?_,rfl⟩
    go_simp
   case g6 =>
    intro v w1 hx (q0:v 0 = .agg #[a,b,c]) (q1:v 1 = .agg #[a,b,c]) (q2:v 2 = u) (q3:IsInts w1 (v 3) (others t.size l)) (q4:v 4 = .bool (t.fails (evL (others t.size l)))) (q5:v 5 = .bool (!(t.fails (evL (others t.size l)))))
    have c0:=hx.cell c0
    have c1:=hx.cell c1
    have c2:=hx.cell c2
    refine ⟨_,fun w=>?_,rfl⟩
    go_simp
   case post =>
    intro v w1 hx (q0:v 0 = .agg #[a,b,c]) (q1:v 1 = .agg #[a,b,c]) (q2:v 2 = u) (q3:IsInts w1 (v 3) (others t.size l)) (q4:v 4 = .bool (t.fails (evL (others t.size l)))) (q5:v 5 = .bool (!(t.fails (evL (others t.size l))))) (q6:v 6 = .bool (!(t.fails (evL (others t.size l)))))
    simp only [Flow.All,Flow.acts,Act.put]
    go_simp
    go_wp2
    go_ret
    exact ⟨ret_bool rfl,hwd.trans hx⟩
 | false =>
   go_enter Tryz.func84,Tryz.ntmps84
   go_wp2_with fail
   refine (Fails_any _ _ _ t l HF.out hn ⟨_,_,_,rfl,HT.out.ext hw⟩ (HL.out.ext hw)).mono ?_
   rintro e w1 ⟨rfl,hx⟩
   go_wp2
   go_ret
   exact ⟨ret_bool rfl,hw.trans hx⟩
end Go.Proofs
namespace Go.Proofs
open Go.RowKit Go.Tw Go.Flow
def noneTo (t:Tree) (l:List Int) (p:Bool) (n:Nat):Bool:=(List.range n).any fun k=>t.setB (without l k) p
theorem noneTo_succ (t:Tree) (l:List Int) (p:Bool) (n:Nat):noneTo t l p (n + 1) = (noneTo t l p n || t.setB (without l n) p):=by
 unfold noneTo; rw [List.range_succ,List.any_append]; simp
theorem noneTo_true {t:Tree} {l:List Int} {p:Bool} {k n:Nat} (h:k < n) (hk:t.setB (without l k) p = true):noneTo t l p n = true:=by
 unfold noneTo; rw [List.any_eq_true]; exact ⟨k,List.mem_range.2 h,hk⟩
set_option maxRecDepth 100000 in
set_option maxHeartbeats 400000 in
theorem minimal_any (w:World) (v u:Value) (t:Tree) (l:List Int) (p:Bool) (hfit:Fit t) (hn:1 ≤ t.nodes) (ht:IsTree w v t) (hl:IsInts w u l) :
    Calls Tryz.prog 129 #[v,u,.bool p] w fun e w'=>e = .returned (.bool (t.minimalB l p)) ∧ Ext w w':=by
 obtain ⟨a,b,c,rfl,h3⟩:=ht
 have hw:=Ext.box w (.cells #[a,b,c] 26)
 have c0:=cell_new w #[a,b,c] 26 0
 have c1:=cell_new w #[a,b,c] 26 1
 have c2:=cell_new w #[a,b,c] 26 2
 simp only [List.getElem?_toArray,List.getElem?_cons_zero,List.getElem?_cons_succ] at c0 c1 c2
 have HT:=Lib.hid h3
 have HL:=Lib.hid hl
 have HF:=Lib.hid hfit
 obtain ⟨A,cap,rfl,hlen,hcap,hc⟩:=hl.opened
 clear h3 hl hfit hc
 go_enter Tryz.func129,Tryz.ntmps129
 go_wp2_with fail
 refine (cuts_any _ _ _ t l p HF.out hn ⟨_,_,_,rfl,HT.out.ext hw⟩ (HL.out.ext hw)).mono ?_
 rintro e w1 ⟨rfl,hx1⟩
 have d0:=hx1.cell c0
 have d1:=hx1.cell c1
 have d2:=hx1.cell c2
 have hx:=hw.trans hx1
 have hB:=World.block_lt_of_cell? w1 _ d0
 clear c0 c1 c2 hw hx1
 cases hs:t.setB l p with
 | false =>
   go_wp2
   go_ret
   exact ⟨ret_bool (by unfold Tree.minimalB; rw [hs]; rfl),hx⟩
 | true =>
   go_wp2
   go_loopw [7] (fun i wr=>∃ (k:Nat),k ≤ l.length ∧ i = .int .i64 k ∧ noneTo t l p k = false ∧ Ext w1 wr) (fun i _=>l.length - (intOf i).toNat)
   case atStart=>exact ⟨0,Nat.zero_le _,rfl,rfl,Ext.refl _⟩
   case round =>
    obtain ⟨k,hk,rfl,hr,hx2⟩:=hrel
    have HR:=Lib.hid hr; clear hr
    have HS:=Lib.hid hs; clear hs
    replace d0:=hx2.cell d0
    replace d1:=hx2.cell d1
    replace d2:=hx2.cell d2
    have hxx:=(hx.trans hx2).drew
    by_cases hlt:k < l.length
    · go_wp2
      refine Flow.region0 [.world,.plain,.plain,.world,.plain,.world] [0,1,2,3,4,5] [[],[],[],[1,2],[],[0,1,2,3,4]]
       [.is 0 (fun v=>.agg #[a,b,c]),.is 1 (fun v=>.slice A l.length cap),.is 2 (fun v=>.int .i64 k),⟨fun v wz=>IsInts wz (v 3) (without l k),fun _ _ _ hx h=>h.ext hx⟩,.is 4 (fun v=>.bool p),.is 5 (fun v=>.bool (t.setB (without l k) p))]
       (by kernel_rfl) rfl (by kernel_rfl) ⟨?g0,?g1,?g2,?g3,?g4,?g5,trivial⟩ ?post
      case g0 =>
       intro v w1 hx
       have d0:=hx.cell d0
       have d1:=hx.cell d1
       have d2:=hx.cell d2
       intro K hK
       go_simp
       exact hK _ _ (Ext.refl _) rfl
      case g1 =>
       intro v w1 hx
       have d0:=hx.cell d0
       have d1:=hx.cell d1
       have d2:=hx.cell d2
       refine ⟨_,fun w=>?_,rfl⟩
       go_simp
      case g2 =>
       intro v w1 hx
       have d0:=hx.cell d0
       have d1:=hx.cell d1
       have d2:=hx.cell d2
       refine ⟨_,fun w=>?_,rfl⟩
       go_simp
      case g3 =>
       intro v w1 hx (q1:v 1 = .slice A l.length cap) (q2:v 2 = .int .i64 k)
       have d0:=hx.cell d0
       have d1:=hx.cell d1
       have d2:=hx.cell d2
       intro K hK
       go_simp
       refine gives_call (without_any _ _ l k hlt (HL.out.ext (hxx.trans hx))) ?_
       rintro e w2 ⟨x,rfl,h,hx2⟩
       exact ⟨_,rfl,hK _ _ hx2 h⟩
      case g4 =>
       intro v w1 hx
       have d0:=hx.cell d0
       have d1:=hx.cell d1
       have d2:=hx.cell d2
       refine ⟨_,fun w=>?_,rfl⟩
       go_simp
      case g5 =>
       intro v w1 hx (q0:v 0 = .agg #[a,b,c]) (q1:v 1 = .slice A l.length cap) (q2:v 2 = .int .i64 k) (q3:IsInts w1 (v 3) (without l k)) (q4:v 4 = .bool p)
       have d0:=hx.cell d0
       have d1:=hx.cell d1
       have d2:=hx.cell d2
       intro K hK
       go_simp
       refine gives_call (cuts_any _ _ _ t _ p HF.out hn ⟨_,_,_,rfl,HT.out.ext (hxx.trans hx)⟩ q3) ?_
       rintro e w2 ⟨rfl,hx2⟩
       exact ⟨_,rfl,hK _ _ hx2 rfl⟩
      case post =>
       intro v w1 hx (q0:v 0 = .agg #[a,b,c]) (q1:v 1 = .slice A l.length cap) (q2:v 2 = .int .i64 k) (q3:IsInts w1 (v 3) (without l k)) (q4:v 4 = .bool p) (q5:v 5 = .bool (t.setB (without l k) p))
       simp only [Flow.All,Flow.acts,Act.put]
       go_simp
       cases hc:t.setB (without l k) p with
       | true =>
         rw [hc] at q5
         go_wp2
         go_ret
         exact ⟨ret_bool (by unfold Tree.minimalB; rw [HS.out]; have:=noneTo_true hlt hc; unfold noneTo at this; rw [this]; rfl),hxx.trans hx⟩
       | false =>
         rw [hc] at q5
         go_wp2
         go_roundw
         case rel=>exact ⟨k + 1,by omega,by go_num,by rw [noneTo_succ,HR.out,hc]; rfl,(hx2.drew).trans hx⟩
         case measure=>simp [intOf]; omega
    · go_wp2
      go_ret
      exact ⟨ret_bool (by unfold Tree.minimalB; rw [HS.out]; have:=HR.out; rw [show k = l.length from by omega] at this; unfold noneTo at this; rw [this]; rfl),hx.trans hx2⟩
theorem less_step {a b:List Int} {k:Nat} (ha:k < a.length) (hb:k < b.length):lessB (a.drop k) (b.drop k) = if ix a k = ix b k then lessB (a.drop (k + 1)) (b.drop (k + 1)) else decide (ix a k < ix b k):=by
 rw [drop_ix ha,drop_ix hb]; rfl
set_option maxHeartbeats 400000 in
theorem before_any (w:World) (u v:Value) (l m:List Int) (hu:IsInts w u l) (hv:IsInts w v m) :
    Calls Tryz.prog 130 #[u,v] w fun e w'=>e = .returned (.bool (beforeB l m)) ∧ Ext w w':=by
 obtain ⟨A,cap,rfl,hl,hcap,hc⟩:=hu.opened
 obtain ⟨A',cap',rfl,hl',hcap',hc'⟩:=hv.opened
 clear hu hv
 unfold beforeB
 by_cases hlen:l.length = m.length
 · rw [if_pos hlen]
   have he:(((l.length:Nat):Int) != (m.length:Int)) = false:=by rw [bne_eq_false_iff_eq]; omega
   have he2:(l.length != m.length) = false:=by rw [bne_eq_false_iff_eq]; omega
   have i0:l.length ≤ m.length:=by omega
   have i0':m.length ≤ l.length:=by omega
   have HLEN:=Lib.hid hlen; clear hlen
   go_enter Tryz.func130,Tryz.ntmps130
   go_wp2
   go_loopw [5] (fun i wr=>∃ k:Nat,k ≤ l.length ∧ i = .int .i64 k ∧ lessB (l.drop k) (m.drop k) = lessB l m ∧ Ext w wr) (fun i _=>l.length - (intOf i).toNat)
   case atStart=>exact ⟨0,Nat.zero_le _,rfl,rfl,Ext.refl _⟩
   case round =>
    obtain ⟨k,hk,rfl,hr,hx⟩:=hrel
    have HR:=Lib.hid hr; clear hr
    by_cases hlt:k < l.length
    · obtain ⟨b,off,rfl,hcell⟩:=hc k hlt
      obtain ⟨b',off',rfl,hcell'⟩:=hc' k (by omega)
      replace hcell:=hx.cell hcell
      replace hcell':=hx.cell hcell'
      clear hc hc'
      have i1:(k:Int) < l.length:=by omega
      have i2:(k:Int) < m.length:=by omega
      have hst:=less_step hlt (show k < m.length by omega)
      have HST:=Lib.hid hst; clear hst
      by_cases hx0:ix l k = ix m k
      · have hx1:(ix l k != ix m k) = false:=by simp [hx0]
        have HX:=Lib.hid hx0; clear hx0
        go_wp2
        go_quiet (fail)
        all_goals go_wp2
        go_roundw
        case rel=>exact ⟨k + 1,by omega,by go_num,by rw [← HR.out,HST.out,if_pos HX.out],hx.drewN _⟩
        case measure=>simp [intOf]; omega
      · have hx1:(ix l k != ix m k) = true:=by simp [hx0]
        have HX:=Lib.hid hx0; clear hx0
        go_wp2
        go_quiet (fail)
        all_goals go_wp2
        go_quiet (fail)
        all_goals go_wp2
        go_ret
        exact ⟨ret_bool (by rw [← HR.out,HST.out,if_neg HX.out]),(hx.drewN _).drewN _⟩
    · clear hc hc'
      go_wp2
      go_ret
      exact ⟨ret_bool (by rw [← HR.out,List.drop_eq_nil_of_le (by omega)]; rfl),hx⟩
 · rw [if_neg hlen]
   have he:(l.length != m.length) = true:=by simp [hlen]
   have HLEN:=Lib.hid hlen; clear hlen hc hc'
   by_cases hlt:l.length < m.length
   · rw [decide_eq_true hlt]
     go_enter Tryz.func130,Tryz.ntmps130
     go_wp2
     go_ret
     exact ⟨ret_bool rfl,Ext.refl _⟩
   · rw [decide_eq_false hlt]
     go_enter Tryz.func130,Tryz.ntmps130
     go_wp2
     go_ret
     exact ⟨ret_bool rfl,Ext.refl _⟩
end Go.Proofs
namespace Go.Tw
open Go.RowKit Go.Flow
def idV (x:Value):Value:=x
def Reads (w:World) (vs:List Value) (ll:List (List Int)):Prop:=vs.length = ll.length ∧ ∀ i,i < ll.length → IsInts w (vs.getD i undef) (ll.getD i [])
theorem Reads.ext {w w':World} {vs:List Value} {ll:List (List Int)} (h:Reads w vs ll) (hx:Ext w w'):Reads w' vs ll:=⟨h.1,fun i hi=>(h.2 i hi).ext hx⟩
theorem IsInts.below {w w':World} {B:Nat} {v:Value} {l:List Int} (h:IsInts w v l) (hb:Below B w w') (hlow:∀ b o c,v = .slice (some ⟨b,o,none⟩) l.length c → l ≠ [] → b < B):IsInts w' v l:=by
 obtain ⟨c,⟨A,cap,hv,hn,hcap,hc⟩,h2⟩:=h
 refine ⟨c,⟨A,cap,hv,hn,hcap,fun j hj=>?_⟩,h2⟩
 obtain ⟨b,off,hA,h⟩:=hc j hj
 refine ⟨b,off,hA,?_⟩
 have:b < B:=hlow b off cap (by rw [hv,hA]) (fun e=>by rw [e] at hj; simp at hj)
 exact (hb.cell (p:=⟨b,off + j,none⟩) this).trans h
theorem Reads.snoc {w:World} {vs:List Value} {ll:List (List Int)} {v:Value} {l:List Int} (h:Reads w vs ll) (hv:IsInts w v l):Reads w (vs ++ [v]) (ll ++ [l]):=by
 refine ⟨by simp [h.1],fun i hi=>?_⟩
 rw [List.length_append,List.length_singleton] at hi
 by_cases hlt:i < ll.length
 · have e1:(vs ++ [v]).getD i undef = vs.getD i undef:=by simp [List.getElem?_append_left (show i < vs.length by rw [h.1]; exact hlt)]
   have e2:(ll ++ [l]).getD i [] = ll.getD i []:=by simp [List.getElem?_append_left hlt]
   rw [e1,e2]; exact h.2 i hlt
 · have e:i = ll.length:=by omega
   have e1:(vs ++ [v]).getD i undef = v:=by rw [e,← h.1]; simp
   have e2:(ll ++ [l]).getD i [] = l:=by rw [e]; simp
   rw [e1,e2]; exact hv
theorem ins_get {α:Type} (x d:α):∀ (n:Nat) (xs:List α) (i:Nat),n ≤ xs.length → (xs.take n ++ [x] ++ xs.drop n).getD i d = if i < n then xs.getD i d else if i = n then x else xs.getD (i - 1) d
 | 0,xs,i,_=>by cases i <;> simp
 | n + 1,[],i,h=>by simp at h
 | n + 1,y :: ys,0,_=>by simp
 | n + 1,y :: ys,i + 1,h=>by
   have:=ins_get x d n ys i (by simpa using h)
   simp only [List.take_succ_cons,List.drop_succ_cons,List.cons_append,List.getD_cons_succ,this]
   by_cases h1:i < n
   · have h1':i + 1 < n + 1:=by omega
     simp only [h1,h1',if_true]
   · have h1':¬ (i + 1 < n + 1):=by omega
     by_cases h2:i = n
     · subst h2
       simp
     · have h2':¬ (i + 1 = n + 1):=by omega
       obtain ⟨m,rfl⟩:∃ m,i = m + 1:=⟨i - 1,by omega⟩
       simp only [h1,h1',h2,h2',if_false]
       simp
theorem Reads.insert {w:World} {vs:List Value} {ll:List (List Int)} {v:Value} {l:List Int} {n:Nat} (h:Reads w vs ll) (hv:IsInts w v l) (hn:n ≤ ll.length):Reads w (vs.take n ++ [v] ++ vs.drop n) (ll.take n ++ [l] ++ ll.drop n):=by
 have hl:=h.1
 refine ⟨by simp [hl],fun i hi=>?_⟩
 rw [ins_get _ _ _ _ _ (by omega),ins_get _ _ _ _ _ hn]
 simp only [List.length_append,List.length_take,List.length_drop,List.length_singleton] at hi
 split
 · exact h.2 i (by omega)
 · split
   · exact hv
   · exact h.2 (i - 1) (by omega)
theorem Own1.intss {w:World} {base:Nat} {e:TypeId} {v:Value} {vs:List Value} {ll:List (List Int)} (h:Own1 w base e idV v vs) (hr:Reads w vs ll) (hl:ll.length ≤ 17592186043904):IsIntss w v ll:=by
 refine ⟨fun k=>vs.getD k undef,?_,fun j hj=>?_⟩
 · rw [← hr.1]
   exact h.row (by rw [hr.1]; exact hl) _ (fun k hk=>by simp [hk,idV])
 · have:=hr.2 j hj
   rw [getD_of _ hj] at this
   simpa using this
theorem IsIntss.opened {w:World} {v:Value} {ll:List (List Int)} (h:IsIntss w v ll) :
    ∃ A cap,v = .slice A ll.length cap ∧ ll.length ≤ 17592186043904 ∧ ll.length ≤ cap ∧ ∀ k,k < ll.length → ∃ b off m,A = some ⟨b,off,none⟩ ∧ b < w.heap.size ∧ w.cell? ⟨b,off + k,none⟩ = some m ∧ IsInts w m (ll.getD k []):=by
 obtain ⟨c,⟨A,cap,hv,hn,hcap,hc⟩,h2⟩:=h
 refine ⟨A,cap,hv,hn,hcap,fun k hk=>?_⟩
 obtain ⟨b,off,hA,h⟩:=hc k (by omega)
 refine ⟨b,off,c k,hA,World.block_lt_of_cell? w _ h,h,?_⟩
 have:=h2 k hk
 simp only [Nat.mul_one,Nat.add_zero] at this
 rw [getD_of _ hk]; exact this
theorem Own1.cells {α:Type} {w:World} {base:Nat} {e:TypeId} {enc:α → Value} {v:Value} {xs:List α} (h:Own1 w base e enc v xs) :
    ∃ A c,v = .slice A xs.length c ∧ xs.length ≤ c ∧ (∀ j (hj:j < xs.length),∃ g,A = some ⟨g,0,none⟩ ∧ base ≤ g ∧ g < w.heap.size ∧ w.cell? ⟨g,0 + j,none⟩ = some (enc xs[j])):=by
 obtain ⟨_,h2⟩:=h
 rcases h2 with ⟨rfl,h0⟩ | ⟨g,cap,cur,rfl,hb,hg,hcap,_,_,htake⟩
 · exact ⟨none,0,by rw [h0],by omega,fun j hj=>by omega⟩
 · refine ⟨some ⟨g,0,none⟩,cap,rfl,hcap,fun j hj=>⟨g,rfl,hb,(Array.getElem?_eq_some_iff.1 hg).1,?_⟩⟩
   rw [Nat.zero_add]
   have h1:=congrArg (fun l=>l[j]?) htake
   simp only [Nat.mul_one,List.getElem?_take,hj,if_true,List.getElem?_map,List.getElem?_eq_getElem hj,Option.map_some] at h1
   simp only [World.cell?,hg]
   simpa using h1
theorem Own1.cells2 {α:Type} {w:World} {base:Nat} {e:TypeId} {enc:α → Value} {v:Value} {xs:List α} (h:Own1 w base e enc v xs) :
    (v = .slice none 0 0 ∧ xs = []) ∨ ∃ g c,v = .slice (some ⟨g,0,none⟩) xs.length c ∧ xs.length ≤ c ∧ base ≤ g ∧ g < w.heap.size ∧ ∀ j (hj:j < xs.length),w.cell? ⟨g,0 + j,none⟩ = some (enc xs[j]):=by
 obtain ⟨_,h2⟩:=h
 rcases h2 with ⟨rfl,h0⟩ | ⟨g,cap,cur,rfl,hb,hg,hcap,_,_,htake⟩
 · exact .inl ⟨rfl,List.length_eq_zero_iff.1 h0⟩
 · refine .inr ⟨g,cap,rfl,hcap,hb,(Array.getElem?_eq_some_iff.1 hg).1,fun j hj=>?_⟩
   rw [Nat.zero_add]
   have h1:=congrArg (fun l=>l[j]?) htake
   simp only [Nat.mul_one,List.getElem?_take,hj,if_true,List.getElem?_map,List.getElem?_eq_getElem hj,Option.map_some] at h1
   simp only [World.cell?,hg]
   simpa using h1
theorem Own1.weaken {α:Type} {w:World} {base base':Nat} {e:TypeId} {enc:α → Value} {v:Value} {xs:List α} (h:Own1 w base e enc v xs) (hb:base' ≤ base):Own1 w base' e enc v xs:=by
 obtain ⟨h1,h2⟩:=h
 refine ⟨h1,?_⟩
 rcases h2 with h2 | ⟨g,cap,cur,hv,hbg,r⟩
 · exact .inl h2
 · exact .inr ⟨g,cap,cur,hv,Nat.le_trans hb hbg,r⟩
theorem IsInts.one {w:World} {v:Value} {l:List Int} (h:IsInts w v l):(idV v).oneCell' = true:=by
 obtain ⟨A,cap,rfl,_⟩:=h.opened
 rfl
theorem IsInts.cells {w:World} {v:Value} {l:List Int} (h:IsInts w v l):v.cells = #[v]:=by
 obtain ⟨A,cap,rfl,_⟩:=h.opened
 rfl
theorem Reads.one {w:World} {vs:List Value} {ll:List (List Int)} (h:Reads w vs ll):∀ y ∈ vs,(idV y).oneCell' = true:=by
 intro y hy
 obtain ⟨i,hi,rfl⟩:=List.getElem_of_mem hy
 have:=h.2 i (by rw [← h.1]; exact hi)
 rw [getD_of _ hi] at this
 exact this.one
def EmptyRow (w:World) (v:Value) (B:Nat) (e:TypeId):Prop:=∃ g,v = .slice (some ⟨g,0,none⟩) 0 0 ∧ B ≤ g ∧ w.heap[g]? = some (.cells #[] e (0,0))
theorem EmptyRow.ext {w w':World} {v:Value} {B:Nat} {e:TypeId} (h:EmptyRow w v B e) (hx:Ext w w'):EmptyRow w' v B e :=
 let ⟨g,h1,h2,h3⟩:=h; ⟨g,h1,h2,(Below.block hx g (Array.getElem?_eq_some_iff.1 h3).1).trans h3⟩
theorem EmptyRow.made (w:World) (B:Nat) (e:TypeId) (h:B ≤ w.heap.size):EmptyRow (w.alloc (.cells #[] e)) (.slice (some ⟨w.heap.size,0,none⟩) 0 0) B e:=⟨_,rfl,h,heap_alloc_new w _⟩
def OneRow (w:World) (v:Value) (x:Value):Prop:=∃ g,v = .slice (some ⟨g,0,none⟩) 1 1 ∧ w.cell? ⟨g,0,none⟩ = some x
theorem OneRow.ext {w w':World} {v x:Value} (h:OneRow w v x) (hx:Ext w w'):OneRow w' v x:=let ⟨g,h1,h2⟩:=h; ⟨g,h1,hx.cell h2⟩
theorem OneRow.made (w:World) (x:Value) (e:TypeId):OneRow (w.alloc (.cells #[x] e)) (.slice (some ⟨w.heap.size,0,none⟩) 1 1) x:=⟨_,rfl,cell_new _ _ _ _⟩
theorem OneRow.src {w:World} {v x:Value} (h:OneRow w v x):Src w idV v [x]:=by
 obtain ⟨g,rfl,hc⟩:=h
 refine ⟨_,_,rfl,fun j hj=>⟨g,0,rfl,?_⟩⟩
 obtain rfl:j = 0:=by rw [List.length_singleton] at hj; omega
 exact hc
theorem below_ext {w w1 w2:World} (hx:Ext w.drew w1) (hb:Below w.heap.size w1 w2):Ext w w2:=Below.trans (((Ext.refl w).drew).trans hx) hb
theorem IsInts.made (w:World) (xs:List Int) (e:TypeId) (h:xs.length ≤ 17592186043904):IsInts (w.alloc (.cells (xs.map (Value.int .i64)).toArray e)) (.slice (some ⟨w.heap.size,0,none⟩) xs.length xs.length) xs:=by
 refine ⟨fun k=>((xs.map (Value.int .i64))[k]?).getD undef,⟨_,_,rfl,h,Nat.le_refl _,fun j hj=>⟨_,0,rfl,?_⟩⟩,fun j hj=>?_⟩
 · have hj':j < xs.length:=by omega
   rw [Nat.zero_add,cell_new]
   simp [hj']
 · simp [hj]
end Go.Tw
