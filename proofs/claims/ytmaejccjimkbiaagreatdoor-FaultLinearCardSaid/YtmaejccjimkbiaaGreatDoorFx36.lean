/- Contract: Dual. -/
import Derived.Test.YtmaejccjimkbiaaGreatDoorFx35
set_option linter.unusedVariables false
set_option linter.unusedSimpArgs false
set_option linter.constructorNameAsVariable false
namespace Go.Proofs
open Go.RowKit Go.Tw Go.Flow
theorem Tryz.X9b (w:World):(sizeOf 3).run Tryz.prog w = .ok 1 w:=by kernel_rfl
theorem Tryz.Z1r (w:World):(sizeOf 9).run Tryz.prog w = .ok 1 w:=by kernel_rfl
theorem X5f (f f':Nat → ByteArray × Int) {n i r:Nat} {x:Value} (hi:i < n) (hr:r < 2) (h1:enc2 (f' i) = (enc2 (f i)).set r x) (h2:∀ j,j ≠ i → f' j = f j):(Q1j enc2 n f).setIfInBounds (i * 2 + r) x = Q1j enc2 n f':=by
 apply Array.ext_getElem?
 intro j;have hs:=Q1c Q3j n f;have hs':=Q1c Q3j n f';rw [Array.getElem?_setIfInBounds]
 by_cases hj:j < n * 2
 · have e:j = j / 2 * 2 + j % 2:=by omega
   by_cases hji:i * 2 + r = j
   · rw [if_pos hji,if_pos (by omega)]
     conv=>rhs; rw [e]
     rw [Q2r Q3j _ (by omega) (by omega),show j / 2 = i by omega,show j % 2 = r by omega,h1,List.getElem?_set_self (by rw [Q3j]; exact hr)]
   · rw [if_neg hji]
     conv=>lhs; rw [e]
     conv=>rhs; rw [e]
     rw [Q2r Q3j _ (by omega) (by omega),Q2r Q3j _ (by omega) (by omega)]
     by_cases hq:j / 2 = i
     · rw [hq,h1,List.getElem?_set_ne (by omega)]
     · rw [h2 _ hq]
 · rw [if_neg (by omega),Array.getElem?_eq_none (by omega),Array.getElem?_eq_none (by omega)]
theorem Q8r (f f':Nat → ByteArray × Int × Value) {n i r:Nat} {x:Value} (hi:i < n) (hr:r < 3) (h1:enc3 (f' i) = (enc3 (f i)).set r x) (h2:∀ j,j ≠ i → f' j = f j):(Q1j enc3 n f).setIfInBounds (i * 3 + r) x = Q1j enc3 n f':=by
 apply Array.ext_getElem?
 intro j;have hs:=Q1c Q0s n f;have hs':=Q1c Q0s n f';rw [Array.getElem?_setIfInBounds]
 by_cases hj:j < n * 3
 · have e:j = j / 3 * 3 + j % 3:=by omega
   by_cases hji:i * 3 + r = j
   · rw [if_pos hji,if_pos (by omega)]
     conv=>rhs; rw [e]
     rw [Q2r Q0s _ (by omega) (by omega),show j / 3 = i by omega,show j % 3 = r by omega,h1,List.getElem?_set_self (by rw [Q0s]; exact hr)]
   · rw [if_neg hji]
     conv=>lhs; rw [e]
     conv=>rhs; rw [e]
     rw [Q2r Q0s _ (by omega) (by omega),Q2r Q0s _ (by omega) (by omega)]
     by_cases hq:j / 3 = i
     · rw [hq,h1,List.getElem?_set_ne (by omega)]
     · rw [h2 _ hq]
 · rw [if_neg (by omega),Array.getElem?_eq_none (by omega),Array.getElem?_eq_none (by omega)]
theorem Valid.need {t:Tree} (h:Valid t) {k:Nat} (hk:k < t.gates.length):(Q0l t.gates k).length ≤ 12 ∧ 0 ≤ Q2x t.gates k ∧ Q2x t.gates k ≤ 12:=by
 have:=h.gate k hk;unfold Tree.Q1u Q8n at this;rw [Q1k] at this;have h1:=this (if 12 < (Q0l t.gates k).length then 5 else 0) (by simp)
 have h2:=this (X0v (Q2c t.gates k) (Q2x t.gates k) (Q0l t.gates k).length) (by simp)
 have h3:(Q0l t.gates k).length ≤ 12:=by
  split at h1
  · cases h1
  · omega
 refine ⟨h3,?_⟩;unfold X0v Q0m at h2
 split at h2
 · split at h2
   · cases h2
   · omega
 · split at h2
   · cases h2
   · omega
def X1n (b:Basic):Basic:=⟨b.name,16 - b.chance⟩
def Q6g (g:Gate):Gate:=if g.kind = Q8z then ⟨sOr,g.need,g.inputs⟩ else if g.kind = sOr then ⟨Q8z,g.need,g.inputs⟩ else ⟨g.kind,(g.inputs.length:Int) + 1 - g.need,g.inputs⟩
def Q3s (t:Tree):Int:=Q0h [t.err,Q0k (decide (0 < t.causes.length)) 19]
def Q7y (t:Tree):Tree:=if Q3s t = 0 then ⟨t.basics.map X1n,t.causes,t.gates.map Q6g⟩ else ⟨[],[],[]⟩
def bD (t:Tree) (k i:Nat):ByteArray × Int:=if i < k then (bName t.basics i,16 - Q1l t.basics i) else bF t i
def gDk (t:Tree) (i:Nat):ByteArray × Int:=let g:=Q6g (t.gates.getD i default); (g.kind,g.need)
def gD (t:Tree) (mg:Nat → Value) (k i:Nat):ByteArray × Int × Value:=if i < k then ((gDk t i).1,(gDk t i).2,mg i) else gF t mg i
theorem Z3r (t:Tree) (k:Nat):enc2 (bD t (k + 1) k) = (enc2 (bD t k k)).set 1 (.int .i64 (16 - Q1l t.basics k)):=by
 unfold bD;rw [if_pos (by omega),if_neg (by omega)]; rfl
theorem Z2f (t:Tree) (k j:Nat) (h:j ≠ k):bD t (k + 1) j = bD t k j:=by
 unfold bD
 by_cases hj:j < k
 · rw [if_pos hj,if_pos (by omega)]
 · rw [if_neg hj,if_neg (by omega)]
theorem X4b (t:Tree) (mg:Nat → Value) (k j:Nat) (h:j ≠ k):gD t mg (k + 1) j = gD t mg k j:=by
 unfold gD
 by_cases hj:j < k
 · rw [if_pos hj,if_pos (by omega)]
 · rw [if_neg hj,if_neg (by omega)]
theorem Y2y {t:Tree} {k:Nat} (h:Q2c t.gates k = Q8z):gDk t k = (sOr,Q2x t.gates k):=by
 unfold Q2c at h;unfold gDk Q6g Q2x;simp only [h,if_true]
theorem Z5r:¬ sOr = Q8z:=by decide
theorem Y9m {t:Tree} {k:Nat} (h:Q2c t.gates k = sOr):gDk t k = (Q8z,Q2x t.gates k):=by
 unfold Q2c at h;unfold gDk Q6g Q2x;simp only [h,if_neg Z5r,if_true]
theorem X8k {t:Tree} {k:Nat} (h:¬ Q2c t.gates k = Q8z) (h2:¬ Q2c t.gates k = sOr):gDk t k = (Q2c t.gates k,((Q0l t.gates k).length:Int) + 1 - Q2x t.gates k):=by
 unfold Q2c at *;unfold gDk Q6g Q2x Q0l;simp only [if_neg h,if_neg h2]
theorem Y2f (t:Tree) (mg:Nat → Value) (k r:Nat) (x:Value) (h:enc3 ((gDk t k).1,(gDk t k).2,mg k) = (enc3 (Q2c t.gates k,Q2x t.gates k,mg k)).set r x):enc3 (gD t mg (k + 1) k) = (enc3 (gD t mg k k)).set r x:=by
 unfold gD;rw [if_pos (by omega),if_neg (by omega)]; exact h
theorem X7g {t:Tree} {i:Nat} (hi:i < t.basics.length):bName (t.basics.map X1n) i = bName t.basics i ∧ Q1l (t.basics.map X1n) i = 16 - Q1l t.basics i:=by
 unfold bName Q1l;rw [getD_at (by rw [List.length_map]; exact hi),getD_at hi,List.getElem_map]
 exact ⟨rfl,rfl⟩
theorem Q9k {t:Tree} {i:Nat} (hi:i < t.gates.length):Q2c (t.gates.map Q6g) i = (gDk t i).1 ∧ Q2x (t.gates.map Q6g) i = (gDk t i).2 ∧ Q0l (t.gates.map Q6g) i = Q0l t.gates i:=by
 unfold Q2c Q2x Q0l gDk;rw [getD_at (by rw [List.length_map]; exact hi),getD_at hi,List.getElem_map]
 refine ⟨rfl,rfl,?_⟩;unfold Q6g
 split
 · rfl
 · split <;> rfl
theorem X9a {t:Tree} {i:Nat} (h:Short (Q2c t.gates i)):Short (gDk t i).1:=by
 by_cases h1:Q2c t.gates i = Q8z
 · rw [Y2y h1]; show sOr.size ≤ _; decide
 · by_cases h2:Q2c t.gates i = sOr
   · rw [Y9m h2]; show Q8z.size ≤ _; decide
   · rw [X8k h1 h2]; exact h
set_option maxRecDepth 100000 in
set_option maxHeartbeats 4000000 in
theorem Y0w (w:World) (v:Value) (t:Tree) (ht:IsTree w v t) :
    Calls Tryz.prog 27 #[v] w fun e w'=>∃ u,e = .returned (.tuple #[u,.int .i64 (Q3s t)]) ∧ IsTree w' u (Q7y t) ∧ Ext w w':=by
 obtain ⟨E0,hE0⟩:∃ E,t.err = E:=⟨_,rfl⟩;obtain ⟨q,hq⟩:∃ q,decide (0 < t.causes.length) = q:=⟨_,rfl⟩;obtain ⟨E,hE⟩:∃ E,Q0h [E0,Q0k q 19] = E:=⟨_,rfl⟩;have HFIN:Hid (Q3s t = E):=by exact (by unfold Q3s; rw [hE0,hq]; exact hE:Q3s t = E)
 have HE:Hid (∀ (w':World) (u:Value),Q0f w' u [E0,Q0k q 19] → Calls Tryz.prog 74 #[u] w' fun e w''=>e = .returned (.int .i64 E) ∧ w' = w''):=by
  exact (by intro w' u h; rw [← hE]; exact first_any _ _ _ h:∀ (w':World) (u:Value),Q0f w' u [E0,Q0k q 19] → Calls Tryz.prog 74 #[u] w' fun e w''=>e = .returned (.int .i64 E) ∧ w' = w'')
 have HC:Hid (∀ (w':World) (v:Value),IsTree w' v t → Calls Tryz.prog 66 #[v] w' fun e w''=>e = .returned (.int .i64 E0) ∧ Ext w' w''):=by
  exact (by intro w' v h; rw [← hE0]; exact Q2j _ _ _ h:∀ (w':World) (v:Value),IsTree w' v t → Calls Tryz.prog 66 #[v] w' fun e w''=>e = .returned (.int .i64 E0) ∧ Ext w' w'')
 have HW:Hid (∀ w',Calls Tryz.prog 84 #[.bool (decide (0 < t.causes.length)),.int .i64 19] w' fun e w''=>e = .returned (.int .i64 (Q0k q 19)) ∧ w' = w''):=by
  exact (by intro w'; rw [hq]; exact Q3n _ _ _:∀ w',Calls Tryz.prog 84 #[.bool (decide (0 < t.causes.length)),.int .i64 19] w' fun e w''=>e = .returned (.int .i64 (Q0k q 19)) ∧ w' = w'')
 have HEQ:=Lib.hid hE0;have HEE:=Lib.hid hE;have HQ:=Lib.hid hq;clear hE0 hE hq;obtain ⟨a,b,c,rfl,h3⟩:=ht;obtain ⟨A,capa,rfl,hl1,hcap1,_⟩:=h3.basics.opened;obtain ⟨B,capb,rfl,hl2,hcap2,_⟩:=h3.causes.opened;obtain ⟨G,capg,rfl,hl3,hcap3,_⟩:=h3.gates.opened;have HT0:=Lib.hid h3;clear h3;go_enter Tryz.func27,Tryz.ntmps27;go_wp2_with fail;change Code.wp _ _ _ _ ((w.alloc (.cells #[.slice A t.basics.length capa,.slice B t.causes.length capb,.slice G t.gates.length capg] 37)).alloc (.cells #[.slice none 0 0,.slice none 0 0,.slice none 0 0] 37));have k0:=Blk.made w 37 #[.slice A t.basics.length capa,.slice B t.causes.length capb,.slice G t.gates.length capg];have x0:=Ext.box w (.cells #[.slice A t.basics.length capa,.slice B t.causes.length capb,.slice G t.gates.length capg] 37);have es0:(w.alloc (.cells #[.slice A t.basics.length capa,.slice B t.causes.length capb,.slice G t.gates.length capg] 37)).heap.size = w.heap.size + 1:=by simp
 obtain ⟨X0,hX0⟩:∃ X,w.alloc (.cells #[.slice A t.basics.length capa,.slice B t.causes.length capb,.slice G t.gates.length capg] 37) = X:=⟨_,rfl⟩;rw [hX0] at k0 x0 es0 ⊢;clear hX0;have k1:=Blk.made X0 37 #[.slice none 0 0,.slice none 0 0,.slice none 0 0];have x1:=Ext.box X0 (.cells #[.slice none 0 0,.slice none 0 0,.slice none 0 0] 37);have es1:(X0.alloc (.cells #[.slice none 0 0,.slice none 0 0,.slice none 0 0] 37)).heap.size = X0.heap.size + 1:=by simp
 obtain ⟨X1,hX1⟩:∃ X,X0.alloc (.cells #[.slice none 0 0,.slice none 0 0,.slice none 0 0] 37) = X:=⟨_,rfl⟩;rw [hX1] at k1 x1 es1 ⊢;clear hX1;replace k0:=k0.ext x1;have e0:X0.heap.size = w.heap.size + 1:=by omega
 have e1:X1.heap.size = w.heap.size + 1 + 1:=by omega
 rw [e0] at k1;have HXW:Hid (Ext w X1):=by exact (Ext.trans (x0) x1:Ext w X1)
 have eW:X1.heap.size = w.heap.size + 1 + 1:=e1;clear x0 es0 e0 x1 es1 e1;obtain ⟨W,hWW⟩:∃ W,X1 = W:=⟨_,rfl⟩;rw [hWW] at HXW eW ⊢ k0 k1;clear hWW;have HT:=Lib.hid (HT0.out.ext HXW.out);have K0:=Lib.hid k0;have hdr:=(Ext.refl W).drew;refine Flow.Q3g [.world,.world,.plain,.world,.plain,.plain,.world,.world,.world,.plain] [0,1,2,3,4,5,6,7,8,9] [[],[0],[],[2],[3],[4],[1,5],[1,6],[6,7],[0,1,2,3,4,5,6,7,8]]
  [.is 0 (fun v=>.agg #[.slice A t.basics.length capa,.slice B t.causes.length capb,.slice G t.gates.length capg]),.is 1 (fun v=>.int .i64 E0),.is 2 (fun v=>.pointer (some ⟨w.heap.size,1,none⟩)),.is 3 (fun v=>.slice B t.causes.length capb),.is 4 (fun v=>.int .i64 ((t.causes.length:Nat):Int)),.is 5 (fun v=>.bool (decide (0 < t.causes.length))),.is 6 (fun v=>.int .i64 (Q0k q 19)),⟨fun v wz=>Q0f wz (v 7) [E0,Q0k q 19],fun _ _ _ hx h=>h.ext hx⟩,.is 8 (fun v=>.int .i64 E),.is 9 (fun v=>.int .i64 E)]
  (by kernel_rfl) rfl (by kernel_rfl) ⟨?g0,?g1,?g2,?g3,?g4,?g5,?g6,?g7,?g8,?g9,trivial⟩ ?post
 case g0 =>
  intro v w1 hx;intro bb hbb;intro K hK;have o1:bb.eval (.tmp 1) = .pointer (some ⟨w.heap.size,0,none⟩):=by rw [hbb]; dsimp only; (try simp (discharger:=decide) only [eval_put_ne]); rfl
  exact Q0n (.tmp 1) _ rfl Tryz.Q2v Tryz.Q0w o1 (K0.out.ext (hdr.trans hx)) rfl (hK _ _ (Ext.refl _) rfl)
 case g1 =>
  intro v w1 hx (q0:v 0 = .agg #[.slice A t.basics.length capa,.slice B t.causes.length capb,.slice G t.gates.length capg]);intro bb hbb;subst hbb;intro K hK;go_simp;refine Q0e (HC.out w1 _ ⟨_,_,_,rfl,HT.out.ext (hdr.trans hx)⟩) ?_;rintro e w2 ⟨rfl,hx2⟩;exact ⟨_,rfl,hK _ _ hx2 rfl⟩
 case g2 =>
  intro v w1 hx;intro bb hbb;subst hbb;refine ⟨_,fun w=>?_,rfl⟩;go_simp
 case g3 =>
  intro v w1 hx (q2:v 2 = .pointer (some ⟨w.heap.size,1,none⟩));intro bb hbb;subst hbb;have n0:w1.cell? ⟨w.heap.size,1,none⟩ = some (.slice B t.causes.length capb):=(K0.out.ext (hdr.trans hx)).cell 1;intro K hK;go_simp;exact hK _ _ (Ext.refl _) rfl
 case g4 =>
  intro v w1 hx (q3:v 3 = .slice B t.causes.length capb);intro bb hbb;subst hbb;refine ⟨_,fun w=>?_,rfl⟩;go_simp
 case g5 =>
  intro v w1 hx (q4:v 4 = .int .i64 ((t.causes.length:Nat):Int));intro bb hbb;subst hbb;refine ⟨_,fun w=>?_,rfl⟩;go_simp
 case g6 =>
  intro v w1 hx (q1:v 1 = .int .i64 E0) (q5:v 5 = .bool (decide (0 < t.causes.length)));intro bb hbb;subst hbb;intro K hK;go_simp;refine Q0e (HW.out _) ?_;rintro e w2 ⟨rfl,rfl⟩;exact ⟨_,rfl,hK _ _ (Ext.refl _) rfl⟩
 case g7 =>
  intro v w1 hx (q1:v 1 = .int .i64 E0) (q6:v 6 = .int .i64 (Q0k q 19));intro bb hbb;subst hbb;intro K hK;go_simp;exact hK _ _ (Ext.box _ _) (Q2m (l:=[E0,Q0k q 19]) (by simp))
 case g8 =>
  intro v w1 hx (q6:v 6 = .int .i64 (Q0k q 19)) (q7:Q0f w1 (v 7) [E0,Q0k q 19]);intro bb hbb;subst hbb;intro K hK;go_simp;refine Q0e (HE.out _ _ q7) ?_;rintro e w2 ⟨rfl,rfl⟩;exact ⟨_,rfl,hK _ _ (Ext.refl _) rfl⟩
 case g9 =>
  intro v w1 hx (q0:v 0 = .agg #[.slice A t.basics.length capa,.slice B t.causes.length capb,.slice G t.gates.length capg]) (q1:v 1 = .int .i64 E0) (q2:v 2 = .pointer (some ⟨w.heap.size,1,none⟩)) (q3:v 3 = .slice B t.causes.length capb) (q4:v 4 = .int .i64 ((t.causes.length:Nat):Int)) (q5:v 5 = .bool (decide (0 < t.causes.length))) (q6:v 6 = .int .i64 (Q0k q 19)) (q7:Q0f w1 (v 7) [E0,Q0k q 19]) (q8:v 8 = .int .i64 E);intro bb hbb;subst hbb;refine ⟨_,fun w=>?_,rfl⟩;go_simp
 case post =>
  intro v w1 hx (q0:v 0 = .agg #[.slice A t.basics.length capa,.slice B t.causes.length capb,.slice G t.gates.length capg]) (q1:v 1 = .int .i64 E0) (q2:v 2 = .pointer (some ⟨w.heap.size,1,none⟩)) (q3:v 3 = .slice B t.causes.length capb) (q4:v 4 = .int .i64 ((t.causes.length:Nat):Int)) (q5:v 5 = .bool (decide (0 < t.causes.length))) (q6:v 6 = .int .i64 (Q0k q 19)) (q7:Q0f w1 (v 7) [E0,Q0k q 19]) (q8:v 8 = .int .i64 E) (q9:v 9 = .int .i64 E);simp only [Flow.All,Flow.acts,Act.put];go_simp;obtain ⟨wq,hwq⟩:∃ x,x = w1:=⟨_,rfl⟩;subst hwq;have hx1:=hdr.trans hx;have HX1:=Lib.hid (HXW.out.trans hx1);have HK0:=Lib.hid (K0.out.ext hx1);have HT1:=Lib.hid (HT.out.ext hx1);have hbr:=k1.ext hx1;clear hx1 hx hdr k0 k1 K0 q0 q1 q2 q3 q4 q5 q6 q7 q8 HC HW HE HQ
  by_cases hE0:E = 0
  · have hne:(E != 0) = false:=by simp [hE0]
    have HDT:Hid (Q7y t = ⟨t.basics.map X1n,t.causes,t.gates.map Q6g⟩):=by exact (by unfold Q7y; rw [if_pos (by rw [HFIN.out,hE0])]:Q7y t = ⟨t.basics.map X1n,t.causes,t.gates.map Q6g⟩)
    have hz:E0 = 0:=by
     have h0:=HEE.out.trans hE0;rw [Q1k] at h0;exact h0 _ (by simp)
    have HV:=Lib.hid (Valid.of (HEQ.out.trans hz));have HE0:Hid (Q3s t = 0):=Lib.hid (HFIN.out.trans hE0);have HFIT:=Lib.hid HV.out.fit;clear hE0 hz;go_wp2_with (refine Q0j rfl _ 37 rfl Tryz.Q2v Tryz.Q0w rfl HK0.out rfl ?_);refine (X1z _ _ t HFIT.out.nb HFIT.out.nc HFIT.out.ng ⟨_,_,_,rfl,HT1.out⟩).mono ?_;rintro e w4 ⟨gb,gc,gg,mc,mg,rfl,hown,hx4⟩;have HBR:=Lib.hid (hbr.ext hx4);have HX4:=Lib.hid (HX1.out.trans hx4);have HX14:=Lib.hid hx4;have HOWN:=Lib.hid hown;clear hown hx4 hbr;go_wp2_with (refine Q0d rfl _ _ 37 rfl Tryz.Q0w rfl rfl (Blk.made _ _ _) rfl rfl ?_ ?_; (focus (intro u hu; simp only [List.mem_cons,List.not_mem_nil,or_false] at hu; rcases hu with rfl | rfl | rfl <;> rfl)); intro w5 hb5 hl5 ho5; refine halted ?_)
    have hx5:Ext w4 w5:=Below.trans (Ext.box w4 _) (hl5 _ (Nat.le_refl _));have HX5:=Lib.hid (HX14.out.trans hx5);have HXX5:=Lib.hid (HX4.out.trans hx5);have HOWN5:=Lib.hid (HOWN.out.ext hx5);have HK5:=Lib.hid (HK0.out.ext HX5.out);have HB5:=Lib.hid hb5;have HBR5:=Lib.hid (HBR.out.ext hx5);have hob:=HOWN.out.b;have hog:=HOWN.out.g;have hoc:=HOWN.out.c;have hwl:=HX1.out.size;have hgbl:=HOWN.out.bas.lt;have hl5s:=hb5.lt;have d0:=hb5.cell 0;simp only [List.getElem?_toArray,List.getElem?_cons_zero] at d0;have hnb:=HFIT.out.nb;clear hb5 hl5 ho5 hx5;unfold Q3f;go_wp2;have hbc:Q1j enc2 t.basics.length (bF t) = Q1j enc2 t.basics.length (bD t 0):=Q3x fun i _=>by simp [bD]
    have HOB:Hid (Blk w5 gb 125 (Q1j enc2 t.basics.length (bD t 0))):=by exact (by rw [← hbc]; exact HOWN5.out.bas:Blk w5 gb 125 (Q1j enc2 t.basics.length (bD t 0)))
    clear hbc d0
    go_loopw [27] (fun i wr=>∃ (k:Nat),k ≤ t.basics.length ∧ i = .int .i64 k ∧ Blk wr gb 125 (Q1j enc2 t.basics.length (bD t k)) ∧ Ext wq wr ∧ w5.heap.size ≤ wr.heap.size ∧ ∀ b,b < w5.heap.size → b ≠ gb → wr.heap[b]? = w5.heap[b]?) (fun i _=>t.basics.length - (intOf i).toNat)
    case atStart=>exact ⟨0,Nat.zero_le _,rfl,HOB.out,HX5.out,Nat.le_refl _,fun _ _ _=>rfl⟩
    case round =>
     obtain ⟨k,hk,rfl,hbb,hbel,hsz,hoth⟩:=hrel
     by_cases hlt:k < t.basics.length
     · obtain ⟨_,_,he0,_,_,hcc⟩:=HT1.out.basics.opened
       cases he0;obtain ⟨b1,off,rfl,hb1,e0,e1,hsh⟩:=hcc k hlt;replace e1:=hbel.cell e1;obtain ⟨ch,hch⟩:∃ x,Q1l t.basics k = x:=⟨_,rfl⟩;have hchb:0 ≤ ch ∧ ch ≤ 16:=by
        have h:=HV.out.chance (i:=k) (by unfold Tree.size; omega)
        unfold Tree.Q0y at h;rw [if_pos hlt,hch] at h;exact h
       rw [hch] at e1;have HCH:=Lib.hid hch;have HBB:=Lib.hid hbb;have HBEL:=Lib.hid hbel;have HOTH:=Lib.hid hoth;have HB6:=Lib.hid (Q1p HB5.out (Q1i HB5.out HOWN5.out.bas (by decide)) hoth)
       have HK6:=Lib.hid (Q1p HK5.out (Q1i HK5.out HOWN5.out.bas (by decide)) hoth)
       have hkI:(k:Int) < t.basics.length:=by omega
       have hdr:=(Ext.refl wr).drew;have hsub:IntKind.i64.wrap (16 - ch) = 16 - ch:=wrap_in (by omega) (by omega)
       clear hbb hbel hoth hcc hch e0;go_wp2;refine Flow.Q3v [.plain,.world,.plain,.plain,.world,.plain,.plain,.plain,.world,.plain,.plain,.plain,.last] [0,1,2,3,4,5,6,7,8,9,10,11,12] [[],[0],[],[],[3],[],[3,4,5],[3,4,5,6],[3,4,5,6,7],[3,4,5,6,7,8],[0,1,2,3,4,5,6,7,8,9],[0,1,2,3,4,5,6,7,8,9,10],[0,1,2,3,4,5,6,7,8,9,10,11]] [12]
        [.is 0 (fun v=>.pointer (some ⟨w4.heap.size,0,none⟩)),.is 1 (fun v=>.slice (some ⟨gb,0,none⟩) t.basics.length t.basics.length),.is 2 (fun v=>.int .i64 k),.is 3 (fun v=>.pointer (some ⟨w.heap.size,0,none⟩)),.is 4 (fun v=>.slice (some ⟨b1,off,none⟩) t.basics.length capa),.is 5 (fun v=>.int .i64 k),.is 6 (fun v=>.pointer (some ⟨b1,off + k * 2,none⟩)),.is 7 (fun v=>.pointer (some ⟨b1,off + k * 2 + 1,none⟩)),.is 8 (fun v=>.int .i64 ch),.is 9 (fun v=>.int .i64 (16 - ch)),.is 10 (fun v=>.pointer (some ⟨gb,k * 2,none⟩)),.is 11 (fun v=>.pointer (some ⟨gb,k * 2 + 1,none⟩)),.none]
        [fun v w1 w2=>Blk w2 gb 125 ((Q1j enc2 t.basics.length (bD t k)).setIfInBounds (k * 2 + 1) (.int .i64 (16 - ch))) ∧ (∀ n,n ≤ gb → Below n w1 w2) ∧ ∀ k,k ≠ gb → w2.heap[k]? = w1.heap[k]?] (by kernel_rfl) rfl (by kernel_rfl) ⟨?g0,?g1,?g2,?g3,?g4,?g5,?g6,?g7,?g8,?g9,?g10,?g11,?g12,trivial⟩ ?post
       case g0 =>
        intro v w1 hx;intro bb hbb;subst hbb;refine ⟨_,fun w=>?_,rfl⟩;go_simp
       case g1 =>
        intro v w1 hx (q0:v 0 = .pointer (some ⟨w4.heap.size,0,none⟩));intro bb hbb;subst hbb;have n0:w1.cell? ⟨w4.heap.size,0,none⟩ = some (.slice (some ⟨gb,0,none⟩) t.basics.length t.basics.length):=(HB6.out.ext (hdr.trans hx)).cell 0;intro K hK;go_simp;exact hK _ _ (Ext.refl _) rfl
       case g2 =>
        intro v w1 hx;intro bb hbb;subst hbb;refine ⟨_,fun w=>?_,rfl⟩;go_simp
       case g3 =>
        intro v w1 hx;intro bb hbb;subst hbb;refine ⟨_,fun w=>?_,rfl⟩;go_simp
       case g4 =>
        intro v w1 hx (q3:v 3 = .pointer (some ⟨w.heap.size,0,none⟩));intro bb hbb;subst hbb;have n0:w1.cell? ⟨w.heap.size,0,none⟩ = some (.slice (some ⟨b1,off,none⟩) t.basics.length capa):=(HK6.out.ext (hdr.trans hx)).cell 0;intro K hK;go_simp;exact hK _ _ (Ext.refl _) rfl
       case g5 =>
        intro v w1 hx;intro bb hbb;subst hbb;refine ⟨_,fun w=>?_,rfl⟩;go_simp
       case g6 =>
        intro v w1 hx (q3:v 3 = .pointer (some ⟨w.heap.size,0,none⟩)) (q4:v 4 = .slice (some ⟨b1,off,none⟩) t.basics.length capa) (q5:v 5 = .int .i64 k);intro bb hbb;subst hbb;refine ⟨_,fun w=>?_,rfl⟩;go_simp
       case g7 =>
        intro v w1 hx (q3:v 3 = .pointer (some ⟨w.heap.size,0,none⟩)) (q4:v 4 = .slice (some ⟨b1,off,none⟩) t.basics.length capa) (q5:v 5 = .int .i64 k) (q6:v 6 = .pointer (some ⟨b1,off + k * 2,none⟩));intro bb hbb;subst hbb;refine ⟨_,fun w=>?_,rfl⟩;go_simp
       case g8 =>
        intro v w1 hx (q3:v 3 = .pointer (some ⟨w.heap.size,0,none⟩)) (q4:v 4 = .slice (some ⟨b1,off,none⟩) t.basics.length capa) (q5:v 5 = .int .i64 k) (q6:v 6 = .pointer (some ⟨b1,off + k * 2,none⟩)) (q7:v 7 = .pointer (some ⟨b1,off + k * 2 + 1,none⟩));intro bb hbb;subst hbb;have n0:w1.cell? ⟨b1,off + k * 2 + 1,none⟩ = some (.int .i64 ch):=(hdr.trans hx).cell e1;intro K hK;go_simp;exact hK _ _ (Ext.refl _) rfl
       case g9 =>
        intro v w1 hx (q3:v 3 = .pointer (some ⟨w.heap.size,0,none⟩)) (q4:v 4 = .slice (some ⟨b1,off,none⟩) t.basics.length capa) (q5:v 5 = .int .i64 k) (q6:v 6 = .pointer (some ⟨b1,off + k * 2,none⟩)) (q7:v 7 = .pointer (some ⟨b1,off + k * 2 + 1,none⟩)) (q8:v 8 = .int .i64 ch);intro bb hbb;subst hbb;refine ⟨_,fun w=>?_,rfl⟩;go_simp
       case g10 =>
        intro v w1 hx (q0:v 0 = .pointer (some ⟨w4.heap.size,0,none⟩)) (q1:v 1 = .slice (some ⟨gb,0,none⟩) t.basics.length t.basics.length) (q2:v 2 = .int .i64 k) (q3:v 3 = .pointer (some ⟨w.heap.size,0,none⟩)) (q4:v 4 = .slice (some ⟨b1,off,none⟩) t.basics.length capa) (q5:v 5 = .int .i64 k) (q6:v 6 = .pointer (some ⟨b1,off + k * 2,none⟩)) (q7:v 7 = .pointer (some ⟨b1,off + k * 2 + 1,none⟩)) (q8:v 8 = .int .i64 ch) (q9:v 9 = .int .i64 (16 - ch));intro bb hbb;subst hbb;refine ⟨_,fun w=>?_,rfl⟩;go_simp
       case g11 =>
        intro v w1 hx (q0:v 0 = .pointer (some ⟨w4.heap.size,0,none⟩)) (q1:v 1 = .slice (some ⟨gb,0,none⟩) t.basics.length t.basics.length) (q2:v 2 = .int .i64 k) (q3:v 3 = .pointer (some ⟨w.heap.size,0,none⟩)) (q4:v 4 = .slice (some ⟨b1,off,none⟩) t.basics.length capa) (q5:v 5 = .int .i64 k) (q6:v 6 = .pointer (some ⟨b1,off + k * 2,none⟩)) (q7:v 7 = .pointer (some ⟨b1,off + k * 2 + 1,none⟩)) (q8:v 8 = .int .i64 ch) (q9:v 9 = .int .i64 (16 - ch)) (q10:v 10 = .pointer (some ⟨gb,k * 2,none⟩));intro bb hbb;subst hbb;refine ⟨_,fun w=>?_,rfl⟩;go_simp
       case g12 =>
        intro v w1 hx (q0:v 0 = .pointer (some ⟨w4.heap.size,0,none⟩)) (q1:v 1 = .slice (some ⟨gb,0,none⟩) t.basics.length t.basics.length) (q2:v 2 = .int .i64 k) (q3:v 3 = .pointer (some ⟨w.heap.size,0,none⟩)) (q4:v 4 = .slice (some ⟨b1,off,none⟩) t.basics.length capa) (q5:v 5 = .int .i64 k) (q6:v 6 = .pointer (some ⟨b1,off + k * 2,none⟩)) (q7:v 7 = .pointer (some ⟨b1,off + k * 2 + 1,none⟩)) (q8:v 8 = .int .i64 ch) (q9:v 9 = .int .i64 (16 - ch)) (q10:v 10 = .pointer (some ⟨gb,k * 2,none⟩)) (q11:v 11 = .pointer (some ⟨gb,k * 2 + 1,none⟩));intro wl hT;obtain rfl:wl = w1:=hT;intro bb hbb;intro K hK;have o1:bb.eval (.tmp 41) = .pointer (some ⟨gb,k * 2 + 1,none⟩):=by rw [hbb]; dsimp only; (try simp (discharger:=decide) only [eval_put_ne]); rw [Q0a (by simp only [size_put]; exact (by decide:41 < 81))]; exact q11
        have o2:bb.eval (.tmp 39) = .int .i64 (16 - ch):=by rw [hbb]; dsimp only; (try simp (discharger:=decide) only [eval_put_ne]); rw [Q0a (by simp only [size_put]; exact (by decide:39 < 81))]; exact q9
        have hbx:=HBB.out.ext (hdr.trans hx);refine Q3a (.tmp 41) (.tmp 39) rfl Tryz.X9b o1 o2 rfl rfl hbx (by rw [Q1c Q3j]; omega) (fun vv=>hK _ _ ⟨hbx.set _ _,fun n hn=>(Below.refl n _).setCell (p:=⟨gb,k * 2 + 1,none⟩) hn _,fun k' hk'=>Below.heap_setCell _ _ _ _ hk'⟩)
       case post =>
        intro v w1 hx (q0:v 0 = .pointer (some ⟨w4.heap.size,0,none⟩)) (q1:v 1 = .slice (some ⟨gb,0,none⟩) t.basics.length t.basics.length) (q2:v 2 = .int .i64 k) (q3:v 3 = .pointer (some ⟨w.heap.size,0,none⟩)) (q4:v 4 = .slice (some ⟨b1,off,none⟩) t.basics.length capa) (q5:v 5 = .int .i64 k) (q6:v 6 = .pointer (some ⟨b1,off + k * 2,none⟩)) (q7:v 7 = .pointer (some ⟨b1,off + k * 2 + 1,none⟩)) (q8:v 8 = .int .i64 ch) (q9:v 9 = .int .i64 (16 - ch)) (q10:v 10 = .pointer (some ⟨gb,k * 2,none⟩)) (q11:v 11 = .pointer (some ⟨gb,k * 2 + 1,none⟩));intro w2 hE;replace hE:(fun v w1 w2=>Blk w2 gb 125 ((Q1j enc2 t.basics.length (bD t k)).setIfInBounds (k * 2 + 1) (.int .i64 (16 - ch))) ∧ (∀ n,n ≤ gb → Below n w1 w2) ∧ ∀ k,k ≠ gb → w2.heap[k]? = w1.heap[k]?) v w1 w2:=hE;simp only [Flow.acts,Act.put];go_simp;obtain ⟨hb6,hlow,hot6⟩:=hE;have h1:=Z3r t k;rw [HCH.out] at h1;rw [X5f (bD t k) (bD t (k + 1)) hlt (by decide) h1 (fun j hj=>Z2f t k j hj)] at hb6
        have hxx:=hdr.trans hx;have HBS:=Lib.hid hb6;have HE6:Hid (Ext wq w2):=by exact (Below.trans (HBEL.out.trans hxx) (hlow wq.heap.size (by omega)):Ext wq w2)
        have HS6:Hid (w5.heap.size ≤ w2.heap.size):=by exact (Nat.le_trans hsz (Nat.le_trans hxx.size (hlow 0 (Nat.zero_le _)).size):w5.heap.size ≤ w2.heap.size)
        have HO6:Hid (∀ b,b < w5.heap.size → b ≠ gb → w2.heap[b]? = w5.heap[b]?):=by exact (fun b hb hne=>(hot6 b hne).trans ((hxx.block b (Nat.lt_of_lt_of_le hb hsz)).trans (HOTH.out b hb hne)):∀ b,b < w5.heap.size → b ≠ gb → w2.heap[b]? = w5.heap[b]?)
        clear hb6 hlow hot6 hxx hx hdr h1 q0 q1 q2 q3 q4 q5 q6 q7 q8 q9 q10 q11;go_wp2;go_roundw
        case rel=>exact ⟨k + 1,by omega,by go_num,HBS.out,HE6.out,HS6.out,HO6.out⟩
        case measure=>simp [intOf]; omega
     · have e:k = t.basics.length:=by omega
       subst e;obtain ⟨w6,hw6⟩:∃ x,wr = x:=⟨_,rfl⟩;rw [hw6] at hbb hbel hsz hoth ⊢;clear hw6;have HBB6:=Lib.hid hbb;have HBEL6:=Lib.hid hbel;have HBC6:=Lib.hid (Q1p HOWN5.out.cau (Q1i HOWN5.out.cau HOWN5.out.bas (by decide)) hoth)
       have HBG6:=Lib.hid (Q1p HOWN5.out.gat (Q1i HOWN5.out.gat HOWN5.out.bas (by decide)) hoth)
       have HB6:=Lib.hid (Q1p HB5.out (Q1i HB5.out HOWN5.out.bas (by decide)) hoth)
       have HBR6:=Lib.hid (Q1p HBR5.out (Q1i HBR5.out HOWN5.out.bas (by decide)) hoth)
       have HK6:=Lib.hid (Q1p HK5.out (Q1i HK5.out HOWN5.out.bas (by decide)) hoth)
       have HM6:Hid (∀ i,i < t.causes.length → Q0q w6 0 3 (.int .i64) (mc i) (Q0c t.causes i)):=by exact (fun i hi=>Q3i (HOWN5.out.mem i hi) HOWN5.out.bas (by decide) hoth:∀ i,i < t.causes.length → Q0q w6 0 3 (.int .i64) (mc i) (Q0c t.causes i))
       have HI6:Hid (∀ i,i < t.gates.length → Q0q w6 0 3 (.int .i64) (mg i) (Q0l t.gates i)):=by exact (fun i hi=>Q3i (HOWN5.out.inp i hi) HOWN5.out.bas (by decide) hoth:∀ i,i < t.gates.length → Q0q w6 0 3 (.int .i64) (mg i) (Q0l t.gates i))
       have HXW6:Hid (Ext w w6):=by exact (HX1.out.trans hbel:Ext w w6)
       have hgg6:=HBG6.out.lt;have hng:=HFIT.out.ng;have c2:=HK6.out.cell 2;simp only [List.getElem?_toArray,List.getElem?_cons_zero,List.getElem?_cons_succ] at c2;have hgc:Q1j enc3 t.gates.length (gF t mg) = Q1j enc3 t.gates.length (gD t mg 0):=Q3x fun i _=>by simp [gD]
       have HGG:Hid (Blk w6 gg 129 (Q1j enc3 t.gates.length (gD t mg 0))):=by exact (by rw [← hgc]; exact HBG6.out:Blk w6 gg 129 (Q1j enc3 t.gates.length (gD t mg 0)))
       clear hbb hbel hoth hgc;go_wp2;clear c2
       go_loopw [46] (fun i wr=>∃ (k:Nat),k ≤ t.gates.length ∧ i = .int .i64 k ∧ Blk wr gg 129 (Q1j enc3 t.gates.length (gD t mg k)) ∧ Ext wq wr ∧ w6.heap.size ≤ wr.heap.size ∧ ∀ b,b < w6.heap.size → b ≠ gg → wr.heap[b]? = w6.heap[b]?) (fun i _=>t.gates.length - (intOf i).toNat)
       case atStart=>exact ⟨0,Nat.zero_le _,rfl,HGG.out,HBEL6.out,Nat.le_refl _,fun _ _ _=>rfl⟩
       case round =>
        obtain ⟨k,hk,rfl,hgg,hbel,hsz,hoth⟩:=hrel
        by_cases hlt:k < t.gates.length
        · obtain ⟨_,_,he0,_,_,hcc⟩:=HT1.out.gates.opened
          cases he0;obtain ⟨b1,off,mv,rfl,hb1,e0,e1,e2,hM,hsh⟩:=hcc k hlt;replace e0:=hbel.cell e0;replace e1:=hbel.cell e1;replace e2:=hbel.cell e2;obtain ⟨A3,cap3,rfl,_,_,_⟩:=hM.opened;have hnd:=Valid.need HV.out hlt;obtain ⟨nm,hnm⟩:∃ x,Q2c t.gates k = x:=⟨_,rfl⟩;obtain ⟨nd,hndd⟩:∃ x,Q2x t.gates k = x:=⟨_,rfl⟩;obtain ⟨ml,hml⟩:∃ x,Q0l t.gates k = x:=⟨_,rfl⟩;rw [hnm] at e0;rw [hndd] at e1 hnd;rw [hml] at e2 hM hnd;have HNM:=Lib.hid hnm;have HND:=Lib.hid hndd;have HML:=Lib.hid hml;have HGG6:=Lib.hid hgg;have HBEL:=Lib.hid hbel;have HOTH:=Lib.hid hoth;have HB6:=Lib.hid (Q1p HB6.out (Q1i HB6.out HBG6.out (by decide)) hoth)
          have hkI:(k:Int) < t.gates.length:=by omega
          have hwr:=hbel.size;clear hgg hbel hoth hcc hM hnm hndd hml;go_wp2_with (refine Q0d rfl _ _ 129 rfl Tryz.X7m rfl rfl (Blk.made _ _ _) rfl rfl ?_ ?_; (focus (intro u hu; simp only [List.mem_cons,List.not_mem_nil,or_false] at hu; rcases hu with rfl | rfl | rfl <;> rfl)); intro w7 hb7 hl7 ho7; refine halted ?_)
          have hx7:Ext wr w7:=Below.trans (Ext.box wr _) (hl7 _ (Nat.le_refl _));have HX7:=Lib.hid hx7;have HGG7:=Lib.hid (HGG6.out.ext hx7);have s0:=hb7.cell 0;have s1:=hb7.cell 1;have s2:=hb7.cell 2;have s3:=(HB6.out.ext hx7).cell 2;simp only [List.getElem?_toArray,List.getElem?_cons_zero,List.getElem?_cons_succ] at s0 s1 s2 s3;clear hb7 hl7 ho7 hx7 e0 e1 e2;unfold Q3f
          by_cases hk1:nm = Q8z
          · subst hk1
            unfold Q8z at s0;go_wp2_with (refine Q1b rfl _ _ 9 rfl Tryz.Z1r (u:=.string ⟨#[111,114]⟩) (g:=gg) (k:=k * 3 + 0) rfl rfl rfl rfl HGG7.out (by rw [Q1c Q0s]; omega) ?_; intro w8 hb8 hl8 ho8; refine halted ?_)
            have hbs:Blk w8 gg 129 (Q1j enc3 t.gates.length (gD t mg (k + 1))):=by
             have h:=hb8;rw [Q8r (gD t mg k) (gD t mg (k + 1)) (r:=0) hlt (by decide) (Y2f t mg k 0 _ (by rw [Y2y HNM.out,HNM.out]; rfl)) (fun j hj=>X4b t mg k j hj)] at h
             exact h
            have HBS:=Lib.hid hbs;have HE8:Hid (Ext wq w8):=by exact (Below.trans (HBEL.out.trans HX7.out) (hl8 wq.heap.size (by omega)):Ext wq w8)
            have HS8:Hid (w6.heap.size ≤ w8.heap.size):=by exact (Nat.le_trans hsz (Nat.le_trans HX7.out.size (hl8 0 (Nat.zero_le _)).size):w6.heap.size ≤ w8.heap.size)
            have HO8:Hid (∀ b,b < w6.heap.size → b ≠ gg → w8.heap[b]? = w6.heap[b]?):=by exact (fun b hb hne=>(ho8 b hne).trans ((HX7.out.block b (Nat.lt_of_lt_of_le hb hsz)).trans (HOTH.out b hb hne)):∀ b,b < w6.heap.size → b ≠ gg → w8.heap[b]? = w6.heap[b]?)
            clear hb8 hl8 ho8 hbs s0 s1 s2 s3;unfold Q3f;go_wp2;go_roundw
            case rel=>exact ⟨k + 1,by omega,by go_num,HBS.out,HE8.out,HS8.out,HO8.out⟩
            case measure=>simp [intOf]; omega
          · have hb1:=Q6r Y3w hk1
            by_cases hk2:nm = sOr
            · subst hk2
              clear hb1;unfold sOr at s0;go_wp2_with (refine Q1b rfl _ _ 9 rfl Tryz.Z1r (u:=.string ⟨#[97,110,100]⟩) (g:=gg) (k:=k * 3 + 0) rfl rfl rfl rfl HGG7.out (by rw [Q1c Q0s]; omega) ?_; intro w8 hb8 hl8 ho8; refine halted ?_)
              have hbs:Blk w8 gg 129 (Q1j enc3 t.gates.length (gD t mg (k + 1))):=by
               have h:=hb8;rw [Q8r (gD t mg k) (gD t mg (k + 1)) (r:=0) hlt (by decide) (Y2f t mg k 0 _ (by rw [Y9m HNM.out,HNM.out]; rfl)) (fun j hj=>X4b t mg k j hj)] at h
               exact h
              have HBS:=Lib.hid hbs;have HE8:Hid (Ext wq w8):=by exact (Below.trans (HBEL.out.trans HX7.out) (hl8 wq.heap.size (by omega)):Ext wq w8)
              have HS8:Hid (w6.heap.size ≤ w8.heap.size):=by exact (Nat.le_trans hsz (Nat.le_trans HX7.out.size (hl8 0 (Nat.zero_le _)).size):w6.heap.size ≤ w8.heap.size)
              have HO8:Hid (∀ b,b < w6.heap.size → b ≠ gg → w8.heap[b]? = w6.heap[b]?):=by exact (fun b hb hne=>(ho8 b hne).trans ((HX7.out.block b (Nat.lt_of_lt_of_le hb hsz)).trans (HOTH.out b hb hne)):∀ b,b < w6.heap.size → b ≠ gg → w8.heap[b]? = w6.heap[b]?)
              clear hb8 hl8 ho8 hbs s0 s1 s2 s3;unfold Q3f;go_wp2;go_roundw
              case rel=>exact ⟨k + 1,by omega,by go_num,HBS.out,HE8.out,HS8.out,HO8.out⟩
              case measure=>simp [intOf]; omega
            · have hb2:=Q6r Y9f hk2
              have HK1:=Lib.hid hk1;have HK2:=Lib.hid hk2;have hw1:IntKind.i64.wrap ((ml.length:Int) + 1) = (ml.length:Int) + 1:=wrap_in (by omega) (by omega)
              have hw2:IntKind.i64.wrap ((ml.length:Int) + 1 - nd) = (ml.length:Int) + 1 - nd:=wrap_in (by omega) (by omega)
              clear hk1 hk2;go_wp2_with (refine Q1b rfl _ _ 3 rfl Tryz.X9b (u:=.int .i64 ((ml.length:Int) + 1 - nd)) (g:=gg) (k:=k * 3 + 1) rfl rfl rfl rfl HGG7.out (by rw [Q1c Q0s]; omega) ?_; intro w8 hb8 hl8 ho8; refine halted ?_)
              have hbs:Blk w8 gg 129 (Q1j enc3 t.gates.length (gD t mg (k + 1))):=by
               have h:=hb8;rw [Q8r (gD t mg k) (gD t mg (k + 1)) (r:=1) hlt (by decide) (Y2f t mg k 1 _ (by rw [X8k (by rw [HNM.out]; exact HK1.out) (by rw [HNM.out]; exact HK2.out),HML.out,HND.out]; rfl)) (fun j hj=>X4b t mg k j hj)] at h
               exact h
              have HBS:=Lib.hid hbs;have HE8:Hid (Ext wq w8):=by exact (Below.trans (HBEL.out.trans HX7.out) (hl8 wq.heap.size (by omega)):Ext wq w8)
              have HS8:Hid (w6.heap.size ≤ w8.heap.size):=by exact (Nat.le_trans hsz (Nat.le_trans HX7.out.size (hl8 0 (Nat.zero_le _)).size):w6.heap.size ≤ w8.heap.size)
              have HO8:Hid (∀ b,b < w6.heap.size → b ≠ gg → w8.heap[b]? = w6.heap[b]?):=by exact (fun b hb hne=>(ho8 b hne).trans ((HX7.out.block b (Nat.lt_of_lt_of_le hb hsz)).trans (HOTH.out b hb hne)):∀ b,b < w6.heap.size → b ≠ gg → w8.heap[b]? = w6.heap[b]?)
              clear hb8 hl8 ho8 hbs s0 s1 s2 s3;unfold Q3f;go_wp2;go_roundw
              case rel=>exact ⟨k + 1,by omega,by go_num,HBS.out,HE8.out,HS8.out,HO8.out⟩
              case measure=>simp [intOf]; omega
        · have e:k = t.gates.length:=by omega
          subst e;obtain ⟨w7,hw7⟩:∃ x,wr = x:=⟨_,rfl⟩;rw [hw7] at hgg hbel hsz hoth ⊢;clear hw7;have HGG7:=Lib.hid hgg;have HX7:Hid (Ext w w7):=by exact (HX1.out.trans hbel:Ext w w7)
          have HBB7:=Lib.hid (Q1p HBB6.out (Q1i HBB6.out HBG6.out (by decide)) hoth)
          have HBC7:=Lib.hid (Q1p HBC6.out (Q1i HBC6.out HBG6.out (by decide)) hoth)
          have HB7:=Lib.hid (Q1p HB6.out (Q1i HB6.out HBG6.out (by decide)) hoth)
          have HBR7:=Lib.hid (Q1p HBR6.out (Q1i HBR6.out HBG6.out (by decide)) hoth)
          have HM7:Hid (∀ i,i < t.causes.length → Q0q w7 0 3 (.int .i64) (mc i) (Q0c t.causes i)):=by exact (fun i hi=>Q3i (HM6.out i hi) HBG6.out (by decide) hoth:∀ i,i < t.causes.length → Q0q w7 0 3 (.int .i64) (mc i) (Q0c t.causes i))
          have HI7:Hid (∀ i,i < t.gates.length → Q0q w7 0 3 (.int .i64) (mg i) (Q0l t.gates i)):=by exact (fun i hi=>Q3i (HI6.out i hi) HBG6.out (by decide) hoth:∀ i,i < t.gates.length → Q0q w7 0 3 (.int .i64) (mg i) (Q0l t.gates i))
          clear hgg hbel hsz hoth;go_wp2_with (first | (refine Q0j rfl _ 37 rfl Tryz.Q2v Tryz.Q0w rfl HB7.out rfl ?_) | (refine Q0d rfl _ _ 37 rfl Tryz.Q0w rfl rfl HBR7.out rfl rfl ?_ ?_; (focus (intro u hu; simp only [List.mem_cons,List.not_mem_nil,or_false] at hu; rcases hu with rfl | rfl | rfl <;> rfl)); intro w8 hb8 hl8 ho8))
          have e1:=Q1i HBB7.out HBR7.out (by decide)
          have e2:=Q1i HBC7.out HBR7.out (by decide)
          have e3:=Q1i HGG7.out HBR7.out (by decide)
          have f1:=HBB7.out.only e1 ho8;have f2:=HBC7.out.only e2 ho8;have f3:=HGG7.out.only e3 ho8;have HM8:∀ i,i < t.causes.length → Q0f w8 (mc i) (Q0c t.causes i):=fun i hi=>(Q2e (HM7.out i hi) HBR7.out (by decide) ho8).ints (HT.out.causes.short hi).2
          have HI8:∀ i,i < t.gates.length → Q0f w8 (mg i) (Q0l t.gates i):=fun i hi=>(Q2e (HI7.out i hi) HBR7.out (by decide) ho8).ints (HT.out.gates.short hi).2
          refine bodyPost_ret (Q0o Tryz.results27 rfl hb8 Tryz.Q2v Tryz.Q0w rfl) rfl ?_;refine ⟨_,by rw [HE0.out]; rfl,?_,Below.trans HX7.out (hl8 _ (by omega))⟩
          rw [HDT.out];refine ⟨_,_,_,rfl,⟨?_,?_,?_⟩⟩
          · have hle:(t.basics.map X1n).length = t.basics.length:=List.length_map _
            have:=Q6t (l:=t.basics.map X1n) f1 (by omega) (by omega) fun i hi=>by
             rw [hle] at hi;obtain ⟨q1,q2⟩:=X7g hi;rw [q1,q2];exact ⟨by unfold bD; rw [if_pos hi],HT.out.basics.short hi⟩
            rw [hle] at this;exact this
          · exact Q6n f2 (Nat.le_refl _) HFIT.out.nc fun i hi=>⟨_,rfl,HM8 i hi,(HT.out.causes.short hi).1⟩
          · have hle:(t.gates.map Q6g).length = t.gates.length:=List.length_map _
            have:=Q8b (l:=t.gates.map Q6g) f3 (by omega) (by omega) fun i hi=>by
             rw [hle] at hi;obtain ⟨q1,q2,q3⟩:=Q9k hi;rw [q1,q2,q3];exact ⟨_,by unfold gD; rw [if_pos hi],HI8 i hi,X9a (HT.out.gates.short hi).1⟩
            rw [hle] at this;exact this
  · have hne:(E != 0) = true:=by simp [hE0]
    have HZT:Hid (Q7y t = ⟨[],[],[]⟩):=by exact (by unfold Q7y; rw [if_neg (by rw [HFIN.out]; exact hE0)]:Q7y t = ⟨[],[],[]⟩)
    go_wp2_with (refine Q0d rfl _ _ 37 rfl Tryz.Q0w rfl rfl hbr rfl rfl ?_ ?_; (focus (intro u hu; simp only [List.mem_cons,List.not_mem_nil,or_false] at hu; rcases hu with rfl | rfl | rfl <;> rfl)); intro w8 hb8 hl8 ho8)
    refine bodyPost_ret (Q0o Tryz.results27 rfl hb8 Tryz.Q2v Tryz.Q0w rfl) rfl ?_;refine ⟨_,by rw [HFIN.out]; rfl,?_,Below.trans HX1.out (hl8 _ (by omega))⟩
    rw [HZT.out];exact Q7a _
end Go.Proofs
