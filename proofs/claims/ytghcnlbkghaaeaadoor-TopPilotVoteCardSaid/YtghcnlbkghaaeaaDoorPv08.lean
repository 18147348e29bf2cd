/- Contract: the error of a gate. Contract: the closure of CheckTree, which keeps the names in a map. Contract: CheckTree. -/
import Derived.Test.YtghcnlbkghaaeaaDoorPv07
set_option maxRecDepth 1000000
set_option maxHeartbeats 64000000
set_option linter.unusedVariables false
set_option linter.unusedSimpArgs false
set_option linter.constructorNameAsVariable false
namespace Go.Proofs
open Go.RowKit Go.Tw Go.Flow
theorem X5z (k:ByteArray):(Q2c k Q2h).isSome = kindB k:=by
 unfold Q2h Q2c kindB
 by_cases h1:k = sAnd
 . rw [if_pos (str_eq h1),str_eq h1]; rfl
 . rw [str_ne h1,if_neg (by simp)]
   unfold Q2c
   by_cases h2:k = sOr
   . rw [if_pos (str_eq h2),str_eq h2]; rfl
   . rw [str_ne h2,if_neg (by simp)]
     unfold Q2c
     by_cases h3:k = sVote
     . rw [if_pos (str_eq h3),str_eq h3]; rfl
     . rw [str_ne h3,if_neg (by simp)]; rfl
theorem Q2k {w:World} {T:TypeId} {l:List Int} (hl:l.length <= 1000):IsInts (w.alloc (.cells (l.map (Value.int .i64)).toArray T)) (.slice (some ⟨w.heap.size,0,none⟩) l.length l.length) l:=by
 refine ⟨fun j=>.int .i64 (l.getD j 0),⟨some ⟨w.heap.size,0,none⟩,l.length,rfl,by omega,Nat.le_refl _,fun j hj=>⟨w.heap.size,0,rfl,?_⟩⟩,fun j hj=>?_⟩
 . have hj':j < l.length:=by omega
   rw [Q0d]; simp [hj']
 . simp [hj]
def leastOf (k:ByteArray):Int:=if k = sVote then 1 else 0
def X3z (k:ByteArray) (n:Nat):Int:=if k = sVote then n else 0
def Q6c (k:ByteArray) (need:Int) (l:List Int) (n:Int):Int:=firstErr [Q0c (!kindB k) 13,Q0c ((l.length:Int) == 0) 12,Q0c (decide (12 < (l.length:Int))) 5,setErr l n,rangeErr need (leastOf k) (X3z k l.length)]
theorem X9f (k:ByteArray) (need:Int) (l:List Int) (n:Int):Q6c k need l n = gateErr k need l n:=by
 unfold Q6c gateErr needErr leastOf X3z Q0c listErr;cases hk:kindB k with
 | false=>simp [firstErr]
 | true =>
   cases l with
   | nil=>simp [firstErr]
   | cons x l =>
     by_cases h12:12 < (x :: l).length
     . have h1:decide (12 < ((x :: l).length:Int)) = true:=by rw [decide_eq_true_eq]; omega
       rw [h1,if_pos h12];simp [firstErr];have:¬ (l.length:Int) + 1 = 0:=by omega
       simp [this]
     . have h1:decide (12 < ((x :: l).length:Int)) = false:=by rw [decide_eq_false_iff_not]; omega
       rw [h1,if_neg h12];have h0:(((x :: l).length:Int) == 0) = false:=by rw [beq_eq_false_iff_ne]; simp; omega
       rw [h0]
       by_cases hv:k = sVote <;> simp [firstErr,hv]
theorem X9x (k:ByteArray):∃ fx,(Q2c k Q2h).getD (.agg #[.nilFunc]) = .agg #[fx] /\ fx.oneCell' = true:=by
 unfold Q2h Q2c
 split
 . exact ⟨_,rfl,rfl⟩
 . unfold Q2c
   split
   . exact ⟨_,rfl,rfl⟩
   . unfold Q2c
     split
     . exact ⟨_,rfl,rfl⟩
     . exact ⟨_,rfl,rfl⟩
theorem Tryd.X9o (w:World):(sizeOf 174).run Tryd.prog w = .ok 1 w:=by kernel_rfl
theorem X1l:sVote.toList = [118,111,116,101]:=by simp [sVote,go_sem]
theorem X5f (w:World) (k:ByteArray) (iv:Value) (need:Int) (l:List Int) (n:Int) (hl:IsInts w iv l) :
    Calls Tryd.prog 102 #[.agg #[.string k,.int .i64 need,iv],.int .i64 n] w fun e w'=>e = .returned (.int .i64 (Q6c k need l n)) /\ Ext w w':=by
 obtain ⟨A,cap,rfl,hl1,hcap,hc⟩:=hl.opened;have hxW:=Ext.box w (.cells #[.string k,.int .i64 need,.slice A l.length cap] 83);have HL:=Lib.hid (hl.ext hxW);have c0:(w.alloc (.cells #[.string k,.int .i64 need,.slice A l.length cap] 83)).cell? ⟨w.heap.size,0,none⟩ = some (.string k):=Q0d _ _ _ 0;have c1:(w.alloc (.cells #[.string k,.int .i64 need,.slice A l.length cap] 83)).cell? ⟨w.heap.size,1,none⟩ = some (.int .i64 need):=Q0d _ _ _ 1;have c2:(w.alloc (.cells #[.string k,.int .i64 need,.slice A l.length cap] 83)).cell? ⟨w.heap.size,2,none⟩ = some (.slice A l.length cap):=Q0d _ _ _ 2;obtain ⟨fx,hfx,hf1⟩:=X9x k;obtain ⟨kb,hkb⟩:∃ kb,kindB k = kb:=⟨_,rfl⟩;have HLK:Hid (∀ (w':World) (b:Nat),Q1f w' b Q2h -> (Instr.lookup 167 (.map (some b)) (.string k) true).run Tryd.prog w' = .ok (.tuple #[.agg #[fx],.bool kb]) w'):=by
  exact (by intro w' b hm; have h:=Q2p (P:=Tryd.prog) hm X0x Y0t (Y1x _) k true; rw [if_pos rfl,X5z,hkb,hfx] at h; exact h:∀ (w':World) (b:Nat),Q1f w' b Q2h -> (Instr.lookup 167 (.map (some b)) (.string k) true).run Tryd.prog w' = .ok (.tuple #[.agg #[fx],.bool kb]) w')
 have HF1:=Lib.hid hf1;have HKB:=Lib.hid hkb;clear hl hc hfx hf1 hkb;go_enter Tryd.func102,Tryd.ntmps102;go_wp2;obtain ⟨W,hW⟩:∃ W,w.alloc (.cells #[.string k,.int .i64 need,.slice A l.length cap] 83) = W:=⟨_,rfl⟩;have hws:w.heap.size + 1 = W.heap.size:=by rw [<- hW]; simp
 rw [hW] at c0 c1 c2 hxW HL ⊢;clear hW;have hd1:=(Ext.refl W).drew;refine Flow.region [.w,.p,.w,.w,.p,.p,.p,.w,.last,.last] [0,1,2,3,4,5,6,7,8,9] [[],[],[1],[0,1,2],[0,1,2,3],[0,1,2,3,4],[0,1,2,3,4],[],[0,1,2,3,4,5,7],[0,1,2,3,4,5,6,7,8]] [8,9]
  [⟨fun v wz=>(fun v w'=>∃ b,v 0 = .map (some b) /\ Q1f w' b Q2h) v wz,by rintro v a b hx ⟨g,h1,h2⟩; exact ⟨g,h1,h2.ext hx⟩⟩,.c 1 (.pointer (some ⟨w.heap.size,0,none⟩)),.c 2 (.string k),.c 3 (.tuple #[.agg #[fx],.bool kb]),.c 4 (.tuple #[.agg #[fx],.bool kb]),.c 5 (.agg #[fx]),.c 6 (.bool kb),⟨fun v wz=>(fun v w'=>∃ g,v 7 = .pointer (some ⟨g,0,none⟩) /\ W.heap.size <= g /\ Blk w' g 174 #[.nilFunc]) v wz,by rintro v a b hx ⟨g,h1,h2,h3⟩; exact ⟨g,h1,h2,h3.ext hx⟩⟩,.none,.none]
  [fun v w1 w'=>Below W.heap.size w1 w',fun v w1 w'=>v 9 = .bool kb /\ Below W.heap.size w1 w'] (by kernel_rfl) rfl (by kernel_rfl) ⟨?g0,?g1,?g2,?g3,?g4,?g5,?g6,?g7,?g8,?g9,trivial⟩ ?post
 case g0=>
  intro v w1 hx;intro K hK;go_simp;refine Q0b (X0p _) ?_;rintro e w2 ⟨b,rfl,hm,hx2⟩;exact ⟨_,rfl,hK _ _ hx2 ⟨b,rfl,hm⟩⟩
 case g1=>
  intro v w1 hx;refine ⟨_,fun w=>?_,rfl⟩;go_simp
 case g2=>
  intro v w1 hx;(repeat intro (zq:v _ = _));have c0:=hx.cell c0;intro K hK;go_simp;exact hK _ _ (Ext.refl _) rfl
 case g3=>
  intro v w1 hx (q0:(fun v w'=>∃ b,v 0 = .map (some b) /\ Q1f w' b Q2h) v w1) (q1:v 1 = _) (q2:v 2 = _);obtain ⟨b,hb0,hm0⟩:=q0;have hlk:=HLK.out _ b hm0;intro K hK;go_simp;exact hK _ _ (Ext.refl _) rfl
 case g4=>
  intro v w1 hx _ (q1:v 1 = _) (q2:v 2 = _) (q3:v 3 = _);refine ⟨_,fun w=>?_,rfl⟩;go_simp
 case g5 | g6=>
  intro v w1 hx _ (q1:v 1 = _) (q2:v 2 = _) (q3:v 3 = _) (q4:v 4 = _);refine ⟨_,fun w=>?_,rfl⟩;go_simp
 case g7=>
  intro v w1 hx;intro K hK;go_simp;exact hK _ _ (Ext.box _ _) ⟨_,rfl,hx.size,Blk.made _ _ _⟩
 case g8=>
  intro v w1 hx _ (q1:v 1 = _) (q2:v 2 = _) (q3:v 3 = _) (q4:v 4 = _) (q5:v 5 = _) (q7:(fun v w'=>∃ g,v 7 = .pointer (some ⟨g,0,none⟩) /\ W.heap.size <= g /\ Blk w' g 174 #[.nilFunc]) v w1);intro wl hT;obtain rfl:wl = w1:=hT;intro bb hbb;intro K hK;obtain ⟨g,hg,hgs,hb⟩:=q7;have o1:bb.eval (.tmp 5) = .pointer (some ⟨g,0,none⟩):=by rw [hbb]; dsimp only; (try simp (discharger:=decide) only [eval_put_ne]); rw [Q0a (by simp only [size_put]; exact (by decide:5 < 46))]; exact hg
  have o2:bb.eval (.tmp 14) = .agg #[fx]:=by rw [hbb]; dsimp only; (try simp (discharger:=decide) only [eval_put_ne]); rw [Q0a (by simp only [size_put]; exact (by decide:14 < 46))]; exact q5
  clear hbb;exact Q9r _ _ rfl Tryd.X9o (g:=g) (k:=0) o1 o2 rfl HF1.out hb (by decide:0 < 1) (fun v'=>hK _ _ ((Below.refl _ _).setCell (p:=⟨g,0,none⟩) hgs _))
 case g9=>
  intro v w1 hx _ (q1:v 1 = _) (q2:v 2 = _) (q3:v 3 = _) (q4:v 4 = _) (q5:v 5 = _) (q6:v 6 = _) _;intro wl hT;replace hT:(fun v w1 w'=>Below W.heap.size w1 w') v w1 wl:=hT;intro bb hbb;subst hbb;intro K hK;go_simp;exact hK _ _ ⟨rfl,hT⟩
 case post =>
  intro v w1 hx (q0:(fun v w'=>∃ b,v 0 = .map (some b) /\ Q1f w' b Q2h) v w1) (q1:v 1 = _) (q2:v 2 = _) (q3:v 3 = _) (q4:v 4 = _) (q5:v 5 = _) (q6:v 6 = _) (q7:(fun v w'=>∃ g,v 7 = .pointer (some ⟨g,0,none⟩) /\ W.heap.size <= g /\ Blk w' g 174 #[.nilFunc]) v w1);intro w2 hE;replace hE:(fun v w1 w'=>v 9 = .bool kb /\ Below W.heap.size w1 w') v w1 w2:=hE;simp only [Flow.acts,Act.put];go_simp;obtain ⟨h9,hbl⟩:=hE;have hx2:Ext W w2:=Below.trans (hd1.trans hx) hbl;replace c0:=hx2.cell c0;replace c1:=hx2.cell c1;replace c2:=hx2.cell c2;have hxr:=hxW.trans hx2;replace HL:=Lib.hid (HL.out.ext hx2);clear h9 hbl hx hx2 hxW hd1 HLK HF1
  by_cases hv:k = sVote
  . obtain ⟨E,hE⟩:∃ E,firstErr [Q0c (!kb) 13,Q0c ((l.length:Int) == 0) 12,Q0c (decide (12 < (l.length:Int))) 5,setErr l n,rangeErr need 1 l.length] = E:=⟨_,rfl⟩
    have HE:Hid (∀ (w':World) (u:Value),IsInts w' u [Q0c (!kb) 13,Q0c ((l.length:Int) == 0) 12,Q0c (decide (12 < (l.length:Int))) 5,setErr l n,rangeErr need 1 l.length] -> Calls Tryd.prog 71 #[u] w' fun e w''=>e = .returned (.int .i64 E) /\ w' = w''):=by
     exact (by intro w' u h; rw [<- hE]; exact first_any _ _ _ h:∀ (w':World) (u:Value),IsInts w' u [Q0c (!kb) 13,Q0c ((l.length:Int) == 0) 12,Q0c (decide (12 < (l.length:Int))) 5,setErr l n,rangeErr need 1 l.length] -> Calls Tryd.prog 71 #[u] w' fun e w''=>e = .returned (.int .i64 E) /\ w' = w'')
    have hfin:Q6c k need l n = E:=by
     unfold Q6c leastOf X3z;rw [if_pos hv,if_pos hv,HKB.out]; exact hE
    have HFIN:=Lib.hid hfin;rw [hv] at c0;unfold sVote at c0;clear hE hfin hv HKB;go_wp2
    go_quiet (fail)
    all_goals go_wp2
    generalize hW3:w2.drewN _ = W3;have hx3:Ext w2 W3:=by rw [<- hW3]; exact (Ext.refl _).drewN _
    replace c1:=hx3.cell c1;replace c2:=hx3.cell c2;replace hxr:=hxr.trans hx3;replace HL:=Lib.hid (HL.out.ext hx3);clear hW3 hx3;refine Flow.Q3y [.p,.p,.w,.p,.w,.p,.p,.w,.p,.w,.p,.p,.w,.p,.w,.p,.w,.p,.w,.p,.p,.w,.w,.w,.p] [0,1,2,3,4,5,6,7,8,9,10,11,12,13,14,15,16,17,18,19,20,21,22,23,24] [[],[0],[1],[],[3],[4],[5],[2,6],[],[8],[9],[10],[7,11],[],[13],[],[12,14,15],[],[17],[],[],[16,18,19,20],[2,7,12,16,21],[21,22],[0,1,2,3,4,5,6,7,8,9,10,11,12,13,14,15,16,17,18,19,20,21,22,23]]
     [.c 0 (.bool kb),.c 1 (.bool (!kb)),.c 2 (.int .i64 (Q0c (!kb) 13)),.c 3 (.pointer (some ⟨w.heap.size,2,none⟩)),.c 4 (.slice A l.length cap),.c 5 (.int .i64 ((l.length:Nat):Int)),.c 6 (.bool ((l.length:Int) == 0)),.c 7 (.int .i64 (Q0c ((l.length:Int) == 0) 12)),.c 8 (.pointer (some ⟨w.heap.size,2,none⟩)),.c 9 (.slice A l.length cap),.c 10 (.int .i64 ((l.length:Nat):Int)),.c 11 (.bool (decide (12 < (l.length:Int)))),.c 12 (.int .i64 (Q0c (decide (12 < (l.length:Int))) 5)),.c 13 (.pointer (some ⟨w.heap.size,2,none⟩)),.c 14 (.slice A l.length cap),.c 15 (.int .i64 n),.c 16 (.int .i64 (setErr l n)),.c 17 (.pointer (some ⟨w.heap.size,1,none⟩)),.c 18 (.int .i64 need),.c 19 (.int .i64 1),.c 20 (.int .i64 (l.length:Int)),.c 21 (.int .i64 (rangeErr need 1 (l.length:Int))),⟨fun v wz=>IsInts wz (v 22) [Q0c (!kb) 13,Q0c ((l.length:Int) == 0) 12,Q0c (decide (12 < (l.length:Int))) 5,setErr l n,rangeErr need 1 (l.length:Int)],fun _ _ _ hx h=>h.ext hx⟩,.c 23 (.int .i64 E),.c 24 (.int .i64 E)]
     (by kernel_rfl) rfl (by kernel_rfl) ⟨?g0,?g1,?g2,?g3,?g4,?g5,?g6,?g7,?g8,?g9,?g10,?g11,?g12,?g13,?g14,?g15,?g16,?g17,?g18,?g19,?g20,?g21,?g22,?g23,?g24,trivial⟩ ?post
    case g0 | g3 | g8 | g13 | g15 | g17 | g19 | g20=>
     intro v w1 hx;refine ⟨_,fun w=>?_,rfl⟩;go_simp
    case g1 | g5 | g6 | g10 | g11=>
     intro v w1 hx;(repeat intro (zq:v _ = _));refine ⟨_,fun w=>?_,rfl⟩;go_simp
    case g2 | g7 | g12=>
     intro v w1 hx;(repeat intro (zq:v _ = _));intro K hK;go_simp;refine Q0b (Q4g _ _ _) ?_;rintro e w2 ⟨rfl,rfl⟩;exact ⟨_,rfl,hK _ _ (Ext.refl _) rfl⟩
    case g4 | g9 | g14=>
     intro v w1 hx;(repeat intro (zq:v _ = _));have c2:=hx.cell c2;intro K hK;go_simp;exact hK _ _ (Ext.refl _) rfl
    case g16=>
     intro v w1 hx;(repeat intro (zq:v _ = _));intro K hK;go_simp;refine Q0b (Q2e _ _ l n (HL.out.ext ((Ext.refl W3).drew.trans hx))) ?_;rintro e w2 ⟨rfl,hx2⟩;exact ⟨_,rfl,hK _ _ hx2 rfl⟩
    case g18=>
     intro v w1 hx;(repeat intro (zq:v _ = _));have c1:=hx.cell c1;intro K hK;go_simp;exact hK _ _ (Ext.refl _) rfl
    case g21=>
     intro v w1 hx;(repeat intro (zq:v _ = _));intro K hK;go_simp;refine Q0b (Q5j _ _ _ _) ?_;rintro e w2 ⟨rfl,rfl⟩;exact ⟨_,rfl,hK _ _ (Ext.refl _) rfl⟩
    case g22=>
     intro v w1 hx;(repeat intro (zq:v _ = _));intro K hK;go_simp;exact hK _ _ (Ext.box _ _) (Q2k (l:=[Q0c (!kb) 13,Q0c ((l.length:Int) == 0) 12,Q0c (decide (12 < (l.length:Int))) 5,setErr l n,rangeErr need 1 (l.length:Int)]) (by simp))
    case g23=>
     intro v w1 hx (q21:v 21 = _) (q22:IsInts w1 (v 22) [Q0c (!kb) 13,Q0c ((l.length:Int) == 0) 12,Q0c (decide (12 < (l.length:Int))) 5,setErr l n,rangeErr need 1 (l.length:Int)]);intro K hK;go_simp;refine Q0b (HE.out _ _ q22) ?_;rintro e w2 ⟨rfl,rfl⟩;exact ⟨_,rfl,hK _ _ (Ext.refl _) rfl⟩
    case g24=>
     intro v w1 hx (q0:v 0 = _) (q1:v 1 = _) (q2:v 2 = _) (q3:v 3 = _) (q4:v 4 = _) (q5:v 5 = _) (q6:v 6 = _) (q7:v 7 = _) (q8:v 8 = _) (q9:v 9 = _) (q10:v 10 = _) (q11:v 11 = _) (q12:v 12 = _) (q13:v 13 = _) (q14:v 14 = _) (q15:v 15 = _) (q16:v 16 = _) (q17:v 17 = _) (q18:v 18 = _) (q19:v 19 = _) (q20:v 20 = _) (q21:v 21 = _) _ (q23:v 23 = _);refine ⟨_,fun w=>?_,rfl⟩;go_simp
    case post =>
     intro v w1 hx;(iterate 22 intro (zq:v _ = _));intro (q22:IsInts w1 (v 22) [Q0c (!kb) 13,Q0c ((l.length:Int) == 0) 12,Q0c (decide (12 < (l.length:Int))) 5,setErr l n,rangeErr need 1 (l.length:Int)]);(iterate 2 intro (zq:v _ = _));simp only [Flow.All,Flow.acts,Act.put];go_simp;go_wp2;go_ret;exact ⟨ret_int HFIN.out.symm,hxr.trans ((Ext.refl W3).drew.trans hx)⟩
  . have hb1:=Q7q X1l hv
    obtain ⟨E,hE⟩:∃ E,firstErr [Q0c (!kb) 13,Q0c ((l.length:Int) == 0) 12,Q0c (decide (12 < (l.length:Int))) 5,setErr l n,rangeErr need 0 0] = E:=⟨_,rfl⟩;have HE:Hid (∀ (w':World) (u:Value),IsInts w' u [Q0c (!kb) 13,Q0c ((l.length:Int) == 0) 12,Q0c (decide (12 < (l.length:Int))) 5,setErr l n,rangeErr need 0 0] -> Calls Tryd.prog 71 #[u] w' fun e w''=>e = .returned (.int .i64 E) /\ w' = w''):=by
     exact (by intro w' u h; rw [<- hE]; exact first_any _ _ _ h:∀ (w':World) (u:Value),IsInts w' u [Q0c (!kb) 13,Q0c ((l.length:Int) == 0) 12,Q0c (decide (12 < (l.length:Int))) 5,setErr l n,rangeErr need 0 0] -> Calls Tryd.prog 71 #[u] w' fun e w''=>e = .returned (.int .i64 E) /\ w' = w'')
    have hfin:Q6c k need l n = E:=by
     unfold Q6c leastOf X3z;rw [if_neg hv,if_neg hv,HKB.out]; exact hE
    have HFIN:=Lib.hid hfin;clear hE hfin hv HKB;go_wp2;refine Flow.Q3y [.p,.p,.w,.p,.w,.p,.p,.w,.p,.w,.p,.p,.w,.p,.w,.p,.w,.p,.w,.p,.p,.w,.w,.w,.p] [0,1,2,3,4,5,6,7,8,9,10,11,12,13,14,15,16,17,18,19,20,21,22,23,24] [[],[0],[1],[],[3],[4],[5],[2,6],[],[8],[9],[10],[7,11],[],[13],[],[12,14,15],[],[17],[],[],[16,18,19,20],[2,7,12,16,21],[21,22],[0,1,2,3,4,5,6,7,8,9,10,11,12,13,14,15,16,17,18,19,20,21,22,23]]
     [.c 0 (.bool kb),.c 1 (.bool (!kb)),.c 2 (.int .i64 (Q0c (!kb) 13)),.c 3 (.pointer (some ⟨w.heap.size,2,none⟩)),.c 4 (.slice A l.length cap),.c 5 (.int .i64 ((l.length:Nat):Int)),.c 6 (.bool ((l.length:Int) == 0)),.c 7 (.int .i64 (Q0c ((l.length:Int) == 0) 12)),.c 8 (.pointer (some ⟨w.heap.size,2,none⟩)),.c 9 (.slice A l.length cap),.c 10 (.int .i64 ((l.length:Nat):Int)),.c 11 (.bool (decide (12 < (l.length:Int)))),.c 12 (.int .i64 (Q0c (decide (12 < (l.length:Int))) 5)),.c 13 (.pointer (some ⟨w.heap.size,2,none⟩)),.c 14 (.slice A l.length cap),.c 15 (.int .i64 n),.c 16 (.int .i64 (setErr l n)),.c 17 (.pointer (some ⟨w.heap.size,1,none⟩)),.c 18 (.int .i64 need),.c 19 (.int .i64 0),.c 20 (.int .i64 0),.c 21 (.int .i64 (rangeErr need 0 0)),⟨fun v wz=>IsInts wz (v 22) [Q0c (!kb) 13,Q0c ((l.length:Int) == 0) 12,Q0c (decide (12 < (l.length:Int))) 5,setErr l n,rangeErr need 0 0],fun _ _ _ hx h=>h.ext hx⟩,.c 23 (.int .i64 E),.c 24 (.int .i64 E)]
     (by kernel_rfl) rfl (by kernel_rfl) ⟨?g0,?g1,?g2,?g3,?g4,?g5,?g6,?g7,?g8,?g9,?g10,?g11,?g12,?g13,?g14,?g15,?g16,?g17,?g18,?g19,?g20,?g21,?g22,?g23,?g24,trivial⟩ ?post
    case g0 | g3 | g8 | g13 | g15 | g17 | g19 | g20=>
     intro v w1 hx;refine ⟨_,fun w=>?_,rfl⟩;go_simp
    case g1 | g5 | g6 | g10 | g11=>
     intro v w1 hx;(repeat intro (zq:v _ = _));refine ⟨_,fun w=>?_,rfl⟩;go_simp
    case g2 | g7 | g12=>
     intro v w1 hx;(repeat intro (zq:v _ = _));intro K hK;go_simp;refine Q0b (Q4g _ _ _) ?_;rintro e w2 ⟨rfl,rfl⟩;exact ⟨_,rfl,hK _ _ (Ext.refl _) rfl⟩
    case g4 | g9 | g14=>
     intro v w1 hx;(repeat intro (zq:v _ = _));have c2:=hx.cell c2;intro K hK;go_simp;exact hK _ _ (Ext.refl _) rfl
    case g16=>
     intro v w1 hx;(repeat intro (zq:v _ = _));intro K hK;go_simp;refine Q0b (Q2e _ _ l n (HL.out.ext ((Ext.refl w2).drew.trans hx))) ?_;rintro e w2 ⟨rfl,hx2⟩;exact ⟨_,rfl,hK _ _ hx2 rfl⟩
    case g18=>
     intro v w1 hx;(repeat intro (zq:v _ = _));have c1:=hx.cell c1;intro K hK;go_simp;exact hK _ _ (Ext.refl _) rfl
    case g21=>
     intro v w1 hx;(repeat intro (zq:v _ = _));intro K hK;go_simp;refine Q0b (Q5j _ _ _ _) ?_;rintro e w2 ⟨rfl,rfl⟩;exact ⟨_,rfl,hK _ _ (Ext.refl _) rfl⟩
    case g22=>
     intro v w1 hx;(repeat intro (zq:v _ = _));intro K hK;go_simp;exact hK _ _ (Ext.box _ _) (Q2k (l:=[Q0c (!kb) 13,Q0c ((l.length:Int) == 0) 12,Q0c (decide (12 < (l.length:Int))) 5,setErr l n,rangeErr need 0 0]) (by simp))
    case g23=>
     intro v w1 hx (q21:v 21 = _) (q22:IsInts w1 (v 22) [Q0c (!kb) 13,Q0c ((l.length:Int) == 0) 12,Q0c (decide (12 < (l.length:Int))) 5,setErr l n,rangeErr need 0 0]);intro K hK;go_simp;refine Q0b (HE.out _ _ q22) ?_;rintro e w2 ⟨rfl,rfl⟩;exact ⟨_,rfl,hK _ _ (Ext.refl _) rfl⟩
    case g24=>
     intro v w1 hx (q0:v 0 = _) (q1:v 1 = _) (q2:v 2 = _) (q3:v 3 = _) (q4:v 4 = _) (q5:v 5 = _) (q6:v 6 = _) (q7:v 7 = _) (q8:v 8 = _) (q9:v 9 = _) (q10:v 10 = _) (q11:v 11 = _) (q12:v 12 = _) (q13:v 13 = _) (q14:v 14 = _) (q15:v 15 = _) (q16:v 16 = _) (q17:v 17 = _) (q18:v 18 = _) (q19:v 19 = _) (q20:v 20 = _) (q21:v 21 = _) _ (q23:v 23 = _);refine ⟨_,fun w=>?_,rfl⟩;go_simp
    case post =>
     intro v w1 hx;(iterate 22 intro (zq:v _ = _));intro (q22:IsInts w1 (v 22) [Q0c (!kb) 13,Q0c ((l.length:Int) == 0) 12,Q0c (decide (12 < (l.length:Int))) 5,setErr l n,rangeErr need 0 0]);(iterate 2 intro (zq:v _ = _));simp only [Flow.All,Flow.acts,Act.put];go_simp;go_wp2;go_ret;exact ⟨ret_int HFIN.out.symm,hxr.trans ((Ext.refl w2).drew.trans hx)⟩
end Go.Proofs
namespace Go.Proofs
open Go.RowKit Go.Tw Go.Flow
theorem X4f (s x:ByteArray) (v:Value):∀ l:List (ByteArray × Value),Q2c x (X6e s v l) = if x = s then some v else Q2c x l
 | []=>by
   unfold X6e Q2c
   by_cases h:x = s
   . rw [if_pos (str_eq h),if_pos h]
   . rw [str_ne h,if_neg (by simp),if_neg h]; rfl
 | p :: l=>by
   unfold X6e
   by_cases hs:(s == p.1) = true
   . have hsp:=X3l hs
     rw [if_pos hs];unfold Q2c
     by_cases h:x = s
     . rw [if_pos (str_eq h),if_pos h]
     . rw [str_ne h,if_neg (by simp),if_neg h,if_neg (by rw [str_ne (by rw [<- hsp]; exact h)]; simp)]
   . rw [if_neg hs]
     unfold Q2c;rw [X4f s x v l]
     by_cases h:x = s
     . simp only [if_pos h]; rw [if_neg (by rw [h]; exact hs)]
     . simp only [if_neg h]
def Knows (l:List (ByteArray × Value)) (ev:ByteArray -> Bool):Prop:=∀ s,(Q2c s l).getD (.bool false) = .bool (ev s)
theorem Knows.nil:Knows [] (fun _=>false):=fun _=>rfl
theorem Knows.put {l:List (ByteArray × Value)} {ev:ByteArray -> Bool} (h:Knows l ev) (s:ByteArray):Knows (X6e s (.bool true) l) (fun x=>ev x || decide (x = s)):=fun x=>by
 rw [X4f]
 by_cases hx:x = s
 . rw [if_pos hx]; simp [hx]
 . rw [if_neg hx,h x]; simp [hx]
def checkN (s:ByteArray) (c:Int) (kn:Bool):Int:=firstErr [Q0c (!nameB s) 8,rangeErr c 0 16,Q0c kn 9]
theorem Y0k:Tryd.prog.underlying 140 = some (.map 9 4):=by kernel_rfl
theorem Y2r (w:World):(zeroValue 4).run Tryd.prog w = .ok (.bool false) w:=by kernel_rfl
theorem Q8o (w:World) (s:ByteArray) (c:Int) (B b:Nat) (l:List (ByteArray × Value)) (ev:ByteArray -> Bool) (hs:Short s) (hB:w.cell? ⟨B,0,none⟩ = some (.map (some b))) (hm:Q1f w b l) (hk:Knows l ev) :
    Calls Tryd.prog 99 #[.string s,.int .i64 c,.pointer (some ⟨B,0,none⟩)] w fun e w'=>e = .returned (.int .i64 (checkN s c (ev s))) /\ Q1f w' b (X6e s (.bool true) l) /\ w'.cell? ⟨B,0,none⟩ = some (.map (some b)) /\ (∀ n,n <= b -> Below n w w') /\ w.grownBy w' (some b):=by
 have HM:=Lib.hid hm;have HS:=Lib.hid hs;obtain ⟨kn,hkn⟩:∃ kn,ev s = kn:=⟨_,rfl⟩;have HLK:Hid (∀ w',Ext w w' -> (Instr.lookup 140 (.map (some b)) (.string s) false).run Tryd.prog w' = .ok (.bool kn) w'):=by
  exact (by intro w' h; have h:=Q2p (P:=Tryd.prog) (hm.ext h) Y0k Y0t (Y2r _) s false; rw [if_neg (by simp),hk s,hkn] at h; exact h:∀ w',Ext w w' -> (Instr.lookup 140 (.map (some b)) (.string s) false).run Tryd.prog w' = .ok (.bool kn) w')
 rw [hkn];obtain ⟨nb,hnb⟩:∃ nb,nameB s = nb:=⟨_,rfl⟩;have HNB:Hid (∀ w',Calls Tryd.prog 100 #[.string s] w' fun e w''=>e = .returned (.bool nb) /\ Ext w' w''):=by
  exact (by intro w'; rw [<- hnb]; exact X4u w' s hs:∀ w',Calls Tryd.prog 100 #[.string s] w' fun e w''=>e = .returned (.bool nb) /\ Ext w' w'')
 obtain ⟨E,hE⟩:∃ E,firstErr [Q0c (!nb) 8,rangeErr c 0 16,Q0c kn 9] = E:=⟨_,rfl⟩;have HE:Hid (∀ (w':World) (u:Value),IsInts w' u [Q0c (!nb) 8,rangeErr c 0 16,Q0c kn 9] -> Calls Tryd.prog 71 #[u] w' fun e w''=>e = .returned (.int .i64 E) /\ w' = w''):=by
  exact (by intro w' u h; rw [<- hE]; exact first_any _ _ _ h:∀ (w':World) (u:Value),IsInts w' u [Q0c (!nb) 8,rangeErr c 0 16,Q0c kn 9] -> Calls Tryd.prog 71 #[u] w' fun e w''=>e = .returned (.int .i64 E) /\ w' = w'')
 have hfin:checkN s c kn = E:=by unfold checkN; rw [hnb]; exact hE
 rw [hfin];clear hm hk hkn hs hnb hE hfin;go_enter Tryd.func99,Tryd.ntmps99;go_wp2;refine Flow.Q3y [.p,.w,.p,.w,.p,.w,.w,.p,.w,.w,.w,.w,.p] [0,1,2,3,4,5,6,7,8,9,10,11,12] [[],[0],[1],[1,2],[],[3,4],[],[],[6,7],[5,8],[3,5,9],[9,10],[0,1,2,3,4,5,6,7,8,9,10,11]]
  [.c 0 (.string s),.c 1 (.bool nb),.c 2 (.bool (!nb)),.c 3 (.int .i64 (Q0c (!nb) 8)),.c 4 (.int .i64 c),.c 5 (.int .i64 (rangeErr c 0 16)),.c 6 (.map (some b)),.c 7 (.string s),.c 8 (.bool kn),.c 9 (.int .i64 (Q0c kn 9)),⟨fun v wz=>IsInts wz (v 10) [Q0c (!nb) 8,rangeErr c 0 16,Q0c kn 9],fun _ _ _ hx h=>h.ext hx⟩,.c 11 (.int .i64 E),.c 12 (.int .i64 E)]
  (by kernel_rfl) rfl (by kernel_rfl) ⟨?g0,?g1,?g2,?g3,?g4,?g5,?g6,?g7,?g8,?g9,?g10,?g11,?g12,trivial⟩ ?post
 case g0 | g4 | g7=>
  intro v w1 hx;refine ⟨_,fun w=>?_,rfl⟩;go_simp
 case g1=>
  intro v w1 hx;(repeat intro (zq:v _ = _));intro K hK;go_simp;refine Q0b (HNB.out _) ?_;rintro e w2 ⟨rfl,hx2⟩;exact ⟨_,rfl,hK _ _ hx2 rfl⟩
 case g2=>
  intro v w1 hx;(repeat intro (zq:v _ = _));refine ⟨_,fun w=>?_,rfl⟩;go_simp
 case g3 | g9=>
  intro v w1 hx;(repeat intro (zq:v _ = _));intro K hK;go_simp;refine Q0b (Q4g _ _ _) ?_;rintro e w2 ⟨rfl,rfl⟩;exact ⟨_,rfl,hK _ _ (Ext.refl _) rfl⟩
 case g5=>
  intro v w1 hx;(repeat intro (zq:v _ = _));intro K hK;go_simp;refine Q0b (Q5j _ _ _ _) ?_;rintro e w2 ⟨rfl,rfl⟩;exact ⟨_,rfl,hK _ _ (Ext.refl _) rfl⟩
 case g6=>
  intro v w1 hx;have hB:=hx.cell hB;intro K hK;go_simp;exact hK _ _ (Ext.refl _) rfl
 case g8=>
  intro v w1 hx;(repeat intro (zq:v _ = _));have hlk:=HLK.out _ ((Ext.refl w).drew.trans hx);intro K hK;go_simp;exact hK _ _ (Ext.refl _) rfl
 case g10=>
  intro v w1 hx;(repeat intro (zq:v _ = _));intro K hK;go_simp;exact hK _ _ (Ext.box _ _) (Q2k (l:=[Q0c (!nb) 8,rangeErr c 0 16,Q0c kn 9]) (by simp))
 case g11=>
  intro v w1 hx (q9:v 9 = _) (q10:IsInts w1 (v 10) [Q0c (!nb) 8,rangeErr c 0 16,Q0c kn 9]);intro K hK;go_simp;refine Q0b (HE.out _ _ q10) ?_;rintro e w2 ⟨rfl,rfl⟩;exact ⟨_,rfl,hK _ _ (Ext.refl _) rfl⟩
 case g12=>
  intro v w1 hx (q0:v 0 = _) (q1:v 1 = _) (q2:v 2 = _) (q3:v 3 = _) (q4:v 4 = _) (q5:v 5 = _) (q6:v 6 = _) (q7:v 7 = _) (q8:v 8 = _) (q9:v 9 = _) _ (q11:v 11 = _);refine ⟨_,fun w=>?_,rfl⟩;go_simp
 case post =>
  intro v w1 hx;(iterate 10 intro (zq:v _ = _));intro (q10:IsInts w1 (v 10) [Q0c (!nb) 8,rangeErr c 0 16,Q0c kn 9]);(iterate 2 intro (zq:v _ = _));simp only [Flow.All,Flow.acts,Act.put];go_simp;have hxx:=(Ext.refl w).drew.trans hx;obtain ⟨w2,hput,hm2,hb2,hg2⟩:=Q3a (P:=Tryd.prog) (HM.out.ext hxx) Y0k Y0t s (.bool true);have hB1:=hxx.cell hB;have hbl:b < w.heap.size:=HM.out.lt;have hne:b ≠ B:=fun e=>by
   obtain ⟨a0,c0,h0,_⟩:=HM.out;rw [e] at h0;simp [World.cell?,h0] at hB
  have hB2:w2.cell? ⟨B,0,none⟩ = some (.map (some b)):=(Q4e hg2 (World.block_lt_of_cell? _ _ hB1) (by intro h; injection h with h; exact hne h.symm)).trans hB1
  have HX:=Lib.hid hxx;have hgx:w.grownBy w1 (some b):=⟨hxx.os,hxx.tape,hxx.output,hxx.size,fun k hk _=>hxx.block k hk⟩;have HG2:Hid (w.grownBy w2 (some b)):=by exact hgx.trans hg2
  have HM2:=Lib.hid hm2;have HB2:=Lib.hid hb2;clear hm2 hb2 hB hne hxx hg2 hgx;go_wp2;go_ret;exact ⟨rfl,HM2.out,hB2,fun n hn=>Below.trans (Below.mono HX.out (by omega)) (HB2.out n hn),HG2.out⟩
end Go.Proofs
namespace Go.Proofs
open Go.RowKit Go.Tw Go.Flow
def Q2b (b:Bool) (x:Value):Value:=if b then undef else x
theorem X1z (a b c:Int):firstErr [a,b,c,0] = firstErr [a,b,c]:=by
 simp only [firstErr]; split <;> (try split) <;> (try split) <;> simp
def known (t:Tree) (i:Nat) (s:ByteArray):Bool:=(List.range i).any fun k=>t.nameAt k == s
theorem Q8w (t:Tree) (i:Nat):known t (i + 1) = fun x=>known t i x || decide (x = t.nameAt i):=by
 funext x
 unfold known;rw [List.range_succ,List.any_append]
 congr 1
 simp only [List.any_cons,List.any_nil,Bool.or_false]
 by_cases h:x = t.nameAt i
 . rw [str_eq h.symm,decide_eq_true h]
 . rw [str_ne (fun e=>h e.symm),decide_eq_false h]
theorem X7l (t:Tree) {i:Nat} (h:i < t.basics.length):checkN (bName t.basics i) (bChance t.basics i) (known t i (bName t.basics i)) = t.eventErr i:=by
 have hn:t.nameAt i = bName t.basics i:=by unfold Tree.nameAt; rw [if_pos h]
 have hc:t.chanceAt i = bChance t.basics i:=by unfold Tree.chanceAt; rw [if_pos h]
 unfold Tree.eventErr checkN Q0c nameErr Tree.twiceB known;rw [hn,hc,if_pos h,X1z];cases nameB (bName t.basics i) <;> rfl
def Y0m (e:Int) (m:List Int) (nb:Nat):Int:=firstErr [e,Q0c ((m.length:Int) == 0) 12,setErr m nb]
theorem Q4v:∀ l r:List Int,firstErr (l ++ r) = if firstErr l = 0 then firstErr r else firstErr l
 | [],r=>by simp [firstErr]
 | x :: l,r=>by
   rw [List.cons_append,firstErr,firstErr]
   by_cases h:x = 0
   . rw [if_pos h,if_pos h]; exact Q4v l r
   . rw [if_neg h,if_neg h,if_neg h]
theorem X4v (a b c d:Int):firstErr [firstErr [a,b,c],d] = firstErr [a,b,c,d]:=by
 rw [show [a,b,c,d] = [a,b,c] ++ [d] from rfl,Q4v]
 generalize firstErr [a,b,c] = x;simp only [firstErr]
theorem X5y (x:Int) (m:List Int) (n:Int):firstErr [x,Q0c ((m.length:Int) == 0) 12,setErr m n] = firstErr [x,listErr m n]:=by
 unfold listErr Q0c;cases m with
 | nil=>simp [firstErr]
 | cons y l =>
   have h0:(((y :: l).length:Int) == 0) = false:=by rw [beq_eq_false_iff_ne]; simp; omega
   rw [h0];simp [firstErr]
theorem X6o (t:Tree) (j:Nat):Y0m (checkN (cName t.causes j) (cChance t.causes j) (known t (t.basics.length + j) (cName t.causes j))) (cMembers t.causes j) t.basics.length = t.eventErr (t.basics.length + j):=by
 have hn:t.nameAt (t.basics.length + j) = cName t.causes j:=by unfold Tree.nameAt; rw [if_neg (by omega),Nat.add_sub_cancel_left]
 have hc:t.chanceAt (t.basics.length + j) = cChance t.causes j:=by unfold Tree.chanceAt; rw [if_neg (by omega),Nat.add_sub_cancel_left]
 have hl:(if t.basics.length + j < t.basics.length then 0 else listErr (cMembers t.causes (t.basics.length + j - t.basics.length)) t.basics.length) = listErr (cMembers t.causes j) t.basics.length:=by rw [if_neg (by omega),Nat.add_sub_cancel_left]
 have hw:nameErr (cName t.causes j) = Q0c (!nameB (cName t.causes j)) 8:=by unfold nameErr Q0c; cases nameB (cName t.causes j) <;> rfl
 unfold Tree.eventErr Y0m checkN Tree.twiceB;rw [hl,hn,hc,hw,X5y,X4v];rfl
theorem Q9p {n:Nat} {e:Nat -> Int} {r:List Int} {k:Nat} (hk:k < n) (hz:∀ j,j < k -> e j = 0) (hne:e k ≠ 0):firstErr ((List.range n).map e ++ r) = e k:=by
 obtain ⟨m,rfl⟩:∃ m,n = k + (m + 1):=⟨n - k - 1,by omega⟩
 have h0:firstErr ((List.range k).map e) = 0:=by
  rw [Q0n];intro x hx;obtain ⟨j,hj,rfl⟩:=List.mem_map.1 hx;exact hz j (List.mem_range.1 hj)
 rw [List.range_add,List.map_append,List.append_assoc,Q4v,if_pos h0,List.range_succ_eq_map];simp [firstErr,hne]
theorem Q8v {n:Nat} {e:Nat -> Int} {r:List Int} (hz:∀ j,j < n -> e j = 0):firstErr ((List.range n).map e ++ r) = firstErr r:=by
 have h0:firstErr ((List.range n).map e) = 0:=by
  rw [Q0n];intro x hx;obtain ⟨j,hj,rfl⟩:=List.mem_map.1 hx;exact hz j (List.mem_range.1 hj)
 rw [Q4v,if_pos h0]
theorem zero_or (a b:Nat):((a:Int) == 0 || (b:Int) == 0) = decide (a = 0 ∨ b = 0):=by
 rw [Bool.eq_iff_iff]; simp
theorem Y0p (a b g:Nat):(decide (12 < (a:Int) + b) || decide (32 < (g:Int))) = decide (12 < a + b ∨ 32 < g):=by
 rw [Bool.eq_iff_iff]; simp; omega
def X2x (t:Tree):Int:=firstErr [Q0c ((t.basics.length:Int) == 0 || (t.gates.length:Int) == 0) 12,Q0c (decide (12 < (t.basics.length:Int) + t.causes.length) || decide (32 < (t.gates.length:Int))) 5]
theorem Y0d {t:Tree} (h:X2x t ≠ 0):t.err = X2x t:=by
 unfold X2x Q0c at *;rw [zero_or,Y0p] at *;unfold Tree.err Tree.size
 by_cases h1:t.basics.length = 0 ∨ t.gates.length = 0
 . rw [if_pos h1,decide_eq_true h1]; rfl
 . rw [decide_eq_false h1] at h ⊢
   rw [if_neg h1]
   by_cases h2:12 < t.basics.length + t.causes.length ∨ 32 < t.gates.length
   . rw [if_pos h2,decide_eq_true h2]; rfl
   . rw [decide_eq_false h2] at h
     simp [firstErr] at h
theorem X9l {t:Tree} (h:X2x t = 0):t.err = firstErr ((List.range t.size).map t.eventErr ++ (List.range t.gates.length).map t.gateErrAt) /\ t.size <= 12 /\ t.gates.length <= 32:=by
 unfold X2x Q0c at h;rw [zero_or,Y0p] at h;unfold Tree.err
 by_cases h1:t.basics.length = 0 ∨ t.gates.length = 0
 . rw [decide_eq_true h1] at h; simp [firstErr] at h
 . rw [decide_eq_false h1] at h
   by_cases h2:12 < t.size ∨ 32 < t.gates.length
   . unfold Tree.size at h2
     rw [decide_eq_true h2] at h; simp [firstErr] at h
   . rw [if_neg h1,if_neg h2]; exact ⟨rfl,by omega,by omega⟩
end Go.Proofs
