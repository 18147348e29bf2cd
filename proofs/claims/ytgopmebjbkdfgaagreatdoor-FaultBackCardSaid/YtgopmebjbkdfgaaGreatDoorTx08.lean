/- Contract: the error of a gate. Contract: the closure of CheckTree, which keeps the names in a map. Contract: CheckTree. -/
import Derived.Test.YtgopmebjbkdfgaaGreatDoorTx07
set_option maxRecDepth 1000000
set_option maxHeartbeats 64000000
set_option linter.unusedVariables false
set_option linter.unusedSimpArgs false
set_option linter.constructorNameAsVariable false
namespace Go.Proofs
open Go.RowKit Go.Tw Go.Flow
theorem Y6s (k:ByteArray):(Q6k k Q6n).isSome = Q8j k:=by
 unfold Q6n Q6k Q8j
 by_cases h1:k = X0g
 . rw [if_pos (str_eq h1),str_eq h1]; rfl
 . rw [Q5e h1,if_neg (by simp)]
   unfold Q6k
   by_cases h2:k = sOr
   . rw [if_pos (str_eq h2),str_eq h2]; rfl
   . rw [Q5e h2,if_neg (by simp)]
     unfold Q6k
     by_cases h3:k = Q6b
     . rw [if_pos (str_eq h3),str_eq h3]; rfl
     . rw [Q5e h3,if_neg (by simp)]; rfl
theorem Q3h {w:World} {T:TypeId} {l:List Int} (hl:l.length <= 1000):Q0e (w.alloc (.cells (l.map (Value.int .i64)).toArray T)) (.slice (some ⟨w.heap.size,0,none⟩) l.length l.length) l:=by
 refine ⟨fun j=>.int .i64 (l.getD j 0),⟨some ⟨w.heap.size,0,none⟩,l.length,rfl,by omega,Nat.le_refl _,fun j hj=>⟨w.heap.size,0,rfl,?_⟩⟩,fun j hj=>?_⟩
 . have hj':j < l.length:=by omega
   rw [Q0w]; simp [hj']
 . simp [hj]
def leastOf (k:ByteArray):Int:=if k = Q6b then 1 else 0
def Y5t (k:ByteArray) (n:Nat):Int:=if k = Q6b then n else 0
def X3c (k:ByteArray) (need:Int) (l:List Int) (n:Int):Int:=Q0g [Q0l (!Q8j k) 13,Q0l ((l.length:Int) == 0) 12,Q0l (decide (12 < (l.length:Int))) 5,Q1p l n,Q0k need (leastOf k) (Y5t k l.length)]
theorem Z3m (k:ByteArray) (need:Int) (l:List Int) (n:Int):X3c k need l n = Q8n k need l n:=by
 unfold X3c Q8n X0x leastOf Y5t Q0l Q2r;cases hk:Q8j k with
 | false=>simp [Q0g]
 | true =>
   cases l with
   | nil=>simp [Q0g]
   | cons x l =>
     by_cases h12:12 < (x :: l).length
     . have h1:decide (12 < ((x :: l).length:Int)) = true:=by rw [decide_eq_true_eq]; omega
       rw [h1,if_pos h12];simp [Q0g];have:¬ (l.length:Int) + 1 = 0:=by omega
       simp [this]
     . have h1:decide (12 < ((x :: l).length:Int)) = false:=by rw [decide_eq_false_iff_not]; omega
       rw [h1,if_neg h12];have h0:(((x :: l).length:Int) == 0) = false:=by rw [beq_eq_false_iff_ne]; simp; omega
       rw [h0]
       by_cases hv:k = Q6b <;> simp [Q0g,hv]
theorem Z3d (k:ByteArray):∃ fx,(Q6k k Q6n).getD (.agg #[.nilFunc]) = .agg #[fx] /\ fx.oneCell' = true:=by
 unfold Q6n Q6k
 split
 . exact ⟨_,rfl,rfl⟩
 . unfold Q6k
   split
   . exact ⟨_,rfl,rfl⟩
   . unfold Q6k
     split
     . exact ⟨_,rfl,rfl⟩
     . exact ⟨_,rfl,rfl⟩
theorem Tryz.Z2f (w:World):(sizeOf 177).run Tryz.prog w = .ok 1 w:=by kernel_rfl
theorem X6d:Q6b.toList = [118,111,116,101]:=by simp [Q6b,go_sem]
theorem Y7u (w:World) (k:ByteArray) (iv:Value) (need:Int) (l:List Int) (n:Int) (hl:Q0e w iv l) :
    Calls Tryz.prog 106 #[.agg #[.string k,.int .i64 need,iv],.int .i64 n] w fun e w'=>e = .returned (.int .i64 (X3c k need l n)) /\ Ext w w':=by
 obtain ⟨A,cap,rfl,hl1,hcap,hc⟩:=hl.opened;have hxW:=Ext.box w (.cells #[.string k,.int .i64 need,.slice A l.length cap] 114);have HL:=Lib.hid (hl.ext hxW);have c0:(w.alloc (.cells #[.string k,.int .i64 need,.slice A l.length cap] 114)).cell? ⟨w.heap.size,0,none⟩ = some (.string k):=Q0w _ _ _ 0;have c1:(w.alloc (.cells #[.string k,.int .i64 need,.slice A l.length cap] 114)).cell? ⟨w.heap.size,1,none⟩ = some (.int .i64 need):=Q0w _ _ _ 1;have c2:(w.alloc (.cells #[.string k,.int .i64 need,.slice A l.length cap] 114)).cell? ⟨w.heap.size,2,none⟩ = some (.slice A l.length cap):=Q0w _ _ _ 2;obtain ⟨fx,hfx,hf1⟩:=Z3d k;obtain ⟨kb,hkb⟩:∃ kb,Q8j k = kb:=⟨_,rfl⟩;have HLK:Hid (∀ (w':World) (b:Nat),Q4a w' b Q6n -> (Instr.lookup 170 (.map (some b)) (.string k) true).run Tryz.prog w' = .ok (.tuple #[.agg #[fx],.bool kb]) w'):=by
  exact (by intro w' b hm; have h:=Q7r (P:=Tryz.prog) hm Y2e Z5w (Z8b _) k true; rw [if_pos rfl,Y6s,hkb,hfx] at h; exact h:∀ (w':World) (b:Nat),Q4a w' b Q6n -> (Instr.lookup 170 (.map (some b)) (.string k) true).run Tryz.prog w' = .ok (.tuple #[.agg #[fx],.bool kb]) w')
 have HF1:=Lib.hid hf1;have HKB:=Lib.hid hkb;clear hl hc hfx hf1 hkb;go_enter Tryz.func106,Tryz.ntmps106;go_wp2;obtain ⟨W,hW⟩:∃ W,w.alloc (.cells #[.string k,.int .i64 need,.slice A l.length cap] 114) = W:=⟨_,rfl⟩;have hws:w.heap.size + 1 = W.heap.size:=by rw [<- hW]; simp
 rw [hW] at c0 c1 c2 hxW HL ⊢;clear hW;have hd1:=(Ext.refl W).drew;refine Flow.region [.w,.p,.w,.w,.p,.p,.p,.w,.last,.last] [0,1,2,3,4,5,6,7,8,9] [[],[],[1],[0,1,2],[0,1,2,3],[0,1,2,3,4],[0,1,2,3,4],[],[0,1,2,3,4,5,7],[0,1,2,3,4,5,6,7,8]] [8,9]
  [⟨fun v wz=>(fun v w'=>∃ b,v 0 = .map (some b) /\ Q4a w' b Q6n) v wz,by rintro v a b hx ⟨g,h1,h2⟩; exact ⟨g,h1,h2.ext hx⟩⟩,.c 1 (.pointer (some ⟨w.heap.size,0,none⟩)),.c 2 (.string k),.c 3 (.tuple #[.agg #[fx],.bool kb]),.c 4 (.tuple #[.agg #[fx],.bool kb]),.c 5 (.agg #[fx]),.c 6 (.bool kb),⟨fun v wz=>(fun v w'=>∃ g,v 7 = .pointer (some ⟨g,0,none⟩) /\ W.heap.size <= g /\ Blk w' g 177 #[.nilFunc]) v wz,by rintro v a b hx ⟨g,h1,h2,h3⟩; exact ⟨g,h1,h2,h3.ext hx⟩⟩,.none,.none]
  [fun v w1 w'=>Below W.heap.size w1 w',fun v w1 w'=>v 9 = .bool kb /\ Below W.heap.size w1 w'] (by kernel_rfl) rfl (by kernel_rfl) ⟨?g0,?g1,?g2,?g3,?g4,?g5,?g6,?g7,?g8,?g9,trivial⟩ ?post
 case g0=>
  intro v w1 hx;intro K hK;go_simp;refine Q0d (Y0q _) ?_;rintro e w2 ⟨b,rfl,hm,hx2⟩;exact ⟨_,rfl,hK _ _ hx2 ⟨b,rfl,hm⟩⟩
 case g1=>
  intro v w1 hx;refine ⟨_,fun w=>?_,rfl⟩;go_simp
 case g2=>
  intro v w1 hx;(repeat intro (zq:v _ = _));have c0:=hx.cell c0;intro K hK;go_simp;exact hK _ _ (Ext.refl _) rfl
 case g3=>
  intro v w1 hx (q0:(fun v w'=>∃ b,v 0 = .map (some b) /\ Q4a w' b Q6n) v w1) (q1:v 1 = _) (q2:v 2 = _);obtain ⟨b,hb0,hm0⟩:=q0;have hlk:=HLK.out _ b hm0;intro K hK;go_simp;exact hK _ _ (Ext.refl _) rfl
 case g4=>
  intro v w1 hx _ (q1:v 1 = _) (q2:v 2 = _) (q3:v 3 = _);refine ⟨_,fun w=>?_,rfl⟩;go_simp
 case g5 | g6=>
  intro v w1 hx _ (q1:v 1 = _) (q2:v 2 = _) (q3:v 3 = _) (q4:v 4 = _);refine ⟨_,fun w=>?_,rfl⟩;go_simp
 case g7=>
  intro v w1 hx;intro K hK;go_simp;exact hK _ _ (Ext.box _ _) ⟨_,rfl,hx.size,Blk.made _ _ _⟩
 case g8=>
  intro v w1 hx _ (q1:v 1 = _) (q2:v 2 = _) (q3:v 3 = _) (q4:v 4 = _) (q5:v 5 = _) (q7:(fun v w'=>∃ g,v 7 = .pointer (some ⟨g,0,none⟩) /\ W.heap.size <= g /\ Blk w' g 177 #[.nilFunc]) v w1);intro wl hT;obtain rfl:wl = w1:=hT;intro bb hbb;intro K hK;obtain ⟨g,hg,hgs,hb⟩:=q7;have o1:bb.eval (.tmp 5) = .pointer (some ⟨g,0,none⟩):=by rw [hbb]; dsimp only; (try simp (discharger:=decide) only [eval_put_ne]); rw [Q0a (by simp only [size_put]; exact (by decide:5 < 46))]; exact hg
  have o2:bb.eval (.tmp 14) = .agg #[fx]:=by rw [hbb]; dsimp only; (try simp (discharger:=decide) only [eval_put_ne]); rw [Q0a (by simp only [size_put]; exact (by decide:14 < 46))]; exact q5
  clear hbb;exact X9r _ _ rfl Tryz.Z2f (g:=g) (k:=0) o1 o2 rfl HF1.out hb (by decide:0 < 1) (fun v'=>hK _ _ ((Below.refl _ _).setCell (p:=⟨g,0,none⟩) hgs _))
 case g9=>
  intro v w1 hx _ (q1:v 1 = _) (q2:v 2 = _) (q3:v 3 = _) (q4:v 4 = _) (q5:v 5 = _) (q6:v 6 = _) _;intro wl hT;replace hT:(fun v w1 w'=>Below W.heap.size w1 w') v w1 wl:=hT;intro bb hbb;subst hbb;intro K hK;go_simp;exact hK _ _ ⟨rfl,hT⟩
 case post =>
  intro v w1 hx (q0:(fun v w'=>∃ b,v 0 = .map (some b) /\ Q4a w' b Q6n) v w1) (q1:v 1 = _) (q2:v 2 = _) (q3:v 3 = _) (q4:v 4 = _) (q5:v 5 = _) (q6:v 6 = _) (q7:(fun v w'=>∃ g,v 7 = .pointer (some ⟨g,0,none⟩) /\ W.heap.size <= g /\ Blk w' g 177 #[.nilFunc]) v w1);intro w2 hE;replace hE:(fun v w1 w'=>v 9 = .bool kb /\ Below W.heap.size w1 w') v w1 w2:=hE;simp only [Flow.acts,Act.put];go_simp;obtain ⟨h9,hbl⟩:=hE;have hx2:Ext W w2:=Below.trans (hd1.trans hx) hbl;replace c0:=hx2.cell c0;replace c1:=hx2.cell c1;replace c2:=hx2.cell c2;have hxr:=hxW.trans hx2;replace HL:=Lib.hid (HL.out.ext hx2);clear h9 hbl hx hx2 hxW hd1 HLK HF1
  by_cases hv:k = Q6b
  . obtain ⟨E,hE⟩:∃ E,Q0g [Q0l (!kb) 13,Q0l ((l.length:Int) == 0) 12,Q0l (decide (12 < (l.length:Int))) 5,Q1p l n,Q0k need 1 l.length] = E:=⟨_,rfl⟩
    have HE:Hid (∀ (w':World) (u:Value),Q0e w' u [Q0l (!kb) 13,Q0l ((l.length:Int) == 0) 12,Q0l (decide (12 < (l.length:Int))) 5,Q1p l n,Q0k need 1 l.length] -> Calls Tryz.prog 48 #[u] w' fun e w''=>e = .returned (.int .i64 E) /\ w' = w''):=by
     exact (by intro w' u h; rw [<- hE]; exact first_any _ _ _ h:∀ (w':World) (u:Value),Q0e w' u [Q0l (!kb) 13,Q0l ((l.length:Int) == 0) 12,Q0l (decide (12 < (l.length:Int))) 5,Q1p l n,Q0k need 1 l.length] -> Calls Tryz.prog 48 #[u] w' fun e w''=>e = .returned (.int .i64 E) /\ w' = w'')
    have hfin:X3c k need l n = E:=by
     unfold X3c leastOf Y5t;rw [if_pos hv,if_pos hv,HKB.out]; exact hE
    have HFIN:=Lib.hid hfin;rw [hv] at c0;unfold Q6b at c0;clear hE hfin hv HKB;go_wp2
    go_quiet (fail)
    all_goals go_wp2
    generalize hW3:w2.drewN _ = W3;have hx3:Ext w2 W3:=by rw [<- hW3]; exact (Ext.refl _).drewN _
    replace c1:=hx3.cell c1;replace c2:=hx3.cell c2;replace hxr:=hxr.trans hx3;replace HL:=Lib.hid (HL.out.ext hx3);clear hW3 hx3;refine Flow.Q7s [.p,.p,.w,.p,.w,.p,.p,.w,.p,.w,.p,.p,.w,.p,.w,.p,.w,.p,.w,.p,.p,.w,.w,.w,.p] [0,1,2,3,4,5,6,7,8,9,10,11,12,13,14,15,16,17,18,19,20,21,22,23,24] [[],[0],[1],[],[3],[4],[5],[2,6],[],[8],[9],[10],[7,11],[],[13],[],[12,14,15],[],[17],[],[],[16,18,19,20],[2,7,12,16,21],[21,22],[0,1,2,3,4,5,6,7,8,9,10,11,12,13,14,15,16,17,18,19,20,21,22,23]]
     [.c 0 (.bool kb),.c 1 (.bool (!kb)),.c 2 (.int .i64 (Q0l (!kb) 13)),.c 3 (.pointer (some ⟨w.heap.size,2,none⟩)),.c 4 (.slice A l.length cap),.c 5 (.int .i64 ((l.length:Nat):Int)),.c 6 (.bool ((l.length:Int) == 0)),.c 7 (.int .i64 (Q0l ((l.length:Int) == 0) 12)),.c 8 (.pointer (some ⟨w.heap.size,2,none⟩)),.c 9 (.slice A l.length cap),.c 10 (.int .i64 ((l.length:Nat):Int)),.c 11 (.bool (decide (12 < (l.length:Int)))),.c 12 (.int .i64 (Q0l (decide (12 < (l.length:Int))) 5)),.c 13 (.pointer (some ⟨w.heap.size,2,none⟩)),.c 14 (.slice A l.length cap),.c 15 (.int .i64 n),.c 16 (.int .i64 (Q1p l n)),.c 17 (.pointer (some ⟨w.heap.size,1,none⟩)),.c 18 (.int .i64 need),.c 19 (.int .i64 1),.c 20 (.int .i64 (l.length:Int)),.c 21 (.int .i64 (Q0k need 1 (l.length:Int))),⟨fun v wz=>Q0e wz (v 22) [Q0l (!kb) 13,Q0l ((l.length:Int) == 0) 12,Q0l (decide (12 < (l.length:Int))) 5,Q1p l n,Q0k need 1 (l.length:Int)],fun _ _ _ hx h=>h.ext hx⟩,.c 23 (.int .i64 E),.c 24 (.int .i64 E)]
     (by kernel_rfl) rfl (by kernel_rfl) ⟨?g0,?g1,?g2,?g3,?g4,?g5,?g6,?g7,?g8,?g9,?g10,?g11,?g12,?g13,?g14,?g15,?g16,?g17,?g18,?g19,?g20,?g21,?g22,?g23,?g24,trivial⟩ ?post
    case g0 | g3 | g8 | g13 | g15 | g17 | g19 | g20=>
     intro v w1 hx;refine ⟨_,fun w=>?_,rfl⟩;go_simp
    case g1 | g5 | g6 | g10 | g11=>
     intro v w1 hx;(repeat intro (zq:v _ = _));refine ⟨_,fun w=>?_,rfl⟩;go_simp
    case g2 | g7 | g12=>
     intro v w1 hx;(repeat intro (zq:v _ = _));intro K hK;go_simp;refine Q0d (Q5j _ _ _) ?_;rintro e w2 ⟨rfl,rfl⟩;exact ⟨_,rfl,hK _ _ (Ext.refl _) rfl⟩
    case g4 | g9 | g14=>
     intro v w1 hx;(repeat intro (zq:v _ = _));have c2:=hx.cell c2;intro K hK;go_simp;exact hK _ _ (Ext.refl _) rfl
    case g16=>
     intro v w1 hx;(repeat intro (zq:v _ = _));intro K hK;go_simp;refine Q0d (Q5f _ _ l n (HL.out.ext ((Ext.refl W3).drew.trans hx))) ?_;rintro e w2 ⟨rfl,hx2⟩;exact ⟨_,rfl,hK _ _ hx2 rfl⟩
    case g18=>
     intro v w1 hx;(repeat intro (zq:v _ = _));have c1:=hx.cell c1;intro K hK;go_simp;exact hK _ _ (Ext.refl _) rfl
    case g21=>
     intro v w1 hx;(repeat intro (zq:v _ = _));intro K hK;go_simp;refine Q0d (X0a _ _ _ _) ?_;rintro e w2 ⟨rfl,rfl⟩;exact ⟨_,rfl,hK _ _ (Ext.refl _) rfl⟩
    case g22=>
     intro v w1 hx;(repeat intro (zq:v _ = _));intro K hK;go_simp;exact hK _ _ (Ext.box _ _) (Q3h (l:=[Q0l (!kb) 13,Q0l ((l.length:Int) == 0) 12,Q0l (decide (12 < (l.length:Int))) 5,Q1p l n,Q0k need 1 (l.length:Int)]) (by simp))
    case g23=>
     intro v w1 hx (q21:v 21 = _) (q22:Q0e w1 (v 22) [Q0l (!kb) 13,Q0l ((l.length:Int) == 0) 12,Q0l (decide (12 < (l.length:Int))) 5,Q1p l n,Q0k need 1 (l.length:Int)]);intro K hK;go_simp;refine Q0d (HE.out _ _ q22) ?_;rintro e w2 ⟨rfl,rfl⟩;exact ⟨_,rfl,hK _ _ (Ext.refl _) rfl⟩
    case g24=>
     intro v w1 hx (q0:v 0 = _) (q1:v 1 = _) (q2:v 2 = _) (q3:v 3 = _) (q4:v 4 = _) (q5:v 5 = _) (q6:v 6 = _) (q7:v 7 = _) (q8:v 8 = _) (q9:v 9 = _) (q10:v 10 = _) (q11:v 11 = _) (q12:v 12 = _) (q13:v 13 = _) (q14:v 14 = _) (q15:v 15 = _) (q16:v 16 = _) (q17:v 17 = _) (q18:v 18 = _) (q19:v 19 = _) (q20:v 20 = _) (q21:v 21 = _) _ (q23:v 23 = _);refine ⟨_,fun w=>?_,rfl⟩;go_simp
    case post =>
     intro v w1 hx;(iterate 22 intro (zq:v _ = _));intro (q22:Q0e w1 (v 22) [Q0l (!kb) 13,Q0l ((l.length:Int) == 0) 12,Q0l (decide (12 < (l.length:Int))) 5,Q1p l n,Q0k need 1 (l.length:Int)]);(iterate 2 intro (zq:v _ = _));simp only [Flow.All,Flow.acts,Act.put];go_simp;go_wp2;go_ret;exact ⟨Q0y HFIN.out.symm,hxr.trans ((Ext.refl W3).drew.trans hx)⟩
  . have hb1:=Q4d X6d hv
    obtain ⟨E,hE⟩:∃ E,Q0g [Q0l (!kb) 13,Q0l ((l.length:Int) == 0) 12,Q0l (decide (12 < (l.length:Int))) 5,Q1p l n,Q0k need 0 0] = E:=⟨_,rfl⟩;have HE:Hid (∀ (w':World) (u:Value),Q0e w' u [Q0l (!kb) 13,Q0l ((l.length:Int) == 0) 12,Q0l (decide (12 < (l.length:Int))) 5,Q1p l n,Q0k need 0 0] -> Calls Tryz.prog 48 #[u] w' fun e w''=>e = .returned (.int .i64 E) /\ w' = w''):=by
     exact (by intro w' u h; rw [<- hE]; exact first_any _ _ _ h:∀ (w':World) (u:Value),Q0e w' u [Q0l (!kb) 13,Q0l ((l.length:Int) == 0) 12,Q0l (decide (12 < (l.length:Int))) 5,Q1p l n,Q0k need 0 0] -> Calls Tryz.prog 48 #[u] w' fun e w''=>e = .returned (.int .i64 E) /\ w' = w'')
    have hfin:X3c k need l n = E:=by
     unfold X3c leastOf Y5t;rw [if_neg hv,if_neg hv,HKB.out]; exact hE
    have HFIN:=Lib.hid hfin;clear hE hfin hv HKB;go_wp2;refine Flow.Q7s [.p,.p,.w,.p,.w,.p,.p,.w,.p,.w,.p,.p,.w,.p,.w,.p,.w,.p,.w,.p,.p,.w,.w,.w,.p] [0,1,2,3,4,5,6,7,8,9,10,11,12,13,14,15,16,17,18,19,20,21,22,23,24] [[],[0],[1],[],[3],[4],[5],[2,6],[],[8],[9],[10],[7,11],[],[13],[],[12,14,15],[],[17],[],[],[16,18,19,20],[2,7,12,16,21],[21,22],[0,1,2,3,4,5,6,7,8,9,10,11,12,13,14,15,16,17,18,19,20,21,22,23]]
     [.c 0 (.bool kb),.c 1 (.bool (!kb)),.c 2 (.int .i64 (Q0l (!kb) 13)),.c 3 (.pointer (some ⟨w.heap.size,2,none⟩)),.c 4 (.slice A l.length cap),.c 5 (.int .i64 ((l.length:Nat):Int)),.c 6 (.bool ((l.length:Int) == 0)),.c 7 (.int .i64 (Q0l ((l.length:Int) == 0) 12)),.c 8 (.pointer (some ⟨w.heap.size,2,none⟩)),.c 9 (.slice A l.length cap),.c 10 (.int .i64 ((l.length:Nat):Int)),.c 11 (.bool (decide (12 < (l.length:Int)))),.c 12 (.int .i64 (Q0l (decide (12 < (l.length:Int))) 5)),.c 13 (.pointer (some ⟨w.heap.size,2,none⟩)),.c 14 (.slice A l.length cap),.c 15 (.int .i64 n),.c 16 (.int .i64 (Q1p l n)),.c 17 (.pointer (some ⟨w.heap.size,1,none⟩)),.c 18 (.int .i64 need),.c 19 (.int .i64 0),.c 20 (.int .i64 0),.c 21 (.int .i64 (Q0k need 0 0)),⟨fun v wz=>Q0e wz (v 22) [Q0l (!kb) 13,Q0l ((l.length:Int) == 0) 12,Q0l (decide (12 < (l.length:Int))) 5,Q1p l n,Q0k need 0 0],fun _ _ _ hx h=>h.ext hx⟩,.c 23 (.int .i64 E),.c 24 (.int .i64 E)]
     (by kernel_rfl) rfl (by kernel_rfl) ⟨?g0,?g1,?g2,?g3,?g4,?g5,?g6,?g7,?g8,?g9,?g10,?g11,?g12,?g13,?g14,?g15,?g16,?g17,?g18,?g19,?g20,?g21,?g22,?g23,?g24,trivial⟩ ?post
    case g0 | g3 | g8 | g13 | g15 | g17 | g19 | g20=>
     intro v w1 hx;refine ⟨_,fun w=>?_,rfl⟩;go_simp
    case g1 | g5 | g6 | g10 | g11=>
     intro v w1 hx;(repeat intro (zq:v _ = _));refine ⟨_,fun w=>?_,rfl⟩;go_simp
    case g2 | g7 | g12=>
     intro v w1 hx;(repeat intro (zq:v _ = _));intro K hK;go_simp;refine Q0d (Q5j _ _ _) ?_;rintro e w2 ⟨rfl,rfl⟩;exact ⟨_,rfl,hK _ _ (Ext.refl _) rfl⟩
    case g4 | g9 | g14=>
     intro v w1 hx;(repeat intro (zq:v _ = _));have c2:=hx.cell c2;intro K hK;go_simp;exact hK _ _ (Ext.refl _) rfl
    case g16=>
     intro v w1 hx;(repeat intro (zq:v _ = _));intro K hK;go_simp;refine Q0d (Q5f _ _ l n (HL.out.ext ((Ext.refl w2).drew.trans hx))) ?_;rintro e w2 ⟨rfl,hx2⟩;exact ⟨_,rfl,hK _ _ hx2 rfl⟩
    case g18=>
     intro v w1 hx;(repeat intro (zq:v _ = _));have c1:=hx.cell c1;intro K hK;go_simp;exact hK _ _ (Ext.refl _) rfl
    case g21=>
     intro v w1 hx;(repeat intro (zq:v _ = _));intro K hK;go_simp;refine Q0d (X0a _ _ _ _) ?_;rintro e w2 ⟨rfl,rfl⟩;exact ⟨_,rfl,hK _ _ (Ext.refl _) rfl⟩
    case g22=>
     intro v w1 hx;(repeat intro (zq:v _ = _));intro K hK;go_simp;exact hK _ _ (Ext.box _ _) (Q3h (l:=[Q0l (!kb) 13,Q0l ((l.length:Int) == 0) 12,Q0l (decide (12 < (l.length:Int))) 5,Q1p l n,Q0k need 0 0]) (by simp))
    case g23=>
     intro v w1 hx (q21:v 21 = _) (q22:Q0e w1 (v 22) [Q0l (!kb) 13,Q0l ((l.length:Int) == 0) 12,Q0l (decide (12 < (l.length:Int))) 5,Q1p l n,Q0k need 0 0]);intro K hK;go_simp;refine Q0d (HE.out _ _ q22) ?_;rintro e w2 ⟨rfl,rfl⟩;exact ⟨_,rfl,hK _ _ (Ext.refl _) rfl⟩
    case g24=>
     intro v w1 hx (q0:v 0 = _) (q1:v 1 = _) (q2:v 2 = _) (q3:v 3 = _) (q4:v 4 = _) (q5:v 5 = _) (q6:v 6 = _) (q7:v 7 = _) (q8:v 8 = _) (q9:v 9 = _) (q10:v 10 = _) (q11:v 11 = _) (q12:v 12 = _) (q13:v 13 = _) (q14:v 14 = _) (q15:v 15 = _) (q16:v 16 = _) (q17:v 17 = _) (q18:v 18 = _) (q19:v 19 = _) (q20:v 20 = _) (q21:v 21 = _) _ (q23:v 23 = _);refine ⟨_,fun w=>?_,rfl⟩;go_simp
    case post =>
     intro v w1 hx;(iterate 22 intro (zq:v _ = _));intro (q22:Q0e w1 (v 22) [Q0l (!kb) 13,Q0l ((l.length:Int) == 0) 12,Q0l (decide (12 < (l.length:Int))) 5,Q1p l n,Q0k need 0 0]);(iterate 2 intro (zq:v _ = _));simp only [Flow.All,Flow.acts,Act.put];go_simp;go_wp2;go_ret;exact ⟨Q0y HFIN.out.symm,hxr.trans ((Ext.refl w2).drew.trans hx)⟩
end Go.Proofs
namespace Go.Proofs
open Go.RowKit Go.Tw Go.Flow
theorem Y4w (s x:ByteArray) (v:Value):∀ l:List (ByteArray × Value),Q6k x (Y8f s v l) = if x = s then some v else Q6k x l
 | []=>by
   unfold Y8f Q6k
   by_cases h:x = s
   . rw [if_pos (str_eq h),if_pos h]
   . rw [Q5e h,if_neg (by simp),if_neg h]; rfl
 | p :: l=>by
   unfold Y8f
   by_cases hs:(s == p.1) = true
   . have hsp:=Y3u hs
     rw [if_pos hs];unfold Q6k
     by_cases h:x = s
     . rw [if_pos (str_eq h),if_pos h]
     . rw [Q5e h,if_neg (by simp),if_neg h,if_neg (by rw [Q5e (by rw [<- hsp]; exact h)]; simp)]
   . rw [if_neg hs]
     unfold Q6k;rw [Y4w s x v l]
     by_cases h:x = s
     . simp only [if_pos h]; rw [if_neg (by rw [h]; exact hs)]
     . simp only [if_neg h]
def Knows (l:List (ByteArray × Value)) (ev:ByteArray -> Bool):Prop:=∀ s,(Q6k s l).getD (.bool false) = .bool (ev s)
theorem Knows.nil:Knows [] (fun _=>false):=fun _=>rfl
theorem Knows.put {l:List (ByteArray × Value)} {ev:ByteArray -> Bool} (h:Knows l ev) (s:ByteArray):Knows (Y8f s (.bool true) l) (fun x=>ev x || decide (x = s)):=fun x=>by
 rw [Y4w]
 by_cases hx:x = s
 . rw [if_pos hx]; simp [hx]
 . rw [if_neg hx,h x]; simp [hx]
def checkN (s:ByteArray) (c:Int) (kn:Bool):Int:=Q0g [Q0l (!nameB s) 8,Q0k c 0 16,Q0l kn 9]
theorem Z5j:Tryz.prog.underlying 159 = some (.map 9 4):=by kernel_rfl
theorem Z9w (w:World):(zeroValue 4).run Tryz.prog w = .ok (.bool false) w:=by kernel_rfl
theorem X7d (w:World) (s:ByteArray) (c:Int) (B b:Nat) (l:List (ByteArray × Value)) (ev:ByteArray -> Bool) (hs:Short s) (hB:w.cell? ⟨B,0,none⟩ = some (.map (some b))) (hm:Q4a w b l) (hk:Knows l ev) :
    Calls Tryz.prog 103 #[.string s,.int .i64 c,.pointer (some ⟨B,0,none⟩)] w fun e w'=>e = .returned (.int .i64 (checkN s c (ev s))) /\ Q4a w' b (Y8f s (.bool true) l) /\ w'.cell? ⟨B,0,none⟩ = some (.map (some b)) /\ (∀ n,n <= b -> Below n w w') /\ w.grownBy w' (some b):=by
 have HM:=Lib.hid hm;have HS:=Lib.hid hs;obtain ⟨kn,hkn⟩:∃ kn,ev s = kn:=⟨_,rfl⟩;have HLK:Hid (∀ w',Ext w w' -> (Instr.lookup 159 (.map (some b)) (.string s) false).run Tryz.prog w' = .ok (.bool kn) w'):=by
  exact (by intro w' h; have h:=Q7r (P:=Tryz.prog) (hm.ext h) Z5j Z5w (Z9w _) s false; rw [if_neg (by simp),hk s,hkn] at h; exact h:∀ w',Ext w w' -> (Instr.lookup 159 (.map (some b)) (.string s) false).run Tryz.prog w' = .ok (.bool kn) w')
 rw [hkn];obtain ⟨nb,hnb⟩:∃ nb,nameB s = nb:=⟨_,rfl⟩;have HNB:Hid (∀ w',Calls Tryz.prog 104 #[.string s] w' fun e w''=>e = .returned (.bool nb) /\ Ext w' w''):=by
  exact (by intro w'; rw [<- hnb]; exact Y8b w' s hs:∀ w',Calls Tryz.prog 104 #[.string s] w' fun e w''=>e = .returned (.bool nb) /\ Ext w' w'')
 obtain ⟨E,hE⟩:∃ E,Q0g [Q0l (!nb) 8,Q0k c 0 16,Q0l kn 9] = E:=⟨_,rfl⟩;have HE:Hid (∀ (w':World) (u:Value),Q0e w' u [Q0l (!nb) 8,Q0k c 0 16,Q0l kn 9] -> Calls Tryz.prog 48 #[u] w' fun e w''=>e = .returned (.int .i64 E) /\ w' = w''):=by
  exact (by intro w' u h; rw [<- hE]; exact first_any _ _ _ h:∀ (w':World) (u:Value),Q0e w' u [Q0l (!nb) 8,Q0k c 0 16,Q0l kn 9] -> Calls Tryz.prog 48 #[u] w' fun e w''=>e = .returned (.int .i64 E) /\ w' = w'')
 have hfin:checkN s c kn = E:=by unfold checkN; rw [hnb]; exact hE
 rw [hfin];clear hm hk hkn hs hnb hE hfin;go_enter Tryz.func103,Tryz.ntmps103;go_wp2;refine Flow.Q7s [.p,.w,.p,.w,.p,.w,.w,.p,.w,.w,.w,.w,.p] [0,1,2,3,4,5,6,7,8,9,10,11,12] [[],[0],[1],[1,2],[],[3,4],[],[],[6,7],[5,8],[3,5,9],[9,10],[0,1,2,3,4,5,6,7,8,9,10,11]]
  [.c 0 (.string s),.c 1 (.bool nb),.c 2 (.bool (!nb)),.c 3 (.int .i64 (Q0l (!nb) 8)),.c 4 (.int .i64 c),.c 5 (.int .i64 (Q0k c 0 16)),.c 6 (.map (some b)),.c 7 (.string s),.c 8 (.bool kn),.c 9 (.int .i64 (Q0l kn 9)),⟨fun v wz=>Q0e wz (v 10) [Q0l (!nb) 8,Q0k c 0 16,Q0l kn 9],fun _ _ _ hx h=>h.ext hx⟩,.c 11 (.int .i64 E),.c 12 (.int .i64 E)]
  (by kernel_rfl) rfl (by kernel_rfl) ⟨?g0,?g1,?g2,?g3,?g4,?g5,?g6,?g7,?g8,?g9,?g10,?g11,?g12,trivial⟩ ?post
 case g0 | g4 | g7=>
  intro v w1 hx;refine ⟨_,fun w=>?_,rfl⟩;go_simp
 case g1=>
  intro v w1 hx;(repeat intro (zq:v _ = _));intro K hK;go_simp;refine Q0d (HNB.out _) ?_;rintro e w2 ⟨rfl,hx2⟩;exact ⟨_,rfl,hK _ _ hx2 rfl⟩
 case g2=>
  intro v w1 hx;(repeat intro (zq:v _ = _));refine ⟨_,fun w=>?_,rfl⟩;go_simp
 case g3 | g9=>
  intro v w1 hx;(repeat intro (zq:v _ = _));intro K hK;go_simp;refine Q0d (Q5j _ _ _) ?_;rintro e w2 ⟨rfl,rfl⟩;exact ⟨_,rfl,hK _ _ (Ext.refl _) rfl⟩
 case g5=>
  intro v w1 hx;(repeat intro (zq:v _ = _));intro K hK;go_simp;refine Q0d (X0a _ _ _ _) ?_;rintro e w2 ⟨rfl,rfl⟩;exact ⟨_,rfl,hK _ _ (Ext.refl _) rfl⟩
 case g6=>
  intro v w1 hx;have hB:=hx.cell hB;intro K hK;go_simp;exact hK _ _ (Ext.refl _) rfl
 case g8=>
  intro v w1 hx;(repeat intro (zq:v _ = _));have hlk:=HLK.out _ ((Ext.refl w).drew.trans hx);intro K hK;go_simp;exact hK _ _ (Ext.refl _) rfl
 case g10=>
  intro v w1 hx;(repeat intro (zq:v _ = _));intro K hK;go_simp;exact hK _ _ (Ext.box _ _) (Q3h (l:=[Q0l (!nb) 8,Q0k c 0 16,Q0l kn 9]) (by simp))
 case g11=>
  intro v w1 hx (q9:v 9 = _) (q10:Q0e w1 (v 10) [Q0l (!nb) 8,Q0k c 0 16,Q0l kn 9]);intro K hK;go_simp;refine Q0d (HE.out _ _ q10) ?_;rintro e w2 ⟨rfl,rfl⟩;exact ⟨_,rfl,hK _ _ (Ext.refl _) rfl⟩
 case g12=>
  intro v w1 hx (q0:v 0 = _) (q1:v 1 = _) (q2:v 2 = _) (q3:v 3 = _) (q4:v 4 = _) (q5:v 5 = _) (q6:v 6 = _) (q7:v 7 = _) (q8:v 8 = _) (q9:v 9 = _) _ (q11:v 11 = _);refine ⟨_,fun w=>?_,rfl⟩;go_simp
 case post =>
  intro v w1 hx;(iterate 10 intro (zq:v _ = _));intro (q10:Q0e w1 (v 10) [Q0l (!nb) 8,Q0k c 0 16,Q0l kn 9]);(iterate 2 intro (zq:v _ = _));simp only [Flow.All,Flow.acts,Act.put];go_simp;have hxx:=(Ext.refl w).drew.trans hx;obtain ⟨w2,hput,hm2,hb2,hg2⟩:=Q8m (P:=Tryz.prog) (HM.out.ext hxx) Z5j Z5w s (.bool true);have hB1:=hxx.cell hB;have hbl:b < w.heap.size:=HM.out.lt;have hne:b ≠ B:=fun e=>by
   obtain ⟨a0,c0,h0,_⟩:=HM.out;rw [e] at h0;simp [World.cell?,h0] at hB
  have hB2:w2.cell? ⟨B,0,none⟩ = some (.map (some b)):=(Q9v hg2 (World.block_lt_of_cell? _ _ hB1) (by intro h; injection h with h; exact hne h.symm)).trans hB1
  have HX:=Lib.hid hxx;have hgx:w.grownBy w1 (some b):=⟨hxx.os,hxx.tape,hxx.output,hxx.size,fun k hk _=>hxx.block k hk⟩;have HG2:Hid (w.grownBy w2 (some b)):=by exact hgx.trans hg2
  have HM2:=Lib.hid hm2;have HB2:=Lib.hid hb2;clear hm2 hb2 hB hne hxx hg2 hgx;go_wp2;go_ret;exact ⟨rfl,HM2.out,hB2,fun n hn=>Below.trans (Below.mono HX.out (by omega)) (HB2.out n hn),HG2.out⟩
end Go.Proofs
namespace Go.Proofs
open Go.RowKit Go.Tw Go.Flow
def Q2o (b:Bool) (x:Value):Value:=if b then undef else x
theorem Y3v (a b c:Int):Q0g [a,b,c,0] = Q0g [a,b,c]:=by
 simp only [Q0g]; split <;> (try split) <;> (try split) <;> simp
def known (t:Tree) (i:Nat) (s:ByteArray):Bool:=(List.range i).any fun k=>t.nameAt k == s
theorem X6z (t:Tree) (i:Nat):known t (i + 1) = fun x=>known t i x || decide (x = t.nameAt i):=by
 funext x
 unfold known;rw [List.range_succ,List.any_append]
 congr 1
 simp only [List.any_cons,List.any_nil,Bool.or_false]
 by_cases h:x = t.nameAt i
 . rw [str_eq h.symm,decide_eq_true h]
 . rw [Q5e (fun e=>h e.symm),decide_eq_false h]
theorem Y9x (t:Tree) {i:Nat} (h:i < t.basics.length):checkN (bName t.basics i) (Q1b t.basics i) (known t i (bName t.basics i)) = t.Q1f i:=by
 have hn:t.nameAt i = bName t.basics i:=by unfold Tree.nameAt; rw [if_pos h]
 have hc:t.Q1g i = Q1b t.basics i:=by unfold Tree.Q1g; rw [if_pos h]
 unfold Tree.Q1f checkN Q0l Q3f Tree.Q8r known;rw [hn,hc,if_pos h,Y3v];cases nameB (bName t.basics i) <;> rfl
def Z5c (e:Int) (m:List Int) (nb:Nat):Int:=Q0g [e,Q0l ((m.length:Int) == 0) 12,Q1p m nb]
theorem Q9e:∀ l r:List Int,Q0g (l ++ r) = if Q0g l = 0 then Q0g r else Q0g l
 | [],r=>by simp [Q0g]
 | x :: l,r=>by
   rw [List.cons_append,Q0g,Q0g]
   by_cases h:x = 0
   . rw [if_pos h,if_pos h]; exact Q9e l r
   . rw [if_neg h,if_neg h,if_neg h]
theorem Y7c (a b c d:Int):Q0g [Q0g [a,b,c],d] = Q0g [a,b,c,d]:=by
 rw [show [a,b,c,d] = [a,b,c] ++ [d] from rfl,Q9e]
 generalize Q0g [a,b,c] = x;simp only [Q0g]
theorem Y6i (x:Int) (m:List Int) (n:Int):Q0g [x,Q0l ((m.length:Int) == 0) 12,Q1p m n] = Q0g [x,Q2r m n]:=by
 unfold Q2r Q0l;cases m with
 | nil=>simp [Q0g]
 | cons y l =>
   have h0:(((y :: l).length:Int) == 0) = false:=by rw [beq_eq_false_iff_ne]; simp; omega
   rw [h0];simp [Q0g]
theorem Z1h (t:Tree) (j:Nat):Z5c (checkN (cName t.causes j) (Q1k t.causes j) (known t (t.basics.length + j) (cName t.causes j))) (Q0f t.causes j) t.basics.length = t.Q1f (t.basics.length + j):=by
 have hn:t.nameAt (t.basics.length + j) = cName t.causes j:=by unfold Tree.nameAt; rw [if_neg (by omega),Nat.add_sub_cancel_left]
 have hc:t.Q1g (t.basics.length + j) = Q1k t.causes j:=by unfold Tree.Q1g; rw [if_neg (by omega),Nat.add_sub_cancel_left]
 have hl:(if t.basics.length + j < t.basics.length then 0 else Q2r (Q0f t.causes (t.basics.length + j - t.basics.length)) t.basics.length) = Q2r (Q0f t.causes j) t.basics.length:=by rw [if_neg (by omega),Nat.add_sub_cancel_left]
 have hw:Q3f (cName t.causes j) = Q0l (!nameB (cName t.causes j)) 8:=by unfold Q3f Q0l; cases nameB (cName t.causes j) <;> rfl
 unfold Tree.Q1f Z5c checkN Tree.Q8r;rw [hl,hn,hc,hw,Y6i,Y7c];rfl
theorem Q6y {n:Nat} {e:Nat -> Int} {r:List Int} {k:Nat} (hk:k < n) (hz:∀ j,j < k -> e j = 0) (hne:e k ≠ 0):Q0g ((List.range n).map e ++ r) = e k:=by
 obtain ⟨m,rfl⟩:∃ m,n = k + (m + 1):=⟨n - k - 1,by omega⟩
 have h0:Q0g ((List.range k).map e) = 0:=by
  rw [Q1h];intro x hx;obtain ⟨j,hj,rfl⟩:=List.mem_map.1 hx;exact hz j (List.mem_range.1 hj)
 rw [List.range_add,List.map_append,List.append_assoc,Q9e,if_pos h0,List.range_succ_eq_map];simp [Q0g,hne]
theorem Q9t {n:Nat} {e:Nat -> Int} {r:List Int} (hz:∀ j,j < n -> e j = 0):Q0g ((List.range n).map e ++ r) = Q0g r:=by
 have h0:Q0g ((List.range n).map e) = 0:=by
  rw [Q1h];intro x hx;obtain ⟨j,hj,rfl⟩:=List.mem_map.1 hx;exact hz j (List.mem_range.1 hj)
 rw [Q9e,if_pos h0]
theorem zero_or (a b:Nat):((a:Int) == 0 || (b:Int) == 0) = decide (a = 0 ∨ b = 0):=by
 rw [Bool.eq_iff_iff]; simp
theorem Z5h (a b g:Nat):(decide (12 < (a:Int) + b) || decide (32 < (g:Int))) = decide (12 < a + b ∨ 32 < g):=by
 rw [Bool.eq_iff_iff]; simp; omega
def Y3d (t:Tree):Int:=Q0g [Q0l ((t.basics.length:Int) == 0 || (t.gates.length:Int) == 0) 12,Q0l (decide (12 < (t.basics.length:Int) + t.causes.length) || decide (32 < (t.gates.length:Int))) 5]
theorem Z4h {t:Tree} (h:Y3d t ≠ 0):t.err = Y3d t:=by
 unfold Y3d Q0l at *;rw [zero_or,Z5h] at *;unfold Tree.err Tree.size
 by_cases h1:t.basics.length = 0 ∨ t.gates.length = 0
 . rw [if_pos h1,decide_eq_true h1]; rfl
 . rw [decide_eq_false h1] at h ⊢
   rw [if_neg h1]
   by_cases h2:12 < t.basics.length + t.causes.length ∨ 32 < t.gates.length
   . rw [if_pos h2,decide_eq_true h2]; rfl
   . rw [decide_eq_false h2] at h
     simp [Q0g] at h
theorem Z2t {t:Tree} (h:Y3d t = 0):t.err = Q0g ((List.range t.size).map t.Q1f ++ (List.range t.gates.length).map t.Q1z) /\ t.size <= 12 /\ t.gates.length <= 32:=by
 unfold Y3d Q0l at h;rw [zero_or,Z5h] at h;unfold Tree.err
 by_cases h1:t.basics.length = 0 ∨ t.gates.length = 0
 . rw [decide_eq_true h1] at h; simp [Q0g] at h
 . rw [decide_eq_false h1] at h
   by_cases h2:12 < t.size ∨ 32 < t.gates.length
   . unfold Tree.size at h2
     rw [decide_eq_true h2] at h; simp [Q0g] at h
   . rw [if_neg h1,if_neg h2]; exact ⟨rfl,by omega,by omega⟩
end Go.Proofs
