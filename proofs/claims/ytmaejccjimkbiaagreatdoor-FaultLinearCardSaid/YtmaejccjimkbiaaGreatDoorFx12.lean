/- Contract: the error of a gate. -/
import Derived.Test.YtmaejccjimkbiaaGreatDoorFx11
set_option linter.unusedVariables false
set_option linter.unusedSimpArgs false
set_option linter.constructorNameAsVariable false
namespace Go.Proofs
open Go.RowKit Go.Tw Go.Flow
theorem Y6b (k:ByteArray):(Q6j k Q4y).isSome = Q8s k:=by
 unfold Q4y Q6j Q8s
 by_cases h1:k = Q8z
 · rw [if_pos (str_eq h1),str_eq h1]; rfl
 · rw [Q5k h1,if_neg (by simp)]
   unfold Q6j
   by_cases h2:k = sOr
   · rw [if_pos (str_eq h2),str_eq h2]; rfl
   · rw [Q5k h2,if_neg (by simp)]
     unfold Q6j
     by_cases h3:k = Q5c
     · rw [if_pos (str_eq h3),str_eq h3]; rfl
     · rw [Q5k h3,if_neg (by simp)]; rfl
theorem Q2m {w:World} {T:TypeId} {l:List Int} (hl:l.length ≤ 1000):Q0f (w.alloc (.cells (l.map (Value.int .i64)).toArray T)) (.slice (some ⟨w.heap.size,0,none⟩) l.length l.length) l:=by
 refine ⟨fun j=>.int .i64 (l.getD j 0),⟨some ⟨w.heap.size,0,none⟩,l.length,rfl,by omega,Nat.le_refl _,fun j hj=>⟨w.heap.size,0,rfl,?_⟩⟩,fun j hj=>?_⟩
 · have hj':j < l.length:=by omega
   rw [Q0z]; simp [hj']
 · simp [hj]
def leastOf (k:ByteArray):Int:=if k = Q5c then 1 else 0
def Y4d (k:ByteArray) (n:Nat):Int:=if k = Q5c then n else 0
def X2q (k:ByteArray) (need:Int) (l:List Int) (n:Int):Int:=Q0h [Q0k (!Q8s k) 13,Q0k ((l.length:Int) == 0) 12,Q0k (decide (12 < (l.length:Int))) 5,Q1h l n,Q0m need (leastOf k) (Y4d k l.length)]
theorem Z2e (k:ByteArray) (need:Int) (l:List Int) (n:Int):X2q k need l n = Q8n k need l n:=by
 unfold X2q Q8n X0v leastOf Y4d Q0k Q2s;cases hk:Q8s k with
 | false=>simp [Q0h]
 | true =>
   cases l with
   | nil=>simp [Q0h]
   | cons x l =>
     by_cases h12:12 < (x :: l).length
     · have h1:decide (12 < ((x :: l).length:Int)) = true:=by rw [decide_eq_true_eq]; omega
       rw [h1,if_pos h12];simp [Q0h];have:¬ (l.length:Int) + 1 = 0:=by omega
       simp [this]
     · have h1:decide (12 < ((x :: l).length:Int)) = false:=by rw [decide_eq_false_iff_not]; omega
       rw [h1,if_neg h12];have h0:(((x :: l).length:Int) == 0) = false:=by rw [beq_eq_false_iff_ne]; simp; omega
       rw [h0]
       by_cases hv:k = Q5c <;> simp [Q0h,hv]
theorem Z0g (k:ByteArray):∃ fx,(Q6j k Q4y).getD (.agg #[.nilFunc]) = .agg #[fx] ∧ fx.oneCell' = true:=by
 unfold Q4y Q6j
 split
 · exact ⟨_,rfl,rfl⟩
 · unfold Q6j
   split
   · exact ⟨_,rfl,rfl⟩
   · unfold Q6j
     split
     · exact ⟨_,rfl,rfl⟩
     · exact ⟨_,rfl,rfl⟩
theorem Tryz.Z2p (w:World):(sizeOf 184).run Tryz.prog w = .ok 1 w:=by kernel_rfl
theorem X4n:Q5c.toList = [118,111,116,101]:=by simp [Q5c,go_sem]
set_option maxRecDepth 100000 in
set_option maxHeartbeats 2000000 in
theorem Y5o (w:World) (k:ByteArray) (iv:Value) (need:Int) (l:List Int) (n:Int) (hl:Q0f w iv l) :
    Calls Tryz.prog 124 #[.agg #[.string k,.int .i64 need,iv],.int .i64 n] w fun e w'=>e = .returned (.int .i64 (X2q k need l n)) ∧ Ext w w':=by
 obtain ⟨A,cap,rfl,hl1,hcap,hc⟩:=hl.opened;have hxW:=Ext.box w (.cells #[.string k,.int .i64 need,.slice A l.length cap] 129);have HL:=Lib.hid (hl.ext hxW);have c0:(w.alloc (.cells #[.string k,.int .i64 need,.slice A l.length cap] 129)).cell? ⟨w.heap.size,0,none⟩ = some (.string k):=Q0z _ _ _ 0;have c1:(w.alloc (.cells #[.string k,.int .i64 need,.slice A l.length cap] 129)).cell? ⟨w.heap.size,1,none⟩ = some (.int .i64 need):=Q0z _ _ _ 1;have c2:(w.alloc (.cells #[.string k,.int .i64 need,.slice A l.length cap] 129)).cell? ⟨w.heap.size,2,none⟩ = some (.slice A l.length cap):=Q0z _ _ _ 2;obtain ⟨fx,hfx,hf1⟩:=Z0g k;obtain ⟨kb,hkb⟩:∃ kb,Q8s k = kb:=⟨_,rfl⟩;have HLK:Hid (∀ (w':World) (b:Nat),Q3m w' b Q4y → (Instr.lookup 177 (.map (some b)) (.string k) true).run Tryz.prog w' = .ok (.tuple #[.agg #[fx],.bool kb]) w'):=by
  exact (by intro w' b hm; have h:=Q7s (P:=Tryz.prog) hm X8u Z3m (Z5l _) k true; rw [if_pos rfl,Y6b,hkb,hfx] at h; exact h:∀ (w':World) (b:Nat),Q3m w' b Q4y → (Instr.lookup 177 (.map (some b)) (.string k) true).run Tryz.prog w' = .ok (.tuple #[.agg #[fx],.bool kb]) w')
 have HF1:=Lib.hid hf1;have HKB:=Lib.hid hkb;clear hl hc hfx hf1 hkb;go_enter Tryz.func124,Tryz.ntmps124;go_wp2;obtain ⟨W,hW⟩:∃ W,w.alloc (.cells #[.string k,.int .i64 need,.slice A l.length cap] 129) = W:=⟨_,rfl⟩;have hws:w.heap.size + 1 = W.heap.size:=by rw [← hW]; simp
 rw [hW] at c0 c1 c2 hxW HL ⊢;clear hW;have hd1:=(Ext.refl W).drew;refine Flow.region [.world,.plain,.world,.world,.plain,.plain,.plain,.world,.last,.last] [0,1,2,3,4,5,6,7,8,9] [[],[],[1],[0,1,2],[0,1,2,3],[0,1,2,3,4],[0,1,2,3,4],[],[0,1,2,3,4,5,7],[0,1,2,3,4,5,6,7,8]] [8,9]
  [⟨fun v wz=>(fun v w'=>∃ b,v 0 = .map (some b) ∧ Q3m w' b Q4y) v wz,by rintro v a b hx ⟨g,h1,h2⟩; exact ⟨g,h1,h2.ext hx⟩⟩,.is 1 (fun v=>.pointer (some ⟨w.heap.size,0,none⟩)),.is 2 (fun v=>.string k),.is 3 (fun v=>.tuple #[.agg #[fx],.bool kb]),.is 4 (fun v=>.tuple #[.agg #[fx],.bool kb]),.is 5 (fun v=>.agg #[fx]),.is 6 (fun v=>.bool kb),⟨fun v wz=>(fun v w'=>∃ g,v 7 = .pointer (some ⟨g,0,none⟩) ∧ W.heap.size ≤ g ∧ Blk w' g 184 #[.nilFunc]) v wz,by rintro v a b hx ⟨g,h1,h2,h3⟩; exact ⟨g,h1,h2,h3.ext hx⟩⟩,.none,.none]
  [fun v w1 w'=>Below W.heap.size w1 w',fun v w1 w'=>v 9 = .bool kb ∧ Below W.heap.size w1 w'] (by kernel_rfl) rfl (by kernel_rfl) ⟨?g0,?g1,?g2,?g3,?g4,?g5,?g6,?g7,?g8,?g9,trivial⟩ ?post
 case g0 =>
  intro v w1 hx;intro K hK;go_simp;refine Q0e (Y1b _) ?_;rintro e w2 ⟨b,rfl,hm,hx2⟩;exact ⟨_,rfl,hK _ _ hx2 ⟨b,rfl,hm⟩⟩
 case g1 =>
  intro v w1 hx;refine ⟨_,fun w=>?_,rfl⟩;go_simp
 case g2 =>
  intro v w1 hx (q1:v 1 = .pointer (some ⟨w.heap.size,0,none⟩));have c0:=hx.cell c0;intro K hK;go_simp;exact hK _ _ (Ext.refl _) rfl
 case g3 =>
  intro v w1 hx (q0:(fun v w'=>∃ b,v 0 = .map (some b) ∧ Q3m w' b Q4y) v w1) (q1:v 1 = .pointer (some ⟨w.heap.size,0,none⟩)) (q2:v 2 = .string k);obtain ⟨b,hb0,hm0⟩:=q0;have hlk:=HLK.out _ b hm0;intro K hK;go_simp;exact hK _ _ (Ext.refl _) rfl
 case g4 =>
  intro v w1 hx (q0:(fun v w'=>∃ b,v 0 = .map (some b) ∧ Q3m w' b Q4y) v w1) (q1:v 1 = .pointer (some ⟨w.heap.size,0,none⟩)) (q2:v 2 = .string k) (q3:v 3 = .tuple #[.agg #[fx],.bool kb]);refine ⟨_,fun w=>?_,rfl⟩;go_simp
 case g5 =>
  intro v w1 hx (q0:(fun v w'=>∃ b,v 0 = .map (some b) ∧ Q3m w' b Q4y) v w1) (q1:v 1 = .pointer (some ⟨w.heap.size,0,none⟩)) (q2:v 2 = .string k) (q3:v 3 = .tuple #[.agg #[fx],.bool kb]) (q4:v 4 = .tuple #[.agg #[fx],.bool kb]);refine ⟨_,fun w=>?_,rfl⟩;go_simp
 case g6 =>
  intro v w1 hx (q0:(fun v w'=>∃ b,v 0 = .map (some b) ∧ Q3m w' b Q4y) v w1) (q1:v 1 = .pointer (some ⟨w.heap.size,0,none⟩)) (q2:v 2 = .string k) (q3:v 3 = .tuple #[.agg #[fx],.bool kb]) (q4:v 4 = .tuple #[.agg #[fx],.bool kb]);refine ⟨_,fun w=>?_,rfl⟩;go_simp
 case g7 =>
  intro v w1 hx;intro K hK;go_simp;exact hK _ _ (Ext.box _ _) ⟨_,rfl,hx.size,Blk.made _ _ _⟩
 case g8 =>
  intro v w1 hx (q0:(fun v w'=>∃ b,v 0 = .map (some b) ∧ Q3m w' b Q4y) v w1) (q1:v 1 = .pointer (some ⟨w.heap.size,0,none⟩)) (q2:v 2 = .string k) (q3:v 3 = .tuple #[.agg #[fx],.bool kb]) (q4:v 4 = .tuple #[.agg #[fx],.bool kb]) (q5:v 5 = .agg #[fx]) (q7:(fun v w'=>∃ g,v 7 = .pointer (some ⟨g,0,none⟩) ∧ W.heap.size ≤ g ∧ Blk w' g 184 #[.nilFunc]) v w1);intro wl hT;obtain rfl:wl = w1:=hT;intro bb hbb;intro K hK;obtain ⟨g,hg,hgs,hb⟩:=q7;have o1:bb.eval (.tmp 5) = .pointer (some ⟨g,0,none⟩):=by rw [hbb]; dsimp only; (try simp (discharger:=decide) only [eval_put_ne]); rw [Q0a (by simp only [size_put]; exact (by decide:5 < 46))]; exact hg
  have o2:bb.eval (.tmp 14) = .agg #[fx]:=by rw [hbb]; dsimp only; (try simp (discharger:=decide) only [eval_put_ne]); rw [Q0a (by simp only [size_put]; exact (by decide:14 < 46))]; exact q5
  clear hbb;exact X7y _ _ rfl Tryz.Z2p (g:=g) (k:=0) o1 o2 rfl HF1.out hb (by decide:0 < 1) (fun v'=>hK _ _ ((Below.refl _ _).setCell (p:=⟨g,0,none⟩) hgs _))
 case g9 =>
  intro v w1 hx (q0:(fun v w'=>∃ b,v 0 = .map (some b) ∧ Q3m w' b Q4y) v w1) (q1:v 1 = .pointer (some ⟨w.heap.size,0,none⟩)) (q2:v 2 = .string k) (q3:v 3 = .tuple #[.agg #[fx],.bool kb]) (q4:v 4 = .tuple #[.agg #[fx],.bool kb]) (q5:v 5 = .agg #[fx]) (q6:v 6 = .bool kb) (q7:(fun v w'=>∃ g,v 7 = .pointer (some ⟨g,0,none⟩) ∧ W.heap.size ≤ g ∧ Blk w' g 184 #[.nilFunc]) v w1);intro wl hT;replace hT:(fun v w1 w'=>Below W.heap.size w1 w') v w1 wl:=hT;intro bb hbb;subst hbb;intro K hK;go_simp;exact hK _ _ ⟨rfl,hT⟩
 case post =>
  intro v w1 hx (q0:(fun v w'=>∃ b,v 0 = .map (some b) ∧ Q3m w' b Q4y) v w1) (q1:v 1 = .pointer (some ⟨w.heap.size,0,none⟩)) (q2:v 2 = .string k) (q3:v 3 = .tuple #[.agg #[fx],.bool kb]) (q4:v 4 = .tuple #[.agg #[fx],.bool kb]) (q5:v 5 = .agg #[fx]) (q6:v 6 = .bool kb) (q7:(fun v w'=>∃ g,v 7 = .pointer (some ⟨g,0,none⟩) ∧ W.heap.size ≤ g ∧ Blk w' g 184 #[.nilFunc]) v w1);intro w2 hE;replace hE:(fun v w1 w'=>v 9 = .bool kb ∧ Below W.heap.size w1 w') v w1 w2:=hE;simp only [Flow.acts,Act.put];go_simp;obtain ⟨h9,hbl⟩:=hE;have hx2:Ext W w2:=Below.trans (hd1.trans hx) hbl;replace c0:=hx2.cell c0;replace c1:=hx2.cell c1;replace c2:=hx2.cell c2;have hxr:=hxW.trans hx2;replace HL:=Lib.hid (HL.out.ext hx2);clear h9 hbl hx hx2 hxW hd1 HLK HF1
  by_cases hv:k = Q5c
  · obtain ⟨E,hE⟩:∃ E,Q0h [Q0k (!kb) 13,Q0k ((l.length:Int) == 0) 12,Q0k (decide (12 < (l.length:Int))) 5,Q1h l n,Q0m need 1 l.length] = E:=⟨_,rfl⟩
    have HE:Hid (∀ (w':World) (u:Value),Q0f w' u [Q0k (!kb) 13,Q0k ((l.length:Int) == 0) 12,Q0k (decide (12 < (l.length:Int))) 5,Q1h l n,Q0m need 1 l.length] → Calls Tryz.prog 74 #[u] w' fun e w''=>e = .returned (.int .i64 E) ∧ w' = w''):=by
     exact (by intro w' u h; rw [← hE]; exact first_any _ _ _ h:∀ (w':World) (u:Value),Q0f w' u [Q0k (!kb) 13,Q0k ((l.length:Int) == 0) 12,Q0k (decide (12 < (l.length:Int))) 5,Q1h l n,Q0m need 1 l.length] → Calls Tryz.prog 74 #[u] w' fun e w''=>e = .returned (.int .i64 E) ∧ w' = w'')
    have hfin:X2q k need l n = E:=by
     unfold X2q leastOf Y4d;rw [if_pos hv,if_pos hv,HKB.out]; exact hE
    have HFIN:=Lib.hid hfin;rw [hv] at c0;unfold Q5c at c0;clear hE hfin hv HKB;go_wp2
    go_quiet (fail)
    all_goals go_wp2
    generalize hW3:w2.drewN _ = W3;have hx3:Ext w2 W3:=by rw [← hW3]; exact (Ext.refl _).drewN _
    replace c1:=hx3.cell c1;replace c2:=hx3.cell c2;replace hxr:=hxr.trans hx3;replace HL:=Lib.hid (HL.out.ext hx3);clear hW3 hx3;refine Flow.Q7w [.plain,.plain,.world,.plain,.world,.plain,.plain,.world,.plain,.world,.plain,.plain,.world,.plain,.world,.plain,.world,.plain,.world,.plain,.plain,.world,.world,.world,.plain] [0,1,2,3,4,5,6,7,8,9,10,11,12,13,14,15,16,17,18,19,20,21,22,23,24] [[],[0],[1],[],[3],[4],[5],[2,6],[],[8],[9],[10],[7,11],[],[13],[],[12,14,15],[],[17],[],[],[16,18,19,20],[2,7,12,16,21],[21,22],[0,1,2,3,4,5,6,7,8,9,10,11,12,13,14,15,16,17,18,19,20,21,22,23]]
     [.is 0 (fun v=>.bool kb),.is 1 (fun v=>.bool (!kb)),.is 2 (fun v=>.int .i64 (Q0k (!kb) 13)),.is 3 (fun v=>.pointer (some ⟨w.heap.size,2,none⟩)),.is 4 (fun v=>.slice A l.length cap),.is 5 (fun v=>.int .i64 ((l.length:Nat):Int)),.is 6 (fun v=>.bool ((l.length:Int) == 0)),.is 7 (fun v=>.int .i64 (Q0k ((l.length:Int) == 0) 12)),.is 8 (fun v=>.pointer (some ⟨w.heap.size,2,none⟩)),.is 9 (fun v=>.slice A l.length cap),.is 10 (fun v=>.int .i64 ((l.length:Nat):Int)),.is 11 (fun v=>.bool (decide (12 < (l.length:Int)))),.is 12 (fun v=>.int .i64 (Q0k (decide (12 < (l.length:Int))) 5)),.is 13 (fun v=>.pointer (some ⟨w.heap.size,2,none⟩)),.is 14 (fun v=>.slice A l.length cap),.is 15 (fun v=>.int .i64 n),.is 16 (fun v=>.int .i64 (Q1h l n)),.is 17 (fun v=>.pointer (some ⟨w.heap.size,1,none⟩)),.is 18 (fun v=>.int .i64 need),.is 19 (fun v=>.int .i64 1),.is 20 (fun v=>.int .i64 (l.length:Int)),.is 21 (fun v=>.int .i64 (Q0m need 1 (l.length:Int))),⟨fun v wz=>Q0f wz (v 22) [Q0k (!kb) 13,Q0k ((l.length:Int) == 0) 12,Q0k (decide (12 < (l.length:Int))) 5,Q1h l n,Q0m need 1 (l.length:Int)],fun _ _ _ hx h=>h.ext hx⟩,.is 23 (fun v=>.int .i64 E),.is 24 (fun v=>.int .i64 E)]
     (by kernel_rfl) rfl (by kernel_rfl) ⟨?g0,?g1,?g2,?g3,?g4,?g5,?g6,?g7,?g8,?g9,?g10,?g11,?g12,?g13,?g14,?g15,?g16,?g17,?g18,?g19,?g20,?g21,?g22,?g23,?g24,trivial⟩ ?post
    case g0 =>
     intro v w1 hx;refine ⟨_,fun w=>?_,rfl⟩;go_simp
    case g1 =>
     intro v w1 hx (q0:v 0 = .bool kb);refine ⟨_,fun w=>?_,rfl⟩;go_simp
    case g2 =>
     intro v w1 hx (q1:v 1 = .bool (!kb));intro K hK;go_simp;refine Q0e (Q3n _ _ _) ?_;rintro e w2 ⟨rfl,rfl⟩;exact ⟨_,rfl,hK _ _ (Ext.refl _) rfl⟩
    case g3 =>
     intro v w1 hx;refine ⟨_,fun w=>?_,rfl⟩;go_simp
    case g4 =>
     intro v w1 hx (q3:v 3 = .pointer (some ⟨w.heap.size,2,none⟩));have c2:=hx.cell c2;intro K hK;go_simp;exact hK _ _ (Ext.refl _) rfl
    case g5 =>
     intro v w1 hx (q4:v 4 = .slice A l.length cap);refine ⟨_,fun w=>?_,rfl⟩;go_simp
    case g6 =>
     intro v w1 hx (q5:v 5 = .int .i64 ((l.length:Nat):Int));refine ⟨_,fun w=>?_,rfl⟩;go_simp
    case g7 =>
     intro v w1 hx (q2:v 2 = .int .i64 (Q0k (!kb) 13)) (q6:v 6 = .bool ((l.length:Int) == 0));intro K hK;go_simp;refine Q0e (Q3n _ _ _) ?_;rintro e w2 ⟨rfl,rfl⟩;exact ⟨_,rfl,hK _ _ (Ext.refl _) rfl⟩
    case g8 =>
     intro v w1 hx;refine ⟨_,fun w=>?_,rfl⟩;go_simp
    case g9 =>
     intro v w1 hx (q8:v 8 = .pointer (some ⟨w.heap.size,2,none⟩));have c2:=hx.cell c2;intro K hK;go_simp;exact hK _ _ (Ext.refl _) rfl
    case g10 =>
     intro v w1 hx (q9:v 9 = .slice A l.length cap);refine ⟨_,fun w=>?_,rfl⟩;go_simp
    case g11 =>
     intro v w1 hx (q10:v 10 = .int .i64 ((l.length:Nat):Int));refine ⟨_,fun w=>?_,rfl⟩;go_simp
    case g12 =>
     intro v w1 hx (q7:v 7 = .int .i64 (Q0k ((l.length:Int) == 0) 12)) (q11:v 11 = .bool (decide (12 < (l.length:Int))));intro K hK;go_simp;refine Q0e (Q3n _ _ _) ?_;rintro e w2 ⟨rfl,rfl⟩;exact ⟨_,rfl,hK _ _ (Ext.refl _) rfl⟩
    case g13 =>
     intro v w1 hx;refine ⟨_,fun w=>?_,rfl⟩;go_simp
    case g14 =>
     intro v w1 hx (q13:v 13 = .pointer (some ⟨w.heap.size,2,none⟩));have c2:=hx.cell c2;intro K hK;go_simp;exact hK _ _ (Ext.refl _) rfl
    case g15 =>
     intro v w1 hx;refine ⟨_,fun w=>?_,rfl⟩;go_simp
    case g16 =>
     intro v w1 hx (q12:v 12 = .int .i64 (Q0k (decide (12 < (l.length:Int))) 5)) (q14:v 14 = .slice A l.length cap) (q15:v 15 = .int .i64 n);intro K hK;go_simp;refine Q0e (Q5g _ _ l n (HL.out.ext ((Ext.refl W3).drew.trans hx))) ?_;rintro e w2 ⟨rfl,hx2⟩;exact ⟨_,rfl,hK _ _ hx2 rfl⟩
    case g17 =>
     intro v w1 hx;refine ⟨_,fun w=>?_,rfl⟩;go_simp
    case g18 =>
     intro v w1 hx (q17:v 17 = .pointer (some ⟨w.heap.size,1,none⟩));have c1:=hx.cell c1;intro K hK;go_simp;exact hK _ _ (Ext.refl _) rfl
    case g19 =>
     intro v w1 hx;refine ⟨_,fun w=>?_,rfl⟩;go_simp
    case g20 =>
     intro v w1 hx;refine ⟨_,fun w=>?_,rfl⟩;go_simp
    case g21 =>
     intro v w1 hx (q16:v 16 = .int .i64 (Q1h l n)) (q18:v 18 = .int .i64 need) (q19:v 19 = .int .i64 1) (q20:v 20 = .int .i64 (l.length:Int));intro K hK;go_simp;refine Q0e (Q8h _ _ _ _) ?_;rintro e w2 ⟨rfl,rfl⟩;exact ⟨_,rfl,hK _ _ (Ext.refl _) rfl⟩
    case g22 =>
     intro v w1 hx (q2:v 2 = .int .i64 (Q0k (!kb) 13)) (q7:v 7 = .int .i64 (Q0k ((l.length:Int) == 0) 12)) (q12:v 12 = .int .i64 (Q0k (decide (12 < (l.length:Int))) 5)) (q16:v 16 = .int .i64 (Q1h l n)) (q21:v 21 = .int .i64 (Q0m need 1 (l.length:Int)));intro K hK;go_simp;exact hK _ _ (Ext.box _ _) (Q2m (l:=[Q0k (!kb) 13,Q0k ((l.length:Int) == 0) 12,Q0k (decide (12 < (l.length:Int))) 5,Q1h l n,Q0m need 1 (l.length:Int)]) (by simp))
    case g23 =>
     intro v w1 hx (q21:v 21 = .int .i64 (Q0m need 1 (l.length:Int))) (q22:Q0f w1 (v 22) [Q0k (!kb) 13,Q0k ((l.length:Int) == 0) 12,Q0k (decide (12 < (l.length:Int))) 5,Q1h l n,Q0m need 1 (l.length:Int)]);intro K hK;go_simp;refine Q0e (HE.out _ _ q22) ?_;rintro e w2 ⟨rfl,rfl⟩;exact ⟨_,rfl,hK _ _ (Ext.refl _) rfl⟩
    case g24 =>
     intro v w1 hx (q0:v 0 = .bool kb) (q1:v 1 = .bool (!kb)) (q2:v 2 = .int .i64 (Q0k (!kb) 13)) (q3:v 3 = .pointer (some ⟨w.heap.size,2,none⟩)) (q4:v 4 = .slice A l.length cap) (q5:v 5 = .int .i64 ((l.length:Nat):Int)) (q6:v 6 = .bool ((l.length:Int) == 0)) (q7:v 7 = .int .i64 (Q0k ((l.length:Int) == 0) 12)) (q8:v 8 = .pointer (some ⟨w.heap.size,2,none⟩)) (q9:v 9 = .slice A l.length cap) (q10:v 10 = .int .i64 ((l.length:Nat):Int)) (q11:v 11 = .bool (decide (12 < (l.length:Int)))) (q12:v 12 = .int .i64 (Q0k (decide (12 < (l.length:Int))) 5)) (q13:v 13 = .pointer (some ⟨w.heap.size,2,none⟩)) (q14:v 14 = .slice A l.length cap) (q15:v 15 = .int .i64 n) (q16:v 16 = .int .i64 (Q1h l n)) (q17:v 17 = .pointer (some ⟨w.heap.size,1,none⟩)) (q18:v 18 = .int .i64 need) (q19:v 19 = .int .i64 1) (q20:v 20 = .int .i64 (l.length:Int)) (q21:v 21 = .int .i64 (Q0m need 1 (l.length:Int))) (q22:Q0f w1 (v 22) [Q0k (!kb) 13,Q0k ((l.length:Int) == 0) 12,Q0k (decide (12 < (l.length:Int))) 5,Q1h l n,Q0m need 1 (l.length:Int)]) (q23:v 23 = .int .i64 E);refine ⟨_,fun w=>?_,rfl⟩;go_simp
    case post =>
     intro v w1 hx (q0:v 0 = .bool kb) (q1:v 1 = .bool (!kb)) (q2:v 2 = .int .i64 (Q0k (!kb) 13)) (q3:v 3 = .pointer (some ⟨w.heap.size,2,none⟩)) (q4:v 4 = .slice A l.length cap) (q5:v 5 = .int .i64 ((l.length:Nat):Int)) (q6:v 6 = .bool ((l.length:Int) == 0)) (q7:v 7 = .int .i64 (Q0k ((l.length:Int) == 0) 12)) (q8:v 8 = .pointer (some ⟨w.heap.size,2,none⟩)) (q9:v 9 = .slice A l.length cap) (q10:v 10 = .int .i64 ((l.length:Nat):Int)) (q11:v 11 = .bool (decide (12 < (l.length:Int)))) (q12:v 12 = .int .i64 (Q0k (decide (12 < (l.length:Int))) 5)) (q13:v 13 = .pointer (some ⟨w.heap.size,2,none⟩)) (q14:v 14 = .slice A l.length cap) (q15:v 15 = .int .i64 n) (q16:v 16 = .int .i64 (Q1h l n)) (q17:v 17 = .pointer (some ⟨w.heap.size,1,none⟩)) (q18:v 18 = .int .i64 need) (q19:v 19 = .int .i64 1) (q20:v 20 = .int .i64 (l.length:Int)) (q21:v 21 = .int .i64 (Q0m need 1 (l.length:Int))) (q22:Q0f w1 (v 22) [Q0k (!kb) 13,Q0k ((l.length:Int) == 0) 12,Q0k (decide (12 < (l.length:Int))) 5,Q1h l n,Q0m need 1 (l.length:Int)]) (q23:v 23 = .int .i64 E) (q24:v 24 = .int .i64 E);simp only [Flow.All,Flow.acts,Act.put];go_simp;go_wp2;go_ret;exact ⟨Q1f HFIN.out.symm,hxr.trans ((Ext.refl W3).drew.trans hx)⟩
  · have hb1:=Q6r X4n hv
    obtain ⟨E,hE⟩:∃ E,Q0h [Q0k (!kb) 13,Q0k ((l.length:Int) == 0) 12,Q0k (decide (12 < (l.length:Int))) 5,Q1h l n,Q0m need 0 0] = E:=⟨_,rfl⟩;have HE:Hid (∀ (w':World) (u:Value),Q0f w' u [Q0k (!kb) 13,Q0k ((l.length:Int) == 0) 12,Q0k (decide (12 < (l.length:Int))) 5,Q1h l n,Q0m need 0 0] → Calls Tryz.prog 74 #[u] w' fun e w''=>e = .returned (.int .i64 E) ∧ w' = w''):=by
     exact (by intro w' u h; rw [← hE]; exact first_any _ _ _ h:∀ (w':World) (u:Value),Q0f w' u [Q0k (!kb) 13,Q0k ((l.length:Int) == 0) 12,Q0k (decide (12 < (l.length:Int))) 5,Q1h l n,Q0m need 0 0] → Calls Tryz.prog 74 #[u] w' fun e w''=>e = .returned (.int .i64 E) ∧ w' = w'')
    have hfin:X2q k need l n = E:=by
     unfold X2q leastOf Y4d;rw [if_neg hv,if_neg hv,HKB.out]; exact hE
    have HFIN:=Lib.hid hfin;clear hE hfin hv HKB;go_wp2;refine Flow.Q7w [.plain,.plain,.world,.plain,.world,.plain,.plain,.world,.plain,.world,.plain,.plain,.world,.plain,.world,.plain,.world,.plain,.world,.plain,.plain,.world,.world,.world,.plain] [0,1,2,3,4,5,6,7,8,9,10,11,12,13,14,15,16,17,18,19,20,21,22,23,24] [[],[0],[1],[],[3],[4],[5],[2,6],[],[8],[9],[10],[7,11],[],[13],[],[12,14,15],[],[17],[],[],[16,18,19,20],[2,7,12,16,21],[21,22],[0,1,2,3,4,5,6,7,8,9,10,11,12,13,14,15,16,17,18,19,20,21,22,23]]
     [.is 0 (fun v=>.bool kb),.is 1 (fun v=>.bool (!kb)),.is 2 (fun v=>.int .i64 (Q0k (!kb) 13)),.is 3 (fun v=>.pointer (some ⟨w.heap.size,2,none⟩)),.is 4 (fun v=>.slice A l.length cap),.is 5 (fun v=>.int .i64 ((l.length:Nat):Int)),.is 6 (fun v=>.bool ((l.length:Int) == 0)),.is 7 (fun v=>.int .i64 (Q0k ((l.length:Int) == 0) 12)),.is 8 (fun v=>.pointer (some ⟨w.heap.size,2,none⟩)),.is 9 (fun v=>.slice A l.length cap),.is 10 (fun v=>.int .i64 ((l.length:Nat):Int)),.is 11 (fun v=>.bool (decide (12 < (l.length:Int)))),.is 12 (fun v=>.int .i64 (Q0k (decide (12 < (l.length:Int))) 5)),.is 13 (fun v=>.pointer (some ⟨w.heap.size,2,none⟩)),.is 14 (fun v=>.slice A l.length cap),.is 15 (fun v=>.int .i64 n),.is 16 (fun v=>.int .i64 (Q1h l n)),.is 17 (fun v=>.pointer (some ⟨w.heap.size,1,none⟩)),.is 18 (fun v=>.int .i64 need),.is 19 (fun v=>.int .i64 0),.is 20 (fun v=>.int .i64 0),.is 21 (fun v=>.int .i64 (Q0m need 0 0)),⟨fun v wz=>Q0f wz (v 22) [Q0k (!kb) 13,Q0k ((l.length:Int) == 0) 12,Q0k (decide (12 < (l.length:Int))) 5,Q1h l n,Q0m need 0 0],fun _ _ _ hx h=>h.ext hx⟩,.is 23 (fun v=>.int .i64 E),.is 24 (fun v=>.int .i64 E)]
     (by kernel_rfl) rfl (by kernel_rfl) ⟨?g0,?g1,?g2,?g3,?g4,?g5,?g6,?g7,?g8,?g9,?g10,?g11,?g12,?g13,?g14,?g15,?g16,?g17,?g18,?g19,?g20,?g21,?g22,?g23,?g24,trivial⟩ ?post
    case g0 =>
     intro v w1 hx;refine ⟨_,fun w=>?_,rfl⟩;go_simp
    case g1 =>
     intro v w1 hx (q0:v 0 = .bool kb);refine ⟨_,fun w=>?_,rfl⟩;go_simp
    case g2 =>
     intro v w1 hx (q1:v 1 = .bool (!kb));intro K hK;go_simp;refine Q0e (Q3n _ _ _) ?_;rintro e w2 ⟨rfl,rfl⟩;exact ⟨_,rfl,hK _ _ (Ext.refl _) rfl⟩
    case g3 =>
     intro v w1 hx;refine ⟨_,fun w=>?_,rfl⟩;go_simp
    case g4 =>
     intro v w1 hx (q3:v 3 = .pointer (some ⟨w.heap.size,2,none⟩));have c2:=hx.cell c2;intro K hK;go_simp;exact hK _ _ (Ext.refl _) rfl
    case g5 =>
     intro v w1 hx (q4:v 4 = .slice A l.length cap);refine ⟨_,fun w=>?_,rfl⟩;go_simp
    case g6 =>
     intro v w1 hx (q5:v 5 = .int .i64 ((l.length:Nat):Int));refine ⟨_,fun w=>?_,rfl⟩;go_simp
    case g7 =>
     intro v w1 hx (q2:v 2 = .int .i64 (Q0k (!kb) 13)) (q6:v 6 = .bool ((l.length:Int) == 0));intro K hK;go_simp;refine Q0e (Q3n _ _ _) ?_;rintro e w2 ⟨rfl,rfl⟩;exact ⟨_,rfl,hK _ _ (Ext.refl _) rfl⟩
    case g8 =>
     intro v w1 hx;refine ⟨_,fun w=>?_,rfl⟩;go_simp
    case g9 =>
     intro v w1 hx (q8:v 8 = .pointer (some ⟨w.heap.size,2,none⟩));have c2:=hx.cell c2;intro K hK;go_simp;exact hK _ _ (Ext.refl _) rfl
    case g10 =>
     intro v w1 hx (q9:v 9 = .slice A l.length cap);refine ⟨_,fun w=>?_,rfl⟩;go_simp
    case g11 =>
     intro v w1 hx (q10:v 10 = .int .i64 ((l.length:Nat):Int));refine ⟨_,fun w=>?_,rfl⟩;go_simp
    case g12 =>
     intro v w1 hx (q7:v 7 = .int .i64 (Q0k ((l.length:Int) == 0) 12)) (q11:v 11 = .bool (decide (12 < (l.length:Int))));intro K hK;go_simp;refine Q0e (Q3n _ _ _) ?_;rintro e w2 ⟨rfl,rfl⟩;exact ⟨_,rfl,hK _ _ (Ext.refl _) rfl⟩
    case g13 =>
     intro v w1 hx;refine ⟨_,fun w=>?_,rfl⟩;go_simp
    case g14 =>
     intro v w1 hx (q13:v 13 = .pointer (some ⟨w.heap.size,2,none⟩));have c2:=hx.cell c2;intro K hK;go_simp;exact hK _ _ (Ext.refl _) rfl
    case g15 =>
     intro v w1 hx;refine ⟨_,fun w=>?_,rfl⟩;go_simp
    case g16 =>
     intro v w1 hx (q12:v 12 = .int .i64 (Q0k (decide (12 < (l.length:Int))) 5)) (q14:v 14 = .slice A l.length cap) (q15:v 15 = .int .i64 n);intro K hK;go_simp;refine Q0e (Q5g _ _ l n (HL.out.ext ((Ext.refl w2).drew.trans hx))) ?_;rintro e w2 ⟨rfl,hx2⟩;exact ⟨_,rfl,hK _ _ hx2 rfl⟩
    case g17 =>
     intro v w1 hx;refine ⟨_,fun w=>?_,rfl⟩;go_simp
    case g18 =>
     intro v w1 hx (q17:v 17 = .pointer (some ⟨w.heap.size,1,none⟩));have c1:=hx.cell c1;intro K hK;go_simp;exact hK _ _ (Ext.refl _) rfl
    case g19 =>
     intro v w1 hx;refine ⟨_,fun w=>?_,rfl⟩;go_simp
    case g20 =>
     intro v w1 hx;refine ⟨_,fun w=>?_,rfl⟩;go_simp
    case g21 =>
     intro v w1 hx (q16:v 16 = .int .i64 (Q1h l n)) (q18:v 18 = .int .i64 need) (q19:v 19 = .int .i64 0) (q20:v 20 = .int .i64 0);intro K hK;go_simp;refine Q0e (Q8h _ _ _ _) ?_;rintro e w2 ⟨rfl,rfl⟩;exact ⟨_,rfl,hK _ _ (Ext.refl _) rfl⟩
    case g22 =>
     intro v w1 hx (q2:v 2 = .int .i64 (Q0k (!kb) 13)) (q7:v 7 = .int .i64 (Q0k ((l.length:Int) == 0) 12)) (q12:v 12 = .int .i64 (Q0k (decide (12 < (l.length:Int))) 5)) (q16:v 16 = .int .i64 (Q1h l n)) (q21:v 21 = .int .i64 (Q0m need 0 0));intro K hK;go_simp;exact hK _ _ (Ext.box _ _) (Q2m (l:=[Q0k (!kb) 13,Q0k ((l.length:Int) == 0) 12,Q0k (decide (12 < (l.length:Int))) 5,Q1h l n,Q0m need 0 0]) (by simp))
    case g23 =>
     intro v w1 hx (q21:v 21 = .int .i64 (Q0m need 0 0)) (q22:Q0f w1 (v 22) [Q0k (!kb) 13,Q0k ((l.length:Int) == 0) 12,Q0k (decide (12 < (l.length:Int))) 5,Q1h l n,Q0m need 0 0]);intro K hK;go_simp;refine Q0e (HE.out _ _ q22) ?_;rintro e w2 ⟨rfl,rfl⟩;exact ⟨_,rfl,hK _ _ (Ext.refl _) rfl⟩
    case g24 =>
     intro v w1 hx (q0:v 0 = .bool kb) (q1:v 1 = .bool (!kb)) (q2:v 2 = .int .i64 (Q0k (!kb) 13)) (q3:v 3 = .pointer (some ⟨w.heap.size,2,none⟩)) (q4:v 4 = .slice A l.length cap) (q5:v 5 = .int .i64 ((l.length:Nat):Int)) (q6:v 6 = .bool ((l.length:Int) == 0)) (q7:v 7 = .int .i64 (Q0k ((l.length:Int) == 0) 12)) (q8:v 8 = .pointer (some ⟨w.heap.size,2,none⟩)) (q9:v 9 = .slice A l.length cap) (q10:v 10 = .int .i64 ((l.length:Nat):Int)) (q11:v 11 = .bool (decide (12 < (l.length:Int)))) (q12:v 12 = .int .i64 (Q0k (decide (12 < (l.length:Int))) 5)) (q13:v 13 = .pointer (some ⟨w.heap.size,2,none⟩)) (q14:v 14 = .slice A l.length cap) (q15:v 15 = .int .i64 n) (q16:v 16 = .int .i64 (Q1h l n)) (q17:v 17 = .pointer (some ⟨w.heap.size,1,none⟩)) (q18:v 18 = .int .i64 need) (q19:v 19 = .int .i64 0) (q20:v 20 = .int .i64 0) (q21:v 21 = .int .i64 (Q0m need 0 0)) (q22:Q0f w1 (v 22) [Q0k (!kb) 13,Q0k ((l.length:Int) == 0) 12,Q0k (decide (12 < (l.length:Int))) 5,Q1h l n,Q0m need 0 0]) (q23:v 23 = .int .i64 E);refine ⟨_,fun w=>?_,rfl⟩;go_simp
    case post =>
     intro v w1 hx (q0:v 0 = .bool kb) (q1:v 1 = .bool (!kb)) (q2:v 2 = .int .i64 (Q0k (!kb) 13)) (q3:v 3 = .pointer (some ⟨w.heap.size,2,none⟩)) (q4:v 4 = .slice A l.length cap) (q5:v 5 = .int .i64 ((l.length:Nat):Int)) (q6:v 6 = .bool ((l.length:Int) == 0)) (q7:v 7 = .int .i64 (Q0k ((l.length:Int) == 0) 12)) (q8:v 8 = .pointer (some ⟨w.heap.size,2,none⟩)) (q9:v 9 = .slice A l.length cap) (q10:v 10 = .int .i64 ((l.length:Nat):Int)) (q11:v 11 = .bool (decide (12 < (l.length:Int)))) (q12:v 12 = .int .i64 (Q0k (decide (12 < (l.length:Int))) 5)) (q13:v 13 = .pointer (some ⟨w.heap.size,2,none⟩)) (q14:v 14 = .slice A l.length cap) (q15:v 15 = .int .i64 n) (q16:v 16 = .int .i64 (Q1h l n)) (q17:v 17 = .pointer (some ⟨w.heap.size,1,none⟩)) (q18:v 18 = .int .i64 need) (q19:v 19 = .int .i64 0) (q20:v 20 = .int .i64 0) (q21:v 21 = .int .i64 (Q0m need 0 0)) (q22:Q0f w1 (v 22) [Q0k (!kb) 13,Q0k ((l.length:Int) == 0) 12,Q0k (decide (12 < (l.length:Int))) 5,Q1h l n,Q0m need 0 0]) (q23:v 23 = .int .i64 E) (q24:v 24 = .int .i64 E);simp only [Flow.All,Flow.acts,Act.put];go_simp;go_wp2;go_ret;exact ⟨Q1f HFIN.out.symm,hxr.trans ((Ext.refl w2).drew.trans hx)⟩
end Go.Proofs
