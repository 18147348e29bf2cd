/- Contract: the closure of CheckTree, which keeps the names in a map. Contract: CheckTree. -/
import Derived.Test.YtmaejccjimkbiaaGreatDoorFx12
set_option linter.unusedVariables false
set_option linter.unusedSimpArgs false
set_option linter.constructorNameAsVariable false
namespace Go.Proofs
open Go.RowKit Go.Tw Go.Flow
theorem Y3x (s x:ByteArray) (v:Value):∀ l:List (ByteArray × Value),Q6j x (Y6x s v l) = if x = s then some v else Q6j x l
 | []=>by
   unfold Y6x Q6j
   by_cases h:x = s
   · rw [if_pos (str_eq h),if_pos h]
   · rw [Q5k h,if_neg (by simp),if_neg h]; rfl
 | p :: l=>by
   unfold Y6x
   by_cases hs:(s == p.1) = true
   · have hsp:=Y1q hs
     rw [if_pos hs];unfold Q6j
     by_cases h:x = s
     · rw [if_pos (str_eq h),if_pos h]
     · rw [Q5k h,if_neg (by simp),if_neg h,if_neg (by rw [Q5k (by rw [← hsp]; exact h)]; simp)]
   · rw [if_neg hs]
     unfold Q6j;rw [Y3x s x v l]
     by_cases h:x = s
     · simp only [if_pos h]; rw [if_neg (by rw [h]; exact hs)]
     · simp only [if_neg h]
def Knows (l:List (ByteArray × Value)) (ev:ByteArray → Bool):Prop:=∀ s,(Q6j s l).getD (.bool false) = .bool (ev s)
theorem Knows.nil:Knows [] (fun _=>false):=fun _=>rfl
theorem Knows.put {l:List (ByteArray × Value)} {ev:ByteArray → Bool} (h:Knows l ev) (s:ByteArray):Knows (Y6x s (.bool true) l) (fun x=>ev x || decide (x = s)):=fun x=>by
 rw [Y3x]
 by_cases hx:x = s
 · rw [if_pos hx]; simp [hx]
 · rw [if_neg hx,h x]; simp [hx]
def checkN (s:ByteArray) (c:Int) (kn:Bool):Int:=Q0h [Q0k (!nameB s) 8,Q0m c 0 16,Q0k kn 9]
theorem Z2w:Tryz.prog.underlying 173 = some (.map 9 4):=by kernel_rfl
theorem Z5x (w:World):(zeroValue 4).run Tryz.prog w = .ok (.bool false) w:=by kernel_rfl
set_option maxRecDepth 100000 in
set_option maxHeartbeats 2000000 in
theorem X6o (w:World) (s:ByteArray) (c:Int) (B b:Nat) (l:List (ByteArray × Value)) (ev:ByteArray → Bool) (hs:Short s) (hB:w.cell? ⟨B,0,none⟩ = some (.map (some b))) (hm:Q3m w b l) (hk:Knows l ev) :
    Calls Tryz.prog 121 #[.string s,.int .i64 c,.pointer (some ⟨B,0,none⟩)] w fun e w'=>e = .returned (.int .i64 (checkN s c (ev s))) ∧ Q3m w' b (Y6x s (.bool true) l) ∧ w'.cell? ⟨B,0,none⟩ = some (.map (some b)) ∧ (∀ n,n ≤ b → Below n w w') ∧ w.grownBy w' (some b):=by
 have HM:=Lib.hid hm;have HS:=Lib.hid hs;obtain ⟨kn,hkn⟩:∃ kn,ev s = kn:=⟨_,rfl⟩;have HLK:Hid (∀ w',Ext w w' → (Instr.lookup 173 (.map (some b)) (.string s) false).run Tryz.prog w' = .ok (.bool kn) w'):=by
  exact (by intro w' h; have h:=Q7s (P:=Tryz.prog) (hm.ext h) Z2w Z3m (Z5x _) s false; rw [if_neg (by simp),hk s,hkn] at h; exact h:∀ w',Ext w w' → (Instr.lookup 173 (.map (some b)) (.string s) false).run Tryz.prog w' = .ok (.bool kn) w')
 rw [hkn];obtain ⟨nb,hnb⟩:∃ nb,nameB s = nb:=⟨_,rfl⟩;have HNB:Hid (∀ w',Calls Tryz.prog 122 #[.string s] w' fun e w''=>e = .returned (.bool nb) ∧ Ext w' w''):=by
  exact (by intro w'; rw [← hnb]; exact Y5y w' s hs:∀ w',Calls Tryz.prog 122 #[.string s] w' fun e w''=>e = .returned (.bool nb) ∧ Ext w' w'')
 obtain ⟨E,hE⟩:∃ E,Q0h [Q0k (!nb) 8,Q0m c 0 16,Q0k kn 9] = E:=⟨_,rfl⟩;have HE:Hid (∀ (w':World) (u:Value),Q0f w' u [Q0k (!nb) 8,Q0m c 0 16,Q0k kn 9] → Calls Tryz.prog 74 #[u] w' fun e w''=>e = .returned (.int .i64 E) ∧ w' = w''):=by
  exact (by intro w' u h; rw [← hE]; exact first_any _ _ _ h:∀ (w':World) (u:Value),Q0f w' u [Q0k (!nb) 8,Q0m c 0 16,Q0k kn 9] → Calls Tryz.prog 74 #[u] w' fun e w''=>e = .returned (.int .i64 E) ∧ w' = w'')
 have hfin:checkN s c kn = E:=by unfold checkN; rw [hnb]; exact hE
 rw [hfin];clear hm hk hkn hs hnb hE hfin;go_enter Tryz.func121,Tryz.ntmps121;go_wp2;refine Flow.Q7w [.plain,.world,.plain,.world,.plain,.world,.world,.plain,.world,.world,.world,.world,.plain] [0,1,2,3,4,5,6,7,8,9,10,11,12] [[],[0],[1],[1,2],[],[3,4],[],[],[6,7],[5,8],[3,5,9],[9,10],[0,1,2,3,4,5,6,7,8,9,10,11]]
  [.is 0 (fun v=>.string s),.is 1 (fun v=>.bool nb),.is 2 (fun v=>.bool (!nb)),.is 3 (fun v=>.int .i64 (Q0k (!nb) 8)),.is 4 (fun v=>.int .i64 c),.is 5 (fun v=>.int .i64 (Q0m c 0 16)),.is 6 (fun v=>.map (some b)),.is 7 (fun v=>.string s),.is 8 (fun v=>.bool kn),.is 9 (fun v=>.int .i64 (Q0k kn 9)),⟨fun v wz=>Q0f wz (v 10) [Q0k (!nb) 8,Q0m c 0 16,Q0k kn 9],fun _ _ _ hx h=>h.ext hx⟩,.is 11 (fun v=>.int .i64 E),.is 12 (fun v=>.int .i64 E)]
  (by kernel_rfl) rfl (by kernel_rfl) ⟨?g0,?g1,?g2,?g3,?g4,?g5,?g6,?g7,?g8,?g9,?g10,?g11,?g12,trivial⟩ ?post
 case g0 =>
  intro v w1 hx;refine ⟨_,fun w=>?_,rfl⟩;go_simp
 case g1 =>
  intro v w1 hx (q0:v 0 = .string s);intro K hK;go_simp;refine Q0e (HNB.out _) ?_;rintro e w2 ⟨rfl,hx2⟩;exact ⟨_,rfl,hK _ _ hx2 rfl⟩
 case g2 =>
  intro v w1 hx (q1:v 1 = .bool nb);refine ⟨_,fun w=>?_,rfl⟩;go_simp
 case g3 =>
  intro v w1 hx (q1:v 1 = .bool nb) (q2:v 2 = .bool (!nb));intro K hK;go_simp;refine Q0e (Q3n _ _ _) ?_;rintro e w2 ⟨rfl,rfl⟩;exact ⟨_,rfl,hK _ _ (Ext.refl _) rfl⟩
 case g4 =>
  intro v w1 hx;refine ⟨_,fun w=>?_,rfl⟩;go_simp
 case g5 =>
  intro v w1 hx (q3:v 3 = .int .i64 (Q0k (!nb) 8)) (q4:v 4 = .int .i64 c);intro K hK;go_simp;refine Q0e (Q8h _ _ _ _) ?_;rintro e w2 ⟨rfl,rfl⟩;exact ⟨_,rfl,hK _ _ (Ext.refl _) rfl⟩
 case g6 =>
  intro v w1 hx;have hB:=hx.cell hB;intro K hK;go_simp;exact hK _ _ (Ext.refl _) rfl
 case g7 =>
  intro v w1 hx;refine ⟨_,fun w=>?_,rfl⟩;go_simp
 case g8 =>
  intro v w1 hx (q6:v 6 = .map (some b)) (q7:v 7 = .string s);have hlk:=HLK.out _ ((Ext.refl w).drew.trans hx);intro K hK;go_simp;exact hK _ _ (Ext.refl _) rfl
 case g9 =>
  intro v w1 hx (q5:v 5 = .int .i64 (Q0m c 0 16)) (q8:v 8 = .bool kn);intro K hK;go_simp;refine Q0e (Q3n _ _ _) ?_;rintro e w2 ⟨rfl,rfl⟩;exact ⟨_,rfl,hK _ _ (Ext.refl _) rfl⟩
 case g10 =>
  intro v w1 hx (q3:v 3 = .int .i64 (Q0k (!nb) 8)) (q5:v 5 = .int .i64 (Q0m c 0 16)) (q9:v 9 = .int .i64 (Q0k kn 9));intro K hK;go_simp;exact hK _ _ (Ext.box _ _) (Q2m (l:=[Q0k (!nb) 8,Q0m c 0 16,Q0k kn 9]) (by simp))
 case g11 =>
  intro v w1 hx (q9:v 9 = .int .i64 (Q0k kn 9)) (q10:Q0f w1 (v 10) [Q0k (!nb) 8,Q0m c 0 16,Q0k kn 9]);intro K hK;go_simp;refine Q0e (HE.out _ _ q10) ?_;rintro e w2 ⟨rfl,rfl⟩;exact ⟨_,rfl,hK _ _ (Ext.refl _) rfl⟩
 case g12 =>
  intro v w1 hx (q0:v 0 = .string s) (q1:v 1 = .bool nb) (q2:v 2 = .bool (!nb)) (q3:v 3 = .int .i64 (Q0k (!nb) 8)) (q4:v 4 = .int .i64 c) (q5:v 5 = .int .i64 (Q0m c 0 16)) (q6:v 6 = .map (some b)) (q7:v 7 = .string s) (q8:v 8 = .bool kn) (q9:v 9 = .int .i64 (Q0k kn 9)) (q10:Q0f w1 (v 10) [Q0k (!nb) 8,Q0m c 0 16,Q0k kn 9]) (q11:v 11 = .int .i64 E);refine ⟨_,fun w=>?_,rfl⟩;go_simp
 case post =>
  intro v w1 hx (q0:v 0 = .string s) (q1:v 1 = .bool nb) (q2:v 2 = .bool (!nb)) (q3:v 3 = .int .i64 (Q0k (!nb) 8)) (q4:v 4 = .int .i64 c) (q5:v 5 = .int .i64 (Q0m c 0 16)) (q6:v 6 = .map (some b)) (q7:v 7 = .string s) (q8:v 8 = .bool kn) (q9:v 9 = .int .i64 (Q0k kn 9)) (q10:Q0f w1 (v 10) [Q0k (!nb) 8,Q0m c 0 16,Q0k kn 9]) (q11:v 11 = .int .i64 E) (q12:v 12 = .int .i64 E);simp only [Flow.All,Flow.acts,Act.put];go_simp;have hxx:=(Ext.refl w).drew.trans hx;obtain ⟨w2,hput,hm2,hb2,hg2⟩:=Q8k (P:=Tryz.prog) (HM.out.ext hxx) Z2w Z3m s (.bool true);have hB1:=hxx.cell hB;have hbl:b < w.heap.size:=HM.out.lt;have hne:b ≠ B:=fun e=>by
   obtain ⟨a0,c0,h0,_⟩:=HM.out;rw [e] at h0;simp [World.cell?,h0] at hB
  have hB2:w2.cell? ⟨B,0,none⟩ = some (.map (some b)):=(X0b hg2 (World.block_lt_of_cell? _ _ hB1) (by intro h; injection h with h; exact hne h.symm)).trans hB1
  have HX:=Lib.hid hxx;have hgx:w.grownBy w1 (some b):=⟨hxx.os,hxx.tape,hxx.output,hxx.size,fun k hk _=>hxx.block k hk⟩;have HG2:Hid (w.grownBy w2 (some b)):=by exact hgx.trans hg2
  have HM2:=Lib.hid hm2;have HB2:=Lib.hid hb2;clear hm2 hb2 hB hne hxx hg2 hgx;go_wp2;go_ret;exact ⟨rfl,HM2.out,hB2,fun n hn=>Below.trans (Below.mono HX.out (by omega)) (HB2.out n hn),HG2.out⟩
end Go.Proofs
namespace Go.Proofs
open Go.RowKit Go.Tw Go.Flow
def Q2y (b:Bool) (x:Value):Value:=if b then undef else x
theorem Y2h (a b c:Int):Q0h [a,b,c,0] = Q0h [a,b,c]:=by
 simp only [Q0h]; split <;> (try split) <;> (try split) <;> simp
def known (t:Tree) (i:Nat) (s:ByteArray):Bool:=(List.range i).any fun k=>t.nameAt k == s
theorem X6t (t:Tree) (i:Nat):known t (i + 1) = fun x=>known t i x || decide (x = t.nameAt i):=by
 funext x
 unfold known;rw [List.range_succ,List.any_append]
 congr 1
 simp only [List.any_cons,List.any_nil,Bool.or_false]
 by_cases h:x = t.nameAt i
 · rw [str_eq h.symm,decide_eq_true h]
 · rw [Q5k (fun e=>h e.symm),decide_eq_false h]
theorem Y7w (t:Tree) {i:Nat} (h:i < t.basics.length):checkN (bName t.basics i) (Q1l t.basics i) (known t i (bName t.basics i)) = t.Q0u i:=by
 have hn:t.nameAt i = bName t.basics i:=by unfold Tree.nameAt; rw [if_pos h]
 have hc:t.Q0y i = Q1l t.basics i:=by unfold Tree.Q0y; rw [if_pos h]
 unfold Tree.Q0u checkN Q0k Q2z Tree.Q7j known;rw [hn,hc,if_pos h,Y2h];cases nameB (bName t.basics i) <;> rfl
def Z2y (e:Int) (m:List Int) (nb:Nat):Int:=Q0h [e,Q0k ((m.length:Int) == 0) 12,Q1h m nb]
theorem Q9e:∀ l r:List Int,Q0h (l ++ r) = if Q0h l = 0 then Q0h r else Q0h l
 | [],r=>by simp [Q0h]
 | x :: l,r=>by
   rw [List.cons_append,Q0h,Q0h]
   by_cases h:x = 0
   · rw [if_pos h,if_pos h]; exact Q9e l r
   · rw [if_neg h,if_neg h,if_neg h]
theorem Y6g (a b c d:Int):Q0h [Q0h [a,b,c],d] = Q0h [a,b,c,d]:=by
 rw [show [a,b,c,d] = [a,b,c] ++ [d] from rfl,Q9e]
 generalize Q0h [a,b,c] = x;simp only [Q0h]
theorem Y5f (x:Int) (m:List Int) (n:Int):Q0h [x,Q0k ((m.length:Int) == 0) 12,Q1h m n] = Q0h [x,Q2s m n]:=by
 unfold Q2s Q0k;cases m with
 | nil=>simp [Q0h]
 | cons y l =>
   have h0:(((y :: l).length:Int) == 0) = false:=by rw [beq_eq_false_iff_ne]; simp; omega
   rw [h0];simp [Q0h]
theorem Y6y (t:Tree) (j:Nat):Z2y (checkN (cName t.causes j) (Q1d t.causes j) (known t (t.basics.length + j) (cName t.causes j))) (Q0c t.causes j) t.basics.length = t.Q0u (t.basics.length + j):=by
 have hn:t.nameAt (t.basics.length + j) = cName t.causes j:=by unfold Tree.nameAt; rw [if_neg (by omega),Nat.add_sub_cancel_left]
 have hc:t.Q0y (t.basics.length + j) = Q1d t.causes j:=by unfold Tree.Q0y; rw [if_neg (by omega),Nat.add_sub_cancel_left]
 have hl:(if t.basics.length + j < t.basics.length then 0 else Q2s (Q0c t.causes (t.basics.length + j - t.basics.length)) t.basics.length) = Q2s (Q0c t.causes j) t.basics.length:=by rw [if_neg (by omega),Nat.add_sub_cancel_left]
 have hw:Q2z (cName t.causes j) = Q0k (!nameB (cName t.causes j)) 8:=by unfold Q2z Q0k; cases nameB (cName t.causes j) <;> rfl
 unfold Tree.Q0u Z2y checkN Tree.Q7j;rw [hl,hn,hc,hw,Y5f,Y6g];rfl
theorem Q7m {n:Nat} {e:Nat → Int} {r:List Int} {k:Nat} (hk:k < n) (hz:∀ j,j < k → e j = 0) (hne:e k ≠ 0):Q0h ((List.range n).map e ++ r) = e k:=by
 obtain ⟨m,rfl⟩:∃ m,n = k + (m + 1):=⟨n - k - 1,by omega⟩
 have h0:Q0h ((List.range k).map e) = 0:=by
  rw [Q1k];intro x hx;obtain ⟨j,hj,rfl⟩:=List.mem_map.1 hx;exact hz j (List.mem_range.1 hj)
 rw [List.range_add,List.map_append,List.append_assoc,Q9e,if_pos h0,List.range_succ_eq_map];simp [Q0h,hne]
theorem Q9y {n:Nat} {e:Nat → Int} {r:List Int} (hz:∀ j,j < n → e j = 0):Q0h ((List.range n).map e ++ r) = Q0h r:=by
 have h0:Q0h ((List.range n).map e) = 0:=by
  rw [Q1k];intro x hx;obtain ⟨j,hj,rfl⟩:=List.mem_map.1 hx;exact hz j (List.mem_range.1 hj)
 rw [Q9e,if_pos h0]
theorem zero_or (a b:Nat):((a:Int) == 0 || (b:Int) == 0) = decide (a = 0 ∨ b = 0):=by
 rw [Bool.eq_iff_iff]; simp
theorem Z2t (a b g:Nat):(decide (12 < (a:Int) + b) || decide (32 < (g:Int))) = decide (12 < a + b ∨ 32 < g):=by
 rw [Bool.eq_iff_iff]; simp; omega
def Y2x (t:Tree):Int:=Q0h [Q0k ((t.basics.length:Int) == 0 || (t.gates.length:Int) == 0) 12,Q0k (decide (12 < (t.basics.length:Int) + t.causes.length) || decide (32 < (t.gates.length:Int))) 5]
theorem Z2m {t:Tree} (h:Y2x t ≠ 0):t.err = Y2x t:=by
 unfold Y2x Q0k at *;rw [zero_or,Z2t] at *;unfold Tree.err Tree.size
 by_cases h1:t.basics.length = 0 ∨ t.gates.length = 0
 · rw [if_pos h1,decide_eq_true h1]; rfl
 · rw [decide_eq_false h1] at h ⊢
   rw [if_neg h1]
   by_cases h2:12 < t.basics.length + t.causes.length ∨ 32 < t.gates.length
   · rw [if_pos h2,decide_eq_true h2]; rfl
   · rw [decide_eq_false h2] at h
     simp [Q0h] at h
theorem Z1d {t:Tree} (h:Y2x t = 0):t.err = Q0h ((List.range t.size).map t.Q0u ++ (List.range t.gates.length).map t.Q1u) ∧ t.size ≤ 12 ∧ t.gates.length ≤ 32:=by
 unfold Y2x Q0k at h;rw [zero_or,Z2t] at h;unfold Tree.err
 by_cases h1:t.basics.length = 0 ∨ t.gates.length = 0
 · rw [decide_eq_true h1] at h; simp [Q0h] at h
 · rw [decide_eq_false h1] at h
   by_cases h2:12 < t.size ∨ 32 < t.gates.length
   · unfold Tree.size at h2
     rw [decide_eq_true h2] at h; simp [Q0h] at h
   · rw [if_neg h1,if_neg h2]; exact ⟨rfl,by omega,by omega⟩
end Go.Proofs
