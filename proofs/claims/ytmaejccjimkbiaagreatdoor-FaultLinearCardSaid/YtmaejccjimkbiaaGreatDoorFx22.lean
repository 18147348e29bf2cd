/- Contract: Single. Contracts: probability, Chance. Loads of a part of a block. Contracts: the probability of the reference. Contracts: Chance. -/
import Derived.Test.YtmaejccjimkbiaaGreatDoorFx21
import Derived.Test.YtmaejccjimkbiaaGreatDoorFx09
set_option linter.unusedVariables false
set_option linter.unusedSimpArgs false
set_option linter.constructorNameAsVariable false
namespace Go.Proofs
open Go.RowKit Go.Tw Go.Flow
def singleR (t:Tree):List Int:=if t.err = 0 then t.single else []
theorem Z3c (k:Nat):evN (2 ^ k) = evL [(k:Int)]:=by
 funext i
 unfold evN evL has;rw [Nat.testBit_two_pow]
 by_cases h:k = i
 · subst h; simp
 · have:¬ (k:Int) = (i:Int):=by omega
   rw [decide_eq_false h]
   symm
   simp only [List.contains_cons,List.contains_nil,Bool.or_false,beq_eq_false_iff_ne];omega
set_option maxRecDepth 100000 in
set_option maxHeartbeats 1000000 in
theorem Y2r (w:World) (v:Value) (t:Tree) (ht:IsTree w v t) :
    Calls Tryz.prog 16 #[v] w fun e w'=>∃ x,e = .returned (.tuple #[x,.int .i64 t.err]) ∧ Q0f w' x (singleR t) ∧ Ext w w':=by
 obtain ⟨i0,hi,hz0,hz1,hz2⟩:=info_parts Tryz.info3;obtain ⟨a,b,c,rfl,h3⟩:=ht;obtain ⟨A,capa,rfl,hl1,hcap1,_⟩:=h3.basics.opened;obtain ⟨B,capb,rfl,hl2,hcap2,_⟩:=h3.causes.opened;obtain ⟨G,capg,rfl,hl3,hcap3,_⟩:=h3.gates.opened;have hxW:=Ext.box w (.cells #[.slice A t.basics.length capa,.slice B t.causes.length capb,.slice G t.gates.length capg] 37);have k0:=Blk.made w 37 #[.slice A t.basics.length capa,.slice B t.causes.length capb,.slice G t.gates.length capg];have HT:=Lib.hid (h3.ext hxW);have HX:=Lib.hid hxW;clear h3 hxW;go_enter Tryz.func16,Tryz.ntmps16;go_wp2_with fail;refine (Q2j _ _ t ⟨_,_,_,rfl,HT.out⟩).mono ?_;rintro e w1 ⟨rfl,hx1⟩;have k1:=k0.ext hx1;have c0:=k1.cell 0;have c1:=k1.cell 1;have c2:=k1.cell 2;simp only [List.getElem?_toArray,List.getElem?_cons_zero,List.getElem?_cons_succ] at c0 c1 c2;have HXX:=Lib.hid (HX.out.trans hx1);have HX1:=Lib.hid hx1;clear k0 k1 hx1
 by_cases he:t.err = 0
 · have HR:Hid (singleR t = t.single):=by exact (by unfold singleR; rw [if_pos he]:singleR t = t.single)
   have hV:=Valid.of he;have HV:=Lib.hid hV;have HE0:=Lib.hid he;have hsz:=hV.size;have hne:(t.err != 0) = false:=by simp [he]
   clear he hV;go_wp2_with fail;refine (Q3o _ _ t HV.out ⟨_,_,_,rfl,HT.out.ext HX1.out⟩).mono ?_;rintro e w2 ⟨fv,gv,rfl,hn,hx2⟩;obtain ⟨A1,cap1,rfl,_,_,_⟩:=hn.fails.opened;obtain ⟨A2,cap2,rfl,_,_,_⟩:=hn.gates.opened;rw [Q2o] at hn ⊢;have HN:=Lib.hid hn;have HX2:=Lib.hid hx2;clear hn hx2 c0 c1 c2;go_wp2_with (first | (refine Q0d rfl _ _ 121 rfl Tryz.Q0r rfl rfl (Blk.made _ _ _) rfl rfl ?_ ?_; (focus (intro u hu; simp [outA] at hu; rcases hu with rfl | rfl | rfl | rfl | rfl | rfl | rfl | rfl | rfl | rfl | rfl | rfl | rfl | rfl | rfl | rfl <;> rfl)); intro w9 hb9 hl9 ho9); have n0:=hb9.cell 0; simp only [outA,List.getElem?_toArray,List.getElem?_cons_zero] at n0 | fail)
   have hx9:Ext w2 w9:=Below.trans (Ext.box w2 _) (hl9 _ (Nat.le_refl _));have HXX9:Hid (Ext w w9):=by exact (HXX.out.trans HX2.out).trans hx9
   have HN9:=Lib.hid (HN.out.ext hx9);have HB9:=Lib.hid hb9;clear hl9 ho9 hb9 hx9
   go_loopw [6,18] (fun o i wr=>∃ (k:Nat),k ≤ t.size ∧ i = .int .i64 k ∧ Q0q wr w9.heap.size 3 (.int .i64) o (Q6h t k) ∧ Ext w9 wr) (fun _ i _=>t.size - (intOf i).toNat)
   case atStart=>exact ⟨0,Nat.zero_le _,rfl,Q0q.nil _ _ _ _,Ext.refl _⟩
   case round =>
    obtain ⟨k,hk,rfl,hown,hx⟩:=hrel
    by_cases hlt:k < t.size
    · have hp2:(2:Nat) ^ k < 2 ^ t.size:=Nat.pow_lt_pow_right (by omega) hlt
      have hp3:(2:Nat) ^ k < 2 ^ 62:=Nat.pow_lt_pow_right (by omega) (by omega)
      have hss:=X8b t k;rw [← Z3c] at hss;obtain ⟨Z,hZ⟩:∃ Z,2 ^ k = Z:=⟨_,rfl⟩;rw [hZ] at hp2 hp3 hss;have hpw:=Z1q hZ hp3;have hpw2:wrap64 ((2:Int) ^ k) = (Z:Int):=by rw [Y2j (n:=k) (by omega),hZ]
      obtain ⟨f,hf⟩:∃ f,t.fails (evN Z) = f:=⟨_,rfl⟩;have HCUT:Hid (∀ w',Ext w9 w' → Calls Tryz.prog 69 #[noV t t.Q0b (.slice A1 t.size cap1) (.slice A2 t.gates.length cap2),.int .i64 Z] w' fun e w''=>e = .returned (.bool f) ∧ Ext w' w''):=by
       exact (by intro w' hx'; rw [← hf]; exact Q7x w' _ _ t t.Q0b Z HV.out hp2 (HN9.out.ext hx'):∀ w',Ext w9 w' → Calls Tryz.prog 69 #[noV t t.Q0b (.slice A1 t.size cap1) (.slice A2 t.gates.length cap2),.int .i64 Z] w' fun e w''=>e = .returned (.bool f) ∧ Ext w' w'')
      rw [hf] at hss;have HSS:=Lib.hid hss;have hkI:(k:Int) < 64:=by omega
      have hsl:=X3h t k;have HOWN:=Lib.hid hown;have HXR:=Lib.hid hx;have hdr:=(Ext.refl wr).drew;clear hf hZ hp2 hp3 hss hown hx n0;go_wp2;refine Flow.Q7w [.world,.plain,.plain,.world] [0,1,2,3] [[],[],[1],[0,2]]
       [.is 0 (fun v=>noV t t.Q0b (.slice A1 t.size cap1) (.slice A2 t.gates.length cap2)),.is 1 (fun v=>.int .i64 k),.is 2 (fun v=>.int .i64 (Z:Nat)),.is 3 (fun v=>.bool f)]
       (by kernel_rfl) rfl (by kernel_rfl) ⟨?g0,?g1,?g2,?g3,trivial⟩ ?post
      case g0 =>
       intro v w1 hx;intro K hK;exact Q0n _ _ rfl Tryz.Q1s Tryz.Q0r (by go_simp) (HB9.out.ext (HXR.out.trans (hdr.trans hx))) rfl (hK _ _ (Ext.refl _) rfl)
      case g1 =>
       intro v w1 hx;refine ⟨_,fun w=>?_,rfl⟩;go_simp
      case g2 =>
       intro v w1 hx (q1:v 1 = .int .i64 k);refine ⟨_,fun w=>?_,rfl⟩;go_simp
      case g3 =>
       intro v w1 hx (q0:v 0 = noV t t.Q0b (.slice A1 t.size cap1) (.slice A2 t.gates.length cap2)) (q2:v 2 = .int .i64 (Z:Nat));intro K hK;go_simp;refine Q0e (HCUT.out _ (HXR.out.trans (hdr.trans hx))) ?_;rintro e w2 ⟨rfl,hx2⟩;exact ⟨_,rfl,hK _ _ hx2 rfl⟩
      case post =>
       intro v w1 hx (q0:v 0 = noV t t.Q0b (.slice A1 t.size cap1) (.slice A2 t.gates.length cap2)) (q1:v 1 = .int .i64 k) (q2:v 2 = .int .i64 (Z:Nat)) (q3:v 3 = .bool f);simp only [Flow.All,Flow.acts,Act.put];go_simp;have hown:=HOWN.out.below (hdr.trans hx);have hx1:=HXR.out.trans (hdr.trans hx);cases f with
       | false =>
         go_wp2;go_roundw
         case rel=>exact ⟨k + 1,by omega,by go_num,by rw [HSS.out]; simpa using hown,HXR.out.trans (hdr.trans hx)⟩
         case measure=>simp [intOf]; omega
       | true =>
         go_wp2_with (at_builtin; refine wpList_append_own _ rfl _ _ 39 rfl (w9.heap.size) 3 i0 (.int .i64 0) 1 8 Tryz.underlying39 hi hz0 hz1 hz2 rfl (by decide) _ _ _ rfl (World.ownsRow.alloc hown _) ⟨w1.heap.size,0,none⟩ 1 1 [.int .i64 k] rfl rfl ?_ ?_ ?_ ?_ ?_ ?_; exact Q9g _ _ _; (focus (simp [Value.oneCell'])); (focus (unfold maxLen; omega)); (focus omega); (focus (have:=hx1.size; simp at this ⊢; omega)); intro v' w1 hown' hgrow _)
         have hx':=Q5h hx1 hown (Nat.le_refl _) hgrow;go_wp2;go_roundw
         case rel=>exact ⟨k + 1,by omega,by go_num,by rw [HSS.out]; exact Q0q.snoc hown',hx'⟩
         case measure=>simp [intOf]; omega
    · have hks:k = t.size:=by omega
      have HS:Hid (Q6h t k = t.single):=by exact (by rw [hks]; rfl:Q6h t k = t.single)
      have hsl:=X3h t k;have hii:Q0f wr _ (Q6h t k):=hown.ints (by omega)
      have HII:=Lib.hid hii;have HXR:=Lib.hid hx;clear hks hown hii hx n0;go_wp2;refine bodyPost_ret (v:=.tuple #[_,.int .i64 t.err]) (by rw [HE0.out]; simp [results,Tryz.results16,go_sem]; rfl) rfl ?_
      exact ⟨_,rfl,by rw [HR.out,← HS.out]; exact HII.out,HXX9.out.trans HXR.out⟩
 · have HR:Hid (singleR t = []):=by exact (by unfold singleR; rw [if_neg he]:singleR t = [])
   have hne:(t.err != 0) = true:=by simp [he]
   clear he;go_wp2;refine bodyPost_ret (v:=.tuple #[.slice none 0 0,.int .i64 t.err]) (by simp [results,Tryz.results16,go_sem]) rfl ?_
   exact ⟨_,rfl,by rw [HR.out]; exact Rows.nil _ _ _,HXX.out⟩
end Go.Proofs
namespace Go.Proofs
open Go.RowKit Go.Tw Go.Flow
theorem Q2p {P:Program} {K:Value → World → Prop} {o:Oper} {a:Act} {w:World} (p x:Operand) (T:TypeId) (ho:o.op = .store T p x)
    {n:Nat} (hS:∀ w,(sizeOf T).run P w = .ok n w) {g:Nat} (hp:a.eval p = .pointer (some ⟨g,0,none⟩)) {BT:TypeId} {cs vs:Array Value} (hx:a.eval x = .agg vs) (hb:Blk w g BT cs) (hn:cs.size = n) (hv:vs.size = n) (h1:∀ u ∈ vs.toList,u.oneCell' = true)
    (h:∀ v w',Blk w' g BT vs → (∀ n,n ≤ g → Below n w w') → (∀ k,k ≠ g → w'.heap[k]? = w.heap[k]?) → K v w'):gives P K ((execOp a.eval o).run P w):=by
 obtain ⟨w',hr,hb',hl,hoo⟩:=Q7p (P:=P) vs.toList 0 w cs hb h1 (by simp [hn,hv])
 have hs:(storeVar T ⟨g,0,none⟩ (.agg vs)).run P w = .ok () w':=by
  have hc:(Value.agg vs).cells = vs:=rfl;unfold storeVar;simp only [Sem.run_bind,hS,Result.andThen_ok];rw [if_neg (by rw [hc]; simp [hv])]
  exact hr
 have hr2:(execOp a.eval o).run P w = .ok .skip w':=by
  unfold execOp;simp only [ho,hp,hx,Instr.storeAt,Instr.sureAddr,Sem.run_bind,Sem.run_pure,Result.andThen_ok,hs]
 rw [hr2];exact h _ _ (by simpa using hb') hl hoo
def Q5o (a b:Int):Array Value:=#[.int .i64 (lowest a b).num,.int .i64 (lowest a b).den]
theorem Q5t (a b:Int):∀ u ∈ (Q5o a b).toList,u.oneCell' = true:=by
 intro u hu;simp only [Q5o,List.mem_cons,List.not_mem_nil,or_false] at hu
 rcases hu with rfl | rfl <;> rfl
theorem Tryz.Q5e (w:World):(isAgg 59).run Tryz.prog w = .ok true w:=by kernel_rfl
theorem Tryz.Q1v (w:World):(sizeOf 59).run Tryz.prog w = .ok 2 w:=by kernel_rfl
theorem Q4z {c:List Int} (h:Small c) (t:Tree) (wi:Nat) (hs:t.size ≤ 12):0 ≤ Q1g t c wi ∧ Q1g t c wi ≤ 1152921504606846976:=by
 have h1:=Y1f h t wi (List.finRange (2 ^ t.size));have h2:(2:Nat) ^ t.size ≤ 2 ^ 12:=Nat.pow_le_pow_right (by omega) hs
 rw [List.length_finRange] at h1;unfold Q1g;refine ⟨h1.1,Int.le_trans h1.2 ?_⟩;generalize (2:Nat) ^ t.size = m at h2;omega
theorem X4s {n:Nat} (h:n ≤ 12):1 ≤ Q5n 16 n ∧ Q5n 16 n ≤ 281474976710656:=by
 unfold Q5n;refine ⟨Nat.one_le_pow _ _ (by omega),Nat.le_trans (Nat.pow_le_pow_right (by omega) h) (by decide)⟩
set_option maxRecDepth 100000 in
set_option maxHeartbeats 1000000 in
theorem Q4f (w:World) (fv gv:Value) (t:Tree) (c0 c:List Int) (hv:Valid t) (hn:X8r w fv gv t) (hc:Small c) (hlen:c.length = t.size) :
    Calls Tryz.prog 86 #[noV t c0 fv gv,chV c] w fun e w'=>e = .returned (.agg (Q5o (Q1g t c 0) (Q5n 16 t.size))) ∧ Ext w w':=by
 obtain ⟨A1,cap1,rfl,_,_,_⟩:=hn.fails.opened;obtain ⟨A2,cap2,rfl,_,_,_⟩:=hn.gates.opened;rw [Q2o] at hn ⊢;have HN:=Lib.hid hn;have HV:=Lib.hid hv;have HC:=Lib.hid hc;have HLEN:=Lib.hid hlen;have hsz:=hv.size;have hwb:=Q4z hc t 0 hsz;have hpb:=X4s hsz;obtain ⟨m,hm⟩:∃ m,Q1g t c 0 = m:=⟨_,rfl⟩;obtain ⟨d,hd⟩:∃ d,Q5n 16 t.size = d:=⟨_,rfl⟩;rw [hm] at hwb ⊢;rw [hd] at hpb ⊢;have HW:Hid (∀ w',Ext w w' → Calls Tryz.prog 100 #[noV t c0 (.slice A1 t.size cap1) (.slice A2 t.gates.length cap2),chV c,.int .i64 0] w' fun e w''=>e = .returned (.int .i64 m) ∧ Ext w' w''):=by
  exact (by intro w' hx; rw [← hm]; exact Q4u w' _ _ t c0 c 0 HV.out (HN.out.ext hx) HC.out HLEN.out (by omega):∀ w',Ext w w' → Calls Tryz.prog 100 #[noV t c0 (.slice A1 t.size cap1) (.slice A2 t.gates.length cap2),chV c,.int .i64 0] w' fun e w''=>e = .returned (.int .i64 m) ∧ Ext w' w'')
 have HP:Hid (∀ w',Calls Tryz.prog 101 #[noV t c0 (.slice A1 t.size cap1) (.slice A2 t.gates.length cap2)] w' fun e w''=>e = .returned (.int .i64 d) ∧ Ext w' w''):=by
  exact (by intro w'; rw [← hd]; exact X0x w' t c0 A1 A2 _ _ _ _ hsz:∀ w',Calls Tryz.prog 101 #[noV t c0 (.slice A1 t.size cap1) (.slice A2 t.gates.length cap2)] w' fun e w''=>e = .returned (.int .i64 d) ∧ Ext w' w'')
 clear hn hv hc hlen hm hd;rw [Y4f];unfold noV;go_enter Tryz.func86,Tryz.ntmps86;go_wp2;change Code.wp _ _ _ _ (((w.alloc (.cells (outA t.size (.slice A1 t.size cap1) c0 t.basics.length (.slice A2 t.gates.length cap2)) 121)).alloc (.cells (chA c) 116)).alloc (.cells #[.int .i64 0,.int .i64 0] 59));have k0:=Blk.made w 121 (outA t.size (.slice A1 t.size cap1) c0 t.basics.length (.slice A2 t.gates.length cap2));have x0:=Ext.box w (.cells (outA t.size (.slice A1 t.size cap1) c0 t.basics.length (.slice A2 t.gates.length cap2)) 121);have es0:(w.alloc (.cells (outA t.size (.slice A1 t.size cap1) c0 t.basics.length (.slice A2 t.gates.length cap2)) 121)).heap.size = w.heap.size + 1:=by simp
 obtain ⟨X0,hX0⟩:∃ X,w.alloc (.cells (outA t.size (.slice A1 t.size cap1) c0 t.basics.length (.slice A2 t.gates.length cap2)) 121) = X:=⟨_,rfl⟩;rw [hX0] at k0 x0 es0 ⊢;clear hX0;have k1:=Blk.made X0 116 (chA c);have x1:=Ext.box X0 (.cells (chA c) 116);have es1:(X0.alloc (.cells (chA c) 116)).heap.size = X0.heap.size + 1:=by simp
 obtain ⟨X1,hX1⟩:∃ X,X0.alloc (.cells (chA c) 116) = X:=⟨_,rfl⟩;rw [hX1] at k1 x1 es1 ⊢;clear hX1;have k2:=Blk.made X1 59 #[.int .i64 0,.int .i64 0];have x2:=Ext.box X1 (.cells #[.int .i64 0,.int .i64 0] 59);have es2:(X1.alloc (.cells #[.int .i64 0,.int .i64 0] 59)).heap.size = X1.heap.size + 1:=by simp
 obtain ⟨X2,hX2⟩:∃ X,X1.alloc (.cells #[.int .i64 0,.int .i64 0] 59) = X:=⟨_,rfl⟩;rw [hX2] at k2 x2 es2 ⊢;clear hX2;replace k0:=(k0.ext x1).ext x2;replace k1:=k1.ext x2;have e0:X0.heap.size = w.heap.size + 1:=by omega
 have e1:X1.heap.size = w.heap.size + 1 + 1:=by omega
 have e2:X2.heap.size = w.heap.size + 1 + 1 + 1:=by omega
 rw [e0] at k1;rw [e1] at k2;have HXW:Hid (Ext w X2):=by exact (Ext.trans (Ext.trans (x0) x1) x2:Ext w X2)
 have eW:X2.heap.size = w.heap.size + 1 + 1 + 1:=e2;clear x0 es0 e0 x1 es1 e1 x2 es2 e2;obtain ⟨W,hWW⟩:∃ W,X2 = W:=⟨_,rfl⟩;rw [hWW] at HXW eW ⊢ k0 k1 k2;clear hWW;have hdr:=(Ext.refl W).drew;refine Flow.region [.world,.world,.world,.world,.world,.world,.last] [0,1,2,3,4,5,6] [[],[],[0,1],[],[0,1,2,3],[0,1,2,3,4],[0,1,2,3,4,5]] [6]
  [.is 0 (fun v=>noV t c0 (.slice A1 t.size cap1) (.slice A2 t.gates.length cap2)),.is 1 (fun v=>chV c),.is 2 (fun v=>.int .i64 m),.is 3 (fun v=>noV t c0 (.slice A1 t.size cap1) (.slice A2 t.gates.length cap2)),.is 4 (fun v=>.int .i64 d),.is 5 (fun v=>.agg (Q5o m d)),.none]
  [fun v w1 w'=>Blk w' (w.heap.size + 1 + 1) 59 (Q5o m d) ∧ Below w.heap.size w1 w'] (by kernel_rfl) rfl (by kernel_rfl) ⟨?g0,?g1,?g2,?g3,?g4,?g5,?g6,trivial⟩ ?post
 case g0 =>
  intro v w1 hx;intro K hK;exact Q0n _ _ rfl Tryz.Q1s Tryz.Q0r (by go_simp) (k0.ext (hdr.trans hx)) rfl (hK _ _ (Ext.refl _) rfl)
 case g1 =>
  intro v w1 hx;intro K hK;exact Q0n _ _ rfl Tryz.Q6x Tryz.Q4a (by go_simp) (k1.ext (hdr.trans hx)) rfl (hK _ _ (Ext.refl _) rfl)
 case g2 =>
  intro v w1 hx (q0:v 0 = noV t c0 (.slice A1 t.size cap1) (.slice A2 t.gates.length cap2)) (q1:v 1 = chV c);intro K hK;go_simp;refine Q0e (HW.out _ (HXW.out.trans (hdr.trans hx))) ?_;rintro e w2 ⟨rfl,hx2⟩;exact ⟨_,rfl,hK _ _ hx2 rfl⟩
 case g3 =>
  intro v w1 hx;intro K hK;exact Q0n _ _ rfl Tryz.Q1s Tryz.Q0r (by go_simp) (k0.ext (hdr.trans hx)) rfl (hK _ _ (Ext.refl _) rfl)
 case g4 =>
  intro v w1 hx (q0:v 0 = noV t c0 (.slice A1 t.size cap1) (.slice A2 t.gates.length cap2)) (q1:v 1 = chV c) (q2:v 2 = .int .i64 m) (q3:v 3 = noV t c0 (.slice A1 t.size cap1) (.slice A2 t.gates.length cap2));intro K hK;go_simp;refine Q0e (HP.out _) ?_;rintro e w2 ⟨rfl,hx2⟩;exact ⟨_,rfl,hK _ _ hx2 rfl⟩
 case g5 =>
  intro v w1 hx (q0:v 0 = noV t c0 (.slice A1 t.size cap1) (.slice A2 t.gates.length cap2)) (q1:v 1 = chV c) (q2:v 2 = .int .i64 m) (q3:v 3 = noV t c0 (.slice A1 t.size cap1) (.slice A2 t.gates.length cap2)) (q4:v 4 = .int .i64 d);intro K hK;go_simp;refine Q0e (Q7z _ m d hwb.1 (by omega) (by omega) (by omega)) ?_
  rintro e w2 ⟨rfl,hx2⟩;exact ⟨_,rfl,hK _ _ hx2 rfl⟩
 case g6 =>
  intro v w1 hx (q0:v 0 = noV t c0 (.slice A1 t.size cap1) (.slice A2 t.gates.length cap2)) (q1:v 1 = chV c) (q2:v 2 = .int .i64 m) (q3:v 3 = noV t c0 (.slice A1 t.size cap1) (.slice A2 t.gates.length cap2)) (q4:v 4 = .int .i64 d) (q5:v 5 = .agg (Q5o m d));intro wl hT;obtain rfl:wl = w1:=hT;intro bb hbb;intro K hK;have o1:bb.eval (.tmp 4) = .pointer (some ⟨w.heap.size + 1 + 1,0,none⟩):=by rw [hbb]; dsimp only; (try simp (discharger:=decide) only [eval_put_ne]); rfl
  have o2:bb.eval (.tmp 10) = .agg (Q5o m d):=by rw [hbb]; dsimp only; (try simp (discharger:=decide) only [eval_put_ne]); rw [Q0a (by simp only [size_put]; exact (by decide:10 < 11))]; exact q5
  exact Q2p (.tmp 4) (.tmp 10) _ rfl Tryz.Q1v o1 o2 (k2.ext (hdr.trans hx)) rfl rfl (Q5t _ _) (fun vv w' hb hl ho=>hK _ _ ⟨hb,hl _ (by omega)⟩)
 case post =>
  intro v w1 hx (q0:v 0 = noV t c0 (.slice A1 t.size cap1) (.slice A2 t.gates.length cap2)) (q1:v 1 = chV c) (q2:v 2 = .int .i64 m) (q3:v 3 = noV t c0 (.slice A1 t.size cap1) (.slice A2 t.gates.length cap2)) (q4:v 4 = .int .i64 d) (q5:v 5 = .agg (Q5o m d));intro w2 hE;replace hE:(fun v w1 w'=>Blk w' (w.heap.size + 1 + 1) 59 (Q5o m d) ∧ Below w.heap.size w1 w') v w1 w2:=hE;simp only [Flow.acts,Act.put];go_simp;obtain ⟨hb9,hl9⟩:=hE;go_wp2;refine bodyPost_ret (Q3h Tryz.results86 rfl hb9 Tryz.Q5e Tryz.Q1v) rfl ?_;exact ⟨rfl,Below.trans (HXW.out.trans (hdr.trans hx)) hl9⟩
end Go.Proofs
namespace Go.Proofs
open Go.RowKit Go.Tw Go.Flow
def Part (w:World) (g off:Nat) (sub:Array Value):Prop:=∀ k (hk:k < sub.size),w.cell? ⟨g,off + k,none⟩ = some sub[k]
theorem Part.ext {w w':World} {g off:Nat} {sub:Array Value} (h:Part w g off sub) (hx:Ext w w'):Part w' g off sub:=fun k hk=>hx.cell (h k hk)
theorem Y0k {P:Program} {w:World} {g off:Nat} {cs:Array Value} (h:Part w g off cs):(loadCells ⟨g,off,none⟩ cs.size).run P w = .ok cs w:=by
 have gen:∀ (n i:Nat) (acc:Array Value),i + n = cs.size → acc.toList = cs.toList.take i → (loadCellsFrom ⟨g,off,none⟩ i n acc).run P w = .ok cs w:=by
  intro n
  induction n with
  | zero =>
    intro i acc hi ha;have:acc = cs:=by
     apply Array.toList_inj.1
     rw [ha,List.take_of_length_le (by simp; omega)]
    subst this;simp [loadCellsFrom]
  | succ n ih =>
    intro i acc hi ha;have hlt:i < cs.size:=by omega
    have h0:=h i hlt;have ea:(⟨g,off,none⟩:Addr).add i = ⟨g,off + i,none⟩:=by rw [addr_add]
    rw [loadCellsFrom,ea];simp only [Sem.run_bind,load,Sem.run,h0,Result.andThen_ok];refine ih (i + 1) _ (by omega) ?_
    rw [Array.toList_push,ha,← Array.getElem_toList (by simpa using hlt),List.take_append_getElem]
 exact gen cs.size 0 #[] (by omega) (by simp)
theorem X3t {P:Program} {w:World} {g off:Nat} {T:TypeId} {cs:Array Value} (h:Part w g off cs) (hA:∀ w,(isAgg T).run P w = .ok true w) (hS:∀ w,(sizeOf T).run P w = .ok cs.size w):(loadVar T ⟨g,off,none⟩).run P w = .ok (.agg cs) w:=by
 unfold loadVar;simp only [Sem.run_bind,hA,Result.andThen_ok,if_true,hS,Y0k h,Sem.run_pure]
theorem Q6w {P:Program} {w:World} {o:Oper} {a:Act} {p:Operand} {T:TypeId} {g off:Nat} {cs:Array Value} (hop:o.op = .load T p) (hA:∀ w,(isAgg T).run P w = .ok true w) (hS:∀ w,(sizeOf T).run P w = .ok cs.size w) (hp:a.eval p = .pointer (some ⟨g,off,none⟩)) (h:Part w g off cs):(execOp a.eval o).run P w = .ok (.value (.agg cs)) w:=by
 unfold execOp;simp only [hop,hp,Instr.loadAt,Instr.sureAddr,Sem.run_bind,Sem.run_pure,Result.andThen_ok,X3t h hA hS]
theorem Q2b {P:Program} {w:World} {ops:Array Oper} {rest:List Oper} {o:Oper} {a:Act} {Q:Exit → Act → World → Prop} (hg:o.guard = none) (p:Operand) (T:TypeId) (hop:o.op = .load T p)
    (hA:∀ w,(isAgg T).run P w = .ok true w) {n:Nat} (hS:∀ w,(sizeOf T).run P w = .ok n w) {g off:Nat} (hp:a.eval p = .pointer (some ⟨g,off,none⟩)) {cs:Array Value} (hb:Part w g off cs) (hn:cs.size = n)
    (hK:wpList P ops Q rest (a.put o.dst (.agg cs)) w):wpList P ops Q (o :: rest) a w:=by
 subst hn;refine wpList_plain hg fun K' hK'=>?_;unfold Oper.wp;rw [Q6w hop hA hS hp hb];exact hK' _ _ hK
theorem Q7b {F:Fence} {n0:Nat} {P:Program} {w:World} {ops:Array Oper} {rest:List Oper} {o:Oper} {a:Act} {Q:Exit → Act → World → Prop} (hw:Region.wanted o (yielded ops a.tmps) = true) (p:Operand) (T:TypeId) (hop:o.op = .load T p)
    (hA:∀ w,(isAgg T).run P w = .ok true w) {n:Nat} (hS:∀ w,(sizeOf T).run P w = .ok n w) {g off:Nat} (hp:a.eval p = .pointer (some ⟨g,off,none⟩)) {cs:Array Value} (hb:Part w g off cs) (hn:cs.size = n)
    (hK:wpListIn F n0 P ops Q rest (a.put o.dst (.agg cs)) w):wpListIn F n0 P ops Q (o :: rest) a w:=by
 subst hn;refine BigFrame.wpListIn_want hw fun K' hK'=>?_;unfold Oper.wpIn;refine ⟨?_,?_⟩
 · simp [Oper.about,hop]
 · rw [Oper.semAt_plain F _ _ (by rw [hop]; intro c hc'; cases hc'),Q6w hop hA hS hp hb]
   exact hK' _ _ hK
theorem Q3b {P:Program} {K:Value → World → Prop} {o:Oper} {a:Act} {w:World} (p:Operand) (T:TypeId) (ho:o.op = .load T p) (hA:∀ w,(isAgg T).run P w = .ok true w) {n:Nat} (hS:∀ w,(sizeOf T).run P w = .ok n w)
    {g off:Nat} (hp:a.eval p = .pointer (some ⟨g,off,none⟩)) {cs:Array Value} (hb:Part w g off cs) (hn:cs.size = n) (h:K (.agg cs) w):gives P K ((execOp a.eval o).run P w):=by
 subst hn;rw [Q6w ho hA hS hp hb];exact h
theorem Q2a {w:World} {g:Nat} {T:TypeId} {sz:Int} {fv:Value} {c:List Int} {nb:Int} {gv:Value} (h:Blk w g T (outA sz fv c nb gv)):Part w g 2 (chA c):=by
 intro k hk;have hk12:k < 12:=hk;have h1:=X6w c hk12;rw [Array.getElem?_eq_getElem hk] at h1;rw [h.cell (2 + k),X8o sz fv c nb gv hk12,h1]
end Go.Proofs
namespace Go.Proofs
open Go.RowKit Go.Tw Go.Flow
theorem _root_.Go.Tw.Valid.small {t:Tree} (h:Valid t):Small t.Q0b:=by
 refine ⟨by simpa [Tree.Q0b] using h.size,fun x hx=>?_⟩
 obtain ⟨i,hi,rfl⟩:=List.mem_map.1 hx;exact h.chance (List.mem_range.1 hi)
theorem _root_.Go.Tw.Valid.nodes {t:Tree} (h:Valid t):1 ≤ t.nodes:=by
 have:=h.nb;unfold Tree.nodes; omega
end Go.Proofs
namespace Go.Proofs
open Go.RowKit Go.Tw Go.Flow
def encR (r:Ratio):Array Value:=#[.int .i64 r.num,.int .i64 r.den]
theorem Q7e (r:Ratio):∀ u ∈ (encR r).toList,u.oneCell' = true:=by
 intro u hu;simp only [encR,List.mem_cons,List.not_mem_nil,or_false] at hu
 rcases hu with rfl | rfl <;> rfl
theorem Q0o {P:Program} {fn:Func} {p q:Tmp} {T:TypeId} (h:fn.results = #[.cell p T,.tmp q]) {tmps:Array Value} {w:World} {g:Nat} (ht:tmps.getD p undef = .pointer (some ⟨g,0,none⟩)) {BT:TypeId} {cs:Array Value} (hb:Blk w g BT cs)
    (hA:∀ w,(isAgg T).run P w = .ok true w) (hS:∀ w,(sizeOf T).run P w = .ok cs.size w) {v:Value} (hq:tmps.getD q undef = v):(results fn tmps).run P w = .ok (.tuple #[.agg cs,v]) w:=by
 unfold results;rw [h];simp only [List.mapM_toArray,List.mapM_cons,List.mapM_nil,Sem.run_bind,Sem.run_pure,ht,hq,asAddr];simp [Q3t hb hA hS]
def Q7u (t:Tree):Ratio:=if t.err = 0 then lowest (Q1g t t.Q0b 0) (Q5n 16 t.size) else ⟨0,0⟩
set_option maxRecDepth 100000 in
set_option maxHeartbeats 1000000 in
theorem X0l (w:World) (v:Value) (t:Tree) (ht:IsTree w v t) :
    Calls Tryz.prog 29 #[v] w fun e w'=>e = .returned (.tuple #[.agg (encR (Q7u t)),.int .i64 t.err]) ∧ Ext w w':=by
 obtain ⟨a,b,c,rfl,h3⟩:=ht;obtain ⟨A,capa,rfl,hl1,hcap1,_⟩:=h3.basics.opened;obtain ⟨B,capb,rfl,hl2,hcap2,_⟩:=h3.causes.opened;obtain ⟨G,capg,rfl,hl3,hcap3,_⟩:=h3.gates.opened;have HT0:=Lib.hid h3;clear h3;go_enter Tryz.func29,Tryz.ntmps29;go_wp2_with fail;change Calls _ _ _ ((w.alloc (.cells #[.slice A t.basics.length capa,.slice B t.causes.length capb,.slice G t.gates.length capg] 37)).alloc (.cells #[.int .i64 0,.int .i64 0] 59)) _;have k0:=Blk.made w 37 #[.slice A t.basics.length capa,.slice B t.causes.length capb,.slice G t.gates.length capg];have x0:=Ext.box w (.cells #[.slice A t.basics.length capa,.slice B t.causes.length capb,.slice G t.gates.length capg] 37);have es0:(w.alloc (.cells #[.slice A t.basics.length capa,.slice B t.causes.length capb,.slice G t.gates.length capg] 37)).heap.size = w.heap.size + 1:=by simp
 obtain ⟨X0,hX0⟩:∃ X,w.alloc (.cells #[.slice A t.basics.length capa,.slice B t.causes.length capb,.slice G t.gates.length capg] 37) = X:=⟨_,rfl⟩;rw [hX0] at k0 x0 es0 ⊢;clear hX0;have k1:=Blk.made X0 59 #[.int .i64 0,.int .i64 0];have x1:=Ext.box X0 (.cells #[.int .i64 0,.int .i64 0] 59);have es1:(X0.alloc (.cells #[.int .i64 0,.int .i64 0] 59)).heap.size = X0.heap.size + 1:=by simp
 obtain ⟨X1,hX1⟩:∃ X,X0.alloc (.cells #[.int .i64 0,.int .i64 0] 59) = X:=⟨_,rfl⟩;rw [hX1] at k1 x1 es1 ⊢;clear hX1;replace k0:=k0.ext x1;have e0:X0.heap.size = w.heap.size + 1:=by omega
 have e1:X1.heap.size = w.heap.size + 1 + 1:=by omega
 rw [e0] at k1;have HXW:Hid (Ext w X1):=by exact (Ext.trans (x0) x1:Ext w X1)
 have eW:X1.heap.size = w.heap.size + 1 + 1:=e1;clear x0 es0 e0 x1 es1 e1;obtain ⟨W,hWW⟩:∃ W,X1 = W:=⟨_,rfl⟩;rw [hWW] at HXW eW ⊢ k0 k1;clear hWW;have HT:=Lib.hid (HT0.out.ext HXW.out);refine (Q2j _ _ t ⟨_,_,_,rfl,HT.out⟩).mono ?_;rintro e w1 ⟨rfl,hx1⟩;have kt:=k0.ext hx1;have c0:=kt.cell 0;have c1:=kt.cell 1;have c2:=kt.cell 2;simp only [List.getElem?_toArray,List.getElem?_cons_zero,List.getElem?_cons_succ] at c0 c1 c2;have HXX:=Lib.hid (HXW.out.trans hx1);have HX1:=Lib.hid hx1;clear kt hx1;have hbr:=k1.ext HX1.out;clear k0 k1
 by_cases he:t.err = 0
 · have HR:Hid (Q7u t = lowest (Q1g t t.Q0b 0) (Q5n 16 t.size)):=by exact (by unfold Q7u; rw [if_pos he]:Q7u t = lowest (Q1g t t.Q0b 0) (Q5n 16 t.size))
   have hV:=Valid.of he;have HV:=Lib.hid hV;have HE0:=Lib.hid he;have hsz:=hV.size;have hne:(t.err != 0) = false:=by simp [he]
   clear he hV;go_wp2_with fail;refine (Q3o _ _ t HV.out ⟨_,_,_,rfl,HT.out.ext HX1.out⟩).mono ?_;rintro e w2 ⟨fv,gv,rfl,hn,hx2⟩;obtain ⟨A1,cap1,rfl,_,_,_⟩:=hn.fails.opened;obtain ⟨A2,cap2,rfl,_,_,_⟩:=hn.gates.opened;rw [Q2o] at hn ⊢;have HN:=Lib.hid hn;have HX2:=Lib.hid hx2;clear hn hx2 c0 c1 c2;replace hbr:=hbr.ext HX2.out;have hbl:=hbr.lt;go_wp2_with (first | (refine Q0j rfl _ 121 rfl Tryz.Q1s Tryz.Q0r rfl hb9 rfl ?_) | (refine Q2b rfl _ 116 rfl Tryz.Q6x Tryz.Q4a rfl (Q2a hb9) rfl ?_) | (refine Q0d rfl _ _ 121 rfl Tryz.Q0r rfl rfl (Blk.made _ _ _) rfl rfl ?_ ?_; (focus (intro u hu; simp [outA] at hu; rcases hu with rfl | rfl | rfl | rfl | rfl | rfl | rfl | rfl | rfl | rfl | rfl | rfl | rfl | rfl | rfl | rfl <;> rfl)); intro w9 hb9 hl9 ho9) | fail)
   have hx9:Ext w2 w9:=Below.trans (Ext.box w2 _) (hl9 _ (Nat.le_refl _));have HXX9:Hid (Ext w w9):=by exact (HXX.out.trans HX2.out).trans hx9
   have HN9:=Lib.hid (HN.out.ext hx9);replace hbr:=hbr.ext hx9;clear hl9 ho9 hb9 hx9;refine (Q4f _ _ _ t t.Q0b t.Q0b HV.out HN9.out HV.out.small (by unfold Tree.Q0b; simp)).mono ?_
   rintro e w3 ⟨rfl,hx3⟩;replace hbr:=hbr.ext hx3;go_wp2_with (refine Q0d rfl _ _ _ rfl Tryz.Q1v rfl rfl hbr rfl rfl ?_ ?_; (focus (exact Q5t _ _)); intro w8 hb8 hl8 ho8);refine bodyPost_ret (Q0o Tryz.results29 rfl hb8 Tryz.Q5e Tryz.Q1v rfl) rfl ?_;exact ⟨by rw [HR.out,HE0.out]; rfl,Below.trans (HXX9.out.trans hx3) (hl8 _ (by omega))⟩
 · have HR:Hid (Q7u t = ⟨0,0⟩):=by exact (by unfold Q7u; rw [if_neg he]:Q7u t = ⟨0,0⟩)
   have hne:(t.err != 0) = true:=by simp [he]
   clear he;go_wp2_with (refine Q0d rfl _ _ _ rfl Tryz.Q1v rfl rfl hbr rfl rfl ?_ ?_; (focus (exact Q7e ⟨0,0⟩)); intro w8 hb8 hl8 ho8);refine bodyPost_ret (Q0o Tryz.results29 rfl hb8 Tryz.Q5e Tryz.Q1v rfl) rfl ?_;exact ⟨by rw [HR.out]; rfl,Below.trans HXX.out (hl8 _ (by omega))⟩
end Go.Proofs
