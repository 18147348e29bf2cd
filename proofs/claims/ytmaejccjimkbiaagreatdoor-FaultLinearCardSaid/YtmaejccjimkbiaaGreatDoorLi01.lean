/- What the functions of chapter 7 come to, in plain lists and numbers: no program is in sight here. Contracts: the reference's CheckSets, CheckCuts, Q0b, weight. The contract of the reference's Lowest. What the listed tables give; small facts on the program for the rows. Contracts: Next. The program's weight of a tree is the reference's: plain sums. Setting one event's chance: the weight with it sure is not less than with it out; the share of an event. Plain lists and sums. Minimal sets of a monotone property: each set that has it contains a minimal one, no minimal one contains another one; what this says about the cuts and paths of a tree. Plain law for FaultMonotone. How many sets can stand beside each other without one in another (at most seven events: 35); what all events, and none, do to a valid tree. Plain law for FaultMonotone. The cuts and paths of a tree prove each other complete; with one of them left out they do not. Plain law for FaultMonotone. Contracts of the law's own functions: within, valid. The dual of a tree without causes: it is valid, its dual is the tree, its weight is what is left of the whole, its cuts are the paths. Plain law for FaultDuals. Bounds, intervals, the next event: the program's are the reference's. The probability is linear in each event's chance; the bound; the next event. Plain law for FaultLinear. Contracts: the reference's Importance, Critical and Share; the law's 'event'. Contract of the law's own function room, of ratios that have room. Contract: Tested. The contracts and the facts that the walk through FaultLinear uses: probabilities of a valid tree as ratios. A tree with another chance of one event: plain law; what the walk through FaultLinear asks of the ratios. The law FaultLinear: the call returns true. The walk through FaultLinear from the test with a greater chance on. -/
import Derived.Test.YtmaejccjimkbiaaGreatDoorFx45
import Derived.Test.YtmaejccjimkbiaaGreatDoorFx46
import Derived.Deep.DeepCutAuto
set_option linter.unusedVariables false
set_option linter.unusedSimpArgs false
set_option linter.constructorNameAsVariable false
namespace Go.Tw
namespace Tree
end Tree
namespace Tree
end Tree
namespace Tree
end Tree
namespace Tree
end Tree
namespace Tree
end Tree
def Z6u (l:List Int) (some:List (List Int)):Bool:=some.any fun p=>p.all fun x=>has l x
namespace Tree
end Tree
namespace Tree
end Tree
end Go.Tw
namespace Go.Proofs
open Go.RowKit Go.Tw Go.Flow
def Z6o (t:Tree) (n:Nat):List Int:=(List.range n).map t.Q0y
theorem Z7p (t:Tree) (n:Nat):Z6o t (n + 1) = Z6o t n ++ [t.Q0y n]:=by unfold Z6o; rw [List.range_succ,List.map_append]; rfl
theorem Z7x (t:Tree) (n:Nat):(Z6o t n).length = n:=by simp [Z6o]
end Go.Proofs
namespace Go.Proofs
open Go.RowKit Go.Tw Go.Flow
set_option maxRecDepth 100000 in
set_option maxHeartbeats 800000 in
theorem Z7o (w:World) (a b:Int) (ha:0 ≤ a) (ha2:a ≤ 4611686018427387904) (hb:1 ≤ b) (hb2:b ≤ 4611686018427387904) :
    Calls Tryz.prog 50 #[.int .i64 a,.int .i64 b] w fun e w'=>e = .returned (.agg #[.int .i64 (lowest a b).num,.int .i64 (lowest a b).den]) ∧ Ext w w':=by
 have hw:=Ext.box w (.cells #[.int .i64 0,.int .i64 0] 59);have c0:=Q0z w #[.int .i64 0,.int .i64 0] 59 0;have c1:=Q0z w #[.int .i64 0,.int .i64 0] 59 1;have f0:=Q9x w #[.int .i64 0,.int .i64 0] 59 0;have f1:=Q9x w #[.int .i64 0,.int .i64 0] 59 1;have hsW:w.heap.size < (w.alloc (.cells #[.int .i64 0,.int .i64 0] 59)).heap.size:=by show _ < (w.heap.push _).size; rw [Array.size_push]; omega
 have n1:¬ b < 0:=by omega
 go_enter Tryz.func50,Tryz.ntmps50;go_wp2;obtain ⟨W,hW⟩:∃ W,w.alloc (.cells #[.int .i64 0,.int .i64 0] 59) = W:=⟨_,rfl⟩;rw [hW] at c0 c1 f0 f1 hsW hw ⊢;simp only [List.getElem?_toArray,List.getElem?_cons_zero,List.getElem?_cons_succ] at c0 c1;clear hW
 go_loopw [5,6] (fun x y wr=>∃ (p q:Int),x = .int .i64 p ∧ y = .int .i64 q ∧ 0 ≤ p ∧ 0 ≤ q ∧ p ≤ 4611686018427387904 ∧ q ≤ 4611686018427387904 ∧ (0 < p ∨ 0 < q) ∧ Int.gcd p q = Int.gcd a b ∧ Ext W wr) (fun _ y _=>(intOf y).toNat)
 case atStart=>exact ⟨a,b,by first | rfl | rw [show max a (-a) = a by omega],by first | rfl | rw [show max b (-b) = b by omega],ha,by omega,ha2,hb2,by omega,rfl,Ext.refl _⟩
 case round =>
  obtain ⟨p,q,rfl,rfl,hp,hq,hp2,hq2,hpq,hg,hx0⟩:=hrel
  by_cases hz:q = 0
  · subst hz
    have hpg:p = (Int.gcd a b:Int):=by rw [← hg,Int.gcd_zero]; omega
    have hdz:¬ p = 0:=by omega
    replace c0:=hx0.cell c0;replace c1:=hx0.cell c1;have HPG:=Lib.hid hpg;clear hg hpg;have hq1:a / p ≤ a:=Int.ediv_le_self _ ha;have hq2:b / p ≤ b:=Int.ediv_le_self _ (by omega)
    have hq3:0 ≤ a / p:=Int.ediv_nonneg ha hp;have hq4:0 ≤ b / p:=Int.ediv_nonneg (by omega) hp
    have hq5:a.tdiv p = a / p:=Int.tdiv_eq_ediv_of_nonneg ha;have hq6:b.tdiv p = b / p:=Int.tdiv_eq_ediv_of_nonneg (by omega)
    have hq7:IntKind.i64.wrap (a / p) = a / p:=wrap_in (by omega) (by omega)
    have hq8:IntKind.i64.wrap (b / p) = b / p:=wrap_in (by omega) (by omega)
    have hwr:=Nat.lt_of_lt_of_le hsW hx0.size;replace f0:=(hx0.frozen hsW).trans f0;replace f1:=(hx0.frozen hsW).trans f1;go_wp2;refine Flow.region [.plain,.plain,.plain,.plain,.plain,.plain,.plain,.last] [0,1,2,3,4,5,6,7] [[],[],[0,1],[],[],[3,4],[0,1,2,3,4,5],[0,1,2,3,4,5,6]] [7]
     [.is 0 (fun v=>.int .i64 a),.is 1 (fun v=>.int .i64 p),.is 2 (fun v=>.int .i64 (a / p)),.is 3 (fun v=>.int .i64 b),.is 4 (fun v=>.int .i64 p),.is 5 (fun v=>.int .i64 (b / p)),.is 6 (fun v=>.agg #[.int .i64 (a / p),.int .i64 (b / p)]),.none]
     [fun v w1 w'=>w'.cell? ⟨w.heap.size,0,none⟩ = some (.int .i64 (a / p)) ∧ w'.cell? ⟨w.heap.size,1,none⟩ = some (.int .i64 (b / p)) ∧ Below w.heap.size w1 w'] (by kernel_rfl) rfl (by kernel_rfl) ⟨?g0,?g1,?g2,?g3,?g4,?g5,?g6,?g7,trivial⟩ ?post
    case g0 =>
     intro v w1 hx;have c0:=hx.cell c0;have c1:=hx.cell c1;refine ⟨_,fun w=>?_,rfl⟩;go_simp
    case g1 =>
     intro v w1 hx;have c0:=hx.cell c0;have c1:=hx.cell c1;refine ⟨_,fun w=>?_,rfl⟩;go_simp
    case g2 =>
     intro v w1 hx (q0:v 0 = .int .i64 a) (q1:v 1 = .int .i64 p);have c0:=hx.cell c0;have c1:=hx.cell c1;refine ⟨_,fun w=>?_,rfl⟩;go_simp
    case g3 =>
     intro v w1 hx;have c0:=hx.cell c0;have c1:=hx.cell c1;refine ⟨_,fun w=>?_,rfl⟩;go_simp
    case g4 =>
     intro v w1 hx;have c0:=hx.cell c0;have c1:=hx.cell c1;refine ⟨_,fun w=>?_,rfl⟩;go_simp
    case g5 =>
     intro v w1 hx (q3:v 3 = .int .i64 b) (q4:v 4 = .int .i64 p);have c0:=hx.cell c0;have c1:=hx.cell c1;refine ⟨_,fun w=>?_,rfl⟩;go_simp
    case g6 =>
     intro v w1 hx (q0:v 0 = .int .i64 a) (q1:v 1 = .int .i64 p) (q2:v 2 = .int .i64 (a / p)) (q3:v 3 = .int .i64 b) (q4:v 4 = .int .i64 p) (q5:v 5 = .int .i64 (b / p));have c0:=hx.cell c0;have c1:=hx.cell c1;refine ⟨_,fun w=>?_,rfl⟩;go_simp
    case g7 =>
     intro v w1 hx (q0:v 0 = .int .i64 a) (q1:v 1 = .int .i64 p) (q2:v 2 = .int .i64 (a / p)) (q3:v 3 = .int .i64 b) (q4:v 4 = .int .i64 p) (q5:v 5 = .int .i64 (b / p)) (q6:v 6 = .agg #[.int .i64 (a / p),.int .i64 (b / p)]);intro wl hT;obtain rfl:wl = w1:=hT;intro bb hbb;subst hbb;have c0:=hx.cell c0;have c1:=hx.cell c1;intro K hK;have g0:=(hx.frozen (p:=⟨w.heap.size,0,none⟩) hwr).trans f0;have g1:=(hx.frozen (p:=⟨w.heap.size,1,none⟩) hwr).trans f1;go_simp;refine hK _ _ ⟨?_,?_,((Below.refl w.heap.size wl).setCell (p:=⟨w.heap.size,0,none⟩) (Nat.le_refl _) _).setCell (p:=⟨w.heap.size,1,none⟩) (Nat.le_refl _) _⟩
     · refine Eq.trans (World.cell?_setCell_other _ _ _ _ ?_) (World.cell?_setCell_same _ _ _ c0); intro h; cases h
     · refine World.cell?_setCell_same _ _ _ (Eq.trans (World.cell?_setCell_other _ _ _ _ ?_) c1); intro h; cases h
    case post =>
     intro v w1 hx (q0:v 0 = .int .i64 a) (q1:v 1 = .int .i64 p) (q2:v 2 = .int .i64 (a / p)) (q3:v 3 = .int .i64 b) (q4:v 4 = .int .i64 p) (q5:v 5 = .int .i64 (b / p)) (q6:v 6 = .agg #[.int .i64 (a / p),.int .i64 (b / p)]);intro w2 hE;replace hE:(fun v w1 w'=>w'.cell? ⟨w.heap.size,0,none⟩ = some (.int .i64 (a / p)) ∧ w'.cell? ⟨w.heap.size,1,none⟩ = some (.int .i64 (b / p)) ∧ Below w.heap.size w1 w') v w1 w2:=hE;simp only [Flow.acts,Act.put];go_simp;obtain ⟨e0,e1,e2⟩:=hE
     apply_assumption
     go_wp2;refine bodyPost_ret (v:=.agg #[.int .i64 (a / p),.int .i64 (b / p)]) (by simp [results,Tryz.results50,go_sem,e0,e1]) rfl ?_
     exact ⟨by rw [HPG.out]; rfl,Below.trans ((hw.trans hx0.drew).trans hx) e2⟩
  · have hq0:0 < q:=by omega
    have hst:=Z1l p q hp hq0;have htm:p % q < q:=Int.emod_lt_of_pos p hq0;have htn:=Int.emod_nonneg p (show q ≠ 0 by omega)
    rw [Int.tmod_eq_emod_of_nonneg hp] at hst;go_wp2
    go_quiet (fail)
    all_goals go_wp2
    go_roundw
    case rel=>exact ⟨q,p % q,rfl,by go_num,by omega,htn,hq2,by omega,Or.inl hq0,by rw [hst,hg],hx0.drewN _⟩
    case measure=>exact (Int.toNat_lt_toNat hq0).2 htm
end Go.Proofs
namespace Go.Proofs.YtmaejccjimkbiaaGreatDoor
open Go.ChangeShapes Go.WideShapes Go.ChangeAt Go.RowKit Go.Tw
theorem J2t {n:Int} (h:(Lit.int .u8 n).wf = true):∃ k:Nat,k < 256 ∧ n = (k:Int):=by
 unfold Lit.wf at h;rw [Bool.and_eq_true,decide_eq_true_eq,decide_eq_true_eq] at h;have h1:IntKind.min .u8 = 0:=by decide
 have h2:IntKind.max .u8 = 255:=by decide
 rw [h1,h2] at h;exact ⟨n.toNat,by omega,by omega⟩
end Go.Proofs.YtmaejccjimkbiaaGreatDoor
namespace Go.Proofs
open Go.RowKit Go.Tw Go.Flow
theorem J0p {r s:Ratio}:Z3h r s = true ↔ r = s:=by
 obtain ⟨a,b⟩:=r; obtain ⟨c,d⟩:=s;unfold Z3h;simp
attribute [local go_sem ↓] Y0l
end Go.Proofs
namespace Go.Proofs
open Go.Tw
theorem Z9r (n:Nat):(List.finRange n).map (fun x=>x.1) = List.range n:=by
 apply List.ext_getElem
 · simp
 · intro i h1 h2
   simp
theorem J0t {N:Nat} (t:Tree) (c:List Int) (wi:Nat):∀ l:List (Fin N),sumW t c wi l = ((l.map (fun x=>x.1)).map (Y5q t c wi)).sum
 | []=>rfl
 | x :: l=>by rw [sumW,J0t t c wi l]; simp
theorem Z8e (t:Tree) (c:List Int):∀ n,t.Y3v c n = ((List.range n).map fun s=>if t.fails (evN s) then partOf c s else 0).sum
 | 0=>rfl
 | n + 1=>by rw [Tree.Y3v,Z8e t c n,List.range_succ,List.map_append,List.sum_append]; simp
theorem J0i (t:Tree) (c:List Int) (wi:Nat):Q1g t c wi = ((List.range (2 ^ t.size)).map (Y5q t c wi)).sum:=by
 unfold Q1g;rw [J0t,Z9r]
theorem Z6r (t:Tree) (c:List Int):Q1g t c 0 = t.weight c:=by
 rw [J0i];unfold Tree.weight;rw [Z8e]
 congr 1
 apply List.map_congr_left
 intro s _;unfold Y5q;simp
end Go.Proofs
namespace Go.Proofs
open Go.Tw
theorem J1d {t:Tree} {a b:Nat → Bool} (h:∀ i,a i = true → b i = true) (i:Nat) (hi:t.Y8w a i = true):t.Y8w b i = true:=by
 unfold Tree.Y8w at hi ⊢;rw [Bool.or_eq_true] at hi ⊢
 rcases hi with hi | hi
 · exact .inl (h _ hi)
 · refine .inr ?_
   rw [List.any_eq_true] at hi ⊢;obtain ⟨k,hk,hh⟩:=hi;refine ⟨k,hk,?_⟩;rw [Bool.and_eq_true] at hh ⊢;exact ⟨h _ hh.1,hh.2⟩
theorem J1j {l:List Bool} {i:Nat} (h:l.length ≤ i):bx l i = false:=by
 unfold bx;simp [List.getElem?_eq_none h]
theorem J0d {l:List Bool} {i:Nat} (h:i < l.length):bx l i = l[i]:=by
 unfold bx;simp [List.getElem?_eq_getElem h]
theorem Z9w {t:Tree} {a b:Nat → Bool} (h:∀ i,a i = true → b i = true):∀ n,LeB (t.Q5y a n) (t.Q5y b n)
 | 0=>by
   unfold Tree.Q5y Tree.X2i;refine ⟨by simp,fun i hi=>?_⟩
   rcases Nat.lt_or_ge i t.basics.length with hlt | hge
   · rw [J0d (by simpa using hlt)] at hi ⊢
     simp only [List.getElem_map,List.getElem_range] at hi ⊢;exact J1d h i hi
   · rw [J1j (by simpa using hge)] at hi; cases hi
 | n + 1=>by
   have ih:=Z9w (t:=t) h n;unfold Tree.Q5y;refine ⟨by simp [ih.1],fun i hi=>?_⟩
   rcases Nat.lt_or_ge i (t.Q5y a n).length with hlt | hge
   · have e:=ih.2 i
     rw [J0d hlt,J0d (by rw [← ih.1]; exact hlt)] at e
     rw [J0d (by simp; omega),List.getElem_append_left hlt] at hi
     rw [J0d (by simp; rw [← ih.1]; omega),List.getElem_append_left (by rw [← ih.1]; exact hlt)]
     exact e hi
   · rcases Nat.lt_or_ge i ((t.Q5y a n).length + 1) with h2 | h2
     · obtain rfl:i = (t.Q5y a n).length:=by omega
       rw [J0d (by simp),List.getElem_append_right (Nat.le_refl _)] at hi
       rw [J0d (by simp [ih.1]),List.getElem_append_right (by rw [ih.1]; exact Nat.le_refl _)]
       simp only [List.getElem_singleton] at hi ⊢;unfold Z5d at hi ⊢;have:=ih.failing (Q0l t.gates n);simp only [decide_eq_true_eq] at hi ⊢;omega
     · rw [J1j (by simp; omega)] at hi; cases hi
theorem J0k {t:Tree} {a b:Nat → Bool} (h:∀ i,a i = true → b i = true) (hf:t.fails a = true):t.fails b = true :=
 (Z9w h t.gates.length).2 _ hf
def Z7f (f:Nat → Int):Nat → Int
 | 0=>0
 | n + 1=>Z7f f n + f n
theorem Z6s {f g:Nat → Int}:∀ n,(∀ s,s < n → f s = g s) → Z7f f n = Z7f g n
 | 0,_=>rfl
 | n + 1,h=>by rw [Z7f,Z7f,Z6s n (fun s hs=>h s (by omega)),h n (by omega)]
theorem Z8r {f g:Nat → Int}:∀ n,(∀ s,s < n → f s ≤ g s) → Z7f f n ≤ Z7f g n
 | 0,_=>Int.le_refl _
 | n + 1,h=>by
   have h1:=Z8r n (fun s hs=>h s (by omega))
   have h2:=h n (by omega)
   rw [Z7f,Z7f]; omega
theorem Z7u (f:Nat → Int) (m:Nat):∀ n,Z7f f (m + n) = Z7f f m + Z7f (fun s=>f (m + s)) n
 | 0=>by simp [Z7f]
 | n + 1=>by rw [← Nat.add_assoc,Z7f,Z7u f m n,Z7f,Int.add_assoc]
theorem Z7e (f:Nat → Int) (c:Int):∀ n,Z7f (fun s=>f s * c) n = Z7f f n * c
 | 0=>by simp [Z7f]
 | n + 1=>by rw [Z7f,Z7f,Z7e f c n,Int.add_mul]
theorem Z8d {N s:Nat} (h:s < 2 ^ N):2 ^ N + s = 2 ^ N ||| s:=by
 have:=Nat.two_pow_add_eq_or_of_lt h 1
 rwa [Nat.mul_one] at this
theorem J1w {N s:Nat} (h:s < 2 ^ N):(2 ^ N + s) ^^^ 2 ^ N = s:=by
 rw [Z8d h]
 apply Nat.eq_of_testBit_eq
 intro i;simp only [Nat.testBit_xor,Nat.testBit_or,Nat.testBit_two_pow]
 by_cases hi:N = i
 · subst hi; simp [Nat.testBit_lt_two_pow h]
 · simp [hi]
theorem J2p {N s:Nat} (h:s < 2 ^ N):s ^^^ 2 ^ N = 2 ^ N + s:=by
 rw [Z8d h]
 apply Nat.eq_of_testBit_eq
 intro i;simp only [Nat.testBit_xor,Nat.testBit_or,Nat.testBit_two_pow]
 by_cases hi:N = i
 · subst hi; simp [Nat.testBit_lt_two_pow h]
 · simp [hi]
theorem J2n {N s k:Nat} (h:s < 2 ^ N) (hk:k < N):(2 ^ N + s) ^^^ 2 ^ k = 2 ^ N + (s ^^^ 2 ^ k):=by
 have h2:s ^^^ 2 ^ k < 2 ^ N:=Nat.xor_lt_two_pow h (Nat.pow_lt_pow_right (by omega) hk)
 rw [Z8d h,Z8d h2]
 apply Nat.eq_of_testBit_eq
 intro i;simp only [Nat.testBit_xor,Nat.testBit_or,Nat.testBit_two_pow]
 by_cases hi:N = i
 · subst hi; simp [show k ≠ N by omega]
 · simp [hi]
theorem Z8y (k:Nat):∀ (N:Nat),k < N → ∀ f:Nat → Int,Z7f (fun s=>f (s ^^^ 2 ^ k)) (2 ^ N) = Z7f f (2 ^ N)
 | 0,h,_=>absurd h (by omega)
 | N + 1,h,f=>by
   have e:2 ^ (N + 1) = 2 ^ N + 2 ^ N:=by rw [Nat.pow_succ]; omega
   rw [e,Z7u,Z7u]
   rcases Nat.lt_or_ge k N with hk | hk
   · rw [Z8y k N hk f,← Z8y k N hk (fun s=>f (2 ^ N + s))]
     congr 1
     exact Z6s _ fun s hs=>by show f _ = f _; rw [J2n hs hk]
   · obtain rfl:k = N:=by omega
     rw [Int.add_comm]
     congr 1
     · exact Z6s _ fun s hs=>by show f _ = f _; rw [J1w hs]
     · exact Z6s _ fun s hs=>by show f _ = f _; rw [J2p hs]
def Z7d (c:List Int) (s k:Nat):Nat → Int
 | 0=>1
 | j + 1=>Z7d c s k j * if j = k then 1 else factor c s j
theorem Z8t {c:List Int} {k j:Nat} (hj:j < c.length) (x:Int):ix (Q0t c [(k:Int)] x) j = if j = k then x else ix c j:=by
 rw [Q8m (show j < (Q0t c [(k:Int)] x).length by simp [Q0t]; exact hj)]
 unfold Q0t;simp only [List.getElem_map,List.getElem_range];unfold has
 by_cases h:j = k
 · subst h; simp
 · rw [if_neg h,if_neg]
   simp; omega
theorem Z9z {c:List Int} (s k:Nat):∀ j,j ≤ c.length → Q7f c s j = Z7d c s k j * if k < j then factor c s k else 1
 | 0,_=>by simp [Q7f,Z7d]
 | j + 1,hj=>by
   have ih:=Z9z (c:=c) s k j (by omega)
   rw [Q7f,Z7d,ih]
   by_cases h:j = k
   · subst h
     rw [if_neg (by omega),if_pos rfl,if_pos (by omega),Int.mul_one]
   · rw [if_neg h]
     by_cases hk:k < j
     · rw [if_pos hk,if_pos (show k < j + 1 by omega),Int.mul_assoc,Int.mul_comm (factor c s k),← Int.mul_assoc]
     · rw [if_neg hk,if_neg (show ¬ k < j + 1 by omega),Int.mul_one,Int.mul_one]
theorem Z9y {c:List Int} (s k:Nat) (x:Int):∀ j,j ≤ c.length → Z7d (Q0t c [(k:Int)] x) s k j = Z7d c s k j
 | 0,_=>rfl
 | j + 1,hj=>by
   rw [Z7d,Z7d,Z9y s k x j (by omega)]
   by_cases h:j = k
   · rw [if_pos h,if_pos h]
   · rw [if_neg h,if_neg h]
     unfold factor;rw [Z8t (by omega),if_neg h]
theorem Z9t (c:List Int) (s k:Nat):∀ j,Z7d c (s ^^^ 2 ^ k) k j = Z7d c s k j
 | 0=>rfl
 | j + 1=>by
   rw [Z7d,Z7d,Z9t c s k j]
   by_cases h:j = k
   · rw [if_pos h,if_pos h]
   · rw [if_neg h,if_neg h]
     unfold factor;rw [Nat.testBit_xor,Nat.testBit_two_pow,show decide (k = j) = false by simp; omega,Bool.xor_false]
theorem Z7g {c:List Int} (s:Nat) {k:Nat} (hk:k < c.length) (x:Int):partOf (Q0t c [(k:Int)] x) s = Z7d c s k c.length * if s.testBit k then x else 16 - x:=by
 unfold partOf;rw [show (Q0t c [(k:Int)] x).length = c.length from Q8a _ _ _,Z9z s k _ (by rw [Q8a]; exact Nat.le_refl _),Z9y s k x _ (Nat.le_refl _),if_pos hk]
 unfold factor;rw [Z8t hk,if_pos rfl]
theorem J1n {c:List Int} (s:Nat) {k:Nat} (hk:k < c.length):partOf (Q0t c [(k:Int)] 0) (s ^^^ 2 ^ k) = partOf (Q0t c [(k:Int)] 16) s:=by
 rw [Z7g _ hk,Z7g _ hk,Z9t];rw [Nat.testBit_xor,Nat.testBit_two_pow];cases s.testBit k <;> simp
theorem Z6t (t:Tree) (c:List Int):∀ n,t.Y3v c n = Z7f (fun s=>if t.fails (evN s) then partOf c s else 0) n
 | 0=>rfl
 | n + 1=>by rw [Tree.Y3v,Z7f,Z6t t c n]
theorem Z7l {t:Tree} (hv:Valid t) {k:Nat} (hk:k < t.size):t.weight (Q0t t.Q0b [(k:Int)] 0) ≤ t.weight (Q0t t.Q0b [(k:Int)] 16):=by
 have hlen:=Q4v t;have hkc:k < t.Q0b.length:=by omega
 unfold Tree.weight;rw [Z6t,Z6t,← Z8y k t.size hk];refine Z8r _ fun s _=>?_;show (if t.fails (evN (s ^^^ 2 ^ k)) then partOf (Q0t t.Q0b [(k:Int)] 0) (s ^^^ 2 ^ k) else 0) ≤ if t.fails (evN s) then partOf (Q0t t.Q0b [(k:Int)] 16) s else 0
 rw [J1n s hkc];have h0:0 ≤ partOf (Q0t t.Q0b [(k:Int)] 16) s:=(Y0b (Small.put hv.small (by omega) (by omega)) s _ (Nat.le_refl _)).1
 by_cases hb:s.testBit k = true
 · by_cases h1:t.fails (evN (s ^^^ 2 ^ k)) = true
   · have h2:t.fails (evN s) = true:=J0k (fun i hi=>by
      unfold evN at hi ⊢;rw [Nat.testBit_xor,Nat.testBit_two_pow] at hi
      by_cases hki:k = i
      · subst hki; exact hb
      · simpa [hki] using hi) h1
     rw [if_pos h1,if_pos h2];exact Int.le_refl _
   · rw [if_neg h1]
     split
     · exact h0
     · exact Int.le_refl _
 · have hz:partOf (Q0t t.Q0b [(k:Int)] 16) s = 0:=by
    rw [Z7g s hkc,if_neg hb]; simp
   rw [hz]; simp
end Go.Proofs
namespace Go.Proofs
open Go.Tw
def J2r (q:Nat → Bool):Prop:=∀ a b,Z2u a b → q a = true → q b = true
theorem J0m {n s i:Nat} (hs:s < 2 ^ n) (h:s.testBit i = true):i < n:=by
 apply Nat.lt_of_not_le
 intro hge;rw [Nat.testBit_lt_two_pow (Nat.lt_of_lt_of_le hs (Nat.pow_le_pow_right (by omega) hge))] at h
 cases h
theorem Z7m {q:Nat → Bool} {n x:Nat}:Z0c q n x = true ↔ q x = true ∧ ∀ i,i < n → x.testBit i = true → q (Q2u x (2 ^ i)) = false:=by
 unfold Z0c;rw [Bool.and_eq_true,List.all_eq_true];refine and_congr_right fun _=>⟨fun h i hi hb=>?_,fun h i hi=>?_⟩
 · have:=h i (List.mem_range.2 hi)
   rw [hb,Bool.true_and] at this
   simpa using this
 · have hi:=List.mem_range.1 hi
   cases hb:x.testBit i with
   | false=>rfl
   | true=>rw [h i hi hb]; rfl
theorem J1r {q:Nat → Bool} {n:Nat}:∀ (s:Nat),s < 2 ^ n → q s = true → ∃ m,m < 2 ^ n ∧ Z2u m s ∧ Z0c q n m = true:=by
 intro s
 induction s using Nat.strongRecOn with
 | ind s ih =>
   intro hs hq
   by_cases h:∃ i,i < n ∧ s.testBit i = true ∧ q (Q2u s (2 ^ i)) = true
   · obtain ⟨i,_,hb,hc⟩:=h
     obtain ⟨m,h1,h2,h3⟩:=ih _ (Y5d hb) (Q6q _ hs) hc;exact ⟨m,h1,h2.trans (Z2u.clear _ _),h3⟩
   · refine ⟨s,hs,Z2u.refl s,Z7m.2 ⟨hq,fun i hi hb=>?_⟩⟩
     cases hc:q (Q2u s (2 ^ i)) with
     | false=>rfl
     | true=>exact absurd ⟨i,hi,hb,hc⟩ h
theorem Z9j {q:Nat → Bool} (hm:J2r q) {n a b:Nat} (hb:b < 2 ^ n) (ha:q a = true) (hmin:Z0c q n b = true) (h:Z2u a b):a = b:=by
 apply Nat.eq_of_testBit_eq
 intro i;cases hi:a.testBit i with
 | true=>exact (h i hi).symm
 | false =>
   cases hbi:b.testBit i with
   | false=>rfl
   | true =>
     have hin:=J0m hb hbi;have:=(Z7m.1 hmin).2 i hin hbi;have h2:Z2u a (Q2u b (2 ^ i)):=fun j hj=>by
      rw [Q4g,Nat.testBit_two_pow,h j hj,Bool.true_and]
      by_cases e:i = j
      · subst e; rw [hi] at hj; cases hj
      · simp [e]
     rw [hm _ _ h2 ha] at this;cases this
theorem J2o {q:Nat → Bool} (hm:J2r q) {n s:Nat} (hs:s < 2 ^ n):q s = true ↔ ∃ m,m < 2 ^ n ∧ Z0c q n m = true ∧ Z2u m s:=by
 constructor
 · intro h
   obtain ⟨m,h1,h2,h3⟩:=J1r s hs h;exact ⟨m,h1,h3,h2⟩
 · rintro ⟨m,_,h2,h3⟩
   exact hm _ _ h3 (Z7m.1 h2).1
def J3b (t:Tree) (s:Nat):Bool:=t.fails (evN s)
theorem Z8l (t:Tree):J2r (J3b t):=fun a b h ha=>J0k (fun i hi=>h i hi) ha
theorem Z8k {t:Tree} (hs:t.size ≤ 12) {s:Nat} (h:s < 2 ^ t.size):J3b t s = t.setB (bitsOf s) false:=Y9g hs h
theorem Z7y {t:Tree} (hs:t.size ≤ 12) {p:Bool} {q:Nat → Bool} (hq:∀ s,s < 2 ^ t.size → q s = t.setB (bitsOf s) p) (l:List Int):l ∈ t.sets p ↔ ∃ s,s < 2 ^ t.size ∧ Z0c q t.size s = true ∧ l = bitsOf s:=by
 have e:t.sets p = X2z t p (2 ^ t.size):=rfl;rw [e,(Y2w t p _).mem_iff,List.mem_map]
 constructor
 · rintro ⟨s,h,rfl⟩
   obtain ⟨h1,h2⟩:=List.mem_filter.1 h;have h1:=List.mem_range.1 h1;exact ⟨s,h1,by rw [Z3g hs h1 hq]; exact h2,rfl⟩
 · rintro ⟨s,h1,h2,rfl⟩
   refine ⟨s,List.mem_filter.2 ⟨List.mem_range.2 h1,?_⟩,rfl⟩;show t.Q6z (bitsOf s) p = true;rw [← Z3g hs h1 hq];exact h2
end Go.Proofs
namespace Go.Proofs
open Go.Tw
def J2e:List Nat:=[0,0,1,0,2,2,1,0,3,3,4,3,5,2,1,0,6,6,7,6,8,8,7,6,9,9,4,3,5,2,1,0,10,10,11,10,12,12,11,10,13,13,14,13,15,12,11,10,16,16,17,16,18,8,7,6,19,9,4,3,5,2,1,0,20,20,21,20,22,22,21,20,23,23,24,23,25,22,21,20,26,26,27,26,28,28,27,26,29,29,24,23,25,22,21,20,30,30,31,30,32,32,31,30,33,33,14,13,15,12,11,10,34,34,17,16,18,8,7,6,19,9,4,3,5,2,1,0]
def chainOf (s:Nat):Nat:=J2e.getD s 0
theorem J2c:∀ s,s < 128 → chainOf s < 35:=by
 have h:((List.range 128).all fun s=>decide (chainOf s < 35)) = true:=by decide +kernel
 intro s hs
 simpa using List.all_eq_true.1 h s (List.mem_range.2 hs)
theorem J1f:∀ a,a < 128 → ∀ b,b < 128 → chainOf a = chainOf b → a &&& b = a ∨ a &&& b = b:=by
 have h:((List.range 128).all fun a=>(List.range 128).all fun b=>!(chainOf a == chainOf b) || (a &&& b == a || a &&& b == b)) = true:=by decide +kernel
 intro a ha b hb he;have h2:=List.all_eq_true.1 (List.all_eq_true.1 h a (List.mem_range.2 ha)) b (List.mem_range.2 hb);rw [he] at h2
 simpa using h2
theorem Z2u.J2i {a b:Nat} (h:a &&& b = a):Z2u a b:=fun i hi=>by
 rw [← h,Nat.testBit_and,Bool.and_eq_true] at hi;exact hi.2
theorem Z8o:∀ (n:Nat) (l:List Nat),l.Nodup → (∀ x ∈ l,x < n) → l.length ≤ n
 | 0,l,_,h=>by
   cases l with
   | nil=>exact Nat.le_refl _
   | cons x l=>exact absurd (h x (List.mem_cons_self ..)) (by omega)
 | n + 1,l,hn,h=>by
   have h2:=Z8o n (l.erase n) (hn.erase n) (fun x hx=>by
    have h3:=(hn.mem_erase_iff).1 hx;have:=h x h3.2;omega)
   by_cases hm:n ∈ l
   · rw [List.length_erase_of_mem hm] at h2; omega
   · rw [List.erase_of_not_mem hm] at h2; omega
theorem Z8w {α β:Type} {f:α → β}:∀ {l:List α},l.Nodup → (∀ a ∈ l,∀ b ∈ l,f a = f b → a = b) → (l.map f).Nodup
 | [],_,_=>List.nodup_nil
 | x :: l,hn,h=>by
   rw [List.nodup_cons] at hn;rw [List.map_cons,List.nodup_cons];refine ⟨fun hm=>?_,Z8w hn.2 fun a ha b hb=>h a (List.mem_cons_of_mem _ ha) b (List.mem_cons_of_mem _ hb)⟩;obtain ⟨y,hy,he⟩:=List.mem_map.1 hm;have:=h x (List.mem_cons_self ..) y (List.mem_cons_of_mem _ hy) he.symm;subst this;exact hn.1 hy
theorem J1l {q:Nat → Bool} (hm:J2r q) {n:Nat} (hn:n ≤ 7):((List.range (2 ^ n)).filter fun s=>Z0c q n s).length ≤ 35:=by
 have h7:2 ^ n ≤ 128:=Nat.le_trans (Nat.pow_le_pow_right (n:=2) (by omega) hn) (by decide)
 rw [← List.length_map (f:=chainOf)];refine Z8o 35 _ (Z8w (List.nodup_range.filter _) fun a ha b hb he=>?_) fun x hx=>?_
 · obtain ⟨a1,a2⟩:=List.mem_filter.1 ha
   obtain ⟨b1,b2⟩:=List.mem_filter.1 hb;have a1:=List.mem_range.1 a1;have b1:=List.mem_range.1 b1
   rcases J1f a (by omega) b (by omega) he with h | h
   · exact Z9j hm b1 (Z7m.1 a2).1 b2 (Z2u.J2i h)
   · exact (Z9j hm a1 (Z7m.1 b2).1 a2 (Z2u.J2i (by rw [Nat.and_comm]; exact h))).symm
 · obtain ⟨s,hs,rfl⟩:=List.mem_map.1 hx
   exact J2c s (by have:=List.mem_range.1 (List.mem_filter.1 hs).1; omega)
theorem J0y {t:Tree} (hs:t.size ≤ 7) {p:Bool} {q:Nat → Bool} (hm:J2r q) (hq:∀ s,s < 2 ^ t.size → q s = t.setB (bitsOf s) p):(t.sets p).length ≤ 35:=by
 have e:t.sets p = X2z t p (2 ^ t.size):=rfl;rw [e,(Y2w t p _).length_eq,List.length_map];have e2:((List.range (2 ^ t.size)).filter fun s=>t.Q6z (bitsOf s) p) = (List.range (2 ^ t.size)).filter fun s=>Z0c q t.size s:=by
  apply List.filter_congr
  intro s h;exact (Z3g (by omega) (List.mem_range.1 h) hq).symm
 rw [e2];exact J1l hm hs
end Go.Proofs
namespace Go.Proofs
open Go.Tw
theorem Z9c {s:Nat} {x:Int}:x ∈ bitsOf s ↔ ∃ i:Nat,i < 16 ∧ s.testBit i = true ∧ x = (i:Int):=by
 unfold bitsOf;simp only [List.mem_map,List.mem_filter,List.mem_range]
 constructor
 · rintro ⟨i,⟨h1,h2⟩,rfl⟩; exact ⟨i,h1,h2,rfl⟩
 · rintro ⟨i,h1,h2,rfl⟩; exact ⟨i,⟨h1,h2⟩,rfl⟩
theorem Z7b {s:Nat} (hs:s < 65536) (i:Nat):has (bitsOf s) (i:Int) = s.testBit i:=congrFun (Y4s hs) i
theorem Z9k {s m:Nat} (hs:s < 65536) (hm:m < 65536):((bitsOf m).all fun x=>has (bitsOf s) x) = true ↔ Z2u m s:=by
 rw [List.all_eq_true]
 constructor
 · intro h i hi
   rw [← Z7b hs];exact h i (Z9c.2 ⟨i,J0m (n:=16) hm hi,hi,rfl⟩)
 · intro h x hx
   obtain ⟨i,_,hi,rfl⟩:=Z9c.1 hx;rw [Z7b hs];exact h i hi
theorem J0v {a b:Nat} (ha:a < 65536) (hb:b < 65536) (h:bitsOf a = bitsOf b):a = b:=by
 apply Nat.eq_of_testBit_eq
 intro i;rw [← Z7b ha,← Z7b hb,h]
theorem Z7a {n s:Nat} (hn:n ≤ 12) (h:s < 2 ^ n):s < 65536:=Nat.lt_of_lt_of_le h (Nat.le_trans (Nat.pow_le_pow_right (n:=2) (by omega) hn) (by decide))
theorem J1c {t:Tree} (hs:t.size ≤ 12) (p:Bool):(t.sets p).Nodup:=by
 have e:t.sets p = X2z t p (2 ^ t.size):=rfl;rw [e,(Y2w t p _).nodup_iff];refine Z8w (List.nodup_range.filter _) fun a ha b hb he=>?_;exact J0v (Z7a hs (List.mem_range.1 (List.mem_filter.1 ha).1)) (Z7a hs (List.mem_range.1 (List.mem_filter.1 hb).1)) he
theorem Z9o {t:Tree} (hs:t.size ≤ 12) {p:Bool} {q:Nat → Bool} (hm:J2r q) (hq:∀ s,s < 2 ^ t.size → q s = t.setB (bitsOf s) p) {s:Nat} (h:s < 2 ^ t.size):Z6u (bitsOf s) (t.sets p) = q s:=by
 rw [Bool.eq_iff_iff,J2o hm h];unfold Z6u;rw [List.any_eq_true]
 constructor
 · rintro ⟨l,hl,hc⟩
   obtain ⟨m,h1,h2,rfl⟩:=(Z7y hs hq l).1 hl;exact ⟨m,h1,h2,(Z9k (Z7a hs h) (Z7a hs h1)).1 hc⟩
 · rintro ⟨m,h1,h2,h3⟩
   exact ⟨bitsOf m,(Z7y hs hq _).2 ⟨m,h1,h2,rfl⟩,(Z9k (Z7a hs h) (Z7a hs h1)).2 h3⟩
end Go.Proofs
namespace Go.Proofs
open Go.RowKit Go.Tw Go.Flow
def Z9s (t:Tree) (n:Nat) (w:World) (e:Ending) (w':World):Prop:=∃ q,e = .returned (.bool q) ∧ (q = true → t.err = 0 ∧ Fits t n ∧ t.size ≤ n) ∧ Ext w w' ∧ (q = false → ¬ (t.err = 0 ∧ Good t n))
theorem Z9e {t:Tree} {n:Nat} {w w':World} {e:Ending} (q:Bool) (he:e = .returned (.bool q)) (hf:q = true → t.err = 0 ∧ Fits t n ∧ t.size ≤ n) (hx:Ext w w') (hg:q = false → ¬ (t.err = 0 ∧ Good t n)):Z9s t n w e w':=⟨q,he,hf,hx,hg⟩
theorem J1i {t:Tree} {n:Nat} (h:Fits t n) (he:t.err = 0):t.size ≤ n:=by
 rcases h.s with h | h
 · exact h
 · exact absurd he h
set_option maxHeartbeats 1000000 in
theorem J1b (w:World) (v:Value) (t:Tree) (n:Nat) (ht:IsTree w v t) (hn:n ≤ 1000) :
    Calls Tryz.prog 12 #[v,.int .i64 n] w fun e w'=>Z9s t n w e w':=by
 obtain ⟨a,b,c,rfl,h3⟩:=ht;obtain ⟨A,capa,rfl,hl1,hcap1,_⟩:=h3.basics.opened;obtain ⟨B,capb,rfl,hl2,hcap2,_⟩:=h3.causes.opened;obtain ⟨G,capg,rfl,hl3,hcap3,_⟩:=h3.gates.opened;have HT0:=Lib.hid h3;clear h3;go_enter Tryz.func12,Tryz.ntmps12;go_wp2_with fail;change Calls _ _ _ (w.alloc (.cells #[.slice A t.basics.length capa,.slice B t.causes.length capb,.slice G t.gates.length capg] 26)) _;have k0:=Blk.made w 26 #[.slice A t.basics.length capa,.slice B t.causes.length capb,.slice G t.gates.length capg];have x0:=Ext.box w (.cells #[.slice A t.basics.length capa,.slice B t.causes.length capb,.slice G t.gates.length capg] 26);have es0:(w.alloc (.cells #[.slice A t.basics.length capa,.slice B t.causes.length capb,.slice G t.gates.length capg] 26)).heap.size = w.heap.size + 1:=by simp
 obtain ⟨X0,hX0⟩:∃ X,w.alloc (.cells #[.slice A t.basics.length capa,.slice B t.causes.length capb,.slice G t.gates.length capg] 26) = X:=⟨_,rfl⟩;rw [hX0] at k0 x0 es0 ⊢;clear hX0;have e0:X0.heap.size = w.heap.size + 1:=by omega
 have HXW:Hid (Ext w X0):=by exact (x0:Ext w X0)
 have eW:X0.heap.size = w.heap.size + 1:=e0;clear x0 es0 e0;obtain ⟨W,hWW⟩:∃ W,X0 = W:=⟨_,rfl⟩;rw [hWW] at HXW eW ⊢ k0;clear hWW;have HT:=Lib.hid (HT0.out.ext HXW.out);refine (Y8c _ _ t n ⟨_,_,_,rfl,HT.out⟩ hn).mono ?_;rintro e w1 ⟨q,rfl,hq,hx1,hg⟩;have kt:=k0.ext hx1;have c0:=kt.cell 0;have c1:=kt.cell 1;have c2:=kt.cell 2;simp only [List.getElem?_toArray,List.getElem?_cons_zero,List.getElem?_cons_succ] at c0 c1 c2;have HX1:=Lib.hid hx1;clear kt k0 hx1;cases q with
 | false =>
   have HG:=Lib.hid (hg rfl);clear hq hg;clear c0 c1 c2;go_wp2;go_ret;exact Z9e false rfl (fun h=>by cases h) (HXW.out.trans HX1.out) (fun _ h=>HG.out h.2)
 | true =>
   have HQ:=Lib.hid (hq rfl);clear hq hg;go_wp2_with fail;refine (Q7t _ _ t ⟨_,_,_,rfl,HT.out.ext HX1.out⟩).mono ?_;rintro e w2 ⟨rfl,hx2⟩;have HX2:=Lib.hid (HXW.out.trans (HX1.out.trans hx2));obtain ⟨E,hE⟩:∃ E,t.err = E:=⟨_,rfl⟩;rw [hE];have HE:=Lib.hid hE;obtain ⟨p,hp⟩:∃ p,(E == 0) = p:=⟨_,rfl⟩;have HP:=Lib.hid hp;clear hE hx2 c0 c1 c2;go_wp2;go_ret;refine Z9e p rfl (fun h=>?_) HX2.out (fun h hh=>?_)
   · have h1:=HP.out
     rw [h,beq_iff_eq] at h1;have h2:t.err = 0:=HE.out.trans h1;exact ⟨h2,HQ.out,J1i HQ.out h2⟩
   · have h1:=HP.out
     rw [h,beq_eq_false_iff_ne] at h1;exact h1 (HE.out.symm.trans hh.1)
end Go.Proofs
namespace Go.Proofs
open Go.Tw
theorem Z9p (f g:Nat → Int):∀ n,Z7f (fun s=>f s + g s) n = Z7f f n + Z7f g n
 | 0=>rfl
 | n + 1=>by rw [Z7f,Z7f,Z7f,Z9p f g n]; omega
theorem Z8v (c:List Int) {N s:Nat} (hs:s < 2 ^ N):∀ j,j ≤ N → Q7f c (2 ^ N + s) j = Q7f c s j
 | 0,_=>rfl
 | j + 1,h=>by
   rw [Q7f,Q7f,Z8v c hs j (by omega)]
   congr 1
   unfold factor;rw [Z8d hs,Nat.testBit_or,Nat.testBit_two_pow,decide_eq_false (show ¬ N = j by omega),Bool.false_or]
theorem Z8x (c:List Int):∀ n,Z7f (fun s=>Q7f c s n) (2 ^ n) = 16 ^ n
 | 0=>rfl
 | n + 1=>by
   have e:2 ^ (n + 1) = 2 ^ n + 2 ^ n:=by rw [Nat.pow_succ]; omega
   rw [e,Z7u];have h1:Z7f (fun s=>Q7f c s (n + 1)) (2 ^ n) = 16 ^ n * (16 - ix c n):=by
    rw [← Z8x c n,← Z7e];refine Z6s _ fun s hs=>?_;show Q7f c s n * factor c s n = _;unfold factor;rw [Nat.testBit_lt_two_pow hs]; rfl
   have h2:Z7f (fun s=>Q7f c (2 ^ n + s) (n + 1)) (2 ^ n) = 16 ^ n * ix c n:=by
    rw [← Z8x c n,← Z7e];refine Z6s _ fun s hs=>?_;show Q7f c (2 ^ n + s) n * factor c (2 ^ n + s) n = _;rw [Z8v c hs n (Nat.le_refl _)];unfold factor;rw [Z8d hs,Nat.testBit_or,Nat.testBit_two_pow,decide_eq_true rfl,Bool.true_or,if_pos rfl]
   rw [h1,h2,Int.pow_succ,← Int.mul_add]
   congr 1
   omega
theorem Z7s {a b:Int} {n:Nat} (h0:0 ≤ a) (h1:a ≤ b) (hb:b = 16 ^ n):0 ≤ (lowest a b).num ∧ (lowest a b).num ≤ b ∧ 1 ≤ (lowest a b).den ∧ (lowest a b).den ≤ b ∧ (lowest a b).num ≤ (lowest a b).den:=by
 have hb1:1 ≤ b:=by rw [hb]; exact Int.pow_pos (by decide)
 have hg:1 ≤ (Int.gcd a b:Int):=by
  have:=Int.gcd_pos_of_ne_zero_right a (show b ≠ 0 by omega)
  omega
 unfold lowest;dsimp only;have hd:=Int.gcd_dvd_right a b;refine ⟨Int.ediv_nonneg h0 (by omega),?_,?_,Int.ediv_le_self _ (by omega),Int.ediv_le_ediv (by omega) h1⟩
 · exact Int.le_trans (Int.ediv_le_self _ h0) h1
 · obtain ⟨k,hk⟩:=hd
   have e:b / (Int.gcd a b:Int) = k:=by
    rw [show b / (Int.gcd a b:Int) = ((Int.gcd a b:Int) * k) / (Int.gcd a b:Int) by rw [← hk],Int.mul_ediv_cancel_left _ (by omega)]
   rw [e]
   rcases Int.lt_or_le 0 k with h | h
   · omega
   · have:(Int.gcd a b:Int) * k ≤ 0:=Int.mul_nonpos_of_nonneg_of_nonpos (by omega) h
     omega
end Go.Proofs
namespace Go.Proofs
open Go.RowKit Go.Tw Go.Flow
theorem Z9x (w:World) (n:Nat) (a b:Int):(Op.equalIn (n + 2) 59 (.agg #[.int .i64 a,.int .i64 b]) (.agg #[.int .i64 a,.int .i64 b])).run Tryz.prog w = .ok true w:=by
 have u3:=Tryz.underlying3;have a3:∀ w,(isAgg 3).run Tryz.prog w = .ok false w:=fun w=>by kernel_rfl
 have z3:∀ w,(sizeOf 3).run Tryz.prog w = .ok 1 w:=fun w=>by kernel_rfl
 have hS:Tryz.prog.underlying 59 = some (.struct (Tryz.prog.fieldsOf 59)):=by kernel_rfl
 have hp:Tryz.prog.stoodInHeld 59 = false:=by kernel_rfl
 rw [run_equalIn_agg w (n + 1) 59 _ _ hS hp];simp only [Program.fieldsOf,Tryz.underlying59];go_simp
theorem J0g (w:World) (a b c d:Int):(binOp .eql 85 (.agg #[.int .i64 a,.int .i64 b,.int .i64 c,.int .i64 d]) (.agg #[.int .i64 a,.int .i64 b,.int .i64 c,.int .i64 d])).run Tryz.prog w = .ok (.bool true) w:=by
 obtain ⟨i,hi⟩:∃ i,Tryz.prog.info? 59 = some i:=by
  cases hh:Tryz.prog.info? 59 with
  | none => exact absurd hh (by have : (Tryz.prog.info? 59).isSome = true := by kernel_rfl
                                intro h; rw [h] at this; cases this)
  | some i=>exact ⟨i,rfl⟩
 have hu:Tryz.prog.underlying 85 = some (.array 2 59):=by kernel_rfl
 have hc:Tryz.prog.cellsOf 59 = 2:=by kernel_rfl
 have p0:(part 59 #[.int .i64 a,.int .i64 b,.int .i64 c,.int .i64 d] (0 * 2)).run Tryz.prog w = .ok (.agg #[.int .i64 a,.int .i64 b]) w:=by kernel_rfl
 have p1:(part 59 #[.int .i64 a,.int .i64 b,.int .i64 c,.int .i64 d] (1 * 2)).run Tryz.prog w = .ok (.agg #[.int .i64 c,.int .i64 d]) w:=by kernel_rfl
 have q0:(Op.equalIn (9998 + 1) 59 (.agg #[.int .i64 a,.int .i64 b]) (.agg #[.int .i64 a,.int .i64 b])).run Tryz.prog w = .ok true w:=Z9x w 9997 a b;have q1:(Op.equalIn (9998 + 1) 59 (.agg #[.int .i64 c,.int .i64 d]) (.agg #[.int .i64 c,.int .i64 d])).run Tryz.prog w = .ok true w:=Z9x w 9997 c d;rw [run_eql_struct,show (10000:Nat) = 9998 + 1 + 1 from rfl,run_equalIn_array w (9998 + 1) _ _ hu hi,hc,show List.range 2 = [0,1] from rfl]
 simp [Op.eqItems,p0,p1,q0,q1]
end Go.Proofs
namespace Go.Proofs
open Go.Tw
theorem Z7j {a b k:Int} (hk:0 < k):lowest (a * k) (b * k) = lowest a b:=by
 unfold lowest;rw [Int.gcd_mul_right,Int.natCast_mul,Int.natAbs_of_nonneg (by omega:0 ≤ k),Int.mul_ediv_mul_of_pos_left _ _ hk,Int.mul_ediv_mul_of_pos_left _ _ hk]
theorem Z7c {a b c d:Int} (hb:0 < b) (hd:0 < d) (h:a * d = c * b):lowest a b = lowest c d:=by
 rw [← Z7j (a:=a) (b:=b) hd,h,Int.mul_comm b d,Z7j hb]
theorem Z6q (a b:Int):(lowest a b).num * b = a * (lowest a b).den:=by
 unfold lowest;dsimp only;have h1:=Int.ediv_mul_cancel (Int.gcd_dvd_left a b);have h2:=Int.ediv_mul_cancel (Int.gcd_dvd_right a b);generalize (Int.gcd a b:Int) = g at *;generalize a / g = x at *;generalize b / g = y at *;rw [← h1,← h2,Int.mul_assoc,Int.mul_comm g y]
theorem Z6l {a b:Int} (hb:0 < b):0 < (lowest a b).den:=by
 have h:=Int.ediv_mul_cancel (Int.gcd_dvd_right a b);unfold lowest;dsimp only
 rcases Int.lt_or_le 0 (b / (Int.gcd a b:Int)) with h1 | h1
 · exact h1
 · have:=Int.mul_nonpos_of_nonpos_of_nonneg h1 (show 0 ≤ (Int.gcd a b:Int) by omega)
   omega
theorem Z7v {a b d:Int} (hd:0 < d) (h:a ≤ b):(lowest a d).num * (lowest b d).den ≤ (lowest b d).num * (lowest a d).den:=by
 have h1:=Z6q a d;have h2:=Z6q b d;have p1:=Z6l (a:=a) hd;have p2:=Z6l (a:=b) hd;generalize lowest a d = r at *;generalize lowest b d = s at *;obtain ⟨rn,rd⟩:=r;obtain ⟨sn,sd⟩:=s;dsimp only at *;refine Int.le_of_mul_le_mul_right ?_ hd;have e1:rn * sd * d = a * (rd * sd):=by rw [Int.mul_right_comm,h1,Int.mul_assoc]
 have e2:sn * rd * d = b * (rd * sd):=by rw [Int.mul_right_comm,h2,Int.mul_assoc,Int.mul_comm sd rd]
 rw [e1,e2];exact Int.mul_le_mul_of_nonneg_right h (Int.le_of_lt (Int.mul_pos p1 p2))
theorem Z8p {a b d:Int} (hd:0 < d) (h:a < b):(lowest a d).num * (lowest b d).den < (lowest b d).num * (lowest a d).den:=by
 have h1:=Z6q a d;have h2:=Z6q b d;have p1:=Z6l (a:=a) hd;have p2:=Z6l (a:=b) hd;generalize lowest a d = r at *;generalize lowest b d = s at *;obtain ⟨rn,rd⟩:=r;obtain ⟨sn,sd⟩:=s;dsimp only at *;refine Int.lt_of_mul_lt_mul_right ?_ (Int.le_of_lt hd);have e1:rn * sd * d = a * (rd * sd):=by rw [Int.mul_right_comm,h1,Int.mul_assoc]
 have e2:sn * rd * d = b * (rd * sd):=by rw [Int.mul_right_comm,h2,Int.mul_assoc,Int.mul_comm sd rd]
 rw [e1,e2];exact Int.mul_lt_mul_of_pos_right h (Int.mul_pos p1 p2)
theorem J2k {W A B D o:Int} (hD:0 < D) (h:16 * W = o * A + (16 - o) * B) :
    lowest (o * (lowest A D).num * (lowest B D).den + (16 - o) * (lowest B D).num * (lowest A D).den) (16 * (lowest A D).den * (lowest B D).den) = lowest W D:=by
 have h1:=Z6q A D;have h2:=Z6q B D;have p1:=Z6l (a:=A) hD;have p2:=Z6l (a:=B) hD;generalize lowest A D = r at *;generalize lowest B D = s at *;obtain ⟨an,ad⟩:=r;obtain ⟨bn,bd⟩:=s;dsimp only at *;refine Z7c (Int.mul_pos (Int.mul_pos (by omega) p1) p2) hD ?_
 have e:(o * an * bd + (16 - o) * bn * ad) * D = o * (an * D) * bd + (16 - o) * (bn * D) * ad:=by grind
 rw [e,h1,h2];have e2:o * (A * ad) * bd + (16 - o) * (B * bd) * ad = (o * A + (16 - o) * B) * (ad * bd):=by grind
 rw [e2,← h]
 grind
theorem J0l {A B D:Int} (hD:0 < D):lowest ((lowest A D).num * (lowest B D).den - (lowest B D).num * (lowest A D).den) ((lowest A D).den * (lowest B D).den) = lowest (A - B) D:=by
 have h1:=Z6q A D;have h2:=Z6q B D;have p1:=Z6l (a:=A) hD;have p2:=Z6l (a:=B) hD;generalize lowest A D = r at *;generalize lowest B D = s at *;obtain ⟨an,ad⟩:=r;obtain ⟨bn,bd⟩:=s;dsimp only at *;refine Z7c (Int.mul_pos p1 p2) hD ?_;have e:(an * bd - bn * ad) * D = an * D * bd - bn * D * ad:=by grind
 rw [e,h1,h2]
 grind
theorem J2f {V W I D:Int} (hD:0 < D) (h:16 * (V - W) = I):lowest ((lowest V D).num * (lowest W D).den - (lowest W D).num * (lowest V D).den) ((lowest V D).den * (lowest W D).den) = lowest (lowest I D).num (16 * (lowest I D).den):=by
 rw [J0l hD];have h1:=Z6q I D;have p1:=Z6l (a:=I) hD;generalize lowest I D = r at *;obtain ⟨n,d⟩:=r;dsimp only at *;refine Z7c hD (by omega) ?_
 rw [h1,← h]
 grind
theorem J1x {c:List Int} (s:Nat) {k:Nat} (hk:k < c.length) (x:Int):16 * partOf (Q0t c [(k:Int)] x) s = x * partOf (Q0t c [(k:Int)] 16) s + (16 - x) * partOf (Q0t c [(k:Int)] 0) s:=by
 rw [Z7g s hk,Z7g s hk,Z7g s hk];generalize Z7d c s k c.length = R;cases s.testBit k <;> simp <;> grind
theorem J1y {c:List Int} {k:Nat} (hk:k < c.length):Q0t c [(k:Int)] (ix c k) = c:=by
 apply List.ext_getElem (by rw [Q8a])
 intro i h1 h2;rw [← Q8m h1,← Q8m h2,Z8t h2]
 split
 · rename_i e; rw [e]
 · rfl
theorem Z9i {t:Tree} {k:Nat} (hk:k < t.size) (x:Int):16 * t.weight (Q0t t.Q0b [(k:Int)] x) = x * t.weight (Q0t t.Q0b [(k:Int)] 16) + (16 - x) * t.weight (Q0t t.Q0b [(k:Int)] 0):=by
 have hkc:k < t.Q0b.length:=by rw [Q4v]; exact hk
 unfold Tree.weight;rw [Z6t,Z6t,Z6t,Int.mul_comm 16,Int.mul_comm x,Int.mul_comm (16 - x),← Z7e,← Z7e,← Z7e,← Z9p];refine Z6s _ fun s _=>?_;have:=J1x s hkc x;cases t.fails (evN s) <;> simp <;> grind
theorem Z8c {t:Tree} {k:Nat} (hk:k < t.size):16 * t.weight t.Q0b = ix t.Q0b k * t.weight (Q0t t.Q0b [(k:Int)] 16) + (16 - ix t.Q0b k) * t.weight (Q0t t.Q0b [(k:Int)] 0):=by
 have h:=Z9i hk (ix t.Q0b k);rw [J1y (by rw [Q4v]; exact hk)] at h
 exact h
theorem J0c {t:Tree} {k:Nat} (hk:k < t.size):16 * (t.weight (Q0t t.Q0b [(k:Int)] (ix t.Q0b k + 1)) - t.weight t.Q0b) = t.weight (Q0t t.Q0b [(k:Int)] 16) - t.weight (Q0t t.Q0b [(k:Int)] 0):=by
 have h1:=Z9i hk (ix t.Q0b k + 1);have h2:=Z8c hk
 grind
theorem Z9a {t:Tree} (hv:Valid t) {k:Nat} (hk:k < t.size):t.weight (Q0t t.Q0b [(k:Int)] 0) ≤ t.weight t.Q0b:=by
 have h1:=Z8c hk;have h2:=Z7l hv hk;have h3:=hv.small.ix (j:=k) (by rw [Q4v]; exact hk)
 have h4:0 ≤ ix t.Q0b k * (t.weight (Q0t t.Q0b [(k:Int)] 16) - t.weight (Q0t t.Q0b [(k:Int)] 0)):=Int.mul_nonneg h3.1 (by omega)
 have e:ix t.Q0b k * (t.weight (Q0t t.Q0b [(k:Int)] 16) - t.weight (Q0t t.Q0b [(k:Int)] 0)) = 16 * t.weight t.Q0b - 16 * t.weight (Q0t t.Q0b [(k:Int)] 0):=by rw [h1]; grind
 omega
theorem Z8q {c:List Int} (h:Small c) (s:Nat):0 ≤ partOf c s:=(Y0b h s _ (Nat.le_refl _)).1
theorem Z6y {t:Tree} {c:List Int} (h:Small c) (hl:c.length = t.size):0 ≤ t.weight c ∧ t.weight c ≤ 16 ^ t.size:=by
 unfold Tree.weight;rw [Z6t]
 constructor
 · have:=Z8r (f:=fun _=>0) (g:=fun s=>if t.fails (evN s) then partOf c s else 0) (2 ^ t.size) fun s _=>by
    show 0 ≤ if t.fails (evN s) then partOf c s else 0
    split
    · exact Z8q h s
    · exact Int.le_refl _
   have e:∀ n,Z7f (fun _=>0) n = 0:=fun n=>by induction n with | zero=>rfl | succ n ih=>rw [Z7f,ih]; rfl
   rw [e] at this;exact this
 · rw [← Z8x c t.size]
   refine Z8r _ fun s _=>?_;show (if t.fails (evN s) then partOf c s else 0) ≤ Q7f c s t.size
   have h1:=Z8q h s;unfold partOf at h1 ⊢;rw [hl] at h1 ⊢
   split
   · exact Int.le_refl _
   · exact h1
def Z6z (m s:Nat):Nat → Bool
 | 0=>true
 | n + 1=>Z6z m s n && (!m.testBit n || s.testBit n)
theorem Z9b {m N s:Nat} (hs:s < 2 ^ N):∀ j,j ≤ N → Z6z m (2 ^ N + s) j = Z6z m s j
 | 0,_=>rfl
 | j + 1,h=>by
   rw [Z6z,Z6z,Z9b hs j (by omega),Z8d hs,Nat.testBit_or,Nat.testBit_two_pow,decide_eq_false (show ¬ N = j by omega),Bool.false_or]
theorem Z9v {m s:Nat}:∀ n,Z6z m s n = true ↔ ∀ i,i < n → m.testBit i = true → s.testBit i = true
 | 0=>by simp [Z6z]
 | n + 1=>by
   rw [Z6z,Bool.and_eq_true,Z9v n]
   constructor
   · rintro ⟨h1,h2⟩ i hi hb
     by_cases e:i = n
     · subst e; rw [hb] at h2; simpa using h2
     · exact h1 i (by omega) hb
   · intro h
     refine ⟨fun i hi=>h i (by omega),?_⟩
     cases hb:m.testBit n with
     | false=>rfl
     | true=>rw [h n (by omega) hb]; rfl
theorem J0o {m:Nat} (hm:m < 65536) (c:List Int):∀ n,Z7f (fun s=>if Z6z m s n then Q7f c s n else 0) (2 ^ n) = Q3z c (bitsOf m) n
 | 0=>rfl
 | n + 1=>by
   have e:2 ^ (n + 1) = 2 ^ n + 2 ^ n:=by rw [Nat.pow_succ]; omega
   have ih:=J0o hm c n;rw [e,Z7u,Q3z,Z7b hm,← ih];have h1:Z7f (fun s=>if Z6z m s (n + 1) then Q7f c s (n + 1) else 0) (2 ^ n) = Z7f (fun s=>if Z6z m s n then Q7f c s n else 0) (2 ^ n) * (if m.testBit n then 0 else 16 - ix c n):=by
    rw [← Z7e];refine Z6s _ fun s hs=>?_;show (if Z6z m s (n + 1) then Q7f c s (n + 1) else 0) = _
    rw [Z6z,Q7f,Nat.testBit_lt_two_pow hs];unfold factor;rw [Nat.testBit_lt_two_pow hs];cases Z6z m s n <;> cases m.testBit n <;> simp
   have h2:Z7f (fun s=>if Z6z m (2 ^ n + s) (n + 1) then Q7f c (2 ^ n + s) (n + 1) else 0) (2 ^ n) = Z7f (fun s=>if Z6z m s n then Q7f c s n else 0) (2 ^ n) * ix c n:=by
    rw [← Z7e];refine Z6s _ fun s hs=>?_;show (if Z6z m (2 ^ n + s) (n + 1) then Q7f c (2 ^ n + s) (n + 1) else 0) = _
    have hb:(2 ^ n + s).testBit n = true:=by rw [Z8d hs,Nat.testBit_or,Nat.testBit_two_pow,decide_eq_true rfl,Bool.true_or]
    rw [Z6z,Q7f,Z9b hs n (Nat.le_refl _),Z8v c hs n (Nat.le_refl _)];unfold factor;rw [hb];cases Z6z m s n <;> simp
   rw [h1,h2,← Int.mul_add]
   congr 1
   cases m.testBit n <;> simp <;> omega
theorem J2l {m s n:Nat} (hm:m < 2 ^ n):Z6z m s n = true ↔ Z2u m s:=by
 rw [Z9v];exact ⟨fun h i hi=>h i (J0m hm hi) hi,fun h i _ hi=>h i hi⟩
theorem J1h {c:List Int} {n:Nat} (hn:n ≤ 12) (hp:∀ s,0 ≤ Q7f c s n):∀ L:List (List Int),(∀ l ∈ L,∃ m,m < 2 ^ n ∧ l = bitsOf m) → Z7f (fun s=>if Z6u (bitsOf s) L then Q7f c s n else 0) (2 ^ n) ≤ X6n c n L
 | [],_=>by
   have e:∀ k,Z7f (fun s=>if Z6u (bitsOf s) [] then Q7f c s n else 0) k = 0:=fun k=>by
    induction k with
    | zero=>rfl
    | succ k ih=>rw [Z7f,ih]; rfl
   rw [e];exact Int.le_refl _
 | l :: L,h=>by
   obtain ⟨m,hm,rfl⟩:=h l (List.mem_cons_self ..);have ih:=J1h hn hp L fun l hl=>h l (List.mem_cons_of_mem _ hl);have hm16:m < 65536:=Z7a hn hm;rw [X6n,← J0o hm16 c n];refine Int.le_trans ?_ (Int.add_le_add_left ih _);rw [← Z9p];refine Z8r _ fun s hs=>?_;have hp0:=hp s;have e:((bitsOf m).all fun x=>has (bitsOf s) x) = Z6z m s n:=by
    rw [Bool.eq_iff_iff,Z9k (Z7a hn hs) hm16,J2l hm]
   show (if Z6u (bitsOf s) (bitsOf m :: L) then Q7f c s n else 0) ≤ (if Z6z m s n then Q7f c s n else 0) + (if Z6u (bitsOf s) L then Q7f c s n else 0)
   have e2:Z6u (bitsOf s) (bitsOf m :: L) = (Z6z m s n || Z6u (bitsOf s) L):=by
    unfold Z6u;rw [List.any_cons,e]
   rw [e2];cases Z6z m s n <;> cases Z6u (bitsOf s) L <;> simp <;> omega
theorem Z8m {t:Tree} (hv:Valid t):t.weight t.Q0b ≤ X8w t:=by
 have hs:=hv.size;have hlen:=Q4v t;unfold Tree.weight X8w;refine Int.le_trans (Int.le_of_eq ?_) (J1h hs (c:=t.Q0b) (fun s=>(Y0b hv.small s t.size (by omega)).1) (t.sets false) fun l hl=>?_)
 · rw [Z6t]
   refine Z6s _ fun s h=>?_;rw [Z9o hs (Z8l t) (fun s hs'=>Z8k hs hs') h];unfold partOf J3b;rw [hlen]
 · obtain ⟨m,h1,_,h2⟩:=(Z7y hs (fun s hs'=>Z8k hs hs') l).1 hl
   exact ⟨m,h1,h2⟩
theorem Z9u (c:List Int) (l:List Int):∀ n:Nat,(∃ k:Nat,k < n ∧ has l (k:Int) = false) → (16:Int) ∣ Q3z c l n
 | 0,⟨k,h,_⟩=>absurd h (by omega)
 | n + 1,⟨k,h,hk⟩=>by
   rw [Q3z]
   by_cases e:k = n
   · subst e
     rw [hk];exact Int.dvd_mul_left _ _
   · exact Int.dvd_trans (Z9u c l n ⟨k,by omega,hk⟩) (Int.dvd_mul_right _ _)
theorem J0j (c:List Int) (n:Nat):∀ L:List (List Int),(∀ l ∈ L,(16:Int) ∣ Q3z c l n) → (16:Int) ∣ X6n c n L
 | [],_=>⟨0,rfl⟩
 | l :: L,h=>by
   rw [X6n];exact Int.dvd_add (h l (List.mem_cons_self ..)) (J0j c n L fun l hl=>h l (List.mem_cons_of_mem _ hl))
theorem J1k {c:List Int} (h:Small c) {n:Nat} (hn:n ≤ c.length):∀ L:List (List Int),0 ≤ X6n c n L ∧ X6n c n L ≤ L.length * 16 ^ n
 | []=>by simp [X6n]
 | l :: L=>by
   have h1:=Y4g h l n hn;have h2:=J1k h hn L;rw [X6n,List.length_cons];have h3:((L.length + 1:Nat):Int) * 16 ^ n = (L.length:Int) * 16 ^ n + 16 ^ n:=by rw [Int.natCast_add,Int.add_mul]; simp
   rw [h3];omega
theorem Z9n {a b g:Int} (h0:0 ≤ a) (hg:0 < g) (ha:g ∣ a) (hb:g ∣ b) (hb0:0 < b):(lowest a b).num ≤ a / g:=by
 obtain ⟨x,rfl⟩:=ha;obtain ⟨y,rfl⟩:=hb;rw [Int.mul_comm g x,Int.mul_comm g y,Z7j hg,Int.mul_ediv_cancel _ (by omega)]
 have hx:0 ≤ x:=by
  rcases Int.lt_or_le x 0 with h | h
  · have:=Int.mul_neg_of_pos_of_neg hg h; omega
  · exact h
 unfold lowest;exact Int.ediv_le_self _ hx
theorem J0z {t:Tree} (hv:Valid t) (hs:t.size ≤ 6):0 ≤ (lowest (X8w t) (16 ^ t.size)).num ∧ (lowest (X8w t) (16 ^ t.size)).num ≤ 268435456 ∧ 1 ≤ (lowest (X8w t) (16 ^ t.size)).den ∧ (lowest (X8w t) (16 ^ t.size)).den ≤ 268435456:=by
 have hsz:=hv.size;have hlen:=Q4v t;have hpos:(0:Int) < 16 ^ t.size:=Int.pow_pos (by decide)
 have hp:(16:Int) ^ t.size ≤ 16777216:=by
  have:(16:Nat) ^ t.size ≤ 16 ^ 6:=Nat.pow_le_pow_right (by omega) hs
  have h2:=Int.ofNat_le.2 (Nat.le_trans this (show 16 ^ 6 ≤ 16777216 by decide))
  rw [Int.natCast_pow] at h2;exact h2
 have hcnt:(t.sets false).length ≤ 35:=J0y (by omega) (Z8l t) (fun s hs'=>Z8k hsz hs')
 have hb:=J1k hv.small (n:=t.size) (by omega) (t.sets false)
 have hden:=Z6l (a:=X8w t) hpos;have hd2:(lowest (X8w t) (16 ^ t.size)).den ≤ 16 ^ t.size:=by unfold lowest; exact Int.ediv_le_self _ (by omega)
 have hg0:0 ≤ (Int.gcd (X8w t) (16 ^ t.size):Int):=by omega
 have hb0:0 ≤ X8w t:=hb.1;refine ⟨by unfold lowest; exact Int.ediv_nonneg hb0 hg0,?_,hden,by omega⟩
 by_cases hone:∀ l ∈ t.sets false,∃ k,k < t.size ∧ has l (k:Int) = false
 · have h16:(16:Int) ∣ X8w t:=J0j _ _ _ fun l hl=>Z9u _ _ _ (hone l hl)
   have h17:(16:Int) ∣ 16 ^ t.size:=by
    have hn:t.size ≠ 0:=by have:=hv.nb; unfold Tree.size; omega
    obtain ⟨m,hm⟩:∃ m,t.size = m + 1:=⟨t.size - 1,by omega⟩
    rw [hm,Int.pow_succ];exact Int.dvd_mul_left _ _
   have h1:=Z9n hb0 (by decide) h16 h17 hpos
   have h2:X8w t ≤ 35 * 16777216:=by
    refine Int.le_trans hb.2 ?_;exact Int.mul_le_mul (by omega) hp (by omega) (by omega)
   omega
 · have h1:∃ l ∈ t.sets false,∀ k,k < t.size → has l (k:Int) = true:=by
    apply Classical.byContradiction
    intro hn;refine hone fun l hl=>?_
    apply Classical.byContradiction
    intro h2;refine hn ⟨l,hl,fun k hk=>?_⟩;cases hb:has l (k:Int) with
    | true=>rfl
    | false=>exact absurd ⟨k,hk,hb⟩ h2
   obtain ⟨l,hl,hall⟩:=h1;have hall2:∀ l' ∈ t.sets false,l' = l:=by
    intro l' hl';obtain ⟨m,a1,a2,rfl⟩:=(Z7y hsz (fun s hs'=>Z8k hsz hs') l).1 hl
    obtain ⟨m',b1,b2,rfl⟩:=(Z7y hsz (fun s hs'=>Z8k hsz hs') l').1 hl'
    have hsub:Z2u m' m:=fun i hi=>by
     have:=hall i (J0m b1 hi);rw [Z7b (Z7a hsz a1)] at this;exact this
    rw [Z9j (Z8l t) a1 (Z7m.1 b2).1 a2 hsub]
   have hlen1:(t.sets false).length ≤ 1:=by
    have hnd:=J1c hsz (t:=t) false;cases hS:t.sets false with
    | nil=>simp
    | cons x L =>
      cases L with
      | nil=>simp
      | cons y L =>
        rw [hS] at hnd hall2;have e1:=hall2 x (by simp)
        have e2:=hall2 y (by simp)
        rw [List.nodup_cons] at hnd;exact absurd (show x ∈ y :: L by rw [e1,e2]; exact List.mem_cons_self ..) hnd.1
   have h2:X8w t ≤ 16777216:=by
    refine Int.le_trans hb.2 (Int.le_trans (Int.mul_le_mul_of_nonneg_right (show ((t.sets false).length:Int) ≤ 1 by omega) (by omega)) (by omega))
   have h3:(lowest (X8w t) (16 ^ t.size)).num ≤ X8w t:=by unfold lowest; exact Int.ediv_le_self _ hb0
   omega
theorem Z8n (t:Tree):∀ n,(∀ j,j < n → (Q5b t n).2 ≤ Y3i t j) ∧
    (((Q5b t n).2 = Q1g t t.Q0b 0) ∨ ∃ k,k < n ∧ (Q5b t n).1 = k ∧ (Q5b t n).2 = Y3i t k ∧ Y3i t k < Q1g t t.Q0b 0 ∧ ∀ j,j < k → Y3i t k < Y3i t j)
 | 0=>⟨fun j hj=>by omega,.inl rfl⟩
 | n + 1=>by
   obtain ⟨h1,h2⟩:=Z8n t n;have h2':(Q5b t n).2 ≤ Q1g t t.Q0b 0:=by
    rcases h2 with h | ⟨k,_,_,h3,h4,_⟩ <;> omega
   show (∀ j,j < n + 1 → (Z1n t (Q5b t n) n).2 ≤ Y3i t j) ∧ (((Z1n t (Q5b t n) n).2 = Q1g t t.Q0b 0) ∨ ∃ k,k < n + 1 ∧ (Z1n t (Q5b t n) n).1 = k ∧ (Z1n t (Q5b t n) n).2 = Y3i t k ∧ Y3i t k < Q1g t t.Q0b 0 ∧ ∀ j,j < k → Y3i t k < Y3i t j);unfold Z1n
   by_cases hc:Y3i t n < (Q5b t n).2
   · rw [if_pos hc]
     refine ⟨fun j hj=>?_,.inr ⟨n,by omega,rfl,rfl,by omega,fun j hj=>by have:=h1 j hj; omega⟩⟩
     show Y3i t n ≤ Y3i t j
     by_cases e:j = n
     · subst e; exact Int.le_refl _
     · have:=h1 j (by omega); omega
   · rw [if_neg hc]
     refine ⟨fun j hj=>?_,?_⟩
     · by_cases e:j = n
       · subst e; omega
       · exact h1 j (by omega)
     · rcases h2 with h | ⟨k,h3,h4⟩
       · exact .inl h
       · exact .inr ⟨k,by omega,h4⟩
theorem Z7h {t:Tree} (k:Nat):Y3i t k = t.weight (Q0t t.Q0b [(k:Int)] 0):=by
 unfold Y3i;rw [Z6r]
end Go.Proofs
namespace Go.Proofs
open Go.RowKit Go.Tw Go.Flow
theorem J1q (t:Tree) (n:Int):Z2q t n = t.weight (Q0t t.Q0b [n] 16) - t.weight (Q0t t.Q0b [n] 0):=by
 unfold Z2q;rw [Z6r,Z6r]
end Go.Proofs
namespace Go.Proofs
open Go.RowKit Go.Tw Go.Flow
def J3f (_:World) (c:Nat → Value) (x:Ratio):Prop:=c 0 = .int .i64 x.num ∧ c 1 = .int .i64 x.den
def Z7k:World → Value → List Ratio → Prop:=Go.Tw.Rows 2 J3f
instance:Inhabited Ratio:=⟨⟨0,0⟩⟩
theorem Z7k.ext {w w':World} {v:Value} {l:List Ratio} (h:Z7k w v l) (hx:Ext w w'):Z7k w' v l:=Go.Tw.Rows.ext (fun _ _ _ _ _ h=>h) h hx
theorem Z7k.opened {w:World} {v:Value} {l:List Ratio} (h:Z7k w v l) :
    ∃ A cap,v = .slice A l.length cap ∧ l.length ≤ 17592186043904 ∧ l.length ≤ cap ∧ ∀ k,k < l.length → ∃ b off,A = some ⟨b,off,none⟩ ∧
     w.cell? ⟨b,off + k * 2,none⟩ = some (.int .i64 (l.getD k default).num) ∧ w.cell? ⟨b,off + k * 2 + 1,none⟩ = some (.int .i64 (l.getD k default).den):=by
 obtain ⟨c,⟨A,cap,hv,hn,hcap,hc⟩,h2⟩:=h;refine ⟨A,cap,hv,hn,hcap,fun k hk=>?_⟩;obtain ⟨b,off,hA,h0⟩:=hc (k * 2) (by omega)
 obtain ⟨b',off',hA',h1⟩:=hc (k * 2 + 1) (by omega)
 rw [hA] at hA'; cases hA';obtain ⟨e0,e1⟩:=h2 k hk;simp only [Nat.add_zero] at e0 e1;refine ⟨b,off,hA,?_,?_⟩
 · rw [h0,e0,Q3u _ hk]
 · rw [Nat.add_assoc,h1,e1,Q3u _ hk]
def Z6m (x:Ratio):Prop:=0 ≤ x.num ∧ x.num ≤ 268435456 ∧ 1 ≤ x.den ∧ x.den ≤ 268435456
theorem J1v {w:World} {T:TypeId} {l:List Ratio} (hl:l.length ≤ 1000):Z7k (w.alloc (.cells (l.flatMap fun x=>[.int .i64 x.num,.int .i64 x.den]).toArray T)) (.slice (some ⟨w.heap.size,0,none⟩) l.length l.length) l:=by
 have hk:∀ x:Ratio,([Value.int .i64 x.num,.int .i64 x.den]:List Value).length = 2:=fun _=>rfl;refine ⟨fun j=>((l.flatMap fun x=>[Value.int .i64 x.num,.int .i64 x.den])[j]?).getD undef,⟨_,_,rfl,by omega,Nat.le_refl _,fun j hj=>⟨_,0,rfl,?_⟩⟩,fun j hj=>?_⟩
 · have hlen:=Q4r hk l
   have hj':j < (l.flatMap fun x=>[Value.int .i64 x.num,.int .i64 x.den]).length:=by omega
   rw [Nat.zero_add,Q0z];simp [List.getElem?_eq_getElem hj']
 · have h0:=flat_get hk l j 0 hj (by omega)
   have h1:=flat_get hk l j 1 hj (by omega)
   exact ⟨by show Option.getD _ _ = _; rw [h0]; rfl,by show Option.getD _ _ = _; rw [h1]; rfl⟩
set_option maxHeartbeats 1000000 in
theorem Z8u (w:World) (v:Value) (l:List Ratio) (hv:Z7k w v l) (hr:∀ x ∈ l,Z6m x) :
    Calls Tryz.prog 32 #[v] w fun e w'=>e = .returned (.bool true) ∧ Ext w w':=by
 obtain ⟨A,cap,rfl,hl,hcap,hc⟩:=hv.opened;have HC:=Lib.hid hc;have HR:=Lib.hid hr;clear hv hc hr;go_enter Tryz.func32,Tryz.ntmps32;go_wp2
 go_loopw [7] (fun i wr=>∃ k:Nat,k ≤ l.length ∧ i = .int .i64 k ∧ Ext w wr) (fun i _=>l.length - (intOf i).toNat)
 case atStart=>exact ⟨0,Nat.zero_le _,rfl,Ext.refl _⟩
 case round =>
  obtain ⟨k,hk,rfl,hx⟩:=hrel
  by_cases hlt:k < l.length
  · obtain ⟨b,off,rfl,e0,e1⟩:=HC.out k hlt
    replace e0:=hx.cell e0;replace e1:=hx.cell e1;have hroom:=HR.out (l.getD k default) (by rw [Q3u _ hlt]; exact List.getElem_mem hlt)
    obtain ⟨⟨n,d⟩,hnd⟩:∃ r,l.getD k default = r:=⟨_,rfl⟩;rw [hnd] at e0 e1 hroom;obtain ⟨h1,h2,h3,h4⟩:=hroom;dsimp only at h1 h2 h3 h4 e0 e1;have g1:¬ n < 0:=by omega
    have g2:¬ d < 1:=by omega
    have g3:¬ 268435456 < n:=by omega
    have g4:¬ 268435456 < d:=by omega
    have hkI:(k:Int) < l.length:=by omega
    have xb:=Ext.box wr (.cells #[.int .i64 n,.int .i64 d] 59);have HX2:=Lib.hid (hx.trans xb);clear hnd h1 h2 h3 h4 xb;go_wp2;go_roundw
    case rel=>exact ⟨k + 1,by omega,by go_num,HX2.out⟩
    case measure=>simp [intOf]; omega
  · go_wp2
    go_ret;exact ⟨rfl,hx⟩
end Go.Proofs
namespace Go.Proofs
open Go.RowKit Go.Tw Go.Flow
theorem J0e (w:World) (v:Value) (t:Tree) (n c:Int) (ht:IsTree w v t) :
    Calls Tryz.prog 34 #[v,.int .i64 n,.int .i64 c] w fun e w'=>∃ u,e = .returned (.tuple #[u,.int .i64 (Q4o t n c)]) ∧ IsTree w' u (Q4t t n c) ∧ Ext w w' :=
 (Y2d w v t n c ht).mono fun _ _ ⟨u,h1,h2,h3⟩=>⟨u,h1,h2.is,h3⟩
end Go.Proofs
namespace Go.Proofs
open Go.RowKit Go.Tw Go.Flow
def Z6v (t:Tree) (c:List Int):Ratio:=lowest (t.weight c) (16 ^ t.size)
def onT (t:Tree) (k:Nat):Ratio:=Z6v t (Q0t t.Q0b [(k:Int)] 16)
def J0s (t:Tree) (k:Nat):Ratio:=Z6v t (Q0t t.Q0b [(k:Int)] 0)
def J2g (t:Tree) (k:Nat):Ratio:=lowest (t.weight (Q0t t.Q0b [(k:Int)] 16) - t.weight (Q0t t.Q0b [(k:Int)] 0)) (16 ^ t.size)
def J0a (t:Tree):Ratio:=lowest (X8w t) (16 ^ t.size)
theorem Z6w (n:Nat):((Q5n 16 n:Nat):Int) = 16 ^ n:=by unfold Q5n; rw [Int.natCast_pow]; rfl
theorem Z9g {c:List Int} (x:Int):Q0t c [] x = c:=by
 apply List.ext_getElem (by rw [Q8a])
 intro i h1 h2;simp only [Q0t,List.getElem_map,List.getElem_range];rw [if_neg (by simp [has]),Q8m h2]
theorem Z8f {t:Tree} (he:t.err = 0) {k:Nat} (hk:k < t.size):Q0i t [(k:Int)] = 0:=by
 unfold Q0i;rw [if_pos he];unfold Q1h Y7s;simp [X5x];omega
theorem J1s {t:Tree} (he:t.err = 0):Q0i t [] = 0:=by
 unfold Q0i;rw [if_pos he];rfl
theorem J0n (w:World) (u:Value) (t:Tree) (a b:Int) (he:t.err = 0) (hC:Z6v t t.Q0b = ⟨a,b⟩) (hu:IsTree w u t) :
    Calls Tryz.prog 29 #[u] w fun e w'=>e = .returned (.tuple #[.agg #[.int .i64 a,.int .i64 b],.int .i64 0]) ∧ Ext w w':=by
 have h:=X0l w u t hu;have e:Q7u t = ⟨a,b⟩:=by
  unfold Q7u;rw [if_pos he,Z6r,Z6w];exact hC
 rw [e,he] at h;exact h
theorem J2d (w:World) (u v:Value) (t:Tree) (k:Nat) (a b:Int) (he:t.err = 0) (hk:k < t.size) (hC:onT t k = ⟨a,b⟩) (hu:IsTree w u t) (hv:Q0f w v [(k:Int)]) :
    Calls Tryz.prog 45 #[u,v,.slice none 0 0] w fun e w'=>e = .returned (.tuple #[.agg #[.int .i64 a,.int .i64 b],.int .i64 0]) ∧ Ext w w':=by
 have h:=X7a w u v (.slice none 0 0) t [(k:Int)] [] hu hv (Go.Tw.Rows.nil _ _ _);have e0:Q5x t [(k:Int)] [] = 0:=by
  unfold Q5x;rw [Z8f he hk,J1s he];rfl
 have e:X1v t [(k:Int)] [] = ⟨a,b⟩:=by
  unfold X1v;rw [if_pos e0,Z6w];unfold Q7r;rw [Z6r,Z9g];exact hC
 rw [e,e0] at h;exact h
theorem Z8j (w:World) (u v:Value) (t:Tree) (k:Nat) (a b:Int) (he:t.err = 0) (hk:k < t.size) (hC:J0s t k = ⟨a,b⟩) (hu:IsTree w u t) (hv:Q0f w v [(k:Int)]) :
    Calls Tryz.prog 45 #[u,.slice none 0 0,v] w fun e w'=>e = .returned (.tuple #[.agg #[.int .i64 a,.int .i64 b],.int .i64 0]) ∧ Ext w w':=by
 have h:=X7a w u (.slice none 0 0) v t [] [(k:Int)] hu (Go.Tw.Rows.nil _ _ _) hv;have e0:Q5x t [] [(k:Int)] = 0:=by
  unfold Q5x;rw [Z8f he hk,J1s he];rfl
 have e:X1v t [] [(k:Int)] = ⟨a,b⟩:=by
  unfold X1v;rw [if_pos e0,Z6w];unfold Q7r;rw [Z6r,Z9g];exact hC
 rw [e,e0] at h;exact h
theorem J2z (w:World) (u:Value) (t:Tree) (k:Nat) (a b:Int) (hv:Valid t) (he:t.err = 0) (hk:k < t.size) (hC:J2g t k = ⟨a,b⟩) (hu:IsTree w u t) :
    Calls Tryz.prog 46 #[u,.int .i64 k] w fun e w'=>e = .returned (.tuple #[.agg #[.int .i64 a,.int .i64 b],.int .i64 0]) ∧ Ext w w':=by
 have h:=X4r w u t k hu (fun _=>by rw [J1q]; have:=Z7l hv hk; omega)
 have e0:=Z8f he hk;have e:Q4e t k = ⟨a,b⟩:=by
  unfold Q4e;rw [if_pos e0,Z6w,J1q];exact hC
 rw [e,e0] at h;exact h
theorem J2m (w:World) (u:Value) (t:Tree) (a b:Int) (he:t.err = 0) (hC:J0a t = ⟨a,b⟩) (hu:IsTree w u t) (hT:Tab w) :
    Calls Tryz.prog 47 #[u] w fun e w'=>e = .returned (.tuple #[.agg #[.int .i64 a,.int .i64 b],.int .i64 0]) ∧ Ext w w':=by
 have h:=Y6p w u t hu hT;have e:X2s t = ⟨a,b⟩:=by
  unfold X2s;rw [if_pos he,Z6w];exact hC
 rw [e,he] at h;exact h
theorem Z7q:∀ l:List Int,(∀ x ∈ l,x = 0) → Q0h l = 0
 | [],_=>rfl
 | x :: l,h=>by
   unfold Q0h;rw [if_pos (h x (List.mem_cons_self ..))];exact Z7q l fun y hy=>h y (List.mem_cons_of_mem _ hy)
theorem J0u (w:World) (u v:Value) (t:Tree) (a b:Int) (hV:Valid t) (he:t.err = 0) (hC:Z6v t t.Q0b = ⟨a,b⟩) (hu:IsTree w u t) (hv:Q0f w v t.Q0b) :
    Calls Tryz.prog 48 #[u,v] w fun e w'=>e = .returned (.tuple #[.agg #[.int .i64 a,.int .i64 b,.int .i64 a,.int .i64 b],.int .i64 0]) ∧ Ext w w':=by
 have h:=X7k w u v t t.Q0b hu hv;have e0:Q2f t t.Q0b = 0:=by
  unfold Q2f X0p;rw [if_pos he,if_pos (Q4v t)];refine Z7q _ fun x hx=>?_;obtain ⟨i,hi,rfl⟩:=List.mem_map.1 hx;have hi':=List.mem_range.1 hi;have hb:=hV.small.ix (j:=i) (by rw [Q4v]; exact hi')
  have e1:Q0m (ix t.Q0b i) 0 16 = 0:=by unfold Q0m; rw [if_neg]; simp; omega
  have e2:Q0k (decide (ix t.Q0b i < ix t.Q0b i)) 11 = 0:=by simp [Q0k]
  unfold X7o;rw [e1,e2];rfl
 have e:Y4j t t.Q0b = ⟨a,b⟩:=by
  unfold Y4j;rw [if_pos e0,Z6w,Z6r];exact hC
 have e2:X1r t t.Q0b = ⟨a,b⟩:=by
  unfold X1r;rw [if_pos e0,Z6w,Z6r];exact hC
 rw [e,e2,e0] at h;exact h
structure J2u (t:Tree) (at_:Int) (r:Ratio) (e:Int):Prop where
 way:(e = 7 ∧ ∀ j,j < t.size → J0s t j = Z6v t t.Q0b) ∨
  (e = 0 ∧ (∃ k:Nat,at_ = k ∧ k < t.size ∧ J0s t k = r) ∧ Z6m r ∧ r.num * (Z6v t t.Q0b).den < (Z6v t t.Q0b).num * r.den ∧
   (∀ j,j < t.size → r.num * (J0s t j).den ≤ (J0s t j).num * r.den) ∧ ∀ j:Nat,(j:Int) < at_ → j < t.size → J0s t j ≠ r)
theorem Z7n {t:Tree} (hv:Valid t) (hs:t.size ≤ 6) {k:Nat} (_hk:k < t.size) (c:List Int) (hc:Small c) (hl:c.length = t.size):Z6m (Z6v t c):=by
 have h1:=Z6y (t:=t) hc hl;have h16:(16:Int) ^ t.size ≤ 16777216:=by
  have:(16:Nat) ^ t.size ≤ 16 ^ 6:=Nat.pow_le_pow_right (by omega) hs
  have h2:=Int.ofNat_le.2 (Nat.le_trans this (show 16 ^ 6 ≤ 16777216 by decide))
  rw [Int.natCast_pow] at h2;exact h2
 have r1:=Z7s (n:=t.size) h1.1 h1.2 rfl;have:=hv.size;unfold Z6v;exact ⟨r1.1,by omega,r1.2.2.1,by omega⟩
theorem J2y {t:Tree} (hv:Valid t) (he:t.err = 0) (hs:t.size ≤ 6):J2u t (X3g t) (nextR t) (Q9a t):=by
 have hD:(0:Int) < 16 ^ t.size:=Int.pow_pos (by decide)
 obtain ⟨h1,h2⟩:=Z8n t t.size;have hW:Q1g t t.Q0b 0 = t.weight t.Q0b:=Z6r t t.Q0b
 constructor
 unfold Q9a X3g nextR;rw [if_pos he,if_pos he,if_pos he];cases hq:Q4p t with
 | true =>
   left
   refine ⟨rfl,fun j hj=>?_⟩;have hbest:(Q5b t t.size).2 = t.weight t.Q0b:=by
    unfold Q4p X8q at hq;rw [J0p,Z6w,hW] at hq
    rcases h2 with h | ⟨k,_,_,h3,h4,_⟩
    · rw [h,hW]
    · rw [← h3,hW] at h4
      have:=Z8p (d:=16 ^ t.size) hD h4;rw [hq] at this;omega
   have h3:=h1 j hj;rw [hbest,Z7h] at h3;have h4:=Z9a hv hj;unfold J0s Z6v;rw [show t.weight (Q0t t.Q0b [(j:Int)] 0) = t.weight t.Q0b by omega]
 | false =>
   right
   have hne:(Q5b t t.size).2 ≠ t.weight t.Q0b:=by
    intro e;unfold Q4p X8q at hq;rw [e,Z6w,hW] at hq;have:Z3h (lowest (t.weight t.Q0b) (16 ^ t.size)) (lowest (t.weight t.Q0b) (16 ^ t.size)) = true:=J0p.2 rfl;rw [this] at hq;cases hq
   rcases h2 with h | ⟨k,hk,hk1,h3,h4,h5⟩
   · exact absurd (h.trans hW) hne
   · rw [if_neg (by decide),if_neg (by decide),if_neg (by decide)]
     unfold X8q;rw [hk1,h3,Z6w,Z7h];have hoff:∀ j,j < t.size → t.weight (Q0t t.Q0b [(k:Int)] 0) ≤ t.weight (Q0t t.Q0b [(j:Int)] 0):=fun j hj=>by
      have:=h1 j hj;rw [h3,Z7h,Z7h] at this;exact this
     refine ⟨rfl,⟨k,rfl,hk,rfl⟩,Z7n hv hs hk _ (Small.put hv.small (by omega) (by omega)) (by rw [Q8a,Q4v]),?_,fun j hj=>?_,fun j hj hj2=>?_⟩
     · refine Z8p hD ?_
       rw [Z7h,hW] at h4;exact h4
     · exact Z7v hD (hoff j hj)
     · intro e
       have h6:=h5 j (by omega)
       rw [Z7h,Z7h] at h6;have h7:=Z8p hD h6;unfold J0s Z6v at e;rw [e] at h7;omega
theorem J2s (w:World) (u:Value) (t:Tree) (hV:Valid t) (he:t.err = 0) (hs:t.size ≤ 6) (hu:IsTree w u t) :
    Calls Tryz.prog 51 #[u] w fun e w'=>∃ k a b x,e = .returned (.tuple #[.int .i64 k,.agg #[.int .i64 a,.int .i64 b],.int .i64 x]) ∧ J2u t k ⟨a,b⟩ x ∧ Ext w w':=by
 refine (Y7p w u t hu).mono ?_;rintro e w' ⟨rfl,hx⟩;exact ⟨_,(nextR t).num,(nextR t).den,_,rfl,J2y hV he hs,hx⟩
theorem Z9l (w:World) (a b c d:Int) (hr:Z6m ⟨a,b⟩) (hs:Z6m ⟨c,d⟩) :
    Calls Tryz.prog 49 #[.agg #[.int .i64 a,.int .i64 b],.agg #[.int .i64 c,.int .i64 d]] w fun e w'=>∃ x,e = .returned (.int .i64 x) ∧ (a * d ≤ c * b → x ≤ 0) ∧ (a * d < c * b → x < 0) ∧ (c * b ≤ a * d → 0 ≤ x) ∧ Ext w w':=by
 obtain ⟨h1,h2,h3,h4⟩:=hr;obtain ⟨g1,g2,g3,g4⟩:=hs;dsimp only at h1 h2 h3 h4 g1 g2 g3 g4;have m1:0 ≤ a * d ∧ a * d ≤ 72057594037927936:=⟨Int.mul_nonneg h1 (by omega),Int.le_trans (Int.mul_le_mul h2 g4 (by omega) (by omega)) (by decide)⟩
 have m2:0 ≤ c * b ∧ c * b ≤ 72057594037927936:=⟨Int.mul_nonneg g1 (by omega),Int.le_trans (Int.mul_le_mul g2 h4 (by omega) (by omega)) (by decide)⟩
 obtain ⟨x,hx⟩:∃ x,a * d = x:=⟨_,rfl⟩;obtain ⟨y,hy⟩:∃ y,c * b = y:=⟨_,rfl⟩;rw [hx,hy];rw [hx] at m1;rw [hy] at m2;have w1:IntKind.i64.wrap (a * d) = x:=by rw [hx]; exact wrap_in (by omega) (by omega)
 have w2:IntKind.i64.wrap (c * b) = y:=by rw [hy]; exact wrap_in (by omega) (by omega)
 have w3:IntKind.i64.wrap (x - y) = x - y:=wrap_in (by omega) (by omega)
 have HX:Hid (∀ v,Ending.returned (.int .i64 v) = Ending.returned (.int .i64 v)):=Lib.hid fun _=>rfl;have HM:=Lib.hid m1;have HM2:=Lib.hid m2;clear h1 h2 h3 h4 g1 g2 g3 g4 m1 m2 hx hy HX;have hxx:=(Ext.box w (.cells #[.int .i64 a,.int .i64 b] 59)).trans (Ext.box _ (.cells #[.int .i64 c,.int .i64 d] 59));have HXX:=Lib.hid hxx;clear hxx
 by_cases hlt:x - y < 0
 · go_enter Tryz.func49,Tryz.ntmps49
   go_wp2;go_ret;exact ⟨-1,rfl,fun _=>by omega,fun _=>by omega,fun _=>by omega,HXX.out⟩
 · go_enter Tryz.func49,Tryz.ntmps49
   go_wp2;go_ret;exact ⟨_,rfl,fun _=>by omega,fun _=>by omega,fun _=>by omega,HXX.out⟩
end Go.Proofs
namespace Go.Proofs
open Go.RowKit Go.Tw Go.Flow
section
variable {t:Tree} {k:Nat} {c:Int}
theorem Z7z:(Q3c t k c).basics.length = t.basics.length:=by unfold Q3c; split <;> simp
theorem J2h:(Q3c t k c).causes.length = t.causes.length:=by unfold Q3c; split <;> simp
theorem J2a:(Q3c t k c).gates = t.gates:=by unfold Q3c; split <;> rfl
theorem Z7w:(Q3c t k c).size = t.size:=by unfold Tree.size; rw [Z7z,J2h]
theorem J1t (i:Nat) (hi:i < t.basics.length):bName (Q3c t k c).basics i = bName t.basics i:=by
 unfold Q3c
 split
 · show bName (t.basics.set k _) i = _
   unfold bName;rw [Q6y _ _ _ _ hi]
   split
   · rename_i h; subst h; rfl
   · rfl
 · rfl
theorem J0f (i:Nat) (hi:i < t.basics.length):Q1l (Q3c t k c).basics i = if i = k then c else Q1l t.basics i:=by
 unfold Q3c
 split
 · show Q1l (t.basics.set k _) i = _
   unfold Q1l;rw [Q6y _ _ _ _ hi]
   split <;> rfl
 · rename_i h
   rw [if_neg (by omega)]
theorem J1u (i:Nat) (hi:i < t.causes.length):cName (Q3c t k c).causes i = cName t.causes i:=by
 unfold Q3c
 split
 · rfl
 · show cName (t.causes.set _ _) i = _
   unfold cName;rw [Q6y _ _ _ _ hi]
   split
   · rename_i h; subst h; rfl
   · rfl
theorem Z9m (i:Nat) (hi:i < t.causes.length):Q0c (Q3c t k c).causes i = Q0c t.causes i:=by
 unfold Q3c
 split
 · rfl
 · show Q0c (t.causes.set _ _) i = _
   unfold Q0c;rw [Q6y _ _ _ _ hi]
   split
   · rename_i h; subst h; rfl
   · rfl
theorem J0b (i:Nat) (hi:i < t.causes.length):Q1d (Q3c t k c).causes i = if t.basics.length + i = k then c else Q1d t.causes i:=by
 unfold Q3c
 split
 · rename_i h
   rw [if_neg (by omega)]
 · rename_i h
   show Q1d (t.causes.set _ _) i = _;unfold Q1d;rw [Q6y _ _ _ _ hi]
   by_cases e:i = k - t.basics.length
   · rw [if_pos e,if_pos (by omega)]
   · rw [if_neg e,if_neg (by omega)]
theorem Z8i (i:Nat) (hi:i < t.size):(Q3c t k c).nameAt i = t.nameAt i:=by
 unfold Tree.size at hi;unfold Tree.nameAt;rw [Z7z]
 split
 · rename_i h; exact J1t i h
 · exact J1u _ (by omega)
theorem Z9f (i:Nat) (hi:i < t.size):(Q3c t k c).Q0y i = if i = k then c else t.Q0y i:=by
 unfold Tree.size at hi;unfold Tree.Q0y;rw [Z7z]
 by_cases h:i < t.basics.length
 · rw [if_pos h,if_pos h]; exact J0f i h
 · rw [if_neg h,if_neg h,J0b _ (by omega)]
   by_cases e:i = k
   · rw [if_pos (by omega),if_pos e]
   · rw [if_neg (by omega),if_neg e]
theorem J0h (hk:k < t.size):(Q3c t k c).Q0b = Q0t t.Q0b [(k:Int)] c:=by
 apply List.ext_getElem
 · rw [Q4v,Q8a,Q4v,Z7w]
 · intro i h1 h2
   have hi:i < t.size:=by rw [Q4v,Z7w] at h1; exact h1
   simp only [Q0t,Tree.Q0b,List.getElem_map,List.getElem_range];rw [Z9f i hi]
   by_cases e:i = k
   · subst e; rw [if_pos rfl,if_pos (by simp [has])]
   · rw [if_neg e,if_neg (by simp [has]; omega)]
     simp [ix,hi]
theorem J0x (ev:Nat → Bool) (i:Nat):(Q3c t k c).Y8w ev i = t.Y8w ev i:=by
 unfold Tree.Y8w;rw [J2h,Z7z]
 congr 1
 rw [Bool.eq_iff_iff,List.any_eq_true,List.any_eq_true]
 constructor
 · rintro ⟨j,hj,h⟩
   rw [Z9m j (List.mem_range.1 hj)] at h;exact ⟨j,hj,h⟩
 · rintro ⟨j,hj,h⟩
   rw [← Z9m (k:=k) (c:=c) j (List.mem_range.1 hj)] at h;exact ⟨j,hj,h⟩
theorem Z9h (ev:Nat → Bool):∀ n,(Q3c t k c).Q5y ev n = t.Q5y ev n
 | 0=>by
   show (Q3c t k c).X2i ev = t.X2i ev;unfold Tree.X2i;rw [Z7z];exact List.map_congr_left fun i _=>J0x ev i
 | n + 1=>by
   show (Q3c t k c).Q5y ev n ++ _ = t.Q5y ev n ++ _;rw [Z9h ev n,J2a]
theorem J1m (ev:Nat → Bool):(Q3c t k c).fails ev = t.fails ev:=by
 unfold Tree.fails Tree.states Tree.nodes;rw [Z9h,Z7z,J2a]
theorem J0w (x:List Int):(Q3c t k c).weight x = t.weight x:=by
 have:∀ n,(Q3c t k c).Y3v x n = t.Y3v x n:=fun n=>by
  induction n with
  | zero=>rfl
  | succ n ih=>unfold Tree.Y3v; rw [ih,J1m]
 unfold Tree.weight;rw [this,Z7w]
theorem J2q (he:t.err = 0) (h0:0 ≤ c) (h1:c ≤ 16):(Q3c t k c).err = 0:=by
 have hv:=Valid.of he;unfold Tree.err;rw [Z7z,Z7w,J2a,if_neg (by have:=hv.nb; have:=hv.ng; omega),if_neg (by have:=hv.size; have:=hv.ng'; omega),Q1k]
 intro x hx
 rcases List.mem_append.1 hx with h | h
 · obtain ⟨i,hi,rfl⟩:=List.mem_map.1 h
   have hi':=List.mem_range.1 hi;have he0:=hv.event i hi';unfold Tree.Q0u at he0 ⊢;rw [Q1k] at he0 ⊢;have e1:=he0 _ (List.mem_cons_self ..);have e2:=he0 _ (List.mem_cons_of_mem _ (List.mem_cons_self ..));have e3:=he0 _ (List.mem_cons_of_mem _ (List.mem_cons_of_mem _ (List.mem_cons_self ..)));have e4:=he0 _ (List.mem_cons_of_mem _ (List.mem_cons_of_mem _ (List.mem_cons_of_mem _ (List.mem_cons_self ..))));have tw:(Q3c t k c).Q7j i = t.Q7j i:=by
    unfold Tree.Q7j;rw [Z8i i hi',Bool.eq_iff_iff,List.any_eq_true,List.any_eq_true]
    constructor
    · rintro ⟨j,hj,h⟩
      rw [Z8i j (by have:=List.mem_range.1 hj; omega)] at h
      exact ⟨j,hj,h⟩
    · rintro ⟨j,hj,h⟩
      rw [← Z8i (k:=k) (c:=c) j (by have:=List.mem_range.1 hj; omega)] at h
      exact ⟨j,hj,h⟩
   intro y hy;simp only [List.mem_cons,List.not_mem_nil,or_false] at hy
   rcases hy with rfl | rfl | rfl | rfl
   · rw [Z8i i hi']; exact e1
   · rw [Z9f i hi']
     by_cases e:i = k
     · rw [if_pos e]; unfold Q0m; rw [if_neg (by omega)]
     · rw [if_neg e]; exact e2
   · rw [tw]; exact e3
   · rw [Z7z]
     by_cases hb:i < t.basics.length
     · rw [if_pos hb]
     · rw [if_neg hb] at e4 ⊢
       unfold Tree.size at hi';rw [Z9m _ (by omega)]
       exact e4
 · obtain ⟨i,hi,rfl⟩:=List.mem_map.1 h
   have:=hv.gate i (List.mem_range.1 hi);unfold Tree.Q1u at this ⊢;rw [J2a,Z7z];exact this
end
theorem J1z (w:World) (u:Value) (t:Tree) (k:Nat) (c:Int) (he:t.err = 0) (hk:k < t.size) (h0:0 ≤ c) (h1:c ≤ 16) (hu:IsTree w u t) :
    Calls Tryz.prog 34 #[u,.int .i64 k,.int .i64 c] w fun e w'=>∃ x,e = .returned (.tuple #[x,.int .i64 0]) ∧ IsTree w' x (Q3c t k c) ∧ Ext w w':=by
 have h:=J0e w u t k c hu;have e0:Q4o t k c = 0:=by
  unfold Q4o;rw [Z8f he hk];unfold Q0m;rw [if_neg (by omega)]
  rfl
 have e1:Q4t t k c = Q3c t k c:=by unfold Q4t; rw [if_pos e0]; rfl
 rw [e0,e1] at h;exact h
structure J2v (o pn pd an ad bn bd jn jd un ud:Int):Prop where
 ro:0 ≤ o ∧ o ≤ 16
 rp:Z6m ⟨pn,pd⟩
 ra:Z6m ⟨an,ad⟩
 rb:Z6m ⟨bn,bd⟩
 rj:Z6m ⟨jn,jd⟩
 ru:Z6m ⟨un,ud⟩
 one:pn ≤ pd
 bound:pn * ud ≤ un * pd
 mix:lowest (o * an * bd + (16 - o) * bn * ad) (16 * ad * bd) = ⟨pn,pd⟩
 diff:lowest (an * bd - bn * ad) (ad * bd) = ⟨jn,jd⟩
 pos:0 ≤ an * bd - bn * ad
theorem J3c {n:Nat} (h:n ≤ 6):(16:Int) ^ n ≤ 16777216:=by
 have:(16:Nat) ^ n ≤ 16 ^ 6:=Nat.pow_le_pow_right (by omega) h
 have h2:=Int.ofNat_le.2 (Nat.le_trans this (show 16 ^ 6 ≤ 16777216 by decide))
 rw [Int.natCast_pow] at h2;exact h2
theorem J3d {t:Tree} (hv:Valid t) (hs:t.size ≤ 6) {k:Nat} (hk:k < t.size) {pn pd an ad bn bd jn jd un ud:Int}
    (hp:Z6v t t.Q0b = ⟨pn,pd⟩) (ha:onT t k = ⟨an,ad⟩) (hb:J0s t k = ⟨bn,bd⟩) (hj:J2g t k = ⟨jn,jd⟩) (hu:J0a t = ⟨un,ud⟩):J2v (ix t.Q0b k) pn pd an ad bn bd jn jd un ud:=by
 have hD:(0:Int) < 16 ^ t.size:=Int.pow_pos (by decide)
 have hkc:k < t.Q0b.length:=by rw [Q4v]; exact hk
 have h6:=J3c hs;have son:Small (Q0t t.Q0b [(k:Int)] 16):=Small.put hv.small (by omega) (by omega)
 have soff:Small (Q0t t.Q0b [(k:Int)] 0):=Small.put hv.small (by omega) (by omega)
 have lon:(Q0t t.Q0b [(k:Int)] 16).length = t.size:=by rw [Q8a,Q4v]
 have loff:(Q0t t.Q0b [(k:Int)] 0).length = t.size:=by rw [Q8a,Q4v]
 have wa:=Z6y (t:=t) son lon;have wb:=Z6y (t:=t) soff loff;have wi:=Z7l hv hk;have hsz:t.size ≤ 12:=hv.size;refine ⟨hv.small.ix hkc,?_,?_,?_,?_,?_,?_,?_,?_,?_,?_⟩
 · rw [← hp]; exact Z7n hv hs hk _ hv.small (Q4v t)
 · rw [← ha]; exact Z7n hv hs hk _ son lon
 · rw [← hb]; exact Z7n hv hs hk _ soff loff
 · have r:=Z7s (a:=t.weight (Q0t t.Q0b [(k:Int)] 16) - t.weight (Q0t t.Q0b [(k:Int)] 0)) (n:=t.size) (by omega) (by omega) rfl
   unfold J2g at hj;rw [hj] at r;dsimp only at r;exact ⟨r.1,by show jn ≤ _; omega,r.2.2.1,by show jd ≤ _; omega⟩
 · have r:=J0z hv hs
   unfold J0a at hu;rw [hu] at r;exact r
 · have h1:=Z6y (t:=t) hv.small (Q4v t)
   have r:=Z7s (n:=t.size) h1.1 h1.2 rfl;unfold Z6v at hp;rw [hp] at r;exact r.2.2.2.2
 · have h:=Z7v (d:=16 ^ t.size) hD (Z8m hv)
   unfold Z6v at hp;unfold J0a at hu;rw [hp,hu] at h;exact h
 · have h:=J2k hD (Z8c hk)
   unfold Z6v at hp;unfold onT Z6v at ha;unfold J0s Z6v at hb;rw [ha,hb,hp] at h;exact h
 · have h:=J0l (A:=t.weight (Q0t t.Q0b [(k:Int)] 16)) (B:=t.weight (Q0t t.Q0b [(k:Int)] 0)) hD
   unfold onT Z6v at ha;unfold J0s Z6v at hb;unfold J2g at hj;rw [ha,hb,hj] at h;exact h
 · have h:=Z7v (d:=16 ^ t.size) hD wi
   unfold onT Z6v at ha;unfold J0s Z6v at hb;rw [ha,hb] at h;dsimp only at h;omega
structure J2b (pn pd jn jd rn rd:Int):Prop where
 rr:Z6m ⟨rn,rd⟩
 pos:0 ≤ rn * pd - pn * rd
 step:lowest (rn * pd - pn * rd) (rd * pd) = lowest jn (16 * jd)
theorem J2w {t:Tree} (hv:Valid t) (hs:t.size ≤ 6) {k:Nat} (hk:k < t.size) (ho:ix t.Q0b k < 16) {pn pd jn jd rn rd:Int}
    (hp:Z6v t t.Q0b = ⟨pn,pd⟩) (hj:J2g t k = ⟨jn,jd⟩) (hr:Z6v (Q3c t k (ix t.Q0b k + 1)) (Q3c t k (ix t.Q0b k + 1)).Q0b = ⟨rn,rd⟩):J2b pn pd jn jd rn rd:=by
 have hD:(0:Int) < 16 ^ t.size:=Int.pow_pos (by decide)
 have h0:=(hv.small.ix (j:=k) (by rw [Q4v]; exact hk)).1
 have hr':Z6v t (Q0t t.Q0b [(k:Int)] (ix t.Q0b k + 1)) = ⟨rn,rd⟩:=by
  unfold Z6v at hr ⊢;rw [J0h hk,J0w,Z7w] at hr;exact hr
 have hst:=J0c hk;have hin:=Z7l hv hk;have hle:t.weight t.Q0b ≤ t.weight (Q0t t.Q0b [(k:Int)] (ix t.Q0b k + 1)):=by omega
 refine ⟨?_,?_,?_⟩
 · rw [← hr']; exact Z7n hv hs hk _ (Small.put hv.small (by omega) (by omega)) (by rw [Q8a,Q4v])
 · have h:=Z7v (d:=16 ^ t.size) hD hle
   unfold Z6v at hp hr';rw [hp,hr'] at h;dsimp only at h;omega
 · have h:=J2f (V:=t.weight (Q0t t.Q0b [(k:Int)] (ix t.Q0b k + 1))) (W:=t.weight t.Q0b) hD hst
   unfold Z6v at hp hr';unfold J2g at hj;rw [hp,hr',hj] at h;exact h
theorem J1p {a b A B:Int} (a0:0 ≤ a) (a1:a ≤ A) (b0:0 ≤ b) (b1:b ≤ B):0 ≤ a * b ∧ a * b ≤ A * B:=⟨Int.mul_nonneg a0 b0,Int.mul_le_mul a1 b1 b0 (Int.le_trans a0 a1)⟩
theorem J3a {a b:Int} (a0:1 ≤ a) (b0:1 ≤ b):1 ≤ a * b:=by
 have:=Int.mul_pos (show 0 < a by omega) (show 0 < b by omega)
 omega
structure J3e (o an ad bn bd:Int):Prop where
 b1:0 ≤ o * an * bd + (16 - o) * bn * ad ∧ o * an * bd + (16 - o) * bn * ad ≤ 4611686018427387904
 b2:1 ≤ 16 * ad * bd ∧ 16 * ad * bd ≤ 4611686018427387904
 b3:0 ≤ an * bd - bn * ad ∧ an * bd - bn * ad ≤ 4611686018427387904
 b4:1 ≤ ad * bd ∧ ad * bd ≤ 4611686018427387904
 w1:IntKind.i64.wrap (o * an) = o * an
 w2:IntKind.i64.wrap (o * an * bd) = o * an * bd
 w3:IntKind.i64.wrap (16 - o) = 16 - o
 w4:IntKind.i64.wrap ((16 - o) * bn) = (16 - o) * bn
 w5:IntKind.i64.wrap ((16 - o) * bn * ad) = (16 - o) * bn * ad
 w6:IntKind.i64.wrap (o * an * bd + (16 - o) * bn * ad) = o * an * bd + (16 - o) * bn * ad
 w7:IntKind.i64.wrap (16 * ad) = 16 * ad
 w8:IntKind.i64.wrap (16 * ad * bd) = 16 * ad * bd
 w9:IntKind.i64.wrap (an * bd) = an * bd
 w10:IntKind.i64.wrap (bn * ad) = bn * ad
 w11:IntKind.i64.wrap (an * bd - bn * ad) = an * bd - bn * ad
 w12:IntKind.i64.wrap (ad * bd) = ad * bd
theorem J3g {o pn pd an ad bn bd jn jd un ud:Int} (h:J2v o pn pd an ad bn bd jn jd un ud):J3e o an ad bn bd:=by
 obtain ⟨o0,o1⟩:=h.ro;obtain ⟨a0,a1,a2,a3⟩:=h.ra;obtain ⟨b0,b1,b2,b3⟩:=h.rb;have hp:=h.pos;dsimp only at a0 a1 a2 a3 b0 b1 b2 b3;have m1:=J1p o0 o1 a0 a1;have m2:=J1p m1.1 m1.2 (show 0 ≤ bd by omega) b3
 have m4:=J1p (show 0 ≤ 16 - o by omega) (show 16 - o ≤ 16 by omega) b0 b1
 have m5:=J1p m4.1 m4.2 (show 0 ≤ ad by omega) a3
 have m8:=J1p (show (0:Int) ≤ 16 * ad by omega) (show 16 * ad ≤ 4294967296 by omega) (show 0 ≤ bd by omega) b3
 have m8p:=J3a (show 1 ≤ 16 * ad by omega) b2
 have m9:=J1p a0 a1 (show 0 ≤ bd by omega) b3
 have m10:=J1p b0 b1 (show 0 ≤ ad by omega) a3
 have m12:=J1p (show 0 ≤ ad by omega) a3 (show 0 ≤ bd by omega) b3
 have m12p:=J3a a2 b2;exact ⟨by omega,by omega,by omega,by omega,wrap_in (by omega) (by omega),wrap_in (by omega) (by omega),wrap_in (by omega) (by omega),wrap_in (by omega) (by omega),wrap_in (by omega) (by omega),wrap_in (by omega) (by omega),
  wrap_in (by omega) (by omega),wrap_in (by omega) (by omega),wrap_in (by omega) (by omega),wrap_in (by omega) (by omega),wrap_in (by omega) (by omega),wrap_in (by omega) (by omega)⟩
structure J2x (pn pd jd rn rd:Int):Prop where
 b1:0 ≤ rn * pd - pn * rd ∧ rn * pd - pn * rd ≤ 4611686018427387904
 b2:1 ≤ rd * pd ∧ rd * pd ≤ 4611686018427387904
 b3:1 ≤ 16 * jd ∧ 16 * jd ≤ 4611686018427387904
 w1:IntKind.i64.wrap (rn * pd) = rn * pd
 w2:IntKind.i64.wrap (pn * rd) = pn * rd
 w3:IntKind.i64.wrap (rn * pd - pn * rd) = rn * pd - pn * rd
 w4:IntKind.i64.wrap (rd * pd) = rd * pd
 w5:IntKind.i64.wrap (16 * jd) = 16 * jd
theorem stepW {pn pd jn jd rn rd:Int} (h:J2b pn pd jn jd rn rd) (hp:Z6m ⟨pn,pd⟩) (hj:Z6m ⟨jn,jd⟩):J2x pn pd jd rn rd:=by
 obtain ⟨p0,p1,p2,p3⟩:=hp;obtain ⟨j0,j1,j2,j3⟩:=hj;obtain ⟨r0,r1,r2,r3⟩:=h.rr;have hq:=h.pos;dsimp only at p0 p1 p2 p3 j0 j1 j2 j3 r0 r1 r2 r3;have m1:=J1p r0 r1 (show 0 ≤ pd by omega) p3
 have m2:=J1p p0 p1 (show 0 ≤ rd by omega) r3
 have m4:=J1p (show 0 ≤ rd by omega) r3 (show 0 ≤ pd by omega) p3
 have m4p:=J3a r2 p2;exact ⟨by omega,by omega,by omega,wrap_in (by omega) (by omega),wrap_in (by omega) (by omega),wrap_in (by omega) (by omega),wrap_in (by omega) (by omega),wrap_in (by omega) (by omega)⟩
end Go.Proofs
namespace Go.Proofs
open Go.RowKit Go.Tw Go.Flow
theorem Z8b (w:World) (a b:Int):(binOp .neq 85 (.agg #[.int .i64 a,.int .i64 b,.int .i64 a,.int .i64 b]) (.agg #[.int .i64 a,.int .i64 b,.int .i64 a,.int .i64 b])).run Tryz.prog w = .ok (.bool false) w:=by
 have h:=J0g w a b a b;rw [run_eql_struct] at h;rw [run_neq_struct];generalize (Op.equalIn 10000 85 (.agg #[.int .i64 a,.int .i64 b,.int .i64 a,.int .i64 b]) (.agg #[.int .i64 a,.int .i64 b,.int .i64 a,.int .i64 b])).run Tryz.prog w = r at h ⊢;cases r with
 | ok x w1 =>
   simp only [Result.andThen_ok] at h ⊢;injection h with h1 h2;injection h1 with h1;rw [h1,h2]; rfl
 | _=>simp [Result.andThen] at h
theorem Z7r (w:World) (a b c d e f g h i j:Int):(Instr.buildSlice 143 5 #[(0,.agg #[.int .i64 a,.int .i64 b]),(1,.agg #[.int .i64 c,.int .i64 d]),(2,.agg #[.int .i64 e,.int .i64 f]),(3,.agg #[.int .i64 g,.int .i64 h]),(4,.agg #[.int .i64 i,.int .i64 j])]).run Tryz.prog w = .ok (.slice (some ⟨w.heap.size,0,none⟩) 5 5) (w.alloc (.cells #[.int .i64 a,.int .i64 b,.int .i64 c,.int .i64 d,.int .i64 e,.int .i64 f,.int .i64 g,.int .i64 h,.int .i64 i,.int .i64 j] 59)):=by kernel_rfl
theorem Z7i (w:World) (a b:Int):(Instr.buildSlice 143 1 #[(0,.agg #[.int .i64 a,.int .i64 b])]).run Tryz.prog w = .ok (.slice (some ⟨w.heap.size,0,none⟩) 1 1) (w.alloc (.cells #[.int .i64 a,.int .i64 b] 59)):=by kernel_rfl
theorem Z8g {w:World} {g:Nat} {T:TypeId} {x:Int} (h:Blk w g T #[.int .i64 x]):Q0f w (.slice (some ⟨g,0,none⟩) 1 1) [x] :=
 ⟨fun _=>.int .i64 x,⟨_,_,rfl,by simp,by simp,fun j hj=>⟨g,0,rfl,by
  have e:j = 0:=by simpa using hj
  subst e;rw [h.cell]; rfl⟩⟩,fun j hj=>by
  have e:j = 0:=by simpa using hj
  subst e; rfl⟩
theorem Z8h {w:World} {g:Nat} {T:TypeId} {l:List Ratio} (hl:l.length ≤ 1000) (h:Blk w g T (l.flatMap fun x=>[.int .i64 x.num,.int .i64 x.den]).toArray):Z7k w (.slice (some ⟨g,0,none⟩) l.length l.length) l:=by
 have hk:∀ x:Ratio,([Value.int .i64 x.num,.int .i64 x.den]:List Value).length = 2:=fun _=>rfl;refine ⟨fun j=>((l.flatMap fun x=>[Value.int .i64 x.num,.int .i64 x.den])[j]?).getD undef,⟨_,_,rfl,by omega,Nat.le_refl _,fun j hj=>⟨_,0,rfl,?_⟩⟩,fun j hj=>?_⟩
 · have hlen:=Q4r hk l
   have hj':j < (l.flatMap fun x=>[Value.int .i64 x.num,.int .i64 x.den]).length:=by omega
   rw [Nat.zero_add,h.cell];simp [List.getElem?_eq_getElem hj']
 · have h0:=flat_get hk l j 0 hj (by omega)
   have h1:=flat_get hk l j 1 hj (by omega)
   exact ⟨by show Option.getD _ _ = _; rw [h0]; rfl,by show Option.getD _ _ = _; rw [h1]; rfl⟩
def Z6x (o:Int) (n k:Nat):Int:=if n < k then o else 0
theorem J1a (o:Int) (n:Nat):Z6x o n 0 = 0:=by unfold Z6x; rw [if_neg (Nat.not_lt_zero _)]
theorem J0q (o:Int) (n:Nat):Z6x o n (n + 1) = o:=by unfold Z6x; rw [if_pos (by omega)]
theorem J0r {o:Int} {n k:Nat} (h:k ≠ n):Z6x o n (k + 1) = Z6x o n k:=by
 unfold Z6x
 by_cases h1:n < k
 · rw [if_pos h1,if_pos (by omega)]
 · rw [if_neg h1,if_neg (by omega)]
theorem J1o {o:Int} {n k:Nat} (h:n < k):Z6x o n k = o:=by unfold Z6x; rw [if_pos h]
theorem Z9q {t:Tree} {k:Nat} (h:k < t.size):t.Q0y k = ix t.Q0b k:=by simp [ix,Tree.Q0b,h]
attribute [local go_sem ↓] Y3d X9j Z8b X2p Z7r Z7i
def Z8z (k:Nat):Code → Bool
 | .region n _ _=>Nat.beq n k
 | .seq a _=>Z8z k a
 | _=>false
def Z9d (k:Nat):Code → Option Code
 | .seq a b=>if Z8z k a = true then some (.seq a b) else Z9d k b
 | _=>none
noncomputable def J1g (k:Nat):Code:=((Tryz.f6.body.bind (Z9d k)).getD .skip)
set_option linter.unusedSimpArgs false in
set_option linter.unusedVariables false in
set_option maxRecDepth 1000000 in
set_option maxHeartbeats 32000000 in
theorem J1e (W0 WB:World) (t:Tree) (A B G:Option Addr) (capa capb capg sz gT g12:Nat) (pn pd:Int) (he:t.err = 0) (hf:Few t) (hsz:t.size ≤ 6) (hss:t.size = sz) (hrp:Z6m ⟨pn,pd⟩) (hp:Z6v t t.Q0b = ⟨pn,pd⟩) (ht:Q6u WB (.slice A t.basics.length capa) (.slice B t.causes.length capb) (.slice G t.gates.length capg) t) (k0:Blk WB gT 26 #[.slice A t.basics.length capa,.slice B t.causes.length capb,.slice G t.gates.length capg]) (k12:Blk WB g12 59 #[.int .i64 pn,.int .i64 pd]) (hx0:Ext W0 WB) (u0 u1 u3 u4 u5 u6 u7 u8 u9 u10 u11 u13 u14 u15 u16 u17 u18 u19 u20 u21 u22 u23 u24 u25 u26 u27 u28 u29 u30 u31 u32 u33 u34 u35 u36 u37 u38 u39 u40 u41 u42 u43 u44 u45 u46 u47 u48 u49 u50 u51 u52 u53 u54 u55 u56 u57 u58 u59 u60 u61 u62 u63 u64 u65 u66 u67 u68 u69 u70 u71 u72 u73 u74 u75 u76 u77 u78 u79 u80 u81 u82 u83 u84 u85 u86 u87 u88 u89 u90 u91 u92 u93 u94 u95 u96 u97 u98 u99 u100 u101 u102 u103 u104 u105 u106 u107 u108 u109 u110 u111 u112 u113 u114 u115 u116 u117 u118 u119 u120 u121 u122 u123 u124 u125 u126 u127 u128 u129 u130 u131 u132 u133 u134 u135 u136 u137 u138 u139 u140 u141 u142 u143 u144 u145 u146 u147 u148 u149 u150 u151 u152 u153 u154 u155 u156 u157 u158 u159 u160 u161 u162 u163 u164 u165 u166 u167 u168 u169 u170 u171 u172 u173 u174 u175 u176 u177 u178 u179 u180 u181 u182 u183 u184 u185 u186 u187 u188 u189 u190 u191 u192 u193 u194 u195 u196 u197 u198 u199 u200 u201 u202 u203 u204 u205 u206 u207 u208 u209 u210 u211 u212 u213 u214 u215 u216 u217 u218 u219 u220 u221 u222 u223 u224 u225 u226 u227 u228 u229 u230 u231 u232 u233 u234 u235 u236 u237 u238 u239 u240 u241 u242 u243 u244 u245 u246 u247 u248 u249 u250 u251 u252 u253 u254 u255 u256 u257 u258 u259 u260 u261 u262 u263 u264 u265 u266 u267 u268 u269 u270 u271 u272 u273 u274 u275 u276 u277 u278 u279 u280 u281 u282 u283 u284 u285 u286 u287 u288 u289 u290 u291 u292 u293 u294 u295 u296 u297 u298 u299 u300 u301 u302 u303 u304 u305 u306 u307 u308 u309 u310 u311 u312 u313 u314 u315 u316 u317 u318 u319 u320 u321 u322 u323 u324 u325 u326 u327 u328 u329 u330 u331 u332 u333 u334 u335 u336 u337 u338 u339 u340 u341 u342 u343 u344 u345 u346 u347 u348 u349 u350 u351 u352 u353 u354 u355 u356 u357 u358 u359 u360 u361 u362 u363 u364 u365 u366 u367 u368 u369 u370 u371 u372 u373 u374 u375 u376 u377 u378 u379 u380:Value) :
    (J1g 37).wp Tryz.prog (bodyPost Tryz.prog Tryz.f6 (fun e w'=>e = .returned (.bool true) ∧ Ext W0 w')) ⟨#[u0,u1,.pointer (some ⟨gT,0,none⟩),u3,u4,u5,u6,u7,u8,u9,u10,u11,.pointer (some ⟨g12,0,none⟩),u13,u14,u15,u16,u17,u18,u19,u20,u21,u22,u23,u24,u25,u26,u27,u28,u29,u30,u31,u32,u33,u34,u35,u36,u37,u38,u39,u40,u41,u42,u43,u44,u45,u46,u47,u48,u49,u50,u51,u52,u53,u54,u55,u56,u57,u58,u59,u60,u61,u62,u63,u64,u65,u66,u67,u68,u69,u70,u71,u72,u73,u74,u75,u76,u77,u78,u79,u80,u81,u82,u83,u84,u85,u86,u87,u88,u89,u90,u91,u92,u93,u94,u95,u96,u97,u98,u99,u100,u101,u102,u103,u104,u105,u106,u107,u108,u109,u110,u111,u112,u113,u114,u115,u116,u117,u118,u119,u120,u121,u122,u123,u124,u125,u126,u127,u128,u129,u130,u131,u132,u133,u134,u135,u136,u137,u138,u139,u140,u141,u142,u143,u144,u145,u146,u147,u148,u149,u150,u151,u152,u153,u154,u155,u156,u157,u158,u159,u160,u161,u162,u163,u164,u165,u166,u167,u168,u169,u170,u171,u172,u173,u174,u175,u176,u177,u178,u179,u180,u181,u182,u183,u184,u185,u186,u187,u188,u189,u190,u191,u192,u193,u194,u195,u196,u197,u198,u199,u200,u201,u202,u203,u204,u205,u206,u207,u208,u209,u210,u211,u212,u213,u214,u215,u216,u217,u218,u219,u220,u221,u222,u223,u224,u225,u226,u227,u228,u229,u230,u231,u232,u233,u234,u235,u236,u237,u238,u239,u240,u241,u242,u243,u244,u245,u246,u247,u248,u249,u250,u251,u252,u253,u254,u255,u256,u257,u258,u259,u260,u261,u262,u263,u264,u265,u266,u267,u268,u269,u270,u271,u272,u273,u274,u275,u276,u277,u278,u279,u280,u281,u282,u283,u284,u285,u286,u287,u288,u289,u290,u291,u292,u293,u294,u295,u296,u297,u298,u299,u300,u301,u302,u303,u304,u305,u306,u307,u308,u309,u310,u311,u312,u313,u314,u315,u316,u317,u318,u319,u320,u321,u322,u323,u324,u325,u326,u327,u328,u329,u330,u331,u332,u333,u334,u335,u336,u337,u338,u339,u340,u341,u342,u343,u344,u345,u346,u347,u348,u349,u350,u351,u352,u353,u354,u355,u356,u357,u358,u359,u360,u361,u362,u363,u364,u365,u366,u367,u368,u369,u370,u371,u372,u373,u374,u375,u376,u377,u378,u379,u380],[]⟩ WB:=by
 conv=>arg 2; whnf
 have HE:=Lib.hid he;have HF:=Lib.hid hf;have HSZ:=Lib.hid hsz;have HSS:=Lib.hid hss;have HP:=Lib.hid hp;have HT:=Lib.hid ht;have K0:=Lib.hid k0;have K12:=Lib.hid k12;have HW0:=Lib.hid hx0;have HV:=Lib.hid (Valid.of he);have HX:=Lib.hid (Ext.refl WB);obtain ⟨_,_,he1,_,hcap1,_⟩:=ht.basics.opened;cases he1;obtain ⟨_,_,he1,_,hcap2,_⟩:=ht.causes.opened;cases he1;obtain ⟨_,_,he1,_,hcap3,_⟩:=ht.gates.opened;cases he1;clear he hf hsz hss hp ht k0 k12 hx0;have HRP:=Lib.hid hrp;clear hrp;have k0_0:=K0.out.cell 0;have k0_1:=K0.out.cell 1;have k0_2:=K0.out.cell 2;simp only [List.getElem?_toArray,List.getElem?_cons_zero,List.getElem?_cons_succ] at k0_0 k0_1 k0_2;go_wp2_with fail;clear k0_0 k0_1 k0_2;refine (Y1m _ _ (t) ⟨_,_,_,rfl,HT.out⟩ HF.out).mono ?_;rintro e w1 ⟨uu,rfl,hu,hx⟩;have hxx:Ext WB w1:=hx;replace HX:=Lib.hid (HX.out.trans hxx);replace HT:=Lib.hid (HT.out.ext hxx);replace K0:=Lib.hid (K0.out.ext hxx);replace K12:=Lib.hid (K12.out.ext hxx);have HU:=Lib.hid (hu);clear hu;clear hx hxx;go_wp2_with fail;refine (J2s _ _ t HV.out HE.out HSZ.out HU.out).mono ?_;rintro e w2 ⟨nk,na,nb,ne,rfl,hnf,hx⟩;have hxx:Ext w1 w2:=hx;replace HX:=Lib.hid (HX.out.trans hxx);replace HT:=Lib.hid (HT.out.ext hxx);replace K0:=Lib.hid (K0.out.ext hxx);replace K12:=Lib.hid (K12.out.ext hxx);replace HU:=Lib.hid (HU.out.ext hxx);have HNF:=Lib.hid hnf;clear hnf;clear hx hxx;clear HU
 rcases HNF.out.way with ⟨rfl,hall⟩ | ⟨rfl,⟨kk,rfl,hkk,hbest⟩,hroom,hless,hge,hfirst⟩
 · skip
   have HALL:=Lib.hid hall;clear hall;have HKN:=Lib.hid (Blk.made w2 59 #[.int .i64 na,.int .i64 nb]);have hxn:=Ext.box w2 (.cells #[.int .i64 na,.int .i64 nb] 59);go_upto_region 38 with fail;replace HX:=Lib.hid (HX.out.trans hxn);replace HT:=Lib.hid (HT.out.ext hxn);replace K0:=Lib.hid (K0.out.ext hxn);replace K12:=Lib.hid (K12.out.ext hxn);have K29:=Lib.hid (HKN.out);clear HKN hxn;obtain ⟨g29,hg29⟩:∃ g,w2.heap.size = g:=⟨_,rfl⟩;rw [hg29] at K29 ⊢;obtain ⟨w3,hww⟩:∃ X,w2.alloc (.cells #[.int .i64 na,.int .i64 nb] 59) = X:=⟨_,rfl⟩;rw [hww] at HX HT K0 K12 K29 ⊢;clear hww hg29;go_upto_region 40 with fail;have k0_0:=K0.out.cell 0;have k0_1:=K0.out.cell 1;have k0_2:=K0.out.cell 2;simp only [List.getElem?_toArray,List.getElem?_cons_zero,List.getElem?_cons_succ] at k0_0 k0_1 k0_2;go_wp2_with fail;clear k0_0 k0_1 k0_2;refine (X3y _ _ t ⟨_,_,_,rfl,HT.out⟩).mono ?_;rintro e w4 ⟨rfl,hx⟩;have hxx:Ext w3 w4:=hx;replace HX:=Lib.hid (HX.out.trans hxx);replace HT:=Lib.hid (HT.out.ext hxx);replace K0:=Lib.hid (K0.out.ext hxx);replace K12:=Lib.hid (K12.out.ext hxx);replace K29:=Lib.hid (K29.out.ext hxx);clear hx hxx;rw [HSS.out];have hs12:sz ≤ 12:=by have:=HV.out.size; rw [HSS.out] at this; exact this
   go_wp2;have HXB1:=Lib.hid HX.out;clear HX
   go_loopw [322] (fun i wr=>∃ j:Nat,j ≤ sz ∧ i = .int .i64 j ∧ Ext w4 wr) (fun i _=>sz - (intOf i).toNat)
   case atStart=>exact ⟨0,Nat.zero_le _,rfl,Ext.refl _⟩
   case round =>
    obtain ⟨j,hj,rfl,hx⟩:=hrel;obtain ⟨w5,rfl⟩:∃ X,X = wr:=⟨_,rfl⟩;have HX:=Lib.hid hx;replace HT:=Lib.hid (HT.out.ext hx);replace K0:=Lib.hid (K0.out.ext hx);replace K12:=Lib.hid (K12.out.ext hx);replace K29:=Lib.hid (K29.out.ext hx);clear hx
    by_cases hlj:j < sz
    · have hjI:(j:Int) < sz:=by omega
      have HJ2:Hid (j < t.size):=by exact (by rw [HSS.out]; exact hlj:j < t.size)
      have k0_0:=K0.out.cell 0;have k0_1:=K0.out.cell 1;have k0_2:=K0.out.cell 2;simp only [List.getElem?_toArray,List.getElem?_cons_zero,List.getElem?_cons_succ] at k0_0 k0_1 k0_2;go_wp2_with fail;clear k0_0 k0_1 k0_2;refine (Y1m _ _ (t) ⟨_,_,_,rfl,HT.out⟩ HF.out).mono ?_;rintro e w6 ⟨uu,rfl,hu,hx⟩;have hxx:Ext w5 w6:=hx;replace HX:=Lib.hid (HX.out.trans hxx);replace HT:=Lib.hid (HT.out.ext hxx);replace K0:=Lib.hid (K0.out.ext hxx);replace K12:=Lib.hid (K12.out.ext hxx);replace K29:=Lib.hid (K29.out.ext hxx);have HU:=Lib.hid (hu);clear hu;clear hx hxx;go_wp2_with fail;change Calls _ _ _ (w6.alloc (.cells #[.int .i64 j] 3)) _;have k0:=Blk.made w6 3 #[.int .i64 j];have x0:=Ext.box w6 (.cells #[.int .i64 j] 3);have es0:(w6.alloc (.cells #[.int .i64 j] 3)).heap.size = w6.heap.size + 1:=by simp
      obtain ⟨X0,hX0⟩:∃ X,w6.alloc (.cells #[.int .i64 j] 3) = X:=⟨_,rfl⟩;rw [hX0] at k0 x0 es0 ⊢;clear hX0;have e0:X0.heap.size = w6.heap.size + 1:=by omega
      have HXW:Hid (Ext w6 X0):=by exact (x0:Ext w6 X0)
      have eW:X0.heap.size = w6.heap.size + 1:=e0;clear x0 es0 e0;obtain ⟨W,hWW⟩:∃ W,X0 = W:=⟨_,rfl⟩;rw [hWW] at HXW eW ⊢ k0;clear hWW;refine (Z8j _ _ _ t j pn pd HE.out HJ2.out ((HALL.out j HJ2.out).trans HP.out) (HU.out.ext HXW.out) (Z8g k0)).mono ?_;rintro e w7 ⟨rfl,hx⟩;have hxx:Ext w6 w7:=HXW.out.trans hx;replace HX:=Lib.hid (HX.out.trans hxx);replace HT:=Lib.hid (HT.out.ext hxx);replace K0:=Lib.hid (K0.out.ext hxx);replace K12:=Lib.hid (K12.out.ext hxx);replace K29:=Lib.hid (K29.out.ext hxx);replace HU:=Lib.hid (HU.out.ext hxx);clear hx hxx HXW eW k0;clear HU;have HKN:=Lib.hid (Blk.made w7 59 #[.int .i64 pn,.int .i64 pd]);have hxn:=Ext.box w7 (.cells #[.int .i64 pn,.int .i64 pd] 59);go_upto_region 44 with fail;replace HX:=Lib.hid (HX.out.trans hxn);replace HT:=Lib.hid (HT.out.ext hxn);replace K0:=Lib.hid (K0.out.ext hxn);replace K12:=Lib.hid (K12.out.ext hxn);replace K29:=Lib.hid (K29.out.ext hxn);have K32:=Lib.hid (HKN.out);clear HKN hxn;obtain ⟨g32,hg32⟩:∃ g,w7.heap.size = g:=⟨_,rfl⟩;rw [hg32] at K32 ⊢;obtain ⟨w8,hww⟩:∃ X,w7.alloc (.cells #[.int .i64 pn,.int .i64 pd] 59) = X:=⟨_,rfl⟩;rw [hww] at HX HT K0 K12 K29 K32 ⊢;clear hww hg32;have HRR:Hid (∀ x ∈ [(⟨pn,pd⟩:Ratio)],Z6m x):=by exact (fun x hx=>by
       simp only [List.mem_cons,List.not_mem_nil,or_false] at hx;subst hx;exact HRP.out:∀ x ∈ [(⟨pn,pd⟩:Ratio)],Z6m x)
      have k32_0:=K32.out.cell 0;have k32_1:=K32.out.cell 1;simp only [List.getElem?_toArray,List.getElem?_cons_zero,List.getElem?_cons_succ] at k32_0 k32_1;go_wp2_with fail;clear k32_0 k32_1;change Calls _ _ _ (w8.alloc (.cells #[.int .i64 pn,.int .i64 pd] 59)) _;have k0:=Blk.made w8 59 #[.int .i64 pn,.int .i64 pd];have x0:=Ext.box w8 (.cells #[.int .i64 pn,.int .i64 pd] 59);have es0:(w8.alloc (.cells #[.int .i64 pn,.int .i64 pd] 59)).heap.size = w8.heap.size + 1:=by simp
      obtain ⟨X0,hX0⟩:∃ X,w8.alloc (.cells #[.int .i64 pn,.int .i64 pd] 59) = X:=⟨_,rfl⟩;rw [hX0] at k0 x0 es0 ⊢;clear hX0;have e0:X0.heap.size = w8.heap.size + 1:=by omega
      have HXW:Hid (Ext w8 X0):=by exact (x0:Ext w8 X0)
      have eW:X0.heap.size = w8.heap.size + 1:=e0;clear x0 es0 e0;obtain ⟨W,hWW⟩:∃ W,X0 = W:=⟨_,rfl⟩;rw [hWW] at HXW eW ⊢ k0;clear hWW;refine (Z8u _ _ [⟨pn,pd⟩] (Z8h (l:=[⟨pn,pd⟩]) (by simp) k0) HRR.out).mono ?_
      rintro e w9 ⟨rfl,hx⟩;have hxx:Ext w8 w9:=HXW.out.trans hx;replace HX:=Lib.hid (HX.out.trans hxx);replace HT:=Lib.hid (HT.out.ext hxx);replace K0:=Lib.hid (K0.out.ext hxx);replace K12:=Lib.hid (K12.out.ext hxx);replace K29:=Lib.hid (K29.out.ext hxx);replace K32:=Lib.hid (K32.out.ext hxx);clear hx hxx HXW eW k0;clear HRR;have k32_0:=K32.out.cell 0;have k32_1:=K32.out.cell 1;simp only [List.getElem?_toArray,List.getElem?_cons_zero,List.getElem?_cons_succ] at k32_0 k32_1;have k12_0:=K12.out.cell 0;have k12_1:=K12.out.cell 1;simp only [List.getElem?_toArray,List.getElem?_cons_zero,List.getElem?_cons_succ] at k12_0 k12_1;go_wp2;go_roundw
      case rel=>exact ⟨j + 1,by omega,by go_num,HX.out⟩
      case measure=>simp [intOf]; omega
    · skip
      replace HX:=Lib.hid (HXB1.out.trans HX.out);clear HXB1;go_wp2;go_ret;exact ⟨rfl,HW0.out.trans HX.out⟩
 · skip
   have HKK0:=Lib.hid hkk;have HBE:=Lib.hid hbest;have HRM:=Lib.hid hroom;have HLE:=Lib.hid hless;have HGE:=Lib.hid hge;have HFI:=Lib.hid hfirst;have hkks:kk < sz:=by rw [HSS.out] at hkk; exact hkk
   have hkkI:(kk:Int) < sz:=by omega
   have hkk0:¬ (kk:Int) < 0:=by omega
   clear hbest hroom hless hge hfirst hkk;have HKN:=Lib.hid (Blk.made w2 59 #[.int .i64 na,.int .i64 nb]);have hxn:=Ext.box w2 (.cells #[.int .i64 na,.int .i64 nb] 59);go_upto_region 38 with fail;replace HX:=Lib.hid (HX.out.trans hxn);replace HT:=Lib.hid (HT.out.ext hxn);replace K0:=Lib.hid (K0.out.ext hxn);replace K12:=Lib.hid (K12.out.ext hxn);have K29:=Lib.hid (HKN.out);clear HKN hxn;obtain ⟨g29,hg29⟩:∃ g,w2.heap.size = g:=⟨_,rfl⟩;rw [hg29] at K29 ⊢;obtain ⟨w3,hww⟩:∃ X,w2.alloc (.cells #[.int .i64 na,.int .i64 nb] 59) = X:=⟨_,rfl⟩;rw [hww] at HX HT K0 K12 K29 ⊢;clear hww hg29;have k0_0:=K0.out.cell 0;have k0_1:=K0.out.cell 1;have k0_2:=K0.out.cell 2;simp only [List.getElem?_toArray,List.getElem?_cons_zero,List.getElem?_cons_succ] at k0_0 k0_1 k0_2;go_wp2_with fail;clear k0_0 k0_1 k0_2;refine (X3y _ _ t ⟨_,_,_,rfl,HT.out⟩).mono ?_;rintro e w4 ⟨rfl,hx⟩;have hxx:Ext w3 w4:=hx;replace HX:=Lib.hid (HX.out.trans hxx);replace HT:=Lib.hid (HT.out.ext hxx);replace K0:=Lib.hid (K0.out.ext hxx);replace K12:=Lib.hid (K12.out.ext hxx);replace K29:=Lib.hid (K29.out.ext hxx);clear hx hxx;rw [HSS.out];have hkk1:¬ (sz:Int) ≤ (kk:Int):=by omega
   have HRR:Hid (∀ x ∈ [(⟨na,nb⟩:Ratio)],Z6m x):=by exact (fun x hx=>by
    simp only [List.mem_cons,List.not_mem_nil,or_false] at hx;subst hx;exact HRM.out:∀ x ∈ [(⟨na,nb⟩:Ratio)],Z6m x)
   have k29_0:=K29.out.cell 0;have k29_1:=K29.out.cell 1;simp only [List.getElem?_toArray,List.getElem?_cons_zero,List.getElem?_cons_succ] at k29_0 k29_1;go_wp2_with fail;clear k29_0 k29_1;change Calls _ _ _ (w4.alloc (.cells #[.int .i64 na,.int .i64 nb] 59)) _;have k0:=Blk.made w4 59 #[.int .i64 na,.int .i64 nb];have x0:=Ext.box w4 (.cells #[.int .i64 na,.int .i64 nb] 59);have es0:(w4.alloc (.cells #[.int .i64 na,.int .i64 nb] 59)).heap.size = w4.heap.size + 1:=by simp
   obtain ⟨X0,hX0⟩:∃ X,w4.alloc (.cells #[.int .i64 na,.int .i64 nb] 59) = X:=⟨_,rfl⟩;rw [hX0] at k0 x0 es0 ⊢;clear hX0;have e0:X0.heap.size = w4.heap.size + 1:=by omega
   have HXW:Hid (Ext w4 X0):=by exact (x0:Ext w4 X0)
   have eW:X0.heap.size = w4.heap.size + 1:=e0;clear x0 es0 e0;obtain ⟨W,hWW⟩:∃ W,X0 = W:=⟨_,rfl⟩;rw [hWW] at HXW eW ⊢ k0;clear hWW;refine (Z8u _ _ [⟨na,nb⟩] (Z8h (l:=[⟨na,nb⟩]) (by simp) k0) HRR.out).mono ?_
   rintro e w5 ⟨rfl,hx⟩;have hxx:Ext w4 w5:=HXW.out.trans hx;replace HX:=Lib.hid (HX.out.trans hxx);replace HT:=Lib.hid (HT.out.ext hxx);replace K0:=Lib.hid (K0.out.ext hxx);replace K12:=Lib.hid (K12.out.ext hxx);replace K29:=Lib.hid (K29.out.ext hxx);clear hx hxx HXW eW k0;have k29_0:=K29.out.cell 0;have k29_1:=K29.out.cell 1;simp only [List.getElem?_toArray,List.getElem?_cons_zero,List.getElem?_cons_succ] at k29_0 k29_1;have k12_0:=K12.out.cell 0;have k12_1:=K12.out.cell 1;simp only [List.getElem?_toArray,List.getElem?_cons_zero,List.getElem?_cons_succ] at k12_0 k12_1;go_wp2_with fail;clear k29_0 k29_1 k12_0 k12_1;refine (Z9l _ na nb pn pd HRM.out HRP.out).mono ?_;rintro e w6 ⟨xc,rfl,_,hc2,_,hx⟩;have hxx:Ext w5 w6:=hx;replace HX:=Lib.hid (HX.out.trans hxx);replace HT:=Lib.hid (HT.out.ext hxx);replace K0:=Lib.hid (K0.out.ext hxx);replace K12:=Lib.hid (K12.out.ext hxx);replace K29:=Lib.hid (K29.out.ext hxx);have hxcn:¬ 0 ≤ xc:=by have h:=HLE.out; rw [HP.out] at h; have:=hc2 h; omega
   clear hc2;clear hx hxx;go_upto_region 40 with fail;clear hxcn hkk1 HRR;have k0_0:=K0.out.cell 0;have k0_1:=K0.out.cell 1;have k0_2:=K0.out.cell 2;simp only [List.getElem?_toArray,List.getElem?_cons_zero,List.getElem?_cons_succ] at k0_0 k0_1 k0_2;go_wp2_with fail;clear k0_0 k0_1 k0_2;refine (X3y _ _ t ⟨_,_,_,rfl,HT.out⟩).mono ?_;rintro e w7 ⟨rfl,hx⟩;have hxx:Ext w6 w7:=hx;replace HX:=Lib.hid (HX.out.trans hxx);replace HT:=Lib.hid (HT.out.ext hxx);replace K0:=Lib.hid (K0.out.ext hxx);replace K12:=Lib.hid (K12.out.ext hxx);replace K29:=Lib.hid (K29.out.ext hxx);clear hx hxx;rw [HSS.out];have hs12:sz ≤ 12:=by have:=HV.out.size; rw [HSS.out] at this; exact this
   go_wp2;have HXB1:=Lib.hid HX.out;clear HX
   go_loopw [322] (fun i wr=>∃ j:Nat,j ≤ sz ∧ i = .int .i64 j ∧ Ext w7 wr) (fun i _=>sz - (intOf i).toNat)
   case atStart=>exact ⟨0,Nat.zero_le _,rfl,Ext.refl _⟩
   case round =>
    obtain ⟨j,hj,rfl,hx⟩:=hrel;obtain ⟨w8,rfl⟩:∃ X,X = wr:=⟨_,rfl⟩;have HX:=Lib.hid hx;replace HT:=Lib.hid (HT.out.ext hx);replace K0:=Lib.hid (K0.out.ext hx);replace K12:=Lib.hid (K12.out.ext hx);replace K29:=Lib.hid (K29.out.ext hx);clear hx
    by_cases hlj:j < sz
    · have hjI:(j:Int) < sz:=by omega
      have HJ2:Hid (j < t.size):=by exact (by rw [HSS.out]; exact hlj:j < t.size)
      obtain ⟨⟨xn,xd⟩,hxq⟩:∃ r,J0s t j = r:=⟨_,rfl⟩;have HXQ:=Lib.hid hxq;have HXR:Hid (Z6m ⟨xn,xd⟩):=by exact (by rw [← hxq]; exact Z7n HV.out HSZ.out HJ2.out _ (Small.put HV.out.small (by omega) (by omega)) (by rw [Q8a,Q4v]):Z6m ⟨xn,xd⟩)
      have HXG:Hid (na * xd ≤ xn * nb):=by exact (by have h:=HGE.out j HJ2.out; rw [hxq] at h; exact h:na * xd ≤ xn * nb)
      clear hxq;have k0_0:=K0.out.cell 0;have k0_1:=K0.out.cell 1;have k0_2:=K0.out.cell 2;simp only [List.getElem?_toArray,List.getElem?_cons_zero,List.getElem?_cons_succ] at k0_0 k0_1 k0_2;go_wp2_with fail;clear k0_0 k0_1 k0_2;refine (Y1m _ _ (t) ⟨_,_,_,rfl,HT.out⟩ HF.out).mono ?_;rintro e w9 ⟨uu,rfl,hu,hx⟩;have hxx:Ext w8 w9:=hx;replace HX:=Lib.hid (HX.out.trans hxx);replace HT:=Lib.hid (HT.out.ext hxx);replace K0:=Lib.hid (K0.out.ext hxx);replace K12:=Lib.hid (K12.out.ext hxx);replace K29:=Lib.hid (K29.out.ext hxx);have HU:=Lib.hid (hu);clear hu;clear hx hxx;go_wp2_with fail;change Calls _ _ _ (w9.alloc (.cells #[.int .i64 j] 3)) _;have k0:=Blk.made w9 3 #[.int .i64 j];have x0:=Ext.box w9 (.cells #[.int .i64 j] 3);have es0:(w9.alloc (.cells #[.int .i64 j] 3)).heap.size = w9.heap.size + 1:=by simp
      obtain ⟨X0,hX0⟩:∃ X,w9.alloc (.cells #[.int .i64 j] 3) = X:=⟨_,rfl⟩;rw [hX0] at k0 x0 es0 ⊢;clear hX0;have e0:X0.heap.size = w9.heap.size + 1:=by omega
      have HXW:Hid (Ext w9 X0):=by exact (x0:Ext w9 X0)
      have eW:X0.heap.size = w9.heap.size + 1:=e0;clear x0 es0 e0;obtain ⟨W,hWW⟩:∃ W,X0 = W:=⟨_,rfl⟩;rw [hWW] at HXW eW ⊢ k0;clear hWW;refine (Z8j _ _ _ t j xn xd HE.out HJ2.out HXQ.out (HU.out.ext HXW.out) (Z8g k0)).mono ?_;rintro e w10 ⟨rfl,hx⟩;have hxx:Ext w9 w10:=HXW.out.trans hx;replace HX:=Lib.hid (HX.out.trans hxx);replace HT:=Lib.hid (HT.out.ext hxx);replace K0:=Lib.hid (K0.out.ext hxx);replace K12:=Lib.hid (K12.out.ext hxx);replace K29:=Lib.hid (K29.out.ext hxx);replace HU:=Lib.hid (HU.out.ext hxx);clear hx hxx HXW eW k0;clear HU;have HKN:=Lib.hid (Blk.made w10 59 #[.int .i64 xn,.int .i64 xd]);have hxn:=Ext.box w10 (.cells #[.int .i64 xn,.int .i64 xd] 59);go_upto_region 44 with fail;replace HX:=Lib.hid (HX.out.trans hxn);replace HT:=Lib.hid (HT.out.ext hxn);replace K0:=Lib.hid (K0.out.ext hxn);replace K12:=Lib.hid (K12.out.ext hxn);replace K29:=Lib.hid (K29.out.ext hxn);have K32:=Lib.hid (HKN.out);clear HKN hxn;obtain ⟨g32,hg32⟩:∃ g,w10.heap.size = g:=⟨_,rfl⟩;rw [hg32] at K32 ⊢;obtain ⟨w11,hww⟩:∃ X,w10.alloc (.cells #[.int .i64 xn,.int .i64 xd] 59) = X:=⟨_,rfl⟩;rw [hww] at HX HT K0 K12 K29 K32 ⊢;clear hww hg32;have HRR:Hid (∀ x ∈ [(⟨xn,xd⟩:Ratio)],Z6m x):=by exact (fun x hx=>by
       simp only [List.mem_cons,List.not_mem_nil,or_false] at hx;subst hx;exact HXR.out:∀ x ∈ [(⟨xn,xd⟩:Ratio)],Z6m x)
      have k32_0:=K32.out.cell 0;have k32_1:=K32.out.cell 1;simp only [List.getElem?_toArray,List.getElem?_cons_zero,List.getElem?_cons_succ] at k32_0 k32_1;go_wp2_with fail;clear k32_0 k32_1;change Calls _ _ _ (w11.alloc (.cells #[.int .i64 xn,.int .i64 xd] 59)) _;have k0:=Blk.made w11 59 #[.int .i64 xn,.int .i64 xd];have x0:=Ext.box w11 (.cells #[.int .i64 xn,.int .i64 xd] 59);have es0:(w11.alloc (.cells #[.int .i64 xn,.int .i64 xd] 59)).heap.size = w11.heap.size + 1:=by simp
      obtain ⟨X0,hX0⟩:∃ X,w11.alloc (.cells #[.int .i64 xn,.int .i64 xd] 59) = X:=⟨_,rfl⟩;rw [hX0] at k0 x0 es0 ⊢;clear hX0;have e0:X0.heap.size = w11.heap.size + 1:=by omega
      have HXW:Hid (Ext w11 X0):=by exact (x0:Ext w11 X0)
      have eW:X0.heap.size = w11.heap.size + 1:=e0;clear x0 es0 e0;obtain ⟨W,hWW⟩:∃ W,X0 = W:=⟨_,rfl⟩;rw [hWW] at HXW eW ⊢ k0;clear hWW;refine (Z8u _ _ [⟨xn,xd⟩] (Z8h (l:=[⟨xn,xd⟩]) (by simp) k0) HRR.out).mono ?_
      rintro e w12 ⟨rfl,hx⟩;have hxx:Ext w11 w12:=HXW.out.trans hx;replace HX:=Lib.hid (HX.out.trans hxx);replace HT:=Lib.hid (HT.out.ext hxx);replace K0:=Lib.hid (K0.out.ext hxx);replace K12:=Lib.hid (K12.out.ext hxx);replace K29:=Lib.hid (K29.out.ext hxx);replace K32:=Lib.hid (K32.out.ext hxx);clear hx hxx HXW eW k0;clear HRR;have k32_0:=K32.out.cell 0;have k32_1:=K32.out.cell 1;simp only [List.getElem?_toArray,List.getElem?_cons_zero,List.getElem?_cons_succ] at k32_0 k32_1;have k29_0:=K29.out.cell 0;have k29_1:=K29.out.cell 1;simp only [List.getElem?_toArray,List.getElem?_cons_zero,List.getElem?_cons_succ] at k29_0 k29_1;go_wp2_with fail;clear k32_0 k32_1 k29_0 k29_1;refine (Z9l _ xn xd na nb HXR.out HRM.out).mono ?_;rintro e w13 ⟨xe,rfl,_,_,hc3,hx⟩;have hxx:Ext w12 w13:=hx;replace HX:=Lib.hid (HX.out.trans hxx);replace HT:=Lib.hid (HT.out.ext hxx);replace K0:=Lib.hid (K0.out.ext hxx);replace K12:=Lib.hid (K12.out.ext hxx);replace K29:=Lib.hid (K29.out.ext hxx);replace K32:=Lib.hid (K32.out.ext hxx);have hxen:¬ xe < 0:=by have:=hc3 HXG.out; omega
      clear hc3;clear hx hxx
      by_cases h1:j < kk
      · skip
        have hne:(xn == na && xd == nb) = false:=by
         have h:=HFI.out j (by omega) HJ2.out
         rw [HXQ.out] at h;rw [Bool.eq_false_iff];intro e;rw [Bool.and_eq_true,beq_iff_eq,beq_iff_eq] at e;exact h (by rw [e.1,e.2])
        have h1I:(j:Int) < kk:=by omega
        have h1n:((j:Int) == (kk:Int)) = false:=by rw [beq_eq_false_iff_ne]; omega
        have k32_0:=K32.out.cell 0;have k32_1:=K32.out.cell 1;simp only [List.getElem?_toArray,List.getElem?_cons_zero,List.getElem?_cons_succ] at k32_0 k32_1;have k29_0:=K29.out.cell 0;have k29_1:=K29.out.cell 1;simp only [List.getElem?_toArray,List.getElem?_cons_zero,List.getElem?_cons_succ] at k29_0 k29_1;go_wp2;go_roundw
        case rel=>exact ⟨j + 1,by omega,by go_num,HX.out⟩
        case measure=>simp [intOf]; omega
      · skip
        have h1I:¬ (j:Int) < kk:=by omega
        by_cases h2:j = kk
        · skip
          have h1n:((j:Int) == (kk:Int)) = true:=by rw [beq_iff_eq]; omega
          have he2:xn = na ∧ xd = nb:=by
           have h:=HBE.out;rw [← h2,HXQ.out] at h;injection h with h3 h4;exact ⟨h3,h4⟩
          obtain ⟨rfl,rfl⟩:=he2;clear h2;have k32_0:=K32.out.cell 0;have k32_1:=K32.out.cell 1;simp only [List.getElem?_toArray,List.getElem?_cons_zero,List.getElem?_cons_succ] at k32_0 k32_1;have k29_0:=K29.out.cell 0;have k29_1:=K29.out.cell 1;simp only [List.getElem?_toArray,List.getElem?_cons_zero,List.getElem?_cons_succ] at k29_0 k29_1;go_wp2;go_roundw
          case rel=>exact ⟨j + 1,by omega,by go_num,HX.out⟩
          case measure=>simp [intOf]; omega
        · have h1n:((j:Int) == (kk:Int)) = false:=by rw [beq_eq_false_iff_ne]; omega
          have k32_0:=K32.out.cell 0;have k32_1:=K32.out.cell 1;simp only [List.getElem?_toArray,List.getElem?_cons_zero,List.getElem?_cons_succ] at k32_0 k32_1;have k29_0:=K29.out.cell 0;have k29_1:=K29.out.cell 1;simp only [List.getElem?_toArray,List.getElem?_cons_zero,List.getElem?_cons_succ] at k29_0 k29_1;go_wp2;go_roundw
          case rel=>exact ⟨j + 1,by omega,by go_num,HX.out⟩
          case measure=>simp [intOf]; omega
    · skip
      replace HX:=Lib.hid (HXB1.out.trans HX.out);clear HXB1;go_wp2;go_ret;exact ⟨rfl,HW0.out.trans HX.out⟩
end Go.Proofs
namespace Go.Proofs
open Go.RowKit Go.Tw Go.Flow
attribute [local go_sem ↓] Y3d X9j Z8b X2p Z7r Z7i
set_option linter.unusedSimpArgs false in
set_option linter.unusedVariables false in
set_option maxRecDepth 1000000 in
set_option maxHeartbeats 32000000 in
theorem J2j (W0 WB:World) (t:Tree) (A B G:Option Addr) (capa capb capg at_ sz gT g12 g18:Nat) (OA pn pd an ad bn bd jn jd un ud:Int) (he:t.err = 0) (hf:Few t) (hsz:t.size ≤ 6) (hk:at_ < t.size) (hss:t.size = sz) (hoa:ix t.Q0b at_ = OA) (hlf:J2v OA pn pd an ad bn bd jn jd un ud) (hp:Z6v t t.Q0b = ⟨pn,pd⟩) (hj:J2g t at_ = ⟨jn,jd⟩) (ht:Q6u WB (.slice A t.basics.length capa) (.slice B t.causes.length capb) (.slice G t.gates.length capg) t) (k0:Blk WB gT 26 #[.slice A t.basics.length capa,.slice B t.causes.length capb,.slice G t.gates.length capg]) (k12:Blk WB g12 59 #[.int .i64 pn,.int .i64 pd]) (k18:Blk WB g18 59 #[.int .i64 jn,.int .i64 jd]) (hx0:Ext W0 WB) (u0 u1 u3 u4 u7 u8 u9 u10 u11 u13 u14 u15 u16 u17 u19 u20 u21 u22 u23 u24 u25 u26 u27 u28 u29 u30 u31 u32 u33 u34 u35 u36 u37 u38 u39 u40 u41 u42 u43 u44 u45 u46 u47 u48 u49 u50 u51 u52 u53 u54 u55 u56 u57 u58 u59 u60 u61 u62 u63 u64 u65 u66 u67 u68 u69 u70 u71 u72 u73 u74 u75 u76 u77 u78 u79 u80 u81 u82 u83 u84 u85 u86 u87 u88 u89 u90 u91 u92 u93 u94 u95 u96 u97 u98 u99 u100 u101 u102 u103 u104 u105 u106 u107 u108 u109 u110 u111 u112 u113 u114 u115 u116 u117 u118 u119 u120 u121 u122 u123 u124 u125 u126 u127 u128 u129 u130 u131 u132 u133 u134 u135 u136 u137 u138 u139 u140 u141 u142 u143 u144 u145 u146 u147 u148 u149 u150 u151 u152 u153 u154 u155 u156 u157 u158 u159 u160 u161 u162 u163 u164 u165 u166 u167 u168 u169 u170 u171 u172 u173 u174 u175 u176 u177 u178 u179 u180 u181 u182 u183 u184 u185 u186 u187 u188 u189 u190 u191 u192 u193 u194 u195 u196 u197 u198 u199 u200 u201 u202 u203 u204 u205 u206 u207 u208 u209 u210 u211 u212 u213 u214 u215 u216 u217 u218 u219 u220 u221 u222 u223 u224 u225 u226 u227 u228 u229 u230 u231 u232 u233 u234 u235 u236 u237 u238 u239 u240 u241 u242 u243 u244 u245 u246 u247 u248 u249 u250 u251 u252 u253 u254 u255 u256 u257 u258 u259 u260 u261 u262 u263 u264 u265 u266 u267 u268 u269 u270 u271 u272 u273 u274 u275 u276 u277 u278 u279 u280 u281 u282 u283 u284 u285 u286 u287 u288 u289 u290 u291 u292 u293 u294 u295 u296 u297 u298 u299 u300 u301 u302 u303 u304 u305 u306 u307 u308 u309 u310 u311 u312 u313 u314 u315 u316 u317 u318 u319 u320 u321 u322 u323 u324 u325 u326 u327 u328 u329 u330 u331 u332 u333 u334 u335 u336 u337 u338 u339 u340 u341 u342 u343 u344 u345 u346 u347 u348 u349 u350 u351 u352 u353 u354 u355 u356 u357 u358 u359 u360 u361 u362 u363 u364 u365 u366 u367 u368 u369 u370 u371 u372 u373 u374 u375 u376 u377 u378 u379 u380:Value) :
    (J1g 30).wp Tryz.prog (bodyPost Tryz.prog Tryz.f6 (fun e w'=>e = .returned (.bool true) ∧ Ext W0 w')) ⟨#[u0,u1,.pointer (some ⟨gT,0,none⟩),u3,u4,.int .i64 at_,.int .i64 OA,u7,u8,u9,u10,u11,.pointer (some ⟨g12,0,none⟩),u13,u14,u15,u16,u17,.pointer (some ⟨g18,0,none⟩),u19,u20,u21,u22,u23,u24,u25,u26,u27,u28,u29,u30,u31,u32,u33,u34,u35,u36,u37,u38,u39,u40,u41,u42,u43,u44,u45,u46,u47,u48,u49,u50,u51,u52,u53,u54,u55,u56,u57,u58,u59,u60,u61,u62,u63,u64,u65,u66,u67,u68,u69,u70,u71,u72,u73,u74,u75,u76,u77,u78,u79,u80,u81,u82,u83,u84,u85,u86,u87,u88,u89,u90,u91,u92,u93,u94,u95,u96,u97,u98,u99,u100,u101,u102,u103,u104,u105,u106,u107,u108,u109,u110,u111,u112,u113,u114,u115,u116,u117,u118,u119,u120,u121,u122,u123,u124,u125,u126,u127,u128,u129,u130,u131,u132,u133,u134,u135,u136,u137,u138,u139,u140,u141,u142,u143,u144,u145,u146,u147,u148,u149,u150,u151,u152,u153,u154,u155,u156,u157,u158,u159,u160,u161,u162,u163,u164,u165,u166,u167,u168,u169,u170,u171,u172,u173,u174,u175,u176,u177,u178,u179,u180,u181,u182,u183,u184,u185,u186,u187,u188,u189,u190,u191,u192,u193,u194,u195,u196,u197,u198,u199,u200,u201,u202,u203,u204,u205,u206,u207,u208,u209,u210,u211,u212,u213,u214,u215,u216,u217,u218,u219,u220,u221,u222,u223,u224,u225,u226,u227,u228,u229,u230,u231,u232,u233,u234,u235,u236,u237,u238,u239,u240,u241,u242,u243,u244,u245,u246,u247,u248,u249,u250,u251,u252,u253,u254,u255,u256,u257,u258,u259,u260,u261,u262,u263,u264,u265,u266,u267,u268,u269,u270,u271,u272,u273,u274,u275,u276,u277,u278,u279,u280,u281,u282,u283,u284,u285,u286,u287,u288,u289,u290,u291,u292,u293,u294,u295,u296,u297,u298,u299,u300,u301,u302,u303,u304,u305,u306,u307,u308,u309,u310,u311,u312,u313,u314,u315,u316,u317,u318,u319,u320,u321,u322,u323,u324,u325,u326,u327,u328,u329,u330,u331,u332,u333,u334,u335,u336,u337,u338,u339,u340,u341,u342,u343,u344,u345,u346,u347,u348,u349,u350,u351,u352,u353,u354,u355,u356,u357,u358,u359,u360,u361,u362,u363,u364,u365,u366,u367,u368,u369,u370,u371,u372,u373,u374,u375,u376,u377,u378,u379,u380],[]⟩ WB:=by
 conv=>arg 2; whnf
 have HE:=Lib.hid he;have HF:=Lib.hid hf;have HSZ:=Lib.hid hsz;have HSS:=Lib.hid hss;have HP:=Lib.hid hp;have HT:=Lib.hid ht;have K0:=Lib.hid k0;have K12:=Lib.hid k12;have HW0:=Lib.hid hx0;have HV:=Lib.hid (Valid.of he);have HX:=Lib.hid (Ext.refl WB);obtain ⟨_,_,he1,_,hcap1,_⟩:=ht.basics.opened;cases he1;obtain ⟨_,_,he1,_,hcap2,_⟩:=ht.causes.opened;cases he1;obtain ⟨_,_,he1,_,hcap3,_⟩:=ht.gates.opened;cases he1;have HK:=Lib.hid hk;have HOA:=Lib.hid hoa;have HLF:=Lib.hid hlf;have HJ:=Lib.hid hj;have K18:=Lib.hid k18;clear he hf hsz hss hp ht k0 k12 hx0 hk hoa hlf hj k18;have hro:=HLF.out.ro
 by_cases hoa:OA < 16
 · have HO16:=Lib.hid hoa
   have k0_0:=K0.out.cell 0;have k0_1:=K0.out.cell 1;have k0_2:=K0.out.cell 2;simp only [List.getElem?_toArray,List.getElem?_cons_zero,List.getElem?_cons_succ] at k0_0 k0_1 k0_2;go_wp2_with fail;clear k0_0 k0_1 k0_2;refine (Y1m _ _ (t) ⟨_,_,_,rfl,HT.out⟩ HF.out).mono ?_;rintro e w1 ⟨uu,rfl,hu,hx⟩;have hxx:Ext WB w1:=hx;replace HX:=Lib.hid (HX.out.trans hxx);replace HT:=Lib.hid (HT.out.ext hxx);replace K0:=Lib.hid (K0.out.ext hxx);replace K12:=Lib.hid (K12.out.ext hxx);replace K18:=Lib.hid (K18.out.ext hxx);have HU:=Lib.hid (hu);clear hu;clear hx hxx;obtain ⟨P,hP⟩:∃ P,Q3c t at_ (OA + 1) = P:=⟨_,rfl⟩;have HPE:Hid (P.err = 0):=by exact (by rw [← hP]; exact J2q HE.out (by omega) (by omega):P.err = 0)
   obtain ⟨⟨rn,rd⟩,hr⟩:∃ r,Z6v P P.Q0b = r:=⟨_,rfl⟩;have HR:=Lib.hid hr;have HSF:Hid (J2b pn pd jn jd rn rd):=by exact (J2w HV.out HSZ.out HK.out (by rw [HOA.out]; exact hoa) HP.out HJ.out (by rw [HOA.out,hP]; exact hr):J2b pn pd jn jd rn rd)
   have HTT:Hid (∀ (w:World) (u:Value),IsTree w u t → Calls Tryz.prog 34 #[u,.int .i64 at_,.int .i64 (OA + 1)] w fun e w'=>∃ x,e = .returned (.tuple #[x,.int .i64 0]) ∧ IsTree w' x P ∧ Ext w w'):=by
    refine Lib.hid fun w u h=>?_;rw [← hP];exact J1z w u t at_ (OA + 1) HE.out HK.out (by omega) (by omega) h
   clear hP hr hoa;go_wp2_with fail;refine (HTT.out _ _ HU.out).mono ?_;rintro e w2 ⟨xt,rfl,hd,hx⟩;have hxx:Ext w1 w2:=hx;replace HX:=Lib.hid (HX.out.trans hxx);replace HT:=Lib.hid (HT.out.ext hxx);replace K0:=Lib.hid (K0.out.ext hxx);replace K12:=Lib.hid (K12.out.ext hxx);replace K18:=Lib.hid (K18.out.ext hxx);replace HU:=Lib.hid (HU.out.ext hxx);have HD:=Lib.hid (hd);clear hd;clear hx hxx;clear HU;obtain ⟨y1,y2,y3,rfl,h3⟩:=HD.out;obtain ⟨A5,capA5,rfl,_,_,_⟩:=h3.basics.opened;obtain ⟨B5,capB5,rfl,_,_,_⟩:=h3.causes.opened;obtain ⟨G5,capG5,rfl,_,_,_⟩:=h3.gates.opened;replace HD:=Lib.hid h3;clear h3;go_wp2_with fail;change Calls _ _ _ (w2.alloc (.cells #[.slice A5 P.basics.length capA5,.slice B5 P.causes.length capB5,.slice G5 P.gates.length capG5] 37)) _;have k0:=Blk.made w2 37 #[.slice A5 P.basics.length capA5,.slice B5 P.causes.length capB5,.slice G5 P.gates.length capG5];have x0:=Ext.box w2 (.cells #[.slice A5 P.basics.length capA5,.slice B5 P.causes.length capB5,.slice G5 P.gates.length capG5] 37);have es0:(w2.alloc (.cells #[.slice A5 P.basics.length capA5,.slice B5 P.causes.length capB5,.slice G5 P.gates.length capG5] 37)).heap.size = w2.heap.size + 1:=by simp
   obtain ⟨X0,hX0⟩:∃ X,w2.alloc (.cells #[.slice A5 P.basics.length capA5,.slice B5 P.causes.length capB5,.slice G5 P.gates.length capG5] 37) = X:=⟨_,rfl⟩;rw [hX0] at k0 x0 es0 ⊢;clear hX0;have e0:X0.heap.size = w2.heap.size + 1:=by omega
   have HXW:Hid (Ext w2 X0):=by exact (x0:Ext w2 X0)
   have eW:X0.heap.size = w2.heap.size + 1:=e0;clear x0 es0 e0;obtain ⟨W,hWW⟩:∃ W,X0 = W:=⟨_,rfl⟩;rw [hWW] at HXW eW ⊢ k0;clear hWW;refine (J0n _ _ P rn rd HPE.out HR.out ⟨_,_,_,rfl,HD.out.ext HXW.out⟩).mono ?_;rintro e w3 ⟨rfl,hx⟩;have hxx:Ext w2 w3:=HXW.out.trans hx;replace HX:=Lib.hid (HX.out.trans hxx);replace HT:=Lib.hid (HT.out.ext hxx);replace K0:=Lib.hid (K0.out.ext hxx);replace K12:=Lib.hid (K12.out.ext hxx);replace K18:=Lib.hid (K18.out.ext hxx);replace HD:=Lib.hid (HD.out.ext hxx);clear hx hxx HXW eW k0;have HKN:=Lib.hid (Blk.made w3 59 #[.int .i64 rn,.int .i64 rd]);have hxn:=Ext.box w3 (.cells #[.int .i64 rn,.int .i64 rd] 59);go_upto_region 35 with fail;replace HX:=Lib.hid (HX.out.trans hxn);replace HT:=Lib.hid (HT.out.ext hxn);replace K0:=Lib.hid (K0.out.ext hxn);replace K12:=Lib.hid (K12.out.ext hxn);replace K18:=Lib.hid (K18.out.ext hxn);replace HD:=Lib.hid (HD.out.ext hxn);have K26:=Lib.hid (HKN.out);clear HKN hxn;obtain ⟨g26,hg26⟩:∃ g,w3.heap.size = g:=⟨_,rfl⟩;rw [hg26] at K26 ⊢;obtain ⟨w4,hww⟩:∃ X,w3.alloc (.cells #[.int .i64 rn,.int .i64 rd] 59) = X:=⟨_,rfl⟩;rw [hww] at HX HT K0 K12 K18 HD K26 ⊢;clear hww hg26;have HPR:=Lib.hid (stepW HSF.out HLF.out.rp HLF.out.rj);have HLO1:Hid (∀ w,Calls Tryz.prog 50 #[.int .i64 (rn * pd - pn * rd),.int .i64 (rd * pd)] w fun e w'=>e = .returned (.agg #[.int .i64 (lowest jn (16 * jd)).num,.int .i64 (lowest jn (16 * jd)).den]) ∧ Ext w w'):=by
    refine Lib.hid fun w=>?_;have h:=Z7o w _ _ HPR.out.b1.1 HPR.out.b1.2 HPR.out.b2.1 HPR.out.b2.2;rw [HSF.out.step] at h;exact h
   have HLO2:Hid (∀ w,Calls Tryz.prog 50 #[.int .i64 jn,.int .i64 (16 * jd)] w fun e w'=>e = .returned (.agg #[.int .i64 (lowest jn (16 * jd)).num,.int .i64 (lowest jn (16 * jd)).den]) ∧ Ext w w'):=by
    refine Lib.hid fun w=>?_;exact Z7o w _ _ HLF.out.rj.1 (by have:=HLF.out.rj.2.1; dsimp only at this; omega) HPR.out.b3.1 HPR.out.b3.2
   obtain ⟨⟨zn,zd⟩,hz⟩:∃ r,lowest jn (16 * jd) = r:=⟨_,rfl⟩;rw [hz] at HLO1 HLO2;clear hz;obtain ⟨_,_,_,y1,y2,y3,y4,y5⟩:=HPR.out;clear HPR;have HRR:Hid (∀ x ∈ [(⟨rn,rd⟩:Ratio)],Z6m x):=by exact (fun x hx=>by
    simp only [List.mem_cons,List.not_mem_nil,or_false] at hx;subst hx;exact HSF.out.rr:∀ x ∈ [(⟨rn,rd⟩:Ratio)],Z6m x)
   have hdr:=(Ext.refl w4).drew;refine Flow.Q3g [.plain,.plain,.plain,.world,.world,.world,.plain,.plain,.plain,.plain,.world,.plain,.world,.plain,.plain,.world,.plain,.world,.plain,.plain,.plain,.world,.plain,.world,.plain,.world,.plain,.world,.plain,.world,.plain,.world,.plain,.plain] [0,1,2,3,4,5,6,7,8,9,10,11,12,13,14,15,16,17,18,19,20,21,22,23,24,25,26,27,28,29,30,31,32,33] [[],[0],[1],[2],[2,3],[2,4],[2,5],[2,6],[5,7],[8],[8,9],[8],[8,11],[8,10,12],[8],[8,14],[8],[8,16],[8,15,17],[8,13,18],[8],[8,20],[8],[8,22],[8,21,23],[8,19,24],[8],[8,26],[8],[8,28],[8,29],[8,25,27,30],[8,25,31],[8,32]]
    [.is 0 (fun v=>.int .i64 0),.is 1 (fun v=>.bool false),.is 2 (fun v=>.bool false),.is 3 (fun v=>.agg #[.int .i64 rn,.int .i64 rd]),⟨fun v wz=>Z7k wz (v 4) [⟨rn,rd⟩],fun _ _ _ hx h=>h.ext hx⟩,.is 5 (fun v=>.bool true),.is 6 (fun v=>.bool false),.is 7 (fun v=>.bool false),.is 8 (fun v=>.bool false),.is 9 (fun v=>.pointer (some ⟨g26,0,none⟩)),.is 10 (fun v=>.int .i64 rn),.is 11 (fun v=>.pointer (some ⟨g12,1,none⟩)),.is 12 (fun v=>.int .i64 pd),.is 13 (fun v=>.int .i64 (rn * pd)),.is 14 (fun v=>.pointer (some ⟨g12,0,none⟩)),.is 15 (fun v=>.int .i64 pn),.is 16 (fun v=>.pointer (some ⟨g26,1,none⟩)),.is 17 (fun v=>.int .i64 rd),.is 18 (fun v=>.int .i64 (pn * rd)),.is 19 (fun v=>.int .i64 (rn * pd - pn * rd)),.is 20 (fun v=>.pointer (some ⟨g26,1,none⟩)),.is 21 (fun v=>.int .i64 rd),.is 22 (fun v=>.pointer (some ⟨g12,1,none⟩)),.is 23 (fun v=>.int .i64 pd),.is 24 (fun v=>.int .i64 (rd * pd)),.is 25 (fun v=>.agg #[.int .i64 zn,.int .i64 zd]),.is 26 (fun v=>.pointer (some ⟨g18,0,none⟩)),.is 27 (fun v=>.int .i64 jn),.is 28 (fun v=>.pointer (some ⟨g18,1,none⟩)),.is 29 (fun v=>.int .i64 jd),.is 30 (fun v=>.int .i64 (16 * jd)),.is 31 (fun v=>.agg #[.int .i64 zn,.int .i64 zd]),.is 32 (fun v=>.bool false),.is 33 (fun v=>.bool false)]
    (by kernel_rfl) rfl (by kernel_rfl) ?owed ?post
   case owed =>
    refine ⟨?g0,?g1,?g2,?g3,?g4,?g5,?g6,?g7,?g8,?g9,?g10,?g11,?g12,?g13,?g14,?g15,?g16,?g17,?g18,?g19,?g20,?g21,?g22,?g23,?g24,?g25,?g26,?g27,?g28,?g29,?g30,?g31,?g32,?g33,trivial⟩
    case g0 =>
     as_aux_lemma =>
     intro v w1 hx;intro bb hbb;have fo0:bb.eval (.tmp 27) = .int .i64 0:=by rw [hbb]; dsimp only; (try simp (discharger:=decide) only [Flow.eval_put_ne,Flow.X0y]); rfl
     clear hbb;refine ⟨_,fun w=>?_,rfl⟩;unfold execOp;simp only [fo0];clear fo0;go_simp
    case g1 =>
     as_aux_lemma =>
     intro v w1 hx (q0:v 0 = .int .i64 0);intro bb hbb;have fo0:bb.eval (.tmp 247) = .int .i64 0:=by rw [hbb]; dsimp only; (try simp (discharger:=decide) only [Flow.eval_put_ne,Flow.X0y]); rw [Flow.Q0a (by simp only [Flow.size_put]; exact (by decide:247 < 381))]; exact q0
     clear hbb;refine ⟨_,fun w=>?_,rfl⟩;unfold execOp;simp only [fo0];clear fo0;go_simp
    case g2 =>
     as_aux_lemma =>
     intro v w1 hx (q1:v 1 = .bool false);intro bb hbb;have fo0:bb.eval (.tmp 248) = .bool false:=by rw [hbb]; dsimp only; (try simp (discharger:=decide) only [Flow.eval_put_ne,Flow.X0y]); rw [Flow.Q0a (by simp only [Flow.size_put]; exact (by decide:248 < 381))]; exact q1
     clear hbb;refine ⟨_,fun w=>?_,rfl⟩;unfold execOp;simp only [fo0];clear fo0;go_simp
    case g3 =>
     as_aux_lemma =>
     intro v w1 hx (q2:v 2 = .bool false);intro bb hbb;refine Flow.Q0g (d:=249) rfl rfl (by rw [hbb]; simp only [size_put]; exact (by decide:249 < 381)) (by rw [hbb]; dsimp only; (try simp (discharger:=decide) only [eval_put_ne]); rw [Q0a (by simp only [size_put]; exact (by decide:249 < 381))]; exact q2) ?_
     intro K2 hK2;have o1:bb.eval (.tmp 26) = .pointer (some ⟨g26,0,none⟩):=by rw [hbb]; dsimp only; (try simp (discharger:=decide) only [eval_put_ne]); rfl
     exact Q0n (.tmp 26) _ rfl Tryz.Q5e Tryz.Q1v o1 (K26.out.ext (hdr.trans hx)) rfl (hK2 _ _ (Ext.refl _) rfl)
    case g4 =>
     as_aux_lemma =>
     intro v w1 hx (q2:v 2 = .bool false) (q3:v 3 = .agg #[.int .i64 rn,.int .i64 rd]);intro bb hbb;refine Flow.Q0g (d:=249) rfl rfl (by rw [hbb]; simp only [size_put]; exact (by decide:249 < 381)) (by rw [hbb]; dsimp only; (try simp (discharger:=decide) only [eval_put_ne]); rw [Q0a (by simp only [size_put]; exact (by decide:249 < 381))]; exact q2) ?_
     intro K2 hK2;have o1:bb.eval (.tmp 250) = .agg #[.int .i64 rn,.int .i64 rd]:=by rw [hbb]; dsimp only; (try simp (discharger:=decide) only [eval_put_ne]); rw [Q0a (by simp only [size_put]; exact (by decide:250 < 381))]; exact q3
     exact Q4j 143 59 (.tmp 250) rfl o1 (Z7i w1 _ _) (hK2 _ _ (Ext.box _ _) (J1v (l:=[⟨rn,rd⟩]) (by simp)))
    case g5 =>
     as_aux_lemma =>
     intro v w1 hx (q2:v 2 = .bool false) (q4:Z7k w1 (v 4) [⟨rn,rd⟩]);intro bb hbb;refine Flow.Q0g (d:=249) rfl rfl (by rw [hbb]; simp only [size_put]; exact (by decide:249 < 381)) (by rw [hbb]; dsimp only; (try simp (discharger:=decide) only [eval_put_ne]); rw [Q0a (by simp only [size_put]; exact (by decide:249 < 381))]; exact q2) ?_
     subst hbb;intro K hK;go_simp;refine Q0e (Z8u w1 _ _ q4 HRR.out) ?_;rintro e w2 ⟨rfl,hx2⟩;exact ⟨_,rfl,hK _ _ hx2 rfl⟩
    case g6 =>
     as_aux_lemma =>
     intro v w1 hx (q2:v 2 = .bool false) (q5:v 5 = .bool true);intro bb hbb;refine Flow.Q0g (d:=249) rfl rfl (by rw [hbb]; simp only [size_put]; exact (by decide:249 < 381)) (by rw [hbb]; dsimp only; (try simp (discharger:=decide) only [eval_put_ne]); rw [Q0a (by simp only [size_put]; exact (by decide:249 < 381))]; exact q2) ?_
     have fo0:bb.eval (.tmp 252) = .bool true:=by rw [hbb]; dsimp only; (try simp (discharger:=decide) only [Flow.eval_put_ne,Flow.X0y]); rw [Flow.Q0a (by simp only [Flow.size_put]; exact (by decide:252 < 381))]; exact q5
     clear hbb;refine ⟨_,fun w=>?_,rfl⟩;unfold execOp;simp only [fo0];clear fo0;go_simp
    case g7 =>
     as_aux_lemma =>
     intro v w1 hx (q2:v 2 = .bool false) (q6:v 6 = .bool false);intro bb hbb;have fo0:bb.eval (.tmp 249) = .bool false:=by rw [hbb]; dsimp only; (try simp (discharger:=decide) only [Flow.eval_put_ne,Flow.X0y]); rw [Flow.Q0a (by simp only [Flow.size_put]; exact (by decide:249 < 381))]; exact q2
     have fo1:bb.eval (.tmp 253) = .bool false:=by rw [hbb]; dsimp only; (try simp (discharger:=decide) only [Flow.eval_put_ne,Flow.X0y]); rw [Flow.Q0a (by simp only [Flow.size_put]; exact (by decide:253 < 381))]; exact q6
     clear hbb;refine ⟨_,fun w=>?_,rfl⟩;unfold execOp;simp only [fo0,fo1];clear fo0 fo1;go_simp
    case g8 =>
     as_aux_lemma =>
     intro v w1 hx (q5:v 5 = .bool true) (q7:v 7 = .bool false);intro bb hbb;have fo0:bb.eval (.tmp 254) = .bool false:=by rw [hbb]; dsimp only; (try simp (discharger:=decide) only [Flow.eval_put_ne,Flow.X0y]); rw [Flow.Q0a (by simp only [Flow.size_put]; exact (by decide:254 < 381))]; exact q7
     clear hbb;refine ⟨_,fun w=>?_,rfl⟩;unfold execOp;simp only [fo0];clear fo0;go_simp
    case g9 =>
     as_aux_lemma =>
     intro v w1 hx (q8:v 8 = .bool false);intro bb hbb;refine Flow.Q0g (d:=255) rfl rfl (by rw [hbb]; simp only [size_put]; exact (by decide:255 < 381)) (by rw [hbb]; dsimp only; (try simp (discharger:=decide) only [eval_put_ne]); rw [Q0a (by simp only [size_put]; exact (by decide:255 < 381))]; exact q8) ?_
     have fo0:bb.eval (.tmp 26) = .pointer (some ⟨g26,0,none⟩):=by rw [hbb]; dsimp only; (try simp (discharger:=decide) only [Flow.eval_put_ne,Flow.X0y]); rfl
     clear hbb;refine ⟨_,fun w=>?_,rfl⟩;unfold execOp;simp only [fo0];clear fo0;go_simp
    case g10 =>
     as_aux_lemma =>
     intro v w1 hx (q8:v 8 = .bool false) (q9:v 9 = .pointer (some ⟨g26,0,none⟩));intro bb hbb;have n0:w1.cell? ⟨g26,0,none⟩ = some (.int .i64 rn):=(K26.out.ext (hdr.trans hx)).cell 0;refine Flow.Q0g (d:=255) rfl rfl (by rw [hbb]; simp only [size_put]; exact (by decide:255 < 381)) (by rw [hbb]; dsimp only; (try simp (discharger:=decide) only [eval_put_ne]); rw [Q0a (by simp only [size_put]; exact (by decide:255 < 381))]; exact q8) ?_
     have fo0:bb.eval (.tmp 256) = .pointer (some ⟨g26,0,none⟩):=by rw [hbb]; dsimp only; (try simp (discharger:=decide) only [Flow.eval_put_ne,Flow.X0y]); rw [Flow.Q0a (by simp only [Flow.size_put]; exact (by decide:256 < 381))]; exact q9
     clear hbb;intro K hK;unfold execOp;simp only [fo0];clear fo0;go_simp;exact hK _ _ (Ext.refl _) rfl
    case g11 =>
     as_aux_lemma =>
     intro v w1 hx (q8:v 8 = .bool false);intro bb hbb;refine Flow.Q0g (d:=255) rfl rfl (by rw [hbb]; simp only [size_put]; exact (by decide:255 < 381)) (by rw [hbb]; dsimp only; (try simp (discharger:=decide) only [eval_put_ne]); rw [Q0a (by simp only [size_put]; exact (by decide:255 < 381))]; exact q8) ?_
     have fo0:bb.eval (.tmp 12) = .pointer (some ⟨g12,0,none⟩):=by rw [hbb]; dsimp only; (try simp (discharger:=decide) only [Flow.eval_put_ne,Flow.X0y]); rfl
     clear hbb;refine ⟨_,fun w=>?_,rfl⟩;unfold execOp;simp only [fo0];clear fo0;go_simp
    case g12 =>
     as_aux_lemma =>
     intro v w1 hx (q8:v 8 = .bool false) (q11:v 11 = .pointer (some ⟨g12,1,none⟩));intro bb hbb;have n0:w1.cell? ⟨g12,1,none⟩ = some (.int .i64 pd):=(K12.out.ext (hdr.trans hx)).cell 1;refine Flow.Q0g (d:=255) rfl rfl (by rw [hbb]; simp only [size_put]; exact (by decide:255 < 381)) (by rw [hbb]; dsimp only; (try simp (discharger:=decide) only [eval_put_ne]); rw [Q0a (by simp only [size_put]; exact (by decide:255 < 381))]; exact q8) ?_
     have fo0:bb.eval (.tmp 258) = .pointer (some ⟨g12,1,none⟩):=by rw [hbb]; dsimp only; (try simp (discharger:=decide) only [Flow.eval_put_ne,Flow.X0y]); rw [Flow.Q0a (by simp only [Flow.size_put]; exact (by decide:258 < 381))]; exact q11
     clear hbb;intro K hK;unfold execOp;simp only [fo0];clear fo0;go_simp;exact hK _ _ (Ext.refl _) rfl
    case g13 =>
     as_aux_lemma =>
     intro v w1 hx (q8:v 8 = .bool false) (q10:v 10 = .int .i64 rn) (q12:v 12 = .int .i64 pd);intro bb hbb;refine Flow.Q0g (d:=255) rfl rfl (by rw [hbb]; simp only [size_put]; exact (by decide:255 < 381)) (by rw [hbb]; dsimp only; (try simp (discharger:=decide) only [eval_put_ne]); rw [Q0a (by simp only [size_put]; exact (by decide:255 < 381))]; exact q8) ?_
     have fo0:bb.eval (.tmp 257) = .int .i64 rn:=by rw [hbb]; dsimp only; (try simp (discharger:=decide) only [Flow.eval_put_ne,Flow.X0y]); rw [Flow.Q0a (by simp only [Flow.size_put]; exact (by decide:257 < 381))]; exact q10
     have fo1:bb.eval (.tmp 259) = .int .i64 pd:=by rw [hbb]; dsimp only; (try simp (discharger:=decide) only [Flow.eval_put_ne,Flow.X0y]); rw [Flow.Q0a (by simp only [Flow.size_put]; exact (by decide:259 < 381))]; exact q12
     clear hbb;refine ⟨_,fun w=>?_,rfl⟩;unfold execOp;simp only [fo0,fo1];clear fo0 fo1;go_simp
    case g14 =>
     as_aux_lemma =>
     intro v w1 hx (q8:v 8 = .bool false);intro bb hbb;refine Flow.Q0g (d:=255) rfl rfl (by rw [hbb]; simp only [size_put]; exact (by decide:255 < 381)) (by rw [hbb]; dsimp only; (try simp (discharger:=decide) only [eval_put_ne]); rw [Q0a (by simp only [size_put]; exact (by decide:255 < 381))]; exact q8) ?_
     have fo0:bb.eval (.tmp 12) = .pointer (some ⟨g12,0,none⟩):=by rw [hbb]; dsimp only; (try simp (discharger:=decide) only [Flow.eval_put_ne,Flow.X0y]); rfl
     clear hbb;refine ⟨_,fun w=>?_,rfl⟩;unfold execOp;simp only [fo0];clear fo0;go_simp
    case g15 =>
     as_aux_lemma =>
     intro v w1 hx (q8:v 8 = .bool false) (q14:v 14 = .pointer (some ⟨g12,0,none⟩));intro bb hbb;have n0:w1.cell? ⟨g12,0,none⟩ = some (.int .i64 pn):=(K12.out.ext (hdr.trans hx)).cell 0;refine Flow.Q0g (d:=255) rfl rfl (by rw [hbb]; simp only [size_put]; exact (by decide:255 < 381)) (by rw [hbb]; dsimp only; (try simp (discharger:=decide) only [eval_put_ne]); rw [Q0a (by simp only [size_put]; exact (by decide:255 < 381))]; exact q8) ?_
     have fo0:bb.eval (.tmp 261) = .pointer (some ⟨g12,0,none⟩):=by rw [hbb]; dsimp only; (try simp (discharger:=decide) only [Flow.eval_put_ne,Flow.X0y]); rw [Flow.Q0a (by simp only [Flow.size_put]; exact (by decide:261 < 381))]; exact q14
     clear hbb;intro K hK;unfold execOp;simp only [fo0];clear fo0;go_simp;exact hK _ _ (Ext.refl _) rfl
    case g16 =>
     as_aux_lemma =>
     intro v w1 hx (q8:v 8 = .bool false);intro bb hbb;refine Flow.Q0g (d:=255) rfl rfl (by rw [hbb]; simp only [size_put]; exact (by decide:255 < 381)) (by rw [hbb]; dsimp only; (try simp (discharger:=decide) only [eval_put_ne]); rw [Q0a (by simp only [size_put]; exact (by decide:255 < 381))]; exact q8) ?_
     have fo0:bb.eval (.tmp 26) = .pointer (some ⟨g26,0,none⟩):=by rw [hbb]; dsimp only; (try simp (discharger:=decide) only [Flow.eval_put_ne,Flow.X0y]); rfl
     clear hbb;refine ⟨_,fun w=>?_,rfl⟩;unfold execOp;simp only [fo0];clear fo0;go_simp
    case g17 =>
     as_aux_lemma =>
     intro v w1 hx (q8:v 8 = .bool false) (q16:v 16 = .pointer (some ⟨g26,1,none⟩));intro bb hbb;have n0:w1.cell? ⟨g26,1,none⟩ = some (.int .i64 rd):=(K26.out.ext (hdr.trans hx)).cell 1;refine Flow.Q0g (d:=255) rfl rfl (by rw [hbb]; simp only [size_put]; exact (by decide:255 < 381)) (by rw [hbb]; dsimp only; (try simp (discharger:=decide) only [eval_put_ne]); rw [Q0a (by simp only [size_put]; exact (by decide:255 < 381))]; exact q8) ?_
     have fo0:bb.eval (.tmp 263) = .pointer (some ⟨g26,1,none⟩):=by rw [hbb]; dsimp only; (try simp (discharger:=decide) only [Flow.eval_put_ne,Flow.X0y]); rw [Flow.Q0a (by simp only [Flow.size_put]; exact (by decide:263 < 381))]; exact q16
     clear hbb;intro K hK;unfold execOp;simp only [fo0];clear fo0;go_simp;exact hK _ _ (Ext.refl _) rfl
    case g18 =>
     as_aux_lemma =>
     intro v w1 hx (q8:v 8 = .bool false) (q15:v 15 = .int .i64 pn) (q17:v 17 = .int .i64 rd);intro bb hbb;refine Flow.Q0g (d:=255) rfl rfl (by rw [hbb]; simp only [size_put]; exact (by decide:255 < 381)) (by rw [hbb]; dsimp only; (try simp (discharger:=decide) only [eval_put_ne]); rw [Q0a (by simp only [size_put]; exact (by decide:255 < 381))]; exact q8) ?_
     have fo0:bb.eval (.tmp 262) = .int .i64 pn:=by rw [hbb]; dsimp only; (try simp (discharger:=decide) only [Flow.eval_put_ne,Flow.X0y]); rw [Flow.Q0a (by simp only [Flow.size_put]; exact (by decide:262 < 381))]; exact q15
     have fo1:bb.eval (.tmp 264) = .int .i64 rd:=by rw [hbb]; dsimp only; (try simp (discharger:=decide) only [Flow.eval_put_ne,Flow.X0y]); rw [Flow.Q0a (by simp only [Flow.size_put]; exact (by decide:264 < 381))]; exact q17
     clear hbb;refine ⟨_,fun w=>?_,rfl⟩;unfold execOp;simp only [fo0,fo1];clear fo0 fo1;go_simp
    case g19 =>
     as_aux_lemma =>
     intro v w1 hx (q8:v 8 = .bool false) (q13:v 13 = .int .i64 (rn * pd)) (q18:v 18 = .int .i64 (pn * rd));intro bb hbb;refine Flow.Q0g (d:=255) rfl rfl (by rw [hbb]; simp only [size_put]; exact (by decide:255 < 381)) (by rw [hbb]; dsimp only; (try simp (discharger:=decide) only [eval_put_ne]); rw [Q0a (by simp only [size_put]; exact (by decide:255 < 381))]; exact q8) ?_
     have fo0:bb.eval (.tmp 260) = .int .i64 (rn * pd):=by rw [hbb]; dsimp only; (try simp (discharger:=decide) only [Flow.eval_put_ne,Flow.X0y]); rw [Flow.Q0a (by simp only [Flow.size_put]; exact (by decide:260 < 381))]; exact q13
     have fo1:bb.eval (.tmp 265) = .int .i64 (pn * rd):=by rw [hbb]; dsimp only; (try simp (discharger:=decide) only [Flow.eval_put_ne,Flow.X0y]); rw [Flow.Q0a (by simp only [Flow.size_put]; exact (by decide:265 < 381))]; exact q18
     clear hbb;refine ⟨_,fun w=>?_,rfl⟩;unfold execOp;simp only [fo0,fo1];clear fo0 fo1;go_simp
    case g20 =>
     as_aux_lemma =>
     intro v w1 hx (q8:v 8 = .bool false);intro bb hbb;refine Flow.Q0g (d:=255) rfl rfl (by rw [hbb]; simp only [size_put]; exact (by decide:255 < 381)) (by rw [hbb]; dsimp only; (try simp (discharger:=decide) only [eval_put_ne]); rw [Q0a (by simp only [size_put]; exact (by decide:255 < 381))]; exact q8) ?_
     have fo0:bb.eval (.tmp 26) = .pointer (some ⟨g26,0,none⟩):=by rw [hbb]; dsimp only; (try simp (discharger:=decide) only [Flow.eval_put_ne,Flow.X0y]); rfl
     clear hbb;refine ⟨_,fun w=>?_,rfl⟩;unfold execOp;simp only [fo0];clear fo0;go_simp
    case g21 =>
     as_aux_lemma =>
     intro v w1 hx (q8:v 8 = .bool false) (q20:v 20 = .pointer (some ⟨g26,1,none⟩));intro bb hbb;have n0:w1.cell? ⟨g26,1,none⟩ = some (.int .i64 rd):=(K26.out.ext (hdr.trans hx)).cell 1;refine Flow.Q0g (d:=255) rfl rfl (by rw [hbb]; simp only [size_put]; exact (by decide:255 < 381)) (by rw [hbb]; dsimp only; (try simp (discharger:=decide) only [eval_put_ne]); rw [Q0a (by simp only [size_put]; exact (by decide:255 < 381))]; exact q8) ?_
     have fo0:bb.eval (.tmp 267) = .pointer (some ⟨g26,1,none⟩):=by rw [hbb]; dsimp only; (try simp (discharger:=decide) only [Flow.eval_put_ne,Flow.X0y]); rw [Flow.Q0a (by simp only [Flow.size_put]; exact (by decide:267 < 381))]; exact q20
     clear hbb;intro K hK;unfold execOp;simp only [fo0];clear fo0;go_simp;exact hK _ _ (Ext.refl _) rfl
    case g22 =>
     as_aux_lemma =>
     intro v w1 hx (q8:v 8 = .bool false);intro bb hbb;refine Flow.Q0g (d:=255) rfl rfl (by rw [hbb]; simp only [size_put]; exact (by decide:255 < 381)) (by rw [hbb]; dsimp only; (try simp (discharger:=decide) only [eval_put_ne]); rw [Q0a (by simp only [size_put]; exact (by decide:255 < 381))]; exact q8) ?_
     have fo0:bb.eval (.tmp 12) = .pointer (some ⟨g12,0,none⟩):=by rw [hbb]; dsimp only; (try simp (discharger:=decide) only [Flow.eval_put_ne,Flow.X0y]); rfl
     clear hbb;refine ⟨_,fun w=>?_,rfl⟩;unfold execOp;simp only [fo0];clear fo0;go_simp
    case g23 =>
     as_aux_lemma =>
     intro v w1 hx (q8:v 8 = .bool false) (q22:v 22 = .pointer (some ⟨g12,1,none⟩));intro bb hbb;have n0:w1.cell? ⟨g12,1,none⟩ = some (.int .i64 pd):=(K12.out.ext (hdr.trans hx)).cell 1;refine Flow.Q0g (d:=255) rfl rfl (by rw [hbb]; simp only [size_put]; exact (by decide:255 < 381)) (by rw [hbb]; dsimp only; (try simp (discharger:=decide) only [eval_put_ne]); rw [Q0a (by simp only [size_put]; exact (by decide:255 < 381))]; exact q8) ?_
     have fo0:bb.eval (.tmp 269) = .pointer (some ⟨g12,1,none⟩):=by rw [hbb]; dsimp only; (try simp (discharger:=decide) only [Flow.eval_put_ne,Flow.X0y]); rw [Flow.Q0a (by simp only [Flow.size_put]; exact (by decide:269 < 381))]; exact q22
     clear hbb;intro K hK;unfold execOp;simp only [fo0];clear fo0;go_simp;exact hK _ _ (Ext.refl _) rfl
    case g24 =>
     as_aux_lemma =>
     intro v w1 hx (q8:v 8 = .bool false) (q21:v 21 = .int .i64 rd) (q23:v 23 = .int .i64 pd);intro bb hbb;refine Flow.Q0g (d:=255) rfl rfl (by rw [hbb]; simp only [size_put]; exact (by decide:255 < 381)) (by rw [hbb]; dsimp only; (try simp (discharger:=decide) only [eval_put_ne]); rw [Q0a (by simp only [size_put]; exact (by decide:255 < 381))]; exact q8) ?_
     have fo0:bb.eval (.tmp 268) = .int .i64 rd:=by rw [hbb]; dsimp only; (try simp (discharger:=decide) only [Flow.eval_put_ne,Flow.X0y]); rw [Flow.Q0a (by simp only [Flow.size_put]; exact (by decide:268 < 381))]; exact q21
     have fo1:bb.eval (.tmp 270) = .int .i64 pd:=by rw [hbb]; dsimp only; (try simp (discharger:=decide) only [Flow.eval_put_ne,Flow.X0y]); rw [Flow.Q0a (by simp only [Flow.size_put]; exact (by decide:270 < 381))]; exact q23
     clear hbb;refine ⟨_,fun w=>?_,rfl⟩;unfold execOp;simp only [fo0,fo1];clear fo0 fo1;go_simp
    case g25 =>
     as_aux_lemma =>
     intro v w1 hx (q8:v 8 = .bool false) (q19:v 19 = .int .i64 (rn * pd - pn * rd)) (q24:v 24 = .int .i64 (rd * pd));intro bb hbb;refine Flow.Q0g (d:=255) rfl rfl (by rw [hbb]; simp only [size_put]; exact (by decide:255 < 381)) (by rw [hbb]; dsimp only; (try simp (discharger:=decide) only [eval_put_ne]); rw [Q0a (by simp only [size_put]; exact (by decide:255 < 381))]; exact q8) ?_
     subst hbb;intro K hK;go_simp;refine Q0e (HLO1.out w1) ?_;rintro e w2 ⟨rfl,hx2⟩;exact ⟨_,rfl,hK _ _ hx2 rfl⟩
    case g26 =>
     as_aux_lemma =>
     intro v w1 hx (q8:v 8 = .bool false);intro bb hbb;refine Flow.Q0g (d:=255) rfl rfl (by rw [hbb]; simp only [size_put]; exact (by decide:255 < 381)) (by rw [hbb]; dsimp only; (try simp (discharger:=decide) only [eval_put_ne]); rw [Q0a (by simp only [size_put]; exact (by decide:255 < 381))]; exact q8) ?_
     have fo0:bb.eval (.tmp 18) = .pointer (some ⟨g18,0,none⟩):=by rw [hbb]; dsimp only; (try simp (discharger:=decide) only [Flow.eval_put_ne,Flow.X0y]); rfl
     clear hbb;refine ⟨_,fun w=>?_,rfl⟩;unfold execOp;simp only [fo0];clear fo0;go_simp
    case g27 =>
     as_aux_lemma =>
     intro v w1 hx (q8:v 8 = .bool false) (q26:v 26 = .pointer (some ⟨g18,0,none⟩));intro bb hbb;have n0:w1.cell? ⟨g18,0,none⟩ = some (.int .i64 jn):=(K18.out.ext (hdr.trans hx)).cell 0;refine Flow.Q0g (d:=255) rfl rfl (by rw [hbb]; simp only [size_put]; exact (by decide:255 < 381)) (by rw [hbb]; dsimp only; (try simp (discharger:=decide) only [eval_put_ne]); rw [Q0a (by simp only [size_put]; exact (by decide:255 < 381))]; exact q8) ?_
     have fo0:bb.eval (.tmp 273) = .pointer (some ⟨g18,0,none⟩):=by rw [hbb]; dsimp only; (try simp (discharger:=decide) only [Flow.eval_put_ne,Flow.X0y]); rw [Flow.Q0a (by simp only [Flow.size_put]; exact (by decide:273 < 381))]; exact q26
     clear hbb;intro K hK;unfold execOp;simp only [fo0];clear fo0;go_simp;exact hK _ _ (Ext.refl _) rfl
    case g28 =>
     as_aux_lemma =>
     intro v w1 hx (q8:v 8 = .bool false);intro bb hbb;refine Flow.Q0g (d:=255) rfl rfl (by rw [hbb]; simp only [size_put]; exact (by decide:255 < 381)) (by rw [hbb]; dsimp only; (try simp (discharger:=decide) only [eval_put_ne]); rw [Q0a (by simp only [size_put]; exact (by decide:255 < 381))]; exact q8) ?_
     have fo0:bb.eval (.tmp 18) = .pointer (some ⟨g18,0,none⟩):=by rw [hbb]; dsimp only; (try simp (discharger:=decide) only [Flow.eval_put_ne,Flow.X0y]); rfl
     clear hbb;refine ⟨_,fun w=>?_,rfl⟩;unfold execOp;simp only [fo0];clear fo0;go_simp
    case g29 =>
     as_aux_lemma =>
     intro v w1 hx (q8:v 8 = .bool false) (q28:v 28 = .pointer (some ⟨g18,1,none⟩));intro bb hbb;have n0:w1.cell? ⟨g18,1,none⟩ = some (.int .i64 jd):=(K18.out.ext (hdr.trans hx)).cell 1;refine Flow.Q0g (d:=255) rfl rfl (by rw [hbb]; simp only [size_put]; exact (by decide:255 < 381)) (by rw [hbb]; dsimp only; (try simp (discharger:=decide) only [eval_put_ne]); rw [Q0a (by simp only [size_put]; exact (by decide:255 < 381))]; exact q8) ?_
     have fo0:bb.eval (.tmp 275) = .pointer (some ⟨g18,1,none⟩):=by rw [hbb]; dsimp only; (try simp (discharger:=decide) only [Flow.eval_put_ne,Flow.X0y]); rw [Flow.Q0a (by simp only [Flow.size_put]; exact (by decide:275 < 381))]; exact q28
     clear hbb;intro K hK;unfold execOp;simp only [fo0];clear fo0;go_simp;exact hK _ _ (Ext.refl _) rfl
    case g30 =>
     as_aux_lemma =>
     intro v w1 hx (q8:v 8 = .bool false) (q29:v 29 = .int .i64 jd);intro bb hbb;refine Flow.Q0g (d:=255) rfl rfl (by rw [hbb]; simp only [size_put]; exact (by decide:255 < 381)) (by rw [hbb]; dsimp only; (try simp (discharger:=decide) only [eval_put_ne]); rw [Q0a (by simp only [size_put]; exact (by decide:255 < 381))]; exact q8) ?_
     have fo0:bb.eval (.tmp 276) = .int .i64 jd:=by rw [hbb]; dsimp only; (try simp (discharger:=decide) only [Flow.eval_put_ne,Flow.X0y]); rw [Flow.Q0a (by simp only [Flow.size_put]; exact (by decide:276 < 381))]; exact q29
     clear hbb;refine ⟨_,fun w=>?_,rfl⟩;unfold execOp;simp only [fo0];clear fo0;go_simp
    case g31 =>
     as_aux_lemma =>
     intro v w1 hx (q8:v 8 = .bool false) (q25:v 25 = .agg #[.int .i64 zn,.int .i64 zd]) (q27:v 27 = .int .i64 jn) (q30:v 30 = .int .i64 (16 * jd));intro bb hbb;refine Flow.Q0g (d:=255) rfl rfl (by rw [hbb]; simp only [size_put]; exact (by decide:255 < 381)) (by rw [hbb]; dsimp only; (try simp (discharger:=decide) only [eval_put_ne]); rw [Q0a (by simp only [size_put]; exact (by decide:255 < 381))]; exact q8) ?_
     subst hbb;intro K hK;go_simp;refine Q0e (HLO2.out w1) ?_;rintro e w2 ⟨rfl,hx2⟩;exact ⟨_,rfl,hK _ _ hx2 rfl⟩
    case g32 =>
     as_aux_lemma =>
     intro v w1 hx (q8:v 8 = .bool false) (q25:v 25 = .agg #[.int .i64 zn,.int .i64 zd]) (q31:v 31 = .agg #[.int .i64 zn,.int .i64 zd]);intro bb hbb;refine Flow.Q0g (d:=255) rfl rfl (by rw [hbb]; simp only [size_put]; exact (by decide:255 < 381)) (by rw [hbb]; dsimp only; (try simp (discharger:=decide) only [eval_put_ne]); rw [Q0a (by simp only [size_put]; exact (by decide:255 < 381))]; exact q8) ?_
     have fo0:bb.eval (.tmp 272) = .agg #[.int .i64 zn,.int .i64 zd]:=by rw [hbb]; dsimp only; (try simp (discharger:=decide) only [Flow.eval_put_ne,Flow.X0y]); rw [Flow.Q0a (by simp only [Flow.size_put]; exact (by decide:272 < 381))]; exact q25
     have fo1:bb.eval (.tmp 278) = .agg #[.int .i64 zn,.int .i64 zd]:=by rw [hbb]; dsimp only; (try simp (discharger:=decide) only [Flow.eval_put_ne,Flow.X0y]); rw [Flow.Q0a (by simp only [Flow.size_put]; exact (by decide:278 < 381))]; exact q31
     clear hbb;refine ⟨_,fun w=>?_,rfl⟩;unfold execOp;simp only [fo0,fo1];clear fo0 fo1;go_simp
    case g33 =>
     as_aux_lemma =>
     intro v w1 hx (q8:v 8 = .bool false) (q32:v 32 = .bool false);intro bb hbb;have fo0:bb.eval (.tmp 255) = .bool false:=by rw [hbb]; dsimp only; (try simp (discharger:=decide) only [Flow.eval_put_ne,Flow.X0y]); rw [Flow.Q0a (by simp only [Flow.size_put]; exact (by decide:255 < 381))]; exact q8
     have fo1:bb.eval (.tmp 279) = .bool false:=by rw [hbb]; dsimp only; (try simp (discharger:=decide) only [Flow.eval_put_ne,Flow.X0y]); rw [Flow.Q0a (by simp only [Flow.size_put]; exact (by decide:279 < 381))]; exact q32
     clear hbb;refine ⟨_,fun w=>?_,rfl⟩;unfold execOp;simp only [fo0,fo1];clear fo0 fo1;go_simp
   case post =>
    intro v w1 hx (q0:v 0 = .int .i64 0) (q1:v 1 = .bool false) (q2:v 2 = .bool false) (q3:v 3 = .agg #[.int .i64 rn,.int .i64 rd]) (q4:Z7k w1 (v 4) [⟨rn,rd⟩]) (q5:v 5 = .bool true) (q6:v 6 = .bool false) (q7:v 7 = .bool false) (q8:v 8 = .bool false) (q9:v 9 = .pointer (some ⟨g26,0,none⟩)) (q10:v 10 = .int .i64 rn) (q11:v 11 = .pointer (some ⟨g12,1,none⟩)) (q12:v 12 = .int .i64 pd) (q13:v 13 = .int .i64 (rn * pd)) (q14:v 14 = .pointer (some ⟨g12,0,none⟩)) (q15:v 15 = .int .i64 pn) (q16:v 16 = .pointer (some ⟨g26,1,none⟩)) (q17:v 17 = .int .i64 rd) (q18:v 18 = .int .i64 (pn * rd)) (q19:v 19 = .int .i64 (rn * pd - pn * rd)) (q20:v 20 = .pointer (some ⟨g26,1,none⟩)) (q21:v 21 = .int .i64 rd) (q22:v 22 = .pointer (some ⟨g12,1,none⟩)) (q23:v 23 = .int .i64 pd) (q24:v 24 = .int .i64 (rd * pd)) (q25:v 25 = .agg #[.int .i64 zn,.int .i64 zd]) (q26:v 26 = .pointer (some ⟨g18,0,none⟩)) (q27:v 27 = .int .i64 jn) (q28:v 28 = .pointer (some ⟨g18,1,none⟩)) (q29:v 29 = .int .i64 jd) (q30:v 30 = .int .i64 (16 * jd)) (q31:v 31 = .agg #[.int .i64 zn,.int .i64 zd]) (q32:v 32 = .bool false) (q33:v 33 = .bool false);simp only [Flow.All,Flow.acts,Act.put];go_simp;have hxx:=hdr.trans hx;replace HX:=Lib.hid (HX.out.trans hxx);replace HT:=Lib.hid (HT.out.ext hxx);replace K0:=Lib.hid (K0.out.ext hxx);replace K12:=Lib.hid (K12.out.ext hxx);replace K18:=Lib.hid (K18.out.ext hxx);replace HD:=Lib.hid (HD.out.ext hxx);replace K26:=Lib.hid (K26.out.ext hxx);clear hxx hx hdr q0 q1 q2 q3 q4 q5 q6 q7 q8 q9 q10 q11 q12 q13 q14 q15 q16 q17 q18 q19 q20 q21 q22 q23 q24 q25 q26 q27 q28 q29 q30 q31 q32 q33;obtain ⟨w5,rfl⟩:∃ X,X = w1:=⟨_,rfl⟩;go_upto_if 280 with fail
    go_step
    go_step
    go_step
    go_step
    exact J1e W0 w5 t _ _ _ _ _ _ sz _ _ pn pd HE.out HF.out HSZ.out HSS.out HLF.out.rp HP.out HT.out K0.out K12.out (HW0.out.trans HX.out) _ _ _ _ _ _ _ _ _ _ _ _ _ _ _ _ _ _ _ _ _ _ _ _ _ _ _ _ _ _ _ _ _ _ _ _ _ _ _ _ _ _ _ _ _ _ _ _ _ _ _ _ _ _ _ _ _ _ _ _ _ _ _ _ _ _ _ _ _ _ _ _ _ _ _ _ _ _ _ _ _ _ _ _ _ _ _ _ _ _ _ _ _ _ _ _ _ _ _ _ _ _ _ _ _ _ _ _ _ _ _ _ _ _ _ _ _ _ _ _ _ _ _ _ _ _ _ _ _ _ _ _ _ _ _ _ _ _ _ _ _ _ _ _ _ _ _ _ _ _ _ _ _ _ _ _ _ _ _ _ _ _ _ _ _ _ _ _ _ _ _ _ _ _ _ _ _ _ _ _ _ _ _ _ _ _ _ _ _ _ _ _ _ _ _ _ _ _ _ _ _ _ _ _ _ _ _ _ _ _ _ _ _ _ _ _ _ _ _ _ _ _ _ _ _ _ _ _ _ _ _ _ _ _ _ _ _ _ _ _ _ _ _ _ _ _ _ _ _ _ _ _ _ _ _ _ _ _ _ _ _ _ _ _ _ _ _ _ _ _ _ _ _ _ _ _ _ _ _ _ _ _ _ _ _ _ _ _ _ _ _ _ _ _ _ _ _ _ _ _ _ _ _ _ _ _ _ _ _ _ _ _ _ _ _ _ _ _ _ _ _ _ _ _ _ _ _ _ _ _ _ _ _ _ _ _ _ _ _ _ _ _ _ _ _ _ _ _ _ _ _ _ _ _ _ _ _ _ _ _ _ _ _ _ _ _ _ _ _ _ _ _ _ _ _ _ _ _ _
 · skip
   go_upto_if 230 with fail
   go_step
   go_step
   go_step
   go_step
   exact J1e W0 WB t _ _ _ _ _ _ sz _ _ pn pd HE.out HF.out HSZ.out HSS.out HLF.out.rp HP.out HT.out K0.out K12.out (HW0.out.trans HX.out) _ _ _ _ _ _ _ _ _ _ _ _ _ _ _ _ _ _ _ _ _ _ _ _ _ _ _ _ _ _ _ _ _ _ _ _ _ _ _ _ _ _ _ _ _ _ _ _ _ _ _ _ _ _ _ _ _ _ _ _ _ _ _ _ _ _ _ _ _ _ _ _ _ _ _ _ _ _ _ _ _ _ _ _ _ _ _ _ _ _ _ _ _ _ _ _ _ _ _ _ _ _ _ _ _ _ _ _ _ _ _ _ _ _ _ _ _ _ _ _ _ _ _ _ _ _ _ _ _ _ _ _ _ _ _ _ _ _ _ _ _ _ _ _ _ _ _ _ _ _ _ _ _ _ _ _ _ _ _ _ _ _ _ _ _ _ _ _ _ _ _ _ _ _ _ _ _ _ _ _ _ _ _ _ _ _ _ _ _ _ _ _ _ _ _ _ _ _ _ _ _ _ _ _ _ _ _ _ _ _ _ _ _ _ _ _ _ _ _ _ _ _ _ _ _ _ _ _ _ _ _ _ _ _ _ _ _ _ _ _ _ _ _ _ _ _ _ _ _ _ _ _ _ _ _ _ _ _ _ _ _ _ _ _ _ _ _ _ _ _ _ _ _ _ _ _ _ _ _ _ _ _ _ _ _ _ _ _ _ _ _ _ _ _ _ _ _ _ _ _ _ _ _ _ _ _ _ _ _ _ _ _ _ _ _ _ _ _ _ _ _ _ _ _ _ _ _ _ _ _ _ _ _ _ _ _ _ _ _ _ _ _ _ _ _ _ _ _ _ _ _ _ _ _ _ _ _ _ _ _ _ _ _ _ _ _ _ _ _ _ _ _ _ _ _ _ _ _ _
end Go.Proofs
