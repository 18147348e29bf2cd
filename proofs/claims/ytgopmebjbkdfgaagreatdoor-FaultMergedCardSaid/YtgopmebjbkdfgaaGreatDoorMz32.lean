/- Merged trees: they are valid, and fail as both trees do, or as one of them does. Plain law for FaultMerged. The weight and the number of minimal cut sets of a merged tree. Plain law for FaultMerged. -/
import Derived.Test.YtgopmebjbkdfgaaGreatDoorMz29
import Derived.Test.YtgopmebjbkdfgaaGreatDoorMz31
set_option maxRecDepth 1000000
set_option maxHeartbeats 64000000
set_option linter.unusedVariables false
set_option linter.unusedSimpArgs false
set_option linter.constructorNameAsVariable false
namespace Go.Proofs
open Go.Tw
def Y2g (t:Tree) (ev:Nat -> Bool) (x:Nat):Bool:=bx (t.states ev) x
theorem X1z (t:Tree) (ev:Nat -> Bool) {n x:Nat} (hx:x < t.basics.length + n):∀ d,bx (t.Q1w ev (n + d)) x = bx (t.Q1w ev n) x
 | 0=>rfl
 | d + 1=>by
   rw [<- X1z t ev hx d];have l1:=Q5x t ev (n + d);have l2:=Q5x t ev (n + d + 1);rw [show n + (d + 1) = n + d + 1 from rfl,X3n (by rw [l2]; omega),X3n (l:=t.Q1w ev (n + d)) (by omega)]
   simp only [Tree.Q1w];rw [List.getElem_append_left (by omega)]
theorem X3v {t:Tree} {ev:Nat -> Bool} {i:Nat} (hi:i < t.basics.length):Y2g t ev i = t.Q5r ev i:=by
 unfold Y2g Tree.states;have:=X1z t ev (n:=0) (x:=i) (by omega) t.gates.length
 rw [Nat.zero_add] at this;rw [this,X3n (by rw [Q5x]; omega)]
 simp only [Tree.Q1w,Tree.Q7i,List.getElem_map,List.getElem_range]
theorem Y3q {a:List Bool} {f:Nat -> Bool} {l:List Int} (h:∀ x ∈ l,bx a x.toNat = f x.toNat):failing a l = l.countP fun x=>f x.toNat:=by
 unfold failing;exact List.countP_congr fun x hx=>by rw [h x hx]
theorem X3l {t:Tree} (hf:Fit t) (ev:Nat -> Bool) {k:Nat} (hk:k < t.gates.length):Y2g t ev (t.basics.length + k) = decide (Q5c (Q1u t.gates k) (Q2z t.gates k) (Q0j t.gates k).length <= (((Q0j t.gates k).countP fun x=>Y2g t ev x.toNat:Nat):Int)):=by
 have h1:=X1z t ev (n:=k + 1) (x:=t.basics.length + k) (by omega) (t.gates.length - (k + 1))
 rw [show k + 1 + (t.gates.length - (k + 1)) = t.gates.length by omega] at h1
 have l1:=Q5x t ev k;have e:failing (t.Q1w ev k) (Q0j t.gates k) = (Q0j t.gates k).countP fun x=>Y2g t ev x.toNat:=Y3q fun x hx=>by
  have hx':=hf.inp k hk x hx;have h2:=X1z t ev (n:=k) (x:=x.toNat) (by omega) (t.gates.length - k)
  rw [show k + (t.gates.length - k) = t.gates.length by omega] at h2
  exact h2.symm
 rw [<- e];unfold Y2g Tree.states;rw [h1,X3n (by rw [Q5x]; omega)]
 simp only [Tree.Q1w];rw [List.getElem_append_right (by omega)]
 simp only [List.getElem_singleton];rfl
theorem X8p (t:Tree) (ev:Nat -> Bool):t.fails ev = Y2g t ev (t.nodes - 1):=rfl
theorem X0u {α:Type} [Inhabited α] {l m:List α} {k:Nat} (h:k < l.length):(l ++ m).getD k default = l.getD k default:=by
 rw [List.getD_eq_getElem?_getD,List.getD_eq_getElem?_getD,List.getElem?_append_left h]
theorem X1u {α:Type} [Inhabited α] {l m:List α} {k:Nat} (h:l.length <= k):(l ++ m).getD k default = m.getD (k - l.length) default:=by
 rw [List.getD_eq_getElem?_getD,List.getD_eq_getElem?_getD,List.getElem?_append_right h]
theorem X2v {α β:Type} [Inhabited α] [Inhabited β] {f:α -> β} {l:List α} {k:Nat} (h:k < l.length):(l.map f).getD k default = f (l.getD k default):=by
 rw [List.getD_eq_getElem?_getD,List.getD_eq_getElem?_getD,List.getElem?_map,List.getElem?_eq_getElem h];rfl
def eA (a b:Tree) (i:Nat):Nat:=if i < a.basics.length then i else i + b.basics.length
def eB (a b:Tree) (i:Nat):Nat:=if i < b.basics.length then i + a.basics.length else i + a.basics.length + a.causes.length
def nA (a b:Tree) (x:Nat):Nat:=if x < a.basics.length then x else x + b.basics.length
def nB (a b:Tree) (x:Nat):Nat:=if x < b.basics.length then x + a.basics.length else x + a.basics.length + a.gates.length
section
variable {a b:Tree} {kind:ByteArray}
theorem Q9w:(Q0k a b kind).basics.length = a.basics.length + b.basics.length:=List.length_append ..
theorem Z7h:(Q0k a b kind).causes.length = a.causes.length + b.causes.length:=by
 unfold Q0k; rw [List.length_append,List.length_map]
theorem Y3y:(Q0k a b kind).gates.length = a.gates.length + b.gates.length + 1:=by
 unfold Q0k; simp only [List.length_append,List.length_map,List.length_cons,List.length_nil]
theorem m_size:(Q0k a b kind).size = a.size + b.size:=by
 unfold Tree.size; rw [Q9w,Z7h]; omega
theorem J7m {k:Nat} (h:k < a.basics.length):(Q0k a b kind).basics.getD k default = a.basics.getD k default:=X0u h
theorem J7f {k:Nat}:(Q0k a b kind).basics.getD (a.basics.length + k) default = b.basics.getD k default:=by
 refine (X1u (Nat.le_add_right _ _)).trans ?_;rw [Nat.add_sub_cancel_left]
theorem J6f {k:Nat} (h:k < a.causes.length):(Q0k a b kind).causes.getD k default = a.causes.getD k default:=X0u h
theorem J6g {k:Nat} (h:k < b.causes.length):(Q0k a b kind).causes.getD (a.causes.length + k) default = Q3m a.basics.length b.basics.length (b.causes.getD k default):=by
 refine (X1u (Nat.le_add_right _ _)).trans ?_;rw [Nat.add_sub_cancel_left];exact X2v h
theorem J7d {k:Nat} (h:k < a.gates.length):(Q0k a b kind).gates.getD k default = Q2d a.basics.length b.basics.length (a.gates.getD k default):=by
 refine (X0u (by rw [List.length_append,List.length_map]; omega)).trans ?_
 refine (X0u (by rw [List.length_map]; omega)).trans ?_
 exact X2v h
theorem J7c {k:Nat} (h:k < b.gates.length):(Q0k a b kind).gates.getD (a.gates.length + k) default = Q3l a.basics.length b.basics.length a.gates.length (b.gates.getD k default):=by
 refine (X0u (by rw [List.length_append,List.length_map,List.length_map]; omega)).trans ?_
 refine (X1u (by rw [List.length_map]; omega)).trans ?_
 rw [List.length_map,Nat.add_sub_cancel_left];exact X2v h
theorem J7b:(Q0k a b kind).gates.getD (a.gates.length + b.gates.length) default = ⟨kind,0,[Q4z a b - b.gates.length,Q4z a b]⟩:=by
 refine (X1u (by rw [List.length_append,List.length_map,List.length_map]; omega)).trans ?_
 rw [List.length_append,List.length_map,List.length_map,Nat.sub_self];rfl
theorem J3l {x:Int} (h:0 <= x):(Q2r a.basics.length 0 b.basics.length x) = (nA a b x.toNat:Nat):=by
 unfold Q2r nA
 by_cases h1:x < a.basics.length
 . rw [if_pos h1,if_pos (by omega)]; omega
 . rw [if_neg h1,if_neg (by omega)]; omega
theorem J3w {x:Int} (h:0 <= x):(Q2r b.basics.length a.basics.length (a.basics.length + a.gates.length) x) = (nB a b x.toNat:Nat):=by
 unfold Q2r nB
 by_cases h1:x < b.basics.length
 . rw [if_pos h1,if_pos (by omega)]; omega
 . rw [if_neg h1,if_neg (by omega)]; omega
theorem Z5n {f:Int -> Int}:∀ {l:List Int},(∀ x ∈ l,∀ y ∈ l,x < y -> f x < f y) -> X4r l = true -> X4r (l.map f) = true
 | [],_,_=>rfl
 | [_],_,_=>rfl
 | x :: y :: l,h,ha=>by
   have ha2:(decide (x < y) && X4r (y :: l)) = true:=ha;rw [Bool.and_eq_true,decide_eq_true_eq] at ha2;show (decide (f x < f y) && X4r ((y :: l).map f)) = true;rw [Z5n (l:=y :: l) (fun u hu v hv=>h u (List.mem_cons_of_mem _ hu) v (List.mem_cons_of_mem _ hv)) ha2.2,decide_eq_true (h x (List.mem_cons_self ..) y (List.mem_cons_of_mem _ (List.mem_cons_self ..)) ha2.1)];rfl
theorem Y4n {l:List Int} {n:Int} (h:∀ x ∈ l,0 <= x /\ x < n) (ha:X4r l = true):Q1l l n = 0:=by
 unfold Q1l;have e:Z1p l n = false:=by
  unfold Z1p;rw [List.any_eq_false];intro x hx;have:=h x hx;simp only [decide_eq_true_eq];omega
 rw [e,ha]; rfl
theorem X6y {l:List Int} {n n':Int} {f:Int -> Int} (h:Q1x l n = 0) (hb:∀ x,0 <= x -> x < n -> 0 <= f x /\ f x < n') (hm:∀ x y,0 <= x -> x < y -> y < n -> f x < f y):Q1x (l.map f) n' = 0:=by
 obtain ⟨h1,h2⟩:=Q3b h;obtain ⟨h3,h4⟩:=Q2h h2;unfold Q1x;rw [if_neg (by simpa using h1)]
 refine Y4n (fun x hx=>?_) (Z5n (fun x hx y hy hxy=>hm x y (h3 x hx).1 hxy (h3 y hy).2) h4);obtain ⟨y,hy,rfl⟩:=List.mem_map.1 hx;exact hb y (h3 y hy).1 (h3 y hy).2
theorem Z1f {t:Tree} {i:Nat} (h:i < t.size):t.nameAt i ∈ Q4q t:=by
 unfold Tree.size at h;unfold Q4q Tree.nameAt X0m X0z;rw [List.mem_append]
 by_cases h1:i < t.basics.length
 . rw [if_pos h1]
   refine .inl (List.mem_map.2 ⟨t.basics[i],List.getElem_mem h1,?_⟩);unfold bName;rw [getD_at h1]
 . rw [if_neg h1]
   refine .inr (List.mem_map.2 ⟨t.causes[i - t.basics.length]'(by omega),List.getElem_mem _,?_⟩)
   unfold cName;rw [getD_at (by omega)]
theorem X7x (h:Q4g a b = false) {i j:Nat} (hi:i < a.size) (hj:j < b.size):a.nameAt i ≠ b.nameAt j:=by
 intro he;unfold Q4g at h;rw [List.any_eq_false] at h;refine h _ (Z1f hi) ?_;unfold Y6t;rw [List.any_eq_true];exact ⟨_,Z1f hj,str_eq he.symm⟩
theorem X4v {i:Nat} (h:i < a.size):(Q0k a b kind).nameAt (eA a b i) = a.nameAt i /\ (Q0k a b kind).Q0v (eA a b i) = a.Q0v i:=by
 unfold Tree.size at h;unfold Tree.nameAt Tree.Q0v eA bName cName Q1d Q0z;rw [Q9w]
 by_cases h1:i < a.basics.length
 . rw [if_pos h1,if_pos h1,if_pos h1,if_pos (by omega),if_pos (by omega),J7m h1]
   exact ⟨rfl,rfl⟩
 . rw [if_neg h1,if_neg h1,if_neg h1,if_neg (by omega),if_neg (by omega),show i + b.basics.length - (a.basics.length + b.basics.length) = i - a.basics.length by omega,J6f (by omega)]
   exact ⟨rfl,rfl⟩
theorem X5d {i:Nat} (h:i < b.size):(Q0k a b kind).nameAt (eB a b i) = b.nameAt i /\ (Q0k a b kind).Q0v (eB a b i) = b.Q0v i:=by
 unfold Tree.size at h;unfold Tree.nameAt Tree.Q0v eB bName cName Q1d Q0z;rw [Q9w]
 by_cases h1:i < b.basics.length
 . rw [if_pos h1,if_pos h1,if_pos h1,if_pos (by omega),if_pos (by omega),Nat.add_comm i,J7f]
   exact ⟨rfl,rfl⟩
 . rw [if_neg h1,if_neg h1,if_neg h1,if_neg (by omega),if_neg (by omega),show i + a.basics.length + a.causes.length - (a.basics.length + b.basics.length) = a.causes.length + (i - b.basics.length) by omega,J6g (by omega)]
   exact ⟨rfl,rfl⟩
theorem X6w {i:Nat} (h:i < (Q0k a b kind).size):(∃ j,j < a.size /\ i = eA a b j) ∨ ∃ j,j < b.size /\ i = eB a b j:=by
 rw [m_size] at h;unfold Tree.size at h ⊢;unfold eA eB
 by_cases h1:i < a.basics.length
 . exact .inl ⟨i,by omega,by rw [if_pos h1]⟩
 . by_cases h2:i < a.basics.length + b.basics.length
   . exact .inr ⟨i - a.basics.length,by omega,by rw [if_pos (by omega)]; omega⟩
   . by_cases h3:i < a.basics.length + b.basics.length + a.causes.length
     . exact .inl ⟨i - b.basics.length,by omega,by rw [if_neg (by omega)]; omega⟩
     . exact .inr ⟨i - a.basics.length - a.causes.length,by omega,by rw [if_neg (by omega)]; omega⟩
theorem J5f {i:Nat} (h:i < a.size):eA a b i < a.size + b.size:=by
 unfold eA Tree.size at *
 split <;> omega
theorem J5c {i:Nat} (h:i < b.size):eB a b i < a.size + b.size:=by
 unfold eB Tree.size at *
 split <;> omega
theorem J4z {i j:Nat} (hi:i < a.size) (_hj:j < b.size):eA a b i ≠ eB a b j:=by
 unfold eA eB Tree.size at *
 split <;> split <;> omega
theorem J4m {i j:Nat} (h:eA a b i = eA a b j):i = j:=by
 unfold eA at h
 split at h <;> split at h <;> omega
theorem J5i {i j:Nat} (h:eB a b i = eB a b j):i = j:=by
 unfold eB at h
 split at h <;> split at h <;> omega
theorem J6b {i j:Nat} (h:eA a b i < eA a b j):i < j:=by
 unfold eA at h
 split at h <;> split at h <;> omega
theorem J5q {i j:Nat} (h:eB a b i < eB a b j):i < j:=by
 unfold eB at h
 split at h <;> split at h <;> omega
theorem Y0m {t:Tree} {i:Nat}:t.Q7m i = false ↔ ∀ k,k < i -> t.nameAt k ≠ t.nameAt i:=by
 unfold Tree.Q7m;rw [List.any_eq_false]
 constructor
 . intro h k hk he
   exact h k (List.mem_range.2 hk) (str_eq he)
 . intro h k hk he
   exact h k (List.mem_range.1 hk) (ba_eq he)
theorem X2y {t:Tree} {i:Nat} (h:t.Q1b i = 0):∀ k,k < i -> t.nameAt k ≠ t.nameAt i:=by
 unfold Tree.Q1b at h;rw [Q0w] at h;have:=h (if t.Q7m i then 9 else 0) (by simp)
 refine Y0m.1 ?_;cases hb:t.Q7m i with
 | false=>rfl
 | true=>rw [hb] at this; cases this
theorem Q6r {t:Tree} {i:Nat} (h:t.Q1b i = 0):Q3d (t.nameAt i) = 0 /\ Q0p (t.Q0v i) 0 16 = 0 /\ (t.basics.length <= i -> Q1x (Q0e t.causes (i - t.basics.length)) t.basics.length = 0):=by
 unfold Tree.Q1b at h;rw [Q0w] at h;refine ⟨h _ (by simp),h _ (by simp),fun hi=>?_⟩
 have:=h (if i < t.basics.length then 0 else Q1x (Q0e t.causes (i - t.basics.length)) t.basics.length) (by simp)
 rwa [if_neg (by omega)] at this
theorem X6x {t:Tree} {i:Nat} (h1:Q3d (t.nameAt i) = 0) (h2:Q0p (t.Q0v i) 0 16 = 0) (h3:∀ k,k < i -> t.nameAt k ≠ t.nameAt i) (h4:t.basics.length <= i -> Q1x (Q0e t.causes (i - t.basics.length)) t.basics.length = 0):t.Q1b i = 0:=by
 unfold Tree.Q1b;rw [Q0w];intro x hx;simp only [List.mem_cons,List.not_mem_nil,or_false] at hx
 rcases hx with rfl | rfl | rfl | rfl
 . exact h1
 . exact h2
 . rw [Y0m.2 h3]; rfl
 . split
   . rfl
   . exact h4 (by omega)
theorem Y0j {kind:ByteArray} {need:Int} {l:List Int} {n:Int} (h:Q6i kind need l n = 0):Q7j kind = true /\ l.length <= 12 /\ Q1x l n = 0 /\ Q6g kind need l.length = 0:=by
 unfold Q6i at h;rw [Q0w] at h;have h1:=h (if Q7j kind then 0 else 13) (by simp)
 have h2:=h (if 12 < l.length then 5 else 0) (by simp)
 refine ⟨?_,?_,h _ (by simp),h _ (by simp)⟩
 . cases hb:Q7j kind with
   | true=>rfl
   | false=>rw [hb] at h1; cases h1
 . by_cases h3:12 < l.length
   . rw [if_pos h3] at h2; cases h2
   . omega
theorem Y7n {kind:ByteArray} {need:Int} {l:List Int} {n:Int} (h1:Q7j kind = true) (h2:l.length <= 12) (h3:Q1x l n = 0) (h4:Q6g kind need l.length = 0):Q6i kind need l n = 0:=by
 unfold Q6i;rw [Q0w];intro x hx;simp only [List.mem_cons,List.not_mem_nil,or_false] at hx
 rcases hx with rfl | rfl | rfl | rfl
 . rw [h1]; rfl
 . rw [if_neg (by omega)]
 . exact h3
 . exact h4
theorem Z7c (ha:a.err = 0) (hb:b.err = 0) (hk:kind = Q4v ∨ kind = sOr) (ht:Q4g a b = false) (hm:Q8f a b = false):(Q0k a b kind).err = 0:=by
 have va:=Valid.of ha;have vb:=Valid.of hb;unfold Q8f at hm;rw [Bool.or_eq_false_iff,decide_eq_false_iff_not,decide_eq_false_iff_not] at hm;have a1:=va.nb;have b1:=vb.nb;have a2:=va.ng;have b2:=vb.ng;rw [Y8x,m_size,Q9w,Y3y];refine ⟨by omega,by omega,by unfold Tree.size; omega,by omega,fun i hi=>?_,fun i hi=>?_⟩
 . rcases X6w (kind:=kind) (by rw [m_size]; exact hi) with ⟨j,hj,rfl⟩ | ⟨j,hj,rfl⟩
   . obtain ⟨r1,r2,r3⟩:=Q6r (va.event j hj)
     refine X6x (by rw [(X4v hj).1]; exact r1) (by rw [(X4v hj).2]; exact r2) (fun k hkk=>?_) fun hge=>?_
     . rw [(X4v hj).1]
       rcases X6w (kind:=kind) (by rw [m_size]; exact Nat.lt_trans hkk hi) with ⟨j',hj',rfl⟩ | ⟨j',hj',rfl⟩
       . rw [(X4v hj').1]
         exact X2y (va.event j hj) j' (J6b hkk)
       . rw [(X5d hj').1]
         exact fun e=>X7x ht hj hj' e.symm
     . rw [Q9w] at hge ⊢
       unfold eA at hge ⊢;unfold Tree.size at hj;have hge2:a.basics.length <= j:=by
        by_cases h:j < a.basics.length
        . rw [if_pos h] at hge; omega
        . omega
       have r4:=r3 hge2;rw [if_neg (by omega),show j + b.basics.length - (a.basics.length + b.basics.length) = j - a.basics.length by omega]
       unfold Q0e at r4 ⊢;rw [J6f (by omega)]
       have:=X6y (f:=id) (n':=((a.basics.length + b.basics.length:Nat):Int)) r4 (fun x h1 h2=>⟨h1,by show x < _; omega⟩) (fun x y _ h _=>h)
       rwa [List.map_id] at this
   . obtain ⟨r1,r2,r3⟩:=Q6r (vb.event j hj)
     refine X6x (by rw [(X5d hj).1]; exact r1) (by rw [(X5d hj).2]; exact r2) (fun k hkk=>?_) fun hge=>?_
     . rw [(X5d hj).1]
       rcases X6w (kind:=kind) (by rw [m_size]; exact Nat.lt_trans hkk hi) with ⟨j',hj',rfl⟩ | ⟨j',hj',rfl⟩
       . rw [(X4v hj').1]
         exact X7x ht hj' hj
       . rw [(X5d hj').1]
         exact X2y (vb.event j hj) j' (J5q hkk)
     . rw [Q9w] at hge ⊢
       unfold eB at hge ⊢;unfold Tree.size at hj;have hge2:b.basics.length <= j:=by
        by_cases h:j < b.basics.length
        . rw [if_pos h] at hge; omega
        . omega
       have r4:=r3 hge2;rw [if_neg (by omega),show j + a.basics.length + a.causes.length - (a.basics.length + b.basics.length) = a.causes.length + (j - b.basics.length) by omega]
       unfold Q0e at r4 ⊢;rw [J6g (by omega)]
       show Q1x (Q2p _ _ _ _) _ = 0;refine X6y r4 (fun x h1 h2=>?_) (fun x y h1 h2 h3=>?_)
       . unfold Q2r; rw [if_pos h2]; omega
       . unfold Q2r; rw [if_pos h3,if_pos (by omega)]; omega
 . unfold Tree.Q1n Q1u Q2z Q0j
   rw [Q9w]
   by_cases h1:i < a.gates.length
   . rw [J7d h1]
     have hg:=va.gate i h1;unfold Tree.Q1n Q1u Q2z Q0j at hg;obtain ⟨g1,g2,g3,g4⟩:=Y0j hg;refine Y7n g1 (by show (Q2p _ _ _ _).length <= 12; unfold Q2p; rw [List.length_map]; exact g2) (X6y g3 (fun x h1 h2=>?_) (fun x y h1 h2 h3=>?_)) (by show Q6g _ _ (Q2p _ _ _ _).length = 0; unfold Q2p; rw [List.length_map]; exact g4)
     . unfold Q2r; split <;> omega
     . unfold Q2r; split <;> split <;> omega
   . by_cases h2:i < a.gates.length + b.gates.length
     . obtain ⟨k,rfl⟩:∃ k,i = a.gates.length + k:=⟨i - a.gates.length,by omega⟩
       rw [J7c (by omega)]
       have hg:=vb.gate k (by omega)
       unfold Tree.Q1n Q1u Q2z Q0j at hg;obtain ⟨g1,g2,g3,g4⟩:=Y0j hg;refine Y7n g1 (by show (Q2p _ _ _ _).length <= 12; unfold Q2p; rw [List.length_map]; exact g2) (X6y g3 (fun x h1 h2=>?_) (fun x y h1 h2 h3=>?_)) (by show Q6g _ _ (Q2p _ _ _ _).length = 0; unfold Q2p; rw [List.length_map]; exact g4)
       . unfold Q2r; split <;> omega
       . unfold Q2r; split <;> split <;> omega
     . obtain rfl:i = a.gates.length + b.gates.length:=by omega
       rw [J7b];dsimp only;have ek:Q7j kind = true /\ kind ≠ Q5y:=by
        rcases hk with rfl | rfl
        . exact ⟨by decide,fun e=>Y2e e.symm⟩
        . exact ⟨by decide,fun e=>Y5c e.symm⟩
       refine Y7n ek.1 (by show 2 <= 12; decide) ?_ (by unfold Q6g; rw [if_neg ek.2]; decide)
       unfold Q1x;rw [if_neg (by simp)]
       unfold Q4z;refine Y4n (fun x hx=>?_) ?_
       . simp only [List.mem_cons,List.not_mem_nil,or_false] at hx
         rcases hx with rfl | rfl <;> omega
       . show (decide _ && true) = true
         rw [Bool.and_true,decide_eq_true_eq];omega
theorem X0x (p q:Nat) (f:Nat -> Bool):(List.range (p + q)).any f = ((List.range p).any f || (List.range q).any fun k=>f (p + k)):=by
 rw [List.range_add,List.any_append,List.any_map];rfl
theorem J2i (vb:Valid b) {ev:Nat -> Bool} {i:Nat} (hi:i < a.basics.length):(Q0k a b kind).Q5r ev i = a.Q5r (fun j=>ev (eA a b j)) i:=by
 unfold Tree.Q5r;rw [Z7h,Q9w,X0x];have e1:(List.range b.causes.length).any (fun k=>ev (a.basics.length + b.basics.length + (a.causes.length + k)) && has (Q0e (Q0k a b kind).causes (a.causes.length + k)) i) = false:=by
  rw [List.any_eq_false];intro k hk;have hk:=List.mem_range.1 hk;unfold Q0e;rw [J6g hk];have hl:=vb.event (b.basics.length + k) (by unfold Tree.size; omega)
  have hr:=(Q6r hl).2.2 (Nat.le_add_right _ _);rw [Nat.add_sub_cancel_left] at hr;have hin:=(Q2h (Q3b hr).2).1;rw [Bool.and_eq_true,X1b];rintro ⟨_,hm⟩;obtain ⟨y,hy,he⟩:=List.mem_map.1 (show (i:Int) ∈ (Q0e b.causes k).map (Q2r b.basics.length a.basics.length 0) from hm)
  have:=hin y hy;unfold Q2r at he;rw [if_pos this.2] at he;omega
 rw [e1,Bool.or_false];have e2:eA a b i = i:=by unfold eA; rw [if_pos hi]
 congr 1
 . show ev _ = ev _; rw [e2]
 . rw [Bool.eq_iff_iff,List.any_eq_true,List.any_eq_true]
   have key:∀ k,k < a.causes.length -> (ev (a.basics.length + b.basics.length + k) && has (Q0e (Q0k a b kind).causes k) i) = (ev (eA a b (a.basics.length + k)) && has (Q0e a.causes k) i):=fun k hk=>by
    unfold Q0e eA;rw [J6f hk,if_neg (by omega),show a.basics.length + k + b.basics.length = a.basics.length + b.basics.length + k by omega]
   constructor
   . rintro ⟨k,hk,h⟩
     exact ⟨k,hk,by rw [key k (List.mem_range.1 hk)] at h; exact h⟩
   . rintro ⟨k,hk,h⟩
     exact ⟨k,hk,by rw [key k (List.mem_range.1 hk)]; exact h⟩
theorem J2f (va:Valid a) (vb:Valid b) {ev:Nat -> Bool} {i:Nat} (hi:i < b.basics.length):(Q0k a b kind).Q5r ev (a.basics.length + i) = b.Q5r (fun j=>ev (eB a b j)) i:=by
 unfold Tree.Q5r;rw [Z7h,Q9w,X0x];have e1:(List.range a.causes.length).any (fun k=>ev (a.basics.length + b.basics.length + k) && has (Q0e (Q0k a b kind).causes k) ((a.basics.length + i:Nat):Int)) = false:=by
  rw [List.any_eq_false];intro k hk;have hk:=List.mem_range.1 hk;unfold Q0e;rw [J6f hk];have hl:=va.event (a.basics.length + k) (by unfold Tree.size; omega)
  have hr:=(Q6r hl).2.2 (Nat.le_add_right _ _);rw [Nat.add_sub_cancel_left] at hr;have hin:=(Q2h (Q3b hr).2).1;rw [Bool.and_eq_true,X1b];rintro ⟨_,hm⟩;have:=hin _ hm;omega
 rw [e1,Bool.false_or];have e2:eB a b i = a.basics.length + i:=by unfold eB; rw [if_pos hi]; omega
 congr 1
 . show ev _ = ev _; rw [e2]
 . rw [Bool.eq_iff_iff,List.any_eq_true,List.any_eq_true]
   have key:∀ k,k < b.causes.length -> (ev (a.basics.length + b.basics.length + (a.causes.length + k)) && has (Q0e (Q0k a b kind).causes (a.causes.length + k)) ((a.basics.length + i:Nat):Int)) = (ev (eB a b (b.basics.length + k)) && has (Q0e b.causes k) i):=fun k hk=>by
    have hl:=vb.event (b.basics.length + k) (by unfold Tree.size; omega)
    have hr:=(Q6r hl).2.2 (Nat.le_add_right _ _);rw [Nat.add_sub_cancel_left] at hr;have hin:=(Q2h (Q3b hr).2).1;have e3:has (Q0e (Q0k a b kind).causes (a.causes.length + k)) ((a.basics.length + i:Nat):Int) = has (Q0e b.causes k) i:=by
     have e4:Q0e (Q0k a b kind).causes (a.causes.length + k) = (Q0e b.causes k).map (Q2r b.basics.length a.basics.length 0):=by
      unfold Q0e;rw [J6g hk];rfl
     rw [e4,Bool.eq_iff_iff,X1b,X1b,List.mem_map]
     constructor
     . rintro ⟨y,hy,he⟩
       have:=hin y hy;unfold Q2r at he;rw [if_pos this.2] at he;obtain rfl:y = (i:Int):=by omega
       exact hy
     . intro h
       refine ⟨_,h,?_⟩;unfold Q2r;rw [if_pos (by omega)]
       omega
    rw [e3]
    congr 2
    unfold eB;rw [if_neg (by omega)]
    omega
   constructor
   . rintro ⟨k,hk,h⟩
     exact ⟨k,hk,by rw [key k (List.mem_range.1 hk)] at h; exact h⟩
   . rintro ⟨k,hk,h⟩
     exact ⟨k,hk,by rw [key k (List.mem_range.1 hk)]; exact h⟩
theorem X5x {l:List Int} {f:Int -> Int} {p q:Nat -> Bool} (h:∀ x ∈ l,p (f x).toNat = q x.toNat):((l.map f).countP fun x=>p x.toNat) = l.countP fun x=>q x.toNat:=by
 rw [List.countP_map];exact List.countP_congr fun x hx=>by
  show p (f x).toNat = true ↔ _;rw [h x hx]
theorem J6i (va:Valid a) (vb:Valid b) (vm:Valid (Q0k a b kind)) (ev:Nat -> Bool):∀ x,x < a.basics.length + a.gates.length -> Y2g (Q0k a b kind) ev (nA a b x) = Y2g a (fun j=>ev (eA a b j)) x:=by
 intro x
 induction x using Nat.strongRecOn with
 | ind x ih =>
   intro hx
   by_cases h1:x < a.basics.length
   . have e:nA a b x = x:=by unfold nA; rw [if_pos h1]
     rw [e,X3v (by rw [Q9w]; omega),X3v h1]
     exact J2i vb h1
   . obtain ⟨k,rfl⟩:∃ k,x = a.basics.length + k:=⟨x - a.basics.length,by omega⟩
     have hk:k < a.gates.length:=by omega
     have e:nA a b (a.basics.length + k) = (Q0k a b kind).basics.length + k:=by unfold nA; rw [if_neg (by omega),Q9w]; omega
     rw [e,X3l vm.fit ev (by rw [Y3y]; omega),X3l va.fit _ hk]
     have eg:(Q0k a b kind).gates.getD k default = Q2d a.basics.length b.basics.length (a.gates.getD k default):=J7d hk;have hin:=va.fit.inp k hk;unfold Q0j at hin;unfold Q1u Q2z Q0j;rw [eg];have ec:=X5x (l:=(a.gates.getD k default).inputs) (f:=Q2r a.basics.length 0 b.basics.length) (p:=Y2g (Q0k a b kind) ev) (q:=Y2g a fun j=>ev (eA a b j)) fun y hy=>by
      have hy':=hin y hy;rw [J3l hy'.1,Int.toNat_natCast];exact ih _ (by omega) (by omega)
     show decide (Q5c _ _ (Q2p _ _ _ _).length <= ((((Q2p _ _ _ _).countP _:Nat)):Int)) = _;unfold Q2p;rw [List.length_map,ec];rfl
theorem J6n (va:Valid a) (vb:Valid b) (vm:Valid (Q0k a b kind)) (ev:Nat -> Bool):∀ x,x < b.basics.length + b.gates.length -> Y2g (Q0k a b kind) ev (nB a b x) = Y2g b (fun j=>ev (eB a b j)) x:=by
 intro x
 induction x using Nat.strongRecOn with
 | ind x ih =>
   intro hx
   by_cases h1:x < b.basics.length
   . have e:nB a b x = a.basics.length + x:=by unfold nB; rw [if_pos h1]; omega
     rw [e,X3v (by rw [Q9w]; omega),X3v h1]
     exact J2f va vb h1
   . obtain ⟨k,rfl⟩:∃ k,x = b.basics.length + k:=⟨x - b.basics.length,by omega⟩
     have hk:k < b.gates.length:=by omega
     have e:nB a b (b.basics.length + k) = (Q0k a b kind).basics.length + (a.gates.length + k):=by unfold nB; rw [if_neg (by omega),Q9w]; omega
     rw [e,X3l vm.fit ev (by rw [Y3y]; omega),X3l vb.fit _ hk]
     have eg:(Q0k a b kind).gates.getD (a.gates.length + k) default = Q3l a.basics.length b.basics.length a.gates.length (b.gates.getD k default):=J7c hk;have hin:=vb.fit.inp k hk;unfold Q0j at hin;unfold Q1u Q2z Q0j;rw [eg];have ec:=X5x (l:=(b.gates.getD k default).inputs) (f:=Q2r b.basics.length a.basics.length (a.basics.length + a.gates.length)) (p:=Y2g (Q0k a b kind) ev) (q:=Y2g b fun j=>ev (eB a b j)) fun y hy=>by
      have hy':=hin y hy;rw [J3w hy'.1,Int.toNat_natCast];exact ih _ (by omega) (by omega)
     show decide (Q5c _ _ (Q2p _ _ _ _).length <= ((((Q2p _ _ _ _).countP _:Nat)):Int)) = _;unfold Q2p;rw [List.length_map,ec];rfl
theorem Y9a (va:Valid a) (vb:Valid b) (vm:Valid (Q0k a b kind)) (hk:kind = Q4v ∨ kind = sOr) (ev:Nat -> Bool) :
    (Q0k a b kind).fails ev = if kind = Q4v then a.fails (fun j=>ev (eA a b j)) && b.fails (fun j=>ev (eB a b j)) else a.fails (fun j=>ev (eA a b j)) || b.fails (fun j=>ev (eB a b j)):=by
 have a1:=va.nb;have b1:=vb.nb;have a2:=va.ng;have b2:=vb.ng;rw [X8p,X8p,X8p];have e:(Q0k a b kind).nodes - 1 = (Q0k a b kind).basics.length + (a.gates.length + b.gates.length):=by unfold Tree.nodes; rw [Y3y]; omega
 rw [e,X3l vm.fit ev (by rw [Y3y]; omega)]
 unfold Q1u Q2z Q0j;rw [J7b];dsimp only;have hA:=J6i va vb vm ev (a.nodes - 1) (by unfold Tree.nodes; omega)
 have hB:=J6n va vb vm ev (b.nodes - 1) (by unfold Tree.nodes; omega)
 have eA':(Q4z a b - b.gates.length).toNat = nA a b (a.nodes - 1):=by unfold Q4z nA Tree.nodes; rw [if_neg (by omega)]; omega
 have eB':(Q4z a b).toNat = nB a b (b.nodes - 1):=by unfold Q4z nB Tree.nodes; rw [if_neg (by omega)]; omega
 rw [List.countP_cons,List.countP_cons,List.countP_nil,eA',eB',hA,hB];unfold Q5c
 rcases hk with rfl | rfl
 . rw [if_pos rfl,if_pos rfl]
   cases Y2g a (fun j=>ev (eA a b j)) (a.nodes - 1) <;> cases Y2g b (fun j=>ev (eB a b j)) (b.nodes - 1) <;> rfl
 . have hne:¬ sOr = Q4v:=fun e=>X9f e.symm
   rw [if_neg hne,if_pos rfl,if_neg hne];cases Y2g a (fun j=>ev (eA a b j)) (a.nodes - 1) <;> cases Y2g b (fun j=>ev (eB a b j)) (b.nodes - 1) <;> rfl
end
end Go.Proofs
namespace Go.Proofs
open Go.Tw
theorem X8n:∀ n,Q4u (fun _=>0) n = 0
 | 0=>rfl
 | n + 1=>by rw [Q4u,X8n n]; rfl
theorem Y4h (f:Nat -> Nat -> Int) (m:Nat):∀ n,Q4u (fun i=>Q4u (fun j=>f i j) m) n = Q4u (fun j=>Q4u (fun i=>f i j) n) m
 | 0=>(X8n m).symm
 | n + 1=>by
   rw [Q4u,Y4h f m n,<- X4o];rfl
theorem Y1b (f:Nat -> Int) (p:Nat):∀ q,Q4u f (p * q) = Q4u (fun h=>Q4u (fun l=>f (p * h + l)) p) q
 | 0=>rfl
 | q + 1=>by
   rw [Q4u,Nat.mul_succ,Y1z,Y1b f p q]
theorem Q5s (f:Nat -> Int) (p q:Nat):Q4u f (2 ^ (p + q)) = Q4u (fun h=>Q4u (fun l=>f (2 ^ p * h + l)) (2 ^ p)) (2 ^ q):=by
 rw [Nat.pow_add]; exact Y1b f _ _
theorem X4h (f g:Nat -> Int) (m n:Nat):Q4u (fun y=>Q4u (fun x=>f x * g y) m) n = Q4u f m * Q4u g n:=by
 have e:(fun y=>Q4u (fun x=>f x * g y) m) = fun y=>g y * Q4u f m:=by
  funext y
  rw [X0h,Int.mul_comm]
 rw [e,X0h,Int.mul_comm]
theorem Z4r:∀ n,Q4u (fun y=>if y = 0 then 1 else 0) (n + 1) = 1
 | 0=>rfl
 | n + 1=>by
   rw [Q4u,Z4r n,if_neg (by omega)]
   rfl
def Q6m (f:Nat -> Int):Nat -> Int
 | 0=>1
 | n + 1=>Q6m f n * f n
theorem Q5q {f g:Nat -> Int}:∀ n,(∀ i,i < n -> f i = g i) -> Q6m f n = Q6m g n
 | 0,_=>rfl
 | n + 1,h=>by rw [Q6m,Q6m,Q5q n fun i hi=>h i (by omega),h n (by omega)]
theorem Q4s (f:Nat -> Int) (p:Nat):∀ q,Q6m f (p + q) = Q6m f p * Q6m (fun i=>f (p + i)) q
 | 0=>(Int.mul_one _).symm
 | q + 1=>by
   show Q6m f (p + q) * f (p + q) = Q6m f p * (Q6m (fun i=>f (p + i)) q * f (p + q));rw [Q4s f p q,Int.mul_assoc]
theorem Q8o (c:List Int) (s:Nat):∀ n,Q4b c s n = Q6m (factor c s) n
 | 0=>rfl
 | n + 1=>by rw [Q4b,Q6m,Q8o c s n]
section
variable {a b:Tree} {kind:ByteArray}
def X2k (a b:Tree) (x y:Nat):Nat:=2 ^ a.basics.length * (2 ^ b.basics.length * (2 ^ a.causes.length * (y / 2 ^ b.basics.length) + x / 2 ^ a.basics.length) + y % 2 ^ b.basics.length) + x % 2 ^ a.basics.length
theorem Y1e {x y i:Nat} (hx:x < 2 ^ a.size) (hi:i < a.size):(X2k a b x y).testBit (eA a b i) = x.testBit i:=by
 unfold Tree.size at hx hi;have l1:x % 2 ^ a.basics.length < 2 ^ a.basics.length:=Nat.mod_lt _ (Nat.two_pow_pos _);have l2:y % 2 ^ b.basics.length < 2 ^ b.basics.length:=Nat.mod_lt _ (Nat.two_pow_pos _);have l3:x / 2 ^ a.basics.length < 2 ^ a.causes.length:=Nat.div_lt_of_lt_mul (by rw [<- Nat.pow_add]; exact hx)
 unfold X2k eA;rw [Nat.testBit_two_pow_mul_add _ l1]
 by_cases h1:i < a.basics.length
 . rw [if_pos h1,if_pos h1,Nat.testBit_mod_two_pow,decide_eq_true h1,Bool.true_and]
 . rw [if_neg h1,if_neg (by omega),Nat.testBit_two_pow_mul_add _ l2,if_neg (by omega),Nat.testBit_two_pow_mul_add _ l3,if_pos (by omega),Nat.testBit_div_two_pow]
   congr 1
   omega
theorem Y1n {x y i:Nat} (hx:x < 2 ^ a.size) (hi:i < b.size):(X2k a b x y).testBit (eB a b i) = y.testBit i:=by
 unfold Tree.size at hx;have l1:x % 2 ^ a.basics.length < 2 ^ a.basics.length:=Nat.mod_lt _ (Nat.two_pow_pos _);have l2:y % 2 ^ b.basics.length < 2 ^ b.basics.length:=Nat.mod_lt _ (Nat.two_pow_pos _);have l3:x / 2 ^ a.basics.length < 2 ^ a.causes.length:=Nat.div_lt_of_lt_mul (by rw [<- Nat.pow_add]; exact hx)
 have _:=hi;unfold X2k eB;rw [Nat.testBit_two_pow_mul_add _ l1]
 by_cases h1:i < b.basics.length
 . rw [if_pos h1,if_neg (by omega),Nat.testBit_two_pow_mul_add _ l2,if_pos (by omega),Nat.testBit_mod_two_pow,decide_eq_true (by omega),Bool.true_and]
   congr 1
   omega
 . rw [if_neg h1,if_neg (by omega),Nat.testBit_two_pow_mul_add _ l2,if_neg (by omega),Nat.testBit_two_pow_mul_add _ l3,if_neg (by omega),Nat.testBit_div_two_pow]
   congr 1
   omega
theorem X7h (F:Nat -> Int):Q4u F (2 ^ (a.size + b.size)) = Q4u (fun y=>Q4u (fun x=>F (X2k a b x y)) (2 ^ a.size)) (2 ^ b.size):=by
 have e0:a.size + b.size = a.basics.length + (b.basics.length + (a.causes.length + b.causes.length)):=by unfold Tree.size; omega
 have p1:=Nat.two_pow_pos a.basics.length;have p2:=Nat.two_pow_pos b.basics.length;rw [e0,Q5s,Q5s,Q5s];show _ = Q4u _ (2 ^ (b.basics.length + b.causes.length));rw [Q5s];refine Q2e _ fun s4 _=>?_;rw [Y4h];refine Q2e _ fun s2 h2=>?_;show _ = Q4u _ (2 ^ (a.basics.length + a.causes.length));rw [Q5s];refine Q2e _ fun s3 _=>?_;refine Q2e _ fun s1 h1=>?_
 congr 1
 unfold X2k;rw [Nat.mul_add_div p2,Nat.div_eq_of_lt h2,Nat.mul_add_div p1,Nat.div_eq_of_lt h1,Nat.mul_add_mod,Nat.mod_eq_of_lt h2,Nat.mul_add_mod,Nat.mod_eq_of_lt h1];rfl
theorem X6e {t:Tree} {ev ev':Nat -> Bool} (h:∀ i,i < t.size -> ev i = ev' i):∀ n,t.Q1w ev n = t.Q1w ev' n
 | 0=>by
   unfold Tree.Q1w Tree.Q7i;refine List.map_congr_left fun i hi=>?_;have hi:=List.mem_range.1 hi;unfold Tree.size at h;unfold Tree.Q5r;rw [h i (by omega)]
   congr 1
   rw [Bool.eq_iff_iff,List.any_eq_true,List.any_eq_true]
   constructor
   . rintro ⟨k,hk,hh⟩
     exact ⟨k,hk,by rw [h _ (by have:=List.mem_range.1 hk; omega)] at hh; exact hh⟩
   . rintro ⟨k,hk,hh⟩
     exact ⟨k,hk,by rw [h _ (by have:=List.mem_range.1 hk; omega)]; exact hh⟩
 | n + 1=>by rw [Tree.Q1w,Tree.Q1w,X6e h n]
theorem X3c {t:Tree} {ev ev':Nat -> Bool} (h:∀ i,i < t.size -> ev i = ev' i):t.fails ev = t.fails ev':=by
 unfold Tree.fails Tree.states;rw [X6e h]
def X8w (kind:ByteArray) (p q:Bool):Bool:=if kind = Q4v then p && q else p || q
theorem Z0j (p q:Bool):X8w Q4v p q = (p && q):=by unfold X8w; rw [if_pos rfl]
theorem Z7a (p q:Bool):X8w sOr p q = (p || q):=by unfold X8w; rw [if_neg (fun e=>X9f e.symm)]
theorem Z4m (va:Valid a) (vb:Valid b) (vm:Valid (Q0k a b kind)) (hk:kind = Q4v ∨ kind = sOr) {s x y:Nat} (h1:∀ i,i < a.size -> s.testBit (eA a b i) = x.testBit i) (h2:∀ i,i < b.size -> s.testBit (eB a b i) = y.testBit i) :
    Q7o (Q0k a b kind) s = X8w kind (Q7o a x) (Q7o b y):=by
 unfold Q7o;have e1:(a.fails fun j=>evN s (eA a b j)) = a.fails (evN x):=X3c fun i hi=>h1 i hi;have e2:(b.fails fun j=>evN s (eB a b j)) = b.fails (evN y):=X3c fun i hi=>h2 i hi;rw [Y9a va vb vm hk,e1,e2];rfl
theorem Y3s (va:Valid a) (vb:Valid b) (vm:Valid (Q0k a b kind)) (hk:kind = Q4v ∨ kind = sOr) {x y:Nat} (hx:x < 2 ^ a.size):Q7o (Q0k a b kind) (X2k a b x y) = X8w kind (Q7o a x) (Q7o b y) :=
 Z4m va vb vm hk (fun _ hi=>Y1e hx hi) fun _ hi=>Y1n hx hi
theorem Y0y (va:Valid a) (vb:Valid b) (vm:Valid (Q0k a b kind)) (hk:kind = Q4v ∨ kind = sOr) {x y j:Nat} (hx:x < 2 ^ a.size) (hj:j < a.size):Q7o (Q0k a b kind) (Q2j (X2k a b x y) (2 ^ eA a b j)) = X8w kind (Q7o a (Q2j x (2 ^ j))) (Q7o b y):=by
 refine Z4m va vb vm hk (fun i hi=>?_) fun i hi=>?_
 . rw [Q2o,Q2o,Y1e hx hi,Nat.testBit_two_pow,Nat.testBit_two_pow]
   by_cases h:j = i
   . subst h; simp
   . rw [decide_eq_false (fun e=>h (J4m e)),decide_eq_false h]
 . rw [Q2o,Y1n hx hi,Nat.testBit_two_pow,decide_eq_false (J4z hj hi)]
   simp
theorem Y0g (va:Valid a) (vb:Valid b) (vm:Valid (Q0k a b kind)) (hk:kind = Q4v ∨ kind = sOr) {x y j:Nat} (hx:x < 2 ^ a.size) (hj:j < b.size):Q7o (Q0k a b kind) (Q2j (X2k a b x y) (2 ^ eB a b j)) = X8w kind (Q7o a x) (Q7o b (Q2j y (2 ^ j))):=by
 refine Z4m va vb vm hk (fun i hi=>?_) fun i hi=>?_
 . rw [Q2o,Y1e hx hi,Nat.testBit_two_pow,decide_eq_false (fun e=>J4z hi hj e.symm)]
   simp
 . rw [Q2o,Q2o,Y1n hx hi,Nat.testBit_two_pow,Nat.testBit_two_pow]
   by_cases h:j = i
   . subst h; simp
   . rw [decide_eq_false (fun e=>h (J5i e)),decide_eq_false h]
theorem J1n (va:Valid a) (vb:Valid b) (vm:Valid (Q0k a b kind)) (hk:kind = Q4v ∨ kind = sOr) {x y:Nat} (hx:x < 2 ^ a.size):X2u (Q7o (Q0k a b kind)) (Q0k a b kind).size (X2k a b x y) = true ↔
    X8w kind (Q7o a x) (Q7o b y) = true /\ (∀ j,j < a.size -> x.testBit j = true -> X8w kind (Q7o a (Q2j x (2 ^ j))) (Q7o b y) = false) /\ ∀ j,j < b.size -> y.testBit j = true -> X8w kind (Q7o a x) (Q7o b (Q2j y (2 ^ j))) = false:=by
 rw [Q7y,Y3s va vb vm hk hx];refine and_congr_right fun _=>⟨fun h=>⟨fun j hj hb=>?_,fun j hj hb=>?_⟩,fun ⟨h1,h2⟩ i hi hb=>?_⟩
 . rw [<- Y0y va vb vm hk hx hj]
   exact h _ (by rw [m_size]; exact J5f hj) (by rw [Y1e hx hj]; exact hb)
 . rw [<- Y0g va vb vm hk hx hj]
   exact h _ (by rw [m_size]; exact J5c hj) (by rw [Y1n hx hj]; exact hb)
 . rcases X6w hi with ⟨j,hj,rfl⟩ | ⟨j,hj,rfl⟩
   . rw [Y0y va vb vm hk hx hj]
     exact h1 j hj (by rw [Y1e hx hj] at hb; exact hb)
   . rw [Y0g va vb vm hk hx hj]
     exact h2 j hj (by rw [Y1n hx hj] at hb; exact hb)
theorem J2h (va:Valid a) (vb:Valid b) (vm:Valid (Q0k a b Q4v)) {x y:Nat} (hx:x < 2 ^ a.size):X2u (Q7o (Q0k a b Q4v)) (Q0k a b Q4v).size (X2k a b x y) = (X2u (Q7o a) a.size x && X2u (Q7o b) b.size y):=by
 rw [Bool.eq_iff_iff,J1n va vb vm (.inl rfl) hx,Bool.and_eq_true,Q7y,Q7y];simp only [Z0j,Bool.and_eq_true]
 constructor
 . rintro ⟨⟨h1,h2⟩,h3,h4⟩
   refine ⟨⟨h1,fun j hj hb=>?_⟩,h2,fun j hj hb=>?_⟩
   . have:=h3 j hj hb
     rwa [h2,Bool.and_true] at this
   . have:=h4 j hj hb
     rwa [h1,Bool.true_and] at this
 . rintro ⟨⟨h1,h3⟩,h2,h4⟩
   exact ⟨⟨h1,h2⟩,fun j hj hb=>by rw [h3 j hj hb]; rfl,fun j hj hb=>by rw [h4 j hj hb,Bool.and_false]⟩
theorem Z7o {y n:Nat} (hy:y < 2 ^ n) (h:∀ j,j < n -> y.testBit j = false):y = 0:=by
 apply Nat.eq_of_testBit_eq
 intro i;rw [Nat.zero_testBit]
 by_cases hi:i < n
 . exact h i hi
 . exact Nat.testBit_lt_two_pow (Nat.lt_of_lt_of_le hy (Nat.pow_le_pow_right (by omega) (by omega)))
theorem J5g (va:Valid a) (vb:Valid b) (vm:Valid (Q0k a b sOr)) {x y:Nat} (hx:x < 2 ^ a.size) (hy:y < 2 ^ b.size):X2u (Q7o (Q0k a b sOr)) (Q0k a b sOr).size (X2k a b x y) = ((X2u (Q7o a) a.size x && decide (y = 0)) || (decide (x = 0) && X2u (Q7o b) b.size y)):=by
 rw [Bool.eq_iff_iff,J1n va vb vm (.inr rfl) hx,Bool.or_eq_true,Bool.and_eq_true,Bool.and_eq_true,Q7y,Q7y,decide_eq_true_eq,decide_eq_true_eq];simp only [Z7a]
 constructor
 . rintro ⟨h1,h3,h4⟩
   rw [Bool.or_eq_true] at h1
   rcases h1 with h1 | h1
   . have hy0:y = 0:=Z7o hy fun j hj=>by
      cases hb:y.testBit j with
      | false=>rfl
      | true=>have:=h4 j hj hb; rw [h1,Bool.true_or] at this; cases this
     refine .inl ⟨⟨h1,fun j hj hb=>?_⟩,hy0⟩;have:=h3 j hj hb;rw [Bool.or_eq_false_iff] at this;exact this.1
   . have hx0:x = 0:=Z7o hx fun j hj=>by
      cases hb:x.testBit j with
      | false=>rfl
      | true=>have:=h3 j hj hb; rw [h1,Bool.or_true] at this; cases this
     refine .inr ⟨hx0,h1,fun j hj hb=>?_⟩;have:=h4 j hj hb;rw [Bool.or_eq_false_iff] at this;exact this.2
 . rintro (⟨⟨h1,h2⟩,rfl⟩ | ⟨rfl,h1,h2⟩)
   . exact ⟨by rw [h1]; rfl,⟨fun j hj hb=>by rw [h2 j hj hb,X5o vb]; rfl,fun j _ hb=>by rw [Nat.zero_testBit] at hb; cases hb⟩⟩
   . exact ⟨by rw [h1,Bool.or_true],⟨fun j _ hb=>(by rw [Nat.zero_testBit] at hb; cases hb),fun j hj hb=>by rw [h2 j hj hb,X5o va]; rfl⟩⟩
theorem Y0r (p:Nat -> Bool):∀ n,(((List.range n).filter p).length:Int) = Q4u (fun s=>if p s then 1 else 0) n
 | 0=>rfl
 | n + 1=>by
   rw [List.range_succ,List.filter_append,List.length_append,Q4u,<- Y0r p n];cases h:p n <;> simp [h]
theorem Q5b {t:Tree} (hs:t.size <= 12):((t.sets false).length:Int) = Q4u (fun s=>if X2u (Q7o t) t.size s then 1 else 0) (2 ^ t.size):=by
 have e:t.sets false = X1i t false (2 ^ t.size):=rfl;rw [e,(X0l t false _).length_eq,List.length_map,Y0r];refine Q2e _ fun s h=>?_;rw [X8e hs h fun s hs'=>Z5j hs hs']
theorem J1g (va:Valid a) (vb:Valid b) (vm:Valid (Q0k a b Q4v)):((Q0k a b Q4v).sets false).length = (a.sets false).length * (b.sets false).length:=by
 have h:(((Q0k a b Q4v).sets false).length:Int) = (a.sets false).length * (b.sets false).length:=by
  rw [Q5b vm.size,Q5b va.size,Q5b vb.size,<- X4h,m_size,X7h];refine Q2e _ fun y _=>Q2e _ fun x hx=>?_;rw [<- m_size (kind:=Q4v),J2h va vb vm hx];cases X2u (Q7o a) a.size x <;> cases X2u (Q7o b) b.size y <;> rfl
 exact_mod_cast h
theorem min_zero {t:Tree} (hv:Valid t):X2u (Q7o t) t.size 0 = false:=by
 cases h:X2u (Q7o t) t.size 0 with
 | false=>rfl
 | true=>have:=(Q7y.1 h).1; rw [X5o hv] at this; cases this
theorem J3q (va:Valid a) (vb:Valid b) (vm:Valid (Q0k a b sOr)):((Q0k a b sOr).sets false).length = (a.sets false).length + (b.sets false).length:=by
 have one:∀ n:Nat,Q4u (fun y=>if y = 0 then 1 else 0) (2 ^ n) = 1:=fun n=>by
  have:=Nat.two_pow_pos n;obtain ⟨m,hm⟩:∃ m,2 ^ n = m + 1:=⟨2 ^ n - 1,by omega⟩
  rw [hm]; exact Z4r m
 have h:(((Q0k a b sOr).sets false).length:Int) = (a.sets false).length + (b.sets false).length:=by
  have e1:=X4h (fun x=>if X2u (Q7o a) a.size x then 1 else 0) (fun y=>if y = 0 then 1 else 0) (2 ^ a.size) (2 ^ b.size)
  have e2:=X4h (fun x=>if x = 0 then 1 else 0) (fun y=>if X2u (Q7o b) b.size y then 1 else 0) (2 ^ a.size) (2 ^ b.size)
  rw [one,Int.mul_one] at e1;rw [one,Int.one_mul] at e2;rw [Q5b vm.size,Q5b va.size,Q5b vb.size,<- e1,<- e2,<- X4o,m_size,X7h];refine Q2e _ fun y hy=>?_;rw [<- X4o];refine Q2e _ fun x hx=>?_;rw [<- m_size (kind:=sOr),J5g va vb vm hx hy]
  by_cases hx0:x = 0
  . subst hx0
    rw [min_zero va];cases X2u (Q7o b) b.size y <;> simp
  . by_cases hy0:y = 0
    . subst hy0
      rw [min_zero vb];cases X2u (Q7o a) a.size x <;> simp
    . rw [decide_eq_false hx0,decide_eq_false hy0,if_neg hx0,if_neg hy0]
      simp
 exact_mod_cast h
theorem Y4y {x y:Nat} (hx:x < 2 ^ a.size):partOf (Q0k a b kind).Q0b (X2k a b x y) = partOf a.Q0b x * partOf b.Q0b y:=by
 unfold partOf;rw [Q2k,Q2k,Q2k,m_size,Q8o,Q8o,Q8o];have fA:∀ i,i < a.size -> factor (Q0k a b kind).Q0b (X2k a b x y) (eA a b i) = factor a.Q0b x i:=fun i hi=>by
  unfold factor;rw [Y1e hx hi,Q8b (by rw [m_size]; exact J5f hi),Q8b hi,(X4v hi).2]
 have fB:∀ i,i < b.size -> factor (Q0k a b kind).Q0b (X2k a b x y) (eB a b i) = factor b.Q0b y i:=fun i hi=>by
  unfold factor;rw [Y1n hx hi,Q8b (by rw [m_size]; exact J5c hi),Q8b hi,(X5d hi).2]
 generalize factor (Q0k a b kind).Q0b (X2k a b x y) = F at fA fB ⊢;have e0:a.size + b.size = a.basics.length + (b.basics.length + (a.causes.length + b.causes.length)):=by unfold Tree.size; omega
 unfold Tree.size at fA fB;unfold eA at fA;unfold eB at fB;rw [e0,Q4s,Q4s,Q4s];show _ = Q6m _ (a.basics.length + a.causes.length) * Q6m _ (b.basics.length + b.causes.length);rw [Q4s,Q4s];have q1:Q6m F a.basics.length = Q6m (factor a.Q0b x) a.basics.length:=Q5q _ fun i hi=>by
  have:=fA i (by omega)
  rwa [if_pos hi] at this
 have q2:Q6m (fun i=>F (a.basics.length + i)) b.basics.length = Q6m (factor b.Q0b y) b.basics.length:=Q5q _ fun i hi=>by
  have:=fB i (by omega)
  rw [if_pos hi] at this;rw [<- this,Nat.add_comm i]
 have q3:Q6m (fun i=>F (a.basics.length + (b.basics.length + i))) a.causes.length = Q6m (fun i=>factor a.Q0b x (a.basics.length + i)) a.causes.length:=Q5q _ fun i hi=>by
  have:=fA (a.basics.length + i) (by omega)
  rw [if_neg (by omega)] at this
  rw [<- this]
  congr 1
  omega
 have q4:Q6m (fun i=>F (a.basics.length + (b.basics.length + (a.causes.length + i)))) b.causes.length = Q6m (fun i=>factor b.Q0b y (b.basics.length + i)) b.causes.length:=Q5q _ fun i hi=>by
  have:=fB (b.basics.length + i) (by omega)
  rw [if_neg (by omega)] at this
  rw [<- this]
  congr 1
  omega
 rw [q1,q2,q3,q4]
 grind
theorem X1v (t:Tree):t.weight t.Q0b = Q4u (fun s=>if Q7o t s then partOf t.Q0b s else 0) (2 ^ t.size):=by
 unfold Tree.weight;rw [Q8e];rfl
theorem X2w (t:Tree):16 ^ t.size - t.weight t.Q0b = Q4u (fun s=>if Q7o t s then 0 else partOf t.Q0b s) (2 ^ t.size):=by
 have h:=X4o (fun s=>if Q7o t s then partOf t.Q0b s else 0) (fun s=>if Q7o t s then 0 else partOf t.Q0b s) (2 ^ t.size)
 rw [<- X1v] at h;have e:Q4u (fun s=>(if Q7o t s then partOf t.Q0b s else 0) + (if Q7o t s then 0 else partOf t.Q0b s)) (2 ^ t.size) = 16 ^ t.size:=by
  rw [<- X4n t.Q0b t.size];refine Q2e _ fun s _=>?_;unfold partOf;rw [Q2k];cases Q7o t s <;> simp
 rw [e] at h;omega
theorem Z2q (va:Valid a) (vb:Valid b) (vm:Valid (Q0k a b Q4v)):(Q0k a b Q4v).weight (Q0k a b Q4v).Q0b = a.weight a.Q0b * b.weight b.Q0b:=by
 rw [X1v,X1v,X1v,<- X4h,m_size,X7h];refine Q2e _ fun y _=>Q2e _ fun x hx=>?_;rw [Y3s va vb vm (.inl rfl) hx,Y4y hx,Z0j];cases Q7o a x <;> cases Q7o b y <;> simp
theorem Z5r (va:Valid a) (vb:Valid b) (vm:Valid (Q0k a b sOr)):16 ^ (a.size + b.size) - (Q0k a b sOr).weight (Q0k a b sOr).Q0b = (16 ^ a.size - a.weight a.Q0b) * (16 ^ b.size - b.weight b.Q0b):=by
 rw [X2w,X2w,<- m_size (kind:=sOr),X2w,<- X4h,m_size,X7h];refine Q2e _ fun y _=>Q2e _ fun x hx=>?_;rw [Y3s va vb vm (.inr rfl) hx,Y4y hx,Z7a];cases Q7o a x <;> cases Q7o b y <;> simp
end
theorem X4p (n:Nat):(0:Int) < 16 ^ n:=Int.pow_pos (by decide)
theorem Z7z {W V D E:Int} (hD:0 < D) (hE:0 < E):lowest ((lowest W D).num * (lowest V E).num) ((lowest W D).den * (lowest V E).den) = lowest (W * V) (D * E):=by
 have h1:=Q8v W D;have h2:=Q8v V E;have d1:=Q6y (a:=W) hD;have d2:=Q6y (a:=V) hE;refine X1l (Int.mul_pos d1 d2) (Int.mul_pos hD hE) ?_
 grind
theorem Z8z {W V D E M:Int} (hD:0 < D) (hE:0 < E) (hM:D * E - M = (D - W) * (E - V)) :
    lowest ((lowest W D).den * (lowest V E).den - ((lowest W D).den - (lowest W D).num) * ((lowest V E).den - (lowest V E).num)) ((lowest W D).den * (lowest V E).den) = lowest M (D * E):=by
 have h1:=Q8v W D;have h2:=Q8v V E;have d1:=Q6y (a:=W) hD;have d2:=Q6y (a:=V) hE;refine X1l (Int.mul_pos d1 d2) (Int.mul_pos hD hE) ?_
 grind
end Go.Proofs
