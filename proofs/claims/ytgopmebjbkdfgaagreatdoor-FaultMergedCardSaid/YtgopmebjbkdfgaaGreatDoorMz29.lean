/- Setting one event's chance: the weight with it sure is not less than with it out; the share of an event. Plain lists and sums. Minimal sets of a monotone property: each set that has it contains a minimal one, no minimal one contains another one; what this says about the cuts and paths of a tree. Plain law for FaultMonotone. How many sets can stand beside each other without one in another (at most seven events: 35); what all events, and none, do to a valid tree. Plain law for FaultMonotone. The cuts and paths of a tree prove each other complete; with one of them left out they do not. Plain law for FaultMonotone. The dual of a tree without causes fails exactly if the tree does not with the other events. Plain law for FaultDuals. The dual of a tree without causes: it is valid, its dual is the tree, its weight is what is left of the whole, its cuts are the paths. Plain law for FaultDuals. Contract: the reference's CheckMost. The probability is linear in each event's chance; the bound; the next event. Plain law for FaultLinear. Contracts on the way to Merge: mapped(numbers, a closure of three boxes), moved; mapped names; slices.Index, Contains, IndexFunc, ContainsFunc over strings. Contracts: slices.Index, Contains, IndexFunc, ContainsFunc over strings; mapped names; Merge's names. Contracts: mapped(basics, their names), mapped(causes, their names); slices.Concat of two lists of strings; Merge's names. -/
import Derived.Test.YtgopmebjbkdfgaaGreatDoorMz28
import Derived.Test.YtgopmebjbkdfgaaGreatDoorMz15
import Derived.Test.YtgopmebjbkdfgaaGreatDoorMz13
import Derived.Test.YtgopmebjbkdfgaaGreatDoorMz23
import Derived.Test.YtgopmebjbkdfgaaGreatDoorMz27
import Derived.Test.YtgopmebjbkdfgaaGreatDoorMz05
import Derived.Test.YtgopmebjbkdfgaaGreatDoorMz17
import Derived.Test.YtgopmebjbkdfgaaGreatDoorMz14
import Derived.Test.YtgopmebjbkdfgaaGreatDoorMz16
import Derived.Test.YtgopmebjbkdfgaaGreatDoorMz25
import Derived.Test.YtgopmebjbkdfgaaGreatDoorMz24
set_option maxRecDepth 1000000
set_option maxHeartbeats 64000000
set_option linter.unusedVariables false
set_option linter.unusedSimpArgs false
set_option linter.constructorNameAsVariable false
namespace Go.Proofs
open Go.Tw
theorem Z4l {t:Tree} {a b:Nat -> Bool} (h:∀ i,a i = true -> b i = true) (i:Nat) (hi:t.Q5r a i = true):t.Q5r b i = true:=by
 unfold Tree.Q5r at hi ⊢;rw [Bool.or_eq_true] at hi ⊢
 rcases hi with hi | hi
 . exact .inl (h _ hi)
 . refine .inr ?_
   rw [List.any_eq_true] at hi ⊢;obtain ⟨k,hk,hh⟩:=hi;refine ⟨k,hk,?_⟩;rw [Bool.and_eq_true] at hh ⊢;exact ⟨h _ hh.1,hh.2⟩
def LeB (l m:List Bool):Prop:=l.length = m.length /\ ∀ i,bx l i = true -> bx m i = true
theorem Z8h {l:List Bool} {i:Nat} (h:l.length <= i):bx l i = false:=by
 unfold bx;simp [List.getElem?_eq_none h]
theorem X3n {l:List Bool} {i:Nat} (h:i < l.length):bx l i = l[i]:=by
 unfold bx;simp [List.getElem?_eq_getElem h]
theorem LeB.failing {l m:List Bool} (h:LeB l m) (inputs:List Int):failing l inputs <= failing m inputs:=by
 unfold Tw.failing;exact List.countP_mono_left fun x _ hx=>h.2 _ hx
theorem Y5s {t:Tree} {a b:Nat -> Bool} (h:∀ i,a i = true -> b i = true):∀ n,LeB (t.Q1w a n) (t.Q1w b n)
 | 0=>by
   unfold Tree.Q1w Tree.Q7i;refine ⟨by simp,fun i hi=>?_⟩
   rcases Nat.lt_or_ge i t.basics.length with hlt | hge
   . rw [X3n (by simpa using hlt)] at hi ⊢
     simp only [List.getElem_map,List.getElem_range] at hi ⊢;exact Z4l h i hi
   . rw [Z8h (by simpa using hge)] at hi; cases hi
 | n + 1=>by
   have ih:=Y5s (t:=t) h n;unfold Tree.Q1w;refine ⟨by simp [ih.1],fun i hi=>?_⟩
   rcases Nat.lt_or_ge i (t.Q1w a n).length with hlt | hge
   . have e:=ih.2 i
     rw [X3n hlt,X3n (by rw [<- ih.1]; exact hlt)] at e
     rw [X3n (by simp; omega),List.getElem_append_left hlt] at hi
     rw [X3n (by simp; rw [<- ih.1]; omega),List.getElem_append_left (by rw [<- ih.1]; exact hlt)]
     exact e hi
   . rcases Nat.lt_or_ge i ((t.Q1w a n).length + 1) with h2 | h2
     . obtain rfl:i = (t.Q1w a n).length:=by omega
       rw [X3n (by simp),List.getElem_append_right (Nat.le_refl _)] at hi
       rw [X3n (by simp [ih.1]),List.getElem_append_right (by rw [ih.1]; exact Nat.le_refl _)]
       simp only [List.getElem_singleton] at hi ⊢;unfold J0c at hi ⊢;have:=ih.failing (Q0j t.gates n);simp only [decide_eq_true_eq] at hi ⊢;omega
     . rw [Z8h (by simp; omega)] at hi; cases hi
theorem Z1o {t:Tree} {a b:Nat -> Bool} (h:∀ i,a i = true -> b i = true) (hf:t.fails a = true):t.fails b = true :=
 (Y5s h t.gates.length).2 _ hf
def Q4u (f:Nat -> Int):Nat -> Int
 | 0=>0
 | n + 1=>Q4u f n + f n
theorem Q2e {f g:Nat -> Int}:∀ n,(∀ s,s < n -> f s = g s) -> Q4u f n = Q4u g n
 | 0,_=>rfl
 | n + 1,h=>by rw [Q4u,Q4u,Q2e n (fun s hs=>h s (by omega)),h n (by omega)]
theorem Y6w {f g:Nat -> Int}:∀ n,(∀ s,s < n -> f s <= g s) -> Q4u f n <= Q4u g n
 | 0,_=>Int.le_refl _
 | n + 1,h=>by
   have h1:=Y6w n (fun s hs=>h s (by omega))
   have h2:=h n (by omega)
   rw [Q4u,Q4u]; omega
theorem Y1z (f:Nat -> Int) (m:Nat):∀ n,Q4u f (m + n) = Q4u f m + Q4u (fun s=>f (m + s)) n
 | 0=>by simp [Q4u]
 | n + 1=>by rw [<- Nat.add_assoc,Q4u,Y1z f m n,Q4u,Int.add_assoc]
theorem X0h (f:Nat -> Int) (c:Int):∀ n,Q4u (fun s=>f s * c) n = Q4u f n * c
 | 0=>by simp [Q4u]
 | n + 1=>by rw [Q4u,Q4u,X0h f c n,Int.add_mul]
theorem J1z {N s:Nat} (h:s < 2 ^ N):2 ^ N + s = 2 ^ N ||| s:=by
 have:=Nat.two_pow_add_eq_or_of_lt h 1
 rwa [Nat.mul_one] at this
theorem Z7t {c:List Int} {k j:Nat} (hj:j < c.length) (x:Int):ix (Q1m c [(k:Int)] x) j = if j = k then x else ix c j:=by
 rw [Q6o (show j < (Q1m c [(k:Int)] x).length by simp [Q1m]; exact hj)]
 unfold Q1m;simp only [List.getElem_map,List.getElem_range];unfold has
 by_cases h:j = k
 . subst h; simp
 . rw [if_neg h,if_neg]
   simp; omega
theorem Q8e (t:Tree) (c:List Int):∀ n,t.X1w c n = Q4u (fun s=>if t.fails (evN s) then partOf c s else 0) n
 | 0=>rfl
 | n + 1=>by rw [Tree.X1w,Q4u,Q8e t c n]
end Go.Proofs
namespace Go.Proofs
open Go.Tw
def Y8q (a b:Nat):Prop:=∀ i,a.testBit i = true -> b.testBit i = true
theorem Y8q.refl (a:Nat):Y8q a a:=fun _ h=>h
theorem Y8q.trans {a b c:Nat} (h:Y8q a b) (k:Y8q b c):Y8q a c:=fun i hi=>k i (h i hi)
theorem Y8q.clear (a b:Nat):Y8q (Q2j a b) a:=fun i hi=>by rw [Q2o,Bool.and_eq_true] at hi; exact hi.1
def J4f (q:Nat -> Bool):Prop:=∀ a b,Y8q a b -> q a = true -> q b = true
theorem Z4v {n s i:Nat} (hs:s < 2 ^ n) (h:s.testBit i = true):i < n:=by
 apply Nat.lt_of_not_le
 intro hge;rw [Nat.testBit_lt_two_pow (Nat.lt_of_lt_of_le hs (Nat.pow_le_pow_right (by omega) hge))] at h
 cases h
theorem Q7y {q:Nat -> Bool} {n x:Nat}:X2u q n x = true ↔ q x = true /\ ∀ i,i < n -> x.testBit i = true -> q (Q2j x (2 ^ i)) = false:=by
 unfold X2u;rw [Bool.and_eq_true,List.all_eq_true];refine and_congr_right fun _=>⟨fun h i hi hb=>?_,fun h i hi=>?_⟩
 . have:=h i (List.mem_range.2 hi)
   rw [hb,Bool.true_and] at this
   simpa using this
 . have hi:=List.mem_range.1 hi
   cases hb:x.testBit i with
   | false=>rfl
   | true=>rw [h i hi hb]; rfl
theorem Z0h {q:Nat -> Bool} (hm:J4f q) {n a b:Nat} (hb:b < 2 ^ n) (ha:q a = true) (hmin:X2u q n b = true) (h:Y8q a b):a = b:=by
 apply Nat.eq_of_testBit_eq
 intro i;cases hi:a.testBit i with
 | true=>exact (h i hi).symm
 | false =>
   cases hbi:b.testBit i with
   | false=>rfl
   | true =>
     have hin:=Z4v hb hbi;have:=(Q7y.1 hmin).2 i hin hbi;have h2:Y8q a (Q2j b (2 ^ i)):=fun j hj=>by
      rw [Q2o,Nat.testBit_two_pow,h j hj,Bool.true_and]
      by_cases e:i = j
      . subst e; rw [hi] at hj; cases hj
      . simp [e]
     rw [hm _ _ h2 ha] at this;cases this
def Q7o (t:Tree) (s:Nat):Bool:=t.fails (evN s)
def J0a (t:Tree) (s:Nat):Bool:=!t.fails (evN (Q4i t s))
theorem Z4t (t:Tree):J4f (Q7o t):=fun a b h ha=>Z1o (fun i hi=>h i hi) ha
theorem Y9b (t:Tree) (s i:Nat):(Q4i t s).testBit i = (decide (i < t.size) && !s.testBit i):=by
 unfold Q4i;rw [Q2o,Nat.testBit_two_pow_sub_one]
theorem Z2k (t:Tree):J4f (J0a t):=fun a b h ha=>by
 unfold J0a at ha ⊢;cases hb:t.fails (evN (Q4i t b)) with
 | false=>rfl
 | true =>
   have:t.fails (evN (Q4i t a)) = true:=Z1o (fun i hi=>by
    unfold evN at hi ⊢;rw [Y9b,Bool.and_eq_true] at hi ⊢;refine ⟨hi.1,?_⟩;cases ha':a.testBit i with
    | false=>rfl
    | true=>rw [h i ha'] at hi; exact absurd hi.2 (by decide)) hb
   rw [this] at ha;cases ha
theorem Z5j {t:Tree} (hs:t.size <= 12) {s:Nat} (h:s < 2 ^ t.size):Q7o t s = t.setB (bitsOf s) false:=Y8c hs h
theorem J0l {t:Tree} (hs:t.size <= 12) {s:Nat} (h:s < 2 ^ t.size):J0a t s = t.setB (bitsOf s) true:=Z0g hs h
theorem J1i {t:Tree} (hs:t.size <= 12) {p:Bool} {q:Nat -> Bool} (hq:∀ s,s < 2 ^ t.size -> q s = t.setB (bitsOf s) p) (l:List Int):l ∈ t.sets p ↔ ∃ s,s < 2 ^ t.size /\ X2u q t.size s = true /\ l = bitsOf s:=by
 have e:t.sets p = X1i t p (2 ^ t.size):=rfl;rw [e,(X0l t p _).mem_iff,List.mem_map]
 constructor
 . rintro ⟨s,h,rfl⟩
   obtain ⟨h1,h2⟩:=List.mem_filter.1 h;have h1:=List.mem_range.1 h1;exact ⟨s,h1,by rw [X8e hs h1 hq]; exact h2,rfl⟩
 . rintro ⟨s,h1,h2,rfl⟩
   refine ⟨s,List.mem_filter.2 ⟨List.mem_range.2 h1,?_⟩,rfl⟩;show t.Q6z (bitsOf s) p = true;rw [<- X8e hs h1 hq];exact h2
end Go.Proofs
namespace Go.Proofs
open Go.Tw
def Z9h:List Nat:=[0,0,1,0,2,2,1,0,3,3,4,3,5,2,1,0,6,6,7,6,8,8,7,6,9,9,4,3,5,2,1,0,10,10,11,10,12,12,11,10,13,13,14,13,15,12,11,10,16,16,17,16,18,8,7,6,19,9,4,3,5,2,1,0,20,20,21,20,22,22,21,20,23,23,24,23,25,22,21,20,26,26,27,26,28,28,27,26,29,29,24,23,25,22,21,20,30,30,31,30,32,32,31,30,33,33,14,13,15,12,11,10,34,34,17,16,18,8,7,6,19,9,4,3,5,2,1,0]
def chainOf (s:Nat):Nat:=Z9h.getD s 0
theorem J0i:∀ s,s < 128 -> chainOf s < 35:=by
 have h:((List.range 128).all fun s=>decide (chainOf s < 35)) = true:=by decide +kernel
 intro s hs
 simpa using List.all_eq_true.1 h s (List.mem_range.2 hs)
theorem Z8e:∀ a,a < 128 -> ∀ b,b < 128 -> chainOf a = chainOf b -> a &&& b = a ∨ a &&& b = b:=by
 have h:((List.range 128).all fun a=>(List.range 128).all fun b=>!(chainOf a == chainOf b) || (a &&& b == a || a &&& b == b)) = true:=by decide +kernel
 intro a ha b hb he;have h2:=List.all_eq_true.1 (List.all_eq_true.1 h a (List.mem_range.2 ha)) b (List.mem_range.2 hb);rw [he] at h2
 simpa using h2
theorem Y8q.J1q {a b:Nat} (h:a &&& b = a):Y8q a b:=fun i hi=>by
 rw [<- h,Nat.testBit_and,Bool.and_eq_true] at hi;exact hi.2
theorem X3a:∀ (n:Nat) (l:List Nat),l.Nodup -> (∀ x ∈ l,x < n) -> l.length <= n
 | 0,l,_,h=>by
   cases l with
   | nil=>exact Nat.le_refl _
   | cons x l=>exact absurd (h x (List.mem_cons_self ..)) (by omega)
 | n + 1,l,hn,h=>by
   have h2:=X3a n (l.erase n) (hn.erase n) (fun x hx=>by
    have h3:=(hn.mem_erase_iff).1 hx;have:=h x h3.2;omega)
   by_cases hm:n ∈ l
   . rw [List.length_erase_of_mem hm] at h2; omega
   . rw [List.erase_of_not_mem hm] at h2; omega
theorem Y4k {α β:Type} {f:α -> β}:∀ {l:List α},l.Nodup -> (∀ a ∈ l,∀ b ∈ l,f a = f b -> a = b) -> (l.map f).Nodup
 | [],_,_=>List.nodup_nil
 | x :: l,hn,h=>by
   rw [List.nodup_cons] at hn;rw [List.map_cons,List.nodup_cons];refine ⟨fun hm=>?_,Y4k hn.2 fun a ha b hb=>h a (List.mem_cons_of_mem _ ha) b (List.mem_cons_of_mem _ hb)⟩;obtain ⟨y,hy,he⟩:=List.mem_map.1 hm;have:=h x (List.mem_cons_self ..) y (List.mem_cons_of_mem _ hy) he.symm;subst this;exact hn.1 hy
theorem Z7d {q:Nat -> Bool} (hm:J4f q) {n:Nat} (hn:n <= 7):((List.range (2 ^ n)).filter fun s=>X2u q n s).length <= 35:=by
 have h7:2 ^ n <= 128:=Nat.le_trans (Nat.pow_le_pow_right (n:=2) (by omega) hn) (by decide)
 rw [<- List.length_map (f:=chainOf)];refine X3a 35 _ (Y4k (List.nodup_range.filter _) fun a ha b hb he=>?_) fun x hx=>?_
 . obtain ⟨a1,a2⟩:=List.mem_filter.1 ha
   obtain ⟨b1,b2⟩:=List.mem_filter.1 hb;have a1:=List.mem_range.1 a1;have b1:=List.mem_range.1 b1
   rcases Z8e a (by omega) b (by omega) he with h | h
   . exact Z0h hm b1 (Q7y.1 a2).1 b2 (Y8q.J1q h)
   . exact (Z0h hm a1 (Q7y.1 b2).1 a2 (Y8q.J1q (by rw [Nat.and_comm]; exact h))).symm
 . obtain ⟨s,hs,rfl⟩:=List.mem_map.1 hx
   exact J0i s (by have:=List.mem_range.1 (List.mem_filter.1 hs).1; omega)
theorem Z3d {t:Tree} (hs:t.size <= 7) {p:Bool} {q:Nat -> Bool} (hm:J4f q) (hq:∀ s,s < 2 ^ t.size -> q s = t.setB (bitsOf s) p):(t.sets p).length <= 35:=by
 have e:t.sets p = X1i t p (2 ^ t.size):=rfl;rw [e,(X0l t p _).length_eq,List.length_map];have e2:((List.range (2 ^ t.size)).filter fun s=>t.Q6z (bitsOf s) p) = (List.range (2 ^ t.size)).filter fun s=>X2u q t.size s:=by
  apply List.filter_congr
  intro s h;exact (X8e (by omega) (List.mem_range.1 h) hq).symm
 rw [e2];exact Z7d hm hs
theorem ba_eq {a b:ByteArray} (h:(a == b) = true):a = b:=Y3e h
theorem Z3a {t:Tree} (hv:Valid t) {k:Nat} (hk:k < t.gates.length):1 <= Q5c (Q1u t.gates k) (Q2z t.gates k) (Q0j t.gates k).length /\ Q5c (Q1u t.gates k) (Q2z t.gates k) (Q0j t.gates k).length <= (Q0j t.gates k).length:=by
 have hl:1 <= (Q0j t.gates k).length:=by
  have:=(Q3b (hv.inputs hk)).1;cases h:Q0j t.gates k with
  | nil=>exact absurd h this
  | cons x l=>simp
 have hkd:=hv.kind hk;have hg:=hv.gate k hk;unfold Tree.Q1n Q6i at hg;rw [Q0w] at hg;have hnd:=hg (Q6g (Q1u t.gates k) (Q2z t.gates k) (Q0j t.gates k).length) (by simp)
 unfold Q5c
 by_cases h1:Q1u t.gates k = Q4v
 . rw [if_pos h1]; omega
 . rw [if_neg h1]
   by_cases h2:Q1u t.gates k = sOr
   . rw [if_pos h2]; omega
   . rw [if_neg h2]
     have h3:Q1u t.gates k = Q5y:=by
      unfold Q7j at hkd;simp only [Bool.or_eq_true] at hkd
      rcases hkd with (h | h) | h
      . exact absurd (ba_eq h) h1
      . exact absurd (ba_eq h) h2
      . exact ba_eq h
     unfold Q6g at hnd;rw [if_pos h3] at hnd;unfold Q0p at hnd
     split at hnd
     . cases hnd
     . omega
theorem X9h {t:Tree} (hv:Valid t) {ev:Nat -> Bool} {b:Bool} (h:∀ i,i < t.basics.length -> t.Q5r ev i = b):∀ n,n <= t.gates.length -> ∀ i,i < t.basics.length + n -> bx (t.Q1w ev n) i = b
 | 0,_,i,hi=>by
   rw [X3n (by rw [Q5x]; exact hi)]
   simp only [Tree.Q1w,Tree.Q7i,List.getElem_map,List.getElem_range];exact h i (by omega)
 | n + 1,hn,i,hi=>by
   have ih:=X9h hv h n (by omega)
   have hl:=Q5x t ev n;rw [X3n (by rw [Q5x]; omega)]
   simp only [Tree.Q1w]
   rcases Nat.lt_or_ge i (t.Q1w ev n).length with hlt | hge
   . rw [List.getElem_append_left hlt,<- X3n hlt]
     exact ih i (by omega)
   . rw [List.getElem_append_right hge]
     simp only [List.getElem_singleton];have hin:=(Q2h (Q3b (hv.inputs (show n < t.gates.length by omega))).2).1
     have hr:=Z3a hv (show n < t.gates.length by omega)
     have hall:∀ x ∈ Q0j t.gates n,bx (t.Q1w ev n) x.toNat = b:=fun x hx=>ih _ (by have:=hin x hx; omega)
     unfold J0c;have hf:failing (t.Q1w ev n) (Q0j t.gates n) = if b then (Q0j t.gates n).length else 0:=by
      unfold failing;cases b with
      | true=>exact List.countP_eq_length.2 hall
      | false=>exact List.countP_eq_zero.2 fun x hx=>by rw [hall x hx]; decide
     rw [hf];cases b with
     | true=>simp only [if_true,decide_eq_true_eq]; exact hr.2
     | false=>simp only [Bool.false_eq_true,if_false,decide_eq_false_iff_not]; omega
theorem Y8r {t:Tree} (hv:Valid t) {ev:Nat -> Bool} {b:Bool} (h:∀ i,i < t.basics.length -> t.Q5r ev i = b):t.fails ev = b:=by
 have:=hv.nb;have:=hv.ng;exact X9h hv h t.gates.length (Nat.le_refl _) _ (by unfold Tree.nodes; omega)
theorem X5o {t:Tree} (hv:Valid t):Q7o t 0 = false :=
 Y8r hv fun i hi=>by
  unfold Tree.Q5r evN;simp
end Go.Proofs
namespace Go.Proofs
open Go.Tw
theorem Z2u {s:Nat} {x:Int}:x ∈ bitsOf s ↔ ∃ i:Nat,i < 16 /\ s.testBit i = true /\ x = (i:Int):=by
 unfold bitsOf;simp only [List.mem_map,List.mem_filter,List.mem_range]
 constructor
 . rintro ⟨i,⟨h1,h2⟩,rfl⟩; exact ⟨i,h1,h2,rfl⟩
 . rintro ⟨i,h1,h2,rfl⟩; exact ⟨i,⟨h1,h2⟩,rfl⟩
end Go.Proofs
namespace Go.Proofs
open Go.Tw
theorem X9f:Q4v ≠ sOr:=by intro h; exact absurd (congrArg ByteArray.size h) (by decide)
theorem Y5c:Q5y ≠ sOr:=by intro h; exact absurd (congrArg ByteArray.size h) (by decide)
theorem Y2e:Q5y ≠ Q4v:=by intro h; exact absurd (congrArg (fun s=>s.data[0]?) h) (by decide)
end Go.Proofs
namespace Go.Proofs
open Go.Tw
theorem Y8x {t:Tree}:t.err = 0 ↔ (1 <= t.basics.length /\ 1 <= t.gates.length /\ t.size <= 12 /\ t.gates.length <= 32 /\ (∀ i,i < t.size -> t.Q1b i = 0) /\ ∀ i,i < t.gates.length -> t.Q1n i = 0):=by
 constructor
 . intro h
   have hv:=Valid.of h;exact ⟨hv.nb,hv.ng,hv.size,hv.ng',hv.event,hv.gate⟩
 . rintro ⟨h1,h2,h3,h4,h5,h6⟩
   unfold Tree.err;rw [if_neg (by omega),if_neg (by omega),Q0w]
   intro x hx
   rcases List.mem_append.1 hx with hx | hx
   . obtain ⟨i,hi,rfl⟩:=List.mem_map.1 hx
     exact h5 i (List.mem_range.1 hi)
   . obtain ⟨i,hi,rfl⟩:=List.mem_map.1 hx
     exact h6 i (List.mem_range.1 hi)
theorem X4o (f g:Nat -> Int):∀ n,Q4u (fun s=>f s + g s) n = Q4u f n + Q4u g n
 | 0=>rfl
 | n + 1=>by rw [Q4u,Q4u,Q4u,X4o f g n]; omega
theorem Y5p (c:List Int) {N s:Nat} (hs:s < 2 ^ N):∀ j,j <= N -> Q4b c (2 ^ N + s) j = Q4b c s j
 | 0,_=>rfl
 | j + 1,h=>by
   rw [Q4b,Q4b,Y5p c hs j (by omega)]
   congr 1
   unfold factor;rw [J1z hs,Nat.testBit_or,Nat.testBit_two_pow,decide_eq_false (show ¬ N = j by omega),Bool.false_or]
theorem X4n (c:List Int):∀ n,Q4u (fun s=>Q4b c s n) (2 ^ n) = 16 ^ n
 | 0=>rfl
 | n + 1=>by
   have e:2 ^ (n + 1) = 2 ^ n + 2 ^ n:=by rw [Nat.pow_succ]; omega
   rw [e,Y1z];have h1:Q4u (fun s=>Q4b c s (n + 1)) (2 ^ n) = 16 ^ n * (16 - ix c n):=by
    rw [<- X4n c n,<- X0h];refine Q2e _ fun s hs=>?_;show Q4b c s n * factor c s n = _;unfold factor;rw [Nat.testBit_lt_two_pow hs]; rfl
   have h2:Q4u (fun s=>Q4b c (2 ^ n + s) (n + 1)) (2 ^ n) = 16 ^ n * ix c n:=by
    rw [<- X4n c n,<- X0h];refine Q2e _ fun s hs=>?_;show Q4b c (2 ^ n + s) n * factor c (2 ^ n + s) n = _;rw [Y5p c hs n (Nat.le_refl _)];unfold factor;rw [J1z hs,Nat.testBit_or,Nat.testBit_two_pow,decide_eq_true rfl,Bool.true_or,if_pos rfl]
   rw [h1,h2,Int.pow_succ,<- Int.mul_add]
   congr 1
   omega
theorem Y8j {a b:Int} {n:Nat} (h0:0 <= a) (h1:a <= b) (hb:b = 16 ^ n):0 <= (lowest a b).num /\ (lowest a b).num <= b /\ 1 <= (lowest a b).den /\ (lowest a b).den <= b /\ (lowest a b).num <= (lowest a b).den:=by
 have hb1:1 <= b:=by rw [hb]; exact Int.pow_pos (by decide)
 have hg:1 <= (Int.gcd a b:Int):=by
  have:=Int.gcd_pos_of_ne_zero_right a (show b ≠ 0 by omega)
  omega
 unfold lowest;dsimp only;have hd:=Int.gcd_dvd_right a b;refine ⟨Int.ediv_nonneg h0 (by omega),?_,?_,Int.ediv_le_self _ (by omega),Int.ediv_le_ediv (by omega) h1⟩
 . exact Int.le_trans (Int.ediv_le_self _ h0) h1
 . obtain ⟨k,hk⟩:=hd
   have e:b / (Int.gcd a b:Int) = k:=by
    rw [show b / (Int.gcd a b:Int) = ((Int.gcd a b:Int) * k) / (Int.gcd a b:Int) by rw [<- hk],Int.mul_ediv_cancel_left _ (by omega)]
   rw [e]
   rcases Int.lt_or_le 0 k with h | h
   . omega
   . have:(Int.gcd a b:Int) * k <= 0:=Int.mul_nonpos_of_nonneg_of_nonpos (by omega) h
     omega
end Go.Proofs
namespace Go.Proofs
open Go.RowKit Go.Tw Go.Flow
theorem Q8b {t:Tree} {k:Nat} (hk:k < t.size):ix t.Q0b k = t.Q0v k:=by
 rw [Q6o (by rw [Q2k]; exact hk)]
 unfold Tree.Q0b;simp
end Go.Proofs
namespace Go.Proofs
open Go.Tw
theorem X1g {a b k:Int} (hk:0 < k):lowest (a * k) (b * k) = lowest a b:=by
 unfold lowest;rw [Int.gcd_mul_right,Int.natCast_mul,Int.natAbs_of_nonneg (by omega:0 <= k),Int.mul_ediv_mul_of_pos_left _ _ hk,Int.mul_ediv_mul_of_pos_left _ _ hk]
theorem X1l {a b c d:Int} (hb:0 < b) (hd:0 < d) (h:a * d = c * b):lowest a b = lowest c d:=by
 rw [<- X1g (a:=a) (b:=b) hd,h,Int.mul_comm b d,X1g hb]
theorem Q8v (a b:Int):(lowest a b).num * b = a * (lowest a b).den:=by
 unfold lowest;dsimp only;have h1:=Int.ediv_mul_cancel (Int.gcd_dvd_left a b);have h2:=Int.ediv_mul_cancel (Int.gcd_dvd_right a b);generalize (Int.gcd a b:Int) = g at *;generalize a / g = x at *;generalize b / g = y at *;rw [<- h1,<- h2,Int.mul_assoc,Int.mul_comm g y]
theorem Q6y {a b:Int} (hb:0 < b):0 < (lowest a b).den:=by
 have h:=Int.ediv_mul_cancel (Int.gcd_dvd_right a b);unfold lowest;dsimp only
 rcases Int.lt_or_le 0 (b / (Int.gcd a b:Int)) with h1 | h1
 . exact h1
 . have:=Int.mul_nonpos_of_nonpos_of_nonneg h1 (show 0 <= (Int.gcd a b:Int) by omega)
   omega
theorem X9o {c:List Int} (h:Small c) (s:Nat):0 <= partOf c s:=(X9a h s _ (Nat.le_refl _)).1
theorem Y2m {t:Tree} {c:List Int} (h:Small c) (hl:c.length = t.size):0 <= t.weight c /\ t.weight c <= 16 ^ t.size:=by
 unfold Tree.weight;rw [Q8e]
 constructor
 . have:=Y6w (f:=fun _=>0) (g:=fun s=>if t.fails (evN s) then partOf c s else 0) (2 ^ t.size) fun s _=>by
    show 0 <= if t.fails (evN s) then partOf c s else 0
    split
    . exact X9o h s
    . exact Int.le_refl _
   have e:∀ n,Q4u (fun _=>0) n = 0:=fun n=>by induction n with | zero=>rfl | succ n ih=>rw [Q4u,ih]; rfl
   rw [e] at this;exact this
 . rw [<- X4n c t.size]
   refine Y6w _ fun s _=>?_;show (if t.fails (evN s) then partOf c s else 0) <= Q4b c s t.size
   have h1:=X9o h s;unfold partOf at h1 ⊢;rw [hl] at h1 ⊢
   split
   . exact Int.le_refl _
   . exact h1
end Go.Proofs
namespace Go.Proofs
open Go.RowKit Go.Tw Go.Flow
def Q2r (basics events gates x:Int):Int:=if x < basics then x + events else x + gates
def Q2p (basics events gates:Int) (l:List Int):List Int:=l.map (Q2r basics events gates)
theorem Z6j (f:Int -> Int) (l:List Int) {k:Nat} (hk:k < l.length):(l.map f).take k ++ [f (ix l k)] = (l.map f).take (k + 1):=by
 rw [List.take_succ_eq_append_getElem (by simpa using hk),Q6o hk]
 simp
theorem Y4v (w:World) (v:Value) (l:List Int) (g:Nat) (c1 c2 c3:Value) (f:Int -> Int) (hv:Q0f w v l) (hle:l.length <= 4096) (eg:∀ args w,(callFunc g args).run Tryz.prog w = .ok (.enter g args) w)
    (hf:∀ W x,Ext w W -> x ∈ l -> Calls Tryz.prog g #[.int .i64 x,c1,c2,c3] W fun e W'=>e = .returned (.int .i64 (f x)) /\ Ext W W') :
    Calls Tryz.prog 112 #[v,.func (.func g) #[] #[c1,c2,c3]] w fun e w'=>∃ x,e = .returned x /\ Q0t w' w.heap.size 3 (.int .i64) x (l.map f) /\ Ext w w':=by
 obtain ⟨i0,hi,hz0,hz1,hz2⟩:=info_parts Tryz.info3;obtain ⟨A,cap,rfl,hl,hcap,hc⟩:=hv.opened;have HC:=Lib.hid hc;have HF:=Lib.hid hf;clear hv hc hf;go_enter Tryz.func112,Tryz.ntmps112;go_wp2
 go_loopw [5,10] (fun o i wr=>∃ (k:Nat),k <= l.length /\ i = .int .i64 k /\ Q0t wr w.heap.size 3 (.int .i64) o ((l.map f).take k) /\ Ext w wr) (fun _ i _=>l.length - (intOf i).toNat)
 case atStart=>exact ⟨0,Nat.zero_le _,rfl,Q0t.nil _ _ _ _,Ext.refl _⟩
 case round =>
  obtain ⟨k,hk,rfl,hown,hx⟩:=hrel;have hlen:((l.map f).take k).length = k:=by rw [List.length_take,List.length_map]; omega
  by_cases hlt:k < l.length
  . obtain ⟨b,off,rfl,hcell⟩:=HC.out k hlt
    have HTK:=Lib.hid (Z6j f l hlt);have HFS:=Lib.hid (HF.out wr (ix l k) hx (by rw [Q6o hlt]; exact List.getElem_mem hlt))
    obtain ⟨s,hs⟩:∃ s,ix l k = s:=⟨_,rfl⟩;rw [hs] at hcell HTK HFS;obtain ⟨y,hy⟩:∃ y,f s = y:=⟨_,rfl⟩;rw [hy] at HFS HTK;replace hcell:=hx.cell hcell;have hll:((l.map f).take k).length <= 4096:=by omega
    have HOWN:=Lib.hid hown;clear hs hlen hy hown;go_wp2_with (first | (refine HFS.out.mono ?_; rintro e w9 ⟨rfl,hx9⟩; have hown9:=HOWN.out.below hx9; have hx99:=hx.trans hx9) | (at_builtin; refine wpList_append_own _ rfl _ _ 40 rfl (w.heap.size) 3 i0 (.int .i64 0) 1 8 Tryz.underlying40 hi hz0 hz1 hz2 rfl (by decide) _ _ _ rfl (World.ownsRow.alloc hown9 _) ⟨w9.heap.size,0,none⟩ 1 1 [.int .i64 y] rfl rfl ?_ ?_ ?_ ?_ ?_ ?_; exact Q8d _ _ _; (focus (simp [Value.oneCell'])); (focus (unfold maxLen; omega)); (focus omega); (focus (have:=hx99.size; simp at this ⊢; omega)); intro v' w1 hown' hgrow _))
    have hx':=Q4f hx99 hown9 (Nat.le_refl _) hgrow;go_wp2;go_roundw
    case rel=>exact ⟨k + 1,by omega,by go_num,by rw [<- HTK.out]; exact Q0t.snoc hown',hx'⟩
    case measure=>simp [intOf]; omega
  . have HE:Hid ((l.map f).take k = l.map f):=Lib.hid (by rw [List.take_of_length_le (by rw [List.length_map]; omega)])
    rw [HE.out] at hown;have HOWN:=Lib.hid hown;clear hown hlen;go_wp2;go_ret;exact ⟨_,rfl,HOWN.out,hx⟩
theorem Z2z (W:World) (x b e g:Int) (B1 B2 B3:Nat) (hx:0 <= x /\ x < 1000) (he:0 <= e /\ e < 1000) (hg:0 <= g /\ g < 1000)
    (h1:W.cell? ⟨B1,0,none⟩ = some (.int .i64 b)) (h2:W.cell? ⟨B2,0,none⟩ = some (.int .i64 e)) (h3:W.cell? ⟨B3,0,none⟩ = some (.int .i64 g)) :
    Calls Tryz.prog 113 #[.int .i64 x,.pointer (some ⟨B1,0,none⟩),.pointer (some ⟨B2,0,none⟩),.pointer (some ⟨B3,0,none⟩)] W fun e' W'=>e' = .returned (.int .i64 (Q2r b e g x)) /\ Ext W W':=by
 obtain ⟨hx0,hx1⟩:=hx;obtain ⟨he0,he1⟩:=he;obtain ⟨hg0,hg1⟩:=hg
 by_cases hlt:x < b
 . have HM:Hid (Q2r b e g x = x + e):=Lib.hid (by unfold Q2r; rw [if_pos hlt])
   go_enter Tryz.func113,Tryz.ntmps113;go_wp2;go_ret;exact ⟨by rw [HM.out]; rfl,Ext.refl _⟩
 . have HM:Hid (Q2r b e g x = x + g):=Lib.hid (by unfold Q2r; rw [if_neg hlt])
   go_enter Tryz.func113,Tryz.ntmps113;go_wp2;go_ret;exact ⟨by rw [HM.out]; rfl,Ext.refl _⟩
theorem X9n (w:World) (v:Value) (l:List Int) (b e g:Int) (hv:Q0f w v l) (hle:l.length <= 4096) (hm:∀ x ∈ l,0 <= x /\ x < 1000) (he:0 <= e /\ e < 1000) (hg:0 <= g /\ g < 1000) :
    Calls Tryz.prog 62 #[v,.int .i64 b,.int .i64 e,.int .i64 g] w fun e' w'=>∃ x,e' = .returned x /\ Q0t w' w.heap.size 3 (.int .i64) x (Q2p b e g l) /\ Ext w w':=by
 obtain ⟨A,cap,rfl,_,_,_⟩:=hv.opened;have HV:=Lib.hid hv;have HM:=Lib.hid hm;have HE:=Lib.hid he;have HG:=Lib.hid hg;clear hv hm he hg;go_enter Tryz.func62,Tryz.ntmps62;go_wp2_with fail;change Calls _ _ _ (((w.alloc (.cells #[.int .i64 b] 3)).alloc (.cells #[.int .i64 e] 3)).alloc (.cells #[.int .i64 g] 3)) _;obtain ⟨W,hWW,k0,k1,k2,HXW,eW⟩:=X6a w 3 #[.int .i64 b] 3 #[.int .i64 e] 3 #[.int .i64 g];rw [hWW];clear hWW;have K0:=Lib.hid k0;have K1:=Lib.hid k1;have K2:=Lib.hid k2;have HS:Hid (w.heap.size <= W.heap.size):=Lib.hid (by omega)
 clear k0 k1 k2 eW;refine (Y4v W _ l 113 _ _ _ (Q2r b e g) (HV.out.ext HXW.out) hle (enters_of Tryz.func113 (by kernel_rfl) rfl) (fun W' x hx hm=>Z2z W' x b e g _ _ _ (HM.out x hm) HE.out HG.out ((K0.out.ext hx).cell 0) ((K1.out.ext hx).cell 0) ((K2.out.ext hx).cell 0))).mono ?_
 rintro e' w1 ⟨x,rfl,ho,hx1⟩;have HO:Hid (Q0t w1 w.heap.size 3 (.int .i64) x (Q2p b e g l)):=Lib.hid (ho.weaken HS.out);have HX1:=Lib.hid hx1;clear ho hx1;go_wp2;go_ret;exact ⟨_,rfl,HO.out,HXW.out.trans HX1.out⟩
end Go.Proofs
namespace Go.Proofs
open Go.RowKit Go.Tw Go.Flow
theorem Y6v (w:World) (v:Value) (l:List ByteArray) (s:ByteArray) (hv:Q2x w v l) :
    Calls Tryz.prog 111 #[v,.string s] w fun e w'=>∃ r:Int,e = .returned (.int .i64 r) /\ decide (0 <= r) = Y6t l s /\ w = w':=by
 obtain ⟨A,cap,rfl,hl,hcap,hc⟩:=hv.opened;clear hv;go_enter Tryz.func111,Tryz.ntmps111;go_wp2
 go_loop [8] (fun i=>∃ k:Nat,k <= l.length /\ i = .int .i64 k /\ Y6t (l.drop k) s = Y6t l s) (fun i=>l.length - (intOf i).toNat)
 case atStart=>exact ⟨0,Nat.zero_le _,rfl,rfl⟩
 case round =>
  obtain ⟨k,hk,rfl,hr⟩:=hrel;have HR:=Lib.hid hr; clear hr
  by_cases hlt:k < l.length
  . obtain ⟨b,off,rfl,hcell⟩:=hc k hlt
    have HD:=Lib.hid (Y8v hlt);obtain ⟨y,hy⟩:∃ y,sx l k = y:=⟨_,rfl⟩;rw [hy] at hcell HD;clear hc hy
    by_cases hx:y = s
    . have HX:=Lib.hid (str_eq hx)
      have hx1:=toList_eq rfl hx.symm;clear hx;go_wp2;go_ret;exact ⟨k,rfl,by rw [<- HR.out,HD.out,X3q,HX.out,Bool.true_or]; simp,rfl⟩
    . have HX:=Lib.hid (Q4n hx)
      have hx1:=Q7f rfl (fun e=>hx e.symm);clear hx;go_wp2;go_round
      case rel=>exact ⟨k + 1,by omega,by go_num,by rw [<- HR.out,HD.out,X3q,HX.out,Bool.false_or]⟩
      case measure=>simp [intOf]; omega
  . clear hc
    go_wp2;go_ret;exact ⟨-1,rfl,by rw [<- HR.out,List.drop_eq_nil_of_le (by omega)]; rfl,rfl⟩
theorem X9w (w:World) (v:Value) (l:List ByteArray) (s:ByteArray) (hv:Q2x w v l) :
    Calls Tryz.prog 61 #[v,.string s] w fun e w'=>e = .returned (.bool (Y6t l s)) /\ w = w':=by
 obtain ⟨A,cap,rfl,hl,hcap,hc⟩:=hv.opened;have HV:=Lib.hid hv;clear hv hc;go_enter Tryz.func61,Tryz.ntmps61;go_wp2_with (go_at_call 111; refine (Y6v _ _ l s HV.out).mono ?_; rintro e w' ⟨r,rfl,hr,rfl⟩; have HR:=Lib.hid hr; clear hr);go_ret;exact ⟨Q1j HR.out,rfl⟩
theorem Y6o (w:World) (v:Value) (l:List ByteArray) (g:Nat) (c:Value) (p:ByteArray -> Bool) (hv:Q2x w v l) (eg:∀ args w,(callFunc g args).run Tryz.prog w = .ok (.enter g args) w)
    (hp:∀ W x,Ext w W -> x ∈ l -> Calls Tryz.prog g #[.string x,c] W fun e W'=>e = .returned (.bool (p x)) /\ Ext W W') :
    Calls Tryz.prog 110 #[v,.func (.func g) #[] #[c]] w fun e w'=>∃ r:Int,e = .returned (.int .i64 r) /\ decide (0 <= r) = l.any p /\ Ext w w':=by
 obtain ⟨A,cap,rfl,hl,hcap,hc⟩:=hv.opened;have HP:=Lib.hid hp;have HC:=Lib.hid hc;clear hv hp hc;go_enter Tryz.func110,Tryz.ntmps110;go_wp2
 go_loopw [8] (fun i wr=>∃ k:Nat,k <= l.length /\ i = .int .i64 k /\ (l.drop k).any p = l.any p /\ Ext w wr) (fun i _=>l.length - (intOf i).toNat)
 case atStart=>exact ⟨0,Nat.zero_le _,rfl,rfl,Ext.refl _⟩
 case round =>
  obtain ⟨k,hk,rfl,hr,hx⟩:=hrel;have HR:=Lib.hid hr; clear hr
  by_cases hlt:k < l.length
  . obtain ⟨b,off,rfl,hcell⟩:=HC.out k hlt
    replace hcell:=hx.cell hcell;have hmem:sx l k ∈ l:=by rw [J1k hlt]; exact List.getElem_mem hlt
    have hd:=Y8v hlt;have HST:Hid (l.any p = (p (sx l k) || (l.drop (k + 1)).any p)):=Lib.hid (by rw [<- HR.out,hd,List.any_cons])
    obtain ⟨y,hy⟩:∃ y,sx l k = y:=⟨_,rfl⟩;have HPY:=Lib.hid (HP.out wr (sx l k) hx hmem);rw [hy] at HPY hcell HST;obtain ⟨q,hq⟩:∃ q,p y = q:=⟨_,rfl⟩;rw [hq] at HPY HST;clear hq hy hd hmem;cases q with
    | true =>
      go_wp2_with (refine HPY.out.mono ?_; rintro e w9 ⟨rfl,hx9⟩);go_ret;exact ⟨k,rfl,by rw [HST.out]; simp,hx.trans hx9⟩
    | false =>
      go_wp2_with (refine HPY.out.mono ?_; rintro e w9 ⟨rfl,hx9⟩);go_roundw
      case rel=>exact ⟨k + 1,by omega,by go_num,by rw [HST.out,Bool.false_or],hx.trans hx9⟩
      case measure=>simp [intOf]; omega
  . go_wp2
    go_ret;exact ⟨-1,rfl,by rw [<- HR.out,List.drop_eq_nil_of_le (by omega)]; rfl,hx⟩
theorem X8u (w:World) (v:Value) (l:List ByteArray) (g:Nat) (c:Value) (p:ByteArray -> Bool) (hv:Q2x w v l) (eg:∀ args w,(callFunc g args).run Tryz.prog w = .ok (.enter g args) w)
    (hp:∀ W x,Ext w W -> x ∈ l -> Calls Tryz.prog g #[.string x,c] W fun e W'=>e = .returned (.bool (p x)) /\ Ext W W') :
    Calls Tryz.prog 59 #[v,.func (.func g) #[] #[c]] w fun e w'=>e = .returned (.bool (l.any p)) /\ Ext w w':=by
 obtain ⟨A,cap,rfl,hl,hcap,hc⟩:=hv.opened;have HV:=Lib.hid hv;have HP:=Lib.hid hp;clear hv hc hp;go_enter Tryz.func59,Tryz.ntmps59;go_wp2_with (refine (Y6o _ _ l g c p HV.out eg HP.out).mono ?_; rintro e w' ⟨r,rfl,hr,hx⟩; have HR:=Lib.hid hr; clear hr);go_ret;exact ⟨Q1j HR.out,hx⟩
theorem Z3f (W:World) (s:ByteArray) (B:Nat) (v:Value) (l:List ByteArray) (hB:W.cell? ⟨B,0,none⟩ = some v) (hv:Q2x W v l) :
    Calls Tryz.prog 60 #[.string s,.pointer (some ⟨B,0,none⟩)] W fun e W'=>e = .returned (.bool (Y6t l s)) /\ Ext W W':=by
 obtain ⟨A,cap,rfl,hl,hcap,hc⟩:=hv.opened;have HV:=Lib.hid hv;clear hv hc;go_enter Tryz.func60,Tryz.ntmps60;go_wp2_with (go_at_call 61; refine (X9w _ _ l s HV.out).mono ?_; rintro e w' ⟨rfl,rfl⟩);go_ret;exact ⟨rfl,Ext.refl _⟩
end Go.Proofs
namespace Go.Proofs
open Go.RowKit Go.Tw Go.Flow
theorem Y7q (w:World) (nm:ByteArray) (ch:Int) :
    Calls Tryz.prog 54 #[.agg #[.string nm,.int .i64 ch]] w fun e w'=>e = .returned (.string nm) /\ Ext w w':=by
 have hk:=Blk.made w 103 #[.string nm,.int .i64 ch];have hx1:=Ext.box w (.cells #[.string nm,.int .i64 ch] 103);have c0:=hk.cell 0;simp only [Go.Tw.gA,Go.Tw.gB] at c0;clear hk;go_enter Tryz.func54,Tryz.ntmps54;go_wp2;go_ret;exact ⟨rfl,hx1⟩
theorem Z2a (l:List Basic) {k:Nat} (hk:k < l.length):(l.map fun x=>x.name).take k ++ [bName l k] = (l.map fun x=>x.name).take (k + 1):=by
 rw [List.take_succ_eq_append_getElem (by simpa using hk)]
 unfold bName;rw [getD_at hk];simp
theorem Y5a (w:World) (v:Value) (l:List Basic) (hv:Q2l w v l) (hle:l.length <= 1000) :
    Calls Tryz.prog 53 #[v,.func (.func 54) #[] #[]] w fun e w'=>∃ x,e = .returned x /\ Q0t w' w.heap.size 9 .string x (l.map fun x=>x.name) /\ Ext w w':=by
 obtain ⟨i0,hi,hz0,hz1,hz2⟩:=info_parts Tryz.X3b;obtain ⟨A,cap,rfl,hl,hcap,hc⟩:=hv.opened;have HC:=Lib.hid hc;clear hv hc;go_enter Tryz.func53,Tryz.ntmps53;go_wp2
 go_loopw [5,10] (fun o i wr=>∃ (k:Nat),k <= l.length /\ i = .int .i64 k /\ Q0t wr w.heap.size 9 .string o ((l.map fun x=>x.name).take k) /\ Ext w wr) (fun _ i _=>l.length - (intOf i).toNat)
 case atStart=>exact ⟨0,Nat.zero_le _,rfl,Q0t.nil _ _ _ _,Ext.refl _⟩
 case round =>
  obtain ⟨k,hk,rfl,hown,hx⟩:=hrel;have hlen:((l.map fun x=>x.name).take k).length = k:=by rw [List.length_take,List.length_map]; omega
  by_cases hlt:k < l.length
  . obtain ⟨b,off,rfl,hbw,e0,e1,hsh⟩:=HC.out k hlt
    have HTK:=Lib.hid (Z2a l hlt);obtain ⟨nm,hnm⟩:∃ s,bName l k = s:=⟨_,rfl⟩;rw [hnm] at e0 HTK;replace e0:=hx.cell e0;replace e1:=hx.cell e1;have hll:((l.map fun x=>x.name).take k).length <= 4096:=by omega
    clear hlen hnm hsh;go_wp2_with fail;refine (Y7q _ _ _).mono ?_;rintro e w9 ⟨rfl,hx9⟩;have hbx:=(Ext.box wr (.cells #[.string nm,.int .i64 (Q1d l k)] 103)).trans hx9;have hown2:=hown.below hbx;have hxx:=hx.trans hbx;clear e0 e1 hown hbx hx9;go_wp2_with (at_builtin; refine wpList_append_own _ rfl _ _ 72 rfl (w.heap.size) 9 i0 (.string emp) 1 16 Tryz.underlying72 hi hz0 hz1 hz2 rfl (by decide) _ _ _ rfl (World.ownsRow.alloc hown2 _) ⟨w9.heap.size,0,none⟩ 1 1 [.string nm] rfl rfl ?_ ?_ ?_ ?_ ?_ ?_; exact Q8d _ _ _; (focus (simp [Value.oneCell'])); (focus (unfold maxLen; omega)); (focus omega); (focus (have:=hxx.size; simp at this ⊢; omega)); intro v' w1 hown' hgrow _)
    have hx':=Q4f hxx hown2 (Nat.le_refl _) hgrow;go_wp2;go_roundw
    case rel=>exact ⟨k + 1,by omega,by go_num,by rw [<- HTK.out]; exact Q0t.snoc hown',hx'⟩
    case measure=>simp [intOf]; omega
  . have HE:Hid ((l.map fun x=>x.name).take k = l.map fun x=>x.name):=Lib.hid (by rw [List.take_of_length_le (by rw [List.length_map]; omega)])
    rw [HE.out] at hown;have HOWN:=Lib.hid hown;clear hown hlen;go_wp2;go_ret;exact ⟨_,rfl,HOWN.out,hx⟩
theorem Y7g (w:World) (nm:ByteArray) (ch:Int) (A:Option Addr) (n c:Nat) :
    Calls Tryz.prog 56 #[.agg #[.string nm,.int .i64 ch,.slice A n c]] w fun e w'=>e = .returned (.string nm) /\ Ext w w':=by
 have hk:=Blk.made w 106 #[.string nm,.int .i64 ch,.slice A n c];have hx1:=Ext.box w (.cells #[.string nm,.int .i64 ch,.slice A n c] 106);have c0:=hk.cell 0;simp only [Go.Tw.gA,Go.Tw.gB] at c0;clear hk;go_enter Tryz.func56,Tryz.ntmps56;go_wp2;go_ret;exact ⟨rfl,hx1⟩
theorem Z4a (l:List Q6p) {k:Nat} (hk:k < l.length):(l.map fun x=>x.name).take k ++ [cName l k] = (l.map fun x=>x.name).take (k + 1):=by
 rw [List.take_succ_eq_append_getElem (by simpa using hk)]
 unfold cName;rw [getD_at hk];simp
theorem Y6g (w:World) (v:Value) (l:List Q6p) (hv:Q3i w v l) (hle:l.length <= 1000) :
    Calls Tryz.prog 55 #[v,.func (.func 56) #[] #[]] w fun e w'=>∃ x,e = .returned x /\ Q0t w' w.heap.size 9 .string x (l.map fun x=>x.name) /\ Ext w w':=by
 obtain ⟨i0,hi,hz0,hz1,hz2⟩:=info_parts Tryz.X3b;obtain ⟨A,cap,rfl,hl,hcap,hc⟩:=hv.opened;have HC:=Lib.hid hc;clear hv hc;go_enter Tryz.func55,Tryz.ntmps55;go_wp2
 go_loopw [5,10] (fun o i wr=>∃ (k:Nat),k <= l.length /\ i = .int .i64 k /\ Q0t wr w.heap.size 9 .string o ((l.map fun x=>x.name).take k) /\ Ext w wr) (fun _ i _=>l.length - (intOf i).toNat)
 case atStart=>exact ⟨0,Nat.zero_le _,rfl,Q0t.nil _ _ _ _,Ext.refl _⟩
 case round =>
  obtain ⟨k,hk,rfl,hown,hx⟩:=hrel;have hlen:((l.map fun x=>x.name).take k).length = k:=by rw [List.length_take,List.length_map]; omega
  by_cases hlt:k < l.length
  . obtain ⟨b,off,m,rfl,hbw,e0,e1,e2,hmm,hsh⟩:=HC.out k hlt
    have HTK:=Lib.hid (Z4a l hlt);obtain ⟨nm,hnm⟩:∃ s,cName l k = s:=⟨_,rfl⟩;rw [hnm] at e0 HTK;replace e0:=hx.cell e0;replace e1:=hx.cell e1;obtain ⟨Am,cm,rfl,_,_,_⟩:=hmm.opened;replace e2:=hx.cell e2;clear hmm;have hll:((l.map fun x=>x.name).take k).length <= 4096:=by omega
    clear hlen hnm hsh;go_wp2_with fail;refine (Y7g _ _ _ _ _ _).mono ?_;rintro e w9 ⟨rfl,hx9⟩;have hbx:=(Ext.box wr (.cells #[.string nm,.int .i64 (Q0z l k),.slice Am (Q0e l k).length cm] 106)).trans hx9;have hown2:=hown.below hbx;have hxx:=hx.trans hbx;clear e0 e1 e2 hown hbx hx9;go_wp2_with (at_builtin; refine wpList_append_own _ rfl _ _ 72 rfl (w.heap.size) 9 i0 (.string emp) 1 16 Tryz.underlying72 hi hz0 hz1 hz2 rfl (by decide) _ _ _ rfl (World.ownsRow.alloc hown2 _) ⟨w9.heap.size,0,none⟩ 1 1 [.string nm] rfl rfl ?_ ?_ ?_ ?_ ?_ ?_; exact Q8d _ _ _; (focus (simp [Value.oneCell'])); (focus (unfold maxLen; omega)); (focus omega); (focus (have:=hxx.size; simp at this ⊢; omega)); intro v' w1 hown' hgrow _)
    have hx':=Q4f hxx hown2 (Nat.le_refl _) hgrow;go_wp2;go_roundw
    case rel=>exact ⟨k + 1,by omega,by go_num,by rw [<- HTK.out]; exact Q0t.snoc hown',hx'⟩
    case measure=>simp [intOf]; omega
  . have HE:Hid ((l.map fun x=>x.name).take k = l.map fun x=>x.name):=Lib.hid (by rw [List.take_of_length_le (by rw [List.length_map]; omega)])
    rw [HE.out] at hown;have HOWN:=Lib.hid hown;clear hown hlen;go_wp2;go_ret;exact ⟨_,rfl,HOWN.out,hx⟩
end Go.Proofs
