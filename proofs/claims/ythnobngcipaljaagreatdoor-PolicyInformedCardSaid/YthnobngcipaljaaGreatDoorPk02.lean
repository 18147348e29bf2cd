/- Part of the proof of a law. -/
import Derived.Test.YthnobngcipaljaaGreatDoorPk01
import Derived.Laws.BitsLemmas
import Derived.OrdersIn
import Derived.RangeFuncCalls
import Derived.TacticsIn
import Derived.Shelf.Abstract
set_option maxRecDepth 1000000
set_option maxHeartbeats 64000000
set_option linter.unusedVariables false
set_option linter.unusedSimpArgs false
set_option linter.constructorNameAsVariable false
open Go.Lib (hid)
namespace Go.Tw
theorem Y9j {α:Type} {R:α -> α -> Prop} (irr:∀ a,¬ R a a) (asym:∀ a b,R a b -> ¬ R b a) :
    ∀ {l m:List α},l.Pairwise R -> m.Pairwise R -> (∀ x,x ∈ l ↔ x ∈ m) -> l=m
 | [],[],_,_,_=>rfl
 | [],b :: m,_,_,h=>absurd ((h b).2 List.mem_cons_self) (by simp)
 | a :: l,[],_,_,h=>absurd ((h a).1 List.mem_cons_self) (by simp)
 | a :: l,b :: m,hl,hm,h=>by
   obtain ⟨Pw,Qk⟩:=List.pairwise_cons.1 hl;obtain ⟨Oe,V1⟩:=List.pairwise_cons.1 hm;have Z0:a=b:=by
    rcases List.mem_cons.1 ((h a).1 List.mem_cons_self) with e | e
    . exact e
    . rcases List.mem_cons.1 ((h b).2 List.mem_cons_self) with e' | e'
      . exact e'.symm
      . exact absurd (Oe a e) (asym _ _ (Pw b e'))
   subst Z0;rw [Y9j irr asym Qk V1 fun x=>?_]
   constructor
   . intro hx
     rcases List.mem_cons.1 ((h x).1 (List.mem_cons_of_mem _ hx)) with e | e
     . subst e; exact absurd (Pw _ hx) (irr _)
     . exact e
   . intro hx
     rcases List.mem_cons.1 ((h x).2 (List.mem_cons_of_mem _ hx)) with e | e
     . subst e; exact absurd (Oe _ hx) (irr _)
     . exact e
theorem X7i:∀ a:List Int,Q5k a a=false
 | []=>rfl
 | x :: l=>by simp [Q5k,X7i l]
theorem Y2y:∀ {a b:List Int},Q5k a b=true -> Q5k b a=false
 | [],_,h=>by simp [Q5k] at h
 | _ :: _,[],h=>by simp [Q5k] at h
 | x :: l,y :: m,h=>by
   unfold Q5k at h ⊢
   by_cases e:x=y
   . subst e; simp only [if_true] at h ⊢; exact Y2y h
   . rw [if_neg e] at h; rw [if_neg (Ne.symm e)]; simp only [decide_eq_true_eq,decide_eq_false_iff_not] at h ⊢; omega
theorem Y0k:∀ {a b c:List Int},Q5k a b=true -> Q5k b c=true -> Q5k a c=true
 | [],_,_,h,_=>by simp [Q5k] at h
 | _ :: _,[],_,h,_=>by simp [Q5k] at h
 | _ :: _,_ :: _,[],_,h=>by simp [Q5k] at h
 | x :: l,y :: m,z :: n,h,k=>by
   unfold Q5k at h k ⊢
   by_cases e:x=y
   . subst e; simp only [if_true] at h
     by_cases e':x=z
     . subst e'; simp only [if_true] at k ⊢; exact Y0k h k
     . rw [if_neg e'] at k ⊢; exact k
   . rw [if_neg e] at h
     by_cases e':y=z
     . subst e'; rw [if_neg e]; exact h
     . rw [if_neg e'] at k; simp only [decide_eq_true_eq] at h k
       rw [if_neg (by omega)]; simp only [decide_eq_true_eq]; omega
theorem Y6g:∀ {a b:List Int},a.length=b.length -> Q5k a b=false -> a=b ∨ Q5k b a=true
 | [],[],_,_=>.inl rfl
 | [],_ :: _,h,_=>by simp at h
 | _ :: _,[],h,_=>by simp at h
 | x :: l,y :: m,h,k=>by
   unfold Q5k at k ⊢
   by_cases e:x=y
   . subst e; simp only [if_true] at k ⊢
     rcases Y6g (Nat.succ.inj h) k with r | r
     . exact .inl (by rw [r])
     . exact .inr r
   . rw [if_neg e] at k; rw [if_neg (Ne.symm e)]
     simp only [decide_eq_true_eq,decide_eq_false_iff_not] at k ⊢; exact .inr (by omega)
theorem Q7s (a:List Int):¬ Q2f a a=true:=by simp [Q2f,X7i]
theorem Y7t (a b:List Int) (h:Q2f a b=true):¬ Q2f b a=true:=by
 unfold Q2f at h ⊢
 by_cases e:a.length=b.length
 . rw [if_pos e] at h; rw [if_pos e.symm,Y2y h]; simp
 . rw [if_neg e] at h; rw [if_neg (Ne.symm e)]; simp only [decide_eq_true_eq] at h ⊢; omega
theorem Q6u {a b c:List Int} (h:Q2f a b=true) (k:Q2f b c=true):Q2f a c=true:=by
 unfold Q2f at h k ⊢
 by_cases e:a.length=b.length
 . rw [if_pos e] at h
   by_cases e':b.length=c.length
   . rw [if_pos e'] at k; rw [if_pos (e.trans e')]; exact Y0k h k
   . rw [if_neg e'] at k; rw [if_neg (by omega)]; rw [e]; exact k
 . rw [if_neg e] at h
   by_cases e':b.length=c.length
   . rw [if_neg (by omega),<- e']; exact h
   . rw [if_neg e'] at k; simp only [decide_eq_true_eq] at h k; rw [if_neg (by omega)]; simp only [decide_eq_true_eq]; omega
theorem Y0s {a b:List Int} (h:Q2f a b=false):a=b ∨ Q2f b a=true:=by
 unfold Q2f at h ⊢
 by_cases e:a.length=b.length
 . rw [if_pos e] at h; rw [if_pos e.symm]; exact Y6g e h
 . rw [if_neg e] at h; rw [if_neg (Ne.symm e)]; simp only [decide_eq_true_eq,decide_eq_false_iff_not] at h ⊢; exact .inr (by omega)
def Asc (l:List (List Int)):Prop:=l.Pairwise fun a b=>Q2f a b=true
theorem J8j {l m:List (List Int)} (hl:Asc l) (hm:Asc m) (h:∀ x,x ∈ l ↔ x ∈ m):l=m :=
 Y9j Q7s Y7t hl hm h
theorem posB (h:List Int) (out:List (List Int)):∀ n,Q2b h out n <= n /\ (∀ i,Q2b h out n <= i -> i < n -> Q2f h (out.getD i [])=true) /\
    (0 < Q2b h out n -> Q2f h (out.getD (Q2b h out n - 1) [])=false)
 | 0=>⟨Nat.le_refl _,fun i _ h=>absurd h (Nat.not_lt_zero _),fun h=>absurd h (Nat.lt_irrefl _)⟩
 | n + 1=>by
   obtain ⟨h1,h2,h3⟩:=posB h out n;unfold Q2b
   by_cases e:Q2f h (out.getD n [])=true
   . rw [if_pos e]
     refine ⟨by omega,fun i hi hn=>?_,h3⟩
     by_cases Sy:i=n
     . subst Sy; exact e
     . exact h2 i hi (by omega)
   . rw [if_neg e]
     exact ⟨Nat.le_refl _,fun i hi hn=>by omega,fun _=>by simpa using e⟩
theorem row_mem (h:List Int) (row:List (List Int)) (x:List Int):x ∈ Q7d h row ↔ x=h ∨ x ∈ row:=by
 unfold Q7d;obtain ⟨h1,-,-⟩:=posB h row row.length
 by_cases e:0 < Q2b h row row.length /\ row.getD (Q2b h row row.length - 1) []=h
 . dsimp only; rw [if_pos e]
   refine ⟨.inr,fun k=>k.elim (fun k=>?_) id⟩;subst k;have Uq:Q2b x row row.length - 1 < row.length:=by omega
   rw [List.getD_eq_getElem?_getD,List.getElem?_eq_getElem Uq,Option.getD_some] at e;exact e.2 ▸ List.getElem_mem Uq
 . dsimp only; rw [if_neg e]
   have hx:x ∈ row ↔ x ∈ row.take (Q2b h row row.length) ∨ x ∈ row.drop (Q2b h row row.length):=by
    rw [<- List.mem_append,List.take_append_drop]
   simp only [List.mem_append,List.mem_singleton,hx]
   constructor
   . rintro ((k | k) | k)
     . exact .inr (.inl k)
     . exact .inl k
     . exact .inr (.inr k)
   . rintro (k | k | k)
     . exact .inl (.inr k)
     . exact .inl (.inl k)
     . exact .inr k
theorem J5p (h:List Int) {row:List (List Int)} (ha:Asc row):Asc (Q7d h row):=by
 unfold Q7d;obtain ⟨h1,h2,h3⟩:=posB h row row.length
 by_cases e:0 < Q2b h row row.length /\ row.getD (Q2b h row row.length - 1) []=h
 . dsimp only; rw [if_pos e]; exact ha
 . dsimp only; rw [if_neg e]
   generalize Q2b h row row.length=k at *;have hi:∀ i j (hi:i < row.length) (hj:j < row.length),i < j -> Q2f row[i] row[j]=true:=fun i j hi hj hij=>List.pairwise_iff_getElem.1 ha i j hi hj hij;have hd:∀ x ∈ row.drop k,Q2f h x=true:=by
    intro x hx;obtain ⟨i,hi,rfl⟩:=List.mem_iff_getElem.1 hx;rw [List.length_drop] at hi;rw [List.getElem_drop];have:=h2 (k + i) (by omega) (by omega)
    rwa [List.getD_eq_getElem?_getD,List.getElem?_eq_getElem (by omega),Option.getD_some] at this
   have ht:∀ x ∈ row.take k,Q2f x h=true:=by
    intro x hx;obtain ⟨i,Bg,rfl⟩:=List.mem_iff_getElem.1 hx;rw [List.length_take] at Bg;rw [List.getElem_take];have hk:0 < k:=by omega
    have h4:=h3 hk;have Uq:k - 1 < row.length:=by omega
    rw [List.getD_eq_getElem?_getD,List.getElem?_eq_getElem Uq,Option.getD_some] at h4 e;have h5:Q2f row[k - 1] h=true:=by
     rcases Y0s h4 with r | r
     . exact absurd ⟨hk,r.symm⟩ e
     . exact r
    by_cases hik:i=k - 1
    . subst hik; exact h5
    . exact Q6u (hi i (k - 1) (by omega) Uq (by omega)) h5
   refine List.pairwise_append.2 ⟨List.pairwise_append.2 ⟨List.Pairwise.sublist (List.take_sublist _ _) ha,List.pairwise_singleton _ _,fun a LG b hb=>?_⟩,List.Pairwise.sublist (List.drop_sublist _ _) ha,fun a LG b hb=>?_⟩
   . rw [List.mem_singleton] at hb; subst hb; exact ht a LG
   . rcases List.mem_append.1 LG with r | r
     . exact Q6u (ht a r) (hd b hb)
     . rw [List.mem_singleton] at r; subst r; exact hd b hb
namespace Q0b
variable {s:Q0b}
theorem Y8o (t:Nat):∀ i,Asc (s.Q5v t i)
 | 0=>List.Pairwise.nil
 | i + 1=>J5p _ (Y8o t i)
theorem X2x (t:Nat) (x:List Int):∀ i,x ∈ s.Q5v t i ↔ ∃ k,k < i /\ x=(Q0c s.members k).take (t + 1)
 | 0=>by simp [Q5v]
 | i + 1=>by
   rw [Q5v,row_mem,X2x t x i]
   constructor
   . rintro (h | ⟨k,hk,h⟩)
     . exact ⟨i,Nat.lt_succ_self _,h⟩
     . exact ⟨k,by omega,h⟩
   . rintro ⟨k,hk,h⟩
     by_cases e:k=i
     . subst e; exact .inl h
     . exact .inr ⟨k,by omega,h⟩
theorem Q4k (x:List Int):∀ n,x ∈ s.Q5t n ↔ ∃ t,t < n /\ ∃ k,k < s.members.length /\ x=(Q0c s.members k).take (t + 1)
 | 0=>by simp [Q5t]
 | n + 1=>by
   rw [Q5t,List.mem_append,Q4k x n,X2x]
   constructor
   . rintro (⟨t,ht,h⟩ | h)
     . exact ⟨t,by omega,h⟩
     . exact ⟨n,Nat.lt_succ_self _,h⟩
   . rintro ⟨t,ht,h⟩
     by_cases e:t=n
     . subst e; exact .inr h
     . exact .inl ⟨t,by omega,h⟩
def Shaped (s:Q0b):Prop:=∀ k,k < s.members.length -> (Q0c s.members k).length=s.ships.length /\ (Q1c s.members k).length=s.ships.length /\ (Q1f s.members k).length=s.ships.length
theorem Y3f (hs:s.Shaped):∀ n,n <= s.ships.length -> Asc (s.Q5t n)
 | 0,_=>List.Pairwise.nil
 | n + 1,hn=>by
   refine List.pairwise_append.2 ⟨Y3f hs n (by omega),Y8o n _,fun a ha b hb=>?_⟩
   obtain ⟨t,ht,k,hk,rfl⟩:=(Q4k a n).1 ha;obtain ⟨j,hj,rfl⟩:=(X2x n b _).1 hb;have h1:=(hs k hk).1;have h2:=(hs j hj).1;unfold Q2f;rw [if_neg (by simp only [List.length_take]; omega)]
   simp only [List.length_take,decide_eq_true_eq]; omega
theorem Y6c (hs:s.Shaped):Asc s.hist:=Y3f hs _ (Nat.le_refl _)
theorem J5k (hs:s.Shaped) (x:List Int):x ∈ s.Y1a ↔ x ∈ s.hist:=by
 rw [hist,Q4k,Y1a,List.mem_flatMap]
 constructor
 . rintro ⟨m,hm,h⟩
   obtain ⟨t,ht,rfl⟩:=List.mem_map.1 h;rw [List.mem_range] at ht;obtain ⟨k,hk,rfl⟩:=List.mem_iff_getElem.1 hm;have e:Q0c s.members k=s.members[k].classes:=by rw [Q0c,Q0u _ hk]
   exact ⟨t,by rw [<- (hs k hk).1,e]; exact ht,k,hk,by rw [e]⟩
 . rintro ⟨t,ht,k,hk,rfl⟩
   have e:Q0c s.members k=s.members[k].classes:=by rw [Q0c,Q0u _ hk]
   refine ⟨s.members[k],List.getElem_mem hk,List.mem_map.2 ⟨t,?_,by rw [e]⟩⟩
   rw [List.mem_range,<- e,(hs k hk).1]; exact ht
theorem J5a (hs:s.Shaped) {l:List (List Int)} (hl:Asc l) (h:∀ x,x ∈ l ↔ x ∈ s.Y1a):l=s.hist :=
 J8j hl (Y6c hs) fun x=>(h x).trans (J5k hs x)
end Q0b
end Go.Tw
namespace Go.Tw
theorem X0m {x o:Plan}:x.Q4y o=true ↔ o.weight <= x.weight /\ x.closings <= o.closings /\ x.delay <= o.delay:=by
 unfold Plan.Q4y; simp only [Bool.and_eq_true,decide_eq_true_eq,and_assoc]
theorem X1g (x:Plan):x.Q4y x=true:=X0m.2 ⟨Int.le_refl _,Int.le_refl _,Int.le_refl _⟩
theorem Z0y {x y z:Plan} (h:x.Q4y y=true) (k:y.Q4y z=true):x.Q4y z=true:=by
 rw [X0m] at *; omega
theorem Y4j {out:List Plan} {x y:Plan} (h:y ∈ Q2n out x):y ∈ out ∨ y=x:=by
 unfold Q2n at h
 split at h
 . exact .inl h
 . rcases List.mem_append.1 h with r | r
   . exact .inl (List.mem_filter.1 r).1
   . exact .inr (List.mem_singleton.1 r)
theorem X9m {out:List Plan} {x y:Plan} (h:y ∈ out ∨ y=x):∃ o ∈ Q2n out x,o.Q4y y=true:=by
 unfold Q2n
 split
 . rename_i he
   rcases h with h | h
   . exact ⟨y,h,X1g y⟩
   . subst h
     obtain ⟨o,ho,hb⟩:=List.any_eq_true.1 he;exact ⟨o,ho,hb⟩
 . rcases h with h | h
   . by_cases hb:x.Q4y y=true
     . exact ⟨x,List.mem_append.2 (.inr (List.mem_singleton.2 rfl)),hb⟩
     . exact ⟨y,List.mem_append.2 (.inl (List.mem_filter.2 ⟨h,by simp [hb]⟩)),X1g y⟩
   . subst h; exact ⟨y,List.mem_append.2 (.inr (List.mem_singleton.2 rfl)),X1g y⟩
theorem X3d:∀ {l out:List Plan} {y:Plan},y ∈ l.foldl Q2n out -> y ∈ out ∨ y ∈ l
 | [],_,_,h=>.inl h
 | x :: l,out,y,h=>by
   rcases X3d (l:=l) h with r | r
   . rcases Y4j r with r | r
     . exact .inl r
     . exact .inr (r ▸ List.mem_cons_self)
   . exact .inr (List.mem_cons_of_mem _ r)
theorem Q7b:∀ {l out:List Plan} {y:Plan},y ∈ out ∨ y ∈ l -> ∃ o ∈ l.foldl Q2n out,o.Q4y y=true
 | [],_,y,h=>⟨y,h.elim id (fun h=>absurd h (by simp)),X1g y⟩
 | x :: l,out,y,h=>by
   have h':(y ∈ out ∨ y=x) ∨ y ∈ l:=by
    rcases h with h | h
    . exact .inl (.inl h)
    . rcases List.mem_cons.1 h with h | h
      . exact .inl (.inr h)
      . exact .inr h
   rcases h' with h' | h'
   . obtain ⟨o,ho,hb⟩:=X9m h'
     obtain ⟨o',Ox,Mk⟩:=Q7b (l:=l) (out:=Q2n out x) (.inl ho);exact ⟨o',Ox,Z0y Mk hb⟩
   . exact Q7b (l:=l) (out:=Q2n out x) (.inr h')
theorem X8w {l:List Plan} {y:Plan} (h:y ∈ X8k l):y ∈ l:=(X3d h).elim (fun h=>absurd h (by simp)) id
theorem X2j {l:List Plan} {y:Plan} (h:y ∈ l):∃ o ∈ X8k l,o.Q4y y=true:=Q7b (.inr h)
theorem X6x {a b:List Plan} {y:Plan} (h:y ∈ together a b):∃ x ∈ a,∃ z ∈ b,y=both x z:=by
 obtain ⟨x,hx,hy⟩:=List.mem_flatMap.1 (X8w h);obtain ⟨z,hz,e⟩:=List.mem_map.1 hy;exact ⟨x,hx,z,hz,e.symm⟩
theorem Y1j {a b:List Plan} {x z:Plan} (hx:x ∈ a) (hz:z ∈ b):∃ o ∈ together a b,o.Q4y (both x z)=true :=
 X2j (List.mem_flatMap.2 ⟨x,hx,List.mem_map.2 ⟨z,hz,rfl⟩⟩)
def Digits (l:List Int):Prop:=∀ x ∈ l,0 <= x /\ x <= 9
theorem Z3j:∀ {a b:List Int},Digits a -> Digits b -> Q6j a=Q6j b -> a=b:=by
 have go:∀ {a b:List Int},Digits a -> Digits b -> (a.map fun n=>UInt8.ofNat n.toNat)=(b.map fun n=>UInt8.ofNat n.toNat) -> a=b:=by
  intro a
  induction a with
  | nil=>intro b _ _ h; cases b with | nil=>rfl | cons y b=>simp at h
  | cons x a ih =>
    intro b ha hb h;cases b with
    | nil=>simp at h
    | cons y b =>
      simp only [List.map_cons,List.cons.injEq] at h;have h1:=congrArg UInt8.toNat h.1;simp only [UInt8.toNat_ofNat'] at h1;obtain ⟨x0,x1⟩:=ha x List.mem_cons_self;obtain ⟨y0,y1⟩:=hb y List.mem_cons_self;rw [ih (fun z hz=>ha z (List.mem_cons_of_mem _ hz)) (fun z hz=>hb z (List.mem_cons_of_mem _ hz)) h.2]
      congr 1
      omega
 intro a b ha hb h;have:=congrArg (fun k:ByteArray=>k.data.toList) h;exact go ha hb (by simpa [Q6j] using this)
theorem Q5w {l:List Int} (h:Digits l) (n:Nat):Digits (l.take n):=fun x hx=>h x (List.mem_of_mem_take hx)
structure Fine (s:Q0b):Prop where
 shaped:s.Shaped
 digits:∀ k,k < s.members.length -> Digits (Q0c s.members k)
def mv1 (s:Q0b) (t:Nat) (c:Bool) (x:Runner):Runner:=⟨x.member,((Q1g s x.member).stepT t x.level c).2,x.dry && decide (((Q1g s x.member).stepT t x.level c).1 <= s.limit)⟩
theorem Y4n (s:Q0b) (t:Nat) (c:Bool) (l:List Runner):moved s t c l=l.map (mv1 s t c):=rfl
def hs (s:Q0b) (i u:Nat):List Int:=(Q0c s.members i).take u
def J7m (s:Q0b) (f:List Int -> Bool):Nat -> Runner -> Bool
 | 0,x=>x.dry
 | k + 1,x=>J7m s f k (mv1 s (s.ships.length - (k + 1)) (f (hs s x.member (s.ships.length - k))) x)
def J6h (s:Q0b) (f:List Int -> Bool):Nat -> Nat -> Int
 | 0,_=>0
 | k + 1,i=>(if f (hs s i (s.ships.length - k)) then 1 else 0) + J6h s f k i
def J7c (s:Q0b) (f:List Int -> Bool):Nat -> Nat -> Int
 | 0,_=>0
 | k + 1,i=>(if f (hs s i (s.ships.length - k)) then ix s.ships (s.ships.length - (k + 1)) else 0) + J7c s f k i
def Z5w (s:Q0b) (f:List Int -> Bool) (k:Nat) (l:List Runner):Int:=(l.map fun x=>if J7m s f k x then Q0n s.members x.member else 0).sum
def Z1d (s:Q0b) (f:List Int -> Bool) (k:Nat) (l:List Runner):Int:=(l.map fun x=>Q0n s.members x.member * J6h s f k x.member).sum
def Z0t (s:Q0b) (f:List Int -> Bool) (k:Nat) (l:List Runner):Int:=(l.map fun x=>Q0n s.members x.member * J7c s f k x.member).sum
def Agr (s:Q0b) (f:List Int -> Bool) (cl:List ByteArray) (t:Nat) (l:List Runner):Prop:=∀ r ∈ l,∀ u,t < u -> u <= s.ships.length -> f (hs s r.member u)=cl.contains (Q6j (hs s r.member u))
def Keys (s:Q0b) (cl:List ByteArray) (t:Nat) (l:List Runner):Prop:=∀ b ∈ cl,∃ r ∈ l,∃ u,t < u /\ u <= s.ships.length /\ b=Q6j (hs s r.member u)
def Known (s:Q0b) (l:List Runner):Prop:=∀ r ∈ l,r.member < s.members.length
theorem X1k {α:Type} (g:α -> Int) (p:α -> Bool):∀ l:List α,(l.map g).sum=((l.filter p).map g).sum + ((l.filter fun x=>!p x).map g).sum
 | []=>rfl
 | x :: l=>by
   rw [List.map_cons,List.sum_cons,X1k g p l];cases h:p x
   . simp only [List.filter_cons,h,Bool.not_false,if_true,Bool.false_eq_true,if_false,List.map_cons,List.sum_cons]; omega
   . simp only [List.filter_cons,h,Bool.not_true,if_true,Bool.false_eq_true,if_false,List.map_cons,List.sum_cons]; omega
end Go.Tw
namespace Go.Tw
theorem Q2c {l:List Int}:Q0o l=0 ↔ ∀ x ∈ l,x=0:=by
 induction l with
 | nil=>simp [Q0o]
 | cons y l ih =>
   unfold Q0o
   by_cases h:y=0
   . simp [h,ih]
   . simp [h]
structure Fit (t:Tree):Prop where
 nb:t.basics.length <= 1000
 nc:t.causes.length <= 1000
 ng:t.gates.length <= 1000
 inp:∀ k,k < t.gates.length -> ∀ x ∈ Q7u t.gates k,0 <= x /\ x < (t.basics.length:Int) + k
theorem Y0h {l:List Int} {n:Int} (h:Z3y l n=0):(∀ x ∈ l,0 <= x /\ x < n) /\ Z7o l=true:=by
 unfold Z3y at h
 split at h
 . cases h
 . split at h
   . rename_i h1 h2
     refine ⟨fun x hx=>?_,h2⟩;unfold K0r at h1;rw [Bool.not_eq_true,List.any_eq_false] at h1;have:=h1 x hx;simp only [decide_eq_true_eq] at this;omega
   . cases h
structure Valid (t:Tree):Prop where
 nb:1 <= t.basics.length
 ng:1 <= t.gates.length
 size:t.size <= 12
 ng':t.gates.length <= 32
 event:∀ i,i < t.size -> t.X8e i=0
 gate:∀ i,i < t.gates.length -> t.X9i i=0
theorem Valid.of {t:Tree} (h:t.err=0):Valid t:=by
 unfold Tree.err at h
 split at h
 . cases h
 . split at h
   . cases h
   . rename_i h1 h2
     rw [Q2c] at h;refine ⟨by omega,by omega,by omega,by omega,fun i hi=>h _ ?_,fun i hi=>h _ ?_⟩
     . exact List.mem_append_left _ (List.mem_map.2 ⟨i,List.mem_range.2 hi,rfl⟩)
     . exact List.mem_append_right _ (List.mem_map.2 ⟨i,List.mem_range.2 hi,rfl⟩)
theorem Valid.inputs {t:Tree} (h:Valid t) {k:Nat} (hk:k < t.gates.length):X5x (Q7u t.gates k) ((t.basics.length:Int) + k)=0:=by
 have:=h.gate k hk;unfold Tree.X9i Z9v at this;rw [Q2c] at this;exact this _ (by simp)
theorem X6q {l:List Int} {n:Int} (h:X5x l n=0):l ≠ [] /\ Z3y l n=0:=by
 unfold X5x at h
 split at h
 . cases h
 . exact ⟨‹_›,h⟩
theorem Valid.chance {t:Tree} (h:Valid t) {i:Nat} (hi:i < t.size):0 <= t.X3u i /\ t.X3u i <= 16:=by
 have:=h.event i hi;unfold Tree.X8e at this;rw [Q2c] at this;have:=this (Q0j (t.X3u i) 0 16) (by simp)
 unfold Q0j at this
 split at this
 . cases this
 . omega
end Go.Tw
namespace Go.Tw
variable {s:Q0b}
theorem Q6s {x a b:Int}:Q0j x a b=0 ↔ a <= x /\ x <= b:=by unfold Q0j; split <;> simp <;> omega
theorem Q5x {l:List Int} {m:Int}:Q0z l m=0 ↔ ∀ x ∈ l,0 <= x /\ x <= m:=by
 unfold Q0z;rw [Q2c]
 constructor
 . intro h x hx; exact Q6s.1 (h _ (List.mem_map.2 ⟨x,hx,rfl⟩))
 . intro h y hy
   obtain ⟨x,hx,rfl⟩:=List.mem_map.1 hy;exact Q6s.2 (h x hx)
structure Q0r (s:Q0b):Prop extends Fine s where
 limit:0 <= s.limit /\ s.limit <= 1024
 tides:0 < s.ships.length /\ s.ships.length <= 6
 delays:∀ x ∈ s.ships,0 <= x /\ x <= 1000
 some:0 < s.members.length /\ s.members.length <= 8
 names:∀ k,k < s.members.length -> nameB (Q1s s.members k)=true
 twice:∀ k,k < s.members.length -> ∀ i,i < k -> Q1s s.members i ≠ Q1s s.members k
 weights:∀ k,k < s.members.length -> 1 <= Q0n s.members k /\ Q0n s.members k <= 1000
 outside:∀ k,k < s.members.length -> ∀ x ∈ Q1c s.members k,0 <= x /\ x <= 1024
 inflow:∀ k,k < s.members.length -> ∀ x ∈ Q1f s.members k,0 <= x /\ x <= 1024
theorem Q5a {k:Nat} (h:s.Q3v k=0):nameB (Q1s s.members k)=true /\ Q4a s.members k=false /\ (1 <= Q0n s.members k /\ Q0n s.members k <= 1000) /\
    ((Q0c s.members k).length=s.ships.length /\ (Q1c s.members k).length=s.ships.length /\ (Q1f s.members k).length=s.ships.length) /\
    Digits (Q0c s.members k) /\ (∀ x ∈ Q1c s.members k,0 <= x /\ x <= 1024) /\ (∀ x ∈ Q1f s.members k,0 <= x /\ x <= 1024):=by
 unfold Q0b.Q3v at h
 by_cases h1:nameB (Q1s s.members k)=false
 . rw [if_pos h1] at h; exact absurd h (by decide)
 . rw [if_neg h1] at h
   by_cases h2:Q4a s.members k=true
   . rw [if_pos h2] at h; exact absurd h (by decide)
   . rw [if_neg h2] at h
     by_cases h3:Q0j (Q0n s.members k) 1 1000 ≠ 0
     . rw [if_pos h3] at h; exact absurd h (by decide)
     . rw [if_neg h3] at h
       by_cases h4:(Q0c s.members k).length=s.ships.length /\ (Q1c s.members k).length=s.ships.length /\ (Q1f s.members k).length=s.ships.length
       . rw [if_neg (fun hn=>hn h4),Q2c] at h
         refine ⟨by simpa using h1,by simpa using h2,Q6s.1 (Decidable.not_not.1 h3),h4,Q5x.1 (h _ (by simp)),Q5x.1 (h _ (by simp)),Q5x.1 (h _ (by simp))⟩
       . rw [if_pos h4] at h; exact absurd h (by decide)
theorem Q0r.of (h:s.err=0):Q0r s:=by
 unfold Q0b.err at h
 by_cases h1:Q0j s.limit 0 1024 ≠ 0
 . rw [if_pos h1] at h; exact absurd h (by decide)
 rw [if_neg h1] at h
 by_cases h2:s.ships.length=0
 . rw [if_pos h2] at h; exact absurd h (by decide)
 rw [if_neg h2] at h
 by_cases h3:6 < s.ships.length
 . rw [if_pos h3] at h; exact absurd h (by decide)
 rw [if_neg h3] at h
 by_cases h4:Q0z s.ships 1000 ≠ 0
 . rw [if_pos h4] at h; exact absurd h (by decide)
 rw [if_neg h4] at h
 by_cases h5:s.members.length=0
 . rw [if_pos h5] at h; exact absurd h (by decide)
 rw [if_neg h5] at h
 by_cases h6:8 < s.members.length
 . rw [if_pos h6] at h; exact absurd h (by decide)
 rw [if_neg h6,Q2c] at h;have hm:∀ k,k < s.members.length -> s.Q3v k=0:=fun k hk=>h _ (List.mem_map.2 ⟨k,List.mem_range.2 hk,rfl⟩);have ht:∀ k,k < s.members.length -> ∀ i,i < k -> Q1s s.members i ≠ Q1s s.members k:=fun k hk i hi e=>by
  have:=(Q5a (hm k hk)).2.1;unfold Q4a at this;rw [List.any_eq_false] at this;exact this i (List.mem_range.2 hi) (str_eq e)
 exact ⟨⟨fun k hk=>(Q5a (hm k hk)).2.2.2.1,fun k hk=>(Q5a (hm k hk)).2.2.2.2.1⟩,Q6s.1 (Decidable.not_not.1 h1),⟨by omega,by omega⟩,Q5x.1 (Decidable.not_not.1 h4),⟨by omega,by omega⟩,fun k hk=>(Q5a (hm k hk)).1,ht,fun k hk=>(Q5a (hm k hk)).2.2.1,fun k hk=>(Q5a (hm k hk)).2.2.2.2.2.1,fun k hk=>(Q5a (hm k hk)).2.2.2.2.2.2⟩
end Go.Tw
namespace Go.Proofs
open Go.RowKit Go.Tw Go.Flow Tryz
theorem X2h (x:Int) (l:List Int) (m:Int):Q0z (x :: l) m=if Q0j x 0 m=0 then Q0z l m else Q0j x 0 m:=rfl
theorem Q7r (w:World) (v:Value) (l:List Int) (m:Int) (hv:Q0g w v l) :
    Calls prog 88 #[v,.int .i64 m] w fun e w'=>e=.returned (.int .i64 (Q0z l m)) /\ Ext w w':=by
 obtain ⟨A,Qq,rfl,hl,Kq,hc⟩:=hv.opened;clear hv;go_enter func88,ntmps88;go_wp2
 go_loopw [5] (fun i wr=>∃ k:Nat,k <= l.length /\ i=.int .i64 k /\ Q0z (l.drop k) m=Q0z l m /\ Ext w wr) (fun i _=>l.length - (intOf i).toNat)
 case atStart=>exact ⟨0,Nat.zero_le _,rfl,rfl,Ext.refl _⟩
 case round =>
  obtain ⟨k,hk,rfl,hr,hx⟩:=hrel;have HR:=hid hr; clear hr
  by_cases Uq:k < l.length
  . obtain ⟨b,off,rfl,Wq⟩:=hc k Uq
    replace Wq:=hx.cell Wq;have HD:=hid (Q3j Uq);clear hc
    by_cases hz:Q0j (ix l k) 0 m=0
    . have fq:(Q0j (ix l k) 0 m != 0)=false:=by simp [hz]
      have HZ:=hid hz; clear hz;go_wp2_with (go_at_call 87; refine (Q3a _ (ix l k) 0 m).mono ?_; rintro e w' ⟨rfl,rfl⟩);go_roundw
      case rel=>exact ⟨k + 1,by omega,by go_num,by rw [<- HR.out,HD.out,X2h,if_pos HZ.out],hx⟩
      case measure=>simp [intOf]; omega
    . have fq:(Q0j (ix l k) 0 m != 0)=true:=by simp [hz]
      have HZ:=hid hz; clear hz;go_wp2_with (go_at_call 87; refine (Q3a _ (ix l k) 0 m).mono ?_; rintro e w' ⟨rfl,rfl⟩);go_ret;exact ⟨Q1m (by rw [<- HR.out,HD.out,X2h,if_neg HZ.out]),hx⟩
  . clear hc
    go_wp2;go_ret;exact ⟨Q1m (by rw [<- HR.out,List.drop_eq_nil_of_le (by omega)]; rfl),hx⟩
theorem Q9o {α:Type} [DecidableEq α] {x y:α} {l m:List α} (h:x=y):decide (x :: l=y :: m)=decide (l=m):=by
 subst h; simp
theorem X0d {α:Type} [DecidableEq α] {x y:α} {l m:List α} (h:¬ x=y):decide (x :: l=y :: m)=false:=by
 simp [h]
theorem Q2s (w:World) (u v:Value) (a b:List Int) (hu:Q0g w u a) (hv:Q0g w v b) :
    Calls prog 54 #[u,v] w fun e w'=>e=.returned (.bool (decide (a=b))) /\ Ext w w':=by
 obtain ⟨A,Tq,rfl,mw,Cw,Xz⟩:=hu.opened;obtain ⟨B,Vq,rfl,ry,Lk,Kj⟩:=hv.opened;clear hu hv;go_enter func54,ntmps54
 by_cases hl:a.length=b.length
 . have hne:((a.length:Int) != (b.length:Int))=false:=by simp [hl]
   go_wp2
   go_loopw [5] (fun i wr=>∃ k:Nat,k <= a.length /\ i=.int .i64 k /\ decide (a.drop k=b.drop k)=decide (a=b) /\ Ext w wr) (fun i _=>a.length - (intOf i).toNat)
   case atStart=>exact ⟨0,Nat.zero_le _,rfl,rfl,Ext.refl _⟩
   case round =>
    obtain ⟨k,hk,rfl,hr,hx⟩:=hrel;have HR:=hid hr; clear hr
    by_cases Uq:k < a.length
    . have Kx:k < b.length:=by omega
      obtain ⟨b1,off1,rfl,Nx⟩:=Xz k Uq;obtain ⟨b2,off2,rfl,Yx⟩:=Kj k Kx;replace Nx:=hx.cell Nx;replace Yx:=hx.cell Yx;have U1:=hid (Q3j Uq);have qy:=hid (Q3j Kx);clear Xz Kj
      by_cases h0:ix a k=ix b k
      . have aq:(ix a k != ix b k)=false:=by simp [h0]
        have H0:=hid h0; clear h0;go_wp2
        go_quiet (fail)
        all_goals go_wp2
        go_roundw
        case rel=>exact ⟨k + 1,by omega,by go_num,by rw [<- HR.out,U1.out,qy.out,Q9o H0.out],hx.drewN _⟩
        case measure=>simp [intOf]; omega
      . have aq:(ix a k != ix b k)=true:=by simp [h0]
        have H0:=hid h0; clear h0;go_wp2
        go_quiet (fail)
        all_goals go_wp2
        go_ret;exact ⟨Q1b (by rw [<- HR.out,U1.out,qy.out,X0d H0.out]),hx.drewN _⟩
    . clear Xz Kj
      go_wp2;go_ret;exact ⟨Q1b (by rw [<- HR.out,List.drop_eq_nil_of_le (by omega),List.drop_eq_nil_of_le (by omega)]; rfl),hx⟩
 . have hne:((a.length:Int) != (b.length:Int))=true:=by simp; omega
   have HL:Hid (decide (a=b)=false):=hid (decide_eq_false (fun h=>hl (by rw [h])))
   clear hl Xz Kj;go_wp2;go_ret;exact ⟨Q1b (by rw [HL.out]),Ext.refl _⟩
theorem Y5b {l:List Bool} {k:Nat} (h:k < l.length):l.drop k=bx l k :: l.drop (k + 1):=by
 unfold bx; rw [show l.getD k false=l[k] by simp [h]]; exact List.drop_eq_getElem_cons h
theorem Y5c (w:World) (u v:Value) (a b:List Bool) (hu:Q1v w u a) (hv:Q1v w v b) :
    Calls prog 55 #[u,v] w fun e w'=>e=.returned (.bool (decide (a=b))) /\ Ext w w':=by
 obtain ⟨A,Tq,rfl,mw,Cw,Xz⟩:=hu.opened;obtain ⟨B,Vq,rfl,ry,Lk,Kj⟩:=hv.opened;clear hu hv;go_enter func55,ntmps55
 by_cases hl:a.length=b.length
 . have hne:((a.length:Int) != (b.length:Int))=false:=by simp [hl]
   go_wp2
   go_loopw [5] (fun i wr=>∃ k:Nat,k <= a.length /\ i=.int .i64 k /\ decide (a.drop k=b.drop k)=decide (a=b) /\ Ext w wr) (fun i _=>a.length - (intOf i).toNat)
   case atStart=>exact ⟨0,Nat.zero_le _,rfl,rfl,Ext.refl _⟩
   case round =>
    obtain ⟨k,hk,rfl,hr,hx⟩:=hrel;have HR:=hid hr; clear hr
    by_cases Uq:k < a.length
    . have Kx:k < b.length:=by omega
      obtain ⟨b1,off1,rfl,_,Nx⟩:=Xz k Uq;obtain ⟨b2,off2,rfl,_,Yx⟩:=Kj k Kx;replace Nx:=hx.cell Nx;replace Yx:=hx.cell Yx;have U1:=hid (Y5b Uq);have qy:=hid (Y5b Kx);clear Xz Kj;cases hxa:bx a k with
      | false =>
        cases hxb:bx b k with
        | false =>
          rw [hxa] at Nx;rw [hxb] at Yx;have H0:Hid (bx a k=bx b k):=hid (by rw [hxa,hxb])
          clear hxa hxb;go_wp2
          go_quiet (fail)
          all_goals go_wp2
          go_roundw
          case rel=>exact ⟨k + 1,by omega,by go_num,by rw [<- HR.out,U1.out,qy.out,Q9o H0.out],hx.drewN _⟩
          case measure=>simp [intOf]; omega
        | true =>
          rw [hxa] at Nx;rw [hxb] at Yx;have H0:Hid (¬ bx a k=bx b k):=hid (by rw [hxa,hxb]; decide)
          clear hxa hxb;go_wp2
          go_quiet (fail)
          all_goals go_wp2
          go_ret;exact ⟨Q1b (by rw [<- HR.out,U1.out,qy.out,X0d H0.out]),hx.drewN _⟩
      | true =>
        cases hxb:bx b k with
        | false =>
          rw [hxa] at Nx;rw [hxb] at Yx;have H0:Hid (¬ bx a k=bx b k):=hid (by rw [hxa,hxb]; decide)
          clear hxa hxb;go_wp2
          go_quiet (fail)
          all_goals go_wp2
          go_ret;exact ⟨Q1b (by rw [<- HR.out,U1.out,qy.out,X0d H0.out]),hx.drewN _⟩
        | true =>
          rw [hxa] at Nx;rw [hxb] at Yx;have H0:Hid (bx a k=bx b k):=hid (by rw [hxa,hxb])
          clear hxa hxb;go_wp2
          go_quiet (fail)
          all_goals go_wp2
          go_roundw
          case rel=>exact ⟨k + 1,by omega,by go_num,by rw [<- HR.out,U1.out,qy.out,Q9o H0.out],hx.drewN _⟩
          case measure=>simp [intOf]; omega
    . clear Xz Kj
      go_wp2;go_ret;exact ⟨Q1b (by rw [<- HR.out,List.drop_eq_nil_of_le (by omega),List.drop_eq_nil_of_le (by omega)]; rfl),hx⟩
 . have hne:((a.length:Int) != (b.length:Int))=true:=by simp; omega
   have HL:Hid (decide (a=b)=false):=hid (decide_eq_false (fun h=>hl (by rw [h])))
   clear hl Xz Kj;go_wp2;go_ret;exact ⟨Q1b (by rw [HL.out]),Ext.refl _⟩
theorem Z8j {a b:List Int} {k:Nat} (ha:k < a.length) (hb:k < b.length):Q5k (a.drop k) (b.drop k)=if ix a k=ix b k then Q5k (a.drop (k + 1)) (b.drop (k + 1)) else decide (ix a k < ix b k):=by
 rw [Q3j ha,Q3j hb]; rfl
theorem X5n (w:World) (u v:Value) (l m:List Int) (hu:Q0g w u l) (hv:Q0g w v m) (Dq:l.length=m.length) :
    Calls prog 117 #[u,v] w fun e w'=>e=.returned (.bool (Q5k l m)) /\ Ext w w':=by
 obtain ⟨A,Qq,rfl,hl,Kq,hc⟩:=hu.opened;obtain ⟨A',cap',rfl,ap,Me,fX⟩:=hv.opened;clear hu hv;have i0:l.length <= m.length:=by omega
 have jw:=hid Dq; clear Dq;go_enter func117,ntmps117;go_wp2
 go_loopw [5] (fun i wr=>∃ k:Nat,k <= l.length /\ i=.int .i64 k /\ Q5k (l.drop k) (m.drop k)=Q5k l m /\ Ext w wr) (fun i _=>l.length - (intOf i).toNat)
 case atStart=>exact ⟨0,Nat.zero_le _,rfl,rfl,Ext.refl _⟩
 case round =>
  obtain ⟨k,hk,rfl,hr,hx⟩:=hrel;have HR:=hid hr; clear hr
  by_cases Uq:k < l.length
  . obtain ⟨b,off,rfl,Wq⟩:=hc k Uq
    obtain ⟨b',off',rfl,Vv⟩:=fX k (by omega)
    replace Wq:=hx.cell Wq;replace Vv:=hx.cell Vv;clear hc fX;have i1:(k:Int) < l.length:=by omega
    have i2:(k:Int) < m.length:=by omega
    have tj:=Z8j Uq (show k < m.length by omega)
    have Sj:=hid tj; clear tj
    by_cases Ej:ix l k=ix m k
    . have aq:(ix l k != ix m k)=false:=by simp [Ej]
      have HX:=hid Ej; clear Ej;go_wp2
      go_quiet (fail)
      all_goals go_wp2
      go_roundw
      case rel=>exact ⟨k + 1,by omega,by go_num,by rw [<- HR.out,Sj.out,if_pos HX.out],hx.drewN _⟩
      case measure=>simp [intOf]; omega
    . have aq:(ix l k != ix m k)=true:=by simp [Ej]
      have HX:=hid Ej; clear Ej;go_wp2
      go_quiet (fail)
      all_goals go_wp2
      go_quiet (fail)
      all_goals go_wp2
      go_ret;exact ⟨Q1b (by rw [<- HR.out,Sj.out,if_neg HX.out]),(hx.drewN _).drewN _⟩
  . clear hc fX
    go_wp2;go_ret;exact ⟨Q1b (by rw [<- HR.out,List.drop_eq_nil_of_le (by omega)]; rfl),hx⟩
theorem Y1c (b:Bool) (l:List Bool):countB (b :: l)=(if b then 1 else 0) + countB l:=by
 unfold countB; cases b <;> simp <;> omega
theorem countB_le (l:List Bool):0 <= countB l /\ countB l <= l.length:=by
 unfold countB; have:=List.countP_le_length (p:=id) (l:=l); omega
end Go.Proofs
namespace Go.Flow
open Go.RowKit Go.Tw
theorem eval_put_ne {a:Act} {d:Tmp} {u:Value} {t:Tmp} (h:d ≠ t):(a.put (some d) u).eval (.tmp t)=a.eval (.tmp t):=by
 show (a.tmps.setIfInBounds d u).getD t undef=a.tmps.getD t undef;simp only [Array.getD_eq_getD_getElem?,Array.getElem?_setIfInBounds_ne h]
theorem Q0f {a:Act} {u:Value} {x:Operand}:(a.put none u).eval x=a.eval x:=rfl
theorem size_put {a:Act} {d:Option Tmp} {u:Value}:(a.put d u).tmps.size=a.tmps.size:=Q8s a d u
theorem Q0a {a:Act} {u:Value} {t:Tmp} (h:t < a.tmps.size):(a.put (some t) u).eval (.tmp t)=u:=by
 show (a.tmps.setIfInBounds t u).getD t undef=u;simp [Array.getD_eq_getD_getElem?,h]
end Go.Flow
namespace Go.Tw
open Go.RowKit Go.Flow
def Q1d {α:Type} (w:World) (base:Nat) (e:TypeId) (k:Nat) (enc:α -> List Value) (v:Value) (l:List α):Prop:=w.ownsRow base e k v l.length (l.flatMap enc)
theorem Q1d.nil {α:Type} (w:World) (base:Nat) (e:TypeId) (k:Nat) (enc:α -> List Value):Q1d w base e k enc (.slice none 0 0) []:=World.ownsRow_nil w base e k
theorem Q1d.below {α:Type} {w w':World} {base:Nat} {e:TypeId} {k:Nat} {enc:α -> List Value} {v:Value} {l:List α} (h:Q1d w base e k enc v l) (hx:Ext w w'):Q1d w' base e k enc v l:=by
 obtain ⟨h1,h2⟩:=h;refine ⟨h1,?_⟩
 rcases h2 with h2 | ⟨g,Qq,cur,hv,hb,hg,r⟩
 . exact .inl h2
 . refine .inr ⟨g,Qq,cur,hv,hb,?_,r⟩
   rw [Below.block hx g (Array.getElem?_eq_some_iff.1 hg).1]; exact hg
theorem Q1d.snoc {α:Type} {w:World} {base:Nat} {e:TypeId} {k:Nat} {enc:α -> List Value} {v:Value} {l:List α} {x:α} (h:w.ownsRow base e k v (l.length + 1) (l.flatMap enc ++ enc x)):Q1d w base e k enc v (l ++ [x]):=by
 unfold Q1d; simpa using h
theorem Q4c {α:Type} {enc:α -> List Value} {k:Nat} (hk:∀ x,(enc x).length=k):∀ l:List α,(l.flatMap enc).length=l.length * k
 | []=>by simp
 | x :: l=>by rw [List.flatMap_cons,List.length_append,hk,Q4c hk l,List.length_cons,Nat.add_mul]; omega
theorem flat_get {α:Type} {enc:α -> List Value} {k:Nat} (hk:∀ x,(enc x).length=k):∀ (l:List α) (j i:Nat) (hj:j < l.length),i < k -> (l.flatMap enc)[j * k + i]?=(enc l[j])[i]?
 | x :: l,0,i,_,hi=>by
   rw [List.flatMap_cons,Nat.zero_mul,Nat.zero_add,List.getElem?_append_left (by rw [hk]; exact hi)]; rfl
 | x :: l,j + 1,i,hj,hi=>by
   have Uw:j < l.length:=by simpa using hj
   rw [List.flatMap_cons,List.getElem?_append_right (by rw [hk,Nat.add_mul]; omega),hk,show (j + 1) * k + i - k=j * k + i from by rw [Nat.add_mul]; omega,flat_get hk l j i Uw hi]
   rfl
theorem Q1d.rows {α:Type} {w:World} {base:Nat} {e:TypeId} {k:Nat} {enc:α -> List Value} {v:Value} {l:List α} {R:World -> (Nat -> Value) -> α -> Prop} (h:Q1d w base e k enc v l) (hl:l.length <= 17592186043904)
    (hk:∀ x,(enc x).length=k) (hR:∀ x ∈ l,R w (fun i=>((enc x)[i]?).getD undef) x) (Fg:∀ c c' x,(∀ i,i < k -> c i=c' i) -> R w c x -> R w c' x):Rows k R w v l:=by
 refine ⟨fun j=>((l.flatMap enc)[j]?).getD undef,?_,fun j hj=>Fg _ _ _ (fun i hi=>?_) (hR _ (List.getElem_mem hj))⟩
 . obtain ⟨_,h2⟩:=h
   rcases h2 with ⟨rfl,h0⟩ | ⟨g,Qq,cur,rfl,_,hg,Kq,_,_,nx⟩
   . exact ⟨none,0,by rw [h0],hl,by omega,fun j hj=>by rw [h0,Nat.zero_mul] at hj; omega⟩
   . refine ⟨some ⟨g,0,none⟩,Qq,rfl,hl,Kq,fun j hj=>⟨g,0,rfl,?_⟩⟩
     rw [Nat.zero_add];have h1:=congrArg (fun l=>l[j]?) nx;simp only [List.getElem?_take,hj,if_true] at h1;have Uq:j < (l.flatMap enc).length:=by rw [Q4c hk]; exact hj
     rw [List.getElem?_eq_getElem Uq] at h1;simp only [World.cell?,hg,List.getElem?_eq_getElem Uq,Option.getD_some]
     simpa using h1
 . show ((enc l[j])[i]?).getD undef=((l.flatMap enc)[j * k + i]?).getD undef
   rw [flat_get hk l j i hj hi]
theorem X7y (w:World) (xs:List Value) (e:TypeId):∀ j u,xs[j]?=some u -> (w.alloc (.cells xs.toArray e)).cell? ((⟨w.heap.size,0,none⟩:Addr).add j)=some u:=by
 intro j u h;rw [addr_add,Nat.zero_add,World.cell?_alloc_at _ _ _ _ rfl]
 simpa using h
theorem Z5o {w wr w':World} {v:Value} {base:Nat} {e:TypeId} {n size:Nat} {xs:List Value} {o:Obj} (hx:Ext w wr) (Yq:wr.ownsRow base e size v n xs) (hb:w.heap.size <= base) (hg:(wr.alloc o).grownBy w' v.ownBlock):Ext w w' :=
 Q3r hx Yq hb hg
def K0y (x:Nat × Int):List Value:=[.int .i64 (x.1:Nat),.int .i64 x.2]
theorem Q1d.gts {w:World} {base:Nat} {e:TypeId} {v:Value} {l:List (Nat × Int)} {R:World -> (Nat -> Value) -> Nat × Int -> Prop} (hR:∀ w c x,R w c x ↔ c 0=.int .i64 (x.1:Nat) /\ c 1=.int .i64 x.2) (h:Q1d w base e 2 K0y v l) (hl:l.length <= 17592186043904):Rows 2 R w v l :=
 h.rows hl (fun _=>rfl) (fun x _=>(hR _ _ _).2 ⟨rfl,rfl⟩) (fun c c' x hc h=>(hR _ _ _).2 (by have:=(hR _ _ _).1 h; rw [<- hc 0 (by omega),<- hc 1 (by omega)]; exact this))
end Go.Tw
namespace Go.Tw
def X2e:List Bool -> Nat
 | []=>0
 | b :: l=>b.toNat + 2 * X2e l
theorem Q7e:∀ (l:List Bool) (i:Nat),(X2e l).testBit i=bx l i
 | [],i=>by simp [X2e,bx]
 | b :: l,0=>by
   rw [X2e,Nat.testBit_zero];cases b <;> simp [bx] <;> omega
 | b :: l,i + 1=>by
   rw [X2e,Nat.testBit_succ,show (b.toNat + 2 * X2e l) / 2=X2e l from by cases b <;> simp <;> omega,Q7e l i]
   simp [bx]
theorem Z1v (n i:Nat):(2 ^ n).testBit i=decide (i=n):=by
 rw [Nat.testBit_two_pow]; by_cases h:n=i
 . subst h; simp
 . have h2:¬ i=n:=fun e=>h e.symm
   simp [h,h2]
theorem J0h (l m:List Bool) (i:Nat):bx (l ++ m) i=if i < l.length then bx l i else bx m (i - l.length):=by
 unfold bx
 split
 . rename_i h; simp [List.getD_eq_getElem?_getD,List.getElem?_append_left h]
 . rename_i h; simp [List.getD_eq_getElem?_getD,List.getElem?_append_right (by omega:l.length <= i)]
theorem Z3q {l:List Bool} {i:Nat} (h:l.length <= i):bx l i=false:=by simp [bx,h]
theorem Z6k (l:List Bool) (b:Bool):X2e (l ++ [b])=if b then X2e l ||| 2 ^ l.length else X2e l:=by
 apply Nat.eq_of_testBit_eq
 intro i;rw [Q7e,J0h]
 by_cases h:i < l.length
 . rw [if_pos h]
   cases b with
   | false=>simp only [Bool.false_eq_true,if_false]; rw [Q7e]
   | true=>simp only [if_true]; rw [Nat.testBit_or,Z1v,Q7e,decide_eq_false (by omega:¬ i=l.length),Bool.or_false]
 . rw [if_neg h]
   cases b with
   | false => simp only [Bool.false_eq_true, if_false]; rw [Q7e, Z3q (l := l) (by omega)]; rcases Nat.lt_or_ge (i - l.length) 1 with h' | h'
              . rw [show i - l.length=0 from by omega]; rfl
              . exact Z3q (by simpa using h')
   | true =>
     simp only [if_true];rw [Nat.testBit_or,Z1v,Q7e,Z3q (l:=l) (by omega),Bool.false_or]
     by_cases h':i=l.length
     . subst h'; simp [bx]
     . rw [decide_eq_false h']; exact Z3q (by simp; omega)
def J6w (a:Nat) (x:Int):Nat:=a ||| 2 ^ x.toNat
def Y9f (a:Nat) (l:List Int):Nat:=l.foldl J6w a
def Y9s (l:List Int):Nat:=Y9f 0 l
theorem Z1a (a:Nat) (x:Int) (l:List Int):Y9f a (x :: l)=Y9f (J6w a x) l:=rfl
theorem Y2z:∀ (l:List Int) (a i:Nat),(∀ x ∈ l,0 <= x) -> (Y9f a l).testBit i=(a.testBit i || has l i)
 | [],a,i,_=>by simp [Y9f,has]
 | x :: l,a,i,h=>by
   rw [Z1a,Y2z l _ i (fun y hy=>h y (List.mem_cons_of_mem _ hy)),J6w,Nat.testBit_or,Z1v,X8g,Bool.or_assoc];have h0:=h x (List.mem_cons_self ..)
   by_cases e:x=(i:Int)
   . subst e; simp
   . have e1:¬ i=x.toNat:=by omega
     rw [decide_eq_false e1,beq_false_of_ne e]
theorem Z4q {l:List Int} (h:∀ x ∈ l,0 <= x) (i:Nat):(Y9s l).testBit i=has l i:=by
 unfold Y9s; rw [Y2z l 0 i h]; simp
theorem Q2j (n:Int) (h0:0 <= n) (h1:n < 2 ^ 62):IntKind.i64.wrap n=n:=by rw [IntKind.wrap_i64]; omega
theorem K0n {a b:Nat} (ha:a < 2 ^ 62) (hb:b < 2 ^ 62):bits .and .i64 (a:Int) (b:Int)=((a &&& b:Nat):Int):=(bits_nat .i64 62 (by decide) Q2j a b ha hb).1
theorem K0f (s i:Nat):s.testBit i=decide (s / 2 ^ i % 2=1):=by rw [Nat.testBit_eq_decide_div_mod_eq]
end Go.Tw
namespace Go.Tw
def f1 (y:Nat):Nat:=(y / 2 &&& 85) + (y &&& 85)
def f2 (y:Nat):Nat:=(y / 4 &&& 51) + (y &&& 51)
def f3 (y:Nat):Nat:=(y / 16 + y) &&& 15
def K0i (n k:Nat):Nat:=(List.range k).countP fun i=>n.testBit i
end Go.Tw
namespace Go.Tw
open Go.RowKit
theorem J3p {x:Int} {l:List Int} (h:Z7o (x :: l)=true):∀ y ∈ l,x < y:=by
 induction l generalizing x with
 | nil=>intro y hy; cases hy
 | cons z l ih =>
   simp only [Z7o,Bool.and_eq_true,decide_eq_true_eq] at h;intro y hy
   rcases List.mem_cons.1 hy with rfl | hy
   . exact h.1
   . exact Int.lt_trans h.1 (ih h.2 y hy)
theorem J2p {x:Int} {l:List Int} (h:Z7o (x :: l)=true):Z7o l=true:=by
 cases l with
 | nil=>rfl
 | cons z l=>simp only [Z7o,Bool.and_eq_true] at h; exact h.2
theorem count_one (a:Nat) (p:Nat -> Bool):∀ k,(List.range k).countP (fun i=>p i && decide (i=a))=if a < k then (if p a then 1 else 0) else 0
 | 0=>rfl
 | k + 1=>by
   rw [List.range_succ,List.countP_append,count_one a p k,List.countP_singleton]
   by_cases h:a < k
   . have h2:¬ k=a:=by omega
     have h3:a < k + 1:=by omega
     simp [h,h2,h3]
   . by_cases h2:k=a
     . subst h2; simp
     . have h3:¬ a < k + 1:=by omega
       simp [h,h2,h3]
theorem Z2k (l:List Nat) (p q:Nat -> Bool) (h:∀ i ∈ l,¬ (p i=true /\ q i=true)):l.countP (fun i=>p i || q i)=l.countP p + l.countP q:=by
 induction l with
 | nil=>rfl
 | cons x l ih =>
   have h0:=h x (List.mem_cons_self ..);rw [List.countP_cons,List.countP_cons,List.countP_cons,ih (fun i hi=>h i (List.mem_cons_of_mem _ hi))];cases hp:p x <;> cases hq:q x <;> simp_all <;> omega
theorem X4h (k:Nat) (p:Nat -> Bool):∀ l:List Int,Z7o l=true -> (∀ x ∈ l,0 <= x /\ x < (k:Int)) -> (List.range k).countP (fun i=>p i && has l i)=l.countP fun x=>p x.toNat
 | [],_,_=>by simp [has]
 | x :: l,ha,hb=>by
   have h0:=hb x (List.mem_cons_self ..);have e:(List.range k).countP (fun i=>p i && has (x :: l) i)=(List.range k).countP (fun i=>(p i && decide (i=x.toNat)) || (p i && has l i)):=by
    refine List.countP_congr fun i _=>?_;rw [X8g];have:(x == (i:Int))=decide (i=x.toNat):=by
     by_cases h:x=(i:Int)
     . subst h; simp
     . rw [beq_false_of_ne h,decide_eq_false (by omega)]
    rw [this];cases p i <;> simp
   rw [e,Z2k,count_one,if_pos (by omega),X4h k p l (J2p ha) (fun y hy=>hb y (List.mem_cons_of_mem _ hy)),List.countP_cons]
   . omega
   . rintro i _ ⟨h1,h2⟩
     simp only [Bool.and_eq_true,decide_eq_true_eq] at h1 h2;have:=J3p ha (i:Int) (J0s.1 h2.2);omega
theorem Z0s {out:List Bool} {l:List Int} (ha:Z7o l=true) (hb:∀ x ∈ l,0 <= x /\ x < 64):K0i (X2e out &&& Y9s l) 64=failing out l:=by
 unfold K0i failing;rw [<- X4h 64 (fun i=>bx out i) l ha hb];refine List.countP_congr fun i _=>?_;rw [Nat.testBit_and,Q7e,Z4q (fun x hx=>(hb x hx).1)]
namespace Tree
def maskAt (t:Tree) (k:Nat):Nat:=if k < t.basics.length then 2 ^ k else Y9s (Q8q t.causes (k - t.basics.length))
def masks (t:Tree):List Int:=(List.range t.size).map fun k=>(t.maskAt k:Int)
def gt (t:Tree) (k:Nat):Nat × Int:=(Y9s (Q7u t.gates k),J4w (Z1m t.gates k) (Z9q t.gates k) (Q7u t.gates k).length)
def gts (t:Tree):List (Nat × Int):=(List.range t.gates.length).map t.gt
end Tree
theorem Z2j (t:Tree):t.gts.length=t.gates.length:=by simp [Tree.gts]
theorem Valid.members {t:Tree} (h:Valid t) {k:Nat} (hk:k < t.causes.length):∀ x ∈ Q8q t.causes k,0 <= x /\ x < (t.basics.length:Int):=by
 have h1:=h.event (t.basics.length + k) (by unfold Tree.size; omega)
 unfold Tree.X8e at h1;rw [Q2c] at h1;have h2:=h1 (if t.basics.length + k < t.basics.length then 0 else X5x (Q8q t.causes (t.basics.length + k - t.basics.length)) t.basics.length) (by simp)
 rw [if_neg (by omega),Nat.add_sub_cancel_left] at h2
 exact (Y0h (X6q h2).2).1
theorem X3b (t:Tree) (ev:Nat -> Bool):∀ k,(t.Q9k ev k).length=t.basics.length + k
 | 0=>by simp [Tree.Q9k,Tree.Z8q]
 | k + 1=>by rw [Tree.Q9k,List.length_append,X3b t ev k]; simp; omega
theorem Valid.J3s {t:Tree} (h:Valid t) {k:Nat} (hk:k < t.gates.length):Z7o (Q7u t.gates k)=true /\ (∀ x ∈ Q7u t.gates k,0 <= x /\ x < 44):=by
 have h1:=Y0h (X6q (h.inputs hk)).2;have:=h.size; have:=h.ng';unfold Tree.size at *;exact ⟨h1.2,fun x hx=>by have:=h1.1 x hx; omega⟩
theorem Valid.step {t:Tree} (h:Valid t) (ev:Nat -> Bool) {k:Nat} (hk:k < t.gates.length) :
    X2e (t.Q9k ev (k + 1))=if (t.gt k).2 <= (K0i (X2e (t.Q9k ev k) &&& (t.gt k).1) 64:Int) then X2e (t.Q9k ev k) ||| 2 ^ (t.basics.length + k) else X2e (t.Q9k ev k):=by
 obtain ⟨ha,hb⟩:=h.J3s hk;rw [Tree.Q9k,Z6k,X3b,Tree.gt,Z0s ha (fun x hx=>by have:=hb x hx; omega)]
 unfold J9e;simp only [decide_eq_true_eq]
def RGt (_:World) (c:Nat -> Value) (x:Nat × Int):Prop:=c 0=.int .i64 (x.1:Nat) /\ c 1=.int .i64 x.2
theorem RGt.ext (w w':World) (c:Nat -> Value) (x:Nat × Int) (_:Ext w w') (h:RGt w c x):RGt w' c x:=h
def Z6h:World -> Value -> List (Nat × Int) -> Prop:=Go.Tw.Rows 2 RGt
theorem Z6h.ext {w w':World} {v:Value} {l:List (Nat × Int)} (h:Z6h w v l) (hx:Ext w w'):Z6h w' v l:=Rows.ext RGt.ext h hx
structure K0a (w:World) (fv gv:Value) (t:Tree):Prop where
 fails:Q0g w fv t.masks
 gates:Z6h w gv t.gts
theorem K0a.ext {w w':World} {fv gv:Value} {t:Tree} (h:K0a w fv gv t) (hx:Ext w w'):K0a w' fv gv t:=⟨h.fails.ext hx,h.gates.ext hx⟩
theorem Z6h.opened {w:World} {v:Value} {t:Tree} (h:Z6h w v t.gts) :
    ∃ A Qq,v=.slice A t.gates.length Qq /\ t.gates.length <= 17592186043904 /\ t.gates.length <= Qq /\ ∀ k,k < t.gates.length -> ∃ b off,A=some ⟨b,off,none⟩ /\ b < w.heap.size /\
     w.cell? ⟨b,off + k * 2,none⟩=some (.int .i64 ((t.gt k).1:Nat)) /\ w.cell? ⟨b,off + k * 2 + 1,none⟩=some (.int .i64 (t.gt k).2):=by
 obtain ⟨c,⟨A,Qq,hv,hn,Kq,hc⟩,h2⟩:=h;rw [Z2j] at hv hn Kq hc;refine ⟨A,Qq,hv,hn,Kq,fun k hk=>?_⟩;obtain ⟨b,off,hA,h0⟩:=hc (k * 2) (by omega)
 obtain ⟨b',off',aj,h1⟩:=hc (k * 2 + 1) (by omega)
 rw [hA] at aj; cases aj;obtain ⟨e0,e1⟩:=h2 k (by rw [Z2j]; exact hk)
 have e:t.gts[k]'(by rw [Z2j]; exact hk)=t.gt k:=by simp [Tree.gts]
 rw [e] at e0 e1;simp only [Nat.add_zero] at e0;refine ⟨b,off,hA,World.block_lt_of_cell? w _ h0,?_,?_⟩
 . rw [h0,e0]
 . rw [Nat.add_assoc]; exact h1.trans (congrArg some e1)
end Go.Tw
namespace Go.Tw
open Go.RowKit Go.Flow
def Blk (w:World) (g:Nat) (T:TypeId) (cs:Array Value):Prop:=w.heap[g]?=some (.cells cs T (0,0))
theorem Blk.made (w:World) (T:TypeId) (cs:Array Value):Blk (w.alloc (.cells cs T)) w.heap.size T cs:=by show (w.heap.push _)[w.heap.size]?=_; simp
theorem Blk.cell {w:World} {g:Nat} {T:TypeId} {cs:Array Value} (h:Blk w g T cs) (k:Nat):w.cell? ⟨g,k,none⟩=cs[k]?:=by unfold Blk at h; simp [World.cell?,h]
theorem Blk.frozen {w:World} {g:Nat} {T:TypeId} {cs:Array Value} (h:Blk w g T cs) (k:Nat):w.frozen? ⟨g,k,none⟩=false:=by unfold Blk at h; simp [World.frozen?,h]
theorem Blk.set {w:World} {g:Nat} {T:TypeId} {cs:Array Value} (h:Blk w g T cs) (k:Nat) (u:Value):Blk (w.setCell ⟨g,k,none⟩ u) g T (cs.setIfInBounds k u):=by
 unfold Blk at h ⊢;simp only [World.setCell,Array.getElem?_modify,if_true,h,Option.map_some]; rfl
theorem Blk.below {w w':World} {g B:Nat} {T:TypeId} {cs:Array Value} (h:Blk w g T cs) (hb:Below B w w') (hg:g < B):Blk w' g T cs:=by
 unfold Blk at h ⊢; rw [hb.block g hg]; exact h
theorem Blk.lt {w:World} {g:Nat} {T:TypeId} {cs:Array Value} (h:Blk w g T cs):g < w.heap.size:=(Array.getElem?_eq_some_iff.1 h).1
theorem Blk.ext {w w':World} {g:Nat} {T:TypeId} {cs:Array Value} (h:Blk w g T cs) (hx:Ext w w'):Blk w' g T cs:=h.below hx h.lt
theorem Blk.drew {w:World} {g:Nat} {T:TypeId} {cs:Array Value} (h:Blk w g T cs):Blk w.drew g T cs:=h
theorem Q0q.setCell {α:Type} {w:World} {base:Nat} {e:TypeId} {enc:α -> Value} {v:Value} {l:List α} (h:Q0q w base e enc v l) {p:Addr} (hp:p.block < base) (u:Value):Q0q (w.setCell p u) base e enc v l:=by
 obtain ⟨h1,h2⟩:=h;refine ⟨h1,?_⟩
 rcases h2 with h2 | ⟨g,Qq,cur,hv,hb,hg,r⟩
 . exact .inl h2
 . exact .inr ⟨g,Qq,cur,hv,hb,by rw [Below.heap_setCell _ _ _ _ (by omega)]; exact hg,r⟩
theorem Z1x {P:Program} {w:World} {g:Nat} {T:TypeId} {cs:Array Value} (h:Blk w g T cs):(loadCells ⟨g,0,none⟩ cs.size).run P w=.ok cs w:=by
 have gen:∀ (n i:Nat) (acc:Array Value),i + n=cs.size -> acc.toList=cs.toList.take i -> (loadCellsFrom ⟨g,0,none⟩ i n acc).run P w=.ok cs w:=by
  intro n
  induction n with
  | zero =>
    intro i acc hi ha;have:acc=cs:=by
     apply Array.toList_inj.1
     rw [ha,List.take_of_length_le (by simp; omega)]
    subst this;simp [loadCellsFrom]
  | succ n ih =>
    intro i acc hi ha;have h0:=h.cell i;have Uq:i < cs.size:=by omega
    rw [Array.getElem?_eq_getElem Uq] at h0;have ea:(⟨g,0,none⟩:Addr).add i=⟨g,i,none⟩:=by rw [addr_add,Nat.zero_add]
    rw [loadCellsFrom,ea];simp only [Sem.run_bind,load,Sem.run,h0,Result.andThen_ok];refine ih (i + 1) _ (by omega) ?_
    rw [Array.toList_push,ha,<- Array.getElem_toList (by simpa using Uq),List.take_append_getElem]
 exact gen cs.size 0 #[] (by omega) rfl
theorem X0l {P:Program} {g:Nat} {T:TypeId}:∀ (vs:List Value) (i:Nat) (w:World) (cs:Array Value),Blk w g T cs -> (∀ u ∈ vs,u.oneCell'=true) -> i + vs.length=cs.size ->
    ∃ w',(storeCells ⟨g,0,none⟩ vs i).run P w=.ok () w' /\ Blk w' g T (cs.toList.take i ++ vs).toArray /\ (∀ n,n <= g -> Below n w w') /\ ∀ k,k ≠ g -> w'.heap[k]?=w.heap[k]?
 | [],i,w,cs,h,_,hi=>⟨w,by simp [storeCells],by rw [List.take_of_length_le (by simp at hi ⊢; omega),List.append_nil]; exact h,fun _ _=>Below.refl _ _,fun _ _=>rfl⟩
 | v :: vs,i,w,cs,h,h1,hi=>by
   have Uq:i < cs.size:=by simp at hi; omega
   have h0:=h.cell i;rw [Array.getElem?_eq_getElem Uq] at h0;have ea:(⟨g,0,none⟩:Addr).add i=⟨g,i,none⟩:=by rw [addr_add,Nat.zero_add]
   obtain ⟨w',hr,hb,hl,ho⟩:=X0l vs (i + 1) (w.setCell ⟨g,i,none⟩ v) (cs.setIfInBounds i v) (h.set i v) (fun u hu=>h1 u (List.mem_cons_of_mem _ hu)) (by simp at hi ⊢; omega)
   refine ⟨w',?_,?_,fun n hn=>Below.trans ((Below.refl n w).setCell (p:=⟨g,i,none⟩) hn v) (hl n hn),fun k hk=>(ho k hk).trans (Below.heap_setCell _ _ _ _ hk)⟩
   . rw [storeCells,ea]
     simp only [Sem.run_bind,run_store P w _ v _ (h1 v (List.mem_cons_self ..)),h0,h.frozen i,Bool.false_eq_true,if_false,Result.andThen_ok];exact hr
   . have e:(cs.setIfInBounds i v).toList.take (i + 1) ++ vs=cs.toList.take i ++ v :: vs:=by
      rw [Array.toList_setIfInBounds,List.take_set,List.take_succ_eq_append_getElem (by simpa using Uq)]
      simp [Nat.min_eq_left (Nat.le_of_lt Uq)]
     rw [e] at hb; exact hb
theorem Q4j {P:Program} {w:World} {g:Nat} {T BT:TypeId} {cs:Array Value} (h:Blk w g BT cs) (hA:∀ w,(isAgg T).run P w=.ok true w) (hS:∀ w,(sizeOf T).run P w=.ok cs.size w):(loadVar T ⟨g,0,none⟩).run P w=.ok (.agg cs) w:=by
 unfold loadVar;simp only [Sem.run_bind,hA,Result.andThen_ok,if_true,hS,Z1x h,Sem.run_pure]
theorem Q9g {P:Program} {w:World} {ops:Array Oper} {rest:List Oper} {o:Oper} {a:Act} {Q:Exit -> Act -> World -> Prop} (hg:o.guard=none) (p:Operand) (T:TypeId) (Ow:o.op=.load T p)
    (hA:∀ w,(isAgg T).run P w=.ok true w) {n:Nat} (hS:∀ w,(sizeOf T).run P w=.ok n w) {g:Nat} (hp:a.eval p=.pointer (some ⟨g,0,none⟩)) {BT:TypeId} {cs:Array Value} (hb:Blk w g BT cs) (hn:cs.size=n)
    (hK:wpList P ops Q rest (a.put o.dst (.agg cs)) w):wpList P ops Q (o :: rest) a w:=by
 subst hn;refine wpList_plain hg fun K' B3=>?_;unfold Oper.wp;have hr:(execOp a.eval o).run P w=.ok (.value (.agg cs)) w:=by
  unfold execOp;simp only [Ow,hp,Instr.loadAt,Instr.sureAddr,Sem.run_bind,Sem.run_pure,Result.andThen_ok,Q4j hb hA hS]
 rw [hr];exact B3 _ _ hK
theorem Q0t {P:Program} {w:World} {ops:Array Oper} {rest:List Oper} {o:Oper} {a:Act} {Q:Exit -> Act -> World -> Prop} (hg:o.guard=none) (p x:Operand) (T:TypeId) (Ow:o.op=.store T p x)
    {n:Nat} (hS:∀ w,(sizeOf T).run P w=.ok n w) {g:Nat} (hp:a.eval p=.pointer (some ⟨g,0,none⟩)) {BT:TypeId} {cs vs:Array Value} (hx:a.eval x=.agg vs) (hb:Blk w g BT cs) (hn:cs.size=n) (hv:vs.size=n) (h1:∀ u ∈ vs.toList,u.oneCell'=true)
    (hK:∀ w',Blk w' g BT vs -> (∀ n,n <= g -> Below n w w') -> (∀ k,k ≠ g -> w'.heap[k]?=w.heap[k]?) -> wpList P ops Q rest (a.put o.dst undef) w'):wpList P ops Q (o :: rest) a w:=by
 refine wpList_plain hg fun K' B3=>?_;unfold Oper.wp;obtain ⟨w',hr,Mk,hl,ho⟩:=X0l (P:=P) vs.toList 0 w cs hb h1 (by simp [hn,hv])
 have hs:(storeVar T ⟨g,0,none⟩ (.agg vs)).run P w=.ok () w':=by
  have hc:(Value.agg vs).cells=vs:=rfl;unfold storeVar;simp only [Sem.run_bind,hS,Result.andThen_ok];rw [if_neg (by rw [hc]; simp [hv])]
  exact hr
 have Ck:(execOp a.eval o).run P w=.ok .skip w':=by
  unfold execOp;simp only [Ow,hp,hx,Instr.storeAt,Instr.sureAddr,Sem.run_bind,Sem.run_pure,Result.andThen_ok,hs]
 rw [Ck];exact B3 _ _ (hK w' (by simpa using Mk) hl ho)
theorem Q2e {P:Program} {fn:Func} {p:Tmp} {T:TypeId} (h:fn.results=#[.cell p T]) {tmps:Array Value} {w:World} {g:Nat} (ht:tmps.getD p undef=.pointer (some ⟨g,0,none⟩)) {BT:TypeId} {cs:Array Value} (hb:Blk w g BT cs)
    (hA:∀ w,(isAgg T).run P w=.ok true w) (hS:∀ w,(sizeOf T).run P w=.ok cs.size w):(results fn tmps).run P w=.ok (.agg cs) w:=by
 unfold results;rw [h];simp only [List.mapM_toArray,List.mapM_cons,List.mapM_nil,Sem.run_bind,Sem.run_pure,ht,asAddr];simp [Q4j hb hA hS]
theorem Q3t {P:Program} {K:Value -> World -> Prop} {o:Oper} {a:Act} {w:World} {T:TypeId} (p x:Operand) (ho:o.op=.store T p x) (hT:∀ w,(sizeOf T).run P w=.ok 1 w) {g k:Nat} (hp:a.eval p=.pointer (some ⟨g,k,none⟩)) {u:Value} (hx:a.eval x=u) (hu:u.cells=#[u]) (h1:u.oneCell'=true) {BT:TypeId} {cs:Array Value} (hb:Blk w g BT cs) (hk:k < cs.size)
    (h:∀ v,K v (w.setCell ⟨g,k,none⟩ u)):gives P K ((execOp a.eval o).run P w):=by
 have h0:=hb.cell k;rw [Array.getElem?_eq_getElem hk] at h0;have hs:(storeVar T ⟨g,k,none⟩ u).run P w=.ok () (w.setCell ⟨g,k,none⟩ u):=by
  unfold storeVar;simp only [Sem.run_bind,hT,Result.andThen_ok,hu];rw [if_neg (by simp)]
  simp only [storeCells,Sem.run_bind,Sem.run_pure];have ea:(⟨g,k,none⟩:Addr).add 0=⟨g,k,none⟩:=by rw [addr_add,Nat.add_zero]
  rw [ea,run_store P w _ u _ h1];simp only [h0,hb.frozen k,Bool.false_eq_true,if_false,Result.andThen_ok]
 unfold execOp;simp only [ho,hp,hx,Instr.storeAt,Instr.sureAddr,Sem.run_bind,Sem.run_pure,Result.andThen_ok,hs];exact h _
theorem Q0q.only {α:Type} {w w':World} {base g:Nat} {e:TypeId} {enc:α -> Value} {v:Value} {l:List α} (h:Q0q w base e enc v l) (hg:g < base) (ho:∀ k,k ≠ g -> w'.heap[k]?=w.heap[k]?):Q0q w' base e enc v l:=by
 obtain ⟨h1,h2⟩:=h;refine ⟨h1,?_⟩
 rcases h2 with h2 | ⟨g',Qq,cur,hv,hb,sk,r⟩
 . exact .inl h2
 . exact .inr ⟨g',Qq,cur,hv,hb,by rw [ho _ (by omega)]; exact sk,r⟩
theorem Q1d.only {α:Type} {w w':World} {base g k:Nat} {e:TypeId} {enc:α -> List Value} {v:Value} {l:List α} (h:Q1d w base e k enc v l) (hg:g < base) (ho:∀ k,k ≠ g -> w'.heap[k]?=w.heap[k]?):Q1d w' base e k enc v l:=by
 obtain ⟨h1,h2⟩:=h;refine ⟨h1,?_⟩
 rcases h2 with h2 | ⟨g',Qq,cur,hv,hb,sk,r⟩
 . exact .inl h2
 . exact .inr ⟨g',Qq,cur,hv,hb,by rw [ho _ (by omega)]; exact sk,r⟩
theorem Q1d.shape {α:Type} {w:World} {base k:Nat} {e:TypeId} {enc:α -> List Value} {v:Value} {l:List α} (h:Q1d w base e k enc v l):∃ b c,v=.slice b l.length c /\ l.length <= c:=by
 rcases h.2 with ⟨rfl,h0⟩ | ⟨g,Qq,cur,rfl,_,_,hc,_⟩
 . exact ⟨none,0,by rw [h0],by omega⟩
 . exact ⟨_,Qq,rfl,hc⟩
theorem Q3u (w:World) (p:Addr) (u:Value):∀ k,k ≠ p.block -> (w.setCell p u).heap[k]?=w.heap[k]?:=fun _ hk=>Below.heap_setCell _ _ _ _ hk
theorem Q2q (w:World) (T:TypeId) (cs:Array Value):∃ W,w.alloc (.cells cs T)=W /\ Blk W w.heap.size T cs /\ Hid (Ext w W) /\ W.heap.size=w.heap.size + 1:=⟨_,rfl,Blk.made _ _ _,hid (Ext.box _ _),by simp⟩
theorem Q4p (w:World) (T:TypeId) (cs:Array Value) (T':TypeId) (cs':Array Value):∃ W,(w.alloc (.cells cs T)).alloc (.cells cs' T')=W /\ Blk W w.heap.size T cs /\ Blk W (w.heap.size + 1) T' cs' /\ Hid (Ext w W) /\ W.heap.size=w.heap.size + 1 + 1:=by
 obtain ⟨X,rfl,h1,h2,h3⟩:=Q2q w T cs;refine ⟨_,rfl,h1.ext (Ext.box _ _),?_,hid (h2.out.trans (Ext.box _ _)),by simp⟩
 rw [<- h3]; exact Blk.made _ _ _
theorem X0c (w:World) (T:TypeId) (cs:Array Value) (T':TypeId) (cs':Array Value) (T'':TypeId) (cs'':Array Value):∃ W,((w.alloc (.cells cs T)).alloc (.cells cs' T')).alloc (.cells cs'' T'')=W /\ Blk W w.heap.size T cs /\ Blk W (w.heap.size + 1) T' cs' /\ Blk W (w.heap.size + 1 + 1) T'' cs'' /\ Hid (Ext w W) /\ W.heap.size=w.heap.size + 1 + 1 + 1:=by
 obtain ⟨X,rfl,h1,h2,h3,h4⟩:=Q4p w T cs T' cs';refine ⟨_,rfl,h1.ext (Ext.box _ _),h2.ext (Ext.box _ _),?_,hid (h3.out.trans (Ext.box _ _)),by simp⟩
 rw [<- h4]; exact Blk.made _ _ _
end Go.Tw
namespace Go.Proofs
open Go.RowKit Go.Tw Go.Flow
def Z2m (lim:Int) (l:List Int):Bool:=!(l.any fun x=>decide (lim < x))
theorem J1p (m:Mem) (lim:Int) (c:List Bool):m.keeps lim c=Z2m lim (m.Q2a c):=rfl
def Q5l (s:Q0b) (l:List Int) (k:Nat):Int:=Q1t s (l.take k)
theorem X3j {s:Q0b} {l:List Int} {k:Nat} (hk:k < l.length):Q5l s l (k + 1)=Q5l s l k + Q0n s.members (ix l k).toNat:=by
 unfold Q5l Q1t;rw [List.take_add_one,List.getElem?_eq_getElem hk,List.map_append,List.sum_append,Q5g hk]; simp
theorem X9z {s:Q0b} (hv:Q0r s) {l:List Int} (hl:∀ x ∈ l,0 <= x /\ x < s.members.length):∀ k,k <= l.length -> 0 <= Q5l s l k /\ Q5l s l k <= 1000 * k
 | 0,_=>⟨Int.le_refl _,Int.le_refl _⟩
 | k + 1,h=>by
   obtain ⟨h1,h2⟩:=X9z hv hl k (by omega)
   have h3:=hl _ (List.getElem_mem (show k < l.length by omega))
   rw [<- Q5g] at h3;have:=hv.weights (ix l k).toNat (by omega)
   rw [X3j (by omega)]
   omega
end Go.Proofs
namespace Go.Flow
open Go.RowKit Go.Tw
abbrev rnd (l:Nat):Fence:=Fence.wide.inRound l
section
variable {P:Program} {ops:Array Oper} {pre:Nat -> List Nat}
theorem Q9b {l n:Nat} {o:Oper} {a:Act} {K:Act -> World -> Prop} {Q:Exit -> Act -> World -> Prop} {r:Result Next} (h:gives P (fun v w=>K (a.put o.dst v) w) r):o.uponIn (rnd l) n P a K Q r:=by
 cases r with
 | ok n' w =>
   cases n' <;> simp only [gives,Oper.uponIn] at h ⊢
   case value=>exact h
   case skip=>exact h
   case enter =>
    refine ⟨fun hd=>by simp [rnd,Fence.inRound,Fence.wide] at hd,CallsIn.inRound l (callsIn_wide.2 (h.mono fun e w ⟨u,he,hu⟩=>?_))⟩
    subst he; exact hu
   case row =>
    exact ⟨fun hd=>by simp [rnd,Fence.inRound,Fence.wide] at hd,fun c cs _=>let ⟨v,w',hr,hs⟩:=h c cs; ⟨v,w',hr,stepsIn_wide.2 hs⟩⟩
 | halt x w=>exact h.elim
theorem X7s (tail:List Nat) (kind:Nat -> Kind) {Rel:World -> World -> Prop} {D:Nat -> (Nat -> Value) -> World -> Prop} {E:Nat -> (Nat -> Value) -> World -> World -> Prop}
    {id:Nat} {Q:Exit -> Act -> World -> Prop} {a0:Act} {w:World} {l n:Nat} (hm:P.follows .mixedOrders=true) (sy:∀ (j:Nat) (o:Oper),ops[j]?=some o -> ∀ c,o.op ≠ .defer c) (Vj:Ok ops pre)
    (Lj:∀ i (h:i < tail.length),tail[i] < ops.size) (Dj:∀ i k (hi:i < tail.length) (hk:k < tail.length),i < k -> tail[i] ∈ pre tail[k])
    (Cx:∀ j,j < ops.size -> j ∉ tail -> ∀ k ∈ pre j,k ∉ tail) (Nk:∀ j,j < ops.size -> (kind j=.last ↔ j ∈ tail)) (fj:∀ j,j < ops.size -> kind j=.world -> ∀ s ∈ tail,j ∈ pre s)
    (Uj:∀ w,Rel w w) (tz:∀ a b c,Rel a b -> Rel b c -> Rel a c) (Ay:∀ k,k < ops.size -> ∀ v w w',Rel w w' -> D k v w -> D k v w')
    (Yz:∀ j o,ops[j]?=some o -> j ∉ tail -> ∀ v w1,Rel w.drew w1 -> (∀ k ∈ pre j,D k (mask pre k v) w1) -> vc P ops pre Rel D (fun _ _ _=>False) (fun _ _ _=>False) (kind j) o j (act (fun k=>decide (k < j)) v ops.toList 0 a0) v w1)
    (Dv:∀ c (hc:c < tail.length) o,ops[tail[c]]?=some o -> ∀ v w1,Rel w.drew w1 -> (∀ k ∈ pre tail[c],k ∉ tail -> D k (mask pre k v) w1) -> vc P ops pre Rel D (Tail pre tail E c) (E c) .last o tail[c] (act (fun k=>decide (k < tail[c])) v ops.toList 0 a0) v w1)
    (iq:∀ v w1 w',Rel w.drew w1 -> (∀ k,k < ops.size -> k ∉ tail -> D k (mask pre k v) w1) -> Tail pre tail E tail.length v w1 w' -> Q .normal (act (fun _=>true) v ops.toList 0 a0) w') :
    (Code.region id ops true).wpIn (rnd l) n P Q a0 w:=by
 refine wpIn_region_any hm ?_;have Lx:∀ (X:Nat -> Bool),(∀ j o,ops[j]?=some o -> X j=true -> ∀ e ∈ o.after,Region.binds .any e=true -> X e.on=true) ->
     ∀ j o,ops[j]?=some o -> (∀ e ∈ o.after,Region.binds .any e=true -> X e.on=true) -> ∀ i ∈ pre j,X i=true:=by
  intro X hX j
  induction j using Nat.strongRecOn with
  | _ j ih =>
    intro o ho mq i hi;obtain ⟨e,he,hb,hc⟩:=Vj.pre j o ho i hi
    rcases hc with rfl | hc
    . exact mq e he hb
    . have Uq:=Vj.edge j o ho e he hb
      have hj:j < ops.size:=(Array.getElem?_eq_some_iff.1 ho).1;have Ox:ops[e.on]?=some ops[e.on]:=Array.getElem?_eq_getElem (by omega)
      exact ih e.on Uq _ Ox (hX e.on _ Ox (mq e he hb)) i hc
 have main:∀ (fuel:Nat) (listed:Array Bool) (a:Act) (wc:World),listed.size=ops.size -> left ops.size listed <= fuel ->
     (∀ j o,ops[j]?=some o -> listed.getD j false=true -> ∀ e ∈ o.after,Region.binds .any e=true -> listed.getD e.on false=true) ->
     (∃ v w1 c,Inv ops pre Rel D E tail [] a0 w.drew (fun k=>listed.getD k false) v w1 c a wc) -> wpAnyIn (rnd l) n P .any ops Q fuel listed a wc:=by
  intro fuel;have Bz:∀ (listed:Array Bool) (a:Act) (wc:World),listed.size=ops.size ->
      (∃ v w1 c,Inv ops pre Rel D E tail [] a0 w.drew (fun k=>listed.getD k false) v w1 c a wc) -> Region.ready .any ops listed=[] -> Q .normal a wc:=by
   rintro listed a wc oq ⟨v,w1,c,hI⟩ hr;have mq:∀ j,j < ops.size -> listed.getD j false=true:=by
    intro j
    induction j using Nat.strongRecOn with
    | _ j ih =>
      intro hj;cases hx:listed.getD j false with
      | true=>rfl
      | false =>
        have pq:j ∈ Region.ready .any ops listed:=mem_ready.2 ⟨by rw [Q3p (by omega)]; exact hx,ops[j],Array.getElem?_eq_getElem hj,fun e he hb =>
         have Uq:=Vj.edge j _ (Array.getElem?_eq_getElem hj) e he hb
         ih e.on Uq (by omega)⟩
        rw [hr] at pq;cases pq
   have D3:a=act (fun _=>true) v ops.toList 0 a0:=by
    rw [hI.act];refine X2k (by rw [Q3h,Q3h]) fun t=>Q6y _ _ _ _ t _ 0 _ _ rfl rfl fun k o ho _=>⟨?_,fun _=>rfl⟩
    rw [Nat.zero_add];exact mq k (by simpa using (List.getElem?_eq_some_iff.1 ho).1)
   rw [D3];refine iq v w1 wc hI.rel (fun k hk Ax=>hI.facts k (mq k hk) Ax) ?_;have hl:=hI.last;have hc:c=tail.length:=by
    rcases Nat.lt_or_ge c tail.length with h | h
    . have h1:listed.getD tail[c] false=false:=hI.after c h (Nat.le_refl _)
      have h2:=mq _ (Lj c h);rw [h2] at h1; cases h1
    . have:=hI.count; omega
   rw [hc] at hl;exact hl
  induction fuel with
  | zero =>
    intro listed a wc oq zy _ hI;have hr:Region.ready .any ops listed=[]:=by
     refine List.eq_nil_iff_forall_not_mem.2 fun j hj=>?_;obtain ⟨Ez,o,ho,_⟩:=mem_ready.1 hj;have Uq:j < ops.size:=(Array.getElem?_eq_some_iff.1 ho).1;have:=X1h oq Uq Ez;omega
    exact ⟨hr,Bz listed a wc oq hI hr⟩
  | succ fuel ih =>
    intro listed a wc oq zy hcl hI;refine ⟨Bz listed a wc oq hI,fun j hj=>?_⟩;obtain ⟨v,w1,c,hI⟩:=hI;obtain ⟨Ez,o,ho,mq⟩:=mem_ready.1 hj;have Uq:j < ops.size:=(Array.getElem?_eq_some_iff.1 ho).1;have lx:listed.getD j false=false:=by rw [<- Q3p (by omega)]; exact Ez
    have Vz:=Lx (fun k=>listed.getD k false) hcl j o ho mq;have N2:ops.toList[j]?=some o:=by simpa using ho
    have Tx:∀ k,k < ops.size -> listed.getD k false=true -> j ∉ pre k:=by
     intro k hk hx pq;have Ox:ops[k]?=some ops[k]:=Array.getElem?_eq_getElem hk;have h2:listed.getD j false=true:=Lx (fun k=>listed.getD k false) hcl k _ Ox (hcl k _ Ox hx) j pq;rw [lx] at h2; cases h2
    have Uz:∀ k o',j < k -> ops[k]?=some o' -> listed.getD k false=true -> o.apart ops o'=true:=by
     intro k o' hk Ox hx
     rcases Vj.apart j k o o' hk ho Ox with h | h
     . exact h
     . exact absurd h (Tx k (Array.getElem?_eq_some_iff.1 Ox).1 hx)
    have Tz:∀ t ∈ o.looksAt ops,a.tmps[t]?=(act (fun k=>decide (k < j)) v ops.toList 0 a0).tmps[t]?:=by
     intro t ht;rw [hI.act];refine Q6y _ _ _ _ t _ 0 _ _ rfl rfl fun k o' Ox hd=>?_;rw [Nat.zero_add];refine ⟨?_,fun _=>rfl⟩;have yy:ops[k]?=some o':=by simpa using Ox
     rcases Nat.lt_trichotomy k j with hk | hk | hk
     . simp only [hk,decide_true]
       rcases Vj.apart k j o' o hk yy ho with h | h
       . exact absurd ht ((Oper.apart_spec h).1 t hd)
       . exact Vz k h
     . subst hk
       simp [lx]
     . have C3:¬ k < j:=by omega
       simp only [C3,decide_false];cases hx:listed.getD k false with
       | false=>rfl
       | true=>exact absurd ht ((Oper.apart_spec (Uz k o' hk yy hx)).2.2 t hd)
    have zx:execOp a.eval o=execOp (act (fun k=>decide (k < j)) v ops.toList 0 a0).eval o:=execOp_congr o (fun cs b=>Vj.sel j o cs b ho) (eval_congr o Tz);have xy:Region.wanted o (yielded ops a.tmps)=Region.wanted o (yielded ops (act (fun k=>decide (k < j)) v ops.toList 0 a0).tmps):=Q9z o Tz;have Zv:∀ u,a.put o.dst u=act (fun k=>if k=j then true else listed.getD k false) (upd v j u) ops.toList 0 a0:=by
     intro u;rw [hI.act];refine Y5k N2 lx fun k o' hk Ox hx=>?_;cases hd:o.dst with
     | none=>exact .inr rfl
     | some d=>exact .inl ((Oper.apart_spec (Uz k o' hk (by simpa using Ox) hx)).2.1 d hd)
    have hX:(fun k=>(listed.setIfInBounds j true).getD k false)=fun k=>if k=j then true else listed.getD k false:=by
     funext k
     split
     . rename_i hk; subst hk; simp [oq,Uq]
     . rename_i hk; exact getD_set_ne false (Ne.symm hk)
    have Cj:j ∈ tail -> ∃ h:c < tail.length,tail[c]=j:=by
     intro pq;obtain ⟨i,hi,he⟩:=List.getElem_of_mem pq;have Qe:c <= i:=by
      rcases Nat.lt_or_ge i c with h | h
      . have:=hI.before i hi h
        simp only [he] at this;rw [lx] at this; cases this
      . exact h
     have:c=i:=by
      rcases Nat.lt_or_ge c i with h | h
      . have hx:=Vz tail[c] (by rw [<- he]; exact Dj c i (by omega) hi h)
        have h1:=hI.after c (by omega) (Nat.le_refl _)
        rw [hx] at h1; cases h1
      . omega
     subst this;exact ⟨hi,he⟩
    have bq:∀ (u:Value) (w1' wc':World) (c':Nat),Rel w1 w1' -> (j ∉ tail -> D j (mask pre j (upd v j u)) w1') -> (j ∉ tail -> c'=c) -> (j ∈ tail -> c'=c + 1) ->
        Tail pre tail E c' (upd v j u) w1' wc' -> wpAnyIn (rnd l) n P .any ops Q fuel (listed.setIfInBounds j true) (a.put o.dst u) wc':=by
     intro u w1' wc' c' hrel hD Nx Yx hE;refine ih _ _ _ (by simpa using oq) (by have:=X1h oq Uq Ez; omega) (fun k ok Yv hx e he hb=>?_) ⟨upd v j u,w1',c',⟨by rw [hX]; exact Zv u,tz _ _ _ hI.rel hrel,fun k hx Ax=>?_,?_,fun i hi hic=>?_,fun i hi hic=>?_,hE,fun _ h=>(nomatch h),fun _ h=>(nomatch h)⟩⟩
     . by_cases Kz:k=j
       . subst Kz
         rw [ho] at Yv;cases Yv;exact getD_set_true (mq e he hb)
       . rw [getD_set_ne false (Ne.symm Kz)] at hx
         exact getD_set_true (hcl k ok Yv hx e he hb)
     . rw [congrFun hX k] at hx
       by_cases Kz:k=j
       . subst Kz; exact hD Ax
       . rw [if_neg Kz] at hx
         have vy:k < ops.size:=by
          rcases Nat.lt_or_ge k ops.size with h | h
          . exact h
          . rw [<- oq] at h; simp [Array.getElem?_eq_none h] at hx
         rw [X0s (Ne.symm Kz) (Tx k vy hx)];exact Ay k vy _ _ _ hrel (hI.facts k hx Ax)
     . by_cases qq:j ∈ tail
       . obtain ⟨h,_⟩:=Cj qq
         rw [Yx qq]; omega
       . rw [Nx qq]; exact hI.count
     . rw [congrFun hX]
       by_cases hij:tail[i]=j
       . rw [if_pos hij]
       . rw [if_neg hij]
         by_cases qq:j ∈ tail
         . obtain ⟨h,he⟩:=Cj qq
           rw [Yx qq] at hic;have:i ≠ c:=fun e=>hij (by subst e; exact he)
           exact hI.before i hi (by omega)
         . rw [Nx qq] at hic; exact hI.before i hi hic
     . rw [congrFun hX]
       by_cases qq:j ∈ tail
       . obtain ⟨h,he⟩:=Cj qq
         rw [Yx qq] at hic;rw [if_neg (fun e=>by
          have h1:=Dj c i h hi (by omega)
          rw [e,he] at h1;obtain ⟨e',kX,Mk,Sw⟩:=Vj.pre j o ho j h1;have hl:=Vj.edge j o ho e' kX Mk;have h2:listed.getD j false=true:=Vz j h1;rw [lx] at h2; cases h2)]
         exact hI.after i hi (by omega)
       . rw [Nx qq] at hic
         rw [if_neg (fun e=>qq (by rw [<- e]; exact List.getElem_mem hi))]
         exact hI.after i hi hic
    have Tj:j ∉ tail -> ∀ u,Tail pre tail E c (upd v j u) w1 wc:=by
     intro qq u;have hl:=hI.last;cases c with
     | zero=>exact hl
     | succ c =>
       have ig:c < tail.length:=by have:=hI.count; omega
       change E c (mask pre (tail.getD c 0) v) w1 wc at hl;show E c (mask pre (tail.getD c 0) (upd v j u)) w1 wc;have e:tail.getD c 0=tail[c]:=by simp [ig]
       rw [e] at hl ⊢;rw [X0s (fun h=>qq (by rw [h]; exact List.getElem_mem ig)) (Tx _ (Lj c ig) (hI.before c ig (by omega)))]
       exact hl
    unfold wpOpIn;simp only [ho];rw [xy]
    by_cases qq:j ∈ tail
    . obtain ⟨hc,he⟩:=Cj qq
      have hv:=Dv c hc o (by rw [he]; exact ho) v w1 hI.rel (fun k hk E9=>hI.facts k (Vz k (by rw [<- he]; exact hk)) E9) wc hI.last
      rw [he] at hv;have hT:∀ u w',E c (mask pre j (upd v j u)) w1 w' -> Tail pre tail E (c + 1) (upd v j u) w1 w':=by
       intro u w' h;show E c (mask pre (tail.getD c 0) (upd v j u)) w1 w';have e:tail.getD c 0=j:=by simp [hc,he]
       rw [e]; exact h
      rcases hv with ⟨lq,hg⟩ | ⟨Az,hD⟩
      . rw [if_pos lq]
        refine ⟨fun _ _=>trivial,?_⟩;rw [show (rnd l).round=some l from rfl,Oper.semAt_some l _ _ (sy j o ho)]
        rw [zx];exact Q9b (Q5d (fun u w' h=>bq u w1 w' (c + 1) (Uj _) (fun h=>absurd qq h) (fun h=>absurd qq h) (fun _=>rfl) (hT u w' h)) hg)
      . rw [if_neg (by rw [Az]; simp)]
        refine ⟨fun _ _=>trivial,?_⟩;exact bq undef w1 wc (c + 1) (Uj _) (fun h=>absurd qq h) (fun h=>absurd qq h) (fun _=>rfl) (hT _ _ hD)
    . have Vk:∀ k ∈ pre j,D k (mask pre k v) w1:=fun k hk=>hI.facts k (Vz k hk) (Cx j Uq qq k hk)
      have hv:=Yz j o ho qq v w1 hI.rel Vk;cases hk:kind j with
      | plain =>
        rw [hk] at hv
        rcases hv with ⟨lq,u,px,hD⟩ | ⟨Az,hD⟩
        . rw [if_pos lq]
          refine ⟨fun _ _=>trivial,?_⟩;rw [show (rnd l).round=some l from rfl,Oper.semAt_some l _ _ (sy j o ho)]
          rw [zx,px wc];exact bq u w1 wc c (Uj _) (fun _=>hD) (fun _=>rfl) (fun h=>absurd h qq) (Tj qq u)
        . rw [if_neg (by rw [Az]; simp)]
          refine ⟨fun _ _=>trivial,?_⟩;exact bq undef w1 wc c (Uj _) (fun _=>hD) (fun _=>rfl) (fun h=>absurd h qq) (Tj qq undef)
      | world =>
        have Rw:c=0:=by
         rcases Nat.eq_zero_or_pos c with h | h
         . exact h
         . have h0:0 < tail.length:=by have:=hI.count; omega
           have hx:=hI.before 0 h0 h;exact absurd (fj j Uq hk tail[0] (List.getElem_mem h0)) (Tx _ (Lj 0 h0) hx)
        subst Rw;have M2:wc=w1:=hI.last;subst M2;rw [hk] at hv
        rcases hv with ⟨lq,hg⟩ | ⟨Az,hD⟩
        . rw [if_pos lq]
          refine ⟨fun _ _=>trivial,?_⟩;rw [show (rnd l).round=some l from rfl,Oper.semAt_some l _ _ (sy j o ho)]
          rw [zx];exact Q9b (Q5d (fun u w' h=>bq u w' w' 0 h.1 (fun _=>h.2) (fun _=>rfl) (fun h=>absurd h qq) rfl) hg)
        . rw [if_neg (by rw [Az]; simp)]
          refine ⟨fun _ _=>trivial,?_⟩;exact bq undef wc wc 0 (Uj _) (fun _=>hD) (fun _=>rfl) (fun h=>absurd h qq) rfl
      | last=>exact absurd ((Nk j Uq).1 hk) qq
 refine main ops.size _ a0 _ (by simp) ?_ (fun j o _ hx=>?_) ⟨fun _=>undef,w.drew,0,?_,Uj _,fun k hx=>?_,Nat.zero_le _,fun i _ h=>absurd h (Nat.not_lt_zero _),fun i _ _=>?_,rfl,fun _ h=>(nomatch h),fun _ h=>(nomatch h)⟩
 . exact Nat.le_trans (List.countP_le_length) (by simp)
 . have:=Q3n ops.size j
   rw [this] at hx; cases hx
 . refine (X2k (by rw [Q3h]) fun t=>?_)
   have:∀ (l:List Oper) (i:Nat) (a:Act),act (fun k=>(Array.replicate ops.size false).getD k false) (fun _=>undef) l i a=a:=by
    intro l; induction l with
    | nil=>intro i a; rfl
    | cons o l ih=>intro i a; rw [act,ih,Q3n]; rfl
   rw [this]
 . have:=Q3n ops.size k
   rw [this] at hx; cases hx
 . exact Q3n ops.size _
end
def X9a (l:List Oper):Bool:=l.all fun o=>match o.op with | .defer _=>false | _=>true
theorem Y9v {l:List Oper} (h:X9a l=true):∀ (j:Nat) (o:Oper),l.toArray[j]?=some o -> ∀ c,o.op ≠ .defer c:=by
 intro j o ho c hc;have hm:o ∈ l:=List.mem_of_getElem? (by simpa using ho)
 have:=List.all_eq_true.1 h o hm;simp [hc] at this
section
variable {P:Program} {id:Nat} {Q:Exit -> Act -> World -> Prop} {a0:Act} {w:World} {ops:List Oper}
theorem J0c {l n:Nat} (kl:List Kind) (jl:List Nat) (pl:List (List Nat)) (tail:List Nat) (Dl:List Spec) (El:List ((Nat -> Value) -> World -> World -> Prop))
    (hm:P.follows .mixedOrders=true) (sy:X9a ops=true) (Qj:jl=List.range' 0 ops.length) (Vj:okL ops pl kl tail El.length=true)
    (Yz:X7x P ops.toArray (lookup pl []) tail w.drew (fun k=>(lookup Dl .none k).D) El (fun _ w1 w=>w=w1) ops kl jl (fun _=>a0))
    (iq:∀ v w1,Ext w.drew w1 -> All (lookup pl []) (fun k=>(lookup Dl .none k).D) v w1 tail jl (∀ w',endOf (lookup pl []) v w1 w' tail El -> Q .normal (acts v ops jl a0) w')) :
    (Code.region id ops.toArray true).wpIn (rnd l) n P Q a0 w:=by
 subst Qj;simp only [Y4u] at iq;simp only [okL,Bool.and_eq_true,List.all_eq_true,List.mem_range,beq_iff_eq,Bool.or_eq_true,Bool.not_eq_true',List.contains_eq_mem,decide_eq_true_eq,decide_eq_false_iff_not] at Vj;obtain ⟨⟨⟨⟨⟨⟨Vj,Dq⟩,Lj⟩,hn⟩,Dj⟩,Cx⟩,fj⟩:=Vj;have pq:∀ j,j ∈ tail ↔ j < ops.length /\ isLast (lookup kl .plain j)=true:=by intro j; rw [Lj,List.mem_filter,List.mem_range]
 have hk:∀ j,isLast (lookup kl .plain j)=true ↔ lookup kl .plain j=.last:=by intro j; cases lookup kl .plain j <;> simp [isLast]
 have dg:lasts kl 0=tail:=by
  rw [X8d,Lj,Dq,List.range_eq_range'];rfl
 have gX:∀ n,n < (lasts kl 0).length -> El[n]?=some ((fun c=>(El[c]?).getD fun _ _ _=>True) (0 + n)):=by
  intro n d6;rw [dg,<- hn] at d6;simp [d6]
 have Dg:∀ v w1 w',Tail (lookup pl []) tail (fun c=>(El[c]?).getD fun _ _ _=>True) tail.length v w1 w' -> endOf (lookup pl []) v w1 w' tail El:=by
  intro v w1 w' h;have gen:∀ (tl:List Nat) (el:List ((Nat -> Value) -> World -> World -> Prop)),el.length=tl.length -> (tl=[] -> w'=w1) -> (∀ (hne:tl ≠ []),((el[tl.length - 1]?).getD fun _ _ _=>True) (mask (lookup pl []) (tl.getD (tl.length - 1) 0) v) w1 w') -> endOf (lookup pl []) v w1 w' tl el:=by
   intro tl
   induction tl with
   | nil=>intro el _ h0 _; cases el <;> exact h0 rfl
   | cons j tl ih =>
     intro el hl _ h1;cases el with
     | nil=>simp at hl
     | cons E el =>
       cases tl with
       | nil=>cases el with
         | nil=>simpa [endOf] using h1 (by simp)
         | cons _ _=>simp at hl
       | cons j' tl=>cases el with
         | nil=>simp at hl
         | cons E' el =>
           show endOf _ v w1 w' (j' :: tl) (E' :: el);exact ih _ (by simpa using hl) (fun h=>by simp at h) (fun _=>by simpa using h1 (by simp))
  refine gen tail El hn.symm.symm (fun h0=>?_) (fun hne=>?_)
  . rw [h0] at h; exact h
  . obtain ⟨m,hm⟩:∃ m,tail.length=m + 1:=⟨tail.length - 1,by have:=List.length_pos_iff.2 hne; omega⟩
    rw [hm] at h;rw [hm,Nat.add_sub_cancel];exact h
 refine X7s tail (lookup kl .plain) (Rel:=Ext) (D:=fun k=>(lookup Dl .none k).D) (E:=fun c=>(El[c]?).getD fun _ _ _=>True) hm (Y9v sy) (J6m Vj)
  (fun i hi=>by simpa using ((pq _).1 (List.getElem_mem hi)).1) (fun i k hi hk hik=>by have:=Dj k hk i hik; simpa [hi,hk] using this)
  (fun j Qj nw k hk'=>?_) (fun j Qj=>?_) (fun j Qj hjw s hs=>?_)
  Ext.refl (fun _ _ _=>Ext.trans) (fun k _ v w w' hx hd=>(lookup Dl .none k).mono v w w' hx hd) (fun j o ho nw v w1 hx hf=>?_) (fun c hc o ho v w1 hx hf=>?_) (fun v w1 w' hx hf hE=>?_)
 . rcases Cx j (by simpa using Qj) with h | h
   . exact absurd ((pq j).2 ⟨by simpa using Qj,h⟩) nw
   . exact h k hk'
 . rw [pq,hk]; simp at Qj; simp [Qj]
 . rcases fj j (by simpa using Qj) with h | h
   . rw [hjw] at h; simp [X9n] at h
   . exact h s hs
 . have Qj:j < ops.length:=by simpa using (Array.getElem?_eq_some_iff.1 ho).1
   have:=Z1y ops kl El _ 0 _ Dq Yz j o (by simpa using ho) (fun h=>nw ((pq j).2 ⟨Qj,(hk j).2 h⟩)) v w1 hx (by simpa using hf)
   rw [Nat.zero_add] at this;have e:=Q5c v ops 0 j a0;rw [Nat.zero_add] at e
   simpa [e] using this
 . have:=X0k (fun c=>(El[c]?).getD fun _ _ _=>True) ops kl El 0 _ 0 Dq (by rw [dg]; rfl) gX Yz c (by rw [dg]; exact hc) tail[c] o (by simp [hc]) (by simpa using ho) v w1 hx (by simpa using hf)
   rw [Nat.zero_add,Nat.zero_add] at this;have e:=Q5c v ops 0 tail[c] a0;rw [Nat.zero_add] at e
   simpa [e] using this
 . exact (iq v w1 hx).out (fun k hk Ax=>hf k (by simpa using hk) Ax) w' (Dg v w1 w' hE)
theorem J3d {l n:Nat} (kl:List Kind) (jl:List Nat) (pl:List (List Nat)) (Dl:List Spec)
    (hm:P.follows .mixedOrders=true) (sy:X9a ops=true) (Qj:jl=List.range' 0 ops.length) (Vj:okL ops pl kl [] 0=true)
    (Yz:X7x P ops.toArray (lookup pl []) [] w.drew (fun k=>(lookup Dl .none k).D) [] (fun _ w1 w=>w=w1) ops kl jl (fun _=>a0))
    (iq:∀ v w1,Ext w.drew w1 -> All (lookup pl []) (fun k=>(lookup Dl .none k).D) v w1 [] jl (Q .normal (acts v ops jl a0) w1)) :
    (Code.region id ops.toArray true).wpIn (rnd l) n P Q a0 w :=
 J0c kl jl pl [] Dl [] hm sy Qj Vj Yz (fun v w1 hx=>by
  have:=iq v w1 hx;have gen:∀ (jl:List Nat) (G G':Prop),(G -> G') -> All (lookup pl []) (fun k=>(lookup Dl .none k).D) v w1 [] jl G -> All (lookup pl []) (fun k=>(lookup Dl .none k).D) v w1 [] jl G':=by
   intro jl
   induction jl with
   | nil=>intro G G' h hG; exact h hG
   | cons j jl ih =>
     intro G G' h hG;simp only [All,List.contains_nil,Bool.false_eq_true,if_false] at hG ⊢;exact fun hd=>ih G G' h (hG hd)
  exact gen _ _ _ (fun h w' (hE:w'=w1)=>hE ▸ h) this)
end
end Go.Flow
namespace Go.Flow
open Go.RowKit Go.Tw
def Z0h (P:Program) (ops:Array Oper) (pre:Nat -> List Nat) (tail:List Nat) (w0:World) (D:Nat -> (Nat -> Value) -> World -> Prop):List ((Nat -> Value) -> World -> World -> Prop) -> ((Nat -> Value) -> World -> World -> Prop) -> List Oper -> List Kind -> List Nat -> ((Nat -> Value) -> Act) -> Prop
 | El,T,o :: l,k :: kl,j :: jl,b =>
   match k,El with
   | .last,E :: El=>(∀ v w1,Ext w0 w1 -> Facts pre D v w1 ((pre j).filter fun i=>!tail.contains i) (∀ w,T v w1 w -> ∀ bb,bb=b v -> Guarded ops o bb (Due P pre D E .last o j bb v w1 w) (Pass pre D E .last j v w1 w))) /\
      Z0h P ops pre tail w0 D El (fun v w1 w=>E (mask pre j v) w1 w) l kl jl (fun v=>(b v).put o.dst (v j))
   | .last,[]=>False
   | k,El=>(∀ v w1,Ext w0 w1 -> Facts pre D v w1 (pre j) (∀ bb,bb=b v -> Guarded ops o bb (Due P pre D (fun _ _ _=>False) k o j bb v w1 w1) (Pass pre D (fun _ _ _=>False) k j v w1 w1))) /\ Z0h P ops pre tail w0 D El T l kl jl (fun v=>(b v).put o.dst (v j))
 | _,_,_,_,_,_=>True
theorem X5f {pre:Nat -> List Nat} {D:Nat -> (Nat -> Value) -> World -> Prop} {v:Nat -> Value} {w:World} {G G':Prop} (h:G -> G'):∀ {l:List Nat},Facts pre D v w l G -> Facts pre D v w l G'
 | [],hg=>h hg
 | _ :: _,hg=>fun hd=>X5f h (hg hd)
theorem X2g {P:Program} {ops:Array Oper} {pre:Nat -> List Nat} {tail:List Nat} {w0:World} {D:Nat -> (Nat -> Value) -> World -> Prop}:∀ (l:List Oper) (kl:List Kind) (jl:List Nat) (El:List ((Nat -> Value) -> World -> World -> Prop)) (T:(Nat -> Value) -> World -> World -> Prop) (b:(Nat -> Value) -> Act),
    Z0h P ops pre tail w0 D El T l kl jl b -> X7x P ops pre tail w0 D El T l kl jl b
 | [],_,_,_,_,_,_=>by simp [X7x]
 | _ :: _,[],_,_,_,_,_=>by simp [X7x]
 | _ :: _,_ :: _,[],_,_,_,_=>by simp [X7x]
 | o :: l,.last :: kl,j :: jl,E :: El,T,b,h=>⟨h.1,X2g l kl jl El _ _ h.2⟩
 | o :: l,.last :: kl,j :: jl,[],T,b,h=>h
 | o :: l,.plain :: kl,j :: jl,El,T,b,h=>⟨fun v w1 hx=>X5f (fun hg=>hg _ rfl) (h.1 v w1 hx),X2g l kl jl El _ _ h.2⟩
 | o :: l,.world :: kl,j :: jl,El,T,b,h=>⟨fun v w1 hx=>X5f (fun hg=>hg _ rfl) (h.1 v w1 hx),X2g l kl jl El _ _ h.2⟩
section
variable {P:Program} {ops:List Oper} {id:Nat} {Q:Exit -> Act -> World -> Prop} {a0:Act} {w:World}
theorem Q3q (kl:List Kind) (jl:List Nat) (pl:List (List Nat)) (tail:List Nat) (Dl:List Spec) (El:List ((Nat -> Value) -> World -> World -> Prop))
    (hm:P.follows .mixedOrders=true) (Qj:jl=List.range' 0 ops.length) (Vj:okL ops pl kl tail El.length=true)
    (Yz:Z0h P ops.toArray (lookup pl []) tail w.drew (fun k=>(lookup Dl .none k).D) El (fun _ w1 w=>w=w1) ops kl jl (fun _=>a0))
    (iq:∀ v w1,Ext w.drew w1 -> All (lookup pl []) (fun k=>(lookup Dl .none k).D) v w1 tail jl (∀ w',endOf (lookup pl []) v w1 w' tail El -> Q .normal (acts v ops jl a0) w')) :
    (Code.region id ops.toArray true).wp P Q a0 w:=region kl jl pl tail Dl El hm Qj Vj (X2g _ _ _ _ _ _ Yz) iq
theorem Q1h (kl:List Kind) (jl:List Nat) (pl:List (List Nat)) (Dl:List Spec)
    (hm:P.follows .mixedOrders=true) (Qj:jl=List.range' 0 ops.length) (Vj:okL ops pl kl [] 0=true)
    (Yz:Z0h P ops.toArray (lookup pl []) [] w.drew (fun k=>(lookup Dl .none k).D) [] (fun _ w1 w=>w=w1) ops kl jl (fun _=>a0))
    (iq:∀ v w1,Ext w.drew w1 -> All (lookup pl []) (fun k=>(lookup Dl .none k).D) v w1 [] jl (Q .normal (acts v ops jl a0) w1)) :
    (Code.region id ops.toArray true).wp P Q a0 w:=J6f kl jl pl Dl hm Qj Vj (X2g _ _ _ _ _ _ Yz) iq
theorem Z3w {l n:Nat} (kl:List Kind) (jl:List Nat) (pl:List (List Nat)) (tail:List Nat) (Dl:List Spec) (El:List ((Nat -> Value) -> World -> World -> Prop))
    (hm:P.follows .mixedOrders=true) (sy:X9a ops=true) (Qj:jl=List.range' 0 ops.length) (Vj:okL ops pl kl tail El.length=true)
    (Yz:Z0h P ops.toArray (lookup pl []) tail w.drew (fun k=>(lookup Dl .none k).D) El (fun _ w1 w=>w=w1) ops kl jl (fun _=>a0))
    (iq:∀ v w1,Ext w.drew w1 -> All (lookup pl []) (fun k=>(lookup Dl .none k).D) v w1 tail jl (∀ w',endOf (lookup pl []) v w1 w' tail El -> Q .normal (acts v ops jl a0) w')) :
    (Code.region id ops.toArray true).wpIn (rnd l) n P Q a0 w:=J0c kl jl pl tail Dl El hm sy Qj Vj (X2g _ _ _ _ _ _ Yz) iq
theorem X4i {l n:Nat} (kl:List Kind) (jl:List Nat) (pl:List (List Nat)) (Dl:List Spec)
    (hm:P.follows .mixedOrders=true) (sy:X9a ops=true) (Qj:jl=List.range' 0 ops.length) (Vj:okL ops pl kl [] 0=true)
    (Yz:Z0h P ops.toArray (lookup pl []) [] w.drew (fun k=>(lookup Dl .none k).D) [] (fun _ w1 w=>w=w1) ops kl jl (fun _=>a0))
    (iq:∀ v w1,Ext w.drew w1 -> All (lookup pl []) (fun k=>(lookup Dl .none k).D) v w1 [] jl (Q .normal (acts v ops jl a0) w1)) :
    (Code.region id ops.toArray true).wpIn (rnd l) n P Q a0 w:=J3d kl jl pl Dl hm sy Qj Vj (X2g _ _ _ _ _ _ Yz) iq
end
end Go.Flow
namespace Go.Flow
open Go.RowKit Go.Tw
theorem Y7g {ops:Array Oper} {b:Act} {o:Oper} {j:Nat} {want x:Bool} {d:Tmp} (hg:o.guard=some (j,want)) (hd:(ops[j]?).bind (·.dst)=some d) (oq:d < b.tmps.size) (hv:b.eval (.tmp d)=.bool x):Region.wanted o (yielded ops b.tmps)=(x == want):=by
 have h2:b.tmps[d]?=some (.bool x):=by
  have:b.tmps.getD d undef=.bool x:=hv;rw [Array.getD_eq_getD_getElem?,Array.getElem?_eq_getElem oq] at this;rw [Array.getElem?_eq_getElem oq];exact congrArg some this
 unfold Region.wanted;rw [hg];show (yielded ops b.tmps j == some want)=_;have:yielded ops b.tmps j=some x:=by
  unfold yielded;rw [hd];show (match b.tmps[d]? with | some (.bool b)=>some b | _=>none)=_
  rw [h2]
 rw [this];cases x <;> cases want <;> rfl
theorem Q0d {ops:Array Oper} {b:Act} {o:Oper} {j:Nat} {want:Bool} {d:Tmp} {T F:Prop} (hg:o.guard=some (j,want)) (hd:(ops[j]?).bind (·.dst)=some d) (oq:d < b.tmps.size) (hv:b.eval (.tmp d)=.bool want) (h:T):Guarded ops o b T F:=by
 have:=Y7g hg hd oq hv;unfold Guarded;rw [hg];exact .inl ⟨by rw [this]; cases want <;> rfl,h⟩
theorem Q1i {ops:Array Oper} {b:Act} {o:Oper} {j:Nat} {want:Bool} {d:Tmp} {T F:Prop} (hg:o.guard=some (j,want)) (hd:(ops[j]?).bind (·.dst)=some d) (oq:d < b.tmps.size) (hv:b.eval (.tmp d)=.bool (!want)) (h:F):Guarded ops o b T F:=by
 have:=Y7g hg hd oq hv;unfold Guarded;rw [hg];exact .inr ⟨by rw [this]; cases want <;> rfl,h⟩
end Go.Flow
namespace Go.Proofs
open Go.RowKit Go.Tw Go.Flow
attribute [local go_sem] Oper.semAt_some
theorem Q3d {w:World} {T:TypeId} {l:List Int} (hl:l.length <= 1000):Q0g (w.alloc (.cells (l.map (Value.int .i64)).toArray T)) (.slice (some ⟨w.heap.size,0,none⟩) l.length l.length) l:=by
 refine ⟨fun j=>.int .i64 (l.getD j 0),⟨some ⟨w.heap.size,0,none⟩,l.length,rfl,by omega,Nat.le_refl _,fun j hj=>⟨w.heap.size,0,rfl,?_⟩⟩,fun j hj=>?_⟩
 . have Uw:j < l.length:=by omega
   rw [X4t]; simp [Uw]
 . simp [hj]
def Q8t (l:List Mem) (i m:Nat):Bool:=(List.range m).any fun k=>Q1s l k == Q1s l i
theorem Y4g (l:List Mem) (i m:Nat):Q8t l i (m + 1)=(Q8t l i m || Q1s l m == Q1s l i):=by
 unfold Q8t;rw [List.range_succ,List.any_append]; simp
theorem Y8c {l:List Mem} {i m:Nat} (hm:m < i) (h:(Q1s l m == Q1s l i)=true):Q4a l i=true:=by
 unfold Q4a;rw [List.any_eq_true];exact ⟨m,List.mem_range.2 hm,h⟩
theorem X8p {s:Q0b} {i:Nat} (h:nameB (Q1s s.members i)=false):s.Q3v i=8:=if_pos h
theorem X6r {s:Q0b} {i:Nat} (h:nameB (Q1s s.members i)=true) (h2:Q4a s.members i=true):s.Q3v i=9:=(if_neg (by rw [h]; simp)).trans (if_pos h2)
theorem X4n {s:Q0b} {i:Nat} (h:nameB (Q1s s.members i)=true) (h2:Q4a s.members i=false) (h3:Q0j (Q0n s.members i) 1 1000 ≠ 0):s.Q3v i=3:=(if_neg (by rw [h]; simp)).trans ((if_neg (by rw [h2]; simp)).trans (if_pos h3))
theorem X7a {s:Q0b} {i:Nat} (h:nameB (Q1s s.members i)=true) (h2:Q4a s.members i=false) (h3:Q0j (Q0n s.members i) 1 1000=0) (h4:¬ ((Q0c s.members i).length=s.ships.length /\ (Q1c s.members i).length=s.ships.length /\ (Q1f s.members i).length=s.ships.length)):s.Q3v i=2 :=
 (if_neg (by rw [h]; simp)).trans ((if_neg (by rw [h2]; simp)).trans ((if_neg (fun hn=>hn h3)).trans (if_pos h4)))
theorem Y1d {s:Q0b} {i:Nat} (h:nameB (Q1s s.members i)=true) (h2:Q4a s.members i=false) (h3:Q0j (Q0n s.members i) 1 1000=0) (h4:(Q0c s.members i).length=s.ships.length /\ (Q1c s.members i).length=s.ships.length /\ (Q1f s.members i).length=s.ships.length):s.Q3v i=Q0o [Q0z (Q0c s.members i) 9,Q0z (Q1c s.members i) 1024,Q0z (Q1f s.members i) 1024] :=
 (if_neg (by rw [h]; simp)).trans ((if_neg (by rw [h2]; simp)).trans ((if_neg (fun hn=>hn h3)).trans (if_neg (fun hn=>hn h4))))
theorem Q7j {x a b:Int} (h:Q0j x a b ≠ 0):Q0j x a b=3:=by unfold Q0j at h ⊢; split at h <;> simp_all
theorem X7o (w:World) (v:Value) (s:Q0b) (i:Nat) (hv:Q0i w v s) (hi:i < s.members.length) :
    Calls Tryz.prog 89 #[v,.int .i64 (i:Int)] w fun e w'=>e=.returned (.int .i64 (s.Q3v i)) /\ Ext w w':=by
 obtain ⟨a,b,rfl,h2⟩:=hv;obtain ⟨A,Tq,rfl,mw,-,-⟩:=h2.ships.opened;obtain ⟨B,Vq,rfl,ry,-,hc⟩:=h2.members.opened;obtain ⟨bm,off,x,y,z,rfl,Tk,e0,e1,e2,e3,e4,hx,hy,hz,nj⟩:=hc i hi;obtain ⟨X,Sq,rfl,BW,-,-⟩:=hx.opened;obtain ⟨Y,Jq,rfl,AW,-,-⟩:=hy.opened;obtain ⟨Z,Cq,rfl,zW,-,-⟩:=hz.opened;have Y0:Hid (∀ k,k < s.members.length -> w.cell? ⟨bm,off + k * 5,none⟩=some (.string (Q1s s.members k))):=hid (fun k hk=>by
  obtain ⟨b',off',_,_,_,hA,_,h0,_⟩:=hc k hk;cases hA;exact h0)
 have V0:(i:Int) < s.members.length:=by omega
 have T8:=hid nj;have S8:=hid hx;have Le:=hid hy;have Ke:=hid hz;clear hc nj h2 hx hy hz;have Je:=hid (X8p (s:=s) (i:=i));have Ge:=hid (X6r (s:=s) (i:=i));have Q8:=hid (X4n (s:=s) (i:=i));have P8:=hid (X7a (s:=s) (i:=i));have A3:=hid (Y1d (s:=s) (i:=i));have eX:Hid (∀ m,m < i -> (Q1s s.members m == Q1s s.members i)=true -> Q4a s.members i=true):=hid (fun m hm h=>Y8c hm h);have Fj:Hid (∀ m,Q8t s.members i (m + 1)=(Q8t s.members i m || Q1s s.members m == Q1s s.members i)):=hid (fun m=>Y4g _ _ m)
 have Xl:Hid (Q8t s.members i i=Q4a s.members i):=hid rfl;obtain ⟨nm,Aj⟩:∃ x,Q1s s.members i=x:=⟨_,rfl⟩;obtain ⟨wt,lq⟩:∃ x,Q0n s.members i=x:=⟨_,rfl⟩;obtain ⟨lc,vj⟩:∃ x,Q0c s.members i=x:=⟨_,rfl⟩;obtain ⟨lo,Sx⟩:∃ x,Q1c s.members i=x:=⟨_,rfl⟩;obtain ⟨li,mj⟩:∃ x,Q1f s.members i=x:=⟨_,rfl⟩;have KG:=hid (Y0.out i hi);rw [Aj] at e0 T8 Je Ge Q8 P8 A3 eX Fj KG;rw [lq] at e1 Q8 P8 A3;rw [vj] at e2 BW S8 P8 A3;rw [Sx] at e3 AW Le P8 A3;rw [mj] at e4 zW Ke P8 A3;clear Aj lq vj Sx mj;go_enter Tryz.func89,Tryz.ntmps89;go_wp2_with fail;change Calls _ _ _ ((w.alloc (.cells #[.int .i64 s.limit,.slice A s.ships.length Tq,.slice (some ⟨bm,off,none⟩) s.members.length Vq] 25)).alloc (.cells #[.string nm,.int .i64 wt,.slice X lc.length Sq,.slice Y lo.length Jq,.slice Z li.length Cq] 68)) _;obtain ⟨W,Mq,k0,k1,Rq,eW⟩:=Q4p w 25 #[.int .i64 s.limit,.slice A s.ships.length Tq,.slice (some ⟨bm,off,none⟩) s.members.length Vq] 68 #[.string nm,.int .i64 wt,.slice X lc.length Sq,.slice Y lo.length Jq,.slice Z li.length Cq];rw [Mq];clear Mq;have K0:=hid k0;have K1:=hid k1;clear k0 k1 e0 e1 e2 e3 e4;refine (Z4p _ _ T8.out).mono ?_;rintro e w1 ⟨rfl,rfl⟩;cases hnb:nameB nm with
 | false =>
   have HR:=hid (Je.out hnb);clear hnb;go_wp2;go_ret;exact ⟨Q1m HR.out.symm,Rq.out⟩
 | true =>
   have T1:=hid hnb;clear hnb;have k0:=K0.out;have c0_2:=k0.cell 2;have c1_0:=K1.out.cell 0;simp only [Go.Tw.gA,Go.Tw.gB,Go.Tw.gC] at c0_2 c1_0;clear k0;go_wp2_with fail
   go_loopw [6] (fun j wr=>∃ m:Nat,m <= i /\ j=.int .i64 m /\ Q8t s.members i m=false /\ Ext W wr) (fun j _=>i - (intOf j).toNat)
   case atStart=>exact ⟨0,Nat.zero_le _,rfl,rfl,Ext.refl _⟩
   case round =>
    obtain ⟨m,hm,rfl,y9,Gq⟩:=hrel;have dX:=hid y9;have Pj:=hid Gq;replace c0_2:=Gq.cell c0_2;replace c1_0:=Gq.cell c1_0;clear y9
    by_cases lX:m < i
    . have L2:=(Rq.out.trans Gq).cell (Y0.out m (by omega))
      have Cv:=eX.out m lX;have Og:=Fj.out m;obtain ⟨x,hx⟩:∃ x,Q1s s.members m=x:=⟨_,rfl⟩;rw [hx] at L2 Cv Og;obtain ⟨q,hq⟩:∃ q,(x.toList == nm.toList)=q:=⟨_,rfl⟩;have HQ:Hid ((x == nm)=q):=hid (by rw [Go.beq_toListBytes]; exact hq)
      rw [HQ.out] at Cv Og;have Wl:=hid Cv;have Vl:=hid Og;have Ul:(m:Int) < (s.members.length:Int):=by omega
      have JG:(m:Int) < (i:Int):=by omega
      clear hx Cv Og Gq;cases q with
      | true =>
        go_light
        go_wp2
        go_quiet (fail)
        all_goals go_wp2
        go_ret;exact ⟨Q1m (Ge.out T1.out (Wl.out (by trivial))).symm,Rq.out.trans (Pj.out.drewN _)⟩
      | false =>
        go_light
        go_wp2
        go_quiet (fail)
        all_goals go_wp2
        go_roundw
        case rel=>exact ⟨m + 1,by omega,by go_num,by rw [Vl.out,dX.out]; rfl,Pj.out.drewN _⟩
        case measure=>simp [intOf]; omega
    . have rq:m=i:=by omega
      subst rq;have cX:Hid (Q4a s.members m=false):=hid (dX.out);have JG:¬ (m:Int) < (m:Int):=by omega
      have c0_1:=Gq.cell (K0.out.cell 1);have k1:=K1.out.ext Gq;have c1_1:=k1.cell 1;have c1_2:=k1.cell 2;have c1_3:=k1.cell 3;have c1_4:=k1.cell 4;simp only [Go.Tw.gA,Go.Tw.gB,Go.Tw.gC] at c0_1 c1_1 c1_2 c1_3 c1_4;have kx:=hid (Rq.out.trans Gq);have Z7:=hid k1;clear k1 Gq lX
      by_cases hw:Q0j wt 1 1000=0
      . have yW:(Q0j wt 1 1000 != 0)=false:=by simp [hw]
        have xW:=hid hw;clear hw
        by_cases h1:lc.length=s.ships.length
        . have r9:((lc.length:Int) != (s.ships.length:Int))=false:=by rw [h1]; simp
          by_cases h2:lo.length=s.ships.length
          . have Tl:((lo.length:Int) != (s.ships.length:Int))=false:=by rw [h2]; simp
            by_cases h3:li.length=s.ships.length
            . have GG:((li.length:Int) != (s.ships.length:Int))=false:=by rw [h3]; simp
              have Wv:=A3.out T1.out cX.out xW.out ⟨h1,h2,h3⟩;obtain ⟨E,hE⟩:∃ E,Q0o [Q0z lc 9,Q0z lo 1024,Q0z li 1024]=E:=⟨_,rfl⟩;rw [hE] at Wv;have HE:Hid (∀ (w':World) (u:Value),Q0g w' u [Q0z lc 9,Q0z lo 1024,Q0z li 1024] -> Calls Tryz.prog 22 #[u] w' fun e w''=>e=.returned (.int .i64 E) /\ w'=w''):=hid (by intro w' u h; rw [<- hE]; exact J0j _ _ _ h)
              have sx:=hid Wv;have Xq:=(Ext.refl wr).drew;clear h1 h2 h3 hE Wv;go_wp2_with (go_at_call 87; refine (Q3a _ wt 1 1000).mono ?_; rintro e w' ⟨rfl,rfl⟩);refine Flow.Q1h [.p,.w,.w,.p,.w,.w,.p,.w,.w,.w,.w,.p] [0,1,2,3,4,5,6,7,8,9,10,11] [[],[0],[1],[],[3],[2,4],[],[6],[5,7],[2,5,8],[8,9],[0,1,2,3,4,5,6,7,8,9,10]]
               [.c 0 (.pointer (some ⟨w.heap.size + 1,2,none⟩)),.c 1 (.slice X lc.length Sq),.c 2 (.int .i64 (Q0z lc 9)),.c 3 (.pointer (some ⟨w.heap.size + 1,3,none⟩)),.c 4 (.slice Y lo.length Jq),.c 5 (.int .i64 (Q0z lo 1024)),.c 6 (.pointer (some ⟨w.heap.size + 1,4,none⟩)),.c 7 (.slice Z li.length Cq),.c 8 (.int .i64 (Q0z li 1024)),⟨fun v wz=>Q0g wz (v 9) [Q0z lc 9,Q0z lo 1024,Q0z li 1024],fun _ _ _ hx h=>h.ext hx⟩,.c 10 (.int .i64 E),.c 11 (.int .i64 E)]
               (by kernel_rfl) rfl (by kernel_rfl) ⟨?g0,?g1,?g2,?g3,?g4,?g5,?g6,?g7,?g8,?g9,?g10,?g11,trivial⟩ ?post
              case g0 | g3 | g6=>
               intro v w1 hx;intro bb hbb;subst hbb;refine ⟨_,fun w=>?_,rfl⟩;go_simp
              case g1 | g4 | g7=>
               intro v w1 hx;(repeat intro (zq:v _=_));intro bb hbb;subst hbb;have n0:w1.cell? ⟨w.heap.size + 1,2,none⟩=some (.slice X lc.length Sq):=(Z7.out.ext (Xq.trans hx)).cell 2;have n1:w1.cell? ⟨w.heap.size + 1,3,none⟩=some (.slice Y lo.length Jq):=(Z7.out.ext (Xq.trans hx)).cell 3;have n2:w1.cell? ⟨w.heap.size + 1,4,none⟩=some (.slice Z li.length Cq):=(Z7.out.ext (Xq.trans hx)).cell 4;intro K hK;go_simp;exact hK _ _ (Ext.refl _) rfl
              case g2=>
               intro v w1 hx;(repeat intro (zq:v _=_));intro bb hbb;subst hbb;intro K hK;go_simp;refine Q0e (Q7r w1 _ lc 9 (S8.out.ext (kx.out.trans (Xq.trans hx)))) ?_;rintro e w2 ⟨rfl,Nq⟩;exact ⟨_,rfl,hK _ _ Nq rfl⟩
              case g5=>
               intro v w1 hx;(repeat intro (zq:v _=_));intro bb hbb;subst hbb;intro K hK;go_simp;refine Q0e (Q7r w1 _ lo 1024 (Le.out.ext (kx.out.trans (Xq.trans hx)))) ?_;rintro e w2 ⟨rfl,Nq⟩;exact ⟨_,rfl,hK _ _ Nq rfl⟩
              case g8=>
               intro v w1 hx;(repeat intro (zq:v _=_));intro bb hbb;subst hbb;intro K hK;go_simp;refine Q0e (Q7r w1 _ li 1024 (Ke.out.ext (kx.out.trans (Xq.trans hx)))) ?_;rintro e w2 ⟨rfl,Nq⟩;exact ⟨_,rfl,hK _ _ Nq rfl⟩
              case g9=>
               intro v w1 hx;(repeat intro (zq:v _=_));intro bb hbb;subst hbb;intro K hK;go_simp;exact hK _ _ (Ext.box _ _) (Q3d (l:=[Q0z lc 9,Q0z lo 1024,Q0z li 1024]) (by simp))
              case g10=>
               intro v w1 hx (q8:v 8=_) (q9:Q0g w1 (v 9) [Q0z lc 9,Q0z lo 1024,Q0z li 1024]);intro bb hbb;subst hbb;intro K hK;go_simp;refine Q0e (HE.out _ _ q9) ?_;rintro e w2 ⟨rfl,rfl⟩;exact ⟨_,rfl,hK _ _ (Ext.refl _) rfl⟩
              case g11=>
               intro v w1 hx (q0:v 0=_) (q1:v 1=_) (q2:v 2=_) (q3:v 3=_) (q4:v 4=_) (q5:v 5=_) (q6:v 6=_) (q7:v 7=_) (q8:v 8=_) _ (q10:v 10=_);intro bb hbb;subst hbb;refine ⟨_,fun w=>?_,rfl⟩;go_simp
              case post =>
               intro v w1 hx;(iterate 9 intro (zq:v _=_));intro (q9:Q0g w1 (v 9) [Q0z lc 9,Q0z lo 1024,Q0z li 1024]);(iterate 2 intro (zq:v _=_));simp only [Flow.All,Flow.acts,Act.put];go_simp;have uj:=hid (kx.out.trans (Xq.trans hx));clear hx Xq q9;(repeat clear zq);go_wp2;go_ret;exact ⟨Q1m sx.out.symm,uj.out⟩
            . have GG:((li.length:Int) != (s.ships.length:Int))=true:=by rw [bne_iff_ne]; omega
              have HR:=hid (P8.out T1.out cX.out xW.out fun h=>h3 h.2.2);clear h1 h2 h3;go_wp2_with (go_at_call 87; refine (Q3a _ wt 1 1000).mono ?_; rintro e w' ⟨rfl,rfl⟩);go_ret;exact ⟨Q1m HR.out.symm,kx.out⟩
          . have Tl:((lo.length:Int) != (s.ships.length:Int))=true:=by rw [bne_iff_ne]; omega
            have HR:=hid (P8.out T1.out cX.out xW.out fun h=>h2 h.2.1);clear h1 h2;go_wp2_with (go_at_call 87; refine (Q3a _ wt 1 1000).mono ?_; rintro e w' ⟨rfl,rfl⟩);go_ret;exact ⟨Q1m HR.out.symm,kx.out⟩
        . have r9:((lc.length:Int) != (s.ships.length:Int))=true:=by rw [bne_iff_ne]; omega
          have HR:=hid (P8.out T1.out cX.out xW.out fun h=>h1 h.1);clear h1;go_wp2_with (go_at_call 87; refine (Q3a _ wt 1 1000).mono ?_; rintro e w' ⟨rfl,rfl⟩);go_ret;exact ⟨Q1m HR.out.symm,kx.out⟩
      . have yW:(Q0j wt 1 1000 != 0)=true:=by simp [hw]
        have HR:Hid (s.Q3v m=Q0j wt 1 1000):=hid (by rw [Q8.out T1.out cX.out hw,Q7j hw])
        clear hw;go_wp2_with (go_at_call 87; refine (Q3a _ wt 1 1000).mono ?_; rintro e w' ⟨rfl,rfl⟩);go_ret;exact ⟨Q1m HR.out.symm,kx.out⟩
end Go.Proofs
namespace Go.Proofs
open Go.RowKit Go.Tw Go.Flow Tryz
def Q4m (f:Nat -> Int) (n k:Nat):Int:=Q0o (((List.range n).map f).drop k)
theorem X4k {f:Nat -> Int} {n k:Nat} (hk:k < n):Q4m f n k=if f k=0 then Q4m f n (k + 1) else f k:=by
 unfold Q4m;rw [List.drop_eq_getElem_cons (by simpa using hk),List.getElem_map,List.getElem_range]; rfl
theorem X6z {f:Nat -> Int} {n k:Nat} (hk:n <= k):Q4m f n k=0:=by
 unfold Q4m;rw [List.drop_eq_nil_of_le (by simpa using hk)]; rfl
theorem X0j:∀ {l:List Int} {m:Int},Q0z l m ≠ 0 -> Q0z l m=3
 | [],m,h=>absurd rfl h
 | x :: l,m,h=>by
   rw [X2h] at h ⊢
   split at h
   . rename_i h0; rw [if_pos h0]; exact X0j h
   . rename_i h0; rw [if_neg h0]; exact Q7j h0
theorem Y9x {s:Q0b} (h:Q0j s.limit 0 1024 ≠ 0):s.err=3:=if_pos h
theorem Z3o {s:Q0b} (h:Q0j s.limit 0 1024=0) (h1:s.ships.length=0):s.err=12:=(if_neg (fun hn=>hn h)).trans (if_pos h1)
theorem Z3v {s:Q0b} (h:Q0j s.limit 0 1024=0) (h1:¬ s.ships.length=0) (h2:6 < s.ships.length):s.err=5:=(if_neg (fun hn=>hn h)).trans ((if_neg h1).trans (if_pos h2))
theorem Y7a {s:Q0b} (h:Q0j s.limit 0 1024=0) (h1:¬ s.ships.length=0) (h2:¬ 6 < s.ships.length) (h3:Q0z s.ships 1000 ≠ 0):s.err=3:=(if_neg (fun hn=>hn h)).trans ((if_neg h1).trans ((if_neg h2).trans (if_pos h3)))
theorem X8l {s:Q0b} (h:Q0j s.limit 0 1024=0) (h1:¬ s.ships.length=0) (h2:¬ 6 < s.ships.length) (h3:Q0z s.ships 1000=0) :
    s.err=if s.members.length=0 then 12 else if 8 < s.members.length then 5 else Q4m s.Q3v s.members.length 0:=(if_neg (fun hn=>hn h)).trans ((if_neg h1).trans ((if_neg h2).trans (if_neg (fun hn=>hn h3))))
theorem X7v (w:World) (v:Value) (s:Q0b) (hv:Q0i w v s) :
    Calls prog 16 #[v] w fun e w'=>e=.returned (.int .i64 s.err) /\ Ext w w':=by
 obtain ⟨a,b,rfl,h2⟩:=hv;obtain ⟨A,Tq,rfl,mw,-,-⟩:=h2.ships.opened;obtain ⟨B,Vq,rfl,ry,-,-⟩:=h2.members.opened;have H2:=hid h2;clear h2;have Fe:=hid (Y9x (s:=s));have o9:=hid (Z3o (s:=s));have Ee:=hid (Z3v (s:=s));have De:=hid (Y7a (s:=s));have Ce:=hid (X8l (s:=s));go_enter func16,ntmps16;go_wp2_with fail;change Calls _ _ _ (w.alloc (.cells #[.int .i64 s.limit,.slice A s.ships.length Tq,.slice B s.members.length Vq] 25)) _;obtain ⟨W,Mq,k0,Rq,eW⟩:=Q2q w 25 #[.int .i64 s.limit,.slice A s.ships.length Tq,.slice B s.members.length Vq];rw [Mq];clear Mq;have K0:=hid k0;have c0_0:=k0.cell 0;have c0_1:=k0.cell 1;have c0_2:=k0.cell 2;simp only [Go.Tw.gA,Go.Tw.gB,Go.Tw.gC] at c0_0 c0_1 c0_2;clear k0;refine (Q3a _ s.limit 0 1024).mono ?_;rintro e w' ⟨rfl,rfl⟩
 by_cases h0:Q0j s.limit 0 1024 ≠ 0
 . have Sl:(Q0j s.limit 0 1024 != 0)=true:=by simp [h0]
   have HR:Hid (s.err=Q0j s.limit 0 1024):=hid (by rw [Fe.out h0,Q7j h0])
   clear h0;go_wp2;go_ret;exact ⟨Q1m HR.out.symm,Rq.out⟩
 replace h0:=Decidable.not_not.1 h0;have Sl:(Q0j s.limit 0 1024 != 0)=false:=by simp [h0]
 have j3:=hid h0;clear h0
 by_cases h1:s.ships.length=0
 . have r9:((s.ships.length:Int) == 0)=true:=by rw [h1]; rfl
   have HR:=hid (o9.out j3.out h1);clear h1;go_wp2;go_ret;exact ⟨Q1m HR.out.symm,Rq.out⟩
 have r9:((s.ships.length:Int) == 0)=false:=by rw [beq_eq_false_iff_ne]; omega
 have aX:=hid h1;clear h1
 by_cases h6:6 < s.ships.length
 . have Rl:(6:Int) < s.ships.length:=by omega
   have HR:=hid (Ee.out j3.out aX.out h6);clear h6;go_wp2;go_ret;exact ⟨Q1m HR.out.symm,Rq.out⟩
 have Rl:¬ (6:Int) < s.ships.length:=by omega
 have Ae:=hid h6;clear h6;go_wp2_with fail;refine (Q7r _ _ s.ships 1000 (H2.out.ships.ext Rq.out)).mono ?_;rintro e w1 ⟨rfl,aq⟩;replace c0_0:=aq.cell c0_0;replace c0_1:=aq.cell c0_1;replace c0_2:=aq.cell c0_2;have rk:=hid (Rq.out.trans aq);clear aq
 by_cases h3:Q0z s.ships 1000 ≠ 0
 . have GG:(Q0z s.ships 1000 != 0)=true:=by simp [h3]
   have HR:Hid (s.err=Q0z s.ships 1000):=hid (by rw [De.out j3.out aX.out Ae.out h3,X0j h3])
   clear h3;go_wp2;go_ret;exact ⟨Q1m HR.out.symm,rk.out⟩
 replace h3:=Decidable.not_not.1 h3;have GG:(Q0z s.ships 1000 != 0)=false:=by simp [h3]
 have U0:=hid (Ce.out j3.out aX.out Ae.out h3);clear h3
 by_cases h4:s.members.length=0
 . have Ql:((s.members.length:Int) == 0)=true:=by rw [h4]; rfl
   have HR:Hid (s.err=12):=hid (by rw [U0.out,if_pos h4])
   clear h4;go_wp2;go_ret;exact ⟨Q1m HR.out.symm,rk.out⟩
 have Ql:((s.members.length:Int) == 0)=false:=by rw [beq_eq_false_iff_ne]; omega
 by_cases h8:8 < s.members.length
 . have Ol:(8:Int) < s.members.length:=by omega
   have HR:Hid (s.err=5):=hid (by rw [U0.out,if_neg h4,if_pos h8])
   clear h4 h8;go_wp2;go_ret;exact ⟨Q1m HR.out.symm,rk.out⟩
 have Ol:¬ (8:Int) < s.members.length:=by omega
 have HE:Hid (s.err=Q4m s.Q3v s.members.length 0):=hid (by rw [U0.out,if_neg h4,if_neg h8])
 clear h4 h8 U0 Fe o9 Ee De Ce;go_wp2_with fail
 go_loopw [5] (fun i wr=>∃ k:Nat,k <= s.members.length /\ i=.int .i64 k /\ Q4m s.Q3v s.members.length k=Q4m s.Q3v s.members.length 0 /\ Ext w1 wr) (fun i _=>s.members.length - (intOf i).toNat)
 case atStart=>exact ⟨0,Nat.zero_le _,rfl,rfl,Ext.refl _⟩
 case round =>
  obtain ⟨k,hk,rfl,hr,hx⟩:=hrel;have HR:=hid hr;have HX:=hid hx;replace c0_0:=hx.cell c0_0;replace c0_1:=hx.cell c0_1;replace c0_2:=hx.cell c0_2;clear hr hx
  by_cases Uq:k < s.members.length
  . have EG:(k:Int) < (s.members.length:Int):=by omega
    have Sj:=hid (X4k (f:=s.Q3v) Uq);have Nl:=hid (X7o wr _ s k ⟨_,_,rfl,H2.out.ext (rk.out.trans HX.out)⟩ Uq)
    go_light
    go_wp2_with fail;refine Nl.out.mono ?_;rintro e w2 ⟨rfl,Nq⟩;have Wz:=hid (HX.out.trans Nq);clear Nq c0_0 c0_1 c0_2
    by_cases he:s.Q3v k=0
    . have DG:(s.Q3v k != 0)=false:=by simp [he]
      have HZ:=hid he;clear he;go_wp2;go_roundw
      case rel=>exact ⟨k + 1,by omega,by go_num,by rw [<- HR.out,Sj.out,if_pos HZ.out],Wz.out⟩
      case measure=>simp [intOf]; omega
    . have DG:(s.Q3v k != 0)=true:=by simp [he]
      have HZ:=hid he;clear he;go_wp2;go_ret;exact ⟨Q1m (by rw [HE.out,<- HR.out,Sj.out,if_neg HZ.out]),rk.out.trans Wz.out⟩
  . have EG:¬ (k:Int) < (s.members.length:Int):=by omega
    go_wp2;go_ret;exact ⟨Q1m (by rw [HE.out,<- HR.out,X6z (by omega)]),rk.out.trans HX.out⟩
theorem Tryz.Z8e:(prog.info? 29).map (fun i=>(i.zero,i.size,i.bytes))=some (some (.int .i64 0),1,8):=by kernel_rfl
theorem Z9i (f:Int -> Int) (l:List Int) {k:Nat} (hk:k < l.length):(l.map f).take k ++ [f (ix l k)]=(l.map f).take (k + 1):=by
 rw [List.take_succ_eq_append_getElem (by simpa using hk),Q5g hk]
 simp
theorem Q8h (w:World) (v:Value) (l:List Int) (g:Nat) (f:Int -> Int) (hv:Q0g w v l) (Uv:l.length <= 4096) (eg:∀ args w,(callFunc g args).run prog w=.ok (.enter g args) w)
    (hf:∀ W x,Calls prog g #[.int .i64 x] W fun e W'=>e=.returned (.int .i64 (f x)) /\ W=W') :
    Calls prog 120 #[v,.func (.func g) #[] #[]] w fun e w'=>∃ x,e=.returned x /\ Q0g w' x (l.map f) /\ Ext w w':=by
 obtain ⟨i0,hi,dq,fq,Zj⟩:=info_parts Z8e;obtain ⟨A,Qq,rfl,hl,Kq,hc⟩:=hv.opened;have HC:=hid hc;have HF:=hid hf;clear hv hc hf;go_enter func120,ntmps120;go_wp2
 go_loopw [5,10] (fun o i wr=>∃ (k:Nat),k <= l.length /\ i=.int .i64 k /\ Q0q wr w.heap.size 29 (.int .i64) o ((l.map f).take k) /\ Ext w wr) (fun _ i _=>l.length - (intOf i).toNat)
 case atStart=>exact ⟨0,Nat.zero_le _,rfl,Q0q.nil _ _ _ _,Ext.refl _⟩
 case round =>
  obtain ⟨k,hk,rfl,Yq,hx⟩:=hrel;have Dq:((l.map f).take k).length=k:=by rw [List.length_take,List.length_map]; omega
  by_cases Uq:k < l.length
  . obtain ⟨b,off,rfl,Wq⟩:=HC.out k Uq
    have az:=hid (Z9i f l Uq);obtain ⟨s,hs⟩:∃ s,ix l k=s:=⟨_,rfl⟩;have Y7:=hid (HF.out wr s);rw [hs] at Wq az;obtain ⟨y,hy⟩:∃ y,f s=y:=⟨_,rfl⟩;rw [hy] at Y7 az;replace Wq:=hx.cell Wq;have Bw:((l.map f).take k).length <= 4096:=by omega
    clear hs Dq hy;go_wp2_with (first | (refine Y7.out.mono ?_; rintro e w9 ⟨rfl,rfl⟩) | (at_builtin; refine wpList_append_own _ rfl _ _ 191 rfl (w.heap.size) 29 i0 (.int .i64 0) 1 8 underlying191 hi dq fq Zj rfl (by decide) _ _ _ rfl (World.ownsRow.alloc Yq _) ⟨wr.heap.size,0,none⟩ 1 1 [.int .i64 y] rfl rfl ?_ ?_ ?_ ?_ ?_ ?_; exact Q5y _ _ _; (focus (simp [Value.oneCell'])); (focus (unfold maxLen; omega)); (focus omega); (focus (have:=hx.size; simp at this ⊢; omega)); intro v' w1 Oq Pq _))
    have hx':=Q3r hx Yq (Nat.le_refl _) Pq;go_wp2;go_roundw
    case rel=>exact ⟨k + 1,by omega,by go_num,by rw [<- az.out]; exact Q0q.snoc Oq,hx'⟩
    case measure=>simp [intOf]; omega
  . have HE:Hid ((l.map f).take k=l.map f):=hid (by rw [List.take_of_length_le (by rw [List.length_map]; omega)])
    rw [HE.out] at Yq;have Rz:=hid Yq;clear Yq Dq;go_wp2;go_ret;exact ⟨_,rfl,Rz.out.ints (by simp; omega),hx⟩
theorem Q8w (w:World) (v:Value) (l:List Int) (hv:Q0g w v l) (Uv:l.length <= 4096) :
    Calls prog 120 #[v,.func (.func 118) #[] #[]] w fun e w'=>∃ x,e=.returned x /\ Q0g w' x (l.map fun x=>Q0j x 0 1024) /\ Ext w w' :=
 Q8h w v l _ _ hv Uv (enters_of func118 (by kernel_rfl) rfl) (fun W x=>X0i W x)
theorem Y0d (w:World) (v:Value) (l:List Int) (hv:Q0g w v l) (Uv:l.length <= 4096) :
    Calls prog 120 #[v,.func (.func 121) #[] #[]] w fun e w'=>∃ x,e=.returned x /\ Q0g w' x (l.map fun x=>Q0j x 0 1000) /\ Ext w w' :=
 Q8h w v l _ _ hv Uv (enters_of func121 (by kernel_rfl) rfl) (fun W x=>Y1u W x)
theorem Q9j (w:World) (v:Value) (l:List Int) (hv:Q0g w v l) (Uv:l.length <= 4096) :
    Calls prog 120 #[v,.func (.func 126) #[] #[]] w fun e w'=>∃ x,e=.returned x /\ Q0g w' x (l.map fun x=>Q0j x 0 9) /\ Ext w w' :=
 Q8h w v l _ _ hv Uv (enters_of func126 (by kernel_rfl) rfl) (fun W x=>Y2b W x)
theorem Z1q (W:World) (nm s:ByteArray) (c1 c2 c3 c4:Value) (B:Nat) (hB:W.cell? ⟨B,0,none⟩=some (.string s)) :
    Calls prog 123 #[.agg #[.string nm,c1,c2,c3,c4],.pointer (some ⟨B,0,none⟩)] W fun e W'=>e=.returned (.bool (nm == s)) /\ Ext W W':=by
 obtain ⟨q,hq⟩:∃ q,(nm.toList == s.toList)=q:=⟨_,rfl⟩;have HQ:Hid ((nm == s)=q):=hid (by rw [Go.beq_toListBytes]; exact hq)
 have hx:=Ext.box W (.cells #[.string nm,c1,c2,c3,c4] 69);have W7:=hx.cell hB;have k0:=Blk.made W 69 #[.string nm,c1,c2,c3,c4];have c0:=k0.cell 0;simp only [Go.Tw.gA,Go.Tw.gB] at c0;clear hB k0;go_enter func123,ntmps123;go_wp2;go_ret;exact ⟨Q1b HQ.out.symm,hx⟩
theorem X9c (w:World) (l:List Mem) (n:Nat) (A:Option Addr) (Qq B:Nat) (s:ByteArray) (hB:w.cell? ⟨B,0,none⟩=some (.string s)) (hn:n <= 17592186043904)
    (hc:∀ k,k < n -> ∃ b off c1 c2 c3 c4,A=some ⟨b,off,none⟩ /\ w.cell? ⟨b,off + k * 5,none⟩=some (.string (Q1s l k)) /\ w.cell? ⟨b,off + k * 5 + 1,none⟩=some c1 /\ w.cell? ⟨b,off + k * 5 + 2,none⟩=some c2 /\ w.cell? ⟨b,off + k * 5 + 3,none⟩=some c3 /\ w.cell? ⟨b,off + k * 5 + 4,none⟩=some c4) :
    Calls prog 172 #[.slice A n Qq,.func (.func 123) #[] #[.pointer (some ⟨B,0,none⟩)]] w fun e w'=>∃ r:Int,e=.returned (.int .i64 r) /\ decide (0 <= r)=((List.range n).any fun k=>Q1s l k == s) /\ Ext w w':=by
 have HC:=hid hc;obtain ⟨p,hp⟩:∃ p:Nat -> Bool,(fun k=>Q1s l k == s)=p:=⟨_,rfl⟩
 have HP:Hid (∀ k,(Q1s l k == s)=p k):=hid (fun k=>by rw [<- hp])
 rw [hp];clear hc hp;go_enter func172,ntmps172;go_wp2
 go_loopw [8] (fun i wr=>∃ k:Nat,k <= n /\ i=.int .i64 k /\ ((List.range n).drop k).any p=(List.range n).any p /\ Ext w wr) (fun i _=>n - (intOf i).toNat)
 case atStart=>exact ⟨0,Nat.zero_le _,rfl,rfl,Ext.refl _⟩
 case round =>
  obtain ⟨k,hk,rfl,hr,hx⟩:=hrel;have HR:=hid hr; clear hr
  by_cases Uq:k < n
  . obtain ⟨b,off,c1,c2,c3,c4,rfl,e0,e1,e2,e3,e4⟩:=HC.out k Uq
    replace e0:=hx.cell e0;replace e1:=hx.cell e1;replace e2:=hx.cell e2;replace e3:=hx.cell e3;replace e4:=hx.cell e4;have W7:=hx.cell hB;have Sj:Hid ((List.range n).any p=(p k || ((List.range n).drop (k + 1)).any p)):=hid (by
     rw [<- HR.out,List.drop_eq_getElem_cons (by simpa using Uq),List.any_cons,List.getElem_range])
    have Jj:=hid (HP.out k);obtain ⟨nm,Aj⟩:∃ x,Q1s l k=x:=⟨_,rfl⟩;rw [Aj] at Jj e0;have pz:=hid (Z1q wr nm s c1 c2 c3 c4 B W7);rw [Jj.out] at pz;obtain ⟨q,hq⟩:∃ q,p k=q:=⟨_,rfl⟩;rw [hq] at pz Sj;clear hq Aj W7;cases q with
    | true =>
      go_wp2_with (refine pz.out.mono ?_; rintro e w9 ⟨rfl,sj⟩);go_ret;exact ⟨k,rfl,by rw [Sj.out]; simp,hx.trans sj⟩
    | false =>
      go_wp2_with (refine pz.out.mono ?_; rintro e w9 ⟨rfl,sj⟩);go_roundw
      case rel=>exact ⟨k + 1,by omega,by go_num,by rw [Sj.out,Bool.false_or],hx.trans sj⟩
      case measure=>simp [intOf]; omega
  . go_wp2
    go_ret;exact ⟨-1,rfl,by rw [<- HR.out,List.drop_eq_nil_of_le (by simp; omega)]; rfl,hx⟩
theorem Z5m (w:World) (l:List Mem) (n:Nat) (A:Option Addr) (Qq B:Nat) (s:ByteArray) (hB:w.cell? ⟨B,0,none⟩=some (.string s)) (hn:n <= 17592186043904)
    (hc:∀ k,k < n -> ∃ b off c1 c2 c3 c4,A=some ⟨b,off,none⟩ /\ w.cell? ⟨b,off + k * 5,none⟩=some (.string (Q1s l k)) /\ w.cell? ⟨b,off + k * 5 + 1,none⟩=some c1 /\ w.cell? ⟨b,off + k * 5 + 2,none⟩=some c2 /\ w.cell? ⟨b,off + k * 5 + 3,none⟩=some c3 /\ w.cell? ⟨b,off + k * 5 + 4,none⟩=some c4) :
    Calls prog 122 #[.slice A n Qq,.func (.func 123) #[] #[.pointer (some ⟨B,0,none⟩)]] w fun e w'=>e=.returned (.bool ((List.range n).any fun k=>Q1s l k == s)) /\ Ext w w':=by
 have HI:=hid (X9c w l n A Qq B s hB hn hc);obtain ⟨q,hq⟩:∃ q,((List.range n).any fun k=>Q1s l k == s)=q:=⟨_,rfl⟩
 rw [hq] at HI ⊢;clear hc hq hB;go_enter func122,ntmps122;go_wp2_with (go_at_call 172; refine HI.out.mono ?_; rintro e w' ⟨r,rfl,hr,hx⟩; have HR:=hid hr; clear hr);go_ret;exact ⟨Q1b HR.out,hx⟩
end Go.Proofs
namespace Go.Tw
variable {s:Q0b}
theorem J3e {i t u:Nat} (h:t < u):ix (hs s i u) t=ix (Q0c s.members i) t:=by
 unfold ix hs; simp [List.getD_eq_getElem?_getD,h]
theorem J1c (hf:Fine s) {i u:Nat} (hi:i < s.members.length) (hu:u <= s.ships.length):(hs s i u).length=u:=by
 have:=(hf.shaped i hi).1;simp only [hs,List.length_take]; omega
theorem key_eq (hf:Fine s) {i j u v:Nat} (hi:i < s.members.length) (hj:j < s.members.length) (h:Q6j (hs s i u)=Q6j (hs s j v)):hs s i u=hs s j v :=
 Z3j (Q5w (hf.digits i hi) u) (Q5w (hf.digits j hj) v) h
theorem Y2u (hf:Fine s) {i j u v:Nat} (hi:i < s.members.length) (hj:j < s.members.length) (hu:u <= s.ships.length) (hv:v <= s.ships.length) (h:u ≠ v):Q6j (hs s i u) ≠ Q6j (hs s j v):=by
 intro e;have:=congrArg List.length (key_eq hf hi hj e);rw [J1c hf hi hu,J1c hf hj hv] at this;exact h this
theorem Z0a (hf:Fine s) {i j u v t:Nat} (hi:i < s.members.length) (hj:j < s.members.length) (hu:t < u) (hv:t < v) (h:ix (Q0c s.members i) t ≠ ix (Q0c s.members j) t):Q6j (hs s i u) ≠ Q6j (hs s j v):=by
 intro e;have:=congrArg (fun l=>ix l t) (key_eq hf hi hj e);simp only [J3e hu,J3e hv] at this;exact h this
def Q7z (s:Q0b) (t:Nat) (l:List Runner):Prop:=∀ r ∈ l,∀ q ∈ l,hs s r.member t=hs s q.member t
theorem Q9s (hf:Fine s) {t c:Nat} {l:List Runner} (hk:Known s l) (ht:t < s.ships.length) (h:Q7z s t l):Q7z s (t + 1) (Q7y s t c l):=by
 intro r hr q hq;obtain ⟨O8,Ck⟩:=List.mem_filter.1 hr;obtain ⟨J2,Ng⟩:=List.mem_filter.1 hq;have e:=h r O8 q J2;simp only [beq_iff_eq] at Ck Ng;have l1:=(hf.shaped _ (hk r O8)).1;have l2:=(hf.shaped _ (hk q J2)).1;unfold hs at e ⊢;rw [List.take_add_one,List.take_add_one,e,List.getElem?_eq_getElem (by omega),List.getElem?_eq_getElem (by omega)]
 rw [Q5g (by omega)] at Ck Ng
 rw [Ck,Ng]
theorem Q3w {t:Nat} {c:Bool} {l:List Runner} (h:Known s l):Known s (moved s t c l):=by
 intro r hr;obtain ⟨q,hq,rfl⟩:=List.mem_map.1 hr;exact h q hq
theorem Q4g {t u:Nat} {c:Bool} {l:List Runner} (h:Q7z s u l):Q7z s u (moved s t c l):=by
 intro r hr q hq;obtain ⟨r',S1,rfl⟩:=List.mem_map.1 hr;obtain ⟨q',G2,rfl⟩:=List.mem_map.1 hq;exact h r' S1 q' G2
theorem Q8d {t c:Nat} {l:List Runner} (h:Known s l):Known s (Q7y s t c l):=fun r hr=>h r (List.mem_filter.1 hr).1
theorem X7z {f:List Int -> Bool} {k:Nat} {c:Bool}:∀ {l:List Runner},(∀ r ∈ l,f (hs s r.member (s.ships.length - k))=c) ->
    Z5w s f (k + 1) l=Z5w s f k (moved s (s.ships.length - (k + 1)) c l) /\
    Z1d s f (k + 1) l=(if c then Q6h s l else 0) + Z1d s f k (moved s (s.ships.length - (k + 1)) c l) /\
    Z0t s f (k + 1) l=(if c then Q6h s l * ix s.ships (s.ships.length - (k + 1)) else 0) + Z0t s f k (moved s (s.ships.length - (k + 1)) c l)
 | [],_=>by cases c <;> simp [Z5w,Z1d,Z0t,moved,Q6h]
 | r :: l,h=>by
   obtain ⟨h1,h2,h3⟩:=X7z (l:=l) fun r hr=>h r (List.mem_cons_of_mem _ hr)
   have e:=h r List.mem_cons_self;unfold Z5w at h1 ⊢; unfold Z1d at h2 ⊢; unfold Z0t at h3 ⊢;rw [Y4n] at h1 h2 h3 ⊢;simp only [List.map_cons,List.sum_cons,Q6h] at h1 h2 h3 ⊢;rw [h1,h2,h3];simp only [J7m,J6h,J7c,e,mv1];refine ⟨rfl,?_,?_⟩
   . cases c
     . simp
     . simp only [if_true]; rw [Int.mul_add]; omega
   . cases c
     . simp
     . simp only [if_true]; rw [Int.mul_add,Int.add_mul]; omega
def Sound (s:Q0b) (t k:Nat) (l:List Runner) (x:Plan):Prop :=
 Keys s x.closed t l /\ ∀ f,Agr s f x.closed t l -> Z5w s f k l=x.weight /\ Z1d s f k l=x.closings /\ Z0t s f k l=x.delay
def Covers (s:Q0b) (f:List Int -> Bool) (k:Nat) (l:List Runner) (x:Plan):Prop:=Z5w s f k l <= x.weight /\ x.closings <= Z1d s f k l /\ x.delay <= Z0t s f k l
instance lawB:LawfulBEq ByteArray where
 eq_of_beq {a b} h:=by
  by_cases e:a=b
  . exact e
  . rw [X3c e] at h; exact absurd h (by simp)
 rfl {a}:=str_eq rfl
theorem X6p (a b:List ByteArray) (k:ByteArray):(a ++ b).contains k=(a.contains k || b.contains k):=by simp
theorem Q8r {a:List ByteArray} {k:ByteArray} (h:∀ b ∈ a,b ≠ k):a.contains k=false:=by
 rw [<- Bool.not_eq_true,List.contains_iff_mem]; exact fun hk=>h k hk rfl
theorem Y9r (hf:Fine s) {k:Nat} (hk:k + 1 <= s.ships.length) {sub:List Runner -> List Plan}
    (ih:∀ l,Known s l -> Q7z s (s.ships.length - k) l -> ∀ x ∈ sub l,Sound s (s.ships.length - k) k l x) {l:List Runner} (hl:Known s l) (hn:l ≠ [])
    (Bk:Q7z s (s.ships.length - k) l) {x:Plan} (hx:x ∈ Q4r s (s.ships.length - (k + 1)) sub l):Sound s (s.ships.length - (k + 1)) (k + 1) l x:=by
 have e1:s.ships.length - (k + 1) + 1=s.ships.length - k:=by omega
 rcases List.mem_append.1 (X8w hx) with h | h
 . obtain ⟨h1,h2⟩:=ih _ (Q3w hl) (Q4g Bk) x h
   refine ⟨fun b hb=>?_,fun f hA=>?_⟩
   . obtain ⟨r,hr,u,hu,Bv,e⟩:=h1 b hb
     obtain ⟨q,hq,rfl⟩:=List.mem_map.1 hr;exact ⟨q,hq,u,by omega,Bv,e⟩
   . have hc:∀ r ∈ l,f (hs s r.member (s.ships.length - k))=false:=by
      intro r hr;rw [hA r hr _ (by omega) (by omega)]
      refine Q8r fun b hb=>?_;obtain ⟨q,hq,u,hu,Bv,e⟩:=h1 b hb;rw [e];exact Y2u hf (Q3w hl q hq) (hl r hr) Bv (by omega) (by omega)
     obtain ⟨v1,v2,v3⟩:=X7z hc;obtain ⟨w1,w2,w3⟩:=h2 f fun r hr u hu Bv=>by
      obtain ⟨q,hq,rfl⟩:=List.mem_map.1 hr;exact hA q hq u (by omega) Bv
     rw [v1,v2,v3,w1,w2,w3];simp
 . obtain ⟨y,hy,rfl⟩:=List.mem_map.1 h
   obtain ⟨h1,h2⟩:=ih _ (Q3w hl) (Q4g Bk) y hy;obtain ⟨r0,l0,rfl⟩:∃ r0 l0,l=r0 :: l0:=by cases l with | nil=>exact absurd rfl hn | cons a b=>exact ⟨a,b,rfl⟩
   have hh:Y9u s (s.ships.length - (k + 1)) (r0 :: l0)=Q6j (hs s r0.member (s.ships.length - k)):=by rw [Y9u,hs,e1]
   refine ⟨fun b hb=>?_,fun f hA=>?_⟩
   . rcases List.mem_append.1 (show b ∈ y.closed ++ [_] from hb) with hb | hb
     . obtain ⟨r,hr,u,hu,Bv,e⟩:=h1 b hb
       obtain ⟨q,hq,rfl⟩:=List.mem_map.1 hr;exact ⟨q,hq,u,by omega,Bv,e⟩
     . rw [List.mem_singleton] at hb
       exact ⟨r0,List.mem_cons_self,s.ships.length - k,by omega,by omega,hb.trans hh⟩
   . have aj:∀ r ∈ r0 :: l0,∀ u,s.ships.length - (k + 1) < u -> u <= s.ships.length -> f (hs s r.member u)=(y.closed.contains (Q6j (hs s r.member u)) || [Y9u s (s.ships.length - (k + 1)) (r0 :: l0)].contains (Q6j (hs s r.member u))) :=
      fun r hr u hu Bv=>(hA r hr u hu Bv).trans (X6p _ _ _)
     have hc:∀ r ∈ r0 :: l0,f (hs s r.member (s.ships.length - k))=true:=by
      intro r hr;rw [aj r hr _ (by omega) (by omega),hh,Bk r hr r0 List.mem_cons_self]
      simp
     obtain ⟨v1,v2,v3⟩:=X7z hc;obtain ⟨w1,w2,w3⟩:=h2 f fun r hr u hu Bv=>by
      obtain ⟨q,hq,rfl⟩:=List.mem_map.1 hr;have:=aj q hq u (by omega) Bv
      rw [hh,Q8r (a:=[_]) (fun b hb=>by rw [List.mem_singleton] at hb; rw [hb]; exact Y2u hf (hl r0 List.mem_cons_self) (hl q hq) (by omega) Bv (by omega)),Bool.or_false] at this
      exact this
     rw [v1,v2,v3,w1,w2,w3];simp only [if_true,Y3o];refine ⟨trivial,?_,?_⟩ <;> omega
theorem Y5s {k:Nat} {sub:List Runner -> List Plan} {f:List Int -> Bool}
    (ih:∀ l,Known s l -> Q7z s (s.ships.length - k) l -> ∃ x ∈ sub l,Covers s f k l x) {l:List Runner} (hl:Known s l) (hn:l ≠ [])
    (Bk:Q7z s (s.ships.length - k) l):∃ x ∈ Q4r s (s.ships.length - (k + 1)) sub l,Covers s f (k + 1) l x:=by
 obtain ⟨r0,Nw⟩:=List.exists_mem_of_ne_nil l hn;have hc:∀ r ∈ l,f (hs s r.member (s.ships.length - k))=f (hs s r0.member (s.ships.length - k)):=fun r hr=>by rw [Bk r hr r0 Nw]
 obtain ⟨v1,v2,v3⟩:=X7z hc;obtain ⟨x,hx,c1,c2,c3⟩:=ih (moved s (s.ships.length - (k + 1)) (f (hs s r0.member (s.ships.length - k))) l) (Q3w hl) (Q4g Bk);cases hb:f (hs s r0.member (s.ships.length - k))
 . rw [hb] at v1 v2 v3 hx c1 c2 c3
   obtain ⟨o,ho,n9⟩:=X2j (l:=sub (moved s (s.ships.length - (k + 1)) false l) ++ (sub (moved s (s.ships.length - (k + 1)) true l)).map (Y3o s (s.ships.length - (k + 1)) l)) (List.mem_append.2 (.inl hx));rw [X0m] at n9;simp only [Bool.false_eq_true,if_false] at v2 v3;exact ⟨o,ho,by omega,by omega,by omega⟩
 . rw [hb] at v1 v2 v3 hx c1 c2 c3
   obtain ⟨o,ho,n9⟩:=X2j (l:=sub (moved s (s.ships.length - (k + 1)) false l) ++ (sub (moved s (s.ships.length - (k + 1)) true l)).map (Y3o s (s.ships.length - (k + 1)) l)) (List.mem_append.2 (.inr (List.mem_map.2 ⟨x,hx,rfl⟩)));rw [X0m] at n9;simp only [if_true] at v2 v3;simp only [Y3o] at n9;exact ⟨o,ho,by omega,by omega,by omega⟩
end Go.Tw
namespace Go.Tw
variable {s:Q0b}
def X6l (s:Q0b) (t c:Nat) (l:List Runner):List Runner:=l.filter fun x=>decide (ix (Q0c s.members x.member) t < (c:Int))
theorem Q9d {t c:Nat} {l:List Runner} {r:Runner}:r ∈ X6l s t c l ↔ r ∈ l /\ ix (Q0c s.members r.member) t < (c:Int):=by simp [X6l]
theorem Y0n {t c:Nat} {l:List Runner} {r:Runner}:r ∈ Q7y s t c l ↔ r ∈ l /\ ix (Q0c s.members r.member) t=(c:Int):=by simp [Q7y]
theorem X9l {t c:Nat} {l:List Runner} {r:Runner} (h:r ∈ X6l s t c l):r ∈ X6l s t (c + 1) l:=by
 rw [Q9d] at h ⊢; exact ⟨h.1,by have:=h.2; omega⟩
theorem Z2n {t c:Nat} {l:List Runner} {r:Runner} (h:r ∈ Q7y s t c l):r ∈ X6l s t (c + 1) l:=by
 rw [Y0n] at h; rw [Q9d]; exact ⟨h.1,by have:=h.2; omega⟩
theorem Q8m (t c:Nat) (g:Runner -> Int):∀ l:List Runner,((X6l s t (c + 1) l).map g).sum=((X6l s t c l).map g).sum + ((Q7y s t c l).map g).sum
 | []=>rfl
 | x :: l=>by
   have ih:=Q8m t c g l;unfold X6l Q7y at ih ⊢;simp only [List.filter_cons]
   by_cases h1:ix (Q0c s.members x.member) t < (c:Int)
   . have h2:ix (Q0c s.members x.member) t < ((c + 1:Nat):Int):=by omega
     have h3:(ix (Q0c s.members x.member) t == (c:Int))=false:=by simp; omega
     simp only [h1,h2,h3,decide_true,if_true,Bool.false_eq_true,if_false,List.map_cons,List.sum_cons]; omega
   . by_cases h4:ix (Q0c s.members x.member) t=(c:Int)
     . have h2:ix (Q0c s.members x.member) t < ((c + 1:Nat):Int):=by omega
       have h3:(ix (Q0c s.members x.member) t == (c:Int))=true:=by simp [h4]
       simp only [h1,h2,h3,decide_true,decide_false,if_true,Bool.false_eq_true,if_false,List.map_cons,List.sum_cons]; omega
     . have h2:¬ ix (Q0c s.members x.member) t < ((c + 1:Nat):Int):=by omega
       have h3:(ix (Q0c s.members x.member) t == (c:Int))=false:=by simp [h4]
       simp only [h1,h2,h3,decide_false,Bool.false_eq_true,if_false]; exact ih
theorem Z3g (hf:Fine s) {i t:Nat} (hi:i < s.members.length) (ht:t < s.ships.length):0 <= ix (Q0c s.members i) t /\ ix (Q0c s.members i) t <= 9:=by
 have h:=(hf.shaped i hi).1;rw [Q5g (by omega)]; exact hf.digits i hi _ (List.getElem_mem _)
theorem Y5g (hf:Fine s) {t:Nat} {l:List Runner} (hl:Known s l) (ht:t < s.ships.length):X6l s t 0 l=[]:=by
 rw [X6l,List.filter_eq_nil_iff];intro r hr;have:=(Z3g hf (hl r hr) ht).1;simp only [decide_eq_true_eq]; omega
theorem Z1e (hf:Fine s) {t:Nat} {l:List Runner} (hl:Known s l) (ht:t < s.ships.length):X6l s t 10 l=l:=by
 rw [X6l,List.filter_eq_self];intro r hr;have:=(Z3g hf (hl r hr) ht).2;simp only [decide_eq_true_eq]; omega
theorem X2p (hf:Fine s) {k:Nat} (hk:k + 1 <= s.ships.length) {sub:List Runner -> List Plan}
    (ih:∀ l,Known s l -> Q7z s (s.ships.length - k) l -> ∀ x ∈ sub l,Sound s (s.ships.length - k) k l x) {l:List Runner} (hl:Known s l)
    (Bk:Q7z s (s.ships.length - (k + 1)) l):∀ (c:Nat) (x:Plan),x ∈ Q2x s (s.ships.length - (k + 1)) sub l c ->
     Sound s (s.ships.length - (k + 1)) (k + 1) (X6l s (s.ships.length - (k + 1)) c l) x
 | 0,x,hx=>by
   rw [Q2x,List.mem_singleton] at hx;subst hx;rw [Y5g hf hl (by omega)]
   exact ⟨fun b hb=>absurd hb (by simp),fun f _=>⟨rfl,rfl,rfl⟩⟩
 | c + 1,x,hx=>by
   have e1:s.ships.length - (k + 1) + 1=s.ships.length - k:=by omega
   rw [Q2x] at hx
   split at hx
   . rename_i hn
     obtain ⟨h1,h2⟩:=X2p hf hk ih hl Bk c x hx;refine ⟨fun b hb=>?_,fun f hA=>?_⟩
     . obtain ⟨r,hr,u,hu⟩:=h1 b hb
       exact ⟨r,X9l hr,u,hu⟩
     . obtain ⟨w1,w2,w3⟩:=h2 f fun r hr=>hA r (X9l hr)
       unfold Z5w at w1 ⊢; unfold Z1d at w2 ⊢; unfold Z0t at w3 ⊢;rw [Q8m,Q8m,Q8m,hn,w1,w2,w3];simp
   . rename_i hn
     obtain ⟨y,hy,z,hz,rfl⟩:=X6x hx;obtain ⟨h1,h2⟩:=X2p hf hk ih hl Bk c y hy;obtain ⟨g1,g2⟩:=Y9r hf hk ih (Q8d hl) hn (e1 ▸ Q9s hf hl (by omega) Bk) hz
     refine ⟨fun b hb=>?_,fun f hA=>?_⟩
     . rcases List.mem_append.1 (show b ∈ y.closed ++ z.closed from hb) with hb | hb
       . obtain ⟨r,hr,u,hu⟩:=h1 b hb
         exact ⟨r,X9l hr,u,hu⟩
       . obtain ⟨r,hr,u,hu⟩:=g1 b hb
         exact ⟨r,Z2n hr,u,hu⟩
     . have aj:∀ r ∈ X6l s (s.ships.length - (k + 1)) (c + 1) l,∀ u,s.ships.length - (k + 1) < u -> u <= s.ships.length -> f (hs s r.member u)=(y.closed.contains (Q6j (hs s r.member u)) || z.closed.contains (Q6j (hs s r.member u))) :=
        fun r hr u hu Bv=>(hA r hr u hu Bv).trans (X6p _ _ _)
       obtain ⟨w1,w2,w3⟩:=h2 f fun r hr u hu Bv=>by
        have S1:=Q9d.1 hr;rw [aj r (X9l hr) u hu Bv,Q8r (a:=z.closed),Bool.or_false];intro b hb;obtain ⟨q,hq,v,hv,vW,e⟩:=g1 b hb;have G2:=Y0n.1 hq;rw [e]; exact Z0a hf (hl q G2.1) (hl r S1.1) hv hu (by have:=S1.2; have:=G2.2; omega)
       obtain ⟨v1,v2,v3⟩:=g2 f fun r hr u hu Bv=>by
        have S1:=Y0n.1 hr;rw [aj r (Z2n hr) u hu Bv,Q8r (a:=y.closed),Bool.false_or];intro b hb;obtain ⟨q,hq,v,hv,vW,e⟩:=h1 b hb;have G2:=Q9d.1 hq;rw [e]; exact Z0a hf (hl q G2.1) (hl r S1.1) hv hu (by have:=S1.2; have:=G2.2; omega)
       unfold Z5w at w1 v1 ⊢; unfold Z1d at w2 v2 ⊢; unfold Z0t at w3 v3 ⊢;rw [Q8m,Q8m,Q8m,w1,w2,w3,v1,v2,v3];exact ⟨rfl,rfl,rfl⟩
theorem X6v (hf:Fine s) {k:Nat} (hk:k + 1 <= s.ships.length) {sub:List Runner -> List Plan} {f:List Int -> Bool}
    (ih:∀ l,Known s l -> Q7z s (s.ships.length - k) l -> ∃ x ∈ sub l,Covers s f k l x) {l:List Runner} (hl:Known s l)
    (Bk:Q7z s (s.ships.length - (k + 1)) l):∀ c:Nat,∃ x ∈ Q2x s (s.ships.length - (k + 1)) sub l c,Covers s f (k + 1) (X6l s (s.ships.length - (k + 1)) c l) x
 | 0=>by
   rw [Y5g hf hl (by omega)]
   exact ⟨_,List.mem_singleton.2 rfl,Int.le_refl 0,Int.le_refl 0,Int.le_refl 0⟩
 | c + 1=>by
   have e1:s.ships.length - (k + 1) + 1=s.ships.length - k:=by omega
   obtain ⟨y,hy,y1,y2,y3⟩:=X6v hf hk ih hl Bk c;rw [Q2x];unfold Covers;unfold Z5w at y1 ⊢; unfold Z1d at y2 ⊢; unfold Z0t at y3 ⊢;simp only [Q8m]
   split
   . rename_i hn
     refine ⟨y,hy,?_⟩;rw [hn];simp only [List.map_nil,List.sum_nil];exact ⟨by omega,by omega,by omega⟩
   . rename_i hn
     obtain ⟨z,hz,z1,z2,z3⟩:=Y5s ih (Q8d (c:=c) hl) hn (e1 ▸ Q9s hf hl (by omega) Bk)
     obtain ⟨o,ho,n9⟩:=Y1j hy hz;rw [X0m] at n9;simp only [both] at n9;unfold Z5w at z1; unfold Z1d at z2; unfold Z0t at z3;exact ⟨o,ho,by omega,by omega,by omega⟩
theorem X4m {α:Type}:∀ l:List α,(l.map fun _=>(0:Int)).sum=0
 | []=>rfl
 | _ :: l=>by rw [List.map_cons,List.sum_cons,X4m l]; rfl
theorem X8x (hf:Fine s):∀ k,k <= s.ships.length -> ∀ l,Known s l -> Q7z s (s.ships.length - k) l -> ∀ x ∈ Q2v s k l,Sound s (s.ships.length - k) k l x
 | 0,_,l,_,_,x,hx=>by
   rw [Q2v,List.mem_singleton] at hx;subst hx;refine ⟨fun b hb=>absurd hb (by simp),fun f _=>⟨rfl,?_,?_⟩⟩
   . unfold Z1d J6h; simp [X4m]
   . unfold Z0t J7c; simp [X4m]
 | k + 1,hk,l,hl,Bk,x,hx=>by
   have:=X2p hf hk (X8x hf k (by omega)) hl Bk 10 x hx
   rwa [Z1e hf hl (by omega)] at this
theorem X7b (hf:Fine s) (f:List Int -> Bool):∀ k,k <= s.ships.length -> ∀ l,Known s l -> Q7z s (s.ships.length - k) l -> ∃ x ∈ Q2v s k l,Covers s f k l x
 | 0,_,l,_,_=>by
   refine ⟨_,List.mem_singleton.2 rfl,Int.le_refl _,?_,?_⟩
   . unfold Z1d J6h; simp [X4m]
   . unfold Z0t J7c; simp [X4m]
 | k + 1,hk,l,hl,Bk=>by
   have:=X6v hf hk (X7b hf f k (by omega)) hl Bk 10
   rwa [Z1e hf hl (by omega)] at this
def Y4o (s:Q0b):List Runner:=(List.range s.members.length).map fun i=>⟨i,0,true⟩
theorem Q8b:Known s (Y4o s):=by
 intro r hr;obtain ⟨i,hi,rfl⟩:=List.mem_map.1 hr;exact List.mem_range.1 hi
theorem Q9l:Q7z s (s.ships.length - s.ships.length) (Y4o s):=by
 intro r _ q _;rw [Nat.sub_self]; simp [hs]
theorem Z1s (hf:Fine s) {x:Plan} (hx:x ∈ Q3m s) (f:List Int -> Bool) (h:∀ i,i < s.members.length -> ∀ u,0 < u -> u <= s.ships.length -> f (hs s i u)=x.closed.contains (Q6j (hs s i u))) :
    Z5w s f s.ships.length (Y4o s)=x.weight /\ Z1d s f s.ships.length (Y4o s)=x.closings /\ Z0t s f s.ships.length (Y4o s)=x.delay :=
 (X8x hf _ (Nat.le_refl _) _ Q8b Q9l x hx).2 f fun r hr u hu Bv=>h _ (Q8b r hr) u (by omega) Bv
theorem Z0j (hf:Fine s) (f:List Int -> Bool):∃ x ∈ Q3m s,Covers s f s.ships.length (Y4o s) x:=X7b hf f _ (Nat.le_refl _) _ Q8b Q9l
end Go.Tw
namespace Go.Tw
variable {s:Q0b}
theorem X1p {α:Type} (p:α -> Bool) (g:α -> Int):∀ l:List α,(l.map fun x=>if p x=true then g x else 0).sum=((l.filter p).map g).sum
 | []=>rfl
 | x :: l=>by
   rw [List.map_cons,List.sum_cons,X1p p g l,List.filter_cons];cases h:p x <;> simp
theorem Q6c {α β:Type} (d:α) (g:α -> β) (l:List α):l.map g=(List.range l.length).map fun i=>g (l.getD i d):=by
 apply List.ext_getElem (by simp)
 intro i h1 h2;simp only [List.length_map] at h1;simp [h1]
theorem Y3j (k:Nat):List.range (k + 1)=0 :: (List.range k).map (· + 1):=List.range_succ_eq_map
def J1d (s:Q0b) (f:List Int -> Bool) (i:Nat):List Bool:=(List.range s.ships.length).map fun t=>f (hs s i (t + 1))
theorem J3n (f:List Int -> Bool) (i k:Nat) (hk:k + 1 <= s.ships.length) :
    (J1d s f i).drop (s.ships.length - (k + 1))=f (hs s i (s.ships.length - k)) :: (J1d s f i).drop (s.ships.length - k):=by
 have h:s.ships.length - (k + 1) < (J1d s f i).length:=by simp [J1d]; omega
 rw [List.drop_eq_getElem_cons h];have e:s.ships.length - (k + 1) + 1=s.ships.length - k:=by omega
 rw [e]
 congr 1
 simp only [J1d,List.getElem_map,List.getElem_range,e]
theorem J0n (f:List Int -> Bool):∀ k,k <= s.ships.length -> ∀ x:Runner,J7m s f k x =
    (x.dry && !(((Q1g s x.member).Q2o (s.ships.length - k) x.level ((J1d s f x.member).drop (s.ships.length - k))).any fun y=>decide (s.limit < y)))
 | 0,_,x=>by
   rw [J7m,Nat.sub_zero,List.drop_of_length_le (by simp [J1d])]
   simp [Mem.Q2o]
 | k + 1,hk,x=>by
   rw [J7m,J0n f k (by omega),J3n f _ k hk]
   have e:s.ships.length - (k + 1) + 1=s.ships.length - k:=by omega
   simp only [mv1,Mem.Q2o,List.any_cons,e];generalize ((Q1g s x.member).stepT (s.ships.length - (k + 1)) x.level (f (hs s x.member (s.ships.length - k)))).1=pk
   by_cases h:pk <= s.limit
   . have h':¬ s.limit < pk:=by omega
     simp [h,h']
   . have h':s.limit < pk:=by omega
     simp [h,h']
theorem Z8u (f:List Int -> Bool) (i:Nat):∀ k,k <= s.ships.length -> J6h s f k i=((List.range k).map fun j=>if f (hs s i (s.ships.length - k + j + 1)) then (1:Int) else 0).sum
 | 0,_=>rfl
 | k + 1,hk=>by
   rw [J6h,Z8u f i k (by omega),Y3j,List.map_cons,List.sum_cons,List.map_map]
   have e:s.ships.length - (k + 1) + 0 + 1=s.ships.length - k:=by omega
   rw [e]
   congr 2
   apply List.map_congr_left
   intro j _;have e2:s.ships.length - (k + 1) + (j + 1) + 1=s.ships.length - k + j + 1:=by omega
   simp only [Function.comp,e2]
theorem J1q (f:List Int -> Bool) (i:Nat):∀ k,k <= s.ships.length -> J7c s f k i=((List.range k).map fun j=>if f (hs s i (s.ships.length - k + j + 1)) then ix s.ships (s.ships.length - k + j) else 0).sum
 | 0,_=>rfl
 | k + 1,hk=>by
   rw [J7c,J1q f i k (by omega),Y3j,List.map_cons,List.sum_cons,List.map_map]
   have e:s.ships.length - (k + 1) + 0 + 1=s.ships.length - k:=by omega
   rw [e,Nat.add_zero]
   congr 2
   apply List.map_congr_left
   intro j _;have e3:s.ships.length - (k + 1) + (j + 1)=s.ships.length - k + j:=by omega
   simp only [Function.comp,e3]
theorem count_map (g:Nat -> Bool):∀ n:Nat,countB ((List.range n).map g)=((List.range n).map fun j=>if g j then (1:Int) else 0).sum:=by
 have go:∀ l:List Nat,countB (l.map g)=(l.map fun j=>if g j then (1:Int) else 0).sum:=by
  intro l
  induction l with
  | nil=>rfl
  | cons a l ih =>
    unfold countB at ih ⊢;rw [List.map_cons,List.map_cons,List.sum_cons,<- ih,List.countP_cons];cases h:g a
    . simp
    . simp; omega
 intro n; exact go _
theorem Q9v (hf:Fine s) (p:List Rul) {i:Nat} (hi:i < s.members.length):Q0h p (Q1g s i).classes=J1d s (look p) i:=by
 have h:=(hf.shaped i hi).1;unfold Q0h J1d hs;show (List.range (Q0c s.members i).length).map _=_;rw [h]; rfl
theorem J1z (hf:Fine s) (p:List Rul):Z5w s (look p) s.ships.length (Y4o s)=Q1t s (Q1w s p):=by
 unfold Z5w Y4o Q1t Q1w;rw [List.map_map,List.map_map,<- X1p]
 congr 1
 apply List.map_congr_left
 intro i hi;have Bg:=List.mem_range.1 hi;simp only [Function.comp];rw [J0n _ _ (Nat.le_refl _),Q9v hf p Bg];simp only [Nat.sub_self,List.drop_zero,Bool.true_and,Mem.keeps,Mem.Q2a];rfl
theorem Y6m (hf:Fine s) (p:List Rul):Z1d s (look p) s.ships.length (Y4o s)=Q2u s p:=by
 unfold Z1d Y4o Q2u;rw [List.map_map,Q6c default _ s.members]
 congr 1
 apply List.map_congr_left
 intro i hi;have Bg:=List.mem_range.1 hi;simp only [Function.comp];have:=Q9v hf p Bg;unfold Q1g at this;rw [Z8u _ _ _ (Nat.le_refl _),this,J1d,count_map];simp only [Nat.sub_self,Nat.zero_add];rfl
theorem Z8f (hf:Fine s) (p:List Rul):Z0t s (look p) s.ships.length (Y4o s)=Q6q s p:=by
 unfold Z0t Y4o Q6q;rw [List.map_map,Q6c default _ s.members]
 congr 1
 apply List.map_congr_left
 intro i hi;have Bg:=List.mem_range.1 hi;simp only [Function.comp];have:=Q9v hf p Bg;unfold Q1g at this;rw [J1q _ _ _ (Nat.le_refl _),this];unfold Q3y J1d;simp only [Nat.sub_self,Nat.zero_add,List.length_map,List.length_range];show Q0n s.members i * _=_ * _
 congr 2
 apply List.map_congr_left
 intro t ht;have Eg:=List.mem_range.1 ht;simp [Eg]
end Go.Tw
namespace Go.Tw
variable {s:Q0b}
def Q4f (s:Q0b) (n:Nat):List Rul:=(List.range s.hist.length).map fun i=>⟨s.hist.getD i [],n.testBit i⟩
def pick (need:Int) (b:Option (Int × Int)) (w c d:Int):Option (Int × Int) :=
 if w < need then b else match b with
 | none=>some (c,d)
 | some (x,y)=>if c < x ∨ c=x /\ d < y then some (c,d) else some (x,y)
theorem X8t:∀ (m:Nat) (g:Nat -> Bool),∃ n,n < 2 ^ m /\ ∀ i,i < m -> n.testBit i=g i
 | 0,_=>⟨0,by decide,fun i h=>absurd h (Nat.not_lt_zero _)⟩
 | m + 1,g=>by
   obtain ⟨n,hn,h⟩:=X8t m g;cases hg:g m
   . refine ⟨n,by rw [Nat.pow_succ]; omega,fun i hi=>?_⟩
     by_cases e:i=m
     . subst e; rw [hg,Nat.testBit_lt_two_pow hn]
     . exact h i (by omega)
   . refine ⟨2 ^ m + n,by rw [Nat.pow_succ]; omega,fun i hi=>?_⟩
     by_cases e:i=m
     . subst e; rw [hg,Nat.testBit_two_pow_add_eq,Nat.testBit_lt_two_pow hn]; rfl
     . rw [Nat.testBit_two_pow_add_gt (by omega)]; exact h i (by omega)
theorem Z3x (g:List Int -> Bool) (h:List Int):∀ l:List (List Int),h ∈ l -> look (l.map fun x=>⟨x,g x⟩) h=g h
 | [],hh=>absurd hh (by simp)
 | x :: l,hh=>by
   by_cases e:x=h
   . subst e; simp [look]
   . have:=Z3x g h l ((List.mem_cons.1 hh).resolve_left (Ne.symm e))
     unfold look at this ⊢;rw [List.map_cons,List.find?_cons];simp only [show (x == h)=false by simp [e]]
     exact this
theorem J0i {i u:Nat} (hi:i < s.members.length) (h0:0 < u) (hu:u <= s.ships.length):hs s i u ∈ s.hist :=
 (Q0b.Q4k _ _).2 ⟨u - 1,by omega,i,hi,by rw [hs,Nat.sub_add_cancel h0]⟩
theorem J3x (hf:Fine s) {x:Plan} (hx:x ∈ Q3m s):Q1t s (Q1w s (Y1o s x))=x.weight /\ Q2u s (Y1o s x)=x.closings /\ Q6q s (Y1o s x)=x.delay:=by
 rw [<- J1z hf,<- Y6m hf,<- Z8f hf];exact Z1s hf hx _ fun i hi u h0 hu=>Z3x _ _ _ (J0i hi h0 hu)
def Best (need:Int) (l:List (Int × Int × Int)) (r:Option (Int × Int)):Prop:=match r with
 | none=>∀ t ∈ l,t.1 < need
 | some (a,b)=>(∃ t ∈ l,need <= t.1 /\ t.2.1=a /\ t.2.2=b) /\ ∀ t ∈ l,need <= t.1 -> a < t.2.1 ∨ a=t.2.1 /\ b <= t.2.2
theorem Z9u {need:Int} {l:List (Int × Int × Int)} {r:Option (Int × Int)} (h:Best need l r) (w c d:Int):Best need (l ++ [(w,c,d)]) (pick need r w c d):=by
 unfold pick
 by_cases hw:w < need
 . rw [if_pos hw]
   cases r with
   | none => intro t ht; rcases List.mem_append.1 ht with e | e
             . exact h t e
             . rw [List.mem_singleton] at e; subst e; exact hw
   | some p =>
     obtain ⟨⟨t,ht,h1⟩,h2⟩:=h;refine ⟨⟨t,List.mem_append.2 (.inl ht),h1⟩,fun u hu hn=>?_⟩
     rcases List.mem_append.1 hu with e | e
     . exact h2 u e hn
     . rw [List.mem_singleton] at e; subst e; simp only at hn; omega
 . rw [if_neg hw]
   have me:(w,c,d) ∈ l ++ [(w,c,d)]:=List.mem_append.2 (.inr (List.mem_singleton.2 rfl));cases r with
   | none =>
     refine ⟨⟨_,me,by simp only; omega,rfl,rfl⟩,fun u hu hn=>?_⟩
     rcases List.mem_append.1 hu with e | e
     . have:=h u e; omega
     . rw [List.mem_singleton] at e; subst e; exact .inr ⟨rfl,Int.le_refl _⟩
   | some p =>
     obtain ⟨x,y⟩:=p;obtain ⟨⟨t,ht,h1⟩,h2⟩:=h;dsimp only
     by_cases hb:c < x ∨ c=x /\ d < y
     . rw [if_pos hb]
       refine ⟨⟨_,me,by simp only; omega,rfl,rfl⟩,fun u hu hn=>?_⟩
       rcases List.mem_append.1 hu with e | e
       . have:=h2 u e hn; omega
       . rw [List.mem_singleton] at e; subst e; exact .inr ⟨rfl,Int.le_refl _⟩
     . rw [if_neg hb]
       refine ⟨⟨t,List.mem_append.2 (.inl ht),h1⟩,fun u hu hn=>?_⟩
       rcases List.mem_append.1 hu with e | e
       . exact h2 u e hn
       . rw [List.mem_singleton] at e; subst e; simp only; omega
def tri (x:Plan):Int × Int × Int:=(x.weight,x.closings,x.delay)
theorem Y2j (need:Int):∀ (l pre:List Plan) (b:Option Plan),Best need (pre.map tri) (b.map fun x=>(x.closings,x.delay)) -> (∀ x,b=some x -> x ∈ pre /\ need <= x.weight) ->
    Best need ((pre ++ l).map tri) ((l.foldl (Q2m need) b).map fun x=>(x.closings,x.delay)) /\ ∀ x,l.foldl (Q2m need) b=some x -> x ∈ pre ++ l /\ need <= x.weight
 | [],pre,b,h,hb=>by rw [List.append_nil]; exact ⟨h,hb⟩
 | x :: l,pre,b,h,hb=>by
   have hp:=Z9u h x.weight x.closings x.delay;have e:pick need (b.map fun x=>(x.closings,x.delay)) x.weight x.closings x.delay=(Q2m need b x).map fun x=>(x.closings,x.delay):=by
    unfold pick Q2m
    by_cases hw:x.weight < need
    . rw [if_pos hw,if_pos hw]
    . rw [if_neg hw,if_neg hw]
      cases b with
      | none=>rfl
      | some o =>
        dsimp only [Option.map_some]
        by_cases hc:x.closings < o.closings ∨ x.closings=o.closings /\ x.delay < o.delay
        . rw [if_pos hc,if_pos hc]; rfl
        . rw [if_neg hc,if_neg hc]; rfl
   rw [e] at hp;have:=Y2j need l (pre ++ [x]) (Q2m need b x) (by rw [List.map_append]; exact hp) fun y hy=>by
    unfold Q2m at hy
    by_cases hw:x.weight < need
    . rw [if_pos hw] at hy
      obtain ⟨k1,k2⟩:=hb y hy;exact ⟨List.mem_append.2 (.inl k1),k2⟩
    . rw [if_neg hw] at hy
      have hx:x ∈ pre ++ [x]:=List.mem_append.2 (.inr (List.mem_singleton.2 rfl));cases b with
      | none=>cases hy; exact ⟨hx,by omega⟩
      | some o =>
        dsimp only at hy
        split at hy
        . cases hy; exact ⟨hx,by omega⟩
        . obtain ⟨k1,k2⟩:=hb y hy
          exact ⟨List.mem_append.2 (.inl k1),k2⟩
   rw [List.append_assoc] at this;exact this
theorem J6v (hf:Fine s) {need:Int} {x:Plan} (h:Y5r s need=some x):need <= x.weight /\ Q1t s (Q1w s (Y1o s x))=x.weight /\ Q2u s (Y1o s x)=x.closings /\ Q6q s (Y1o s x)=x.delay:=by
 obtain ⟨-,k⟩:=Y2j need (Q3m s) [] none (fun t ht=>absurd ht (by simp)) (fun x hx=>by cases hx)
 obtain ⟨k1,k2⟩:=k x h;exact ⟨k2,J3x hf (by simpa using k1)⟩
end Go.Tw
namespace Go.Tw
variable {s:Q0b}
theorem Z8o:∀ l:List Bool,∃ n,n < 2 ^ l.length /\ Q6n n l.length=l:=by
 intro l;obtain ⟨n,hn,h⟩:=X8t l.length fun i=>l.getD (l.length - 1 - i) false
 refine ⟨n,hn,?_⟩;unfold Q6n
 apply List.ext_getElem (by simp)
 intro i h1 h2;simp only [List.getElem_map,List.getElem_range];rw [h _ (by omega),Q0u _ (by omega)]
 congr 1
 omega
theorem Q1l (p:List Rul) (l:List Int):(Q0h p l).length=l.length:=by simp [Q0h]
end Go.Tw
namespace Go.Tw
variable {s:Q0b}
theorem X1u (m:Mem):∀ (c:List Bool) (u t:Nat) (lv:Int),(m.Q2o t lv c).take u=m.Q2o t lv (c.take u)
 | [],u,t,lv=>by simp [Mem.Q2o]
 | x :: c,0,t,lv=>by simp [Mem.Q2o]
 | x :: c,u + 1,t,lv=>by
   rw [List.take_succ_cons,Mem.Q2o,Mem.Q2o,List.take_succ_cons,X1u m c u]
theorem Y3u (m:Mem) (c:List Bool) (u:Nat):(m.Q2a c).take u=m.Q2a (c.take u):=X1u m c u 0 0
theorem J0w (m:Mem) (lim:Int) (c:List Bool):m.keeps lim c=true ↔ ∀ x ∈ m.Q2a c,x <= lim:=by
 unfold Mem.keeps;rw [Bool.not_eq_true',List.any_eq_false]
 constructor
 . intro h x hx; have:=h x hx; simp only [decide_eq_true_eq] at this; omega
 . intro h x hx; have:=h x hx; simp only [decide_eq_true_eq]; omega
theorem Z6x {m:Mem} {lim:Int} {c:List Bool} (h:m.keeps lim c=true) (u:Nat):m.keeps lim (c.take u)=true:=by
 rw [J0w] at h ⊢;intro x hx;rw [<- Y3u] at hx;exact h x (List.mem_of_mem_take hx)
theorem X3m (n t:Nat):(Q6n n t).length=t:=by simp [Q6n]
theorem Z8t (m:Mem) (lim:Int) (t:Nat):m.Q9w lim t=true ↔ ∃ c:List Bool,c.length=t /\ m.keeps lim c=true:=by
 unfold Mem.Q9w;rw [List.any_eq_true]
 constructor
 . rintro ⟨n,-,h⟩; exact ⟨Q6n n t,X3m n t,h⟩
 . rintro ⟨c,rfl,h⟩
   obtain ⟨n,hn,e⟩:=Z8o c;exact ⟨n,List.mem_range.2 hn,by rw [e]; exact h⟩
theorem Z8i {i t:Nat} (h:Q5u s i=some t):t < s.ships.length /\ ∀ c:List Bool,t < c.length -> (Q1g s i).keeps s.limit (c.take (t + 1))=false:=by
 unfold Q5u at h;have h1:=List.find?_some h;have h2:=List.mem_of_find?_eq_some h;refine ⟨List.mem_range.1 h2,fun c hc=>?_⟩;rw [<- Bool.not_eq_true];intro hk;have:(Q1g s i).Q9w s.limit (t + 1)=true:=(Z8t _ _ _).2 ⟨_,by rw [List.length_take]; omega,hk⟩
 rw [this] at h1;exact absurd h1 (by simp)
end Go.Tw
namespace Go.Proofs
open Go.RowKit Go.Tw Go.Flow
theorem Y2m (m:Mem) (l:List Bool) {k:Nat} (hk:k < l.length) (lv:Int):m.Q2o k lv (l.drop k)=(m.stepT k lv (bx l k)).1 :: m.Q2o (k + 1) (m.stepT k lv (bx l k)).2 (l.drop (k + 1)):=by
 rw [Y5b hk]; rfl
theorem X3q (m:Mem):∀ (l:List Bool) (t:Nat) (lv:Int),(m.Q2o t lv l).length=l.length
 | [],_,_=>rfl
 | _ :: l,t,lv=>by
   unfold Mem.Q2o;rw [List.length_cons,List.length_cons,X3q m l]
theorem Q7l (m:Mem) (l:List Bool):(m.Q2a l).length=l.length:=X3q m l 0 0
end Go.Proofs
