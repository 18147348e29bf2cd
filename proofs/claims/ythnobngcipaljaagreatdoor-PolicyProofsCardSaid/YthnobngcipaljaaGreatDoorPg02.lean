/- Part of a proof. -/
import Derived.Test.YthnobngcipaljaaGreatDoorPg01
import Derived.Laws.BitsLemmas
import Derived.OrdersIn
import Derived.RangeFuncCalls
import Derived.TacticsIn
import Derived.Shelf.Abstract
set_option maxRecDepth 1000000
set_option maxHeartbeats 64000000
set_option linter.unusedVariables false
set_option linter.unusedSimpArgs false
set_option linter.constructorNameAsVariable false
open Go.Lib (hid)
namespace Go.Tw
theorem Y8v {α:Type} {R:α -> α -> Prop} (irr:∀ a,¬ R a a) (asym:∀ a b,R a b -> ¬ R b a) :
    ∀ {l m:List α},l.Pairwise R -> m.Pairwise R -> (∀ x,x ∈ l ↔ x ∈ m) -> l=m
 | [],[],_,_,_=>rfl
 | [],b :: m,_,_,h=>absurd ((h b).2 List.mem_cons_self) (by simp)
 | a :: l,[],_,_,h=>absurd ((h a).1 List.mem_cons_self) (by simp)
 | a :: l,b :: m,hl,hm,h=>by
   obtain ⟨O1,zw⟩:=List.pairwise_cons.1 hl;obtain ⟨d8,L3⟩:=List.pairwise_cons.1 hm;have ly:a=b:=by
    rcases List.mem_cons.1 ((h a).1 List.mem_cons_self) with e | e
    . exact e
    . rcases List.mem_cons.1 ((h b).2 List.mem_cons_self) with e' | e'
      . exact e'.symm
      . exact absurd (d8 a e) (asym _ _ (O1 b e'))
   subst ly;rw [Y8v irr asym zw L3 fun x=>?_]
   constructor
   . intro hx
     rcases List.mem_cons.1 ((h x).1 (List.mem_cons_of_mem _ hx)) with e | e
     . subst e; exact absurd (O1 _ hx) (irr _)
     . exact e
   . intro hx
     rcases List.mem_cons.1 ((h x).2 (List.mem_cons_of_mem _ hx)) with e | e
     . subst e; exact absurd (d8 _ hx) (irr _)
     . exact e
theorem X6f:∀ a:List Int,Q5v a a=false
 | []=>rfl
 | x :: l=>by simp [Q5v,X6f l]
theorem Y3g:∀ {a b:List Int},Q5v a b=true -> Q5v b a=false
 | [],_,h=>by simp [Q5v] at h
 | _ :: _,[],h=>by simp [Q5v] at h
 | x :: l,y :: m,h=>by
   unfold Q5v at h ⊢
   by_cases e:x=y
   . subst e; simp only [if_true] at h ⊢; exact Y3g h
   . rw [if_neg e] at h; rw [if_neg (Ne.symm e)]; simp only [decide_eq_true_eq,decide_eq_false_iff_not] at h ⊢; omega
theorem X8v:∀ {a b c:List Int},Q5v a b=true -> Q5v b c=true -> Q5v a c=true
 | [],_,_,h,_=>by simp [Q5v] at h
 | _ :: _,[],_,h,_=>by simp [Q5v] at h
 | _ :: _,_ :: _,[],_,h=>by simp [Q5v] at h
 | x :: l,y :: m,z :: n,h,k=>by
   unfold Q5v at h k ⊢
   by_cases e:x=y
   . subst e; simp only [if_true] at h
     by_cases e':x=z
     . subst e'; simp only [if_true] at k ⊢; exact X8v h k
     . rw [if_neg e'] at k ⊢; exact k
   . rw [if_neg e] at h
     by_cases e':y=z
     . subst e'; rw [if_neg e]; exact h
     . rw [if_neg e'] at k; simp only [decide_eq_true_eq] at h k
       rw [if_neg (by omega)]; simp only [decide_eq_true_eq]; omega
theorem Y7k:∀ {a b:List Int},a.length=b.length -> Q5v a b=false -> a=b ∨ Q5v b a=true
 | [],[],_,_=>.inl rfl
 | [],_ :: _,h,_=>by simp at h
 | _ :: _,[],h,_=>by simp at h
 | x :: l,y :: m,h,k=>by
   unfold Q5v at k ⊢
   by_cases e:x=y
   . subst e; simp only [if_true] at k ⊢
     rcases Y7k (Nat.succ.inj h) k with r | r
     . exact .inl (by rw [r])
     . exact .inr r
   . rw [if_neg e] at k; rw [if_neg (Ne.symm e)]
     simp only [decide_eq_true_eq,decide_eq_false_iff_not] at k ⊢; exact .inr (by omega)
theorem Q8g (a:List Int):¬ Q2g a a=true:=by simp [Q2g,X6f]
theorem Z0v (a b:List Int) (h:Q2g a b=true):¬ Q2g b a=true:=by
 unfold Q2g at h ⊢
 by_cases e:a.length=b.length
 . rw [if_pos e] at h; rw [if_pos e.symm,Y3g h]; simp
 . rw [if_neg e] at h; rw [if_neg (Ne.symm e)]; simp only [decide_eq_true_eq] at h ⊢; omega
theorem Q7a {a b c:List Int} (h:Q2g a b=true) (k:Q2g b c=true):Q2g a c=true:=by
 unfold Q2g at h k ⊢
 by_cases e:a.length=b.length
 . rw [if_pos e] at h
   by_cases e':b.length=c.length
   . rw [if_pos e'] at k; rw [if_pos (e.trans e')]; exact X8v h k
   . rw [if_neg e'] at k; rw [if_neg (by omega)]; rw [e]; exact k
 . rw [if_neg e] at h
   by_cases e':b.length=c.length
   . rw [if_neg (by omega),<- e']; exact h
   . rw [if_neg e'] at k; simp only [decide_eq_true_eq] at h k; rw [if_neg (by omega)]; simp only [decide_eq_true_eq]; omega
theorem X9p {a b:List Int} (h:Q2g a b=false):a=b ∨ Q2g b a=true:=by
 unfold Q2g at h ⊢
 by_cases e:a.length=b.length
 . rw [if_pos e] at h; rw [if_pos e.symm]; exact Y7k e h
 . rw [if_neg e] at h; rw [if_neg (Ne.symm e)]; simp only [decide_eq_true_eq,decide_eq_false_iff_not] at h ⊢; exact .inr (by omega)
def Asc (l:List (List Int)):Prop:=l.Pairwise fun a b=>Q2g a b=true
theorem J9y {l m:List (List Int)} (hl:Asc l) (hm:Asc m) (h:∀ x,x ∈ l ↔ x ∈ m):l=m :=
 Y8v Q8g Z0v hl hm h
theorem posB (h:List Int) (out:List (List Int)):∀ n,Q2e h out n <= n /\ (∀ i,Q2e h out n <= i -> i < n -> Q2g h (out.getD i [])=true) /\
    (0 < Q2e h out n -> Q2g h (out.getD (Q2e h out n - 1) [])=false)
 | 0=>⟨Nat.le_refl _,fun i _ h=>absurd h (Nat.not_lt_zero _),fun h=>absurd h (Nat.lt_irrefl _)⟩
 | n + 1=>by
   obtain ⟨h1,h2,h3⟩:=posB h out n;unfold Q2e
   by_cases e:Q2g h (out.getD n [])=true
   . rw [if_pos e]
     refine ⟨by omega,fun i hi hn=>?_,h3⟩
     by_cases Jk:i=n
     . subst Jk; exact e
     . exact h2 i hi (by omega)
   . rw [if_neg e]
     exact ⟨Nat.le_refl _,fun i hi hn=>by omega,fun _=>by simpa using e⟩
theorem row_mem (h:List Int) (row:List (List Int)) (x:List Int):x ∈ Q7t h row ↔ x=h ∨ x ∈ row:=by
 unfold Q7t;obtain ⟨h1,-,-⟩:=posB h row row.length
 by_cases e:0 < Q2e h row row.length /\ row.getD (Q2e h row row.length - 1) []=h
 . dsimp only; rw [if_pos e]
   refine ⟨.inr,fun k=>k.elim (fun k=>?_) id⟩;subst k;have Tq:Q2e x row row.length - 1 < row.length:=by omega
   rw [List.getD_eq_getElem?_getD,List.getElem?_eq_getElem Tq,Option.getD_some] at e;exact e.2 ▸ List.getElem_mem Tq
 . dsimp only; rw [if_neg e]
   have hx:x ∈ row ↔ x ∈ row.take (Q2e h row row.length) ∨ x ∈ row.drop (Q2e h row row.length):=by
    rw [<- List.mem_append,List.take_append_drop]
   simp only [List.mem_append,List.mem_singleton,hx]
   constructor
   . rintro ((k | k) | k)
     . exact .inr (.inl k)
     . exact .inl k
     . exact .inr (.inr k)
   . rintro (k | k | k)
     . exact .inl (.inr k)
     . exact .inl (.inl k)
     . exact .inr k
theorem J7u (h:List Int) {row:List (List Int)} (ha:Asc row):Asc (Q7t h row):=by
 unfold Q7t;obtain ⟨h1,h2,h3⟩:=posB h row row.length
 by_cases e:0 < Q2e h row row.length /\ row.getD (Q2e h row row.length - 1) []=h
 . dsimp only; rw [if_pos e]; exact ha
 . dsimp only; rw [if_neg e]
   generalize Q2e h row row.length=k at *;have hi:∀ i j (hi:i < row.length) (hj:j < row.length),i < j -> Q2g row[i] row[j]=true:=fun i j hi hj hij=>List.pairwise_iff_getElem.1 ha i j hi hj hij;have hd:∀ x ∈ row.drop k,Q2g h x=true:=by
    intro x hx;obtain ⟨i,hi,rfl⟩:=List.mem_iff_getElem.1 hx;rw [List.length_drop] at hi;rw [List.getElem_drop];have:=h2 (k + i) (by omega) (by omega)
    rwa [List.getD_eq_getElem?_getD,List.getElem?_eq_getElem (by omega),Option.getD_some] at this
   have ht:∀ x ∈ row.take k,Q2g x h=true:=by
    intro x hx;obtain ⟨i,J3,rfl⟩:=List.mem_iff_getElem.1 hx;rw [List.length_take] at J3;rw [List.getElem_take];have hk:0 < k:=by omega
    have h4:=h3 hk;have Tq:k - 1 < row.length:=by omega
    rw [List.getD_eq_getElem?_getD,List.getElem?_eq_getElem Tq,Option.getD_some] at h4 e;have h5:Q2g row[k - 1] h=true:=by
     rcases X9p h4 with r | r
     . exact absurd ⟨hk,r.symm⟩ e
     . exact r
    by_cases hik:i=k - 1
    . subst hik; exact h5
    . exact Q7a (hi i (k - 1) (by omega) Tq (by omega)) h5
   refine List.pairwise_append.2 ⟨List.pairwise_append.2 ⟨List.Pairwise.sublist (List.take_sublist _ _) ha,List.pairwise_singleton _ _,fun a UG b hb=>?_⟩,List.Pairwise.sublist (List.drop_sublist _ _) ha,fun a UG b hb=>?_⟩
   . rw [List.mem_singleton] at hb; subst hb; exact ht a UG
   . rcases List.mem_append.1 UG with r | r
     . exact Q7a (ht a r) (hd b hb)
     . rw [List.mem_singleton] at r; subst r; exact hd b hb
namespace Q0b
variable {s:Q0b}
theorem Y9c (t:Nat):∀ i,Asc (s.Q6d t i)
 | 0=>List.Pairwise.nil
 | i + 1=>J7u _ (Y9c t i)
theorem X4i (t:Nat) (x:List Int):∀ i,x ∈ s.Q6d t i ↔ ∃ k,k < i /\ x=(Q0c s.members k).take (t + 1)
 | 0=>by simp [Q6d]
 | i + 1=>by
   rw [Q6d,row_mem,X4i t x i]
   constructor
   . rintro (h | ⟨k,hk,h⟩)
     . exact ⟨i,Nat.lt_succ_self _,h⟩
     . exact ⟨k,by omega,h⟩
   . rintro ⟨k,hk,h⟩
     by_cases e:k=i
     . subst e; exact .inl h
     . exact .inr ⟨k,by omega,h⟩
theorem Q4r (x:List Int):∀ n,x ∈ s.Q6a n ↔ ∃ t,t < n /\ ∃ k,k < s.members.length /\ x=(Q0c s.members k).take (t + 1)
 | 0=>by simp [Q6a]
 | n + 1=>by
   rw [Q6a,List.mem_append,Q4r x n,X4i]
   constructor
   . rintro (⟨t,ht,h⟩ | h)
     . exact ⟨t,by omega,h⟩
     . exact ⟨n,Nat.lt_succ_self _,h⟩
   . rintro ⟨t,ht,h⟩
     by_cases e:t=n
     . subst e; exact .inr h
     . exact .inl ⟨t,by omega,h⟩
def Shaped (s:Q0b):Prop:=∀ k,k < s.members.length -> (Q0c s.members k).length=s.ships.length /\ (Q0z s.members k).length=s.ships.length /\ (Q1g s.members k).length=s.ships.length
theorem Y3p (hs:s.Shaped):∀ n,n <= s.ships.length -> Asc (s.Q6a n)
 | 0,_=>List.Pairwise.nil
 | n + 1,hn=>by
   refine List.pairwise_append.2 ⟨Y3p hs n (by omega),Y9c n _,fun a ha b hb=>?_⟩
   obtain ⟨t,ht,k,hk,rfl⟩:=(Q4r a n).1 ha;obtain ⟨j,hj,rfl⟩:=(X4i n b _).1 hb;have h1:=(hs k hk).1;have h2:=(hs j hj).1;unfold Q2g;rw [if_neg (by simp only [List.length_take]; omega)]
   simp only [List.length_take,decide_eq_true_eq]; omega
theorem Y5v (hs:s.Shaped):Asc s.hist:=Y3p hs _ (Nat.le_refl _)
theorem J8t (hs:s.Shaped) (x:List Int):x ∈ s.Y1h ↔ x ∈ s.hist:=by
 rw [hist,Q4r,Y1h,List.mem_flatMap]
 constructor
 . rintro ⟨m,hm,h⟩
   obtain ⟨t,ht,rfl⟩:=List.mem_map.1 h;rw [List.mem_range] at ht;obtain ⟨k,hk,rfl⟩:=List.mem_iff_getElem.1 hm;have e:Q0c s.members k=s.members[k].classes:=by rw [Q0c,Q0t _ hk]
   exact ⟨t,by rw [<- (hs k hk).1,e]; exact ht,k,hk,by rw [e]⟩
 . rintro ⟨t,ht,k,hk,rfl⟩
   have e:Q0c s.members k=s.members[k].classes:=by rw [Q0c,Q0t _ hk]
   refine ⟨s.members[k],List.getElem_mem hk,List.mem_map.2 ⟨t,?_,by rw [e]⟩⟩
   rw [List.mem_range,<- e,(hs k hk).1]; exact ht
theorem J8d (hs:s.Shaped) {l:List (List Int)} (hl:Asc l) (h:∀ x,x ∈ l ↔ x ∈ s.Y1h):l=s.hist :=
 J9y hl (Y5v hs) fun x=>(h x).trans (J8t hs x)
end Q0b
end Go.Tw
namespace Go.Tw
theorem X1a {x o:Plan}:x.Q5h o=true ↔ o.weight <= x.weight /\ x.closings <= o.closings /\ x.delay <= o.delay:=by
 unfold Plan.Q5h; simp only [Bool.and_eq_true,decide_eq_true_eq,and_assoc]
theorem X1f (x:Plan):x.Q5h x=true:=X1a.2 ⟨Int.le_refl _,Int.le_refl _,Int.le_refl _⟩
theorem Z2b {x y z:Plan} (h:x.Q5h y=true) (k:y.Q5h z=true):x.Q5h z=true:=by
 rw [X1a] at *; omega
theorem Y6c {out:List Plan} {x y:Plan} (h:y ∈ Q2o out x):y ∈ out ∨ y=x:=by
 unfold Q2o at h
 split at h
 . exact .inl h
 . rcases List.mem_append.1 h with r | r
   . exact .inl (List.mem_filter.1 r).1
   . exact .inr (List.mem_singleton.1 r)
theorem X9w {out:List Plan} {x y:Plan} (h:y ∈ out ∨ y=x):∃ o ∈ Q2o out x,o.Q5h y=true:=by
 unfold Q2o
 split
 . rename_i he
   rcases h with h | h
   . exact ⟨y,h,X1f y⟩
   . subst h
     obtain ⟨o,ho,hb⟩:=List.any_eq_true.1 he;exact ⟨o,ho,hb⟩
 . rcases h with h | h
   . by_cases hb:x.Q5h y=true
     . exact ⟨x,List.mem_append.2 (.inr (List.mem_singleton.2 rfl)),hb⟩
     . exact ⟨y,List.mem_append.2 (.inl (List.mem_filter.2 ⟨h,by simp [hb]⟩)),X1f y⟩
   . subst h; exact ⟨y,List.mem_append.2 (.inr (List.mem_singleton.2 rfl)),X1f y⟩
theorem X4f:∀ {l out:List Plan} {y:Plan},y ∈ l.foldl Q2o out -> y ∈ out ∨ y ∈ l
 | [],_,_,h=>.inl h
 | x :: l,out,y,h=>by
   rcases X4f (l:=l) h with r | r
   . rcases Y6c r with r | r
     . exact .inl r
     . exact .inr (r ▸ List.mem_cons_self)
   . exact .inr (List.mem_cons_of_mem _ r)
theorem Q7m:∀ {l out:List Plan} {y:Plan},y ∈ out ∨ y ∈ l -> ∃ o ∈ l.foldl Q2o out,o.Q5h y=true
 | [],_,y,h=>⟨y,h.elim id (fun h=>absurd h (by simp)),X1f y⟩
 | x :: l,out,y,h=>by
   have h':(y ∈ out ∨ y=x) ∨ y ∈ l:=by
    rcases h with h | h
    . exact .inl (.inl h)
    . rcases List.mem_cons.1 h with h | h
      . exact .inl (.inr h)
      . exact .inr h
   rcases h' with h' | h'
   . obtain ⟨o,ho,hb⟩:=X9w h'
     obtain ⟨o',Px,Mk⟩:=Q7m (l:=l) (out:=Q2o out x) (.inl ho);exact ⟨o',Px,Z2b Mk hb⟩
   . exact Q7m (l:=l) (out:=Q2o out x) (.inr h')
theorem Y0k {l:List Plan} {y:Plan} (h:y ∈ Y0i l):y ∈ l:=(X4f h).elim (fun h=>absurd h (by simp)) id
theorem X2t {l:List Plan} {y:Plan} (h:y ∈ l):∃ o ∈ Y0i l,o.Q5h y=true:=Q7m (.inr h)
theorem X6m {a b:List Plan} {y:Plan} (h:y ∈ together a b):∃ x ∈ a,∃ z ∈ b,y=both x z:=by
 obtain ⟨x,hx,hy⟩:=List.mem_flatMap.1 (Y0k h);obtain ⟨z,hz,e⟩:=List.mem_map.1 hy;exact ⟨x,hx,z,hz,e.symm⟩
theorem Y2j {a b:List Plan} {x z:Plan} (hx:x ∈ a) (hz:z ∈ b):∃ o ∈ together a b,o.Q5h (both x z)=true :=
 X2t (List.mem_flatMap.2 ⟨x,hx,List.mem_map.2 ⟨z,hz,rfl⟩⟩)
def Digits (l:List Int):Prop:=∀ x ∈ l,0 <= x /\ x <= 9
theorem Z4w:∀ {a b:List Int},Digits a -> Digits b -> Q7g a=Q7g b -> a=b:=by
 have go:∀ {a b:List Int},Digits a -> Digits b -> (a.map fun n=>UInt8.ofNat n.toNat)=(b.map fun n=>UInt8.ofNat n.toNat) -> a=b:=by
  intro a
  induction a with
  | nil=>intro b _ _ h; cases b with | nil=>rfl | cons y b=>simp at h
  | cons x a ih =>
    intro b ha hb h;cases b with
    | nil=>simp at h
    | cons y b =>
      simp only [List.map_cons,List.cons.injEq] at h;have h1:=congrArg UInt8.toNat h.1;simp only [UInt8.toNat_ofNat'] at h1;obtain ⟨x0,x1⟩:=ha x List.mem_cons_self;obtain ⟨y0,y1⟩:=hb y List.mem_cons_self;rw [ih (fun z hz=>ha z (List.mem_cons_of_mem _ hz)) (fun z hz=>hb z (List.mem_cons_of_mem _ hz)) h.2]
      congr 1
      omega
 intro a b ha hb h;have:=congrArg (fun k:ByteArray=>k.data.toList) h;exact go ha hb (by simpa [Q7g] using this)
theorem Q6e {l:List Int} (h:Digits l) (n:Nat):Digits (l.take n):=fun x hx=>h x (List.mem_of_mem_take hx)
structure Fine (s:Q0b):Prop where
 shaped:s.Shaped
 digits:∀ k,k < s.members.length -> Digits (Q0c s.members k)
def mv1 (s:Q0b) (t:Nat) (c:Bool) (x:Runner):Runner:=⟨x.member,((Q2a s x.member).stepT t x.level c).2,x.dry && decide (((Q2a s x.member).stepT t x.level c).1 <= s.limit)⟩
theorem Y6e (s:Q0b) (t:Nat) (c:Bool) (l:List Runner):moved s t c l=l.map (mv1 s t c):=rfl
def hs (s:Q0b) (i u:Nat):List Int:=(Q0c s.members i).take u
def J9g (s:Q0b) (f:List Int -> Bool):Nat -> Runner -> Bool
 | 0,x=>x.dry
 | k + 1,x=>J9g s f k (mv1 s (s.ships.length - (k + 1)) (f (hs s x.member (s.ships.length - k))) x)
def J8v (s:Q0b) (f:List Int -> Bool):Nat -> Nat -> Int
 | 0,_=>0
 | k + 1,i=>(if f (hs s i (s.ships.length - k)) then 1 else 0) + J8v s f k i
def J7m (s:Q0b) (f:List Int -> Bool):Nat -> Nat -> Int
 | 0,_=>0
 | k + 1,i=>(if f (hs s i (s.ships.length - k)) then ix s.ships (s.ships.length - (k + 1)) else 0) + J7m s f k i
def Z7z (s:Q0b) (f:List Int -> Bool) (k:Nat) (l:List Runner):Int:=(l.map fun x=>if J9g s f k x then Q0o s.members x.member else 0).sum
def Z2j (s:Q0b) (f:List Int -> Bool) (k:Nat) (l:List Runner):Int:=(l.map fun x=>Q0o s.members x.member * J8v s f k x.member).sum
def Z2e (s:Q0b) (f:List Int -> Bool) (k:Nat) (l:List Runner):Int:=(l.map fun x=>Q0o s.members x.member * J7m s f k x.member).sum
def Agr (s:Q0b) (f:List Int -> Bool) (cl:List ByteArray) (t:Nat) (l:List Runner):Prop:=∀ r ∈ l,∀ u,t < u -> u <= s.ships.length -> f (hs s r.member u)=cl.contains (Q7g (hs s r.member u))
def Keys (s:Q0b) (cl:List ByteArray) (t:Nat) (l:List Runner):Prop:=∀ b ∈ cl,∃ r ∈ l,∃ u,t < u /\ u <= s.ships.length /\ b=Q7g (hs s r.member u)
def Known (s:Q0b) (l:List Runner):Prop:=∀ r ∈ l,r.member < s.members.length
end Go.Tw
namespace Go.Tw
theorem Q1n {l:List Int}:Q0h l=0 ↔ ∀ x ∈ l,x=0:=by
 induction l with
 | nil=>simp [Q0h]
 | cons y l ih =>
   unfold Q0h
   by_cases h:y=0
   . simp [h,ih]
   . simp [h]
structure Fit (t:Tree):Prop where
 nb:t.basics.length <= 1000
 nc:t.causes.length <= 1000
 ng:t.gates.length <= 1000
 inp:∀ k,k < t.gates.length -> ∀ x ∈ Q8e t.gates k,0 <= x /\ x < (t.basics.length:Int) + k
theorem Y0v {l:List Int} {n:Int} (h:Z4q l n=0):(∀ x ∈ l,0 <= x /\ x < n) /\ J2k l=true:=by
 unfold Z4q at h
 split at h
 . cases h
 . split at h
   . rename_i h1 h2
     refine ⟨fun x hx=>?_,h2⟩;unfold K2j at h1;rw [Bool.not_eq_true,List.any_eq_false] at h1;have:=h1 x hx;simp only [decide_eq_true_eq] at this;omega
   . cases h
structure Valid (t:Tree):Prop where
 nb:1 <= t.basics.length
 ng:1 <= t.gates.length
 size:t.size <= 12
 ng':t.gates.length <= 32
 event:∀ i,i < t.size -> t.X8h i=0
 gate:∀ i,i < t.gates.length -> t.X9e i=0
theorem Valid.of {t:Tree} (h:t.err=0):Valid t:=by
 unfold Tree.err at h
 split at h
 . cases h
 . split at h
   . cases h
   . rename_i h1 h2
     rw [Q1n] at h;refine ⟨by omega,by omega,by omega,by omega,fun i hi=>h _ ?_,fun i hi=>h _ ?_⟩
     . exact List.mem_append_left _ (List.mem_map.2 ⟨i,List.mem_range.2 hi,rfl⟩)
     . exact List.mem_append_right _ (List.mem_map.2 ⟨i,List.mem_range.2 hi,rfl⟩)
theorem Valid.inputs {t:Tree} (h:Valid t) {k:Nat} (hk:k < t.gates.length):X5n (Q8e t.gates k) ((t.basics.length:Int) + k)=0:=by
 have:=h.gate k hk;unfold Tree.X9e J0b at this;rw [Q1n] at this;exact this _ (by simp)
theorem X6d {l:List Int} {n:Int} (h:X5n l n=0):l ≠ [] /\ Z4q l n=0:=by
 unfold X5n at h
 split at h
 . cases h
 . exact ⟨‹_›,h⟩
theorem Valid.chance {t:Tree} (h:Valid t) {i:Nat} (hi:i < t.size):0 <= t.X8m i /\ t.X8m i <= 16:=by
 have:=h.event i hi;unfold Tree.X8h at this;rw [Q1n] at this;have:=this (Q0f (t.X8m i) 0 16) (by simp)
 unfold Q0f at this
 split at this
 . cases this
 . omega
end Go.Tw
namespace Go.Tw
variable {s:Q0b}
theorem Q6w {x a b:Int}:Q0f x a b=0 ↔ a <= x /\ x <= b:=by unfold Q0f; split <;> simp <;> omega
theorem Q6f {l:List Int} {m:Int}:Q0y l m=0 ↔ ∀ x ∈ l,0 <= x /\ x <= m:=by
 unfold Q0y;rw [Q1n]
 constructor
 . intro h x hx; exact Q6w.1 (h _ (List.mem_map.2 ⟨x,hx,rfl⟩))
 . intro h y hy
   obtain ⟨x,hx,rfl⟩:=List.mem_map.1 hy;exact Q6w.2 (h x hx)
structure Q0w (s:Q0b):Prop extends Fine s where
 limit:0 <= s.limit /\ s.limit <= 1024
 tides:0 < s.ships.length /\ s.ships.length <= 6
 delays:∀ x ∈ s.ships,0 <= x /\ x <= 1000
 some:0 < s.members.length /\ s.members.length <= 8
 names:∀ k,k < s.members.length -> nameB (Q1t s.members k)=true
 twice:∀ k,k < s.members.length -> ∀ i,i < k -> Q1t s.members i ≠ Q1t s.members k
 weights:∀ k,k < s.members.length -> 1 <= Q0o s.members k /\ Q0o s.members k <= 1000
 outside:∀ k,k < s.members.length -> ∀ x ∈ Q0z s.members k,0 <= x /\ x <= 1024
 inflow:∀ k,k < s.members.length -> ∀ x ∈ Q1g s.members k,0 <= x /\ x <= 1024
theorem Q5j {k:Nat} (h:s.Q3y k=0):nameB (Q1t s.members k)=true /\ Q4i s.members k=false /\ (1 <= Q0o s.members k /\ Q0o s.members k <= 1000) /\
    ((Q0c s.members k).length=s.ships.length /\ (Q0z s.members k).length=s.ships.length /\ (Q1g s.members k).length=s.ships.length) /\
    Digits (Q0c s.members k) /\ (∀ x ∈ Q0z s.members k,0 <= x /\ x <= 1024) /\ (∀ x ∈ Q1g s.members k,0 <= x /\ x <= 1024):=by
 unfold Q0b.Q3y at h
 by_cases h1:nameB (Q1t s.members k)=false
 . rw [if_pos h1] at h; exact absurd h (by decide)
 . rw [if_neg h1] at h
   by_cases h2:Q4i s.members k=true
   . rw [if_pos h2] at h; exact absurd h (by decide)
   . rw [if_neg h2] at h
     by_cases h3:Q0f (Q0o s.members k) 1 1000 ≠ 0
     . rw [if_pos h3] at h; exact absurd h (by decide)
     . rw [if_neg h3] at h
       by_cases h4:(Q0c s.members k).length=s.ships.length /\ (Q0z s.members k).length=s.ships.length /\ (Q1g s.members k).length=s.ships.length
       . rw [if_neg (fun hn=>hn h4),Q1n] at h
         refine ⟨by simpa using h1,by simpa using h2,Q6w.1 (Decidable.not_not.1 h3),h4,Q6f.1 (h _ (by simp)),Q6f.1 (h _ (by simp)),Q6f.1 (h _ (by simp))⟩
       . rw [if_pos h4] at h; exact absurd h (by decide)
theorem Q0w.of (h:s.err=0):Q0w s:=by
 unfold Q0b.err at h
 by_cases h1:Q0f s.limit 0 1024 ≠ 0
 . rw [if_pos h1] at h; exact absurd h (by decide)
 rw [if_neg h1] at h
 by_cases h2:s.ships.length=0
 . rw [if_pos h2] at h; exact absurd h (by decide)
 rw [if_neg h2] at h
 by_cases h3:6 < s.ships.length
 . rw [if_pos h3] at h; exact absurd h (by decide)
 rw [if_neg h3] at h
 by_cases h4:Q0y s.ships 1000 ≠ 0
 . rw [if_pos h4] at h; exact absurd h (by decide)
 rw [if_neg h4] at h
 by_cases h5:s.members.length=0
 . rw [if_pos h5] at h; exact absurd h (by decide)
 rw [if_neg h5] at h
 by_cases h6:8 < s.members.length
 . rw [if_pos h6] at h; exact absurd h (by decide)
 rw [if_neg h6,Q1n] at h;have hm:∀ k,k < s.members.length -> s.Q3y k=0:=fun k hk=>h _ (List.mem_map.2 ⟨k,List.mem_range.2 hk,rfl⟩);have ht:∀ k,k < s.members.length -> ∀ i,i < k -> Q1t s.members i ≠ Q1t s.members k:=fun k hk i hi e=>by
  have:=(Q5j (hm k hk)).2.1;unfold Q4i at this;rw [List.any_eq_false] at this;exact this i (List.mem_range.2 hi) (str_eq e)
 exact ⟨⟨fun k hk=>(Q5j (hm k hk)).2.2.2.1,fun k hk=>(Q5j (hm k hk)).2.2.2.2.1⟩,Q6w.1 (Decidable.not_not.1 h1),⟨by omega,by omega⟩,Q6f.1 (Decidable.not_not.1 h4),⟨by omega,by omega⟩,fun k hk=>(Q5j (hm k hk)).1,ht,fun k hk=>(Q5j (hm k hk)).2.2.1,fun k hk=>(Q5j (hm k hk)).2.2.2.2.2.1,fun k hk=>(Q5j (hm k hk)).2.2.2.2.2.2⟩
end Go.Tw
namespace Go.Proofs
open Go.RowKit Go.Tw Go.Flow Tryz
theorem X2s (x:Int) (l:List Int) (m:Int):Q0y (x :: l) m=if Q0f x 0 m=0 then Q0y l m else Q0f x 0 m:=rfl
theorem Q7x (w:World) (v:Value) (l:List Int) (m:Int) (hv:Q0e w v l) :
    Calls prog 88 #[v,.int .i64 m] w fun e w'=>e=.returned (.int .i64 (Q0y l m)) /\ Ext w w':=by
 obtain ⟨A,Qq,rfl,hl,Kq,hc⟩:=hv.opened;clear hv;go_enter func88,ntmps88;go_wp2
 go_loopw [5] (fun i wr=>∃ k:Nat,k <= l.length /\ i=.int .i64 k /\ Q0y (l.drop k) m=Q0y l m /\ Ext w wr) (fun i _=>l.length - (intOf i).toNat)
 case atStart=>exact ⟨0,Nat.zero_le _,rfl,rfl,Ext.refl _⟩
 case round =>
  obtain ⟨k,hk,rfl,hr,hx⟩:=hrel;have HR:=hid hr; clear hr
  by_cases Tq:k < l.length
  . obtain ⟨b,off,rfl,Xq⟩:=hc k Tq
    replace Xq:=hx.cell Xq;have HD:=hid (Q2v Tq);clear hc
    by_cases hz:Q0f (ix l k) 0 m=0
    . have mq:(Q0f (ix l k) 0 m != 0)=false:=by simp [hz]
      have HZ:=hid hz; clear hz;go_wp2_with (go_at_call 87; refine (Q2q _ (ix l k) 0 m).mono ?_; rintro e w' ⟨rfl,rfl⟩);go_roundw
      case rel=>exact ⟨k + 1,by omega,by go_num,by rw [<- HR.out,HD.out,X2s,if_pos HZ.out],hx⟩
      case measure=>simp [intOf]; omega
    . have mq:(Q0f (ix l k) 0 m != 0)=true:=by simp [hz]
      have HZ:=hid hz; clear hz;go_wp2_with (go_at_call 87; refine (Q2q _ (ix l k) 0 m).mono ?_; rintro e w' ⟨rfl,rfl⟩);go_ret;exact ⟨Q1c (by rw [<- HR.out,HD.out,X2s,if_neg HZ.out]),hx⟩
  . clear hc
    go_wp2;go_ret;exact ⟨Q1c (by rw [<- HR.out,List.drop_eq_nil_of_le (by omega)]; rfl),hx⟩
theorem X0c {α:Type} [DecidableEq α] {x y:α} {l m:List α} (h:x=y):decide (x :: l=y :: m)=decide (l=m):=by
 subst h; simp
theorem X0b {α:Type} [DecidableEq α] {x y:α} {l m:List α} (h:¬ x=y):decide (x :: l=y :: m)=false:=by
 simp [h]
theorem Q3k (w:World) (u v:Value) (a b:List Int) (hu:Q0e w u a) (hv:Q0e w v b) :
    Calls prog 54 #[u,v] w fun e w'=>e=.returned (.bool (decide (a=b))) /\ Ext w w':=by
 obtain ⟨A,Uq,rfl,Ov,Mw,Vz⟩:=hu.opened;obtain ⟨B,Wq,rfl,Nv,jz,Rj⟩:=hv.opened;clear hu hv;go_enter func54,ntmps54
 by_cases hl:a.length=b.length
 . have hne:((a.length:Int) != (b.length:Int))=false:=by simp [hl]
   go_wp2
   go_loopw [5] (fun i wr=>∃ k:Nat,k <= a.length /\ i=.int .i64 k /\ decide (a.drop k=b.drop k)=decide (a=b) /\ Ext w wr) (fun i _=>a.length - (intOf i).toNat)
   case atStart=>exact ⟨0,Nat.zero_le _,rfl,rfl,Ext.refl _⟩
   case round =>
    obtain ⟨k,hk,rfl,hr,hx⟩:=hrel;have HR:=hid hr; clear hr
    by_cases Tq:k < a.length
    . have Mx:k < b.length:=by omega
      obtain ⟨b1,off1,rfl,Rx⟩:=Vz k Tq;obtain ⟨b2,off2,rfl,Xx⟩:=Rj k Mx;replace Rx:=hx.cell Rx;replace Xx:=hx.cell Xx;have N1:=hid (Q2v Tq);have Fy:=hid (Q2v Mx);clear Vz Rj
      by_cases h0:ix a k=ix b k
      . have Yj:(ix a k != ix b k)=false:=by simp [h0]
        have H0:=hid h0; clear h0;go_wp2
        go_quiet (fail)
        all_goals go_wp2
        go_roundw
        case rel=>exact ⟨k + 1,by omega,by go_num,by rw [<- HR.out,N1.out,Fy.out,X0c H0.out],hx.drewN _⟩
        case measure=>simp [intOf]; omega
      . have Yj:(ix a k != ix b k)=true:=by simp [h0]
        have H0:=hid h0; clear h0;go_wp2
        go_quiet (fail)
        all_goals go_wp2
        go_ret;exact ⟨Q0x (by rw [<- HR.out,N1.out,Fy.out,X0b H0.out]),hx.drewN _⟩
    . clear Vz Rj
      go_wp2;go_ret;exact ⟨Q0x (by rw [<- HR.out,List.drop_eq_nil_of_le (by omega),List.drop_eq_nil_of_le (by omega)]; rfl),hx⟩
 . have hne:((a.length:Int) != (b.length:Int))=true:=by simp; omega
   have HL:Hid (decide (a=b)=false):=hid (decide_eq_false (fun h=>hl (by rw [h])))
   clear hl Vz Rj;go_wp2;go_ret;exact ⟨Q0x (by rw [HL.out]),Ext.refl _⟩
theorem Y7g {l:List Bool} {k:Nat} (h:k < l.length):l.drop k=bx l k :: l.drop (k + 1):=by
 unfold bx; rw [show l.getD k false=l[k] by simp [h]]; exact List.drop_eq_getElem_cons h
theorem Y6a (w:World) (u v:Value) (a b:List Bool) (hu:Q1f w u a) (hv:Q1f w v b) :
    Calls prog 55 #[u,v] w fun e w'=>e=.returned (.bool (decide (a=b))) /\ Ext w w':=by
 obtain ⟨A,Uq,rfl,Ov,Mw,Vz⟩:=hu.opened;obtain ⟨B,Wq,rfl,Nv,jz,Rj⟩:=hv.opened;clear hu hv;go_enter func55,ntmps55
 by_cases hl:a.length=b.length
 . have hne:((a.length:Int) != (b.length:Int))=false:=by simp [hl]
   go_wp2
   go_loopw [5] (fun i wr=>∃ k:Nat,k <= a.length /\ i=.int .i64 k /\ decide (a.drop k=b.drop k)=decide (a=b) /\ Ext w wr) (fun i _=>a.length - (intOf i).toNat)
   case atStart=>exact ⟨0,Nat.zero_le _,rfl,rfl,Ext.refl _⟩
   case round =>
    obtain ⟨k,hk,rfl,hr,hx⟩:=hrel;have HR:=hid hr; clear hr
    by_cases Tq:k < a.length
    . have Mx:k < b.length:=by omega
      obtain ⟨b1,off1,rfl,_,Rx⟩:=Vz k Tq;obtain ⟨b2,off2,rfl,_,Xx⟩:=Rj k Mx;replace Rx:=hx.cell Rx;replace Xx:=hx.cell Xx;have N1:=hid (Y7g Tq);have Fy:=hid (Y7g Mx);clear Vz Rj;cases hxa:bx a k with
      | false =>
        cases hxb:bx b k with
        | false =>
          rw [hxa] at Rx;rw [hxb] at Xx;have H0:Hid (bx a k=bx b k):=hid (by rw [hxa,hxb])
          clear hxa hxb;go_wp2
          go_quiet (fail)
          all_goals go_wp2
          go_roundw
          case rel=>exact ⟨k + 1,by omega,by go_num,by rw [<- HR.out,N1.out,Fy.out,X0c H0.out],hx.drewN _⟩
          case measure=>simp [intOf]; omega
        | true =>
          rw [hxa] at Rx;rw [hxb] at Xx;have H0:Hid (¬ bx a k=bx b k):=hid (by rw [hxa,hxb]; decide)
          clear hxa hxb;go_wp2
          go_quiet (fail)
          all_goals go_wp2
          go_ret;exact ⟨Q0x (by rw [<- HR.out,N1.out,Fy.out,X0b H0.out]),hx.drewN _⟩
      | true =>
        cases hxb:bx b k with
        | false =>
          rw [hxa] at Rx;rw [hxb] at Xx;have H0:Hid (¬ bx a k=bx b k):=hid (by rw [hxa,hxb]; decide)
          clear hxa hxb;go_wp2
          go_quiet (fail)
          all_goals go_wp2
          go_ret;exact ⟨Q0x (by rw [<- HR.out,N1.out,Fy.out,X0b H0.out]),hx.drewN _⟩
        | true =>
          rw [hxa] at Rx;rw [hxb] at Xx;have H0:Hid (bx a k=bx b k):=hid (by rw [hxa,hxb])
          clear hxa hxb;go_wp2
          go_quiet (fail)
          all_goals go_wp2
          go_roundw
          case rel=>exact ⟨k + 1,by omega,by go_num,by rw [<- HR.out,N1.out,Fy.out,X0c H0.out],hx.drewN _⟩
          case measure=>simp [intOf]; omega
    . clear Vz Rj
      go_wp2;go_ret;exact ⟨Q0x (by rw [<- HR.out,List.drop_eq_nil_of_le (by omega),List.drop_eq_nil_of_le (by omega)]; rfl),hx⟩
 . have hne:((a.length:Int) != (b.length:Int))=true:=by simp; omega
   have HL:Hid (decide (a=b)=false):=hid (decide_eq_false (fun h=>hl (by rw [h])))
   clear hl Vz Rj;go_wp2;go_ret;exact ⟨Q0x (by rw [HL.out]),Ext.refl _⟩
theorem J1v {a b:List Int} {k:Nat} (ha:k < a.length) (hb:k < b.length):Q5v (a.drop k) (b.drop k)=if ix a k=ix b k then Q5v (a.drop (k + 1)) (b.drop (k + 1)) else decide (ix a k < ix b k):=by
 rw [Q2v ha,Q2v hb]; rfl
theorem X5e (w:World) (u v:Value) (l m:List Int) (hu:Q0e w u l) (hv:Q0e w v m) (Fq:l.length=m.length) :
    Calls prog 117 #[u,v] w fun e w'=>e=.returned (.bool (Q5v l m)) /\ Ext w w':=by
 obtain ⟨A,Qq,rfl,hl,Kq,hc⟩:=hu.opened;obtain ⟨A',cap',rfl,rp,Qe,GQ⟩:=hv.opened;clear hu hv;have i0:l.length <= m.length:=by omega
 have Ak:=hid Fq; clear Fq;go_enter func117,ntmps117;go_wp2
 go_loopw [5] (fun i wr=>∃ k:Nat,k <= l.length /\ i=.int .i64 k /\ Q5v (l.drop k) (m.drop k)=Q5v l m /\ Ext w wr) (fun i _=>l.length - (intOf i).toNat)
 case atStart=>exact ⟨0,Nat.zero_le _,rfl,rfl,Ext.refl _⟩
 case round =>
  obtain ⟨k,hk,rfl,hr,hx⟩:=hrel;have HR:=hid hr; clear hr
  by_cases Tq:k < l.length
  . obtain ⟨b,off,rfl,Xq⟩:=hc k Tq
    obtain ⟨b',off',rfl,Tx⟩:=GQ k (by omega)
    replace Xq:=hx.cell Xq;replace Tx:=hx.cell Tx;clear hc GQ;have i1:(k:Int) < l.length:=by omega
    have i2:(k:Int) < m.length:=by omega
    have yj:=J1v Tq (show k < m.length by omega)
    have qq:=hid yj; clear yj
    by_cases lj:ix l k=ix m k
    . have Yj:(ix l k != ix m k)=false:=by simp [lj]
      have HX:=hid lj; clear lj;go_wp2
      go_quiet (fail)
      all_goals go_wp2
      go_roundw
      case rel=>exact ⟨k + 1,by omega,by go_num,by rw [<- HR.out,qq.out,if_pos HX.out],hx.drewN _⟩
      case measure=>simp [intOf]; omega
    . have Yj:(ix l k != ix m k)=true:=by simp [lj]
      have HX:=hid lj; clear lj;go_wp2
      go_quiet (fail)
      all_goals go_wp2
      go_quiet (fail)
      all_goals go_wp2
      go_ret;exact ⟨Q0x (by rw [<- HR.out,qq.out,if_neg HX.out]),(hx.drewN _).drewN _⟩
  . clear hc GQ
    go_wp2;go_ret;exact ⟨Q0x (by rw [<- HR.out,List.drop_eq_nil_of_le (by omega)]; rfl),hx⟩
theorem X9c (b:Bool) (l:List Bool):countB (b :: l)=(if b then 1 else 0) + countB l:=by
 unfold countB; cases b <;> simp <;> omega
theorem countB_le (l:List Bool):0 <= countB l /\ countB l <= l.length:=by
 unfold countB; have:=List.countP_le_length (p:=id) (l:=l); omega
end Go.Proofs
namespace Go.Flow
open Go.RowKit Go.Tw
theorem eval_put_ne {a:Act} {d:Tmp} {u:Value} {t:Tmp} (h:d ≠ t):(a.put (some d) u).eval (.tmp t)=a.eval (.tmp t):=by
 show (a.tmps.setIfInBounds d u).getD t undef=a.tmps.getD t undef;simp only [Array.getD_eq_getD_getElem?,Array.getElem?_setIfInBounds_ne h]
theorem size_put {a:Act} {d:Option Tmp} {u:Value}:(a.put d u).tmps.size=a.tmps.size:=Q9a a d u
theorem Q0a {a:Act} {u:Value} {t:Tmp} (h:t < a.tmps.size):(a.put (some t) u).eval (.tmp t)=u:=by
 show (a.tmps.setIfInBounds t u).getD t undef=u;simp [Array.getD_eq_getD_getElem?,h]
end Go.Flow
namespace Go.Tw
open Go.RowKit Go.Flow
def Q1b {α:Type} (w:World) (base:Nat) (e:TypeId) (k:Nat) (enc:α -> List Value) (v:Value) (l:List α):Prop:=w.ownsRow base e k v l.length (l.flatMap enc)
theorem Q1b.nil {α:Type} (w:World) (base:Nat) (e:TypeId) (k:Nat) (enc:α -> List Value):Q1b w base e k enc (.slice none 0 0) []:=World.ownsRow_nil w base e k
theorem Q1b.below {α:Type} {w w':World} {base:Nat} {e:TypeId} {k:Nat} {enc:α -> List Value} {v:Value} {l:List α} (h:Q1b w base e k enc v l) (hx:Ext w w'):Q1b w' base e k enc v l:=by
 obtain ⟨h1,h2⟩:=h;refine ⟨h1,?_⟩
 rcases h2 with h2 | ⟨g,Qq,cur,hv,hb,hg,r⟩
 . exact .inl h2
 . refine .inr ⟨g,Qq,cur,hv,hb,?_,r⟩
   rw [Below.block hx g (Array.getElem?_eq_some_iff.1 hg).1]; exact hg
theorem Q1b.snoc {α:Type} {w:World} {base:Nat} {e:TypeId} {k:Nat} {enc:α -> List Value} {v:Value} {l:List α} {x:α} (h:w.ownsRow base e k v (l.length + 1) (l.flatMap enc ++ enc x)):Q1b w base e k enc v (l ++ [x]):=by
 unfold Q1b; simpa using h
theorem Q5s {α:Type} {enc:α -> List Value} {k:Nat} (hk:∀ x,(enc x).length=k):∀ l:List α,(l.flatMap enc).length=l.length * k
 | []=>by simp
 | x :: l=>by rw [List.flatMap_cons,List.length_append,hk,Q5s hk l,List.length_cons,Nat.add_mul]; omega
theorem flat_get {α:Type} {enc:α -> List Value} {k:Nat} (hk:∀ x,(enc x).length=k):∀ (l:List α) (j i:Nat) (hj:j < l.length),i < k -> (l.flatMap enc)[j * k + i]?=(enc l[j])[i]?
 | x :: l,0,i,_,hi=>by
   rw [List.flatMap_cons,Nat.zero_mul,Nat.zero_add,List.getElem?_append_left (by rw [hk]; exact hi)]; rfl
 | x :: l,j + 1,i,hj,hi=>by
   have Sv:j < l.length:=by simpa using hj
   rw [List.flatMap_cons,List.getElem?_append_right (by rw [hk,Nat.add_mul]; omega),hk,show (j + 1) * k + i - k=j * k + i from by rw [Nat.add_mul]; omega,flat_get hk l j i Sv hi]
   rfl
theorem Q1b.rows {α:Type} {w:World} {base:Nat} {e:TypeId} {k:Nat} {enc:α -> List Value} {v:Value} {l:List α} {R:World -> (Nat -> Value) -> α -> Prop} (h:Q1b w base e k enc v l) (hl:l.length <= 17592186043904)
    (hk:∀ x,(enc x).length=k) (hR:∀ x ∈ l,R w (fun i=>((enc x)[i]?).getD undef) x) (Yg:∀ c c' x,(∀ i,i < k -> c i=c' i) -> R w c x -> R w c' x):Rows k R w v l:=by
 refine ⟨fun j=>((l.flatMap enc)[j]?).getD undef,?_,fun j hj=>Yg _ _ _ (fun i hi=>?_) (hR _ (List.getElem_mem hj))⟩
 . obtain ⟨_,h2⟩:=h
   rcases h2 with ⟨rfl,h0⟩ | ⟨g,Qq,cur,rfl,_,hg,Kq,_,_,mx⟩
   . exact ⟨none,0,by rw [h0],hl,by omega,fun j hj=>by rw [h0,Nat.zero_mul] at hj; omega⟩
   . refine ⟨some ⟨g,0,none⟩,Qq,rfl,hl,Kq,fun j hj=>⟨g,0,rfl,?_⟩⟩
     rw [Nat.zero_add];have h1:=congrArg (fun l=>l[j]?) mx;simp only [List.getElem?_take,hj,if_true] at h1;have Tq:j < (l.flatMap enc).length:=by rw [Q5s hk]; exact hj
     rw [List.getElem?_eq_getElem Tq] at h1;simp only [World.cell?,hg,List.getElem?_eq_getElem Tq,Option.getD_some]
     simpa using h1
 . show ((enc l[j])[i]?).getD undef=((l.flatMap enc)[j * k + i]?).getD undef
   rw [flat_get hk l j i hj hi]
theorem X8j (w:World) (xs:List Value) (e:TypeId):∀ j u,xs[j]?=some u -> (w.alloc (.cells xs.toArray e)).cell? ((⟨w.heap.size,0,none⟩:Addr).add j)=some u:=by
 intro j u h;rw [addr_add,Nat.zero_add,World.cell?_alloc_at _ _ _ _ rfl]
 simpa using h
theorem Z6z {w wr w':World} {v:Value} {base:Nat} {e:TypeId} {n size:Nat} {xs:List Value} {o:Obj} (hx:Ext w wr) (Yq:wr.ownsRow base e size v n xs) (hb:w.heap.size <= base) (hg:(wr.alloc o).grownBy w' v.ownBlock):Ext w w' :=
 Q2d hx Yq hb hg
def K2r (x:Nat × Int):List Value:=[.int .i64 (x.1:Nat),.int .i64 x.2]
theorem Q1b.gts {w:World} {base:Nat} {e:TypeId} {v:Value} {l:List (Nat × Int)} {R:World -> (Nat -> Value) -> Nat × Int -> Prop} (hR:∀ w c x,R w c x ↔ c 0=.int .i64 (x.1:Nat) /\ c 1=.int .i64 x.2) (h:Q1b w base e 2 K2r v l) (hl:l.length <= 17592186043904):Rows 2 R w v l :=
 h.rows hl (fun _=>rfl) (fun x _=>(hR _ _ _).2 ⟨rfl,rfl⟩) (fun c c' x hc h=>(hR _ _ _).2 (by have:=(hR _ _ _).1 h; rw [<- hc 0 (by omega),<- hc 1 (by omega)]; exact this))
end Go.Tw
namespace Go.Tw
def X3e:List Bool -> Nat
 | []=>0
 | b :: l=>b.toNat + 2 * X3e l
theorem Q7p:∀ (l:List Bool) (i:Nat),(X3e l).testBit i=bx l i
 | [],i=>by simp [X3e,bx]
 | b :: l,0=>by
   rw [X3e,Nat.testBit_zero];cases b <;> simp [bx] <;> omega
 | b :: l,i + 1=>by
   rw [X3e,Nat.testBit_succ,show (b.toNat + 2 * X3e l) / 2=X3e l from by cases b <;> simp <;> omega,Q7p l i]
   simp [bx]
theorem Z3s (n i:Nat):(2 ^ n).testBit i=decide (i=n):=by
 rw [Nat.testBit_two_pow]; by_cases h:n=i
 . subst h; simp
 . have h2:¬ i=n:=fun e=>h e.symm
   simp [h,h2]
theorem J3e (l m:List Bool) (i:Nat):bx (l ++ m) i=if i < l.length then bx l i else bx m (i - l.length):=by
 unfold bx
 split
 . rename_i h; simp [List.getD_eq_getElem?_getD,List.getElem?_append_left h]
 . rename_i h; simp [List.getD_eq_getElem?_getD,List.getElem?_append_right (by omega:l.length <= i)]
theorem Z4v {l:List Bool} {i:Nat} (h:l.length <= i):bx l i=false:=by simp [bx,h]
theorem Z6v (l:List Bool) (b:Bool):X3e (l ++ [b])=if b then X3e l ||| 2 ^ l.length else X3e l:=by
 apply Nat.eq_of_testBit_eq
 intro i;rw [Q7p,J3e]
 by_cases h:i < l.length
 . rw [if_pos h]
   cases b with
   | false=>simp only [Bool.false_eq_true,if_false]; rw [Q7p]
   | true=>simp only [if_true]; rw [Nat.testBit_or,Z3s,Q7p,decide_eq_false (by omega:¬ i=l.length),Bool.or_false]
 . rw [if_neg h]
   cases b with
   | false => simp only [Bool.false_eq_true, if_false]; rw [Q7p, Z4v (l := l) (by omega)]; rcases Nat.lt_or_ge (i - l.length) 1 with h' | h'
              . rw [show i - l.length=0 from by omega]; rfl
              . exact Z4v (by simpa using h')
   | true =>
     simp only [if_true];rw [Nat.testBit_or,Z3s,Q7p,Z4v (l:=l) (by omega),Bool.false_or]
     by_cases h':i=l.length
     . subst h'; simp [bx]
     . rw [decide_eq_false h']; exact Z4v (by simp; omega)
def J7b (a:Nat) (x:Int):Nat:=a ||| 2 ^ x.toNat
def Y9i (a:Nat) (l:List Int):Nat:=l.foldl J7b a
def Y8d (l:List Int):Nat:=Y9i 0 l
theorem Z2h (a:Nat) (x:Int) (l:List Int):Y9i a (x :: l)=Y9i (J7b a x) l:=rfl
theorem Y4v:∀ (l:List Int) (a i:Nat),(∀ x ∈ l,0 <= x) -> (Y9i a l).testBit i=(a.testBit i || has l i)
 | [],a,i,_=>by simp [Y9i,has]
 | x :: l,a,i,h=>by
   rw [Z2h,Y4v l _ i (fun y hy=>h y (List.mem_cons_of_mem _ hy)),J7b,Nat.testBit_or,Z3s,X1u,Bool.or_assoc];have h0:=h x (List.mem_cons_self ..)
   by_cases e:x=(i:Int)
   . subst e; simp
   . have e1:¬ i=x.toNat:=by omega
     rw [decide_eq_false e1,beq_false_of_ne e]
theorem Z6o {l:List Int} (h:∀ x ∈ l,0 <= x) (i:Nat):(Y8d l).testBit i=has l i:=by
 unfold Y8d; rw [Y4v l 0 i h]; simp
theorem Q3b (n:Int) (h0:0 <= n) (h1:n < 2 ^ 62):IntKind.i64.wrap n=n:=by rw [IntKind.wrap_i64]; omega
theorem K2c {a b:Nat} (ha:a < 2 ^ 62) (hb:b < 2 ^ 62):bits .and .i64 (a:Int) (b:Int)=((a &&& b:Nat):Int):=(bits_nat .i64 62 (by decide) Q3b a b ha hb).1
theorem K1r {n:Nat} (h:n < 62):IntKind.i64.wrap ((2:Int) ^ min n 64)=((2 ^ n:Nat):Int):=by
 rw [show min n 64=n from by omega,Q3b _ (Int.le_of_lt (Int.pow_pos (by omega))) (by have:(2:Nat) ^ n < 2 ^ 62:=Nat.pow_lt_pow_right (by omega) h; exact_mod_cast this)]
 simp
theorem K1u (s i:Nat):s.testBit i=decide (s / 2 ^ i % 2=1):=by rw [Nat.testBit_eq_decide_div_mod_eq]
end Go.Tw
namespace Go.Tw
def f1 (y:Nat):Nat:=(y / 2 &&& 85) + (y &&& 85)
def f2 (y:Nat):Nat:=(y / 4 &&& 51) + (y &&& 51)
def f3 (y:Nat):Nat:=(y / 16 + y) &&& 15
def K1v (n k:Nat):Nat:=(List.range k).countP fun i=>n.testBit i
end Go.Tw
namespace Go.Tw
open Go.RowKit
theorem J3o {x:Int} {l:List Int} (h:J2k (x :: l)=true):∀ y ∈ l,x < y:=by
 induction l generalizing x with
 | nil=>intro y hy; cases hy
 | cons z l ih =>
   simp only [J2k,Bool.and_eq_true,decide_eq_true_eq] at h;intro y hy
   rcases List.mem_cons.1 hy with rfl | hy
   . exact h.1
   . exact Int.lt_trans h.1 (ih h.2 y hy)
theorem J3w {x:Int} {l:List Int} (h:J2k (x :: l)=true):J2k l=true:=by
 cases l with
 | nil=>rfl
 | cons z l=>simp only [J2k,Bool.and_eq_true] at h; exact h.2
theorem count_one (a:Nat) (p:Nat -> Bool):∀ k,(List.range k).countP (fun i=>p i && decide (i=a))=if a < k then (if p a then 1 else 0) else 0
 | 0=>rfl
 | k + 1=>by
   rw [List.range_succ,List.countP_append,count_one a p k,List.countP_singleton]
   by_cases h:a < k
   . have h2:¬ k=a:=by omega
     have h3:a < k + 1:=by omega
     simp [h,h2,h3]
   . by_cases h2:k=a
     . subst h2; simp
     . have h3:¬ a < k + 1:=by omega
       simp [h,h2,h3]
theorem Z4j (l:List Nat) (p q:Nat -> Bool) (h:∀ i ∈ l,¬ (p i=true /\ q i=true)):l.countP (fun i=>p i || q i)=l.countP p + l.countP q:=by
 induction l with
 | nil=>rfl
 | cons x l ih =>
   have h0:=h x (List.mem_cons_self ..);rw [List.countP_cons,List.countP_cons,List.countP_cons,ih (fun i hi=>h i (List.mem_cons_of_mem _ hi))];cases hp:p x <;> cases hq:q x <;> simp_all <;> omega
theorem X4h (k:Nat) (p:Nat -> Bool):∀ l:List Int,J2k l=true -> (∀ x ∈ l,0 <= x /\ x < (k:Int)) -> (List.range k).countP (fun i=>p i && has l i)=l.countP fun x=>p x.toNat
 | [],_,_=>by simp [has]
 | x :: l,ha,hb=>by
   have h0:=hb x (List.mem_cons_self ..);have e:(List.range k).countP (fun i=>p i && has (x :: l) i)=(List.range k).countP (fun i=>(p i && decide (i=x.toNat)) || (p i && has l i)):=by
    refine List.countP_congr fun i _=>?_;rw [X1u];have:(x == (i:Int))=decide (i=x.toNat):=by
     by_cases h:x=(i:Int)
     . subst h; simp
     . rw [beq_false_of_ne h,decide_eq_false (by omega)]
    rw [this];cases p i <;> simp
   rw [e,Z4j,count_one,if_pos (by omega),X4h k p l (J3w ha) (fun y hy=>hb y (List.mem_cons_of_mem _ hy)),List.countP_cons]
   . omega
   . rintro i _ ⟨h1,h2⟩
     simp only [Bool.and_eq_true,decide_eq_true_eq] at h1 h2;have:=J3o ha (i:Int) (J8o.1 h2.2);omega
theorem Z2w {out:List Bool} {l:List Int} (ha:J2k l=true) (hb:∀ x ∈ l,0 <= x /\ x < 64):K1v (X3e out &&& Y8d l) 64=failing out l:=by
 unfold K1v failing;rw [<- X4h 64 (fun i=>bx out i) l ha hb];refine List.countP_congr fun i _=>?_;rw [Nat.testBit_and,Q7p,Z6o (fun x hx=>(hb x hx).1)]
namespace Tree
def maskAt (t:Tree) (k:Nat):Nat:=if k < t.basics.length then 2 ^ k else Y8d (Q9i t.causes (k - t.basics.length))
def masks (t:Tree):List Int:=(List.range t.size).map fun k=>(t.maskAt k:Int)
def gt (t:Tree) (k:Nat):Nat × Int:=(Y8d (Q8e t.gates k),J5x (Z3x t.gates k) (J2e t.gates k) (Q8e t.gates k).length)
def gts (t:Tree):List (Nat × Int):=(List.range t.gates.length).map t.gt
end Tree
theorem Z1u (t:Tree):t.gts.length=t.gates.length:=by simp [Tree.gts]
theorem Valid.members {t:Tree} (h:Valid t) {k:Nat} (hk:k < t.causes.length):∀ x ∈ Q9i t.causes k,0 <= x /\ x < (t.basics.length:Int):=by
 have h1:=h.event (t.basics.length + k) (by unfold Tree.size; omega)
 unfold Tree.X8h at h1;rw [Q1n] at h1;have h2:=h1 (if t.basics.length + k < t.basics.length then 0 else X5n (Q9i t.causes (t.basics.length + k - t.basics.length)) t.basics.length) (by simp)
 rw [if_neg (by omega),Nat.add_sub_cancel_left] at h2
 exact (Y0v (X6d h2).2).1
theorem X3v (t:Tree) (ev:Nat -> Bool):∀ k,(t.X0n ev k).length=t.basics.length + k
 | 0=>by simp [Tree.X0n,Tree.J1x]
 | k + 1=>by rw [Tree.X0n,List.length_append,X3v t ev k]; simp; omega
theorem Valid.J4n {t:Tree} (h:Valid t) {k:Nat} (hk:k < t.gates.length):J2k (Q8e t.gates k)=true /\ (∀ x ∈ Q8e t.gates k,0 <= x /\ x < 44):=by
 have h1:=Y0v (X6d (h.inputs hk)).2;have:=h.size; have:=h.ng';unfold Tree.size at *;exact ⟨h1.2,fun x hx=>by have:=h1.1 x hx; omega⟩
theorem Valid.step {t:Tree} (h:Valid t) (ev:Nat -> Bool) {k:Nat} (hk:k < t.gates.length) :
    X3e (t.X0n ev (k + 1))=if (t.gt k).2 <= (K1v (X3e (t.X0n ev k) &&& (t.gt k).1) 64:Int) then X3e (t.X0n ev k) ||| 2 ^ (t.basics.length + k) else X3e (t.X0n ev k):=by
 obtain ⟨ha,hb⟩:=h.J4n hk;rw [Tree.X0n,Z6v,X3v,Tree.gt,Z2w ha (fun x hx=>by have:=hb x hx; omega)]
 unfold K0q;simp only [decide_eq_true_eq]
def RGt (_:World) (c:Nat -> Value) (x:Nat × Int):Prop:=c 0=.int .i64 (x.1:Nat) /\ c 1=.int .i64 x.2
theorem RGt.ext (w w':World) (c:Nat -> Value) (x:Nat × Int) (_:Ext w w') (h:RGt w c x):RGt w' c x:=h
def Z6d:World -> Value -> List (Nat × Int) -> Prop:=Go.Tw.Rows 2 RGt
theorem Z6d.ext {w w':World} {v:Value} {l:List (Nat × Int)} (h:Z6d w v l) (hx:Ext w w'):Z6d w' v l:=Rows.ext RGt.ext h hx
structure K1z (w:World) (fv gv:Value) (t:Tree):Prop where
 fails:Q0e w fv t.masks
 gates:Z6d w gv t.gts
theorem K1z.ext {w w':World} {fv gv:Value} {t:Tree} (h:K1z w fv gv t) (hx:Ext w w'):K1z w' fv gv t:=⟨h.fails.ext hx,h.gates.ext hx⟩
theorem Z6d.opened {w:World} {v:Value} {t:Tree} (h:Z6d w v t.gts) :
    ∃ A Qq,v=.slice A t.gates.length Qq /\ t.gates.length <= 17592186043904 /\ t.gates.length <= Qq /\ ∀ k,k < t.gates.length -> ∃ b off,A=some ⟨b,off,none⟩ /\ b < w.heap.size /\
     w.cell? ⟨b,off + k * 2,none⟩=some (.int .i64 ((t.gt k).1:Nat)) /\ w.cell? ⟨b,off + k * 2 + 1,none⟩=some (.int .i64 (t.gt k).2):=by
 obtain ⟨c,⟨A,Qq,hv,hn,Kq,hc⟩,h2⟩:=h;rw [Z1u] at hv hn Kq hc;refine ⟨A,Qq,hv,hn,Kq,fun k hk=>?_⟩;obtain ⟨b,off,hA,h0⟩:=hc (k * 2) (by omega)
 obtain ⟨b',off',Vx,h1⟩:=hc (k * 2 + 1) (by omega)
 rw [hA] at Vx; cases Vx;obtain ⟨e0,e1⟩:=h2 k (by rw [Z1u]; exact hk)
 have e:t.gts[k]'(by rw [Z1u]; exact hk)=t.gt k:=by simp [Tree.gts]
 rw [e] at e0 e1;simp only [Nat.add_zero] at e0;refine ⟨b,off,hA,World.block_lt_of_cell? w _ h0,?_,?_⟩
 . rw [h0,e0]
 . rw [Nat.add_assoc]; exact h1.trans (congrArg some e1)
end Go.Tw
namespace Go.Tw
open Go.RowKit Go.Flow
def Blk (w:World) (g:Nat) (T:TypeId) (cs:Array Value):Prop:=w.heap[g]?=some (.cells cs T (0,0))
theorem Blk.made (w:World) (T:TypeId) (cs:Array Value):Blk (w.alloc (.cells cs T)) w.heap.size T cs:=by show (w.heap.push _)[w.heap.size]?=_; simp
theorem Blk.cell {w:World} {g:Nat} {T:TypeId} {cs:Array Value} (h:Blk w g T cs) (k:Nat):w.cell? ⟨g,k,none⟩=cs[k]?:=by unfold Blk at h; simp [World.cell?,h]
theorem Blk.frozen {w:World} {g:Nat} {T:TypeId} {cs:Array Value} (h:Blk w g T cs) (k:Nat):w.frozen? ⟨g,k,none⟩=false:=by unfold Blk at h; simp [World.frozen?,h]
theorem Blk.set {w:World} {g:Nat} {T:TypeId} {cs:Array Value} (h:Blk w g T cs) (k:Nat) (u:Value):Blk (w.setCell ⟨g,k,none⟩ u) g T (cs.setIfInBounds k u):=by
 unfold Blk at h ⊢;simp only [World.setCell,Array.getElem?_modify,if_true,h,Option.map_some]; rfl
theorem Blk.below {w w':World} {g B:Nat} {T:TypeId} {cs:Array Value} (h:Blk w g T cs) (hb:Below B w w') (hg:g < B):Blk w' g T cs:=by
 unfold Blk at h ⊢; rw [hb.block g hg]; exact h
theorem Blk.lt {w:World} {g:Nat} {T:TypeId} {cs:Array Value} (h:Blk w g T cs):g < w.heap.size:=(Array.getElem?_eq_some_iff.1 h).1
theorem Blk.ext {w w':World} {g:Nat} {T:TypeId} {cs:Array Value} (h:Blk w g T cs) (hx:Ext w w'):Blk w' g T cs:=h.below hx h.lt
theorem Blk.drew {w:World} {g:Nat} {T:TypeId} {cs:Array Value} (h:Blk w g T cs):Blk w.drew g T cs:=h
theorem Q0n.setCell {α:Type} {w:World} {base:Nat} {e:TypeId} {enc:α -> Value} {v:Value} {l:List α} (h:Q0n w base e enc v l) {p:Addr} (hp:p.block < base) (u:Value):Q0n (w.setCell p u) base e enc v l:=by
 obtain ⟨h1,h2⟩:=h;refine ⟨h1,?_⟩
 rcases h2 with h2 | ⟨g,Qq,cur,hv,hb,hg,r⟩
 . exact .inl h2
 . exact .inr ⟨g,Qq,cur,hv,hb,by rw [Below.heap_setCell _ _ _ _ (by omega)]; exact hg,r⟩
theorem Z1x {P:Program} {w:World} {g:Nat} {T:TypeId} {cs:Array Value} (h:Blk w g T cs):(loadCells ⟨g,0,none⟩ cs.size).run P w=.ok cs w:=by
 have gen:∀ (n i:Nat) (acc:Array Value),i + n=cs.size -> acc.toList=cs.toList.take i -> (loadCellsFrom ⟨g,0,none⟩ i n acc).run P w=.ok cs w:=by
  intro n
  induction n with
  | zero =>
    intro i acc hi ha;have:acc=cs:=by
     apply Array.toList_inj.1
     rw [ha,List.take_of_length_le (by simp; omega)]
    subst this;simp [loadCellsFrom]
  | succ n ih =>
    intro i acc hi ha;have h0:=h.cell i;have Tq:i < cs.size:=by omega
    rw [Array.getElem?_eq_getElem Tq] at h0;have ea:(⟨g,0,none⟩:Addr).add i=⟨g,i,none⟩:=by rw [addr_add,Nat.zero_add]
    rw [loadCellsFrom,ea];simp only [Sem.run_bind,load,Sem.run,h0,Result.andThen_ok];refine ih (i + 1) _ (by omega) ?_
    rw [Array.toList_push,ha,<- Array.getElem_toList (by simpa using Tq),List.take_append_getElem]
 exact gen cs.size 0 #[] (by omega) rfl
theorem X0g {P:Program} {g:Nat} {T:TypeId}:∀ (vs:List Value) (i:Nat) (w:World) (cs:Array Value),Blk w g T cs -> (∀ u ∈ vs,u.oneCell'=true) -> i + vs.length=cs.size ->
    ∃ w',(storeCells ⟨g,0,none⟩ vs i).run P w=.ok () w' /\ Blk w' g T (cs.toList.take i ++ vs).toArray /\ (∀ n,n <= g -> Below n w w') /\ ∀ k,k ≠ g -> w'.heap[k]?=w.heap[k]?
 | [],i,w,cs,h,_,hi=>⟨w,by simp [storeCells],by rw [List.take_of_length_le (by simp at hi ⊢; omega),List.append_nil]; exact h,fun _ _=>Below.refl _ _,fun _ _=>rfl⟩
 | v :: vs,i,w,cs,h,h1,hi=>by
   have Tq:i < cs.size:=by simp at hi; omega
   have h0:=h.cell i;rw [Array.getElem?_eq_getElem Tq] at h0;have ea:(⟨g,0,none⟩:Addr).add i=⟨g,i,none⟩:=by rw [addr_add,Nat.zero_add]
   obtain ⟨w',hr,hb,hl,ho⟩:=X0g vs (i + 1) (w.setCell ⟨g,i,none⟩ v) (cs.setIfInBounds i v) (h.set i v) (fun u hu=>h1 u (List.mem_cons_of_mem _ hu)) (by simp at hi ⊢; omega)
   refine ⟨w',?_,?_,fun n hn=>Below.trans ((Below.refl n w).setCell (p:=⟨g,i,none⟩) hn v) (hl n hn),fun k hk=>(ho k hk).trans (Below.heap_setCell _ _ _ _ hk)⟩
   . rw [storeCells,ea]
     simp only [Sem.run_bind,run_store P w _ v _ (h1 v (List.mem_cons_self ..)),h0,h.frozen i,Bool.false_eq_true,if_false,Result.andThen_ok];exact hr
   . have e:(cs.setIfInBounds i v).toList.take (i + 1) ++ vs=cs.toList.take i ++ v :: vs:=by
      rw [Array.toList_setIfInBounds,List.take_set,List.take_succ_eq_append_getElem (by simpa using Tq)]
      simp [Nat.min_eq_left (Nat.le_of_lt Tq)]
     rw [e] at hb; exact hb
theorem Q4o {P:Program} {w:World} {g:Nat} {T BT:TypeId} {cs:Array Value} (h:Blk w g BT cs) (hA:∀ w,(isAgg T).run P w=.ok true w) (hS:∀ w,(sizeOf T).run P w=.ok cs.size w):(loadVar T ⟨g,0,none⟩).run P w=.ok (.agg cs) w:=by
 unfold loadVar;simp only [Sem.run_bind,hA,Result.andThen_ok,if_true,hS,Z1x h,Sem.run_pure]
theorem Q9x {P:Program} {w:World} {ops:Array Oper} {rest:List Oper} {o:Oper} {a:Act} {Q:Exit -> Act -> World -> Prop} (hg:o.guard=none) (p:Operand) (T:TypeId) (vw:o.op=.load T p)
    (hA:∀ w,(isAgg T).run P w=.ok true w) {n:Nat} (hS:∀ w,(sizeOf T).run P w=.ok n w) {g:Nat} (hp:a.eval p=.pointer (some ⟨g,0,none⟩)) {BT:TypeId} {cs:Array Value} (hb:Blk w g BT cs) (hn:cs.size=n)
    (hK:wpList P ops Q rest (a.put o.dst (.agg cs)) w):wpList P ops Q (o :: rest) a w:=by
 subst hn;refine wpList_plain hg fun K' F4=>?_;unfold Oper.wp;have hr:(execOp a.eval o).run P w=.ok (.value (.agg cs)) w:=by
  unfold execOp;simp only [vw,hp,Instr.loadAt,Instr.sureAddr,Sem.run_bind,Sem.run_pure,Result.andThen_ok,Q4o hb hA hS]
 rw [hr];exact F4 _ _ hK
theorem Q0v {P:Program} {w:World} {ops:Array Oper} {rest:List Oper} {o:Oper} {a:Act} {Q:Exit -> Act -> World -> Prop} (hg:o.guard=none) (p x:Operand) (T:TypeId) (vw:o.op=.store T p x)
    {n:Nat} (hS:∀ w,(sizeOf T).run P w=.ok n w) {g:Nat} (hp:a.eval p=.pointer (some ⟨g,0,none⟩)) {BT:TypeId} {cs vs:Array Value} (hx:a.eval x=.agg vs) (hb:Blk w g BT cs) (hn:cs.size=n) (hv:vs.size=n) (h1:∀ u ∈ vs.toList,u.oneCell'=true)
    (hK:∀ w',Blk w' g BT vs -> (∀ n,n <= g -> Below n w w') -> (∀ k,k ≠ g -> w'.heap[k]?=w.heap[k]?) -> wpList P ops Q rest (a.put o.dst undef) w'):wpList P ops Q (o :: rest) a w:=by
 refine wpList_plain hg fun K' F4=>?_;unfold Oper.wp;obtain ⟨w',hr,Mk,hl,ho⟩:=X0g (P:=P) vs.toList 0 w cs hb h1 (by simp [hn,hv])
 have hs:(storeVar T ⟨g,0,none⟩ (.agg vs)).run P w=.ok () w':=by
  have hc:(Value.agg vs).cells=vs:=rfl;unfold storeVar;simp only [Sem.run_bind,hS,Result.andThen_ok];rw [if_neg (by rw [hc]; simp [hv])]
  exact hr
 have zk:(execOp a.eval o).run P w=.ok .skip w':=by
  unfold execOp;simp only [vw,hp,hx,Instr.storeAt,Instr.sureAddr,Sem.run_bind,Sem.run_pure,Result.andThen_ok,hs]
 rw [zk];exact F4 _ _ (hK w' (by simpa using Mk) hl ho)
theorem Q2h {P:Program} {fn:Func} {p:Tmp} {T:TypeId} (h:fn.results=#[.cell p T]) {tmps:Array Value} {w:World} {g:Nat} (ht:tmps.getD p undef=.pointer (some ⟨g,0,none⟩)) {BT:TypeId} {cs:Array Value} (hb:Blk w g BT cs)
    (hA:∀ w,(isAgg T).run P w=.ok true w) (hS:∀ w,(sizeOf T).run P w=.ok cs.size w):(results fn tmps).run P w=.ok (.agg cs) w:=by
 unfold results;rw [h];simp only [List.mapM_toArray,List.mapM_cons,List.mapM_nil,Sem.run_bind,Sem.run_pure,ht,asAddr];simp [Q4o hb hA hS]
theorem Q3z {P:Program} {K:Value -> World -> Prop} {o:Oper} {a:Act} {w:World} {T:TypeId} (p x:Operand) (ho:o.op=.store T p x) (hT:∀ w,(sizeOf T).run P w=.ok 1 w) {g k:Nat} (hp:a.eval p=.pointer (some ⟨g,k,none⟩)) {u:Value} (hx:a.eval x=u) (hu:u.cells=#[u]) (h1:u.oneCell'=true) {BT:TypeId} {cs:Array Value} (hb:Blk w g BT cs) (hk:k < cs.size)
    (h:∀ v,K v (w.setCell ⟨g,k,none⟩ u)):gives P K ((execOp a.eval o).run P w):=by
 have h0:=hb.cell k;rw [Array.getElem?_eq_getElem hk] at h0;have hs:(storeVar T ⟨g,k,none⟩ u).run P w=.ok () (w.setCell ⟨g,k,none⟩ u):=by
  unfold storeVar;simp only [Sem.run_bind,hT,Result.andThen_ok,hu];rw [if_neg (by simp)]
  simp only [storeCells,Sem.run_bind,Sem.run_pure];have ea:(⟨g,k,none⟩:Addr).add 0=⟨g,k,none⟩:=by rw [addr_add,Nat.add_zero]
  rw [ea,run_store P w _ u _ h1];simp only [h0,hb.frozen k,Bool.false_eq_true,if_false,Result.andThen_ok]
 unfold execOp;simp only [ho,hp,hx,Instr.storeAt,Instr.sureAddr,Sem.run_bind,Sem.run_pure,Result.andThen_ok,hs];exact h _
theorem Q0n.only {α:Type} {w w':World} {base g:Nat} {e:TypeId} {enc:α -> Value} {v:Value} {l:List α} (h:Q0n w base e enc v l) (hg:g < base) (ho:∀ k,k ≠ g -> w'.heap[k]?=w.heap[k]?):Q0n w' base e enc v l:=by
 obtain ⟨h1,h2⟩:=h;refine ⟨h1,?_⟩
 rcases h2 with h2 | ⟨g',Qq,cur,hv,hb,Lk,r⟩
 . exact .inl h2
 . exact .inr ⟨g',Qq,cur,hv,hb,by rw [ho _ (by omega)]; exact Lk,r⟩
theorem Q1b.only {α:Type} {w w':World} {base g k:Nat} {e:TypeId} {enc:α -> List Value} {v:Value} {l:List α} (h:Q1b w base e k enc v l) (hg:g < base) (ho:∀ k,k ≠ g -> w'.heap[k]?=w.heap[k]?):Q1b w' base e k enc v l:=by
 obtain ⟨h1,h2⟩:=h;refine ⟨h1,?_⟩
 rcases h2 with h2 | ⟨g',Qq,cur,hv,hb,Lk,r⟩
 . exact .inl h2
 . exact .inr ⟨g',Qq,cur,hv,hb,by rw [ho _ (by omega)]; exact Lk,r⟩
theorem Q1b.shape {α:Type} {w:World} {base k:Nat} {e:TypeId} {enc:α -> List Value} {v:Value} {l:List α} (h:Q1b w base e k enc v l):∃ b c,v=.slice b l.length c /\ l.length <= c:=by
 rcases h.2 with ⟨rfl,h0⟩ | ⟨g,Qq,cur,rfl,_,_,hc,_⟩
 . exact ⟨none,0,by rw [h0],by omega⟩
 . exact ⟨_,Qq,rfl,hc⟩
theorem Q3x (w:World) (p:Addr) (u:Value):∀ k,k ≠ p.block -> (w.setCell p u).heap[k]?=w.heap[k]?:=fun _ hk=>Below.heap_setCell _ _ _ _ hk
theorem Q1y (w:World) (T:TypeId) (cs:Array Value):∃ W,w.alloc (.cells cs T)=W /\ Blk W w.heap.size T cs /\ Hid (Ext w W) /\ W.heap.size=w.heap.size + 1:=⟨_,rfl,Blk.made _ _ _,hid (Ext.box _ _),by simp⟩
theorem Q3p (w:World) (T:TypeId) (cs:Array Value) (T':TypeId) (cs':Array Value):∃ W,(w.alloc (.cells cs T)).alloc (.cells cs' T')=W /\ Blk W w.heap.size T cs /\ Blk W (w.heap.size + 1) T' cs' /\ Hid (Ext w W) /\ W.heap.size=w.heap.size + 1 + 1:=by
 obtain ⟨X,rfl,h1,h2,h3⟩:=Q1y w T cs;refine ⟨_,rfl,h1.ext (Ext.box _ _),?_,hid (h2.out.trans (Ext.box _ _)),by simp⟩
 rw [<- h3]; exact Blk.made _ _ _
theorem Q9s (w:World) (T:TypeId) (cs:Array Value) (T':TypeId) (cs':Array Value) (T'':TypeId) (cs'':Array Value):∃ W,((w.alloc (.cells cs T)).alloc (.cells cs' T')).alloc (.cells cs'' T'')=W /\ Blk W w.heap.size T cs /\ Blk W (w.heap.size + 1) T' cs' /\ Blk W (w.heap.size + 1 + 1) T'' cs'' /\ Hid (Ext w W) /\ W.heap.size=w.heap.size + 1 + 1 + 1:=by
 obtain ⟨X,rfl,h1,h2,h3,h4⟩:=Q3p w T cs T' cs';refine ⟨_,rfl,h1.ext (Ext.box _ _),h2.ext (Ext.box _ _),?_,hid (h3.out.trans (Ext.box _ _)),by simp⟩
 rw [<- h4]; exact Blk.made _ _ _
end Go.Tw
namespace Go.Proofs
open Go.RowKit Go.Tw Go.Flow Tryz
def Z9w (lim:Int) (l:List Int):Bool:=!(l.any fun x=>decide (lim < x))
theorem Z0s (lim x:Int) (l:List Int):Z9w lim (x :: l)=(!decide (lim < x) && Z9w lim l):=by simp [Z9w]
theorem J2x (m:Mem) (lim:Int) (c:List Bool):m.keeps lim c=Z9w lim (m.Q7b c):=rfl
theorem Z5b (w:World) (v u:Value) (s:Q0b) (l:List Int) (hv:Q0g w v s) (hu:Q0e w u l) :
    Calls prog 104 #[v,u] w fun e w'=>e=.returned (.bool (Z9w s.limit l)) /\ Ext w w':=by
 obtain ⟨a,b,rfl,h2⟩:=hv;obtain ⟨A,Uq,rfl,-,-,-⟩:=h2.ships.opened;obtain ⟨B,Wq,rfl,-,-,-⟩:=h2.members.opened;obtain ⟨U,Qq,rfl,hl,Kq,hc⟩:=hu.opened;clear hu h2;have E4:=Ext.box w (.cells #[.int .i64 s.limit,.slice A s.ships.length Uq,.slice B s.members.length Wq] 25);have k0:=Blk.made w 25 #[.int .i64 s.limit,.slice A s.ships.length Uq,.slice B s.members.length Wq];have c0:=k0.cell 0;simp only [Go.Tw.gA,Go.Tw.gB] at c0;clear k0;have HX:=hid E4; clear E4;go_enter func104,ntmps104;go_wp2
 go_loopw [5] (fun i wr=>∃ k:Nat,k <= l.length /\ i=.int .i64 k /\ Z9w s.limit (l.drop k)=Z9w s.limit l /\ Ext (w.alloc (.cells #[.int .i64 s.limit,.slice A s.ships.length Uq,.slice B s.members.length Wq] 25)) wr) (fun i _=>l.length - (intOf i).toNat)
 case atStart=>exact ⟨0,Nat.zero_le _,rfl,rfl,Ext.refl _⟩
 case round =>
  obtain ⟨k,hk,rfl,hr,hx⟩:=hrel;have HR:=hid hr; clear hr;replace c0:=hx.cell c0
  by_cases Tq:k < l.length
  . obtain ⟨b,off,rfl,Xq⟩:=hc k Tq
    replace Xq:=(HX.out.trans hx).cell Xq;have HD:=hid (Q2v Tq);have i1:(k:Int) < l.length:=by omega
    clear hc
    by_cases hz:s.limit < ix l k
    . have HZ:Hid (decide (s.limit < ix l k)=true):=by exact decide_eq_true hz
      go_wp2
      go_quiet (fail)
      all_goals go_wp2
      go_ret;exact ⟨Q0x (by rw [<- HR.out,HD.out,Z0s,HZ.out]; rfl),HX.out.trans (hx.drewN _)⟩
    . have HZ:Hid (decide (s.limit < ix l k)=false):=by exact decide_eq_false hz
      have Re:ix l k <= s.limit:=by omega
      go_wp2
      go_quiet (fail)
      all_goals go_wp2
      go_roundw
      case rel=>exact ⟨k + 1,by omega,by go_num,by rw [<- HR.out,HD.out,Z0s,HZ.out]; rfl,hx.drewN _⟩
      case measure=>simp [intOf]; omega
  . clear hc
    go_wp2;go_ret;exact ⟨Q0x (by rw [<- HR.out,List.drop_eq_nil_of_le (by omega)]; rfl),HX.out.trans hx⟩
def Q4k (s:Q0b) (l:List Int) (k:Nat):Int:=Q1u s (l.take k)
theorem Q9j {s:Q0b} {l:List Int} {k:Nat} (hk:k < l.length):Q4k s l (k + 1)=Q4k s l k + Q0o s.members (ix l k).toNat:=by
 unfold Q4k Q1u;rw [List.take_add_one,List.getElem?_eq_getElem hk,List.map_append,List.sum_append,Q5i hk]; simp
theorem X2z {s:Q0b} (hv:Q0w s) {l:List Int} (hl:∀ x ∈ l,0 <= x /\ x < s.members.length):∀ k,k <= l.length -> 0 <= Q4k s l k /\ Q4k s l k <= 1000 * k
 | 0,_=>⟨Int.le_refl _,Int.le_refl _⟩
 | k + 1,h=>by
   obtain ⟨h1,h2⟩:=X2z hv hl k (by omega)
   have h3:=hl _ (List.getElem_mem (show k < l.length by omega))
   rw [<- Q5i] at h3;have:=hv.weights (ix l k).toNat (by omega)
   rw [Q9j (by omega)]
   omega
theorem X8x (w:World) (v u:Value) (s:Q0b) (l:List Int) (hv:Q0g w v s) (hu:Q0e w u l) (hs:Q0w s) (Jk:∀ x ∈ l,0 <= x /\ x < s.members.length) (lx:l.length <= 4096) :
    Calls prog 29 #[v,u] w fun e w'=>e=.returned (.int .i64 (Q1u s l)) /\ Ext w w':=by
 obtain ⟨a,b,rfl,h2⟩:=hv;obtain ⟨A,Uq,rfl,-,-,-⟩:=h2.ships.opened;obtain ⟨B,Wq,rfl,Nv,jz,Rj⟩:=h2.members.opened;obtain ⟨U,Qq,rfl,hl,Kq,hc⟩:=hu.opened;clear hu h2;have E4:=Ext.box w (.cells #[.int .i64 s.limit,.slice A s.ships.length Uq,.slice B s.members.length Wq] 25);have k0:=Blk.made w 25 #[.int .i64 s.limit,.slice A s.ships.length Uq,.slice B s.members.length Wq];have c2:=k0.cell 2;simp only [Go.Tw.gA,Go.Tw.gB,Go.Tw.gC] at c2;clear k0;have HX:=hid E4; clear E4;have HS:=hid hs; clear hs;have jg:=hid Jk; clear Jk;have HM:Hid (s.members.length <= 8):=HS.out.some.2;go_enter func29,ntmps29;go_wp2
 go_loopw [5,6] (fun n i wr=>∃ (k:Nat) (m:Int),k <= l.length /\ i=.int .i64 k /\ n=.int .i64 m /\ m=Q4k s l k /\ Ext (w.alloc (.cells #[.int .i64 s.limit,.slice A s.ships.length Uq,.slice B s.members.length Wq] 25)) wr) (fun _ i _=>l.length - (intOf i).toNat)
 case atStart=>exact ⟨0,0,Nat.zero_le _,rfl,rfl,rfl,Ext.refl _⟩
 case round =>
  obtain ⟨k,m,hk,rfl,rfl,hr,hx⟩:=hrel;have HR:=hid hr; clear hr;replace c2:=hx.cell c2
  by_cases Tq:k < l.length
  . obtain ⟨b,off,rfl,Xq⟩:=hc k Tq
    have h3:=jg.out _ (List.getElem_mem Tq);rw [<- Q5i Tq] at h3;obtain ⟨j,hj⟩:∃ j:Nat,ix l k=j:=⟨(ix l k).toNat,by omega⟩
    obtain ⟨b',off',x,y,z,rfl,-,-,Tx,-⟩:=Rj j (by omega)
    replace Xq:=(HX.out.trans hx).cell Xq;replace Tx:=(HX.out.trans hx).cell Tx;have ux:=X2z HS.out jg.out (k + 1) (by omega)
    have Tg:Q4k s l (k + 1)=m + Q0o s.members j:=by rw [Q9j Tq,HR.out,hj,Int.toNat_natCast]
    rw [Tg] at ux;rw [hj] at Xq h3;have Ey:=hid Tg; clear Tg;have i1:(k:Int) < l.length:=by omega
    have i0:(j:Int) < s.members.length:=h3.2;have i2:0 <= m + Q0o s.members j:=ux.1;have i3:m + Q0o s.members j <= 10000000:=by omega
    clear ux h3 hj hc Rj;go_wp2
    go_quiet (fail)
    all_goals go_wp2
    go_roundw
    case rel=>exact ⟨k + 1,m + Q0o s.members j,by omega,by go_num,by go_num,Ey.out.symm,hx.drewN _⟩
    case measure=>simp [intOf]; omega
  . clear hc Rj
    go_wp2;go_ret;exact ⟨Q1c (by rw [HR.out,show k=l.length by omega,Q4k,List.take_length]),HX.out.trans hx⟩
theorem X1z (w:World) (x:Int) :
    Calls prog 23 #[.int .i64 x] w fun e w'=>e=.returned (.int .i64 (Q0f x 0 8000)) /\ w=w':=by
 go_enter func23,ntmps23;go_wp2_with (go_at_call 87; refine (Q2q _ x 0 8000).mono ?_; rintro e w' ⟨rfl,rfl⟩);go_ret;exact ⟨rfl,rfl⟩
def Q8b (s:Q0b) (l:List Int) (i:Nat):Int:=if ix l i < 0 ∨ (s.members.length:Int) <= ix l i then 10 else if 0 < i /\ ix l i <= ix l (i - 1) then 11 else 0
def Q7w (s:Q0b) (l:List Int) (k:Nat):Int:=Q0h (((List.range l.length).map (Q8b s l)).drop k)
theorem Y6t {s:Q0b} {l:List Int} {k:Nat} (hk:k < l.length):Q7w s l k=if Q8b s l k=0 then Q7w s l (k + 1) else Q8b s l k:=by
 unfold Q7w;rw [List.drop_eq_getElem_cons (by simpa using hk),List.getElem_map,List.getElem_range]; rfl
theorem Z1m {s:Q0b} {l:List Int} {k:Nat} (hk:l.length <= k):Q7w s l k=0:=by
 unfold Q7w;rw [List.drop_eq_nil_of_le (by simpa using hk)]; rfl
theorem X7w (w:World) (v u:Value) (s:Q0b) (l:List Int) (hv:Q0g w v s) (hu:Q0e w u l) :
    Calls prog 35 #[v,u] w fun e w'=>e=.returned (.int .i64 (Q1z s l)) /\ Ext w w':=by
 obtain ⟨a,b,rfl,h2⟩:=hv;obtain ⟨A,Uq,rfl,-,-,-⟩:=h2.ships.opened;obtain ⟨B,Wq,rfl,Nv,-,-⟩:=h2.members.opened;obtain ⟨U,Qq,rfl,hl,Kq,hc⟩:=hu.opened;clear hu h2;have hw:=Ext.box w (.cells #[.int .i64 s.limit,.slice A s.ships.length Uq,.slice B s.members.length Wq] 25);have k0:=Blk.made w 25 #[.int .i64 s.limit,.slice A s.ships.length Uq,.slice B s.members.length Wq];have c2:=k0.cell 2;simp only [Go.Tw.gA,Go.Tw.gB,Go.Tw.gC] at c2;clear k0;have HW:=hid hw; clear hw
 by_cases h8:8 < l.length
 . have HE:Hid (Q1z s l=5):=by exact if_pos h8
   have ci:(8:Int) < l.length:=by omega
   go_enter func35,ntmps35;go_wp2;go_ret;exact ⟨Q1c HE.out.symm,HW.out⟩
 have HE:Hid (Q1z s l=Q7w s l 0):=by exact if_neg h8
 have ci:(l.length:Int) <= 8:=by omega
 go_enter func35,ntmps35;go_wp2;obtain ⟨W,hW⟩:∃ W,w.alloc (.cells #[.int .i64 s.limit,.slice A s.ships.length Uq,.slice B s.members.length Wq] 25)=W:=⟨_,rfl⟩;rw [hW] at c2 HW ⊢;clear hW
 go_loopw [5] (fun i wr=>∃ k:Nat,k <= l.length /\ i=.int .i64 k /\ Q7w s l k=Q7w s l 0 /\ Ext W wr) (fun i _=>l.length - (intOf i).toNat)
 case atStart=>exact ⟨0,Nat.zero_le _,rfl,rfl,Ext.refl _⟩
 case round =>
  obtain ⟨k,hk,rfl,hr,hx⟩:=hrel;have HR:=hid hr; clear hr;have d2:=hx.cell c2
  by_cases Tq:k < l.length
  . obtain ⟨b,off,rfl,Xq⟩:=hc k Tq
    have yk:=fun h=>hc (k - 1) h;replace Xq:=(HW.out.trans hx).cell Xq;have qq:=hid (Y6t (s:=s) Tq);have i1:(k:Int) < l.length:=by omega
    clear c2
    by_cases h0:ix l k < 0
    . have HA:Hid (Q8b s l k=10):=by exact if_pos (.inl h0)
      clear hc yk;go_wp2
      go_quiet (fail)
      all_goals go_wp2
      go_ret;exact ⟨Q1c (by rw [HE.out,<- HR.out,qq.out,HA.out]; rfl),HW.out.trans (hx.drewN _)⟩
    by_cases h1:(s.members.length:Int) <= ix l k
    . have HA:Hid (Q8b s l k=10):=by exact if_pos (.inr h1)
      have Aw:0 <= ix l k:=by omega
      clear hc yk;go_wp2
      go_quiet (fail)
      all_goals go_wp2
      go_ret;exact ⟨Q1c (by rw [HE.out,<- HR.out,qq.out,HA.out]; rfl),HW.out.trans (hx.drewN _)⟩
    have Aw:0 <= ix l k:=by omega
    have Oy:ix l k < (s.members.length:Int):=by omega
    by_cases vk:k=0
    . have HA:Hid (Q8b s l k=0):=by exact (if_neg (by omega)).trans (if_neg (by omega))
      have j1:(k:Int) <= 0:=by omega
      have j1':k <= 0:=by omega
      have j1a:decide (0 < k)=false:=by exact decide_eq_false (by omega)
      have j1b:decide ((0:Int) < (k:Int))=false:=by exact decide_eq_false (by omega)
      clear hc yk vk;go_wp2
      go_quiet (fail)
      all_goals go_wp2
      go_quiet (fail)
      all_goals go_wp2
      go_roundw
      case rel=>exact ⟨k + 1,by omega,by go_num,by rw [<- HR.out,qq.out,if_pos HA.out],hx.drewN _⟩
      case measure=>simp [intOf]; omega
    . obtain ⟨b',off',hA,Tx⟩:=yk (by omega)
      cases hA;replace Tx:=(HW.out.trans hx).cell Tx;have j1:(0:Int) < k:=by omega
      have j1':0 < k:=by omega
      have j1a:decide (0 < k)=true:=by exact decide_eq_true (by omega)
      have j1b:decide ((0:Int) < (k:Int))=true:=by exact decide_eq_true (by omega)
      have j2:(0:Int) <= (k:Int) - 1:=by omega
      have j3:(k:Int) - 1 < l.length:=by omega
      have j4:((k:Int) - 1).toNat=k - 1:=by omega
      clear hc yk
      by_cases h2:ix l k <= ix l (k - 1)
      . have HA:Hid (Q8b s l k=11):=by exact (if_neg (by omega)).trans (if_pos ⟨by omega,h2⟩)
        go_wp2
        go_quiet (fail)
        all_goals go_wp2
        go_quiet (fail)
        all_goals go_wp2
        go_ret;exact ⟨Q1c (by rw [HE.out,<- HR.out,qq.out,HA.out]; rfl),HW.out.trans ((hx.drewN _).drewN _)⟩
      . have HA:Hid (Q8b s l k=0):=by exact (if_neg (by omega)).trans (if_neg (fun h=>h2 h.2))
        have b6:ix l (k - 1) < ix l k:=by omega
        go_wp2
        go_quiet (fail)
        all_goals go_wp2
        go_quiet (fail)
        all_goals go_wp2
        go_roundw
        case rel=>exact ⟨k + 1,by omega,by go_num,by rw [<- HR.out,qq.out,if_pos HA.out],hx.drewN _⟩
        case measure=>simp [intOf]; omega
  . clear hc
    go_wp2;go_ret;exact ⟨Q1c (by rw [HE.out,<- HR.out,Z1m (by omega)]),HW.out.trans hx⟩
end Go.Proofs
namespace Go.Flow
open Go.RowKit Go.Tw
abbrev rnd (l:Nat):Fence:=Fence.wide.inRound l
section
variable {P:Program} {ops:Array Oper} {pre:Nat -> List Nat}
theorem X0e {l n:Nat} {o:Oper} {a:Act} {K:Act -> World -> Prop} {Q:Exit -> Act -> World -> Prop} {r:Result Next} (h:gives P (fun v w=>K (a.put o.dst v) w) r):o.uponIn (rnd l) n P a K Q r:=by
 cases r with
 | ok n' w =>
   cases n' <;> simp only [gives,Oper.uponIn] at h ⊢
   case value=>exact h
   case skip=>exact h
   case enter =>
    refine ⟨fun hd=>by simp [rnd,Fence.inRound,Fence.wide] at hd,CallsIn.inRound l (callsIn_wide.2 (h.mono fun e w ⟨u,he,hu⟩=>?_))⟩
    subst he; exact hu
   case row =>
    exact ⟨fun hd=>by simp [rnd,Fence.inRound,Fence.wide] at hd,fun c cs _=>let ⟨v,w',hr,hs⟩:=h c cs; ⟨v,w',hr,stepsIn_wide.2 hs⟩⟩
 | halt x w=>exact h.elim
theorem X7s (tail:List Nat) (kind:Nat -> Kind) {Rel:World -> World -> Prop} {D:Nat -> (Nat -> Value) -> World -> Prop} {E:Nat -> (Nat -> Value) -> World -> World -> Prop}
    {id:Nat} {Q:Exit -> Act -> World -> Prop} {a0:Act} {w:World} {l n:Nat} (hm:P.follows .mixedOrders=true) (Pv:∀ (j:Nat) (o:Oper),ops[j]?=some o -> ∀ c,o.op ≠ .defer c) (Ej:Ok ops pre)
    (Bj:∀ i (h:i < tail.length),tail[i] < ops.size) (uj:∀ i k (hi:i < tail.length) (hk:k < tail.length),i < k -> tail[i] ∈ pre tail[k])
    (Dx:∀ j,j < ops.size -> j ∉ tail -> ∀ k ∈ pre j,k ∉ tail) (Nk:∀ j,j < ops.size -> (kind j=.last ↔ j ∈ tail)) (dj:∀ j,j < ops.size -> kind j=.world -> ∀ s ∈ tail,j ∈ pre s)
    (Tj:∀ w,Rel w w) (vz:∀ a b c,Rel a b -> Rel b c -> Rel a c) (Ny:∀ k,k < ops.size -> ∀ v w w',Rel w w' -> D k v w -> D k v w')
    (Jz:∀ j o,ops[j]?=some o -> j ∉ tail -> ∀ v w1,Rel w.drew w1 -> (∀ k ∈ pre j,D k (mask pre k v) w1) -> vc P ops pre Rel D (fun _ _ _=>False) (fun _ _ _=>False) (kind j) o j (act (fun k=>decide (k < j)) v ops.toList 0 a0) v w1)
    (Zy:∀ c (hc:c < tail.length) o,ops[tail[c]]?=some o -> ∀ v w1,Rel w.drew w1 -> (∀ k ∈ pre tail[c],k ∉ tail -> D k (mask pre k v) w1) -> vc P ops pre Rel D (Tail pre tail E c) (E c) .last o tail[c] (act (fun k=>decide (k < tail[c])) v ops.toList 0 a0) v w1)
    (Xj:∀ v w1 w',Rel w.drew w1 -> (∀ k,k < ops.size -> k ∉ tail -> D k (mask pre k v) w1) -> Tail pre tail E tail.length v w1 w' -> Q .normal (act (fun _=>true) v ops.toList 0 a0) w') :
    (Code.region id ops true).wpIn (rnd l) n P Q a0 w:=by
 refine wpIn_region_any hm ?_;have Nx:∀ (X:Nat -> Bool),(∀ j o,ops[j]?=some o -> X j=true -> ∀ e ∈ o.after,Region.binds .any e=true -> X e.on=true) ->
     ∀ j o,ops[j]?=some o -> (∀ e ∈ o.after,Region.binds .any e=true -> X e.on=true) -> ∀ i ∈ pre j,X i=true:=by
  intro X hX j
  induction j using Nat.strongRecOn with
  | _ j ih =>
    intro o ho oq i hi;obtain ⟨e,he,hb,hc⟩:=Ej.pre j o ho i hi
    rcases hc with rfl | hc
    . exact oq e he hb
    . have Tq:=Ej.edge j o ho e he hb
      have hj:j < ops.size:=(Array.getElem?_eq_some_iff.1 ho).1;have Px:ops[e.on]?=some ops[e.on]:=Array.getElem?_eq_getElem (by omega)
      exact ih e.on Tq _ Px (hX e.on _ Px (oq e he hb)) i hc
 have main:∀ (fuel:Nat) (listed:Array Bool) (a:Act) (wc:World),listed.size=ops.size -> left ops.size listed <= fuel ->
     (∀ j o,ops[j]?=some o -> listed.getD j false=true -> ∀ e ∈ o.after,Region.binds .any e=true -> listed.getD e.on false=true) ->
     (∃ v w1 c,Inv ops pre Rel D E tail [] a0 w.drew (fun k=>listed.getD k false) v w1 c a wc) -> wpAnyIn (rnd l) n P .any ops Q fuel listed a wc:=by
  intro fuel;have Cz:∀ (listed:Array Bool) (a:Act) (wc:World),listed.size=ops.size ->
      (∃ v w1 c,Inv ops pre Rel D E tail [] a0 w.drew (fun k=>listed.getD k false) v w1 c a wc) -> Region.ready .any ops listed=[] -> Q .normal a wc:=by
   rintro listed a wc pq ⟨v,w1,c,hI⟩ hr;have oq:∀ j,j < ops.size -> listed.getD j false=true:=by
    intro j
    induction j using Nat.strongRecOn with
    | _ j ih =>
      intro hj;cases hx:listed.getD j false with
      | true=>rfl
      | false =>
        have tq:j ∈ Region.ready .any ops listed:=mem_ready.2 ⟨by rw [Q3w (by omega)]; exact hx,ops[j],Array.getElem?_eq_getElem hj,fun e he hb =>
         have Tq:=Ej.edge j _ (Array.getElem?_eq_getElem hj) e he hb
         ih e.on Tq (by omega)⟩
        rw [hr] at tq;cases tq
   have J4:a=act (fun _=>true) v ops.toList 0 a0:=by
    rw [hI.act];refine X3b (by rw [Q3g,Q3g]) fun t=>Q6y _ _ _ _ t _ 0 _ _ rfl rfl fun k o ho _=>⟨?_,fun _=>rfl⟩
    rw [Nat.zero_add];exact oq k (by simpa using (List.getElem?_eq_some_iff.1 ho).1)
   rw [J4];refine Xj v w1 wc hI.rel (fun k hk Cx=>hI.facts k (oq k hk) Cx) ?_;have hl:=hI.last;have hc:c=tail.length:=by
    rcases Nat.lt_or_ge c tail.length with h | h
    . have h1:listed.getD tail[c] false=false:=hI.after c h (Nat.le_refl _)
      have h2:=oq _ (Bj c h);rw [h2] at h1; cases h1
    . have:=hI.count; omega
   rw [hc] at hl;exact hl
  induction fuel with
  | zero =>
    intro listed a wc pq My _ hI;have hr:Region.ready .any ops listed=[]:=by
     refine List.eq_nil_iff_forall_not_mem.2 fun j hj=>?_;obtain ⟨Fz,o,ho,_⟩:=mem_ready.1 hj;have Tq:j < ops.size:=(Array.getElem?_eq_some_iff.1 ho).1;have:=X1q pq Tq Fz;omega
    exact ⟨hr,Cz listed a wc pq hI hr⟩
  | succ fuel ih =>
    intro listed a wc pq My hcl hI;refine ⟨Cz listed a wc pq hI,fun j hj=>?_⟩;obtain ⟨v,w1,c,hI⟩:=hI;obtain ⟨Fz,o,ho,oq⟩:=mem_ready.1 hj;have Tq:j < ops.size:=(Array.getElem?_eq_some_iff.1 ho).1;have Zz:listed.getD j false=false:=by rw [<- Q3w (by omega)]; exact Fz
    have Tz:=Nx (fun k=>listed.getD k false) hcl j o ho oq;have N3:ops.toList[j]?=some o:=by simpa using ho
    have Ux:∀ k,k < ops.size -> listed.getD k false=true -> j ∉ pre k:=by
     intro k hk hx tq;have Px:ops[k]?=some ops[k]:=Array.getElem?_eq_getElem hk;have h2:listed.getD j false=true:=Nx (fun k=>listed.getD k false) hcl k _ Px (hcl k _ Px hx) j tq;rw [Zz] at h2; cases h2
    have Sz:∀ k o',j < k -> ops[k]?=some o' -> listed.getD k false=true -> o.apart ops o'=true:=by
     intro k o' hk Px hx
     rcases Ej.apart j k o o' hk ho Px with h | h
     . exact h
     . exact absurd h (Ux k (Array.getElem?_eq_some_iff.1 Px).1 hx)
    have Rz:∀ t ∈ o.looksAt ops,a.tmps[t]?=(act (fun k=>decide (k < j)) v ops.toList 0 a0).tmps[t]?:=by
     intro t ht;rw [hI.act];refine Q6y _ _ _ _ t _ 0 _ _ rfl rfl fun k o' Px hd=>?_;rw [Nat.zero_add];refine ⟨?_,fun _=>rfl⟩;have Ly:ops[k]?=some o':=by simpa using Px
     rcases Nat.lt_trichotomy k j with hk | hk | hk
     . simp only [hk,decide_true]
       rcases Ej.apart k j o' o hk Ly ho with h | h
       . exact absurd ht ((Oper.apart_spec h).1 t hd)
       . exact Tz k h
     . subst hk
       simp [Zz]
     . have G4:¬ k < j:=by omega
       simp only [G4,decide_false];cases hx:listed.getD k false with
       | false=>rfl
       | true=>exact absurd ht ((Oper.apart_spec (Sz k o' hk Ly hx)).2.2 t hd)
    have Ax:execOp a.eval o=execOp (act (fun k=>decide (k < j)) v ops.toList 0 a0).eval o:=execOp_congr o (fun cs b=>Ej.sel j o cs b ho) (eval_congr o Rz);have Ky:Region.wanted o (yielded ops a.tmps)=Region.wanted o (yielded ops (act (fun k=>decide (k < j)) v ops.toList 0 a0).tmps):=X0i o Rz;have Ez:∀ u,a.put o.dst u=act (fun k=>if k=j then true else listed.getD k false) (upd v j u) ops.toList 0 a0:=by
     intro u;rw [hI.act];refine Y6v N3 Zz fun k o' hk Px hx=>?_;cases hd:o.dst with
     | none=>exact .inr rfl
     | some d=>exact .inl ((Oper.apart_spec (Sz k o' hk (by simpa using Px) hx)).2.1 d hd)
    have hX:(fun k=>(listed.setIfInBounds j true).getD k false)=fun k=>if k=j then true else listed.getD k false:=by
     funext k
     split
     . rename_i hk; subst hk; simp [pq,Tq]
     . rename_i hk; exact getD_set_ne false (Ne.symm hk)
    have tj:j ∈ tail -> ∃ h:c < tail.length,tail[c]=j:=by
     intro tq;obtain ⟨i,hi,he⟩:=List.getElem_of_mem tq;have Te:c <= i:=by
      rcases Nat.lt_or_ge i c with h | h
      . have:=hI.before i hi h
        simp only [he] at this;rw [Zz] at this; cases this
      . exact h
     have:c=i:=by
      rcases Nat.lt_or_ge c i with h | h
      . have hx:=Tz tail[c] (by rw [<- he]; exact uj c i (by omega) hi h)
        have h1:=hI.after c (by omega) (Nat.le_refl _)
        rw [hx] at h1; cases h1
      . omega
     subst this;exact ⟨hi,he⟩
    have Wj:∀ (u:Value) (w1' wc':World) (c':Nat),Rel w1 w1' -> (j ∉ tail -> D j (mask pre j (upd v j u)) w1') -> (j ∉ tail -> c'=c) -> (j ∈ tail -> c'=c + 1) ->
        Tail pre tail E c' (upd v j u) w1' wc' -> wpAnyIn (rnd l) n P .any ops Q fuel (listed.setIfInBounds j true) (a.put o.dst u) wc':=by
     intro u w1' wc' c' hrel hD Rx Xx hE;refine ih _ _ _ (by simpa using pq) (by have:=X1q pq Tq Fz; omega) (fun k ok Rv hx e he hb=>?_) ⟨upd v j u,w1',c',⟨by rw [hX]; exact Ez u,vz _ _ _ hI.rel hrel,fun k hx Cx=>?_,?_,fun i hi hic=>?_,fun i hi hic=>?_,hE,fun _ h=>(nomatch h),fun _ h=>(nomatch h)⟩⟩
     . by_cases Kz:k=j
       . subst Kz
         rw [ho] at Rv;cases Rv;exact getD_set_true (oq e he hb)
       . rw [getD_set_ne false (Ne.symm Kz)] at hx
         exact getD_set_true (hcl k ok Rv hx e he hb)
     . rw [congrFun hX k] at hx
       by_cases Kz:k=j
       . subst Kz; exact hD Cx
       . rw [if_neg Kz] at hx
         have Jy:k < ops.size:=by
          rcases Nat.lt_or_ge k ops.size with h | h
          . exact h
          . rw [<- pq] at h; simp [Array.getElem?_eq_none h] at hx
         rw [X1c (Ne.symm Kz) (Ux k Jy hx)];exact Ny k Jy _ _ _ hrel (hI.facts k hx Cx)
     . by_cases kq:j ∈ tail
       . obtain ⟨h,_⟩:=tj kq
         rw [Xx kq]; omega
       . rw [Rx kq]; exact hI.count
     . rw [congrFun hX]
       by_cases hij:tail[i]=j
       . rw [if_pos hij]
       . rw [if_neg hij]
         by_cases kq:j ∈ tail
         . obtain ⟨h,he⟩:=tj kq
           rw [Xx kq] at hic;have:i ≠ c:=fun e=>hij (by subst e; exact he)
           exact hI.before i hi (by omega)
         . rw [Rx kq] at hic; exact hI.before i hi hic
     . rw [congrFun hX]
       by_cases kq:j ∈ tail
       . obtain ⟨h,he⟩:=tj kq
         rw [Xx kq] at hic;rw [if_neg (fun e=>by
          have h1:=uj c i h hi (by omega)
          rw [e,he] at h1;obtain ⟨e',RZ,Mk,Wg⟩:=Ej.pre j o ho j h1;have hl:=Ej.edge j o ho e' RZ Mk;have h2:listed.getD j false=true:=Tz j h1;rw [Zz] at h2; cases h2)]
         exact hI.after i hi (by omega)
       . rw [Rx kq] at hic
         rw [if_neg (fun e=>kq (by rw [<- e]; exact List.getElem_mem hi))]
         exact hI.after i hi hic
    have Sj:j ∉ tail -> ∀ u,Tail pre tail E c (upd v j u) w1 wc:=by
     intro kq u;have hl:=hI.last;cases c with
     | zero=>exact hl
     | succ c =>
       have my:c < tail.length:=by have:=hI.count; omega
       change E c (mask pre (tail.getD c 0) v) w1 wc at hl;show E c (mask pre (tail.getD c 0) (upd v j u)) w1 wc;have e:tail.getD c 0=tail[c]:=by simp [my]
       rw [e] at hl ⊢;rw [X1c (fun h=>kq (by rw [h]; exact List.getElem_mem my)) (Ux _ (Bj c my) (hI.before c my (by omega)))]
       exact hl
    unfold wpOpIn;simp only [ho];rw [Ky]
    by_cases kq:j ∈ tail
    . obtain ⟨hc,he⟩:=tj kq
      have hv:=Zy c hc o (by rw [he]; exact ho) v w1 hI.rel (fun k hk MQ=>hI.facts k (Tz k (by rw [<- he]; exact hk)) MQ) wc hI.last
      rw [he] at hv;have hT:∀ u w',E c (mask pre j (upd v j u)) w1 w' -> Tail pre tail E (c + 1) (upd v j u) w1 w':=by
       intro u w' h;show E c (mask pre (tail.getD c 0) (upd v j u)) w1 w';have e:tail.getD c 0=j:=by simp [hc,he]
       rw [e]; exact h
      rcases hv with ⟨Vj,hg⟩ | ⟨Bz,hD⟩
      . rw [if_pos Vj]
        refine ⟨fun _ _=>trivial,?_⟩;rw [show (rnd l).round=some l from rfl,Oper.semAt_some l _ _ (Pv j o ho)]
        rw [Ax];exact X0e (Q5r (fun u w' h=>Wj u w1 w' (c + 1) (Tj _) (fun h=>absurd kq h) (fun h=>absurd kq h) (fun _=>rfl) (hT u w' h)) hg)
      . rw [if_neg (by rw [Bz]; simp)]
        refine ⟨fun _ _=>trivial,?_⟩;exact Wj undef w1 wc (c + 1) (Tj _) (fun h=>absurd kq h) (fun h=>absurd kq h) (fun _=>rfl) (hT _ _ hD)
    . have Tk:∀ k ∈ pre j,D k (mask pre k v) w1:=fun k hk=>hI.facts k (Tz k hk) (Dx j Tq kq k hk)
      have hv:=Jz j o ho kq v w1 hI.rel Tk;cases hk:kind j with
      | plain =>
        rw [hk] at hv
        rcases hv with ⟨Vj,u,vx,hD⟩ | ⟨Bz,hD⟩
        . rw [if_pos Vj]
          refine ⟨fun _ _=>trivial,?_⟩;rw [show (rnd l).round=some l from rfl,Oper.semAt_some l _ _ (Pv j o ho)]
          rw [Ax,vx wc];exact Wj u w1 wc c (Tj _) (fun _=>hD) (fun _=>rfl) (fun h=>absurd h kq) (Sj kq u)
        . rw [if_neg (by rw [Bz]; simp)]
          refine ⟨fun _ _=>trivial,?_⟩;exact Wj undef w1 wc c (Tj _) (fun _=>hD) (fun _=>rfl) (fun h=>absurd h kq) (Sj kq undef)
      | world =>
        have Az:c=0:=by
         rcases Nat.eq_zero_or_pos c with h | h
         . exact h
         . have h0:0 < tail.length:=by have:=hI.count; omega
           have hx:=hI.before 0 h0 h;exact absurd (dj j Tq hk tail[0] (List.getElem_mem h0)) (Ux _ (Bj 0 h0) hx)
        subst Az;have S1:wc=w1:=hI.last;subst S1;rw [hk] at hv
        rcases hv with ⟨Vj,hg⟩ | ⟨Bz,hD⟩
        . rw [if_pos Vj]
          refine ⟨fun _ _=>trivial,?_⟩;rw [show (rnd l).round=some l from rfl,Oper.semAt_some l _ _ (Pv j o ho)]
          rw [Ax];exact X0e (Q5r (fun u w' h=>Wj u w' w' 0 h.1 (fun _=>h.2) (fun _=>rfl) (fun h=>absurd h kq) rfl) hg)
        . rw [if_neg (by rw [Bz]; simp)]
          refine ⟨fun _ _=>trivial,?_⟩;exact Wj undef wc wc 0 (Tj _) (fun _=>hD) (fun _=>rfl) (fun h=>absurd h kq) rfl
      | last=>exact absurd ((Nk j Tq).1 hk) kq
 refine main ops.size _ a0 _ (by simp) ?_ (fun j o _ hx=>?_) ⟨fun _=>undef,w.drew,0,?_,Tj _,fun k hx=>?_,Nat.zero_le _,fun i _ h=>absurd h (Nat.not_lt_zero _),fun i _ _=>?_,rfl,fun _ h=>(nomatch h),fun _ h=>(nomatch h)⟩
 . exact Nat.le_trans (List.countP_le_length) (by simp)
 . have:=Q3r ops.size j
   rw [this] at hx; cases hx
 . refine (X3b (by rw [Q3g]) fun t=>?_)
   have:∀ (l:List Oper) (i:Nat) (a:Act),act (fun k=>(Array.replicate ops.size false).getD k false) (fun _=>undef) l i a=a:=by
    intro l; induction l with
    | nil=>intro i a; rfl
    | cons o l ih=>intro i a; rw [act,ih,Q3r]; rfl
   rw [this]
 . have:=Q3r ops.size k
   rw [this] at hx; cases hx
 . exact Q3r ops.size _
end
def Y1l (l:List Oper):Bool:=l.all fun o=>match o.op with | .defer _=>false | _=>true
theorem Z1j {l:List Oper} (h:Y1l l=true):∀ (j:Nat) (o:Oper),l.toArray[j]?=some o -> ∀ c,o.op ≠ .defer c:=by
 intro j o ho c hc;have hm:o ∈ l:=List.mem_of_getElem? (by simpa using ho)
 have:=List.all_eq_true.1 h o hm;simp [hc] at this
section
variable {P:Program} {id:Nat} {Q:Exit -> Act -> World -> Prop} {a0:Act} {w:World} {ops:List Oper}
theorem J1k {l n:Nat} (kl:List Kind) (jl:List Nat) (pl:List (List Nat)) (tail:List Nat) (Dl:List Spec) (El:List ((Nat -> Value) -> World -> World -> Prop))
    (hm:P.follows .mixedOrders=true) (Pv:Y1l ops=true) (Zj:jl=List.range' 0 ops.length) (Ej:okL ops pl kl tail El.length=true)
    (Jz:X8n P ops.toArray (lookup pl []) tail w.drew (fun k=>(lookup Dl .none k).D) El (fun _ w1 w=>w=w1) ops kl jl (fun _=>a0))
    (Xj:∀ v w1,Ext w.drew w1 -> All (lookup pl []) (fun k=>(lookup Dl .none k).D) v w1 tail jl (∀ w',endOf (lookup pl []) v w1 w' tail El -> Q .normal (acts v ops jl a0) w')) :
    (Code.region id ops.toArray true).wpIn (rnd l) n P Q a0 w:=by
 subst Zj;simp only [Y6p] at Xj;simp only [okL,Bool.and_eq_true,List.all_eq_true,List.mem_range,beq_iff_eq,Bool.or_eq_true,Bool.not_eq_true',List.contains_eq_mem,decide_eq_true_eq,decide_eq_false_iff_not] at Ej;obtain ⟨⟨⟨⟨⟨⟨Ej,Fq⟩,Bj⟩,hn⟩,uj⟩,Dx⟩,dj⟩:=Ej;have tq:∀ j,j ∈ tail ↔ j < ops.length /\ isLast (lookup kl .plain j)=true:=by intro j; rw [Bj,List.mem_filter,List.mem_range]
 have hk:∀ j,isLast (lookup kl .plain j)=true ↔ lookup kl .plain j=.last:=by intro j; cases lookup kl .plain j <;> simp [isLast]
 have kg:lasts kl 0=tail:=by
  rw [X8i,Bj,Fq,List.range_eq_range'];rfl
 have OZ:∀ n,n < (lasts kl 0).length -> El[n]?=some ((fun c=>(El[c]?).getD fun _ _ _=>True) (0 + n)):=by
  intro n r7;rw [kg,<- hn] at r7;simp [r7]
 have Ug:∀ v w1 w',Tail (lookup pl []) tail (fun c=>(El[c]?).getD fun _ _ _=>True) tail.length v w1 w' -> endOf (lookup pl []) v w1 w' tail El:=by
  intro v w1 w' h;have gen:∀ (tl:List Nat) (el:List ((Nat -> Value) -> World -> World -> Prop)),el.length=tl.length -> (tl=[] -> w'=w1) -> (∀ (hne:tl ≠ []),((el[tl.length - 1]?).getD fun _ _ _=>True) (mask (lookup pl []) (tl.getD (tl.length - 1) 0) v) w1 w') -> endOf (lookup pl []) v w1 w' tl el:=by
   intro tl
   induction tl with
   | nil=>intro el _ h0 _; cases el <;> exact h0 rfl
   | cons j tl ih =>
     intro el hl _ h1;cases el with
     | nil=>simp at hl
     | cons E el =>
       cases tl with
       | nil=>cases el with
         | nil=>simpa [endOf] using h1 (by simp)
         | cons _ _=>simp at hl
       | cons j' tl=>cases el with
         | nil=>simp at hl
         | cons E' el =>
           show endOf _ v w1 w' (j' :: tl) (E' :: el);exact ih _ (by simpa using hl) (fun h=>by simp at h) (fun _=>by simpa using h1 (by simp))
  refine gen tail El hn.symm.symm (fun h0=>?_) (fun hne=>?_)
  . rw [h0] at h; exact h
  . obtain ⟨m,hm⟩:∃ m,tail.length=m + 1:=⟨tail.length - 1,by have:=List.length_pos_iff.2 hne; omega⟩
    rw [hm] at h;rw [hm,Nat.add_sub_cancel];exact h
 refine X7s tail (lookup kl .plain) (Rel:=Ext) (D:=fun k=>(lookup Dl .none k).D) (E:=fun c=>(El[c]?).getD fun _ _ _=>True) hm (Z1j Pv) (J8p Ej)
  (fun i hi=>by simpa using ((tq _).1 (List.getElem_mem hi)).1) (fun i k hi hk hik=>by have:=uj k hk i hik; simpa [hi,hk] using this)
  (fun j Zj yw k hk'=>?_) (fun j Zj=>?_) (fun j Zj hjw s hs=>?_)
  Ext.refl (fun _ _ _=>Ext.trans) (fun k _ v w w' hx hd=>(lookup Dl .none k).mono v w w' hx hd) (fun j o ho yw v w1 hx hf=>?_) (fun c hc o ho v w1 hx hf=>?_) (fun v w1 w' hx hf hE=>?_)
 . rcases Dx j (by simpa using Zj) with h | h
   . exact absurd ((tq j).2 ⟨by simpa using Zj,h⟩) yw
   . exact h k hk'
 . rw [tq,hk]; simp at Zj; simp [Zj]
 . rcases dj j (by simpa using Zj) with h | h
   . rw [hjw] at h; simp [X8u] at h
   . exact h s hs
 . have Zj:j < ops.length:=by simpa using (Array.getElem?_eq_some_iff.1 ho).1
   have:=Z4k ops kl El _ 0 _ Fq Jz j o (by simpa using ho) (fun h=>yw ((tq j).2 ⟨Zj,(hk j).2 h⟩)) v w1 hx (by simpa using hf)
   rw [Nat.zero_add] at this;have e:=Q5o v ops 0 j a0;rw [Nat.zero_add] at e
   simpa [e] using this
 . have:=X0a (fun c=>(El[c]?).getD fun _ _ _=>True) ops kl El 0 _ 0 Fq (by rw [kg]; rfl) OZ Jz c (by rw [kg]; exact hc) tail[c] o (by simp [hc]) (by simpa using ho) v w1 hx (by simpa using hf)
   rw [Nat.zero_add,Nat.zero_add] at this;have e:=Q5o v ops 0 tail[c] a0;rw [Nat.zero_add] at e
   simpa [e] using this
 . exact (Xj v w1 hx).out (fun k hk Cx=>hf k (by simpa using hk) Cx) w' (Ug v w1 w' hE)
theorem J3h {l n:Nat} (kl:List Kind) (jl:List Nat) (pl:List (List Nat)) (Dl:List Spec)
    (hm:P.follows .mixedOrders=true) (Pv:Y1l ops=true) (Zj:jl=List.range' 0 ops.length) (Ej:okL ops pl kl [] 0=true)
    (Jz:X8n P ops.toArray (lookup pl []) [] w.drew (fun k=>(lookup Dl .none k).D) [] (fun _ w1 w=>w=w1) ops kl jl (fun _=>a0))
    (Xj:∀ v w1,Ext w.drew w1 -> All (lookup pl []) (fun k=>(lookup Dl .none k).D) v w1 [] jl (Q .normal (acts v ops jl a0) w1)) :
    (Code.region id ops.toArray true).wpIn (rnd l) n P Q a0 w :=
 J1k kl jl pl [] Dl [] hm Pv Zj Ej Jz (fun v w1 hx=>by
  have:=Xj v w1 hx;have gen:∀ (jl:List Nat) (G G':Prop),(G -> G') -> All (lookup pl []) (fun k=>(lookup Dl .none k).D) v w1 [] jl G -> All (lookup pl []) (fun k=>(lookup Dl .none k).D) v w1 [] jl G':=by
   intro jl
   induction jl with
   | nil=>intro G G' h hG; exact h hG
   | cons j jl ih =>
     intro G G' h hG;simp only [All,List.contains_nil,Bool.false_eq_true,if_false] at hG ⊢;exact fun hd=>ih G G' h (hG hd)
  exact gen _ _ _ (fun h w' (hE:w'=w1)=>hE ▸ h) this)
end
end Go.Flow
namespace Go.Flow
open Go.RowKit Go.Tw
def Z3v (P:Program) (ops:Array Oper) (pre:Nat -> List Nat) (tail:List Nat) (w0:World) (D:Nat -> (Nat -> Value) -> World -> Prop):List ((Nat -> Value) -> World -> World -> Prop) -> ((Nat -> Value) -> World -> World -> Prop) -> List Oper -> List Kind -> List Nat -> ((Nat -> Value) -> Act) -> Prop
 | El,T,o :: l,k :: kl,j :: jl,b =>
   match k,El with
   | .last,E :: El=>(∀ v w1,Ext w0 w1 -> Facts pre D v w1 ((pre j).filter fun i=>!tail.contains i) (∀ w,T v w1 w -> ∀ bb,bb=b v -> Guarded ops o bb (Due P pre D E .last o j bb v w1 w) (Pass pre D E .last j v w1 w))) /\
      Z3v P ops pre tail w0 D El (fun v w1 w=>E (mask pre j v) w1 w) l kl jl (fun v=>(b v).put o.dst (v j))
   | .last,[]=>False
   | k,El=>(∀ v w1,Ext w0 w1 -> Facts pre D v w1 (pre j) (∀ bb,bb=b v -> Guarded ops o bb (Due P pre D (fun _ _ _=>False) k o j bb v w1 w1) (Pass pre D (fun _ _ _=>False) k j v w1 w1))) /\ Z3v P ops pre tail w0 D El T l kl jl (fun v=>(b v).put o.dst (v j))
 | _,_,_,_,_,_=>True
theorem X5s {pre:Nat -> List Nat} {D:Nat -> (Nat -> Value) -> World -> Prop} {v:Nat -> Value} {w:World} {G G':Prop} (h:G -> G'):∀ {l:List Nat},Facts pre D v w l G -> Facts pre D v w l G'
 | [],hg=>h hg
 | _ :: _,hg=>fun hd=>X5s h (hg hd)
theorem X2x {P:Program} {ops:Array Oper} {pre:Nat -> List Nat} {tail:List Nat} {w0:World} {D:Nat -> (Nat -> Value) -> World -> Prop}:∀ (l:List Oper) (kl:List Kind) (jl:List Nat) (El:List ((Nat -> Value) -> World -> World -> Prop)) (T:(Nat -> Value) -> World -> World -> Prop) (b:(Nat -> Value) -> Act),
    Z3v P ops pre tail w0 D El T l kl jl b -> X8n P ops pre tail w0 D El T l kl jl b
 | [],_,_,_,_,_,_=>by simp [X8n]
 | _ :: _,[],_,_,_,_,_=>by simp [X8n]
 | _ :: _,_ :: _,[],_,_,_,_=>by simp [X8n]
 | o :: l,.last :: kl,j :: jl,E :: El,T,b,h=>⟨h.1,X2x l kl jl El _ _ h.2⟩
 | o :: l,.last :: kl,j :: jl,[],T,b,h=>h
 | o :: l,.plain :: kl,j :: jl,El,T,b,h=>⟨fun v w1 hx=>X5s (fun hg=>hg _ rfl) (h.1 v w1 hx),X2x l kl jl El _ _ h.2⟩
 | o :: l,.world :: kl,j :: jl,El,T,b,h=>⟨fun v w1 hx=>X5s (fun hg=>hg _ rfl) (h.1 v w1 hx),X2x l kl jl El _ _ h.2⟩
section
variable {P:Program} {ops:List Oper} {id:Nat} {Q:Exit -> Act -> World -> Prop} {a0:Act} {w:World}
theorem Q4h (kl:List Kind) (jl:List Nat) (pl:List (List Nat)) (tail:List Nat) (Dl:List Spec) (El:List ((Nat -> Value) -> World -> World -> Prop))
    (hm:P.follows .mixedOrders=true) (Zj:jl=List.range' 0 ops.length) (Ej:okL ops pl kl tail El.length=true)
    (Jz:Z3v P ops.toArray (lookup pl []) tail w.drew (fun k=>(lookup Dl .none k).D) El (fun _ w1 w=>w=w1) ops kl jl (fun _=>a0))
    (Xj:∀ v w1,Ext w.drew w1 -> All (lookup pl []) (fun k=>(lookup Dl .none k).D) v w1 tail jl (∀ w',endOf (lookup pl []) v w1 w' tail El -> Q .normal (acts v ops jl a0) w')) :
    (Code.region id ops.toArray true).wp P Q a0 w:=region kl jl pl tail Dl El hm Zj Ej (X2x _ _ _ _ _ _ Jz) Xj
theorem Q1h (kl:List Kind) (jl:List Nat) (pl:List (List Nat)) (Dl:List Spec)
    (hm:P.follows .mixedOrders=true) (Zj:jl=List.range' 0 ops.length) (Ej:okL ops pl kl [] 0=true)
    (Jz:Z3v P ops.toArray (lookup pl []) [] w.drew (fun k=>(lookup Dl .none k).D) [] (fun _ w1 w=>w=w1) ops kl jl (fun _=>a0))
    (Xj:∀ v w1,Ext w.drew w1 -> All (lookup pl []) (fun k=>(lookup Dl .none k).D) v w1 [] jl (Q .normal (acts v ops jl a0) w1)) :
    (Code.region id ops.toArray true).wp P Q a0 w:=J6x kl jl pl Dl hm Zj Ej (X2x _ _ _ _ _ _ Jz) Xj
theorem Z5i {l n:Nat} (kl:List Kind) (jl:List Nat) (pl:List (List Nat)) (tail:List Nat) (Dl:List Spec) (El:List ((Nat -> Value) -> World -> World -> Prop))
    (hm:P.follows .mixedOrders=true) (Pv:Y1l ops=true) (Zj:jl=List.range' 0 ops.length) (Ej:okL ops pl kl tail El.length=true)
    (Jz:Z3v P ops.toArray (lookup pl []) tail w.drew (fun k=>(lookup Dl .none k).D) El (fun _ w1 w=>w=w1) ops kl jl (fun _=>a0))
    (Xj:∀ v w1,Ext w.drew w1 -> All (lookup pl []) (fun k=>(lookup Dl .none k).D) v w1 tail jl (∀ w',endOf (lookup pl []) v w1 w' tail El -> Q .normal (acts v ops jl a0) w')) :
    (Code.region id ops.toArray true).wpIn (rnd l) n P Q a0 w:=J1k kl jl pl tail Dl El hm Pv Zj Ej (X2x _ _ _ _ _ _ Jz) Xj
theorem X3z {l n:Nat} (kl:List Kind) (jl:List Nat) (pl:List (List Nat)) (Dl:List Spec)
    (hm:P.follows .mixedOrders=true) (Pv:Y1l ops=true) (Zj:jl=List.range' 0 ops.length) (Ej:okL ops pl kl [] 0=true)
    (Jz:Z3v P ops.toArray (lookup pl []) [] w.drew (fun k=>(lookup Dl .none k).D) [] (fun _ w1 w=>w=w1) ops kl jl (fun _=>a0))
    (Xj:∀ v w1,Ext w.drew w1 -> All (lookup pl []) (fun k=>(lookup Dl .none k).D) v w1 [] jl (Q .normal (acts v ops jl a0) w1)) :
    (Code.region id ops.toArray true).wpIn (rnd l) n P Q a0 w:=J3h kl jl pl Dl hm Pv Zj Ej (X2x _ _ _ _ _ _ Jz) Xj
end
end Go.Flow
namespace Go.Flow
open Go.RowKit Go.Tw
theorem Y7l {ops:Array Oper} {b:Act} {o:Oper} {j:Nat} {want x:Bool} {d:Tmp} (hg:o.guard=some (j,want)) (hd:(ops[j]?).bind (·.dst)=some d) (pq:d < b.tmps.size) (hv:b.eval (.tmp d)=.bool x):Region.wanted o (yielded ops b.tmps)=(x == want):=by
 have h2:b.tmps[d]?=some (.bool x):=by
  have:b.tmps.getD d undef=.bool x:=hv;rw [Array.getD_eq_getD_getElem?,Array.getElem?_eq_getElem pq] at this;rw [Array.getElem?_eq_getElem pq];exact congrArg some this
 unfold Region.wanted;rw [hg];show (yielded ops b.tmps j == some want)=_;have:yielded ops b.tmps j=some x:=by
  unfold yielded;rw [hd];show (match b.tmps[d]? with | some (.bool b)=>some b | _=>none)=_
  rw [h2]
 rw [this];cases x <;> cases want <;> rfl
theorem Q0j {ops:Array Oper} {b:Act} {o:Oper} {j:Nat} {want:Bool} {d:Tmp} {T F:Prop} (hg:o.guard=some (j,want)) (hd:(ops[j]?).bind (·.dst)=some d) (pq:d < b.tmps.size) (hv:b.eval (.tmp d)=.bool want) (h:T):Guarded ops o b T F:=by
 have:=Y7l hg hd pq hv;unfold Guarded;rw [hg];exact .inl ⟨by rw [this]; cases want <;> rfl,h⟩
theorem Q1l {ops:Array Oper} {b:Act} {o:Oper} {j:Nat} {want:Bool} {d:Tmp} {T F:Prop} (hg:o.guard=some (j,want)) (hd:(ops[j]?).bind (·.dst)=some d) (pq:d < b.tmps.size) (hv:b.eval (.tmp d)=.bool (!want)) (h:F):Guarded ops o b T F:=by
 have:=Y7l hg hd pq hv;unfold Guarded;rw [hg];exact .inr ⟨by rw [this]; cases want <;> rfl,h⟩
end Go.Flow
namespace Go.Proofs
open Go.RowKit Go.Tw Go.Flow
attribute [local go_sem] Oper.semAt_some
theorem Q1v {w:World} {T:TypeId} {l:List Int} (hl:l.length <= 1000):Q0e (w.alloc (.cells (l.map (Value.int .i64)).toArray T)) (.slice (some ⟨w.heap.size,0,none⟩) l.length l.length) l:=by
 refine ⟨fun j=>.int .i64 (l.getD j 0),⟨some ⟨w.heap.size,0,none⟩,l.length,rfl,by omega,Nat.le_refl _,fun j hj=>⟨w.heap.size,0,rfl,?_⟩⟩,fun j hj=>?_⟩
 . have Sv:j < l.length:=by omega
   rw [Y5o]; simp [Sv]
 . simp [hj]
def Q9m (l:List Mem) (i m:Nat):Bool:=(List.range m).any fun k=>Q1t l k == Q1t l i
theorem Y7e (l:List Mem) (i m:Nat):Q9m l i (m + 1)=(Q9m l i m || Q1t l m == Q1t l i):=by
 unfold Q9m;rw [List.range_succ,List.any_append]; simp
theorem Z0e {l:List Mem} {i m:Nat} (hm:m < i) (h:(Q1t l m == Q1t l i)=true):Q4i l i=true:=by
 unfold Q4i;rw [List.any_eq_true];exact ⟨m,List.mem_range.2 hm,h⟩
theorem X9x {s:Q0b} {i:Nat} (h:nameB (Q1t s.members i)=false):s.Q3y i=8:=if_pos h
theorem X6b {s:Q0b} {i:Nat} (h:nameB (Q1t s.members i)=true) (h2:Q4i s.members i=true):s.Q3y i=9:=(if_neg (by rw [h]; simp)).trans (if_pos h2)
theorem X3k {s:Q0b} {i:Nat} (h:nameB (Q1t s.members i)=true) (h2:Q4i s.members i=false) (h3:Q0f (Q0o s.members i) 1 1000 ≠ 0):s.Q3y i=3:=(if_neg (by rw [h]; simp)).trans ((if_neg (by rw [h2]; simp)).trans (if_pos h3))
theorem X6a {s:Q0b} {i:Nat} (h:nameB (Q1t s.members i)=true) (h2:Q4i s.members i=false) (h3:Q0f (Q0o s.members i) 1 1000=0) (h4:¬ ((Q0c s.members i).length=s.ships.length /\ (Q0z s.members i).length=s.ships.length /\ (Q1g s.members i).length=s.ships.length)):s.Q3y i=2 :=
 (if_neg (by rw [h]; simp)).trans ((if_neg (by rw [h2]; simp)).trans ((if_neg (fun hn=>hn h3)).trans (if_pos h4)))
theorem X9h {s:Q0b} {i:Nat} (h:nameB (Q1t s.members i)=true) (h2:Q4i s.members i=false) (h3:Q0f (Q0o s.members i) 1 1000=0) (h4:(Q0c s.members i).length=s.ships.length /\ (Q0z s.members i).length=s.ships.length /\ (Q1g s.members i).length=s.ships.length):s.Q3y i=Q0h [Q0y (Q0c s.members i) 9,Q0y (Q0z s.members i) 1024,Q0y (Q1g s.members i) 1024] :=
 (if_neg (by rw [h]; simp)).trans ((if_neg (by rw [h2]; simp)).trans ((if_neg (fun hn=>hn h3)).trans (if_neg (fun hn=>hn h4))))
theorem Q7l {x a b:Int} (h:Q0f x a b ≠ 0):Q0f x a b=3:=by unfold Q0f at h ⊢; split at h <;> simp_all
theorem X7v (w:World) (v:Value) (s:Q0b) (i:Nat) (hv:Q0g w v s) (hi:i < s.members.length) :
    Calls Tryz.prog 89 #[v,.int .i64 (i:Int)] w fun e w'=>e=.returned (.int .i64 (s.Q3y i)) /\ Ext w w':=by
 obtain ⟨a,b,rfl,h2⟩:=hv;obtain ⟨A,Uq,rfl,Ov,-,-⟩:=h2.ships.opened;obtain ⟨B,Wq,rfl,Nv,-,hc⟩:=h2.members.opened;obtain ⟨bm,off,x,y,z,rfl,Wv,e0,e1,e2,e3,e4,hx,hy,hz,Aj⟩:=hc i hi;obtain ⟨X,Rq,rfl,yW,-,-⟩:=hx.opened;obtain ⟨Y,Jq,rfl,xW,-,-⟩:=hy.opened;obtain ⟨Z,Bq,rfl,vW,-,-⟩:=hz.opened;have Y7:Hid (∀ k,k < s.members.length -> w.cell? ⟨bm,off + k * 5,none⟩=some (.string (Q1t s.members k))):=hid (fun k hk=>by
  obtain ⟨b',off',_,_,_,hA,_,h0,_⟩:=hc k hk;cases hA;exact h0)
 have J1:(i:Int) < s.members.length:=by omega
 have W7:=hid Aj;have D4:=hid hx;have Pe:=hid hy;have Oe:=hid hz;clear hc Aj h2 hx hy hz;have Me:=hid (X9x (s:=s) (i:=i));have Le:=hid (X6b (s:=s) (i:=i));have b8:=hid (X3k (s:=s) (i:=i));have a8:=hid (X6a (s:=s) (i:=i));have Sg:=hid (X9h (s:=s) (i:=i));have NZ:Hid (∀ m,m < i -> (Q1t s.members m == Q1t s.members i)=true -> Q4i s.members i=true):=hid (fun m hm h=>Z0e hm h);have Gj:Hid (∀ m,Q9m s.members i (m + 1)=(Q9m s.members i m || Q1t s.members m == Q1t s.members i)):=hid (fun m=>Y7e _ _ m)
 have bi:Hid (Q9m s.members i i=Q4i s.members i):=hid rfl;obtain ⟨nm,vj⟩:∃ x,Q1t s.members i=x:=⟨_,rfl⟩;obtain ⟨wt,Vj⟩:∃ x,Q0o s.members i=x:=⟨_,rfl⟩;obtain ⟨lc,mj⟩:∃ x,Q0c s.members i=x:=⟨_,rfl⟩;obtain ⟨lo,Lx⟩:∃ x,Q0z s.members i=x:=⟨_,rfl⟩;obtain ⟨li,yx⟩:∃ x,Q1g s.members i=x:=⟨_,rfl⟩;have TG:=hid (Y7.out i hi);rw [vj] at e0 W7 Me Le b8 a8 Sg NZ Gj TG;rw [Vj] at e1 b8 a8 Sg;rw [mj] at e2 yW D4 a8 Sg;rw [Lx] at e3 xW Pe a8 Sg;rw [yx] at e4 vW Oe a8 Sg;clear vj Vj mj Lx yx;go_enter Tryz.func89,Tryz.ntmps89;go_wp2_with fail;change Calls _ _ _ ((w.alloc (.cells #[.int .i64 s.limit,.slice A s.ships.length Uq,.slice (some ⟨bm,off,none⟩) s.members.length Wq] 25)).alloc (.cells #[.string nm,.int .i64 wt,.slice X lc.length Rq,.slice Y lo.length Jq,.slice Z li.length Bq] 68)) _;obtain ⟨W,Nq,k0,k1,Sq,eW⟩:=Q3p w 25 #[.int .i64 s.limit,.slice A s.ships.length Uq,.slice (some ⟨bm,off,none⟩) s.members.length Wq] 68 #[.string nm,.int .i64 wt,.slice X lc.length Rq,.slice Y lo.length Jq,.slice Z li.length Bq];rw [Nq];clear Nq;have K0:=hid k0;have K1:=hid k1;clear k0 k1 e0 e1 e2 e3 e4;refine (Z6x _ _ W7.out).mono ?_;rintro e w1 ⟨rfl,rfl⟩;cases hnb:nameB nm with
 | false =>
   have HR:=hid (Me.out hnb);clear hnb;go_wp2;go_ret;exact ⟨Q1c HR.out.symm,Sq.out⟩
 | true =>
   have G3:=hid hnb;clear hnb;have k0:=K0.out;have c0_2:=k0.cell 2;have c1_0:=K1.out.cell 0;simp only [Go.Tw.gA,Go.Tw.gB,Go.Tw.gC] at c0_2 c1_0;clear k0;go_wp2_with fail
   go_loopw [6] (fun j wr=>∃ m:Nat,m <= i /\ j=.int .i64 m /\ Q9m s.members i m=false /\ Ext W wr) (fun j _=>i - (intOf j).toNat)
   case atStart=>exact ⟨0,Nat.zero_le _,rfl,rfl,Ext.refl _⟩
   case round =>
    obtain ⟨m,hm,rfl,FQ,Dq⟩:=hrel;have MZ:=hid FQ;have rq:=hid Dq;replace c0_2:=Dq.cell c0_2;replace c1_0:=Dq.cell c1_0;clear FQ
    by_cases a6:m < i
    . have F1:=(Sq.out.trans Dq).cell (Y7.out m (by omega))
      have uw:=NZ.out m a6;have ky:=Gj.out m;obtain ⟨x,hx⟩:∃ x,Q1t s.members m=x:=⟨_,rfl⟩;rw [hx] at F1 uw ky;obtain ⟨q,hq⟩:∃ q,(x.toList == nm.toList)=q:=⟨_,rfl⟩;have HQ:Hid ((x == nm)=q):=hid (by rw [Go.beq_toListBytes]; exact hq)
      rw [HQ.out] at uw ky;have ai:=hid uw;have Zl:=hid ky;have SG:(m:Int) < (s.members.length:Int):=by omega
      have RG:(m:Int) < (i:Int):=by omega
      clear hx uw ky Dq;cases q with
      | true =>
        go_light
        go_wp2
        go_quiet (fail)
        all_goals go_wp2
        go_ret;exact ⟨Q1c (Le.out G3.out (ai.out (by trivial))).symm,Sq.out.trans (rq.out.drewN _)⟩
      | false =>
        go_light
        go_wp2
        go_quiet (fail)
        all_goals go_wp2
        go_roundw
        case rel=>exact ⟨m + 1,by omega,by go_num,by rw [Zl.out,MZ.out]; rfl,rq.out.drewN _⟩
        case measure=>simp [intOf]; omega
    . have aq:m=i:=by omega
      subst aq;have LZ:Hid (Q4i s.members m=false):=hid (MZ.out);have RG:¬ (m:Int) < (m:Int):=by omega
      have c0_1:=Dq.cell (K0.out.cell 1);have k1:=K1.out.ext Dq;have c1_1:=k1.cell 1;have c1_2:=k1.cell 2;have c1_3:=k1.cell 3;have c1_4:=k1.cell 4;simp only [Go.Tw.gA,Go.Tw.gB,Go.Tw.gC] at c0_1 c1_1 c1_2 c1_3 c1_4;have aj:=hid (Sq.out.trans Dq);have C4:=hid k1;clear k1 Dq a6
      by_cases hw:Q0f wt 1 1000=0
      . have uW:(Q0f wt 1 1000 != 0)=false:=by simp [hw]
        have tW:=hid hw;clear hw
        by_cases h1:lc.length=s.ships.length
        . have QG:((lc.length:Int) != (s.ships.length:Int))=false:=by rw [h1]; simp
          by_cases h2:lo.length=s.ships.length
          . have Yl:((lo.length:Int) != (s.ships.length:Int))=false:=by rw [h2]; simp
            by_cases h3:li.length=s.ships.length
            . have PG:((li.length:Int) != (s.ships.length:Int))=false:=by rw [h3]; simp
              have Qv:=Sg.out G3.out LZ.out tW.out ⟨h1,h2,h3⟩;obtain ⟨E,hE⟩:∃ E,Q0h [Q0y lc 9,Q0y lo 1024,Q0y li 1024]=E:=⟨_,rfl⟩;rw [hE] at Qv;have HE:Hid (∀ (w':World) (u:Value),Q0e w' u [Q0y lc 9,Q0y lo 1024,Q0y li 1024] -> Calls Tryz.prog 22 #[u] w' fun e w''=>e=.returned (.int .i64 E) /\ w'=w''):=hid (by intro w' u h; rw [<- hE]; exact X3x _ _ _ h)
              have Vv:=hid Qv;have Vq:=(Ext.refl wr).drew;clear h1 h2 h3 hE Qv;go_wp2_with (go_at_call 87; refine (Q2q _ wt 1 1000).mono ?_; rintro e w' ⟨rfl,rfl⟩);refine Flow.Q1h [.p,.w,.w,.p,.w,.w,.p,.w,.w,.w,.w,.p] [0,1,2,3,4,5,6,7,8,9,10,11] [[],[0],[1],[],[3],[2,4],[],[6],[5,7],[2,5,8],[8,9],[0,1,2,3,4,5,6,7,8,9,10]]
               [.c 0 (.pointer (some ⟨w.heap.size + 1,2,none⟩)),.c 1 (.slice X lc.length Rq),.c 2 (.int .i64 (Q0y lc 9)),.c 3 (.pointer (some ⟨w.heap.size + 1,3,none⟩)),.c 4 (.slice Y lo.length Jq),.c 5 (.int .i64 (Q0y lo 1024)),.c 6 (.pointer (some ⟨w.heap.size + 1,4,none⟩)),.c 7 (.slice Z li.length Bq),.c 8 (.int .i64 (Q0y li 1024)),⟨fun v wz=>Q0e wz (v 9) [Q0y lc 9,Q0y lo 1024,Q0y li 1024],fun _ _ _ hx h=>h.ext hx⟩,.c 10 (.int .i64 E),.c 11 (.int .i64 E)]
               (by kernel_rfl) rfl (by kernel_rfl) ⟨?g0,?g1,?g2,?g3,?g4,?g5,?g6,?g7,?g8,?g9,?g10,?g11,trivial⟩ ?post
              case g0 | g3 | g6=>
               intro v w1 hx;intro bb hbb;subst hbb;refine ⟨_,fun w=>?_,rfl⟩;go_simp
              case g1 | g4 | g7=>
               intro v w1 hx;(repeat intro (zq:v _=_));intro bb hbb;subst hbb;have n0:w1.cell? ⟨w.heap.size + 1,2,none⟩=some (.slice X lc.length Rq):=(C4.out.ext (Vq.trans hx)).cell 2;have n1:w1.cell? ⟨w.heap.size + 1,3,none⟩=some (.slice Y lo.length Jq):=(C4.out.ext (Vq.trans hx)).cell 3;have n2:w1.cell? ⟨w.heap.size + 1,4,none⟩=some (.slice Z li.length Bq):=(C4.out.ext (Vq.trans hx)).cell 4;intro K hK;go_simp;exact hK _ _ (Ext.refl _) rfl
              case g2=>
               intro v w1 hx;(repeat intro (zq:v _=_));intro bb hbb;subst hbb;intro K hK;go_simp;refine Q0d (Q7x w1 _ lc 9 (D4.out.ext (aj.out.trans (Vq.trans hx)))) ?_;rintro e w2 ⟨rfl,Mq⟩;exact ⟨_,rfl,hK _ _ Mq rfl⟩
              case g5=>
               intro v w1 hx;(repeat intro (zq:v _=_));intro bb hbb;subst hbb;intro K hK;go_simp;refine Q0d (Q7x w1 _ lo 1024 (Pe.out.ext (aj.out.trans (Vq.trans hx)))) ?_;rintro e w2 ⟨rfl,Mq⟩;exact ⟨_,rfl,hK _ _ Mq rfl⟩
              case g8=>
               intro v w1 hx;(repeat intro (zq:v _=_));intro bb hbb;subst hbb;intro K hK;go_simp;refine Q0d (Q7x w1 _ li 1024 (Oe.out.ext (aj.out.trans (Vq.trans hx)))) ?_;rintro e w2 ⟨rfl,Mq⟩;exact ⟨_,rfl,hK _ _ Mq rfl⟩
              case g9=>
               intro v w1 hx;(repeat intro (zq:v _=_));intro bb hbb;subst hbb;intro K hK;go_simp;exact hK _ _ (Ext.box _ _) (Q1v (l:=[Q0y lc 9,Q0y lo 1024,Q0y li 1024]) (by simp))
              case g10=>
               intro v w1 hx (q8:v 8=_) (q9:Q0e w1 (v 9) [Q0y lc 9,Q0y lo 1024,Q0y li 1024]);intro bb hbb;subst hbb;intro K hK;go_simp;refine Q0d (HE.out _ _ q9) ?_;rintro e w2 ⟨rfl,rfl⟩;exact ⟨_,rfl,hK _ _ (Ext.refl _) rfl⟩
              case g11=>
               intro v w1 hx (q0:v 0=_) (q1:v 1=_) (q2:v 2=_) (q3:v 3=_) (q4:v 4=_) (q5:v 5=_) (q6:v 6=_) (q7:v 7=_) (q8:v 8=_) _ (q10:v 10=_);intro bb hbb;subst hbb;refine ⟨_,fun w=>?_,rfl⟩;go_simp
              case post =>
               intro v w1 hx;(iterate 9 intro (zq:v _=_));intro (q9:Q0e w1 (v 9) [Q0y lc 9,Q0y lo 1024,Q0y li 1024]);(iterate 2 intro (zq:v _=_));simp only [Flow.All,Flow.acts,Act.put];go_simp;have ij:=hid (aj.out.trans (Vq.trans hx));clear hx Vq q9;(repeat clear zq);go_wp2;go_ret;exact ⟨Q1c Vv.out.symm,ij.out⟩
            . have PG:((li.length:Int) != (s.ships.length:Int))=true:=by rw [bne_iff_ne]; omega
              have HR:=hid (a8.out G3.out LZ.out tW.out fun h=>h3 h.2.2);clear h1 h2 h3;go_wp2_with (go_at_call 87; refine (Q2q _ wt 1 1000).mono ?_; rintro e w' ⟨rfl,rfl⟩);go_ret;exact ⟨Q1c HR.out.symm,aj.out⟩
          . have Yl:((lo.length:Int) != (s.ships.length:Int))=true:=by rw [bne_iff_ne]; omega
            have HR:=hid (a8.out G3.out LZ.out tW.out fun h=>h2 h.2.1);clear h1 h2;go_wp2_with (go_at_call 87; refine (Q2q _ wt 1 1000).mono ?_; rintro e w' ⟨rfl,rfl⟩);go_ret;exact ⟨Q1c HR.out.symm,aj.out⟩
        . have QG:((lc.length:Int) != (s.ships.length:Int))=true:=by rw [bne_iff_ne]; omega
          have HR:=hid (a8.out G3.out LZ.out tW.out fun h=>h1 h.1);clear h1;go_wp2_with (go_at_call 87; refine (Q2q _ wt 1 1000).mono ?_; rintro e w' ⟨rfl,rfl⟩);go_ret;exact ⟨Q1c HR.out.symm,aj.out⟩
      . have uW:(Q0f wt 1 1000 != 0)=true:=by simp [hw]
        have HR:Hid (s.Q3y m=Q0f wt 1 1000):=hid (by rw [b8.out G3.out LZ.out hw,Q7l hw])
        clear hw;go_wp2_with (go_at_call 87; refine (Q2q _ wt 1 1000).mono ?_; rintro e w' ⟨rfl,rfl⟩);go_ret;exact ⟨Q1c HR.out.symm,aj.out⟩
end Go.Proofs
namespace Go.Proofs
open Go.RowKit Go.Tw Go.Flow Tryz
def Q3m (f:Nat -> Int) (n k:Nat):Int:=Q0h (((List.range n).map f).drop k)
theorem Q9o {f:Nat -> Int} {n k:Nat} (hk:k < n):Q3m f n k=if f k=0 then Q3m f n (k + 1) else f k:=by
 unfold Q3m;rw [List.drop_eq_getElem_cons (by simpa using hk),List.getElem_map,List.getElem_range]; rfl
theorem X0d {f:Nat -> Int} {n k:Nat} (hk:n <= k):Q3m f n k=0:=by
 unfold Q3m;rw [List.drop_eq_nil_of_le (by simpa using hk)]; rfl
theorem X0u:∀ {l:List Int} {m:Int},Q0y l m ≠ 0 -> Q0y l m=3
 | [],m,h=>absurd rfl h
 | x :: l,m,h=>by
   rw [X2s] at h ⊢
   split at h
   . rename_i h0; rw [if_pos h0]; exact X0u h
   . rename_i h0; rw [if_neg h0]; exact Q7l h0
theorem Z0q {s:Q0b} (h:Q0f s.limit 0 1024 ≠ 0):s.err=3:=if_pos h
theorem Z5x {s:Q0b} (h:Q0f s.limit 0 1024=0) (h1:s.ships.length=0):s.err=12:=(if_neg (fun hn=>hn h)).trans (if_pos h1)
theorem Z5d {s:Q0b} (h:Q0f s.limit 0 1024=0) (h1:¬ s.ships.length=0) (h2:6 < s.ships.length):s.err=5:=(if_neg (fun hn=>hn h)).trans ((if_neg h1).trans (if_pos h2))
theorem Y8l {s:Q0b} (h:Q0f s.limit 0 1024=0) (h1:¬ s.ships.length=0) (h2:¬ 6 < s.ships.length) (h3:Q0y s.ships 1000 ≠ 0):s.err=3:=(if_neg (fun hn=>hn h)).trans ((if_neg h1).trans ((if_neg h2).trans (if_pos h3)))
theorem X9o {s:Q0b} (h:Q0f s.limit 0 1024=0) (h1:¬ s.ships.length=0) (h2:¬ 6 < s.ships.length) (h3:Q0y s.ships 1000=0) :
    s.err=if s.members.length=0 then 12 else if 8 < s.members.length then 5 else Q3m s.Q3y s.members.length 0:=(if_neg (fun hn=>hn h)).trans ((if_neg h1).trans ((if_neg h2).trans (if_neg (fun hn=>hn h3))))
theorem Q6s (w:World) (v:Value) (s:Q0b) (hv:Q0g w v s) :
    Calls prog 16 #[v] w fun e w'=>e=.returned (.int .i64 s.err) /\ Ext w w':=by
 obtain ⟨a,b,rfl,h2⟩:=hv;obtain ⟨A,Uq,rfl,Ov,-,-⟩:=h2.ships.opened;obtain ⟨B,Wq,rfl,Nv,-,-⟩:=h2.members.opened;have H2:=hid h2;clear h2;have Ke:=hid (Z0q (s:=s));have Je:=hid (Z5x (s:=s));have Ge:=hid (Z5d (s:=s));have Fe:=hid (Y8l (s:=s));have Ee:=hid (X9o (s:=s));go_enter func16,ntmps16;go_wp2_with fail;change Calls _ _ _ (w.alloc (.cells #[.int .i64 s.limit,.slice A s.ships.length Uq,.slice B s.members.length Wq] 25)) _;obtain ⟨W,Nq,k0,Sq,eW⟩:=Q1y w 25 #[.int .i64 s.limit,.slice A s.ships.length Uq,.slice B s.members.length Wq];rw [Nq];clear Nq;have K0:=hid k0;have c0_0:=k0.cell 0;have c0_1:=k0.cell 1;have c0_2:=k0.cell 2;simp only [Go.Tw.gA,Go.Tw.gB,Go.Tw.gC] at c0_0 c0_1 c0_2;clear k0;refine (Q2q _ s.limit 0 1024).mono ?_;rintro e w' ⟨rfl,rfl⟩
 by_cases h0:Q0f s.limit 0 1024 ≠ 0
 . have Xl:(Q0f s.limit 0 1024 != 0)=true:=by simp [h0]
   have HR:Hid (s.err=Q0f s.limit 0 1024):=hid (by rw [Ke.out h0,Q7l h0])
   clear h0;go_wp2;go_ret;exact ⟨Q1c HR.out.symm,Sq.out⟩
 replace h0:=Decidable.not_not.1 h0;have Xl:(Q0f s.limit 0 1024 != 0)=false:=by simp [h0]
 have r4:=hid h0;clear h0
 by_cases h1:s.ships.length=0
 . have QG:((s.ships.length:Int) == 0)=true:=by rw [h1]; rfl
   have HR:=hid (Je.out r4.out h1);clear h1;go_wp2;go_ret;exact ⟨Q1c HR.out.symm,Sq.out⟩
 have QG:((s.ships.length:Int) == 0)=false:=by rw [beq_eq_false_iff_ne]; omega
 have JZ:=hid h1;clear h1
 by_cases h6:6 < s.ships.length
 . have Wl:(6:Int) < s.ships.length:=by omega
   have HR:=hid (Ge.out r4.out JZ.out h6);clear h6;go_wp2;go_ret;exact ⟨Q1c HR.out.symm,Sq.out⟩
 have Wl:¬ (6:Int) < s.ships.length:=by omega
 have De:=hid h6;clear h6;go_wp2_with fail;refine (Q7x _ _ s.ships 1000 (H2.out.ships.ext Sq.out)).mono ?_;rintro e w1 ⟨rfl,Yj⟩;replace c0_0:=Yj.cell c0_0;replace c0_1:=Yj.cell c0_1;replace c0_2:=Yj.cell c0_2;have iz:=hid (Sq.out.trans Yj);clear Yj
 by_cases h3:Q0y s.ships 1000 ≠ 0
 . have PG:(Q0y s.ships 1000 != 0)=true:=by simp [h3]
   have HR:Hid (s.err=Q0y s.ships 1000):=hid (by rw [Fe.out r4.out JZ.out De.out h3,X0u h3])
   clear h3;go_wp2;go_ret;exact ⟨Q1c HR.out.symm,iz.out⟩
 replace h3:=Decidable.not_not.1 h3;have PG:(Q0y s.ships 1000 != 0)=false:=by simp [h3]
 have ig:=hid (Ee.out r4.out JZ.out De.out h3);clear h3
 by_cases h4:s.members.length=0
 . have Vl:((s.members.length:Int) == 0)=true:=by rw [h4]; rfl
   have HR:Hid (s.err=12):=hid (by rw [ig.out,if_pos h4])
   clear h4;go_wp2;go_ret;exact ⟨Q1c HR.out.symm,iz.out⟩
 have Vl:((s.members.length:Int) == 0)=false:=by rw [beq_eq_false_iff_ne]; omega
 by_cases h8:8 < s.members.length
 . have Ul:(8:Int) < s.members.length:=by omega
   have HR:Hid (s.err=5):=hid (by rw [ig.out,if_neg h4,if_pos h8])
   clear h4 h8;go_wp2;go_ret;exact ⟨Q1c HR.out.symm,iz.out⟩
 have Ul:¬ (8:Int) < s.members.length:=by omega
 have HE:Hid (s.err=Q3m s.Q3y s.members.length 0):=hid (by rw [ig.out,if_neg h4,if_neg h8])
 clear h4 h8 ig Ke Je Ge Fe Ee;go_wp2_with fail
 go_loopw [5] (fun i wr=>∃ k:Nat,k <= s.members.length /\ i=.int .i64 k /\ Q3m s.Q3y s.members.length k=Q3m s.Q3y s.members.length 0 /\ Ext w1 wr) (fun i _=>s.members.length - (intOf i).toNat)
 case atStart=>exact ⟨0,Nat.zero_le _,rfl,rfl,Ext.refl _⟩
 case round =>
  obtain ⟨k,hk,rfl,hr,hx⟩:=hrel;have HR:=hid hr;have HX:=hid hx;replace c0_0:=hx.cell c0_0;replace c0_1:=hx.cell c0_1;replace c0_2:=hx.cell c0_2;clear hr hx
  by_cases Tq:k < s.members.length
  . have OG:(k:Int) < (s.members.length:Int):=by omega
    have qq:=hid (Q9o (f:=s.Q3y) Tq);have sW:=hid (X7v wr _ s k ⟨_,_,rfl,H2.out.ext (iz.out.trans HX.out)⟩ Tq)
    go_light
    go_wp2_with fail;refine sW.out.mono ?_;rintro e w2 ⟨rfl,Mq⟩;have Ox:=hid (HX.out.trans Mq);clear Mq c0_0 c0_1 c0_2
    by_cases he:s.Q3y k=0
    . have V7:(s.Q3y k != 0)=false:=by simp [he]
      have HZ:=hid he;clear he;go_wp2;go_roundw
      case rel=>exact ⟨k + 1,by omega,by go_num,by rw [<- HR.out,qq.out,if_pos HZ.out],Ox.out⟩
      case measure=>simp [intOf]; omega
    . have V7:(s.Q3y k != 0)=true:=by simp [he]
      have HZ:=hid he;clear he;go_wp2;go_ret;exact ⟨Q1c (by rw [HE.out,<- HR.out,qq.out,if_neg HZ.out]),iz.out.trans Ox.out⟩
  . have OG:¬ (k:Int) < (s.members.length:Int):=by omega
    go_wp2;go_ret;exact ⟨Q1c (by rw [HE.out,<- HR.out,X0d (by omega)]),iz.out.trans HX.out⟩
theorem Tryz.J3d:(prog.info? 29).map (fun i=>(i.zero,i.size,i.bytes))=some (some (.int .i64 0),1,8):=by kernel_rfl
theorem J0j (f:Int -> Int) (l:List Int) {k:Nat} (hk:k < l.length):(l.map f).take k ++ [f (ix l k)]=(l.map f).take (k + 1):=by
 rw [List.take_succ_eq_append_getElem (by simpa using hk),Q5i hk]
 simp
theorem Q8x (w:World) (v:Value) (l:List Int) (g:Nat) (f:Int -> Int) (hv:Q0e w v l) (lx:l.length <= 4096) (eg:∀ args w,(callFunc g args).run prog w=.ok (.enter g args) w)
    (hf:∀ W x,Calls prog g #[.int .i64 x] W fun e W'=>e=.returned (.int .i64 (f x)) /\ W=W') :
    Calls prog 120 #[v,.func (.func g) #[] #[]] w fun e w'=>∃ x,e=.returned x /\ Q0e w' x (l.map f) /\ Ext w w':=by
 obtain ⟨i0,hi,fq,mq,iq⟩:=info_parts J3d;obtain ⟨A,Qq,rfl,hl,Kq,hc⟩:=hv.opened;have HC:=hid hc;have HF:=hid hf;clear hv hc hf;go_enter func120,ntmps120;go_wp2
 go_loopw [5,10] (fun o i wr=>∃ (k:Nat),k <= l.length /\ i=.int .i64 k /\ Q0n wr w.heap.size 29 (.int .i64) o ((l.map f).take k) /\ Ext w wr) (fun _ i _=>l.length - (intOf i).toNat)
 case atStart=>exact ⟨0,Nat.zero_le _,rfl,Q0n.nil _ _ _ _,Ext.refl _⟩
 case round =>
  obtain ⟨k,hk,rfl,Yq,hx⟩:=hrel;have Fq:((l.map f).take k).length=k:=by rw [List.length_take,List.length_map]; omega
  by_cases Tq:k < l.length
  . obtain ⟨b,off,rfl,Xq⟩:=HC.out k Tq
    have tk:=hid (J0j f l Tq);obtain ⟨s,hs⟩:∃ s,ix l k=s:=⟨_,rfl⟩;have o7:=hid (HF.out wr s);rw [hs] at Xq tk;obtain ⟨y,hy⟩:∃ y,f s=y:=⟨_,rfl⟩;rw [hy] at o7 tk;replace Xq:=hx.cell Xq;have Mv:((l.map f).take k).length <= 4096:=by omega
    clear hs Fq hy;go_wp2_with (first | (refine o7.out.mono ?_; rintro e w9 ⟨rfl,rfl⟩) | (at_builtin; refine wpList_append_own _ rfl _ _ 191 rfl (w.heap.size) 29 i0 (.int .i64 0) 1 8 underlying191 hi fq mq iq rfl (by decide) _ _ _ rfl (World.ownsRow.alloc Yq _) ⟨wr.heap.size,0,none⟩ 1 1 [.int .i64 y] rfl rfl ?_ ?_ ?_ ?_ ?_ ?_; exact Q4d _ _ _; (focus (simp [Value.oneCell'])); (focus (unfold maxLen; omega)); (focus omega); (focus (have:=hx.size; simp at this ⊢; omega)); intro v' w1 Oq Pq _))
    have hx':=Q2d hx Yq (Nat.le_refl _) Pq;go_wp2;go_roundw
    case rel=>exact ⟨k + 1,by omega,by go_num,by rw [<- tk.out]; exact Q0n.snoc Oq,hx'⟩
    case measure=>simp [intOf]; omega
  . have HE:Hid ((l.map f).take k=l.map f):=hid (by rw [List.take_of_length_le (by rw [List.length_map]; omega)])
    rw [HE.out] at Yq;have Qz:=hid Yq;clear Yq Fq;go_wp2;go_ret;exact ⟨_,rfl,Qz.out.ints (by simp; omega),hx⟩
theorem Q9t (w:World) (v:Value) (l:List Int) (hv:Q0e w v l) (lx:l.length <= 4096) :
    Calls prog 120 #[v,.func (.func 118) #[] #[]] w fun e w'=>∃ x,e=.returned x /\ Q0e w' x (l.map fun x=>Q0f x 0 1024) /\ Ext w w' :=
 Q8x w v l _ _ hv lx (enters_of func118 (by kernel_rfl) rfl) (fun W x=>X0y W x)
theorem Y1g (w:World) (v:Value) (l:List Int) (hv:Q0e w v l) (lx:l.length <= 4096) :
    Calls prog 120 #[v,.func (.func 121) #[] #[]] w fun e w'=>∃ x,e=.returned x /\ Q0e w' x (l.map fun x=>Q0f x 0 1000) /\ Ext w w' :=
 Q8x w v l _ _ hv lx (enters_of func121 (by kernel_rfl) rfl) (fun W x=>Y2y W x)
theorem X0r (w:World) (v:Value) (l:List Int) (hv:Q0e w v l) (lx:l.length <= 4096) :
    Calls prog 120 #[v,.func (.func 126) #[] #[]] w fun e w'=>∃ x,e=.returned x /\ Q0e w' x (l.map fun x=>Q0f x 0 9) /\ Ext w w' :=
 Q8x w v l _ _ hv lx (enters_of func126 (by kernel_rfl) rfl) (fun W x=>Y2u W x)
theorem Z2o (W:World) (nm s:ByteArray) (c1 c2 c3 c4:Value) (B:Nat) (hB:W.cell? ⟨B,0,none⟩=some (.string s)) :
    Calls prog 123 #[.agg #[.string nm,c1,c2,c3,c4],.pointer (some ⟨B,0,none⟩)] W fun e W'=>e=.returned (.bool (nm == s)) /\ Ext W W':=by
 obtain ⟨q,hq⟩:∃ q,(nm.toList == s.toList)=q:=⟨_,rfl⟩;have HQ:Hid ((nm == s)=q):=hid (by rw [Go.beq_toListBytes]; exact hq)
 have hx:=Ext.box W (.cells #[.string nm,c1,c2,c3,c4] 69);have n7:=hx.cell hB;have k0:=Blk.made W 69 #[.string nm,c1,c2,c3,c4];have c0:=k0.cell 0;simp only [Go.Tw.gA,Go.Tw.gB] at c0;clear hB k0;go_enter func123,ntmps123;go_wp2;go_ret;exact ⟨Q0x HQ.out.symm,hx⟩
theorem X9f (w:World) (l:List Mem) (n:Nat) (A:Option Addr) (Qq B:Nat) (s:ByteArray) (hB:w.cell? ⟨B,0,none⟩=some (.string s)) (hn:n <= 17592186043904)
    (hc:∀ k,k < n -> ∃ b off c1 c2 c3 c4,A=some ⟨b,off,none⟩ /\ w.cell? ⟨b,off + k * 5,none⟩=some (.string (Q1t l k)) /\ w.cell? ⟨b,off + k * 5 + 1,none⟩=some c1 /\ w.cell? ⟨b,off + k * 5 + 2,none⟩=some c2 /\ w.cell? ⟨b,off + k * 5 + 3,none⟩=some c3 /\ w.cell? ⟨b,off + k * 5 + 4,none⟩=some c4) :
    Calls prog 172 #[.slice A n Qq,.func (.func 123) #[] #[.pointer (some ⟨B,0,none⟩)]] w fun e w'=>∃ r:Int,e=.returned (.int .i64 r) /\ decide (0 <= r)=((List.range n).any fun k=>Q1t l k == s) /\ Ext w w':=by
 have HC:=hid hc;obtain ⟨p,hp⟩:∃ p:Nat -> Bool,(fun k=>Q1t l k == s)=p:=⟨_,rfl⟩
 have HP:Hid (∀ k,(Q1t l k == s)=p k):=hid (fun k=>by rw [<- hp])
 rw [hp];clear hc hp;go_enter func172,ntmps172;go_wp2
 go_loopw [8] (fun i wr=>∃ k:Nat,k <= n /\ i=.int .i64 k /\ ((List.range n).drop k).any p=(List.range n).any p /\ Ext w wr) (fun i _=>n - (intOf i).toNat)
 case atStart=>exact ⟨0,Nat.zero_le _,rfl,rfl,Ext.refl _⟩
 case round =>
  obtain ⟨k,hk,rfl,hr,hx⟩:=hrel;have HR:=hid hr; clear hr
  by_cases Tq:k < n
  . obtain ⟨b,off,c1,c2,c3,c4,rfl,e0,e1,e2,e3,e4⟩:=HC.out k Tq
    replace e0:=hx.cell e0;replace e1:=hx.cell e1;replace e2:=hx.cell e2;replace e3:=hx.cell e3;replace e4:=hx.cell e4;have n7:=hx.cell hB;have qq:Hid ((List.range n).any p=(p k || ((List.range n).drop (k + 1)).any p)):=hid (by
     rw [<- HR.out,List.drop_eq_getElem_cons (by simpa using Tq),List.any_cons,List.getElem_range])
    have tz:=hid (HP.out k);obtain ⟨nm,vj⟩:∃ x,Q1t l k=x:=⟨_,rfl⟩;rw [vj] at tz e0;have Yz:=hid (Z2o wr nm s c1 c2 c3 c4 B n7);rw [tz.out] at Yz;obtain ⟨q,hq⟩:∃ q,p k=q:=⟨_,rfl⟩;rw [hq] at Yz qq;clear hq vj n7;cases q with
    | true =>
      go_wp2_with (refine Yz.out.mono ?_; rintro e w9 ⟨rfl,kx⟩);go_ret;exact ⟨k,rfl,by rw [qq.out]; simp,hx.trans kx⟩
    | false =>
      go_wp2_with (refine Yz.out.mono ?_; rintro e w9 ⟨rfl,kx⟩);go_roundw
      case rel=>exact ⟨k + 1,by omega,by go_num,by rw [qq.out,Bool.false_or],hx.trans kx⟩
      case measure=>simp [intOf]; omega
  . go_wp2
    go_ret;exact ⟨-1,rfl,by rw [<- HR.out,List.drop_eq_nil_of_le (by simp; omega)]; rfl,hx⟩
theorem Z7s (w:World) (l:List Mem) (n:Nat) (A:Option Addr) (Qq B:Nat) (s:ByteArray) (hB:w.cell? ⟨B,0,none⟩=some (.string s)) (hn:n <= 17592186043904)
    (hc:∀ k,k < n -> ∃ b off c1 c2 c3 c4,A=some ⟨b,off,none⟩ /\ w.cell? ⟨b,off + k * 5,none⟩=some (.string (Q1t l k)) /\ w.cell? ⟨b,off + k * 5 + 1,none⟩=some c1 /\ w.cell? ⟨b,off + k * 5 + 2,none⟩=some c2 /\ w.cell? ⟨b,off + k * 5 + 3,none⟩=some c3 /\ w.cell? ⟨b,off + k * 5 + 4,none⟩=some c4) :
    Calls prog 122 #[.slice A n Qq,.func (.func 123) #[] #[.pointer (some ⟨B,0,none⟩)]] w fun e w'=>e=.returned (.bool ((List.range n).any fun k=>Q1t l k == s)) /\ Ext w w':=by
 have HI:=hid (X9f w l n A Qq B s hB hn hc);obtain ⟨q,hq⟩:∃ q,((List.range n).any fun k=>Q1t l k == s)=q:=⟨_,rfl⟩
 rw [hq] at HI ⊢;clear hc hq hB;go_enter func122,ntmps122;go_wp2_with (go_at_call 172; refine HI.out.mono ?_; rintro e w' ⟨r,rfl,hr,hx⟩; have HR:=hid hr; clear hr);go_ret;exact ⟨Q0x HR.out,hx⟩
end Go.Proofs
namespace Go.Tw
variable {s:Q0b}
theorem J5s {i t u:Nat} (h:t < u):ix (hs s i u) t=ix (Q0c s.members i) t:=by
 unfold ix hs; simp [List.getD_eq_getElem?_getD,h]
theorem Z9s (hf:Fine s) {i u:Nat} (hi:i < s.members.length) (hu:u <= s.ships.length):(hs s i u).length=u:=by
 have:=(hf.shaped i hi).1;simp only [hs,List.length_take]; omega
theorem key_eq (hf:Fine s) {i j u v:Nat} (hi:i < s.members.length) (hj:j < s.members.length) (h:Q7g (hs s i u)=Q7g (hs s j v)):hs s i u=hs s j v :=
 Z4w (Q6e (hf.digits i hi) u) (Q6e (hf.digits j hj) v) h
theorem Y3x (hf:Fine s) {i j u v:Nat} (hi:i < s.members.length) (hj:j < s.members.length) (hu:u <= s.ships.length) (hv:v <= s.ships.length) (h:u ≠ v):Q7g (hs s i u) ≠ Q7g (hs s j v):=by
 intro e;have:=congrArg List.length (key_eq hf hi hj e);rw [Z9s hf hi hu,Z9s hf hj hv] at this;exact h this
theorem Y9n (hf:Fine s) {i j u v t:Nat} (hi:i < s.members.length) (hj:j < s.members.length) (hu:t < u) (hv:t < v) (h:ix (Q0c s.members i) t ≠ ix (Q0c s.members j) t):Q7g (hs s i u) ≠ Q7g (hs s j v):=by
 intro e;have:=congrArg (fun l=>ix l t) (key_eq hf hi hj e);simp only [J5s hu,J5s hv] at this;exact h this
def Q8l (s:Q0b) (t:Nat) (l:List Runner):Prop:=∀ r ∈ l,∀ q ∈ l,hs s r.member t=hs s q.member t
theorem X0o (hf:Fine s) {t c:Nat} {l:List Runner} (hk:Known s l) (ht:t < s.ships.length) (h:Q8l s t l):Q8l s (t + 1) (Q8p s t c l):=by
 intro r hr q hq;obtain ⟨Z9,zk⟩:=List.mem_filter.1 hr;obtain ⟨Y9,U7⟩:=List.mem_filter.1 hq;have e:=h r Z9 q Y9;simp only [beq_iff_eq] at zk U7;have l1:=(hf.shaped _ (hk r Z9)).1;have l2:=(hf.shaped _ (hk q Y9)).1;unfold hs at e ⊢;rw [List.take_add_one,List.take_add_one,e,List.getElem?_eq_getElem (by omega),List.getElem?_eq_getElem (by omega)]
 rw [Q5i (by omega)] at zk U7
 rw [zk,U7]
theorem Q4a {t:Nat} {c:Bool} {l:List Runner} (h:Known s l):Known s (moved s t c l):=by
 intro r hr;obtain ⟨q,hq,rfl⟩:=List.mem_map.1 hr;exact h q hq
theorem Q4n {t u:Nat} {c:Bool} {l:List Runner} (h:Q8l s u l):Q8l s u (moved s t c l):=by
 intro r hr q hq;obtain ⟨r',D1,rfl⟩:=List.mem_map.1 hr;obtain ⟨q',F3,rfl⟩:=List.mem_map.1 hq;exact h r' D1 q' F3
theorem Q8s {t c:Nat} {l:List Runner} (h:Known s l):Known s (Q8p s t c l):=fun r hr=>h r (List.mem_filter.1 hr).1
theorem X8s {f:List Int -> Bool} {k:Nat} {c:Bool}:∀ {l:List Runner},(∀ r ∈ l,f (hs s r.member (s.ships.length - k))=c) ->
    Z7z s f (k + 1) l=Z7z s f k (moved s (s.ships.length - (k + 1)) c l) /\
    Z2j s f (k + 1) l=(if c then Q6j s l else 0) + Z2j s f k (moved s (s.ships.length - (k + 1)) c l) /\
    Z2e s f (k + 1) l=(if c then Q6j s l * ix s.ships (s.ships.length - (k + 1)) else 0) + Z2e s f k (moved s (s.ships.length - (k + 1)) c l)
 | [],_=>by cases c <;> simp [Z7z,Z2j,Z2e,moved,Q6j]
 | r :: l,h=>by
   obtain ⟨h1,h2,h3⟩:=X8s (l:=l) fun r hr=>h r (List.mem_cons_of_mem _ hr)
   have e:=h r List.mem_cons_self;unfold Z7z at h1 ⊢; unfold Z2j at h2 ⊢; unfold Z2e at h3 ⊢;rw [Y6e] at h1 h2 h3 ⊢;simp only [List.map_cons,List.sum_cons,Q6j] at h1 h2 h3 ⊢;rw [h1,h2,h3];simp only [J9g,J8v,J7m,e,mv1];refine ⟨rfl,?_,?_⟩
   . cases c
     . simp
     . simp only [if_true]; rw [Int.mul_add]; omega
   . cases c
     . simp
     . simp only [if_true]; rw [Int.mul_add,Int.add_mul]; omega
def Sound (s:Q0b) (t k:Nat) (l:List Runner) (x:Plan):Prop :=
 Keys s x.closed t l /\ ∀ f,Agr s f x.closed t l -> Z7z s f k l=x.weight /\ Z2j s f k l=x.closings /\ Z2e s f k l=x.delay
def Covers (s:Q0b) (f:List Int -> Bool) (k:Nat) (l:List Runner) (x:Plan):Prop:=Z7z s f k l <= x.weight /\ x.closings <= Z2j s f k l /\ x.delay <= Z2e s f k l
instance lawB:LawfulBEq ByteArray where
 eq_of_beq {a b} h:=by
  by_cases e:a=b
  . exact e
  . rw [X3g e] at h; exact absurd h (by simp)
 rfl {a}:=str_eq rfl
theorem X6o (a b:List ByteArray) (k:ByteArray):(a ++ b).contains k=(a.contains k || b.contains k):=by simp
theorem Q8t {a:List ByteArray} {k:ByteArray} (h:∀ b ∈ a,b ≠ k):a.contains k=false:=by
 rw [<- Bool.not_eq_true,List.contains_iff_mem]; exact fun hk=>h k hk rfl
theorem Y8b (hf:Fine s) {k:Nat} (hk:k + 1 <= s.ships.length) {sub:List Runner -> List Plan}
    (ih:∀ l,Known s l -> Q8l s (s.ships.length - k) l -> ∀ x ∈ sub l,Sound s (s.ships.length - k) k l x) {l:List Runner} (hl:Known s l) (hn:l ≠ [])
    (sk:Q8l s (s.ships.length - k) l) {x:Plan} (hx:x ∈ Q4x s (s.ships.length - (k + 1)) sub l):Sound s (s.ships.length - (k + 1)) (k + 1) l x:=by
 have e1:s.ships.length - (k + 1) + 1=s.ships.length - k:=by omega
 rcases List.mem_append.1 (Y0k hx) with h | h
 . obtain ⟨h1,h2⟩:=ih _ (Q4a hl) (Q4n sk) x h
   refine ⟨fun b hb=>?_,fun f hA=>?_⟩
   . obtain ⟨r,hr,u,hu,Lv,e⟩:=h1 b hb
     obtain ⟨q,hq,rfl⟩:=List.mem_map.1 hr;exact ⟨q,hq,u,by omega,Lv,e⟩
   . have hc:∀ r ∈ l,f (hs s r.member (s.ships.length - k))=false:=by
      intro r hr;rw [hA r hr _ (by omega) (by omega)]
      refine Q8t fun b hb=>?_;obtain ⟨q,hq,u,hu,Lv,e⟩:=h1 b hb;rw [e];exact Y3x hf (Q4a hl q hq) (hl r hr) Lv (by omega) (by omega)
     obtain ⟨v1,v2,v3⟩:=X8s hc;obtain ⟨w1,w2,w3⟩:=h2 f fun r hr u hu Lv=>by
      obtain ⟨q,hq,rfl⟩:=List.mem_map.1 hr;exact hA q hq u (by omega) Lv
     rw [v1,v2,v3,w1,w2,w3];simp
 . obtain ⟨y,hy,rfl⟩:=List.mem_map.1 h
   obtain ⟨h1,h2⟩:=ih _ (Q4a hl) (Q4n sk) y hy;obtain ⟨r0,l0,rfl⟩:∃ r0 l0,l=r0 :: l0:=by cases l with | nil=>exact absurd rfl hn | cons a b=>exact ⟨a,b,rfl⟩
   have hh:Y9s s (s.ships.length - (k + 1)) (r0 :: l0)=Q7g (hs s r0.member (s.ships.length - k)):=by rw [Y9s,hs,e1]
   refine ⟨fun b hb=>?_,fun f hA=>?_⟩
   . rcases List.mem_append.1 (show b ∈ y.closed ++ [_] from hb) with hb | hb
     . obtain ⟨r,hr,u,hu,Lv,e⟩:=h1 b hb
       obtain ⟨q,hq,rfl⟩:=List.mem_map.1 hr;exact ⟨q,hq,u,by omega,Lv,e⟩
     . rw [List.mem_singleton] at hb
       exact ⟨r0,List.mem_cons_self,s.ships.length - k,by omega,by omega,hb.trans hh⟩
   . have Vx:∀ r ∈ r0 :: l0,∀ u,s.ships.length - (k + 1) < u -> u <= s.ships.length -> f (hs s r.member u)=(y.closed.contains (Q7g (hs s r.member u)) || [Y9s s (s.ships.length - (k + 1)) (r0 :: l0)].contains (Q7g (hs s r.member u))) :=
      fun r hr u hu Lv=>(hA r hr u hu Lv).trans (X6o _ _ _)
     have hc:∀ r ∈ r0 :: l0,f (hs s r.member (s.ships.length - k))=true:=by
      intro r hr;rw [Vx r hr _ (by omega) (by omega),hh,sk r hr r0 List.mem_cons_self]
      simp
     obtain ⟨v1,v2,v3⟩:=X8s hc;obtain ⟨w1,w2,w3⟩:=h2 f fun r hr u hu Lv=>by
      obtain ⟨q,hq,rfl⟩:=List.mem_map.1 hr;have:=Vx q hq u (by omega) Lv
      rw [hh,Q8t (a:=[_]) (fun b hb=>by rw [List.mem_singleton] at hb; rw [hb]; exact Y3x hf (hl r0 List.mem_cons_self) (hl q hq) (by omega) Lv (by omega)),Bool.or_false] at this
      exact this
     rw [v1,v2,v3,w1,w2,w3];simp only [if_true,Y3k];refine ⟨trivial,?_,?_⟩ <;> omega
theorem Y7c {k:Nat} {sub:List Runner -> List Plan} {f:List Int -> Bool}
    (ih:∀ l,Known s l -> Q8l s (s.ships.length - k) l -> ∃ x ∈ sub l,Covers s f k l x) {l:List Runner} (hl:Known s l) (hn:l ≠ [])
    (sk:Q8l s (s.ships.length - k) l):∃ x ∈ Q4x s (s.ships.length - (k + 1)) sub l,Covers s f (k + 1) l x:=by
 obtain ⟨r0,fz⟩:=List.exists_mem_of_ne_nil l hn;have hc:∀ r ∈ l,f (hs s r.member (s.ships.length - k))=f (hs s r0.member (s.ships.length - k)):=fun r hr=>by rw [sk r hr r0 fz]
 obtain ⟨v1,v2,v3⟩:=X8s hc;obtain ⟨x,hx,c1,c2,c3⟩:=ih (moved s (s.ships.length - (k + 1)) (f (hs s r0.member (s.ships.length - k))) l) (Q4a hl) (Q4n sk);cases hb:f (hs s r0.member (s.ships.length - k))
 . rw [hb] at v1 v2 v3 hx c1 c2 c3
   obtain ⟨o,ho,EQ⟩:=X2t (l:=sub (moved s (s.ships.length - (k + 1)) false l) ++ (sub (moved s (s.ships.length - (k + 1)) true l)).map (Y3k s (s.ships.length - (k + 1)) l)) (List.mem_append.2 (.inl hx));rw [X1a] at EQ;simp only [Bool.false_eq_true,if_false] at v2 v3;exact ⟨o,ho,by omega,by omega,by omega⟩
 . rw [hb] at v1 v2 v3 hx c1 c2 c3
   obtain ⟨o,ho,EQ⟩:=X2t (l:=sub (moved s (s.ships.length - (k + 1)) false l) ++ (sub (moved s (s.ships.length - (k + 1)) true l)).map (Y3k s (s.ships.length - (k + 1)) l)) (List.mem_append.2 (.inr (List.mem_map.2 ⟨x,hx,rfl⟩)));rw [X1a] at EQ;simp only [if_true] at v2 v3;simp only [Y3k] at EQ;exact ⟨o,ho,by omega,by omega,by omega⟩
end Go.Tw
namespace Go.Tw
variable {s:Q0b}
def X5y (s:Q0b) (t c:Nat) (l:List Runner):List Runner:=l.filter fun x=>decide (ix (Q0c s.members x.member) t < (c:Int))
theorem X0t {t c:Nat} {l:List Runner} {r:Runner}:r ∈ X5y s t c l ↔ r ∈ l /\ ix (Q0c s.members r.member) t < (c:Int):=by simp [X5y]
theorem X9a {t c:Nat} {l:List Runner} {r:Runner}:r ∈ Q8p s t c l ↔ r ∈ l /\ ix (Q0c s.members r.member) t=(c:Int):=by simp [Q8p]
theorem Y0a {t c:Nat} {l:List Runner} {r:Runner} (h:r ∈ X5y s t c l):r ∈ X5y s t (c + 1) l:=by
 rw [X0t] at h ⊢; exact ⟨h.1,by have:=h.2; omega⟩
theorem Z4h {t c:Nat} {l:List Runner} {r:Runner} (h:r ∈ Q8p s t c l):r ∈ X5y s t (c + 1) l:=by
 rw [X9a] at h; rw [X0t]; exact ⟨h.1,by have:=h.2; omega⟩
theorem Q9k (t c:Nat) (g:Runner -> Int):∀ l:List Runner,((X5y s t (c + 1) l).map g).sum=((X5y s t c l).map g).sum + ((Q8p s t c l).map g).sum
 | []=>rfl
 | x :: l=>by
   have ih:=Q9k t c g l;unfold X5y Q8p at ih ⊢;simp only [List.filter_cons]
   by_cases h1:ix (Q0c s.members x.member) t < (c:Int)
   . have h2:ix (Q0c s.members x.member) t < ((c + 1:Nat):Int):=by omega
     have h3:(ix (Q0c s.members x.member) t == (c:Int))=false:=by simp; omega
     simp only [h1,h2,h3,decide_true,if_true,Bool.false_eq_true,if_false,List.map_cons,List.sum_cons]; omega
   . by_cases h4:ix (Q0c s.members x.member) t=(c:Int)
     . have h2:ix (Q0c s.members x.member) t < ((c + 1:Nat):Int):=by omega
       have h3:(ix (Q0c s.members x.member) t == (c:Int))=true:=by simp [h4]
       simp only [h1,h2,h3,decide_true,decide_false,if_true,Bool.false_eq_true,if_false,List.map_cons,List.sum_cons]; omega
     . have h2:¬ ix (Q0c s.members x.member) t < ((c + 1:Nat):Int):=by omega
       have h3:(ix (Q0c s.members x.member) t == (c:Int))=false:=by simp [h4]
       simp only [h1,h2,h3,decide_false,Bool.false_eq_true,if_false]; exact ih
theorem Z5l (hf:Fine s) {i t:Nat} (hi:i < s.members.length) (ht:t < s.ships.length):0 <= ix (Q0c s.members i) t /\ ix (Q0c s.members i) t <= 9:=by
 have h:=(hf.shaped i hi).1;rw [Q5i (by omega)]; exact hf.digits i hi _ (List.getElem_mem _)
theorem Y7a (hf:Fine s) {t:Nat} {l:List Runner} (hl:Known s l) (ht:t < s.ships.length):X5y s t 0 l=[]:=by
 rw [X5y,List.filter_eq_nil_iff];intro r hr;have:=(Z5l hf (hl r hr) ht).1;simp only [decide_eq_true_eq]; omega
theorem Z3m (hf:Fine s) {t:Nat} {l:List Runner} (hl:Known s l) (ht:t < s.ships.length):X5y s t 10 l=l:=by
 rw [X5y,List.filter_eq_self];intro r hr;have:=(Z5l hf (hl r hr) ht).2;simp only [decide_eq_true_eq]; omega
theorem X2q (hf:Fine s) {k:Nat} (hk:k + 1 <= s.ships.length) {sub:List Runner -> List Plan}
    (ih:∀ l,Known s l -> Q8l s (s.ships.length - k) l -> ∀ x ∈ sub l,Sound s (s.ships.length - k) k l x) {l:List Runner} (hl:Known s l)
    (sk:Q8l s (s.ships.length - (k + 1)) l):∀ (c:Nat) (x:Plan),x ∈ Q2y s (s.ships.length - (k + 1)) sub l c ->
     Sound s (s.ships.length - (k + 1)) (k + 1) (X5y s (s.ships.length - (k + 1)) c l) x
 | 0,x,hx=>by
   rw [Q2y,List.mem_singleton] at hx;subst hx;rw [Y7a hf hl (by omega)]
   exact ⟨fun b hb=>absurd hb (by simp),fun f _=>⟨rfl,rfl,rfl⟩⟩
 | c + 1,x,hx=>by
   have e1:s.ships.length - (k + 1) + 1=s.ships.length - k:=by omega
   rw [Q2y] at hx
   split at hx
   . rename_i hn
     obtain ⟨h1,h2⟩:=X2q hf hk ih hl sk c x hx;refine ⟨fun b hb=>?_,fun f hA=>?_⟩
     . obtain ⟨r,hr,u,hu⟩:=h1 b hb
       exact ⟨r,Y0a hr,u,hu⟩
     . obtain ⟨w1,w2,w3⟩:=h2 f fun r hr=>hA r (Y0a hr)
       unfold Z7z at w1 ⊢; unfold Z2j at w2 ⊢; unfold Z2e at w3 ⊢;rw [Q9k,Q9k,Q9k,hn,w1,w2,w3];simp
   . rename_i hn
     obtain ⟨y,hy,z,hz,rfl⟩:=X6m hx;obtain ⟨h1,h2⟩:=X2q hf hk ih hl sk c y hy;obtain ⟨g1,g2⟩:=Y8b hf hk ih (Q8s hl) hn (e1 ▸ X0o hf hl (by omega) sk) hz
     refine ⟨fun b hb=>?_,fun f hA=>?_⟩
     . rcases List.mem_append.1 (show b ∈ y.closed ++ z.closed from hb) with hb | hb
       . obtain ⟨r,hr,u,hu⟩:=h1 b hb
         exact ⟨r,Y0a hr,u,hu⟩
       . obtain ⟨r,hr,u,hu⟩:=g1 b hb
         exact ⟨r,Z4h hr,u,hu⟩
     . have Vx:∀ r ∈ X5y s (s.ships.length - (k + 1)) (c + 1) l,∀ u,s.ships.length - (k + 1) < u -> u <= s.ships.length -> f (hs s r.member u)=(y.closed.contains (Q7g (hs s r.member u)) || z.closed.contains (Q7g (hs s r.member u))) :=
        fun r hr u hu Lv=>(hA r hr u hu Lv).trans (X6o _ _ _)
       obtain ⟨w1,w2,w3⟩:=h2 f fun r hr u hu Lv=>by
        have D1:=X0t.1 hr;rw [Vx r (Y0a hr) u hu Lv,Q8t (a:=z.closed),Bool.or_false];intro b hb;obtain ⟨q,hq,v,hv,rW,e⟩:=g1 b hb;have F3:=X9a.1 hq;rw [e]; exact Y9n hf (hl q F3.1) (hl r D1.1) hv hu (by have:=D1.2; have:=F3.2; omega)
       obtain ⟨v1,v2,v3⟩:=g2 f fun r hr u hu Lv=>by
        have D1:=X9a.1 hr;rw [Vx r (Z4h hr) u hu Lv,Q8t (a:=y.closed),Bool.false_or];intro b hb;obtain ⟨q,hq,v,hv,rW,e⟩:=h1 b hb;have F3:=X0t.1 hq;rw [e]; exact Y9n hf (hl q F3.1) (hl r D1.1) hv hu (by have:=D1.2; have:=F3.2; omega)
       unfold Z7z at w1 v1 ⊢; unfold Z2j at w2 v2 ⊢; unfold Z2e at w3 v3 ⊢;rw [Q9k,Q9k,Q9k,w1,w2,w3,v1,v2,v3];exact ⟨rfl,rfl,rfl⟩
theorem X5x (hf:Fine s) {k:Nat} (hk:k + 1 <= s.ships.length) {sub:List Runner -> List Plan} {f:List Int -> Bool}
    (ih:∀ l,Known s l -> Q8l s (s.ships.length - k) l -> ∃ x ∈ sub l,Covers s f k l x) {l:List Runner} (hl:Known s l)
    (sk:Q8l s (s.ships.length - (k + 1)) l):∀ c:Nat,∃ x ∈ Q2y s (s.ships.length - (k + 1)) sub l c,Covers s f (k + 1) (X5y s (s.ships.length - (k + 1)) c l) x
 | 0=>by
   rw [Y7a hf hl (by omega)]
   exact ⟨_,List.mem_singleton.2 rfl,Int.le_refl 0,Int.le_refl 0,Int.le_refl 0⟩
 | c + 1=>by
   have e1:s.ships.length - (k + 1) + 1=s.ships.length - k:=by omega
   obtain ⟨y,hy,y1,y2,y3⟩:=X5x hf hk ih hl sk c;rw [Q2y];unfold Covers;unfold Z7z at y1 ⊢; unfold Z2j at y2 ⊢; unfold Z2e at y3 ⊢;simp only [Q9k]
   split
   . rename_i hn
     refine ⟨y,hy,?_⟩;rw [hn];simp only [List.map_nil,List.sum_nil];exact ⟨by omega,by omega,by omega⟩
   . rename_i hn
     obtain ⟨z,hz,z1,z2,z3⟩:=Y7c ih (Q8s (c:=c) hl) hn (e1 ▸ X0o hf hl (by omega) sk)
     obtain ⟨o,ho,EQ⟩:=Y2j hy hz;rw [X1a] at EQ;simp only [both] at EQ;unfold Z7z at z1; unfold Z2j at z2; unfold Z2e at z3;exact ⟨o,ho,by omega,by omega,by omega⟩
theorem X4k {α:Type}:∀ l:List α,(l.map fun _=>(0:Int)).sum=0
 | []=>rfl
 | _ :: l=>by rw [List.map_cons,List.sum_cons,X4k l]; rfl
theorem X9q (hf:Fine s):∀ k,k <= s.ships.length -> ∀ l,Known s l -> Q8l s (s.ships.length - k) l -> ∀ x ∈ Q2u s k l,Sound s (s.ships.length - k) k l x
 | 0,_,l,_,_,x,hx=>by
   rw [Q2u,List.mem_singleton] at hx;subst hx;refine ⟨fun b hb=>absurd hb (by simp),fun f _=>⟨rfl,?_,?_⟩⟩
   . unfold Z2j J8v; simp [X4k]
   . unfold Z2e J7m; simp [X4k]
 | k + 1,hk,l,hl,sk,x,hx=>by
   have:=X2q hf hk (X9q hf k (by omega)) hl sk 10 x hx
   rwa [Z3m hf hl (by omega)] at this
theorem X6p (hf:Fine s) (f:List Int -> Bool):∀ k,k <= s.ships.length -> ∀ l,Known s l -> Q8l s (s.ships.length - k) l -> ∃ x ∈ Q2u s k l,Covers s f k l x
 | 0,_,l,_,_=>by
   refine ⟨_,List.mem_singleton.2 rfl,Int.le_refl _,?_,?_⟩
   . unfold Z2j J8v; simp [X4k]
   . unfold Z2e J7m; simp [X4k]
 | k + 1,hk,l,hl,sk=>by
   have:=X5x hf hk (X6p hf f k (by omega)) hl sk 10
   rwa [Z3m hf hl (by omega)] at this
def Y6r (s:Q0b):List Runner:=(List.range s.members.length).map fun i=>⟨i,0,true⟩
theorem Q8n:Known s (Y6r s):=by
 intro r hr;obtain ⟨i,hi,rfl⟩:=List.mem_map.1 hr;exact List.mem_range.1 hi
theorem X0f:Q8l s (s.ships.length - s.ships.length) (Y6r s):=by
 intro r _ q _;rw [Nat.sub_self]; simp [hs]
theorem Z2c (hf:Fine s) {x:Plan} (hx:x ∈ Q3o s) (f:List Int -> Bool) (h:∀ i,i < s.members.length -> ∀ u,0 < u -> u <= s.ships.length -> f (hs s i u)=x.closed.contains (Q7g (hs s i u))) :
    Z7z s f s.ships.length (Y6r s)=x.weight /\ Z2j s f s.ships.length (Y6r s)=x.closings /\ Z2e s f s.ships.length (Y6r s)=x.delay :=
 (X9q hf _ (Nat.le_refl _) _ Q8n X0f x hx).2 f fun r hr u hu Lv=>h _ (Q8n r hr) u (by omega) Lv
theorem Z3e (hf:Fine s) (f:List Int -> Bool):∃ x ∈ Q3o s,Covers s f s.ships.length (Y6r s) x:=X6p hf f _ (Nat.le_refl _) _ Q8n X0f
end Go.Tw
namespace Go.Tw
variable {s:Q0b}
theorem X2e {α:Type} (p:α -> Bool) (g:α -> Int):∀ l:List α,(l.map fun x=>if p x=true then g x else 0).sum=((l.filter p).map g).sum
 | []=>rfl
 | x :: l=>by
   rw [List.map_cons,List.sum_cons,X2e p g l,List.filter_cons];cases h:p x <;> simp
theorem X2c {α β:Type} (d:α) (g:α -> β) (l:List α):l.map g=(List.range l.length).map fun i=>g (l.getD i d):=by
 apply List.ext_getElem (by simp)
 intro i h1 h2;simp only [List.length_map] at h1;simp [h1]
theorem Y4s (k:Nat):List.range (k + 1)=0 :: (List.range k).map (· + 1):=List.range_succ_eq_map
def J3b (s:Q0b) (f:List Int -> Bool) (i:Nat):List Bool:=(List.range s.ships.length).map fun t=>f (hs s i (t + 1))
theorem J3m (f:List Int -> Bool) (i k:Nat) (hk:k + 1 <= s.ships.length) :
    (J3b s f i).drop (s.ships.length - (k + 1))=f (hs s i (s.ships.length - k)) :: (J3b s f i).drop (s.ships.length - k):=by
 have h:s.ships.length - (k + 1) < (J3b s f i).length:=by simp [J3b]; omega
 rw [List.drop_eq_getElem_cons h];have e:s.ships.length - (k + 1) + 1=s.ships.length - k:=by omega
 rw [e]
 congr 1
 simp only [J3b,List.getElem_map,List.getElem_range,e]
theorem J1o (f:List Int -> Bool):∀ k,k <= s.ships.length -> ∀ x:Runner,J9g s f k x =
    (x.dry && !(((Q2a s x.member).Q2r (s.ships.length - k) x.level ((J3b s f x.member).drop (s.ships.length - k))).any fun y=>decide (s.limit < y)))
 | 0,_,x=>by
   rw [J9g,Nat.sub_zero,List.drop_of_length_le (by simp [J3b])]
   simp [Mem.Q2r]
 | k + 1,hk,x=>by
   rw [J9g,J1o f k (by omega),J3m f _ k hk]
   have e:s.ships.length - (k + 1) + 1=s.ships.length - k:=by omega
   simp only [mv1,Mem.Q2r,List.any_cons,e];generalize ((Q2a s x.member).stepT (s.ships.length - (k + 1)) x.level (f (hs s x.member (s.ships.length - k)))).1=pk
   by_cases h:pk <= s.limit
   . have h':¬ s.limit < pk:=by omega
     simp [h,h']
   . have h':s.limit < pk:=by omega
     simp [h,h']
theorem J0f (f:List Int -> Bool) (i:Nat):∀ k,k <= s.ships.length -> J8v s f k i=((List.range k).map fun j=>if f (hs s i (s.ships.length - k + j + 1)) then (1:Int) else 0).sum
 | 0,_=>rfl
 | k + 1,hk=>by
   rw [J8v,J0f f i k (by omega),Y4s,List.map_cons,List.sum_cons,List.map_map]
   have e:s.ships.length - (k + 1) + 0 + 1=s.ships.length - k:=by omega
   rw [e]
   congr 2
   apply List.map_congr_left
   intro j _;have e2:s.ships.length - (k + 1) + (j + 1) + 1=s.ships.length - k + j + 1:=by omega
   simp only [Function.comp,e2]
theorem J1s (f:List Int -> Bool) (i:Nat):∀ k,k <= s.ships.length -> J7m s f k i=((List.range k).map fun j=>if f (hs s i (s.ships.length - k + j + 1)) then ix s.ships (s.ships.length - k + j) else 0).sum
 | 0,_=>rfl
 | k + 1,hk=>by
   rw [J7m,J1s f i k (by omega),Y4s,List.map_cons,List.sum_cons,List.map_map]
   have e:s.ships.length - (k + 1) + 0 + 1=s.ships.length - k:=by omega
   rw [e,Nat.add_zero]
   congr 2
   apply List.map_congr_left
   intro j _;have e3:s.ships.length - (k + 1) + (j + 1)=s.ships.length - k + j:=by omega
   simp only [Function.comp,e3]
theorem count_map (g:Nat -> Bool):∀ n:Nat,countB ((List.range n).map g)=((List.range n).map fun j=>if g j then (1:Int) else 0).sum:=by
 have go:∀ l:List Nat,countB (l.map g)=(l.map fun j=>if g j then (1:Int) else 0).sum:=by
  intro l
  induction l with
  | nil=>rfl
  | cons a l ih =>
    unfold countB at ih ⊢;rw [List.map_cons,List.map_cons,List.sum_cons,<- ih,List.countP_cons];cases h:g a
    . simp
    . simp; omega
 intro n; exact go _
theorem X0q (hf:Fine s) (p:List Rul) {i:Nat} (hi:i < s.members.length):Q0l p (Q2a s i).classes=J3b s (look p) i:=by
 have h:=(hf.shaped i hi).1;unfold Q0l J3b hs;show (List.range (Q0c s.members i).length).map _=_;rw [h]; rfl
theorem J4i (hf:Fine s) (p:List Rul):Z7z s (look p) s.ships.length (Y6r s)=Q1u s (Q2k s p):=by
 unfold Z7z Y6r Q1u Q2k;rw [List.map_map,List.map_map,<- X2e]
 congr 1
 apply List.map_congr_left
 intro i hi;have J3:=List.mem_range.1 hi;simp only [Function.comp];rw [J1o _ _ (Nat.le_refl _),X0q hf p J3];simp only [Nat.sub_self,List.drop_zero,Bool.true_and,Mem.keeps,Mem.Q7b];rfl
theorem Z1h (hf:Fine s) (p:List Rul):Z2j s (look p) s.ships.length (Y6r s)=Q6m s p:=by
 unfold Z2j Y6r Q6m;rw [List.map_map,X2c default _ s.members]
 congr 1
 apply List.map_congr_left
 intro i hi;have J3:=List.mem_range.1 hi;simp only [Function.comp];have:=X0q hf p J3;unfold Q2a at this;rw [J0f _ _ _ (Nat.le_refl _),this,J3b,count_map];simp only [Nat.sub_self,Nat.zero_add];rfl
theorem J2g (hf:Fine s) (p:List Rul):Z2e s (look p) s.ships.length (Y6r s)=X6r s p:=by
 unfold Z2e Y6r X6r;rw [List.map_map,X2c default _ s.members]
 congr 1
 apply List.map_congr_left
 intro i hi;have J3:=List.mem_range.1 hi;simp only [Function.comp];have:=X0q hf p J3;unfold Q2a at this;rw [J1s _ _ _ (Nat.le_refl _),this];unfold Q8a J3b;simp only [Nat.sub_self,Nat.zero_add,List.length_map,List.length_range];show Q0o s.members i * _=_ * _
 congr 2
 apply List.map_congr_left
 intro t ht;have Vg:=List.mem_range.1 ht;simp [Vg]
end Go.Tw
namespace Go.Tw
variable {s:Q0b}
def pick (need:Int) (b:Option (Int × Int)) (w c d:Int):Option (Int × Int) :=
 if w < need then b else match b with
 | none=>some (c,d)
 | some (x,y)=>if c < x ∨ c=x /\ d < y then some (c,d) else some (x,y)
theorem Z5t (g:List Int -> Bool) (h:List Int):∀ l:List (List Int),h ∈ l -> look (l.map fun x=>⟨x,g x⟩) h=g h
 | [],hh=>absurd hh (by simp)
 | x :: l,hh=>by
   by_cases e:x=h
   . subst e; simp [look]
   . have:=Z5t g h l ((List.mem_cons.1 hh).resolve_left (Ne.symm e))
     unfold look at this ⊢;rw [List.map_cons,List.find?_cons];simp only [show (x == h)=false by simp [e]]
     exact this
theorem J0r {i u:Nat} (hi:i < s.members.length) (h0:0 < u) (hu:u <= s.ships.length):hs s i u ∈ s.hist :=
 (Q0b.Q4r _ _).2 ⟨u - 1,by omega,i,hi,by rw [hs,Nat.sub_add_cancel h0]⟩
theorem J3p (hf:Fine s) {x:Plan} (hx:x ∈ Q3o s):Q1u s (Q2k s (Y2p s x))=x.weight /\ Q6m s (Y2p s x)=x.closings /\ X6r s (Y2p s x)=x.delay:=by
 rw [<- J4i hf,<- Z1h hf,<- J2g hf];exact Z2c hf hx _ fun i hi u h0 hu=>Z5t _ _ _ (J0r hi h0 hu)
def Best (need:Int) (l:List (Int × Int × Int)) (r:Option (Int × Int)):Prop:=match r with
 | none=>∀ t ∈ l,t.1 < need
 | some (a,b)=>(∃ t ∈ l,need <= t.1 /\ t.2.1=a /\ t.2.2=b) /\ ∀ t ∈ l,need <= t.1 -> a < t.2.1 ∨ a=t.2.1 /\ b <= t.2.2
theorem J2p {need:Int} {l:List (Int × Int × Int)} {r:Option (Int × Int)} (h:Best need l r) (w c d:Int):Best need (l ++ [(w,c,d)]) (pick need r w c d):=by
 unfold pick
 by_cases hw:w < need
 . rw [if_pos hw]
   cases r with
   | none => intro t ht; rcases List.mem_append.1 ht with e | e
             . exact h t e
             . rw [List.mem_singleton] at e; subst e; exact hw
   | some p =>
     obtain ⟨⟨t,ht,h1⟩,h2⟩:=h;refine ⟨⟨t,List.mem_append.2 (.inl ht),h1⟩,fun u hu hn=>?_⟩
     rcases List.mem_append.1 hu with e | e
     . exact h2 u e hn
     . rw [List.mem_singleton] at e; subst e; simp only at hn; omega
 . rw [if_neg hw]
   have me:(w,c,d) ∈ l ++ [(w,c,d)]:=List.mem_append.2 (.inr (List.mem_singleton.2 rfl));cases r with
   | none =>
     refine ⟨⟨_,me,by simp only; omega,rfl,rfl⟩,fun u hu hn=>?_⟩
     rcases List.mem_append.1 hu with e | e
     . have:=h u e; omega
     . rw [List.mem_singleton] at e; subst e; exact .inr ⟨rfl,Int.le_refl _⟩
   | some p =>
     obtain ⟨x,y⟩:=p;obtain ⟨⟨t,ht,h1⟩,h2⟩:=h;dsimp only
     by_cases hb:c < x ∨ c=x /\ d < y
     . rw [if_pos hb]
       refine ⟨⟨_,me,by simp only; omega,rfl,rfl⟩,fun u hu hn=>?_⟩
       rcases List.mem_append.1 hu with e | e
       . have:=h2 u e hn; omega
       . rw [List.mem_singleton] at e; subst e; exact .inr ⟨rfl,Int.le_refl _⟩
     . rw [if_neg hb]
       refine ⟨⟨t,List.mem_append.2 (.inl ht),h1⟩,fun u hu hn=>?_⟩
       rcases List.mem_append.1 hu with e | e
       . exact h2 u e hn
       . rw [List.mem_singleton] at e; subst e; simp only; omega
def tri (x:Plan):Int × Int × Int:=(x.weight,x.closings,x.delay)
theorem Y3j (need:Int):∀ (l pre:List Plan) (b:Option Plan),Best need (pre.map tri) (b.map fun x=>(x.closings,x.delay)) -> (∀ x,b=some x -> x ∈ pre /\ need <= x.weight) ->
    Best need ((pre ++ l).map tri) ((l.foldl (Q2m need) b).map fun x=>(x.closings,x.delay)) /\ ∀ x,l.foldl (Q2m need) b=some x -> x ∈ pre ++ l /\ need <= x.weight
 | [],pre,b,h,hb=>by rw [List.append_nil]; exact ⟨h,hb⟩
 | x :: l,pre,b,h,hb=>by
   have hp:=J2p h x.weight x.closings x.delay;have e:pick need (b.map fun x=>(x.closings,x.delay)) x.weight x.closings x.delay=(Q2m need b x).map fun x=>(x.closings,x.delay):=by
    unfold pick Q2m
    by_cases hw:x.weight < need
    . rw [if_pos hw,if_pos hw]
    . rw [if_neg hw,if_neg hw]
      cases b with
      | none=>rfl
      | some o =>
        dsimp only [Option.map_some]
        by_cases hc:x.closings < o.closings ∨ x.closings=o.closings /\ x.delay < o.delay
        . rw [if_pos hc,if_pos hc]; rfl
        . rw [if_neg hc,if_neg hc]; rfl
   rw [e] at hp;have:=Y3j need l (pre ++ [x]) (Q2m need b x) (by rw [List.map_append]; exact hp) fun y hy=>by
    unfold Q2m at hy
    by_cases hw:x.weight < need
    . rw [if_pos hw] at hy
      obtain ⟨k1,k2⟩:=hb y hy;exact ⟨List.mem_append.2 (.inl k1),k2⟩
    . rw [if_neg hw] at hy
      have hx:x ∈ pre ++ [x]:=List.mem_append.2 (.inr (List.mem_singleton.2 rfl));cases b with
      | none=>cases hy; exact ⟨hx,by omega⟩
      | some o =>
        dsimp only at hy
        split at hy
        . cases hy; exact ⟨hx,by omega⟩
        . obtain ⟨k1,k2⟩:=hb y hy
          exact ⟨List.mem_append.2 (.inl k1),k2⟩
   rw [List.append_assoc] at this;exact this
theorem J8w (hf:Fine s) {need:Int} {x:Plan} (h:Z0r s need=some x):need <= x.weight /\ Q1u s (Q2k s (Y2p s x))=x.weight /\ Q6m s (Y2p s x)=x.closings /\ X6r s (Y2p s x)=x.delay:=by
 obtain ⟨-,k⟩:=Y3j need (Q3o s) [] none (fun t ht=>absurd ht (by simp)) (fun x hx=>by cases hx)
 obtain ⟨k1,k2⟩:=k x h;exact ⟨k2,J3p hf (by simpa using k1)⟩
end Go.Tw
namespace Go.Tw
variable {s:Q0b}
theorem Q3i (p:List Rul) (l:List Int):(Q0l p l).length=l.length:=by simp [Q0l]
end Go.Tw
