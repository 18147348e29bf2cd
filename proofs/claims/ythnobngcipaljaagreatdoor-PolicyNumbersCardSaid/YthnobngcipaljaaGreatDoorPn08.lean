/- Plain law: the same of all runners, class by class and tide by tide. Plain law: what runners come to is what the policy keeps, closes and delays. Plain law: the greatest weight and the best cost over the plans are those over all policies by their codes. Plain law: what PolicyBest says of the greatest weight, the best cost and the groups. Plain law: prefixes of closings; Q9i members; the first closings of a member alone. Contract of the reference: Follow. Contracts: a member's step, its Q3z, keeps. The closings of a policy as the reference makes them (each rule that fits is put behind) are those of the specification: plain lists, no program is in sight. -/
import Derived.Test.YthnobngcipaljaaGreatDoorPn07
import Derived.Test.YthnobngcipaljaaGreatDoorPn05
set_option maxRecDepth 1000000
set_option maxHeartbeats 64000000
set_option linter.unusedVariables false
set_option linter.unusedSimpArgs false
set_option linter.constructorNameAsVariable false
open Go.Lib (hid)
namespace Go.Tw
variable {s:Q0b}
def X6j (s:Q0b) (t c:Nat) (l:List Runner):List Runner:=l.filter fun x=>decide (ix (Q0c s.members x.member) t < (c:Int))
theorem Q9p {t c:Nat} {l:List Runner} {r:Runner}:r ∈ X6j s t c l ↔ r ∈ l /\ ix (Q0c s.members r.member) t < (c:Int):=by simp [X6j]
theorem X8o {t c:Nat} {l:List Runner} {r:Runner}:r ∈ Q7r s t c l ↔ r ∈ l /\ ix (Q0c s.members r.member) t=(c:Int):=by simp [Q7r]
theorem X7t {t c:Nat} {l:List Runner} {r:Runner} (h:r ∈ X6j s t c l):r ∈ X6j s t (c + 1) l:=by
 rw [Q9p] at h ⊢; exact ⟨h.1,by have:=h.2; omega⟩
theorem Z1k {t c:Nat} {l:List Runner} {r:Runner} (h:r ∈ Q7r s t c l):r ∈ X6j s t (c + 1) l:=by
 rw [X8o] at h; rw [Q9p]; exact ⟨h.1,by have:=h.2; omega⟩
theorem Q8e (t c:Nat) (g:Runner -> Int):∀ l:List Runner,((X6j s t (c + 1) l).map g).sum=((X6j s t c l).map g).sum + ((Q7r s t c l).map g).sum
 | []=>rfl
 | x :: l=>by
   have ih:=Q8e t c g l;unfold X6j Q7r at ih ⊢;simp only [List.filter_cons]
   by_cases h1:ix (Q0c s.members x.member) t < (c:Int)
   . have h2:ix (Q0c s.members x.member) t < ((c + 1:Nat):Int):=by omega
     have h3:(ix (Q0c s.members x.member) t == (c:Int))=false:=by simp; omega
     simp only [h1,h2,h3,decide_true,if_true,Bool.false_eq_true,if_false,List.map_cons,List.sum_cons]; omega
   . by_cases h4:ix (Q0c s.members x.member) t=(c:Int)
     . have h2:ix (Q0c s.members x.member) t < ((c + 1:Nat):Int):=by omega
       have h3:(ix (Q0c s.members x.member) t == (c:Int))=true:=by simp [h4]
       simp only [h1,h2,h3,decide_true,decide_false,if_true,Bool.false_eq_true,if_false,List.map_cons,List.sum_cons]; omega
     . have h2:¬ ix (Q0c s.members x.member) t < ((c + 1:Nat):Int):=by omega
       have h3:(ix (Q0c s.members x.member) t == (c:Int))=false:=by simp [h4]
       simp only [h1,h2,h3,decide_false,Bool.false_eq_true,if_false]; exact ih
theorem Z3e (hf:Fine s) {i t:Nat} (hi:i < s.members.length) (ht:t < s.ships.length):0 <= ix (Q0c s.members i) t /\ ix (Q0c s.members i) t <= 9:=by
 have h:=(hf.shaped i hi).1;rw [Q4n (by omega)]; exact hf.digits i hi _ (List.getElem_mem _)
theorem Y3x (hf:Fine s) {t:Nat} {l:List Runner} (hl:Known s l) (ht:t < s.ships.length):X6j s t 0 l=[]:=by
 rw [X6j,List.filter_eq_nil_iff];intro r hr;have:=(Z3e hf (hl r hr) ht).1;simp only [decide_eq_true_eq]; omega
theorem Z1r (hf:Fine s) {t:Nat} {l:List Runner} (hl:Known s l) (ht:t < s.ships.length):X6j s t 10 l=l:=by
 rw [X6j,List.filter_eq_self];intro r hr;have:=(Z3e hf (hl r hr) ht).2;simp only [decide_eq_true_eq]; omega
theorem X2c (hf:Fine s) {k:Nat} (hk:k + 1 <= s.ships.length) {sub:List Runner -> List Plan}
    (ih:∀ l,Known s l -> Q7x s (s.ships.length - k) l -> ∀ x ∈ sub l,Sound s (s.ships.length - k) k l x) {l:List Runner} (hl:Known s l)
    (hs':Q7x s (s.ships.length - (k + 1)) l):∀ (c:Nat) (x:Plan),x ∈ Q2k s (s.ships.length - (k + 1)) sub l c ->
     Sound s (s.ships.length - (k + 1)) (k + 1) (X6j s (s.ships.length - (k + 1)) c l) x
 | 0,x,hx=>by
   rw [Q2k,List.mem_singleton] at hx;subst hx;rw [Y3x hf hl (by omega)]
   exact ⟨fun b hb=>absurd hb (by simp),fun f _=>⟨rfl,rfl,rfl⟩⟩
 | c + 1,x,hx=>by
   have e1:s.ships.length - (k + 1) + 1=s.ships.length - k:=by omega
   rw [Q2k] at hx
   split at hx
   . rename_i hn
     obtain ⟨h1,h2⟩:=X2c hf hk ih hl hs' c x hx;refine ⟨fun b hb=>?_,fun f hA=>?_⟩
     . obtain ⟨r,hr,u,hu⟩:=h1 b hb
       exact ⟨r,X7t hr,u,hu⟩
     . obtain ⟨w1,w2,w3⟩:=h2 f fun r hr=>hA r (X7t hr)
       unfold Z4i at w1 ⊢; unfold Z1e at w2 ⊢; unfold Z0x at w3 ⊢;rw [Q8e,Q8e,Q8e,hn,w1,w2,w3];simp
   . rename_i hn
     obtain ⟨y,hy,z,hz,rfl⟩:=X6r hx;obtain ⟨h1,h2⟩:=X2c hf hk ih hl hs' c y hy;obtain ⟨g1,g2⟩:=Y7s hf hk ih (Q7q hl) hn (e1 ▸ X0c hf hl (by omega) hs') hz
     refine ⟨fun b hb=>?_,fun f hA=>?_⟩
     . rcases List.mem_append.1 (show b ∈ y.closed ++ z.closed from hb) with hb | hb
       . obtain ⟨r,hr,u,hu⟩:=h1 b hb
         exact ⟨r,X7t hr,u,hu⟩
       . obtain ⟨r,hr,u,hu⟩:=g1 b hb
         exact ⟨r,Z1k hr,u,hu⟩
     . have hA':∀ r ∈ X6j s (s.ships.length - (k + 1)) (c + 1) l,∀ u,s.ships.length - (k + 1) < u -> u <= s.ships.length -> f (hs s r.member u)=(y.closed.contains (Q6q (hs s r.member u)) || z.closed.contains (Q6q (hs s r.member u))) :=
        fun r hr u hu hu2=>(hA r hr u hu hu2).trans (X6n _ _ _)
       obtain ⟨w1,w2,w3⟩:=h2 f fun r hr u hu hu2=>by
        have hr':=Q9p.1 hr;rw [hA' r (X7t hr) u hu hu2,Q8l (a:=z.closed),Bool.or_false];intro b hb;obtain ⟨q,hq,v,hv,hv2,e⟩:=g1 b hb;have hq':=X8o.1 hq;rw [e]; exact Y6f hf (hl q hq'.1) (hl r hr'.1) hv hu (by have:=hr'.2; have:=hq'.2; omega)
       obtain ⟨v1,v2,v3⟩:=g2 f fun r hr u hu hu2=>by
        have hr':=X8o.1 hr;rw [hA' r (Z1k hr) u hu hu2,Q8l (a:=y.closed),Bool.false_or];intro b hb;obtain ⟨q,hq,v,hv,hv2,e⟩:=h1 b hb;have hq':=Q9p.1 hq;rw [e]; exact Y6f hf (hl q hq'.1) (hl r hr'.1) hv hu (by have:=hr'.2; have:=hq'.2; omega)
       unfold Z4i at w1 v1 ⊢; unfold Z1e at w2 v2 ⊢; unfold Z0x at w3 v3 ⊢;rw [Q8e,Q8e,Q8e,w1,w2,w3,v1,v2,v3];exact ⟨rfl,rfl,rfl⟩
theorem X6q (hf:Fine s) {k:Nat} (hk:k + 1 <= s.ships.length) {sub:List Runner -> List Plan} {f:List Int -> Bool}
    (ih:∀ l,Known s l -> Q7x s (s.ships.length - k) l -> ∃ x ∈ sub l,Covers s f k l x) {l:List Runner} (hl:Known s l)
    (hs':Q7x s (s.ships.length - (k + 1)) l):∀ c:Nat,∃ x ∈ Q2k s (s.ships.length - (k + 1)) sub l c,Covers s f (k + 1) (X6j s (s.ships.length - (k + 1)) c l) x
 | 0=>by
   rw [Y3x hf hl (by omega)]
   exact ⟨_,List.mem_singleton.2 rfl,Int.le_refl 0,Int.le_refl 0,Int.le_refl 0⟩
 | c + 1=>by
   have e1:s.ships.length - (k + 1) + 1=s.ships.length - k:=by omega
   obtain ⟨y,hy,y1,y2,y3⟩:=X6q hf hk ih hl hs' c;rw [Q2k];unfold Covers;unfold Z4i at y1 ⊢; unfold Z1e at y2 ⊢; unfold Z0x at y3 ⊢;simp only [Q8e]
   split
   . rename_i hn
     refine ⟨y,hy,?_⟩;rw [hn];simp only [List.map_nil,List.sum_nil];exact ⟨by omega,by omega,by omega⟩
   . rename_i hn
     obtain ⟨z,hz,z1,z2,z3⟩:=Y3s ih (Q7q (c:=c) hl) hn (e1 ▸ X0c hf hl (by omega) hs')
     obtain ⟨o,ho,hob⟩:=Y1q hy hz;rw [Q9w] at hob;simp only [both] at hob;unfold Z4i at z1; unfold Z1e at z2; unfold Z0x at z3;exact ⟨o,ho,by omega,by omega,by omega⟩
theorem X3t {α:Type}:∀ l:List α,(l.map fun _=>(0:Int)).sum=0
 | []=>rfl
 | _ :: l=>by rw [List.map_cons,List.sum_cons,X3t l]; rfl
theorem X8d (hf:Fine s):∀ k,k <= s.ships.length -> ∀ l,Known s l -> Q7x s (s.ships.length - k) l -> ∀ x ∈ Q2j s k l,Sound s (s.ships.length - k) k l x
 | 0,_,l,_,_,x,hx=>by
   rw [Q2j,List.mem_singleton] at hx;subst hx;refine ⟨fun b hb=>absurd hb (by simp),fun f _=>⟨rfl,?_,?_⟩⟩
   . unfold Z1e J3n; simp [X3t]
   . unfold Z0x J3v; simp [X3t]
 | k + 1,hk,l,hl,hs',x,hx=>by
   have:=X2c hf hk (X8d hf k (by omega)) hl hs' 10 x hx
   rwa [Z1r hf hl (by omega)] at this
theorem X6e (hf:Fine s) (f:List Int -> Bool):∀ k,k <= s.ships.length -> ∀ l,Known s l -> Q7x s (s.ships.length - k) l -> ∃ x ∈ Q2j s k l,Covers s f k l x
 | 0,_,l,_,_=>by
   refine ⟨_,List.mem_singleton.2 rfl,Int.le_refl _,?_,?_⟩
   . unfold Z1e J3n; simp [X3t]
   . unfold Z0x J3v; simp [X3t]
 | k + 1,hk,l,hl,hs'=>by
   have:=X6q hf hk (X6e hf f k (by omega)) hl hs' 10
   rwa [Z1r hf hl (by omega)] at this
def Y3q (s:Q0b):List Runner:=(List.range s.members.length).map fun i=>⟨i,0,true⟩
theorem Q7u:Known s (Y3q s):=by
 intro r hr;obtain ⟨i,hi,rfl⟩:=List.mem_map.1 hr;exact List.mem_range.1 hi
theorem Q9r:Q7x s (s.ships.length - s.ships.length) (Y3q s):=by
 intro r _ q _;rw [Nat.sub_self]; simp [hs]
theorem Z0i (hf:Fine s) {x:Plan} (hx:x ∈ Q2z s) (f:List Int -> Bool) (h:∀ i,i < s.members.length -> ∀ u,0 < u -> u <= s.ships.length -> f (hs s i u)=x.closed.contains (Q6q (hs s i u))) :
    Z4i s f s.ships.length (Y3q s)=x.weight /\ Z1e s f s.ships.length (Y3q s)=x.closings /\ Z0x s f s.ships.length (Y3q s)=x.delay :=
 (X8d hf _ (Nat.le_refl _) _ Q7u Q9r x hx).2 f fun r hr u hu hu2=>h _ (Q7u r hr) u (by omega) hu2
theorem Z1d (hf:Fine s) (f:List Int -> Bool):∃ x ∈ Q2z s,Covers s f s.ships.length (Y3q s) x:=X6e hf f _ (Nat.le_refl _) _ Q7u Q9r
end Go.Tw
namespace Go.Tw
variable {s:Q0b}
theorem X1f {α:Type} (p:α -> Bool) (g:α -> Int):∀ l:List α,(l.map fun x=>if p x=true then g x else 0).sum=((l.filter p).map g).sum
 | []=>rfl
 | x :: l=>by
   rw [List.map_cons,List.sum_cons,X1f p g l,List.filter_cons];cases h:p x <;> simp
theorem X1g {α β:Type} (d:α) (g:α -> β) (l:List α):l.map g=(List.range l.length).map fun i=>g (l.getD i d):=by
 apply List.ext_getElem (by simp)
 intro i h1 h2;simp only [List.length_map] at h1;simp [h1]
theorem Y2q (k:Nat):List.range (k + 1)=0 :: (List.range k).map (· + 1):=List.range_succ_eq_map
def Z6s (s:Q0b) (f:List Int -> Bool) (i:Nat):List Bool:=(List.range s.ships.length).map fun t=>f (hs s i (t + 1))
theorem J0e (f:List Int -> Bool) (i k:Nat) (hk:k + 1 <= s.ships.length) :
    (Z6s s f i).drop (s.ships.length - (k + 1))=f (hs s i (s.ships.length - k)) :: (Z6s s f i).drop (s.ships.length - k):=by
 have h:s.ships.length - (k + 1) < (Z6s s f i).length:=by simp [Z6s]; omega
 rw [List.drop_eq_getElem_cons h];have e:s.ships.length - (k + 1) + 1=s.ships.length - k:=by omega
 rw [e]
 congr 1
 simp only [Z6s,List.getElem_map,List.getElem_range,e]
theorem Z8a (f:List Int -> Bool):∀ k,k <= s.ships.length -> ∀ x:Runner,J4m s f k x =
    (x.dry && !(((Q1q s x.member).Q2g (s.ships.length - k) x.level ((Z6s s f x.member).drop (s.ships.length - k))).any fun y=>decide (s.limit < y)))
 | 0,_,x=>by
   rw [J4m,Nat.sub_zero,List.drop_of_length_le (by simp [Z6s])]
   simp [Mem.Q2g]
 | k + 1,hk,x=>by
   rw [J4m,Z8a f k (by omega),J0e f _ k hk]
   have e:s.ships.length - (k + 1) + 1=s.ships.length - k:=by omega
   simp only [mv1,Mem.Q2g,List.any_cons,e];generalize ((Q1q s x.member).stepT (s.ships.length - (k + 1)) x.level (f (hs s x.member (s.ships.length - k)))).1=pk
   by_cases h:pk <= s.limit
   . have h':¬ s.limit < pk:=by omega
     simp [h,h']
   . have h':s.limit < pk:=by omega
     simp [h,h']
theorem Z6i (f:List Int -> Bool) (i:Nat):∀ k,k <= s.ships.length -> J3n s f k i=((List.range k).map fun j=>if f (hs s i (s.ships.length - k + j + 1)) then (1:Int) else 0).sum
 | 0,_=>rfl
 | k + 1,hk=>by
   rw [J3n,Z6i f i k (by omega),Y2q,List.map_cons,List.sum_cons,List.map_map]
   have e:s.ships.length - (k + 1) + 0 + 1=s.ships.length - k:=by omega
   rw [e]
   congr 2
   apply List.map_congr_left
   intro j _;have e2:s.ships.length - (k + 1) + (j + 1) + 1=s.ships.length - k + j + 1:=by omega
   simp only [Function.comp,e2]
theorem Z8x (f:List Int -> Bool) (i:Nat):∀ k,k <= s.ships.length -> J3v s f k i=((List.range k).map fun j=>if f (hs s i (s.ships.length - k + j + 1)) then ix s.ships (s.ships.length - k + j) else 0).sum
 | 0,_=>rfl
 | k + 1,hk=>by
   rw [J3v,Z8x f i k (by omega),Y2q,List.map_cons,List.sum_cons,List.map_map]
   have e:s.ships.length - (k + 1) + 0 + 1=s.ships.length - k:=by omega
   rw [e,Nat.add_zero]
   congr 2
   apply List.map_congr_left
   intro j _;have e3:s.ships.length - (k + 1) + (j + 1)=s.ships.length - k + j:=by omega
   simp only [Function.comp,e3]
theorem count_map (g:Nat -> Bool):∀ n:Nat,countB ((List.range n).map g)=((List.range n).map fun j=>if g j then (1:Int) else 0).sum:=by
 have go:∀ l:List Nat,countB (l.map g)=(l.map fun j=>if g j then (1:Int) else 0).sum:=by
  intro l
  induction l with
  | nil=>rfl
  | cons a l ih =>
    unfold countB at ih ⊢;rw [List.map_cons,List.map_cons,List.sum_cons,<- ih,List.countP_cons];cases h:g a
    . simp
    . simp; omega
 intro n; exact go _
theorem Q9s (hf:Fine s) (p:List Rul) {i:Nat} (hi:i < s.members.length):Q0i p (Q1q s i).classes=Z6s s (look p) i:=by
 have h:=(hf.shaped i hi).1;unfold Q0i Z6s hs;show (List.range (Q0c s.members i).length).map _=_;rw [h]; rfl
theorem Z9o (hf:Fine s) (p:List Rul):Z4i s (look p) s.ships.length (Y3q s)=Q1k s (Q2o s p):=by
 unfold Z4i Y3q Q1k Q2o;rw [List.map_map,List.map_map,<- X1f]
 congr 1
 apply List.map_congr_left
 intro i hi;have hi':=List.mem_range.1 hi;simp only [Function.comp];rw [Z8a _ _ (Nat.le_refl _),Q9s hf p hi'];simp only [Nat.sub_self,List.drop_zero,Bool.true_and,Mem.keeps,Mem.Q3z];rfl
theorem Y6n (hf:Fine s) (p:List Rul):Z1e s (look p) s.ships.length (Y3q s)=Q4e s p:=by
 unfold Z1e Y3q Q4e;rw [List.map_map,X1g default _ s.members]
 congr 1
 apply List.map_congr_left
 intro i hi;have hi':=List.mem_range.1 hi;simp only [Function.comp];have:=Q9s hf p hi';unfold Q1q at this;rw [Z6i _ _ _ (Nat.le_refl _),this,Z6s,count_map];simp only [Nat.sub_self,Nat.zero_add];rfl
theorem Z7y (hf:Fine s) (p:List Rul):Z0x s (look p) s.ships.length (Y3q s)=Q9a s p:=by
 unfold Z0x Y3q Q9a;rw [List.map_map,X1g default _ s.members]
 congr 1
 apply List.map_congr_left
 intro i hi;have hi':=List.mem_range.1 hi;simp only [Function.comp];have:=Q9s hf p hi';unfold Q1q at this;rw [Z8x _ _ _ (Nat.le_refl _),this];unfold Q3f Z6s;simp only [Nat.sub_self,Nat.zero_add,List.length_map,List.length_range];show Q0k s.members i * _=_ * _
 congr 2
 apply List.map_congr_left
 intro t ht;have ht':=List.mem_range.1 ht;simp [ht']
end Go.Tw
namespace Go.Tw
variable {s:Q0b}
def pick (need:Int) (b:Option (Int × Int)) (w c d:Int):Option (Int × Int) :=
 if w < need then b else match b with
 | none=>some (c,d)
 | some (x,y)=>if c < x ∨ c=x /\ d < y then some (c,d) else some (x,y)
theorem Z2c (g:List Int -> Bool) (h:List Int):∀ l:List (List Int),h ∈ l -> look (l.map fun x=>⟨x,g x⟩) h=g h
 | [],hh=>absurd hh (by simp)
 | x :: l,hh=>by
   by_cases e:x=h
   . subst e; simp [look]
   . have:=Z2c g h l ((List.mem_cons.1 hh).resolve_left (Ne.symm e))
     unfold look at this ⊢;rw [List.map_cons,List.find?_cons];simp only [show (x == h)=false by simp [e]]
     exact this
theorem Z6v {i u:Nat} (hi:i < s.members.length) (h0:0 < u) (hu:u <= s.ships.length):hs s i u ∈ s.hist :=
 (Q0b.Q4h _ _).2 ⟨u - 1,by omega,i,hi,by rw [hs,Nat.sub_add_cancel h0]⟩
theorem J0j (hf:Fine s) {x:Plan} (hx:x ∈ Q2z s):Q1k s (Q2o s (Y1g s x))=x.weight /\ Q4e s (Y1g s x)=x.closings /\ Q9a s (Y1g s x)=x.delay:=by
 rw [<- Z9o hf,<- Y6n hf,<- Z7y hf];exact Z0i hf hx _ fun i hi u h0 hu=>Z2c _ _ _ (Z6v hi h0 hu)
def Best (need:Int) (l:List (Int × Int × Int)) (r:Option (Int × Int)):Prop:=match r with
 | none=>∀ t ∈ l,t.1 < need
 | some (a,b)=>(∃ t ∈ l,need <= t.1 /\ t.2.1=a /\ t.2.2=b) /\ ∀ t ∈ l,need <= t.1 -> a < t.2.1 ∨ a=t.2.1 /\ b <= t.2.2
theorem Z8u {need:Int} {l:List (Int × Int × Int)} {r:Option (Int × Int)} (h:Best need l r) (w c d:Int):Best need (l ++ [(w,c,d)]) (pick need r w c d):=by
 unfold pick
 by_cases hw:w < need
 . rw [if_pos hw]
   cases r with
   | none => intro t ht; rcases List.mem_append.1 ht with e | e
             . exact h t e
             . rw [List.mem_singleton] at e; subst e; exact hw
   | some p =>
     obtain ⟨⟨t,ht,h1⟩,h2⟩:=h;refine ⟨⟨t,List.mem_append.2 (.inl ht),h1⟩,fun u hu hn=>?_⟩
     rcases List.mem_append.1 hu with e | e
     . exact h2 u e hn
     . rw [List.mem_singleton] at e; subst e; simp only at hn; omega
 . rw [if_neg hw]
   have me:(w,c,d) ∈ l ++ [(w,c,d)]:=List.mem_append.2 (.inr (List.mem_singleton.2 rfl));cases r with
   | none =>
     refine ⟨⟨_,me,by simp only; omega,rfl,rfl⟩,fun u hu hn=>?_⟩
     rcases List.mem_append.1 hu with e | e
     . have:=h u e; omega
     . rw [List.mem_singleton] at e; subst e; exact .inr ⟨rfl,Int.le_refl _⟩
   | some p =>
     obtain ⟨x,y⟩:=p;obtain ⟨⟨t,ht,h1⟩,h2⟩:=h;dsimp only
     by_cases hb:c < x ∨ c=x /\ d < y
     . rw [if_pos hb]
       refine ⟨⟨_,me,by simp only; omega,rfl,rfl⟩,fun u hu hn=>?_⟩
       rcases List.mem_append.1 hu with e | e
       . have:=h2 u e hn; omega
       . rw [List.mem_singleton] at e; subst e; exact .inr ⟨rfl,Int.le_refl _⟩
     . rw [if_neg hb]
       refine ⟨⟨t,List.mem_append.2 (.inl ht),h1⟩,fun u hu hn=>?_⟩
       rcases List.mem_append.1 hu with e | e
       . exact h2 u e hn
       . rw [List.mem_singleton] at e; subst e; simp only; omega
def tri (x:Plan):Int × Int × Int:=(x.weight,x.closings,x.delay)
theorem Y2v (need:Int):∀ (l pre:List Plan) (b:Option Plan),Best need (pre.map tri) (b.map fun x=>(x.closings,x.delay)) -> (∀ x,b=some x -> x ∈ pre /\ need <= x.weight) ->
    Best need ((pre ++ l).map tri) ((l.foldl (Q2d need) b).map fun x=>(x.closings,x.delay)) /\ ∀ x,l.foldl (Q2d need) b=some x -> x ∈ pre ++ l /\ need <= x.weight
 | [],pre,b,h,hb=>by rw [List.append_nil]; exact ⟨h,hb⟩
 | x :: l,pre,b,h,hb=>by
   have hp:=Z8u h x.weight x.closings x.delay;have e:pick need (b.map fun x=>(x.closings,x.delay)) x.weight x.closings x.delay=(Q2d need b x).map fun x=>(x.closings,x.delay):=by
    unfold pick Q2d
    by_cases hw:x.weight < need
    . rw [if_pos hw,if_pos hw]
    . rw [if_neg hw,if_neg hw]
      cases b with
      | none=>rfl
      | some o =>
        dsimp only [Option.map_some]
        by_cases hc:x.closings < o.closings ∨ x.closings=o.closings /\ x.delay < o.delay
        . rw [if_pos hc,if_pos hc]; rfl
        . rw [if_neg hc,if_neg hc]; rfl
   rw [e] at hp;have:=Y2v need l (pre ++ [x]) (Q2d need b x) (by rw [List.map_append]; exact hp) fun y hy=>by
    unfold Q2d at hy
    by_cases hw:x.weight < need
    . rw [if_pos hw] at hy
      obtain ⟨k1,k2⟩:=hb y hy;exact ⟨List.mem_append.2 (.inl k1),k2⟩
    . rw [if_neg hw] at hy
      have hx:x ∈ pre ++ [x]:=List.mem_append.2 (.inr (List.mem_singleton.2 rfl));cases b with
      | none=>cases hy; exact ⟨hx,by omega⟩
      | some o =>
        dsimp only at hy
        split at hy
        . cases hy; exact ⟨hx,by omega⟩
        . obtain ⟨k1,k2⟩:=hb y hy
          exact ⟨List.mem_append.2 (.inl k1),k2⟩
   rw [List.append_assoc] at this;exact this
theorem J2j (hf:Fine s) {need:Int} {x:Plan} (h:Y6y s need=some x):need <= x.weight /\ Q1k s (Q2o s (Y1g s x))=x.weight /\ Q4e s (Y1g s x)=x.closings /\ Q9a s (Y1g s x)=x.delay:=by
 obtain ⟨-,k⟩:=Y2v need (Q2z s) [] none (fun t ht=>absurd ht (by simp)) (fun x hx=>by cases hx)
 obtain ⟨k1,k2⟩:=k x h;exact ⟨k2,J0j hf (by simpa using k1)⟩
end Go.Tw
namespace Go.Tw
variable {s:Q0b}
theorem Q1p (p:List Rul) (l:List Int):(Q0i p l).length=l.length:=by simp [Q0i]
end Go.Tw
namespace Go.Tw
variable {s:Q0b}
theorem X0h (n t:Nat):(Q5g n t).length=t:=by simp [Q5g]
end Go.Tw
namespace Go.Proofs
open Go.RowKit Go.Tw Go.Flow
theorem Y3j (m:Mem) (l:List Bool) {k:Nat} (hk:k < l.length) (lv:Int):m.Q2g k lv (l.drop k)=(m.stepT k lv (bx l k)).1 :: m.Q2g (k + 1) (m.stepT k lv (bx l k)).2 (l.drop (k + 1)):=by
 rw [X9t hk]; rfl
theorem X3e (m:Mem):∀ (l:List Bool) (t:Nat) (lv:Int),(m.Q2g t lv l).length=l.length
 | [],_,_=>rfl
 | _ :: l,t,lv=>by
   unfold Mem.Q2g;rw [List.length_cons,List.length_cons,X3e m l]
theorem Z6q (m:Mem) (l:List Bool):(m.Q3z l).length=l.length:=X3e m l 0 0
theorem X9r (w:World) (v u:Value) (s:Q0b) (i:Nat) (l:List Bool) (hv:Q0f w v s) (him:i < s.members.length) (hu:Q0r w u l) (hl9:l.length <= 9) (hlo:l.length <= (Q1q s i).outside.length) (hli:l.length <= (Q1q s i).inflow.length)
    (hb:∀ x ∈ (Q1q s i).inflow,0 <= x /\ x <= 1024) :
    Calls Tryz.prog 51 #[v,.int .i64 (i:Int),u] w fun e w'=>∃ x,e=.returned x /\ Q0e w' x ((Q1q s i).Q3z l) /\ Ext w w':=by
 obtain ⟨i0,hi,hz0,hz1,hz2⟩:=info_parts Tryz.info3;obtain ⟨a,b,rfl,h2⟩:=hv;obtain ⟨A,capa,rfl,hla,-,-⟩:=h2.ships.opened;obtain ⟨B,capb,rfl,hlb,-,hc⟩:=h2.members.opened;obtain ⟨bm,off,x,y,z,rfl,hbm,e0,e1,e2,e3,e4,hx,hy,hz,-⟩:=hc i him;have eY:Q0z s.members i=(Q1q s i).outside:=rfl;have eZ:Q1f s.members i=(Q1q s i).inflow:=rfl;rw [eY] at hy;rw [eZ] at hz;obtain ⟨X,capx,rfl,-,-,-⟩:=hx.opened;obtain ⟨Y,capy,rfl,-,-,hcY⟩:=hy.opened;obtain ⟨Z,capz,rfl,-,-,hcZ⟩:=hz.opened;obtain ⟨U,capu,rfl,-,-,hcU⟩:=hu.opened;have hiI:(i:Int) < s.members.length:=by omega
 obtain ⟨m,hm⟩:∃ x,Q1q s i=x:=⟨_,rfl⟩;rw [hm] at hlo hli hb hcY hcZ hy hz e3 e4 ⊢;have HCY:=hid hcY;have HCZ:=hid hcZ;have HCU:=hid hcU;have HBD:Hid (∀ k,k < m.inflow.length -> 0 <= ix m.inflow k /\ ix m.inflow k <= 1024):=hid (fun k hk=>by rw [Q4n hk]; exact hb _ (List.getElem_mem hk))
 obtain ⟨nm,hnm⟩:∃ x,Q1o s.members i=x:=⟨_,rfl⟩;obtain ⟨wt,hwt⟩:∃ x,Q0k s.members i=x:=⟨_,rfl⟩;obtain ⟨lc,hlc⟩:∃ x,(Q0c s.members i).length=x:=⟨_,rfl⟩;rw [hnm] at e0;rw [hwt] at e1;rw [hlc] at e2;clear hc hx hy hz hcY hcZ hcU hu h2 hm hb hnm hwt hlc eY eZ;go_enter Tryz.func51,Tryz.ntmps51;go_wp2_with fail;change Code.wp _ _ _ _ ((w.alloc (.cells #[.int .i64 s.limit,.slice A s.ships.length capa,.slice (some ⟨bm,off,none⟩) s.members.length capb] 25)).alloc (.cells #[.string nm,.int .i64 wt,.slice X lc capx,.slice Y m.outside.length capy,.slice Z m.inflow.length capz] 68));obtain ⟨W,hWW,k0,k1,HXW,eW⟩:=Q2t w 25 #[.int .i64 s.limit,.slice A s.ships.length capa,.slice (some ⟨bm,off,none⟩) s.members.length capb] 68 #[.string nm,.int .i64 wt,.slice X lc capx,.slice Y m.outside.length capy,.slice Z m.inflow.length capz];rw [hWW];clear hWW;have K1:=hid k1;clear k0 k1 e0 e1 e2 e3 e4 eW
 go_loopw [8,9,10] (fun lv o t wr=>∃ (k:Nat) (n:Int) (pk:List Int),k <= l.length /\ t=.int .i64 k /\ lv=.int .i64 n /\ (0 <= n /\ n <= 1024 * k) /\ pk.length=k /\ pk ++ m.Q2g k n (l.drop k)=m.Q3z l /\ Q0m wr W.heap.size 3 (.int .i64) o pk /\ Ext W wr) (fun _ _ t _=>l.length - (intOf t).toNat)
 case atStart=>exact ⟨0,0,[],Nat.zero_le _,rfl,rfl,⟨Int.le_refl _,by omega⟩,rfl,rfl,Q0m.nil _ _ _ _,Ext.refl _⟩
 case round =>
  obtain ⟨k,n,pk,hk,rfl,rfl,⟨hn0,hn1⟩,hpk,hr,hown,hx⟩:=hrel;have HR:=hid hr;clear hr
  by_cases hlt:k < l.length
  . obtain ⟨bu,ou,hU,_,hcu⟩:=HCU.out k hlt
    obtain ⟨by',oy,hY,hcy⟩:=HCY.out k (by omega)
    obtain ⟨bz,oz,hZ,hcz⟩:=HCZ.out k (by omega)
    subst hU hY hZ;have hbd:=HBD.out k (by omega)
    have hst:=Y3j m l hlt n;replace hcu:=(HXW.out.trans hx).cell hcu;replace hcy:=(HXW.out.trans hx).cell hcy;replace hcz:=(HXW.out.trans hx).cell hcz;have k1:=K1.out.ext hx;have c3:=k1.cell 3;have c4:=k1.cell 4;simp only [Go.Tw.gA,Go.Tw.gB,Go.Tw.gC] at c3 c4;have hkI:(k:Int) < l.length:=by omega
    have hkY:(k:Int) < m.outside.length:=by omega
    have hkZ:(k:Int) < m.inflow.length:=by omega
    clear k1;cases hq:bx l k with
    | true =>
      rw [hq] at hcu hst;obtain ⟨x,hxv⟩:∃ x,ix m.inflow k=x:=⟨_,rfl⟩;have hst2:m.Q2g k n (l.drop k)=(n + x) :: m.Q2g (k + 1) (n + x) (l.drop (k + 1)):=by rw [hst,<- hxv]; rfl
      rw [hxv] at hcz hbd;have hwr:IntKind.i64.wrap (n + x)=n + x:=Q2h _ (by omega) (by omega)
      have HS:=hid hst2;have HB2:Hid (0 <= n + x /\ n + x <= 1024 * ((k + 1:Nat):Int)):=hid (by omega)
      clear hq hst hst2 hxv
      go_light
      go_wp2_with (at_builtin; refine wpList_append_own _ rfl _ _ 22 rfl (W.heap.size) 3 i0 (.int .i64 0) 1 8 Tryz.underlying22 hi hz0 hz1 hz2 rfl (by decide) _ _ _ rfl (World.ownsRow.alloc hown _) ⟨wr.heap.size,0,none⟩ 1 1 [.int .i64 (n + x)] rfl rfl ?_ ?_ ?_ ?_ ?_ ?_; exact Q3i _ _ _; (focus (simp [Value.oneCell'])); (focus (unfold maxLen; omega)); (focus omega); (focus (have:=hx.size; simp at this ⊢; omega)); intro v' w1 hown' hgrow _)
      have hx2:=Q2e hx hown (Nat.le_refl _) hgrow;go_roundw
      case rel=>exact ⟨k + 1,n + x,pk ++ [n + x],by omega,by go_num,rfl,HB2.out,by simp [hpk],by rw [<- HR.out,HS.out]; simp,Q0m.snoc hown',hx2⟩
      case measure=>simp [intOf]; omega
    | false =>
      rw [hq] at hcu hst;obtain ⟨x,hxv⟩:∃ x,ix m.outside k=x:=⟨_,rfl⟩;have hst2:m.Q2g k n (l.drop k)=x :: m.Q2g (k + 1) 0 (l.drop (k + 1)):=by rw [hst,<- hxv]; rfl
      rw [hxv] at hcy;have HS:=hid hst2;clear hq hst hst2 hxv hbd
      go_light
      go_wp2_with (at_builtin; refine wpList_append_own _ rfl _ _ 22 rfl (W.heap.size) 3 i0 (.int .i64 0) 1 8 Tryz.underlying22 hi hz0 hz1 hz2 rfl (by decide) _ _ _ rfl (World.ownsRow.alloc hown _) ⟨wr.heap.size,0,none⟩ 1 1 [.int .i64 x] rfl rfl ?_ ?_ ?_ ?_ ?_ ?_; exact Q3i _ _ _; (focus (simp [Value.oneCell'])); (focus (unfold maxLen; omega)); (focus omega); (focus (have:=hx.size; simp at this ⊢; omega)); intro v' w1 hown' hgrow _)
      have hx2:=Q2e hx hown (Nat.le_refl _) hgrow;go_roundw
      case rel=>exact ⟨k + 1,0,pk ++ [x],by omega,by go_num,rfl,⟨Int.le_refl _,by omega⟩,by simp [hpk],by rw [<- HR.out,HS.out]; simp,Q0m.snoc hown',hx2⟩
      case measure=>simp [intOf]; omega
  . have hkI:¬ (k:Int) < l.length:=by omega
    have HF:Hid (pk=m.Q3z l):=hid (by rw [<- HR.out,List.drop_eq_nil_of_le (by omega)]; simp [Mem.Q2g])
    go_wp2;go_ret;exact ⟨_,rfl,by rw [<- HF.out]; exact hown.ints (by omega),HXW.out.trans hx⟩
end Go.Proofs
namespace Go.Proofs
open Go.RowKit Go.Tw Go.Flow
theorem Z1f (w:World) (v:Value) (l:List Int) (g:Nat) (c:Value) (p:Int -> Bool) (hv:Q0e w v l) (eg:∀ args w,(callFunc g args).run Tryz.prog w=.ok (.enter g args) w)
    (hp:∀ W x,Ext w W -> x ∈ l -> Calls Tryz.prog g #[.int .i64 x,c] W fun e W'=>e=.returned (.bool (p x)) /\ Ext W W') :
    Calls Tryz.prog 176 #[v,.func (.func g) #[] #[c]] w fun e w'=>∃ r:Int,e=.returned (.int .i64 r) /\ decide (0 <= r)=l.any p /\ Ext w w':=by
 obtain ⟨A,cap,rfl,hl,hcap,hc⟩:=hv.opened;have HP:=hid hp;have HC:=hid hc;clear hv hp hc;go_enter Tryz.func176,Tryz.ntmps176;go_wp2
 go_loopw [8] (fun i wr=>∃ k:Nat,k <= l.length /\ i=.int .i64 k /\ (l.drop k).any p=l.any p /\ Ext w wr) (fun i _=>l.length - (intOf i).toNat)
 case atStart=>exact ⟨0,Nat.zero_le _,rfl,rfl,Ext.refl _⟩
 case round =>
  obtain ⟨k,hk,rfl,hr,hx⟩:=hrel;have HR:=hid hr; clear hr
  by_cases hlt:k < l.length
  . obtain ⟨b,off,rfl,hcell⟩:=HC.out k hlt
    replace hcell:=hx.cell hcell;have hmem:ix l k ∈ l:=by rw [Q4n hlt]; exact List.getElem_mem hlt
    have hd:=Q3d hlt;have HST:Hid (l.any p=(p (ix l k) || (l.drop (k + 1)).any p)):=hid (by rw [<- HR.out,hd,List.any_cons])
    obtain ⟨y,hy⟩:∃ y,ix l k=y:=⟨_,rfl⟩;have HPY:=hid (HP.out wr (ix l k) hx hmem);rw [hy] at HPY hcell HST;obtain ⟨q,hq⟩:∃ q,p y=q:=⟨_,rfl⟩;rw [hq] at HPY HST;clear hq hy hd hmem;cases q with
    | true =>
      go_wp2_with (refine HPY.out.mono ?_; rintro e w9 ⟨rfl,hx9⟩);go_ret;exact ⟨k,rfl,by rw [HST.out]; simp,hx.trans hx9⟩
    | false =>
      go_wp2_with (refine HPY.out.mono ?_; rintro e w9 ⟨rfl,hx9⟩);go_roundw
      case rel=>exact ⟨k + 1,by omega,by go_num,by rw [HST.out,Bool.false_or],hx.trans hx9⟩
      case measure=>simp [intOf]; omega
  . go_wp2
    go_ret;exact ⟨-1,rfl,by rw [<- HR.out,List.drop_eq_nil_of_le (by omega)]; rfl,hx⟩
theorem Y0s (w:World) (v:Value) (l:List Int) (g:Nat) (c:Value) (p:Int -> Bool) (hv:Q0e w v l) (eg:∀ args w,(callFunc g args).run Tryz.prog w=.ok (.enter g args) w)
    (hp:∀ W x,Ext w W -> x ∈ l -> Calls Tryz.prog g #[.int .i64 x,c] W fun e W'=>e=.returned (.bool (p x)) /\ Ext W W') :
    Calls Tryz.prog 138 #[v,.func (.func g) #[] #[c]] w fun e w'=>e=.returned (.bool (l.any p)) /\ Ext w w':=by
 have HI:=hid (Z1f w v l g c p hv eg hp);obtain ⟨A,cap,rfl,hl,hcap,hc⟩:=hv.opened;obtain ⟨q,hq⟩:∃ q,l.any p=q:=⟨_,rfl⟩;rw [hq] at HI ⊢;clear hv hc hp hq;go_enter Tryz.func138,Tryz.ntmps138;go_wp2_with (go_at_call 176; refine HI.out.mono ?_; rintro e w' ⟨r,rfl,hr,hx⟩; have HR:=hid hr; clear hr);go_ret;exact ⟨Q0w HR.out,hx⟩
def X3f (w:World) (v:Value) (m:Mem):Prop:=∃ x y z,v=.agg #[.string m.name,.int .i64 m.weight,x,y,z] /\ Q0e w x m.classes /\ Q0e w y m.outside /\ Q0e w z m.inflow
theorem X3f.ext {w w':World} {v:Value} {m:Mem} (h:X3f w v m) (hx:Ext w w'):X3f w' v m:=let ⟨x,y,z,e,h1,h2,h3⟩:=h; ⟨x,y,z,e,h1.ext hx,h2.ext hx,h3.ext hx⟩
structure OkM (m:Mem) (n:Nat):Prop where
 out:n <= m.outside.length
 inf:n <= m.inflow.length
 bd:∀ k,k < m.inflow.length -> 0 <= ix m.inflow k /\ ix m.inflow k <= 1024
theorem Y9a (w:World) (v:Value) (m:Mem) (t:Nat) (n:Int) (c:Bool) (hv:X3f w v m) (ho:t < m.outside.length) (hi:t < m.inflow.length) (hn:0 <= n /\ n <= 100000) (hb:0 <= ix m.inflow t /\ ix m.inflow t <= 1024) :
    Calls Tryz.prog 173 #[v,.int .i64 (t:Int),.int .i64 n,.bool c] w fun e w'=>e=.returned (.tuple #[.int .i64 (m.stepT t n c).1,.int .i64 (m.stepT t n c).2]) /\ Ext w w':=by
 obtain ⟨x,y,z,rfl,hx,hy,hz⟩:=hv;obtain ⟨X,capx,rfl,-,-,-⟩:=hx.opened;obtain ⟨Y,capy,rfl,-,-,hcY⟩:=hy.opened;obtain ⟨Z,capz,rfl,-,-,hcZ⟩:=hz.opened;obtain ⟨by',oy,rfl,hcy⟩:=hcY t ho
 obtain ⟨bz,oz,rfl,hcz⟩:=hcZ t hi;have hbox:=Ext.box w (.cells #[.string m.name,.int .i64 m.weight,.slice X m.classes.length capx,.slice (some ⟨by',oy,none⟩) m.outside.length capy,.slice (some ⟨bz,oz,none⟩) m.inflow.length capz] 69)
 have K0:=Blk.made w 69 #[.string m.name,.int .i64 m.weight,.slice X m.classes.length capx,.slice (some ⟨by',oy,none⟩) m.outside.length capy,.slice (some ⟨bz,oz,none⟩) m.inflow.length capz]
 have c0:=(K0).cell 0;have c1:=(K0).cell 1;have c2:=(K0).cell 2;have c3:=(K0).cell 3;have c4:=(K0).cell 4;simp only [Go.Tw.gA,Go.Tw.gB,Go.Tw.gC] at c0 c1 c2 c3 c4;replace hcy:=hbox.cell hcy;replace hcz:=hbox.cell hcz;have htO:(t:Int) < m.outside.length:=by omega
 have htI:(t:Int) < m.inflow.length:=by omega
 clear hx hy hz hcY hcZ K0;cases c with
 | true =>
   have HS:Hid (m.stepT t n true=(n + ix m.inflow t,n + ix m.inflow t)):=hid rfl;have hwr:IntKind.i64.wrap (n + ix m.inflow t)=n + ix m.inflow t:=Q2h _ (by omega) (by omega)
   rw [HS.out];obtain ⟨d,hd⟩:∃ d,ix m.inflow t=d:=⟨_,rfl⟩;rw [hd] at hcz hwr ⊢;clear hd hb;go_enter Tryz.func173,Tryz.ntmps173;go_wp2;go_ret2;exact ⟨rfl,hbox⟩
 | false =>
   have HS:Hid (m.stepT t n false=(ix m.outside t,0)):=hid rfl;rw [HS.out];clear hb;go_enter Tryz.func173,Tryz.ntmps173;go_wp2;go_ret2;exact ⟨rfl,hbox⟩
theorem Z3i {m:Mem} {t:Nat} {n:Int} {c:Bool} {k:Nat} (hn:0 <= n /\ n <= 1024 * k) (hb:0 <= ix m.inflow t /\ ix m.inflow t <= 1024):0 <= (m.stepT t n c).2 /\ (m.stepT t n c).2 <= 1024 * ((k + 1:Nat):Int):=by
 unfold Mem.stepT;cases c with
 | true=>simp only [if_true]; omega
 | false=>simp only [Bool.false_eq_true,if_false]; omega
theorem Y2x (w:World) (v u:Value) (m:Mem) (l:List Bool) (hv:X3f w v m) (hu:Q0r w u l) (hl9:l.length <= 9) (hm:OkM m l.length) :
    Calls Tryz.prog 127 #[v,u] w fun e w'=>∃ x,e=.returned x /\ Q0e w' x (m.Q3z l) /\ Ext w w':=by
 obtain ⟨i0,hi,hz0,hz1,hz2⟩:=info_parts Tryz.info3;have HV:=hid hv;obtain ⟨x,y,z,rfl,hx,hy,hz⟩:=hv;obtain ⟨X,capx,rfl,-,-,-⟩:=hx.opened;obtain ⟨Y,capy,rfl,-,-,-⟩:=hy.opened;obtain ⟨Z,capz,rfl,-,-,-⟩:=hz.opened;obtain ⟨U,capu,rfl,-,-,hcU⟩:=hu.opened;have HCU:=hid hcU;have HM:=hid hm;clear hx hy hz hcU hu hm;go_enter Tryz.func127,Tryz.ntmps127;go_wp2_with fail;change Code.wp _ _ _ _ (w.alloc (.cells #[.string m.name,.int .i64 m.weight,.slice X m.classes.length capx,.slice Y m.outside.length capy,.slice Z m.inflow.length capz] 69));obtain ⟨W,hWW,k0,HXW,eW⟩:=Q1u w 69 #[.string m.name,.int .i64 m.weight,.slice X m.classes.length capx,.slice Y m.outside.length capy,.slice Z m.inflow.length capz];rw [hWW];clear hWW;have K0:=hid k0;clear k0
 go_loopw [5,6,13] (fun o lv t wr=>∃ (k:Nat) (n:Int) (pk:List Int),k <= l.length /\ t=.int .i64 k /\ lv=.int .i64 n /\ (0 <= n /\ n <= 1024 * k) /\ pk.length=k /\ pk ++ m.Q2g k n (l.drop k)=m.Q3z l /\ Q0m wr W.heap.size 3 (.int .i64) o pk /\ Ext W wr) (fun _ _ t _=>l.length - (intOf t).toNat)
 case atStart=>exact ⟨0,0,[],Nat.zero_le _,rfl,rfl,⟨Int.le_refl _,by omega⟩,rfl,rfl,Q0m.nil _ _ _ _,Ext.refl _⟩
 case round =>
  obtain ⟨k,n,pk,hk,rfl,rfl,hn,hpk,hr,hown,hx⟩:=hrel;have HR:=hid hr;have HN:=hid hn;have HPK:=hid hpk;clear hr
  by_cases hlt:k < l.length
  . obtain ⟨bu,ou,rfl,-,hcu⟩:=HCU.out k hlt
    replace hcu:=(HXW.out.trans hx).cell hcu;have hst:=Y3j m l hlt n;have hbd:=HM.out.bd k (by have:=HM.out.inf; omega)
    have HLB:=hid (Z3i (c:=bx l k) hn hbd);have HCALL:=hid (fun wr (hx:Ext w wr)=>Y9a wr _ m k n (bx l k) (HV.out.ext hx) (by have:=HM.out.out; omega) (by have:=HM.out.inf; omega) ⟨hn.1,by omega⟩ hbd)
    obtain ⟨c,hc⟩:∃ c,bx l k=c:=⟨_,rfl⟩;rw [hc] at hcu hst HLB HCALL;obtain ⟨P,hP⟩:∃ P,(m.stepT k n c).1=P:=⟨_,rfl⟩;obtain ⟨Q,hQ⟩:∃ Q,(m.stepT k n c).2=Q:=⟨_,rfl⟩;rw [hP,hQ] at hst HCALL;rw [hQ] at HLB;have HST:=hid hst;have c0:=(K0.out.ext hx).cell 0;have c1:=(K0.out.ext hx).cell 1;have c2:=(K0.out.ext hx).cell 2;have c3:=(K0.out.ext hx).cell 3;have c4:=(K0.out.ext hx).cell 4;simp only [Go.Tw.gA,Go.Tw.gB,Go.Tw.gC] at c0 c1 c2 c3 c4;have hkI:(k:Int) < l.length:=by omega
    have HXX:=hid hx;have HOW:=hid hown;have hll:pk.length <= 4096:=by omega
    clear hst hP hQ hc hn hbd hown hpk hx
    go_light
    go_wp2_with (first | (go_at_call 173; refine (HCALL.out _ (HXW.out.trans HXX.out)).mono ?_; rintro e w5 ⟨rfl,hx5⟩; have hown:=HOW.out.below hx5; have hx6:=HXX.out.trans hx5) | (at_builtin; refine wpList_append_own _ rfl _ _ 22 rfl (W.heap.size) 3 i0 (.int .i64 0) 1 8 Tryz.underlying22 hi hz0 hz1 hz2 rfl (by decide) _ _ _ rfl (World.ownsRow.alloc hown _) ⟨w5.heap.size,0,none⟩ 1 1 [.int .i64 P] rfl rfl ?_ ?_ ?_ ?_ ?_ ?_; exact Q3i _ _ _; (focus (simp [Value.oneCell'])); (focus (unfold maxLen; omega)); (focus omega); (focus (have:=hx6.size; simp at this ⊢; omega)); intro v' w1 hown' hgrow _))
    have hx2:=Q2e hx6 hown (Nat.le_refl _) hgrow;go_roundw
    case rel=>exact ⟨k + 1,Q,pk ++ [P],by omega,by go_num,rfl,HLB.out,by rw [List.length_append,HPK.out]; rfl,by rw [<- HR.out,HST.out]; simp,Q0m.snoc hown',hx2⟩
    case measure=>simp [intOf]; omega
  . have HF:Hid (pk=m.Q3z l):=hid (by rw [<- HR.out,List.drop_eq_nil_of_le (by omega)]; simp [Mem.Q2g])
    go_wp2;go_ret;exact ⟨_,rfl,by rw [<- HF.out]; exact hown.ints (by omega),HXW.out.trans hx⟩
theorem Y9m (W:World) (x lim:Int) (B:Nat) (hB:W.cell? ⟨B,0,none⟩=some (.int .i64 lim)) :
    Calls Tryz.prog 171 #[.int .i64 x,.pointer (some ⟨B,0,none⟩)] W fun e W'=>e=.returned (.bool (decide (lim < x))) /\ Ext W W':=by
 go_enter Tryz.func171,Tryz.ntmps171;go_wp2;go_ret;exact ⟨rfl,Ext.refl _⟩
theorem X0p (w:World) (v u:Value) (m:Mem) (lim:Int) (l:List Bool) (hv:X3f w v m) (hu:Q0r w u l) (hl9:l.length <= 9) (hm:OkM m l.length) :
    Calls Tryz.prog 113 #[v,.int .i64 lim,u] w fun e w'=>e=.returned (.bool (m.keeps lim l)) /\ Ext w w':=by
 have HV:=hid hv;obtain ⟨x,y,z,rfl,hx,hy,hz⟩:=hv;obtain ⟨X,capx,rfl,-,-,-⟩:=hx.opened;obtain ⟨Y,capy,rfl,-,-,-⟩:=hy.opened;obtain ⟨Z,capz,rfl,-,-,-⟩:=hz.opened;have HU:=hid hu;obtain ⟨U,capu,rfl,-,-,-⟩:=hu.opened;have HM:=hid hm;have HKE:Hid (m.keeps lim l = !((m.Q3z l).any fun x=>decide (lim < x))):=hid rfl;have HPL:=hid (Z6q m l);clear hx hy hz hu hm;go_enter Tryz.func113,Tryz.ntmps113;go_wp2_with fail;change Calls _ _ _ ((w.alloc (.cells #[.string m.name,.int .i64 m.weight,.slice X m.classes.length capx,.slice Y m.outside.length capy,.slice Z m.inflow.length capz] 69)).alloc (.cells #[.int .i64 lim] 3)) _;obtain ⟨W,hWW,k0,k1,HXW,eW⟩:=Q2t w 69 #[.string m.name,.int .i64 m.weight,.slice X m.classes.length capx,.slice Y m.outside.length capy,.slice Z m.inflow.length capz] 3 #[.int .i64 lim];rw [hWW];clear hWW;have K1:=hid k1;clear k0 k1;refine (Y2x _ _ _ m l (HV.out.ext HXW.out) (HU.out.ext HXW.out) hl9 HM.out).mono ?_;rintro e w5 ⟨pv,rfl,hp,hx5⟩;have HCF:=hid (Y0s w5 pv (m.Q3z l) 171 (.pointer (some ⟨w.heap.size + 1,0,none⟩)) (fun x=>decide (lim < x)) hp (enters_of Tryz.func171 (by kernel_rfl) rfl) (fun W' x hx _=>Y9m W' x lim _ ((K1.out.ext (hx5.trans hx)).cell 0)))
 obtain ⟨q,hq⟩:∃ q,((m.Q3z l).any fun x=>decide (lim < x))=q:=⟨_,rfl⟩
 rw [hq] at HCF HKE;obtain ⟨P,capp,rfl,-,-,-⟩:=hp.opened;have HX5:=hid (HXW.out.trans hx5);clear hp hx5 hq;go_wp2_with (go_at_call 138; refine HCF.out.mono ?_; rintro e w6 ⟨rfl,hx6⟩);go_ret;exact ⟨Q0w HKE.out.symm,HX5.out.trans hx6⟩
end Go.Proofs
namespace Go.Tw
def Q2p (p:List Rul) (h:List Int):List Bool:=(p.filter fun r=>r.classes == h).map Rul.close
def X1n (p:List Rul) (l:List Int) (n:Nat):List Bool:=(List.range n).flatMap fun t=>Q2p p (l.take (t + 1))
theorem X5u:∀ {p:List Rul} {h:List Int},h ∉ p.map Rul.classes -> Q2p p h=[]
 | [],_,_=>rfl
 | r :: p,h,hm=>by
   unfold Q2p;rw [List.map_cons,List.mem_cons,not_or] at hm;rw [List.filter_cons,if_neg (by simpa using fun e=>hm.1 e.symm)]
   exact X5u hm.2
theorem Y0k:∀ {p:List Rul} {h:List Int},(p.map Rul.classes).Nodup -> h ∈ p.map Rul.classes -> Q2p p h=[look p h]
 | [],_,_,hm=>by cases hm
 | r :: p,h,hn,hm=>by
   rw [List.map_cons,List.nodup_cons] at hn
   by_cases hr:r.classes=h
   . subst hr
     have h0:=X5u hn.1;unfold Q2p look at *;rw [List.filter_cons,if_pos (by simp),List.map_cons,h0,List.find?_cons]
     simp
   . rw [List.map_cons,List.mem_cons] at hm
     have hm':h ∈ p.map Rul.classes:=hm.resolve_left fun e=>hr e.symm;have ih:=Y0k hn.2 hm';unfold Q2p look at *;rw [List.filter_cons,if_neg (by simpa using hr),ih,List.find?_cons]
     have:(r.classes == h)=false:=by simpa using hr
     rw [this]
theorem Y8b {l:List (List Int)} (h:Asc l):l.Nodup:=h.imp fun h e=>by subst e; exact Q7l _ h
theorem Q2l {h:List (List Int)} {p:List Rul}:Q1c h p=0 ↔ p.map Rul.classes=h:=by
 unfold Q1c
 constructor
 . intro e
   split at e
   . cases e
   . split at e
     . cases e
     . rename_i h2; exact Decidable.not_not.1 h2
 . intro e
   have hl:p.length=h.length:=by rw [<- e,List.length_map]
   rw [if_neg (fun hn=>hn hl),if_neg (fun hn=>hn e)]
theorem Z1y {s:Q0b} (hs:s.Shaped) {p:List Rul} (hp:Q1c s.hist p=0) {i:Nat} (hi:i < s.members.length) (hl:(Q0c s.members i).length=s.ships.length):X1n p (Q0c s.members i) s.ships.length=Q0i p (Q0c s.members i):=by
 have he:=Q2l.1 hp;have hn:(p.map Rul.classes).Nodup:=by rw [he]; exact Y8b (Q0b.Y3z hs)
 unfold X1n Q0i;rw [hl];have:∀ l:List Nat,(∀ t ∈ l,t < s.ships.length) -> (l.flatMap fun t=>Q2p p ((Q0c s.members i).take (t + 1)))=l.map fun t=>look p ((Q0c s.members i).take (t + 1)):=by
  intro l
  induction l with
  | nil=>intro _; rfl
  | cons t l ih =>
    intro ht;rw [List.flatMap_cons,List.map_cons,ih fun u hu=>ht u (List.mem_cons_of_mem _ hu),Y0k hn]
    . rfl
    . rw [he]
      exact (Q0b.Q4h _ _).2 ⟨t,ht t (List.mem_cons_self ..),i,hi,rfl⟩
 exact this _ fun t ht=>List.mem_range.1 ht
end Go.Tw
