/- Plain facts of PolicyFiner: classes set cell by cell; the weight of the members that are not Z9g. Plain law of TopKeelCertain: with one class for all members a policy is one list of closings. What the loops of PolicyFiner keep: two copies of the Q9v, apart, with classes set cell by cell. What the walks of TopKeelCertain share: closings as a set's row, First for any closings, one copy of the Q9v whose classes are set cell by cell. The law TopKeelCertain: a round of the loop over the members of one set, for any exits (written by gen/kcert.py). The law TopKeelCertain: a round of the loop over the sets, for any exits (written by gen/kcert.py). The law TopKeelCertain: the end (written by gen/kcert.py). The law TopKeelCertain: from region 15 on (written by gen/kcert.py). The law TopKeelCertain: from region 3 on (written by gen/kcert.py). The law TopKeelCertain: its head (written by gen/kcert.py). The law TopKeelCertain: for every input the call returns true, and each argument reads afterwards as before: the row's statement. -/
import Derived.Test.YtodinjclfmiohaaGreatKc09
import Derived.Test.YtodinjclfmiohaaGreatKc07
import Derived.Test.YtodinjclfmiohaaGreatKc02
import Derived.Test.YtodinjclfmiohaaGreatKc08
import Derived.Test.YtodinjclfmiohaaGreatKc03
import Derived.Test.YtodinjclfmiohaaGreatKc01
import Derived.Test.YtodinjclfmiohaaGreatKc05
import Derived.Test.YtodinjclfmiohaaGreatKc06
set_option maxRecDepth 1000000
set_option maxHeartbeats 64000000
set_option linter.unusedVariables false
set_option linter.unusedSimpArgs false
set_option linter.constructorNameAsVariable false
namespace Go.Proofs
open Go.Tw
def recC (s:Q0b) (g:Nat -> Int) (i t j:Nat):List Int:=if j < i then (Q0d s.members j).map fun _=>g j else if j = i then ((Q0d s.members j).take t).map (fun _=>g j) ++ (Q0d s.members j).drop t else Q0d s.members j
def Y7d (s:Q0b) (g:Nat -> Int) (i t:Nat):List Mem:=(List.range s.members.length).map fun j=>{ Q1k s j with classes:=recC s g i t j }
theorem Q5l (s:Q0b) (g:Nat -> Int) (i t:Nat):(Y7d s g i t).length = s.members.length:=by simp [Y7d]
theorem J0d (s:Q0b) (g:Nat -> Int):Y7d s g 0 0 = s.members:=by
 apply List.ext_getElem (Q5l s g 0 0)
 intro j h1 h2;have e:recC s g 0 0 j = Q0d s.members j:=by
  unfold recC;rw [if_neg (Nat.not_lt_zero _)]
  split <;> simp
 simp only [Y7d,List.getElem_map,List.getElem_range,e];unfold Q1k Q0d;rw [Q0y _ h2]
theorem Y6j (s:Q0b) (g:Nat -> Int):Y7d s g s.members.length 0 = (X2r s g).members:=by
 apply List.ext_getElem (by rw [Q5l,Q2b])
 intro j h1 h2;have hj:j < s.members.length:=by rwa [Q5l] at h1
 simp only [Y7d,List.getElem_map,List.getElem_range,recC,if_pos hj];simp only [X2r,List.getElem_mapIdx];unfold Q1k Q0d;rw [Q0y _ hj]
theorem X8j (s:Q0b) (g:Nat -> Int) {i T:Nat} (h:(Q0d s.members i).length = T):Y7d s g i T = Y7d s g (i + 1) 0:=by
 unfold Y7d
 apply List.map_congr_left
 intro j hj;have e:recC s g i T j = recC s g (i + 1) 0 j:=by
  unfold recC
  by_cases h1:j < i
  . rw [if_pos h1,if_pos (by omega)]
  . rw [if_neg h1]
    by_cases h2:j = i
    . subst h2
      rw [if_pos rfl,if_pos (by omega),List.take_of_length_le (by omega),List.drop_of_length_le (by omega),List.append_nil]
    . rw [if_neg h2,if_neg (by omega)]
      split
      . rename_i h3; subst h3; simp
      . rfl
 rw [e]
theorem Y4r (s:Q0b) (g:Nat -> Int) (i t j:Nat):(recC s g i t j).length = (Q0d s.members j).length:=by
 unfold recC
 split
 . simp
 . split
   . simp; omega
   . rfl
theorem X1z (s:Q0b) (g:Nat -> Int) (i t:Nat) {j:Nat} (hj:j < (Y7d s g i t).length):(Y7d s g i t)[j] = { Q1k s j with classes:=recC s g i t j }:=by simp [Y7d]
theorem J3x (s:Q0b) (g:Nat -> Int) {i t:Nat} (ht:t < (Q0d s.members i).length):(recC s g i t i).set t (g i) = recC s g i (t + 1) i:=by
 unfold recC;rw [if_neg (Nat.lt_irrefl _),if_pos rfl,if_neg (Nat.lt_irrefl _),if_pos rfl]
 apply List.ext_getElem
 . simp; omega
 . intro k h1 h2
   rw [List.getElem_set]
   by_cases e:t = k
   . subst e
     rw [if_pos rfl,List.getElem_append_left (by simp; omega)]
     simp
   . rw [if_neg e]
     by_cases hlt:k < t
     . rw [List.getElem_append_left (by simp; omega),List.getElem_append_left (by simp; omega)]
       simp
     . rw [List.getElem_append_right (by simp; omega),List.getElem_append_right (by simp; omega)]
       simp only [List.length_map,List.length_take,List.getElem_drop]
       congr 1
       omega
theorem Y5r (s:Q0b) (g:Nat -> Int) {i t:Nat} (ht:t < (Q0d s.members i).length):(Y7d s g i t).set i { Q1k s i with classes:=(recC s g i t i).set t (g i) } = Y7d s g i (t + 1):=by
 apply List.ext_getElem
 . rw [List.length_set,Q5l,Q5l]
 . intro j h1 h2
   rw [List.getElem_set]
   by_cases e:i = j
   . subst e
     rw [if_pos rfl,X1z,J3x s g ht]
   . rw [if_neg e,X1z,X1z]
     have:recC s g i t j = recC s g i (t + 1) j:=by
      unfold recC
      by_cases h3:j < i
      . rw [if_pos h3,if_pos h3]
      . rw [if_neg h3,if_neg h3,if_neg (fun h=>e h.symm),if_neg (fun h=>e h.symm)]
     rw [this]
end Go.Proofs
namespace Go.Tw
open Go.Proofs
variable {s:Q0b}
def Q2u (s:Q0b):Q0b:=X2r s fun _=>0
def Q9i (s:Q0b) (l:List Bool):Int:=Q5t (fun k=>if (Q1k s k).keeps s.limit l then Q0h s.members k else 0) s.members.length
def Y5z (s:Q0b):Int:=Q5t (fun k=>Q0h s.members k) s.members.length
def cP (p:List Rul) (T:Nat):List Bool:=(List.range T).map fun t=>look p (List.replicate (t + 1) 0)
theorem Q9u (hv:Q0m s):Q0m (Q2u s):=Z5h hv fun _ _=>⟨by decide,by decide⟩
theorem X6j (hv:Q0m s) (p:List Rul) {i:Nat} (hi:i < s.members.length):Q0w p (Q0d (Q2u s).members i) = cP p s.ships.length:=by
 unfold Q0w Q2u cP;rw [Q4j hv.toFine _ hi,List.length_replicate]
 apply List.map_congr_left
 intro t ht;rw [List.take_replicate,Nat.min_eq_left (by have:=List.mem_range.1 ht; omega)]
theorem X7j (hv:Q0m s) (p:List Rul):Q6b (Q2u s) (X9b (Q2u s) p) = Q9i s (cP p s.ships.length):=by
 unfold Q6b X9b Q9i Q5t;rw [List.map_map,show (Q2u s).members.length = s.members.length from Q2b _]
 rw [<- Q7n (fun i=>(Q1k (Q2u s) i).keeps (Q2u s).limit (Q0w p (Q1k (Q2u s) i).classes)) ((fun i:Int=>Q0h (Q2u s).members i.toNat) ∘ Int.ofNat)]
 congr 1
 apply List.map_congr_left
 intro k hk;have hk':=List.mem_range.1 hk;have e1:=X6j hv p hk';have e2:Q0h (Q2u s).members k = Q0h s.members k:=X1m _ hk';have e3:(Q1k (Q2u s) k).keeps (Q2u s).limit (cP p s.ships.length) = (Q1k s k).keeps s.limit (cP p s.ships.length):=Y3r _ hk' _ _;have e4:Q0w p (Q1k (Q2u s) k).classes = cP p s.ships.length:=e1;rw [e4,e3];show (if _ then Q0h (Q2u s).members k else 0) = _
 rw [e2]
theorem J1j (hv:Q0m s) (p:List Rul) (g:List Bool -> Int):((Q2u s).members.map fun m=>m.weight * g (Q0w p m.classes)).sum = Y5z s * g (cP p s.ships.length):=by
 rw [Q7h default (fun m:Mem=>m.weight * g (Q0w p m.classes)) (Q2u s).members,show (Q2u s).members.length = s.members.length from Q2b _]
 unfold Y5z Q5t;have h:∀ l:List Nat,(∀ k ∈ l,k < s.members.length) -> (l.map fun i=>((Q2u s).members.getD i default).weight * g (Q0w p ((Q2u s).members.getD i default).classes)).sum = (l.map fun k=>Q0h s.members k).sum * g (cP p s.ships.length):=by
  intro l
  induction l with
  | nil=>intro _; simp
  | cons a l ih =>
    intro ha;rw [List.map_cons,List.sum_cons,List.map_cons,List.sum_cons,ih (fun k hk=>ha k (List.mem_cons_of_mem _ hk)),Int.add_mul]
    congr 1
    have h1:Q0w p ((Q2u s).members.getD a default).classes = cP p s.ships.length:=X6j hv p (ha a List.mem_cons_self);have h2:((Q2u s).members.getD a default).weight = Q0h s.members a:=X1m _ (ha a List.mem_cons_self);rw [h1,h2]
 exact h _ fun k hk=>List.mem_range.1 hk
theorem Y9x (hv:Q0m s) (p:List Rul):Q3j (Q2u s) p = Y5z s * countB (cP p s.ships.length):=J1j hv p countB
theorem Y7z (hv:Q0m s) (p:List Rul):X1f (Q2u s) p = Y5z s * Q2s s (cP p s.ships.length):=J1j hv p (Q2s s)
theorem J4w (p:List Rul) (T:Nat):∃ n,n < 2 ^ T /\ Q7f n T = cP p T:=by
 obtain ⟨n,hn,h⟩:=Q8r T fun t=>look p (List.replicate (t + 1) 0)
 exact ⟨n,hn,List.map_congr_left fun t ht=>h t (List.mem_range.1 ht)⟩
theorem J4v (hv:Q0m s) (n:Nat):∃ p,cP p s.ships.length = Q7f n s.ships.length:=by
 refine ⟨(Q2u s).hist.map fun h=>⟨h,n.testBit (h.length - 1)⟩,?_⟩;unfold cP Q7f
 apply List.map_congr_left
 intro t ht;have ht':=List.mem_range.1 ht;have hm:List.replicate (t + 1) (0:Int) ∈ (Q2u s).hist:=by
  have:=Z2e (s:=Q2u s) (i:=0) (u:=t + 1) (by rw [show (Q2u s).members.length = s.members.length from Q2b _]; exact hv.some.1) (by omega) (by show t + 1 <= s.ships.length; omega)
  rwa [show hs (Q2u s) 0 (t + 1) = List.replicate (t + 1) 0 from J0j hv.toFine _ hv.some.1 (by omega)] at this
 rw [Y4z _ _ _ hm,List.length_replicate,Nat.add_sub_cancel]
def Q1b (s:Q0b):Nat -> Int × Int × Int
 | 0=>(-1,0,0)
 | n + 1 =>
   if (Q1b s n).1 < Q9i s (Q7f n s.ships.length) ∨ Q9i s (Q7f n s.ships.length) = (Q1b s n).1 /\ (countB (Q7f n s.ships.length) < (Q1b s n).2.1 ∨ countB (Q7f n s.ships.length) = (Q1b s n).2.1 /\ Q2s s (Q7f n s.ships.length) < (Q1b s n).2.2)
   then (Q9i s (Q7f n s.ships.length),countB (Q7f n s.ships.length),Q2s s (Q7f n s.ships.length)) else Q1b s n
theorem Q6i (hv:Q0m s) (l:List Bool):0 <= Q9i s l:=X4z fun k hk=>by
 have:=(hv.weights k (List.mem_range.1 hk)).1
 split <;> omega
theorem Y6g (hv:Q0m s) (l:List Bool):Q9i s l <= Y5z s:=J0b fun k hk=>by
 have:=(hv.weights k (List.mem_range.1 hk)).1
 split <;> omega
theorem J1t (hv:Q0m s):1 <= Y5z s /\ Y5z s <= 1000 * s.members.length:=by
 have h1:=(Q7u (f:=fun k=>Q0h s.members k) (b:=1000) (fun i (hi:i < s.members.length)=>by have:=hv.weights i hi; omega) (by decide) s.members.length (Nat.le_refl _)).2
 have h2:=J4x (g:=fun k=>Q0h s.members k) (List.mem_range.2 hv.some.1) fun k hk=>by have:=(hv.weights k (List.mem_range.1 hk)).1; omega
 have h3:=(hv.weights 0 hv.some.1).1;have h4:=hv.some.2;have h5:Q0h s.members 0 <= Y5z s:=h2;have h6:Y5z s <= 1000 * s.members.length:=h1;omega
theorem Q8h (hv:Q0m s):∀ n,0 < n -> (∃ k,k < n /\ Q1b s n = (Q9i s (Q7f k s.ships.length),countB (Q7f k s.ships.length),Q2s s (Q7f k s.ships.length))) /\
    ∀ j,j < n -> Q9i s (Q7f j s.ships.length) < (Q1b s n).1 ∨ Q9i s (Q7f j s.ships.length) = (Q1b s n).1 /\ ((Q1b s n).2.1 < countB (Q7f j s.ships.length) ∨ (Q1b s n).2.1 = countB (Q7f j s.ships.length) /\ (Q1b s n).2.2 <= Q2s s (Q7f j s.ships.length))
 | 0,h=>absurd h (Nat.lt_irrefl _)
 | n + 1,_=>by
   have hn:=Q6i hv (Q7f n s.ships.length);obtain ⟨W,hW⟩:∃ x,Q9i s (Q7f n s.ships.length) = x:=⟨_,rfl⟩;obtain ⟨C,hC⟩:∃ x,countB (Q7f n s.ships.length) = x:=⟨_,rfl⟩;obtain ⟨D,hD⟩:∃ x,Q2s s (Q7f n s.ships.length) = x:=⟨_,rfl⟩;obtain ⟨⟨m,f,d⟩,hr⟩:∃ x,Q1b s n = x:=⟨_,rfl⟩;rw [show Q1b s (n + 1) = if m < W ∨ W = m /\ (C < f ∨ C = f /\ D < d) then (W,C,D) else (m,f,d) by rw [Q1b,hr,hW,hC,hD]]
   rw [hW] at hn
   by_cases h0:n = 0
   . subst h0
     have:(m,f,d) = ((-1:Int),(0:Int),(0:Int)):=hr.symm;injection this with e1 e2;injection e2 with e2 e3;subst e1 e2 e3;rw [if_pos (.inl (by omega))]
     refine ⟨⟨0,by omega,by rw [hW,hC,hD]⟩,fun j hj=>?_⟩
     obtain rfl:j = 0:=by omega
     rw [hW,hC,hD];exact .inr ⟨rfl,.inr ⟨rfl,Int.le_refl _⟩⟩
   . obtain ⟨⟨k,hk,hk2⟩,hall⟩:=Q8h hv n (by omega)
     rw [hr] at hk2 hall;dsimp only at hall
     split
     . rename_i hc
       refine ⟨⟨n,by omega,by rw [hW,hC,hD]⟩,fun j hj=>?_⟩
       dsimp only
       rcases Nat.lt_or_ge j n with hjn | hjn
       . have:=hall j hjn
         omega
       . obtain rfl:j = n:=by omega
         rw [hW,hC,hD];omega
     . rename_i hc
       refine ⟨⟨k,by omega,hk2⟩,fun j hj=>?_⟩
       dsimp only
       rcases Nat.lt_or_ge j n with hjn | hjn
       . exact hall j hjn
       . obtain rfl:j = n:=by omega
         rw [hW,hC,hD];omega
theorem Z3s (hv:Q0m s):X7f (Q2u s) = (Q1b s (2 ^ s.ships.length)).1:=by
 obtain ⟨⟨k,hk,e⟩,hall⟩:=Q8h hv (2 ^ s.ships.length) (Nat.pow_pos (by decide))
 have hv':=Q9u hv;refine Int.le_antisymm ?_ ?_
 . obtain ⟨x,hx,hw⟩:=Y9m hv'
   obtain ⟨h1,-,-⟩:=Y4k hv'.toFine hx;rw [X7j hv] at h1;obtain ⟨n,hn,hs⟩:=J4w (X0e (Q2u s) x) s.ships.length;have:=hall n hn;rw [hs,h1] at this;omega
 . obtain ⟨p,hp⟩:=J4v hv k
   have:=Z9h hv'.toFine p;rw [X7j hv,hp] at this;rw [e]; exact this
theorem J4a (hv:Q0m s):Y1m (Q2u s) (Q1b s (2 ^ s.ships.length)).1 = (Y5z s * (Q1b s (2 ^ s.ships.length)).2.1,Y5z s * (Q1b s (2 ^ s.ships.length)).2.2,0):=by
 have hv':=Q9u hv;have hm:=Z3s hv;obtain ⟨⟨k,hk,e⟩,hall⟩:=Q8h hv (2 ^ s.ships.length) (Nat.pow_pos (by decide))
 obtain ⟨⟨m,f,d⟩,hr⟩:∃ x,Q1b s (2 ^ s.ships.length) = x:=⟨_,rfl⟩;rw [hr] at hm hall e ⊢;dsimp only at hm hall ⊢;injection e with e1 e2;injection e2 with e2 e3;have ht:=J1t hv;have h88:=hv.some.2;have hm0:0 <= m:=by rw [e1]; exact Q6i hv _
 have hmt:m <= Y5z s:=by rw [e1]; exact Y6g hv _
 obtain ⟨p,hp⟩:=J4v hv k;obtain ⟨x,hx,hle⟩:=Z2y hv' (need:=m) p (by rw [X7j hv,hp,<- e1]; exact Int.le_refl _)
 rw [Y9x hv,Y7z hv,hp,<- e2,<- e3] at hle;have hxm:=J2a (s:=Q2u s) (x:=x) (by rw [hm]; exact hx)
 rw [hm] at hxm;obtain ⟨hxp,-⟩:=(X7p (s:=Q2u s) m).2 x hx;obtain ⟨h1,h2,h3⟩:=Y4k hv'.toFine hxp;rw [X7j hv,hxm] at h1;rw [Y9x hv] at h2;rw [Y7z hv] at h3;obtain ⟨n,hn,hsn⟩:=J4w (X0e (Q2u s) x) s.ships.length;have hj:=hall n hn;rw [hsn,h1] at hj;have hj2:f < countB (cP (X0e (Q2u s) x) s.ships.length) ∨ f = countB (cP (X0e (Q2u s) x) s.ships.length) /\ d <= Q2s s (cP (X0e (Q2u s) x) s.ships.length):=by omega
 have hF:Y6q (Q2u s) m = 0:=by
  unfold Y6q;rw [hv'.err,Q1p.2 ⟨hm0,by omega⟩]; rfl
 have hb:Y1m (Q2u s) m = (x.closings,x.delay,0):=by
  unfold Y1m;rw [if_neg (fun h=>h hF),hx]
 rw [hb,<- h2,<- h3];rw [<- h2,<- h3] at hle;obtain ⟨c,hc⟩:∃ z,countB (cP (X0e (Q2u s) x) s.ships.length) = z:=⟨_,rfl⟩;obtain ⟨y,hy⟩:∃ z,Q2s s (cP (X0e (Q2u s) x) s.ships.length) = z:=⟨_,rfl⟩;rw [hc,hy] at hle hj2 ⊢;have ht0:0 < Y5z s:=by omega
 have hcf:c = f:=by
  rcases hj2 with h | ⟨h,-⟩
  . have:=Int.mul_lt_mul_of_pos_left h ht0
    omega
  . exact h.symm
 subst hcf;have hyd:y = d:=by
  rcases hj2 with h | ⟨-,h⟩
  . omega
  . rcases hle with h4 | ⟨-,h4⟩
    . omega
    . exact Int.le_antisymm (Int.le_of_mul_le_mul_left h4 ht0) h
 subst hyd;rfl
theorem Z4f (hv:Q0m s) {i:Nat} (hi:i < s.members.length):Q8e (Q2u s) i = List.range s.members.length:=by
 unfold Q8e;rw [show (Q2u s).members.length = s.members.length from Q2b _,List.filter_eq_self]
 intro k hk;rw [show Q0d (Q2u s).members k = _ from Q4j hv.toFine _ (List.mem_range.1 hk),show Q0d (Q2u s).members i = _ from Q4j hv.toFine _ hi]
 simp
theorem Y2n (hv:Q0m s) (n:Nat):Q9b (Q2u s) (List.range s.members.length) n = Q9i s (Q7q n s.ships.length):=by
 unfold Q9b Q9i Q5t
 congr 1
 apply List.map_congr_left
 intro k hk;have hk':=List.mem_range.1 hk;rw [show (Q1k (Q2u s) k).keeps (Q2u s).limit (Q7q n (Q2u s).ships.length) = (Q1k s k).keeps s.limit (Q7q n s.ships.length) from Y3r _ hk' _ _,show Q0h (Q2u s).members k = Q0h s.members k from X1m _ hk']
theorem Z5n (hv:Q0m s):X3a (Q2u s) (List.range s.members.length) = (Q1b s (2 ^ s.ships.length)).1:=by
 obtain ⟨⟨k,hk,e⟩,hall⟩:=Q8h hv (2 ^ s.ships.length) (Nat.pow_pos (by decide))
 have h0:0 <= (Q1b s (2 ^ s.ships.length)).1:=by rw [e]; exact Q6i hv _
 refine Int.le_antisymm ?_ ?_
 . rcases (X3m (Q9b (Q2u s) (List.range s.members.length)) (List.range (2 ^ (Q2u s).ships.length)) 0).2.2 with h | ⟨n,hn,h⟩
   . have h':X3a (Q2u s) (List.range s.members.length) = 0:=h
     omega
   . have h':X3a (Q2u s) (List.range s.members.length) = Q9b (Q2u s) (List.range s.members.length) n:=h
     rw [h',Y2n hv];obtain ⟨q,hq,hs⟩:=Q8r s.ships.length fun t=>(Q7q n s.ships.length).getD t false
     have hs2:Q7f q s.ships.length = Q7q n s.ships.length:=by
      apply List.ext_getElem (by simp [Q7f,Q7q])
      intro t h1 h2;have ht:t < s.ships.length:=by rwa [Y0c] at h1
      simp only [Q7f,List.getElem_map,List.getElem_range];rw [hs t ht,Q0y _ h2]
     have:=hall q hq;rw [hs2] at this;omega
 . obtain ⟨n,hn,h⟩:=Z8c (Q7f k s.ships.length)
   rw [Y0c] at hn h;have:=J2i (Q2u s) (List.range s.members.length) n hn;rw [Y2n hv,h] at this;rw [e]; exact this
theorem Z5l (hv:Q0m s):Q4q (Q2u s) = [⟨(List.range s.members.length).map Int.ofNat,(Q1b s (2 ^ s.ships.length)).1⟩]:=by
 have hn:=hv.some.1;unfold Q4q;rw [show (Q2u s).members.length = s.members.length from Q2b _]
 have hf:((List.range s.members.length).filter fun i=>(Q8e (Q2u s) i).head? == some i) = [0]:=by
  have e:((List.range s.members.length).filter fun i=>(Q8e (Q2u s) i).head? == some i) = (List.range s.members.length).filter fun i=>decide (i = 0):=by
   apply List.filter_congr
   intro i hi;rw [Z4f hv (List.mem_range.1 hi)];obtain ⟨n,hn'⟩:∃ n,s.members.length = n + 1:=⟨s.members.length - 1,by omega⟩
   rw [hn',X0q,List.head?_cons]
   by_cases h:i = 0
   . subst h; simp
   . simp [h,Ne.symm h]
  rw [e];obtain ⟨n,hn'⟩:∃ n,s.members.length = n + 1:=⟨s.members.length - 1,by omega⟩
  rw [hn',X0q,List.filter_cons];simp
 rw [hf,List.map_singleton,Z4f hv hn,Z5n hv]
theorem Z6y (hv:Q0m s) (h7:s.members.length <= 7):Q7o (Q2u s) ((Q1b s (2 ^ s.ships.length)).1 + 1) = 0 /\ X1r (Q2u s) ((Q1b s (2 ^ s.ships.length)).1 + 1) = [⟨(List.range s.members.length).map Int.ofNat,(Q1b s (2 ^ s.ships.length)).1⟩]:=by
 have hv':=Q9u hv;obtain ⟨⟨k,hk,e⟩,hall⟩:=Q8h hv (2 ^ s.ships.length) (Nat.pow_pos (by decide))
 have h0:0 <= (Q1b s (2 ^ s.ships.length)).1:=by rw [e]; exact Q6i hv _
 have ht:=J1t hv;have h77:(s.members.length:Int) <= 7:=by omega
 have hm1:(Q1b s (2 ^ s.ships.length)).1 <= Y5z s:=by rw [e]; exact Y6g hv _
 have hg:=Z5l hv;have h8:(Q1b s (2 ^ s.ships.length)).1 + 1 <= 8000:=by omega
 . have hF:Q7l (Q2u s) ((Q1b s (2 ^ s.ships.length)).1 + 1) = 0:=by
    unfold Q7l;rw [hv'.err,Q1p.2 ⟨by omega,h8⟩]; rfl
   have hB:Y3l (Q2u s) = (Q1b s (2 ^ s.ships.length)).1:=by unfold Y3l; rw [hg]; simp
   have hE:Q7o (Q2u s) ((Q1b s (2 ^ s.ships.length)).1 + 1) = 0:=by
    unfold Q7o;rw [if_pos hF,if_neg (by rw [hB]; omega)]
   refine ⟨hE,?_⟩;unfold X1r;rw [if_pos hE,hg]
end Go.Tw
namespace Go.Proofs
open Go.RowKit Go.Tw Go.Flow
attribute [local go_sem] Oper.semAt_some
structure J7l where
 B:Nat
 E:Nat
 B2:Nat
 E2:Nat
 gc:Nat
 gf:Nat
 uc:Value
 xc:Value
 uf:Value
 xf:Value
structure J0x (W0 w:World) (s:Q0b) (L:J7l) (i t:Nat):Prop where
 ap:L.E <= L.B2
 lo:W0.heap.size <= L.B
 lo2:L.B <= L.E
 ex:Ext W0 w
 c:∃ qc,X7h w L.B L.E L.uc L.xc s.ships qc /\ qc.map (·.1) = Y7d s (fun _=>0) i t
 f:∃ qf,X7h w L.B2 L.E2 L.uf L.xf s.ships qf /\ qf.map (·.1) = Y7d s (fun j=>(j:Int)) i t
 bc:Blk w L.gc 74 #[.int .i64 s.limit,L.uc,L.xc]
 bf:Blk w L.gf 74 #[.int .i64 s.limit,L.uf,L.xf]
theorem J0x.ext {W0 w w':World} {s:Q0b} {L:J7l} {i t:Nat} (h:J0x W0 w s L i t) (hx:Ext w w'):J0x W0 w' s L i t:=by
 obtain ⟨h1,h2,h3,h4,⟨qc,h5,h6⟩,⟨qf,h7,h8⟩,h9,h10⟩:=h;exact ⟨h1,h2,h3,h4.trans hx,⟨qc,h5.ext hx,h6⟩,⟨qf,h7.ext hx,h8⟩,h9.ext hx,h10.ext hx⟩
theorem J0x.next {W0 w:World} {s:Q0b} {L:J7l} {i T:Nat} (h:J0x W0 w s L i T) (hT:(Q0d s.members i).length = T):J0x W0 w s L (i + 1) 0:=by
 obtain ⟨h1,h2,h3,h4,⟨qc,h5,h6⟩,⟨qf,h7,h8⟩,h9,h10⟩:=h;exact ⟨h1,h2,h3,h4,⟨qc,h5,by rw [h6,X8j s _ hT]⟩,⟨qf,h7,by rw [h8,X8j s _ hT]⟩,h9,h10⟩
structure K0o (w:World) (L:J7l) (i t M n g1 c1 b1 d1 g2 c2 b2 d2:Nat):Prop where
 x1:L.xc = .slice (some ⟨g1,0,none⟩) M c1
 x2:L.xf = .slice (some ⟨g2,0,none⟩) M c2
 e1:w.cell? ⟨g1,i * 5 + 2,none⟩ = some (.slice (some ⟨b1,0,none⟩) n d1)
 e2:w.cell? ⟨g2,i * 5 + 2,none⟩ = some (.slice (some ⟨b2,0,none⟩) n d2)
 ne:b2 ≠ b1
 k1:∃ cs,Blk w b1 3 cs /\ t < cs.size
 k2:∃ cs,Blk w b2 3 cs /\ t < cs.size
theorem Y5h {qs:List MV} {ms:List Mem} {i:Nat} {m:Mem} {v:Value × Value × Value} (h:qs.map (·.1) = ms):(qs.set i (m,v)).map (·.1) = ms.set i m:=by rw [List.map_set,h]
theorem Y3v {w w':World} {b:Nat} {T:TypeId} {cs:Array Value} (h:Blk w b T cs) (ho:w'.heap[b]? = w.heap[b]?):Blk w' b T cs:=by unfold Blk at *; rw [ho]; exact h
theorem J6m {w:World} {a b:Nat} {S T:TypeId} {cs ds:Array Value} (h:Blk w a S cs) (h2:Blk w b T ds) (hT:S ≠ T):a ≠ b:=by
 rintro rfl;unfold Blk at *;rw [h] at h2;injection h2 with h2;injection h2 with _ h3 _;exact hT h3
theorem J0x.at {W0 w:World} {s:Q0b} {L:J7l} {i t:Nat} (h:J0x W0 w s L i t) (hi:i < s.members.length) (ht:t < (Q0d s.members i).length) :
    ∃ g1 c1 b1 d1 g2 c2 b2 d2,K0o w L i t s.members.length (Q0d s.members i).length g1 c1 b1 d1 g2 c2 b2 d2 /\
     ∀ w1,Ext w w1 -> J0x W0 ((w1.setCell ⟨b1,t,none⟩ (.int .i64 0)).setCell ⟨b2,t,none⟩ (.int .i64 (i:Int))) s L i (t + 1) /\
      ∀ g T (cs:Array Value),T ≠ 3 -> Blk w1 g T cs -> Blk ((w1.setCell ⟨b1,t,none⟩ (.int .i64 0)).setCell ⟨b2,t,none⟩ (.int .i64 (i:Int))) g T cs:=by
 obtain ⟨hap,hlo,hlo2,hex,⟨qc,hgc,hmc⟩,⟨qf,hgf,hmf⟩,hbc,hbf⟩:=h;have hlc:qc.length = s.members.length:=by rw [<- Q5l s (fun _=>0) i t,<- hmc,List.length_map]
 have hlf:qf.length = s.members.length:=by rw [<- Q5l s (fun j=>(j:Int)) i t,<- hmf,List.length_map]
 have hic:i < qc.length:=by omega
 have hif:i < qf.length:=by omega
 have eqc:qc[i].1 = { Q1k s i with classes:=recC s (fun _=>0) i t i }:=by
  have h1:(qc.map (·.1))[i]'(by simpa using hic) = qc[i].1:=by simp
  rw [<- h1];simp only [hmc];exact X1z s _ i t _
 have eqf:qf[i].1 = { Q1k s i with classes:=recC s (fun j=>(j:Int)) i t i }:=by
  have h1:(qf.map (·.1))[i]'(by simpa using hif) = qf[i].1:=by simp
  rw [<- h1];simp only [hmf];exact X1z s _ i t _
 have hnc:qc[i].1.classes.length = (Q0d s.members i).length:=by rw [eqc]; exact Y4r s (fun _=>0) i t i
 have hnf:qf[i].1.classes.length = (Q0d s.members i).length:=by rw [eqf]; exact Y4r s (fun j=>(j:Int)) i t i
 obtain ⟨g1,c1,b1,d1,cs1,hx1,he1,hB1,hE1,hk1,ht1,hput1⟩:=hgc.at hic (t:=t) (by omega)
 obtain ⟨g2,c2,b2,d2,cs2,hx2,he2,hB2,hE2,hk2,ht2,hput2⟩:=hgf.at hif (t:=t) (by omega)
 rw [hnc] at he1;rw [hnf] at he2;rw [hlc] at hx1;rw [hlf] at hx2;have hne:b2 ≠ b1:=by omega
 refine ⟨g1,c1,b1,d1,g2,c2,b2,d2,⟨hx1,hx2,he1,he2,hne,⟨cs1,hk1,ht1⟩,⟨cs2,hk2,ht2⟩⟩,fun w1 hx=>?_⟩;obtain ⟨g1',c1',b1',d1',cs1',hx1',he1',hB1',hE1',hk1',ht1',hput1'⟩:=(hgc.ext hx).at hic (t:=t) (by omega)
 obtain ⟨g2',c2',b2',d2',cs2',hx2',he2',hB2',hE2',hk2',ht2',hput2'⟩:=(hgf.ext hx).at hif (t:=t) (by omega)
 have eg1:g1 = g1':=by have h:=hx1.symm.trans hx1'; injection h with h; injection h with h; injection h
 have eg2:g2 = g2':=by have h:=hx2.symm.trans hx2'; injection h with h; injection h with h; injection h
 subst eg1;subst eg2;have eb1:b1 = b1':=by have h:=(hx.cell he1).symm.trans he1'; injection h with h; injection h with h; injection h with h; injection h
 have eb2:b2 = b2':=by have h:=(hx.cell he2).symm.trans he2'; injection h with h; injection h with h; injection h with h; injection h
 subst eb1;subst eb2;have o1:∀ k,k ≠ b1 -> (w1.setCell ⟨b1,t,none⟩ (.int .i64 0)).heap[k]? = w1.heap[k]?:=fun k hk=>Below.heap_setCell _ _ _ _ hk;have o2:∀ k,k ≠ b2 -> ((w1.setCell ⟨b1,t,none⟩ (.int .i64 0)).setCell ⟨b2,t,none⟩ (.int .i64 (i:Int))).heap[k]? = (w1.setCell ⟨b1,t,none⟩ (.int .i64 0)).heap[k]?:=fun k hk=>Below.heap_setCell _ _ _ _ hk;have o12:∀ k,k ≠ b1 -> k ≠ b2 -> ((w1.setCell ⟨b1,t,none⟩ (.int .i64 0)).setCell ⟨b2,t,none⟩ (.int .i64 (i:Int))).heap[k]? = w1.heap[k]?:=fun k h1 h2=>(o2 k h2).trans (o1 k h1);have hty:∀ g T (cs:Array Value),T ≠ 3 -> Blk w1 g T cs -> Blk ((w1.setCell ⟨b1,t,none⟩ (.int .i64 0)).setCell ⟨b2,t,none⟩ (.int .i64 (i:Int))) g T cs:=fun g T cs hT hb=>Y3v hb (o12 g (J6m hb hk1' hT) (J6m hb hk2' hT));refine ⟨⟨hap,hlo,hlo2,?_,?_,?_,hty _ _ _ (by decide) (hbc.ext hx),hty _ _ _ (by decide) (hbf.ext hx)⟩,hty⟩
 . exact ((hex.trans hx).setCell (p:=⟨b1,t,none⟩) (by show W0.heap.size <= b1; omega) _).setCell (p:=⟨b2,t,none⟩) (by show W0.heap.size <= b2; omega) _
 . refine ⟨_,hput1' _ 0 (Y3v (hk1'.set t (.int .i64 0)) (o2 b1 hne.symm)) (fun k h1 h2 h3=>o12 k h1 (by omega)),?_⟩
   rw [Y5h hmc,eqc];exact Y5r s (fun _=>0) ht
 . refine ⟨_,hput2' _ (i:Int) ((Y3v hk2' (o1 b2 hne)).set t (.int .i64 (i:Int))) (fun k h1 h2 h3=>o12 k (by omega) h1),?_⟩
   rw [Y5h hmf,eqf];exact Y5r s (fun j=>(j:Int)) ht
theorem Q5j {s:Q0b} (h:Q2x s) (g:Nat -> Int):Q2x (X2r s g):=by
 refine ⟨h.ships,by rw [Q2b]; exact h.members,fun k hk=>?_⟩
 rw [Q2b] at hk;have e:=X1x (s:=s) g hk;have h1:=h.each k hk;have b1:=congrArg Mem.name e;have b2:=congrArg Mem.classes e;have b3:=congrArg Mem.outside e;have b4:=congrArg Mem.inflow e;have a1:Q1d (X2r s g).members k = Q1d s.members k:=b1;have a2:Q0d (X2r s g).members k = (Q0d s.members k).map fun _=>g k:=b2;have a3:Q0n (X2r s g).members k = Q0n s.members k:=b3;have a4:Q0s (X2r s g).members k = Q0s s.members k:=b4;unfold Q9o at *;rw [a1,a2,a3,a4,List.length_map];exact h1
theorem J0x.done {W0 w:World} {s:Q0b} {L:J7l} (h:J0x W0 w s L s.members.length 0) (hs:Q2x s) (hn:∀ k,k < s.members.length -> Short (Q1d s.members k)) :
    Q0p w (.agg #[.int .i64 s.limit,L.uc,L.xc]) (X2r s fun _=>0) /\ Q0p w (.agg #[.int .i64 s.limit,L.uf,L.xf]) (X2r s fun i=>(i:Int)):=by
 obtain ⟨hap,hlo,hlo2,hex,⟨qc,hgc,hmc⟩,⟨qf,hgf,hmf⟩,hbc,hbf⟩:=h;have hn2:∀ (g:Nat -> Int) k,k < (X2r s g).members.length -> Short (Q1d (X2r s g).members k):=fun g k hk=>by
  rw [Q2b] at hk;have b1:=congrArg Mem.name (X1x (s:=s) g hk);have a1:Q1d (X2r s g).members k = Q1d s.members k:=b1;rw [a1]; exact hn k hk
 exact ⟨X7h.Q9v (s:=X2r s fun _=>0) hgc (by rw [hmc,Y6j]) (Q5j hs _) (hn2 _),X7h.Q9v (s:=X2r s fun i=>(i:Int)) hgf (by rw [hmf,Y6j]) (Q5j hs _) (hn2 _)⟩
end Go.Proofs
namespace Go.Proofs
open Go.RowKit Go.Tw Go.Flow Go.Ba
attribute [local go_sem] Oper.semAt_some
def Q3f (n T k:Nat):Array Value:=((List.range T).map fun i=>Value.bool (decide (i < k) && n.testBit i)).toArray
theorem Q3e (n T k:Nat):(Q3f n T k).size = T:=by simp [Q3f]
theorem Y5g (n T:Nat):madeCells (Value.bool false).cells (T * 1) = Q3f n T 0:=by
 rw [show madeCells (Value.bool false).cells (T * 1) = codeCells n T 0 from Y2a n T]
 apply Array.ext (by rw [Q7m,Q3e])
 intro i h1 h2;have h3:=h2;rw [Q3e] at h3;simp [codeCells,Q3f,codeF];intro h4; omega
theorem Y4p (n:Nat) {T k:Nat} (hk:k < T):(Q3f n T k).setIfInBounds k (.bool (n.testBit k)) = Q3f n T (k + 1):=by
 apply Array.ext_getElem?
 intro i;rw [Array.getElem?_setIfInBounds]
 by_cases he:k = i
 . subst he
   rw [if_pos rfl,if_pos (by rw [Q3e]; exact hk)]
   simp [Q3f,hk]
 . rw [if_neg he]
   by_cases hi:i < T
   . simp only [Q3f,List.getElem?_toArray,List.getElem?_map,List.getElem?_range hi,Option.map_some]
     congr 3
     by_cases h:i < k
     . rw [decide_eq_true h,decide_eq_true (by omega)]
     . rw [decide_eq_false h,decide_eq_false (by omega)]
   . rw [Array.getElem?_eq_none (by rw [Q3e]; omega),Array.getElem?_eq_none (by rw [Q3e]; omega)]
theorem Y8o (n T:Nat):Q3f n T T = ((Q7f n T).map Value.bool).toArray:=by
 unfold Q3f Q7f;rw [List.map_map]
 congr 1
 refine List.map_congr_left fun i hi=>?_;simp [List.mem_range.1 hi]
def Y0f (n t:Nat):Int:=Q5t (fun j=>if n.testBit j then 1 else 0) t
def Y4l (s:Q0b) (n t:Nat):Int:=Q5t (fun j=>if n.testBit j then ix s.ships j else 0) t
def Y1h (s:Q0b) (l:List Bool) (k:Nat):Int:=Q5t (fun j=>if (Q1k s j).keeps s.limit l then Q0h s.members j else 0) k
def Y1u (s:Q0b) (k:Nat):Int:=Q5t (fun j=>Q0h s.members j) k
theorem Z0z (n:Nat):∀ t,Y0f n t = countB (Q7f n t)
 | 0=>rfl
 | t + 1=>by
   unfold Y0f;rw [Q5h,show Q5t (fun j=>if n.testBit j then (1:Int) else 0) t = Y0f n t from rfl,Z0z n t]
   have h:Q7f n (t + 1) = Q7f n t ++ [n.testBit t]:=by simp [Q7f,List.range_succ]
   rw [h,Z1r]
theorem Z8i (s:Q0b) (n T:Nat):Y4l s n T = Q2s s (Q7f n T):=by
 unfold Y4l Q2s Q5t;rw [Y0c]
 congr 1
 apply List.map_congr_left
 intro t ht;have ht':=List.mem_range.1 ht;have:(Q7f n T).getD t false = n.testBit t:=by rw [Q0y _ (by rw [Y0c]; exact ht')]; simp [Q7f]
 rw [this]
theorem J6o (s:Q0b) (l:List Bool):Y1h s l s.members.length = Q9i s l:=rfl
theorem J6b (s:Q0b):Y1u s s.members.length = Y5z s:=rfl
theorem J4s (n t:Nat):0 <= Y0f n t /\ Y0f n t <= t:=by
 have:=Q7u (f:=fun j=>if n.testBit j then (1:Int) else 0) (b:=1) (n:=t) (fun i _=>by split <;> omega) (by decide) t (Nat.le_refl _)
 unfold Y0f; omega
theorem Z8o {s:Q0b} (hv:Q0m s) {t:Nat} (ht:t < s.ships.length):0 <= ix s.ships t /\ ix s.ships t <= 1000:=by
 rw [Q5p ht]; exact hv.delays _ (List.getElem_mem ht)
theorem J4y {s:Q0b} (hv:Q0m s) (n:Nat) {t:Nat} (ht:t <= s.ships.length):0 <= Y4l s n t /\ Y4l s n t <= 1000 * t:=by
 have:=Q7u (f:=fun j=>if n.testBit j then ix s.ships j else 0) (b:=1000) (n:=s.ships.length) (fun i hi=>by
  have:=Z8o hv hi
  split <;> omega) (by decide) t ht
 exact this
theorem J8h {s:Q0b} (hv:Q0m s) (l:List Bool) {k:Nat} (hk:k <= s.members.length):0 <= Y1h s l k /\ Y1h s l k <= 1000 * k :=
 Q7u (f:=fun j=>if (Q1k s j).keeps s.limit l then Q0h s.members j else 0) (b:=1000) (n:=s.members.length) (fun i hi=>by
  have:=hv.weights i hi
  split <;> omega) (by decide) k hk
theorem J4d {s:Q0b} (hv:Q0m s) {k:Nat} (hk:k <= s.members.length):0 <= Y1u s k /\ Y1u s k <= 1000 * k :=
 Q7u (f:=fun j=>Q0h s.members j) (b:=1000) (n:=s.members.length) (fun i hi=>by have:=hv.weights i hi; omega) (by decide) k hk
theorem Z6c {s:Q0b} (hv:Q0m s) {i:Nat} (hi:i < s.members.length) {cl:List Bool} (hl:cl.length = s.ships.length):(∀ k,k < (X0b s i cl).length -> X6w (Q5c s.limit) [0] (X0b s i cl) k = []) ↔ (Q1k s i).keeps s.limit cl = true:=by
 have hm:=J4o hv hi (n:=cl.length) (by omega)
 have h1:=J3y (lim:=s.limit) hv.limit.1 hm;unfold X0b;rw [h1,J0t]
 constructor
 . intro h x hx
   obtain ⟨k,hk,rfl⟩:=List.getElem_of_mem hx;rw [X2j] at hk;have:=h k hk;rw [<- Z3x hk,Q5p (by rw [X2j]; exact hk)] at this
   exact this
 . intro h k hk
   have hk2:k < ((Q1k s i).Q8n cl).length:=by rw [X2j]; exact hk
   have:=h _ (List.getElem_mem hk2);rw [<- Z3x hk,Q5p hk2]; exact this
theorem Y4j (w:World) (u vv vc:Value) (s:Q0b) (i:Nat) (cl:List Bool) (hu:Q2g w u (Q5c s.limit)) (hV:Q0e w vv [0]) (hc:Q2p w vc (X0b s i cl)) (hv:Q0m s) (hi:i < s.members.length) (hl:cl.length = s.ships.length) :
    Calls Tryz.prog 12 #[u,vv,vc] w fun e w'=>∃ a b,e = .returned (.tuple #[.int .i64 a,.int .i64 b,.int .i64 (if (Q1k s i).keeps s.limit cl = true then 7 else 0)]) /\ Ext w w':=by
 have hm:=J4o hv hi (n:=cl.length) (by omega)
 have hk:=Z6c hv hi hl;refine (Y1p w u vv vc (Q5c s.limit) [0] (X0b s i cl) hu hV hc (Z0h hv.limit) rfl J3a (Y2w hm) (by rw [Z7h]; have:=hm.n; omega)).mono ?_
 rintro e w' ⟨a,b,er,rfl,h2,hx⟩;refine ⟨a,b,?_,hx⟩
 rcases h2 with ⟨-,j,hj,hf⟩ | ⟨-,⟨rfl,k,hk1,hk2⟩ | ⟨rfl,h⟩⟩
 . have:=Y8x (lim:=s.limit) hm j hj
   unfold X0b at hf;rw [this] at hf; cases hf
 . rw [if_neg (fun h=>hk2 (hk.2 h k hk1))]
 . rw [if_pos (hk.1 h)]
structure Y6m (W0 w:World) (s:Q0b) (B E gc:Nat) (uc xc:Value) (i t:Nat):Prop where
 lo:W0.heap.size <= B
 lo2:B <= E
 ex:Ext W0 w
 c:∃ qc,X7h w B E uc xc s.ships qc /\ qc.map (·.1) = Y7d s (fun _=>0) i t
 bc:Blk w gc 74 #[.int .i64 s.limit,uc,xc]
theorem Y6m.ext {W0 w w':World} {s:Q0b} {B E gc:Nat} {uc xc:Value} {i t:Nat} (h:Y6m W0 w s B E gc uc xc i t) (hx:Ext w w'):Y6m W0 w' s B E gc uc xc i t:=by
 obtain ⟨h2,h3,h4,⟨qc,h5,h6⟩,h9⟩:=h;exact ⟨h2,h3,h4.trans hx,⟨qc,h5.ext hx,h6⟩,h9.ext hx⟩
theorem Y6m.next {W0 w:World} {s:Q0b} {B E gc:Nat} {uc xc:Value} {i T:Nat} (h:Y6m W0 w s B E gc uc xc i T) (hT:(Q0d s.members i).length = T):Y6m W0 w s B E gc uc xc (i + 1) 0:=by
 obtain ⟨h2,h3,h4,⟨qc,h5,h6⟩,h9⟩:=h;exact ⟨h2,h3,h4,⟨qc,h5,by rw [h6,X8j s _ hT]⟩,h9⟩
theorem Y6m.shape {W0 w:World} {s:Q0b} {B E gc:Nat} {uc xc:Value} {i t:Nat} (h:Y6m W0 w s B E gc uc xc i t) (hn:0 < s.members.length):∃ g c,xc = .slice (some ⟨g,0,none⟩) s.members.length c:=by
 obtain ⟨hlo,hlo2,hex,⟨qc,hgc,hmc⟩,hbc⟩:=h;have hlc:qc.length = s.members.length:=by rw [<- Q5l s (fun _=>0) i t,<- hmc,List.length_map]
 obtain ⟨g,c,cur,hv,-⟩:=X3f hgc.x (by omega)
 exact ⟨g,c,by rw [hv,hlc]⟩
theorem Y6m.weight {W0 w:World} {s:Q0b} {B E gc g c:Nat} {uc:Value} {i t:Nat} (h:Y6m W0 w s B E gc uc (.slice (some ⟨g,0,none⟩) s.members.length c) i t) {k:Nat} (hk:k < s.members.length) :
    w.cell? ⟨g,k * 5 + 1,none⟩ = some (.int .i64 (Q0h s.members k)):=by
 obtain ⟨hlo,hlo2,hex,⟨qc,hgc,hmc⟩,hbc⟩:=h;have hlc:qc.length = s.members.length:=by rw [<- Q5l s (fun _=>0) i t,<- hmc,List.length_map]
 obtain ⟨g',c',cur,hv,hB,hb,-,-,-,htk⟩:=X3f hgc.x (by omega)
 have e:g = g':=by injection hv with hv; injection hv with hv; injection hv
 subst e;have hkc:k < qc.length:=by omega
 rw [Y8a X3s hb htk (i:=k) (j:=1) hkc (by decide)]
 have eqc:qc[k].1 = { Q1k s k with classes:=recC s (fun _=>0) i t k }:=by
  have h1:(qc.map (·.1))[k]'(by simpa using hkc) = qc[k].1:=by simp
  rw [<- h1];simp only [hmc];exact X1z s _ i t _
 simp only [Q9j,List.getElem?_cons_succ,List.getElem?_cons_zero];rw [eqc];rfl
theorem Y6m.at {W0 w:World} {s:Q0b} {B E gc g c:Nat} {uc:Value} {i t:Nat} (h:Y6m W0 w s B E gc uc (.slice (some ⟨g,0,none⟩) s.members.length c) i t) (hi:i < s.members.length) (ht:t < (Q0d s.members i).length) :
    ∃ b d,w.cell? ⟨g,i * 5 + 2,none⟩ = some (.slice (some ⟨b,0,none⟩) (Q0d s.members i).length d) /\ (∃ cs,Blk w b 3 cs /\ t < cs.size) /\
     Y6m W0 (w.setCell ⟨b,t,none⟩ (.int .i64 0)) s B E gc uc (.slice (some ⟨g,0,none⟩) s.members.length c) i (t + 1) /\
      ∀ g T (cs:Array Value),T ≠ 3 -> Blk w g T cs -> Blk (w.setCell ⟨b,t,none⟩ (.int .i64 0)) g T cs:=by
 obtain ⟨hlo,hlo2,hex,⟨qc,hgc,hmc⟩,hbc⟩:=h;have hlc:qc.length = s.members.length:=by rw [<- Q5l s (fun _=>0) i t,<- hmc,List.length_map]
 have hic:i < qc.length:=by omega
 have eqc:qc[i].1 = { Q1k s i with classes:=recC s (fun _=>0) i t i }:=by
  have h1:(qc.map (·.1))[i]'(by simpa using hic) = qc[i].1:=by simp
  rw [<- h1];simp only [hmc];exact X1z s _ i t _
 have hnc:qc[i].1.classes.length = (Q0d s.members i).length:=by rw [eqc]; exact Y4r s (fun _=>0) i t i
 obtain ⟨g1,c1,b1,d1,cs1,hx1,he1,hB1,hE1,hk1,ht1,hput1⟩:=hgc.at hic (t:=t) (by omega)
 rw [hnc] at he1;have eg:g = g1:=by injection hx1 with h; injection h with h; injection h
 subst eg;have o1:∀ k,k ≠ b1 -> (w.setCell ⟨b1,t,none⟩ (.int .i64 0)).heap[k]? = w.heap[k]?:=fun k hk=>Below.heap_setCell _ _ _ _ hk;have hty:∀ g T (cs:Array Value),T ≠ 3 -> Blk w g T cs -> Blk (w.setCell ⟨b1,t,none⟩ (.int .i64 0)) g T cs:=fun g T cs hT hb=>Y3v hb (o1 g (J6m hb hk1 hT));refine ⟨b1,d1,he1,⟨cs1,hk1,ht1⟩,⟨hlo,hlo2,hex.setCell (p:=⟨b1,t,none⟩) (by show W0.heap.size <= b1; omega) _,⟨_,hput1 _ 0 (hk1.set t (.int .i64 0)) (fun k h1 h2 h3=>o1 k h1),?_⟩,hty _ _ _ (by decide) hbc⟩,hty⟩
 rw [Y5h hmc,eqc];exact Y5r s (fun _=>0) ht
theorem Y6m.done {W0 w:World} {s:Q0b} {B E gc:Nat} {uc xc:Value} (h:Y6m W0 w s B E gc uc xc s.members.length 0) (hs:Q2x s) (hn:∀ k,k < s.members.length -> Short (Q1d s.members k)):Q0p w (.agg #[.int .i64 s.limit,uc,xc]) (Q2u s):=by
 obtain ⟨hlo,hlo2,hex,⟨qc,hgc,hmc⟩,hbc⟩:=h;have hn2:∀ k,k < (Q2u s).members.length -> Short (Q1d (Q2u s).members k):=fun k hk=>by
  rw [show (Q2u s).members.length = s.members.length from Q2b _] at hk
  have b1:=congrArg Mem.name (X1x (s:=s) (fun _=>0) hk);have a1:Q1d (Q2u s).members k = Q1d s.members k:=b1;rw [a1]; exact hn k hk
 exact X7h.Q9v (s:=Q2u s) hgc (by rw [hmc,Y6j]; rfl) (Q5j hs _) hn2
theorem Z4g {α:Type} [DecidableEq α]:∀ {l m:List α},l.Nodup -> (∀ x ∈ l,x ∈ m) -> l.length <= m.length
 | [],_,_,_=>Nat.zero_le _
 | x :: l,m,hn,hs=>by
   have hx:=hs x List.mem_cons_self;have hn':=List.nodup_cons.1 hn;have h1:=Z4g (m:=m.erase x) hn'.2 (fun y hy=>(List.mem_erase_of_ne (by rintro rfl; exact hn'.1 hy)).2 (hs y (List.mem_cons_of_mem _ hy)))
   rw [List.length_erase_of_mem hx] at h1;have h2:=List.length_pos_of_mem hx;simp only [List.length_cons]; omega
theorem Z4t {s:Q0b} (hv:Q0m s) (h4:s.ships.length <= 4) (h5:s.members.length <= 4):(Q2u s).hist.length <= 9:=by
 have hv':=Q9u hv;have ha:=Q0b.Y5n (s:=Q2u s) hv'.toFine.shaped;have hsub:∀ x ∈ (Q2u s).hist,x ∈ (List.range 4).map fun t=>List.replicate (t + 1) (0:Int):=by
  intro x hx;obtain ⟨t,ht,k,hk,rfl⟩:=(Q0b.Q4k (s:=Q2u s) x (Q2u s).ships.length).1 hx;have hk':k < s.members.length:=by rwa [show (Q2u s).members.length = s.members.length from Q2b _] at hk
  have ht':t < s.ships.length:=ht;refine List.mem_map.2 ⟨t,List.mem_range.2 (by omega),?_⟩
  exact (J0j hv.toFine (fun _=>0) hk' (by omega)).symm
 have hl:=Z4g (Y9u ha) hsub;simp at hl;omega
end Go.Proofs
namespace Go.Proofs
open Go.RowKit Go.Tw Go.Flow Go.Ba
attribute [local go_sem] Oper.semAt_some
theorem J5j {z0:World} {s:Q0b} {A B:Option Addr} {T M capa capb gs gk ck i:Nat} {lim:Int} {cl:List Bool} {Q:Exit -> Act -> World -> Prop} {a0 a2 a3 a4 a5 a6 a7 a8 a9 a10 a12 a13 a14 a16 a17 a18 a19 a20 a21 a22 a23 a24 a25 a26 a27 a28 a29 a30 a31 a32 a33 a34 a35 a36 a37 a38 a39 a40 a41 a42 a43 a44 a45 a46 a47 a48 a49 a50 a51 a52 a53 a54 a55 a56 a57 a58 a59 a60 a61 a62 a63 a64 a65 a66 a67 a68 a69 a70 a71 a72 a73 a74 a75 a76 a77 a78 a79 a80 a81 a82 a83 a84 a85 a86 a87 a88 a89 a90 a91 a92 a93 a94 a95 a96 a97 a98 a99 a100 a101 a102 a103 a104 a105 a106 a107 a108 a109 a110 a111 a112 a113 a114 a115 a116 a117 a118 a119 a120 a121 a122 a123 a124 a126 a128 a129 a130 a131 a132 a133 a134 a135 a136 a137 a138 a139 a140 a141 a142 a143 a144 a145 a146 a147 a148 a149 a150 a151 a152 a153 a154 a155 a156 a157 a158 a159 a160 a161 a162 a163 a164 a165 a166 a167 a168 a169 a170 a171 a172 a173 a174 a175 a176 a177 a178 a179 a180 a181 a182 a183 a184 a185 a186 a187 a188 a189 a190 a191 a192 a193 a194 a195 a196 a197 a198 a199 a200 a201 a202 a203 a204 a205 a206 a207 a208 a209 a210 a211 a212 a213 a214 a215 a216 a217 a218 a219 a220 a221 a222 a223 a224 a225 a226 a227 a228 a229 a230 a231 a232 a233 a234 a235 a236 a237 a238 a239 a240 a241 a242 a243 a244 a245 a246 a247 a248 a249 a250 a251 a252 a253 a254 a255 a256 a257 a258 a259 a260:Value} (H2:Hid (Q2e z0 (.slice A T capa) (.slice B M capb) s)) (KB:Hid (Blk z0 gs 55 #[.int .i64 lim,.slice A T capa,.slice B M capb])) (HCB:Hid (Q2k z0 (.slice (some ⟨gk,0,none⟩) T ck) cl)) (HSEA:Hid (∀ W,Q2e W (.slice A T capa) (.slice B M capb) s -> Q0p W (.agg #[.int .i64 lim,.slice A T capa,.slice B M capb]) s)) (HS:Hid (Q2x s)) (HV:Hid (Q0m s)) (HT:Hid (s.ships.length = T)) (HM:Hid (s.members.length = M)) (HLIM:Hid (s.limit = lim)) (HI:Hid (i < M)) (HCLL:Hid (cl.length = T))
    (HQ:Hid (∀ (b17 b18 b19 b20 b129 b130 b131 b132 b133 b134 b135 b136 b137 b138 b139 b140 b141 b142 b143 b144 b145 b146 b147 b148 b149 b150 b151 b152 b153 b154:Value) (w':World),Ext z0 w' -> Q .normal ⟨#[a0,.pointer (some ⟨gs,0,none⟩),a2,a3,a4,a5,a6,a7,a8,a9,a10,.slice (some ⟨gk,0,none⟩) T ck,a12,a13,a14,.int .i64 (Y1h s cl (i + 1)),a16,b17,b18,b19,b20,a21,a22,a23,a24,a25,a26,a27,a28,a29,a30,a31,a32,a33,a34,a35,a36,a37,a38,a39,a40,a41,a42,a43,a44,a45,a46,a47,a48,a49,a50,a51,a52,a53,a54,a55,a56,a57,a58,a59,a60,a61,a62,a63,a64,a65,a66,a67,a68,a69,a70,a71,a72,a73,a74,a75,a76,a77,a78,a79,a80,a81,a82,a83,a84,a85,a86,a87,a88,a89,a90,a91,a92,a93,a94,a95,a96,a97,a98,a99,a100,a101,a102,a103,a104,a105,a106,a107,a108,a109,a110,a111,a112,a113,a114,a115,a116,a117,a118,a119,a120,a121,a122,a123,a124,.slice B M capb,a126,.int .i64 (i:Int),a128,b129,b130,b131,b132,b133,b134,b135,b136,b137,b138,b139,b140,b141,b142,b143,b144,b145,b146,b147,b148,b149,b150,b151,b152,b153,b154,a155,a156,a157,a158,a159,a160,a161,a162,a163,a164,a165,a166,a167,a168,a169,a170,a171,a172,a173,a174,a175,a176,a177,a178,a179,a180,a181,a182,a183,a184,a185,a186,a187,a188,a189,a190,a191,a192,a193,a194,a195,a196,a197,a198,a199,a200,a201,a202,a203,a204,a205,a206,a207,a208,a209,a210,a211,a212,a213,a214,a215,a216,a217,a218,a219,a220,a221,a222,a223,a224,a225,a226,a227,a228,a229,a230,a231,a232,a233,a234,a235,a236,a237,a238,a239,a240,a241,a242,a243,a244,a245,a246,a247,a248,a249,a250,a251,a252,a253,a254,a255,a256,a257,a258,a259,a260],[]⟩ w')) :
    (J5l Tryz.f5 32).wp Tryz.prog Q ⟨#[a0,.pointer (some ⟨gs,0,none⟩),a2,a3,a4,a5,a6,a7,a8,a9,a10,.slice (some ⟨gk,0,none⟩) T ck,a12,a13,a14,.int .i64 (Y1h s cl i),a16,a17,a18,a19,a20,a21,a22,a23,a24,a25,a26,a27,a28,a29,a30,a31,a32,a33,a34,a35,a36,a37,a38,a39,a40,a41,a42,a43,a44,a45,a46,a47,a48,a49,a50,a51,a52,a53,a54,a55,a56,a57,a58,a59,a60,a61,a62,a63,a64,a65,a66,a67,a68,a69,a70,a71,a72,a73,a74,a75,a76,a77,a78,a79,a80,a81,a82,a83,a84,a85,a86,a87,a88,a89,a90,a91,a92,a93,a94,a95,a96,a97,a98,a99,a100,a101,a102,a103,a104,a105,a106,a107,a108,a109,a110,a111,a112,a113,a114,a115,a116,a117,a118,a119,a120,a121,a122,a123,a124,.slice B M capb,a126,.int .i64 (i:Int),a128,a129,a130,a131,a132,a133,a134,a135,a136,a137,a138,a139,a140,a141,a142,a143,a144,a145,a146,a147,a148,a149,a150,a151,a152,a153,a154,a155,a156,a157,a158,a159,a160,a161,a162,a163,a164,a165,a166,a167,a168,a169,a170,a171,a172,a173,a174,a175,a176,a177,a178,a179,a180,a181,a182,a183,a184,a185,a186,a187,a188,a189,a190,a191,a192,a193,a194,a195,a196,a197,a198,a199,a200,a201,a202,a203,a204,a205,a206,a207,a208,a209,a210,a211,a212,a213,a214,a215,a216,a217,a218,a219,a220,a221,a222,a223,a224,a225,a226,a227,a228,a229,a230,a231,a232,a233,a234,a235,a236,a237,a238,a239,a240,a241,a242,a243,a244,a245,a246,a247,a248,a249,a250,a251,a252,a253,a254,a255,a256,a257,a258,a259,a260],[]⟩ z0:=by
 conv=>arg 2; whnf
 have HXA:=Lib.hid (Ext.refl z0);have HT6:Hid (0 < T /\ T <= 6):=Lib.hid (by rw [<- HT.out]; exact HV.out.tides)
 have hI:=HI.out;have HIM:Hid (i < s.members.length):=Lib.hid (by rw [HM.out]; exact hI)
 have hiI:(i:Int) < (M:Int):=by omega
 obtain ⟨B2,cb2,hB2,-,-,hcm⟩:=H2.out.members.opened;rw [HM.out] at hB2 hcm;injection hB2 with k1 k2 k3;subst k1;clear k2 k3;obtain ⟨bm,off,x,y,zz,hBB,-,e0,e1,e2,e3,e4,hmx,hmy,hmz,-⟩:=hcm i hI;subst hBB;obtain ⟨X1,c1,rfl,-,-,-⟩:=hmx.opened;obtain ⟨Y1,c2,rfl,-,-,-⟩:=hmy.opened;obtain ⟨Z1,c3,rfl,-,-,-⟩:=hmz.opened;obtain ⟨l1,l2,l3⟩:=HV.out.shaped i HIM.out;rw [l1,HT.out] at e2;rw [l2,HT.out] at e3 hmy;rw [l3,HT.out] at e4 hmz;obtain ⟨nm,hnm⟩:∃ z,Q1d s.members i = z:=⟨_,rfl⟩;rw [hnm] at e0;obtain ⟨wt,hwt⟩:∃ z,Q0h s.members i = z:=⟨_,rfl⟩;rw [hwt] at e1;have HWT:=Lib.hid hwt;have HOX:=Lib.hid hmy;have HIX:=Lib.hid hmz;clear hnm hwt l1 l2 l3 hcm hmx hmy hmz hI;have hxp:=Ext.box z0 (.cells #[.string nm,.int .i64 wt,.slice X1 T c1,.slice Y1 T c2,.slice Z1 T c3] 77);have hbp:=Blk.made z0 77 #[.string nm,.int .i64 wt,.slice X1 T c1,.slice Y1 T c2,.slice Z1 T c3];replace HXA:=Lib.hid (HXA.out.trans hxp);replace H2:=Lib.hid (H2.out.ext hxp);replace KB:=Lib.hid (KB.out.ext hxp);replace HCB:=Lib.hid (HCB.out.ext hxp);replace HOX:=Lib.hid (HOX.out.ext hxp);replace HIX:=Lib.hid (HIX.out.ext hxp);go_upto_region 33 with fail;obtain ⟨gm,hgm⟩:∃ z,z0.heap.size = z:=⟨_,rfl⟩;obtain ⟨z1,hwt⟩:∃ Z,z0.alloc (.cells #[.string nm,.int .i64 wt,.slice X1 T c1,.slice Y1 T c2,.slice Z1 T c3] 77) = Z:=⟨_,rfl⟩;rw [hwt,hgm] at hbp;rw [hwt] at HXA H2 KB HCB HOX HIX;rw [hwt,hgm];have KM:=Lib.hid hbp;clear hbp hwt hgm hxp;clear e0 e1 e2 e3 e4;have hdr:=(Ext.refl z1).drew;obtain ⟨ef,hef⟩:∃ z,(if (Q1k s i).keeps s.limit cl = true then (7:Int) else 0) = z:=⟨_,rfl⟩
 have HEF:=Lib.hid hef;clear hef;have HTD:Hid (∀ W,Ext z1 W -> Calls Tryz.prog 20 #[.agg #[.string nm,.int .i64 wt,.slice X1 T c1,.slice Y1 T c2,.slice Z1 T c3],.slice (some ⟨gk,0,none⟩) T ck] W fun e w'=>∃ r,e = .returned r /\ Q2p w' r (X0b s i cl) /\ Ext W w'):=Lib.hid fun W hw=>by
  obtain ⟨-,l2,l3⟩:=HV.out.shaped i HIM.out;rw [HT.out] at l2 l3;have h:=Y5y W (.slice (some ⟨gk,0,none⟩) T ck) nm wt X1 Y1 Z1 T c1 c2 c3 (Q0n s.members i) (Q0s s.members i) cl (by rw [l2]; exact HOX.out.ext hw) (by rw [l3]; exact HIX.out.ext hw) (HCB.out.ext hw) (by rw [l2,HCLL.out]; exact Nat.le_refl _) (by rw [l3,HCLL.out]; exact Nat.le_refl _) (by have:=HCLL.out; have:=HT6.out; omega)
  rw [l2,l3] at h;exact h
 refine Flow.Q1q [.p,.w,.w,.w,.w,.p,.w,.w,.p,.p,.p,.p,.p,.p,.p] [0,1,2,3,4,5,6,7,8,9,10,11,12,13,14] [[],[0],[1],[],[],[],[2,4,5],[2,3,6],[7],[7,8],[7,8],[7,8],[0,1,2,3,4,5,6,7,8,9],[0,1,2,3,4,5,6,7,8,9,10,12],[0,1,2,3,4,5,6,7,8,9,10,11,12,13]]
  [.c 0 (.pointer (some ⟨gs,0,none⟩)),.c 1 (.int .i64 lim),⟨fun v wz=>(fun v w'=>Q2g w' (v 2) (Q5c lim)) v wz,by intro v a b hx h; exact Q2g.ext h hx⟩,⟨fun v wz=>(fun v w'=>Q0e w' (v 3) [0]) v wz,by intro v a b hx h; exact Q0e.ext h hx⟩,.c 4 (.agg #[.string nm,.int .i64 wt,.slice X1 T c1,.slice Y1 T c2,.slice Z1 T c3]),.c 5 (.slice (some ⟨gk,0,none⟩) T ck),⟨fun v wz=>(fun v w'=>Q2p w' (v 6) (X0b s i cl)) v wz,by intro v a b hx h; exact Q2p.ext h hx⟩,⟨fun v wz=>(fun v w'=>∃ a b:Int,v 7 = .tuple #[.int .i64 a,.int .i64 b,.int .i64 ef]) v wz,by intro v a b hx h; exact h⟩,⟨fun v wz=>(fun v w'=>v 8 = v 7) v wz,by intro v a b hx h; exact h⟩,⟨fun v wz=>(fun v w'=>∃ a:Int,v 9 = .int .i64 a) v wz,by intro v a b hx h; exact h⟩,⟨fun v wz=>(fun v w'=>∃ a:Int,v 10 = .int .i64 a) v wz,by intro v a b hx h; exact h⟩,.c 11 (.int .i64 ef),⟨fun v wz=>(fun v w'=>v 12 = v 9) v wz,by intro v a b hx h; exact h⟩,⟨fun v wz=>(fun v w'=>v 13 = v 10) v wz,by intro v a b hx h; exact h⟩,.c 14 (.int .i64 ef)]
  (by kernel_rfl) rfl (by kernel_rfl) ⟨?g0,?g1,?g2,?g3,?g4,?g5,?g6,?g7,?g8,?g9,?g10,?g11,?g12,?g13,?g14,trivial⟩ ?post
 case g0 | g5=>
  intro v w1 hx;intro bb hbb;subst hbb;refine ⟨_,fun w=>?_,rfl⟩;go_simp
 case g1=>
  intro v w1 hx;(repeat intro (zq:v _ = _));intro bb hbb;subst hbb;have n0:w1.cell? ⟨gs,0,none⟩ = some (.int .i64 lim):=(KB.out.ext (hdr.trans hx)).cell 0;intro K hK;go_simp;exact hK _ _ (Ext.refl _) rfl
 case g2=>
  intro v w1 hx;(repeat intro (zq:v _ = _));intro bb hbb;subst hbb;intro K2 hK2;go_simp;refine Q0f (X9o w1 lim) ?_;rintro e w2 ⟨u,rfl,hu,hx2⟩;exact ⟨_,rfl,hK2 _ _ hx2 hu⟩
 case g3=>
  intro v w1 hx;intro bb hbb;subst hbb;intro K hK;go_simp;exact hK _ _ (Ext.box _ _) (Q2l (l:=[0]) (by simp))
 case g4=>
  intro v w1 hx;intro bb hbb;intro K2 hK2;have o1:bb.eval (.tmp 17) = .pointer (some ⟨gm,0,none⟩):=by rw [hbb]; dsimp only; (try simp (discharger:=decide) only [eval_put_ne]); rfl
  exact Q0x (.tmp 17) _ rfl Tryz.J9a Tryz.J1q o1 (KM.out.ext (hdr.trans hx)) rfl (hK2 _ _ (Ext.refl _) rfl)
 case g6=>
  intro v w1 hx _ (q4:v 4 = _) (q5:v 5 = _);intro bb hbb;subst hbb;intro K2 hK2;go_simp;refine Q0f (HTD.out w1 (hdr.trans hx)) ?_;rintro e w2 ⟨u,rfl,hu,hx2⟩;exact ⟨_,rfl,hK2 _ _ hx2 hu⟩
 case g7=>
  intro v w1 hx (q2:(fun v w'=>Q2g w' (v 2) (Q5c lim)) v w1) (q3:(fun v w'=>Q0e w' (v 3) [0]) v w1) (q6:(fun v w'=>Q2p w' (v 6) (X0b s i cl)) v w1);intro bb hbb;subst hbb;intro K2 hK2;go_simp;refine Q0f (Y4j w1 _ _ _ s i cl (by rw [HLIM.out]; exact q2) q3 q6 HV.out HIM.out (by rw [HT.out,HCLL.out])) ?_
  rintro e w2 ⟨a,b,rfl,hx2⟩;exact ⟨_,rfl,hK2 _ _ hx2 ⟨a,b,congrArg (fun z=>Value.tuple #[.int .i64 a,.int .i64 b,.int .i64 z]) HEF.out⟩⟩
 case g8=>
  intro v w1 hx _;intro bb hbb;have o1:bb.eval (.tmp 139) = v 7:=by rw [hbb]; dsimp only; (try simp (discharger:=decide) only [eval_put_ne]); rw [Q0a (by simp only [size_put]; exact (by decide:139 < 261))]
  exact ⟨_,fun w=>J0q (.tmp 139) rfl o1,rfl⟩
 case g9=>
  intro v w1 hx (q7:(fun v w'=>∃ a b:Int,v 7 = .tuple #[.int .i64 a,.int .i64 b,.int .i64 ef]) v w1) (q8:(fun v w'=>v 8 = v 7) v w1);intro bb hbb;obtain ⟨a,b,h8⟩:=q7;have o1:bb.eval (.tmp 131) = .tuple #[.int .i64 a,.int .i64 b,.int .i64 ef]:=by rw [<- h8,<- q8]; rw [hbb]; dsimp only; (try simp (discharger:=decide) only [eval_put_ne]); rw [Q0a (by simp only [size_put]; exact (by decide:131 < 261))]
  exact ⟨_,fun w=>Q4w (.tmp 131) 0 rfl o1 rfl w,⟨_,rfl⟩⟩
 case g10=>
  intro v w1 hx (q7:(fun v w'=>∃ a b:Int,v 7 = .tuple #[.int .i64 a,.int .i64 b,.int .i64 ef]) v w1) (q8:(fun v w'=>v 8 = v 7) v w1);intro bb hbb;obtain ⟨a,b,h8⟩:=q7;have o1:bb.eval (.tmp 131) = .tuple #[.int .i64 a,.int .i64 b,.int .i64 ef]:=by rw [<- h8,<- q8]; rw [hbb]; dsimp only; (try simp (discharger:=decide) only [eval_put_ne]); rw [Q0a (by simp only [size_put]; exact (by decide:131 < 261))]
  exact ⟨_,fun w=>Q4w (.tmp 131) 1 rfl o1 rfl w,⟨_,rfl⟩⟩
 case g11=>
  intro v w1 hx (q7:(fun v w'=>∃ a b:Int,v 7 = .tuple #[.int .i64 a,.int .i64 b,.int .i64 ef]) v w1) (q8:(fun v w'=>v 8 = v 7) v w1);intro bb hbb;obtain ⟨a,b,h8⟩:=q7;have o1:bb.eval (.tmp 131) = .tuple #[.int .i64 a,.int .i64 b,.int .i64 ef]:=by rw [<- h8,<- q8]; rw [hbb]; dsimp only; (try simp (discharger:=decide) only [eval_put_ne]); rw [Q0a (by simp only [size_put]; exact (by decide:131 < 261))]
  exact ⟨_,fun w=>Q4w (.tmp 131) 2 rfl o1 rfl w,rfl⟩
 case g12=>
  intro v w1 hx (q0:v 0 = _) (q1:v 1 = _) _ _ (q4:v 4 = _) (q5:v 5 = _) _ _ _ _;intro bb hbb;have o1:bb.eval (.tmp 140) = v 9:=by rw [hbb]; dsimp only; (try simp (discharger:=decide) only [eval_put_ne]); rw [Q0a (by simp only [size_put]; exact (by decide:140 < 261))]
  exact ⟨_,fun w=>X8i (.tmp 140) rfl o1,rfl⟩
 case g13=>
  intro v w1 hx (q0:v 0 = _) (q1:v 1 = _) _ _ (q4:v 4 = _) (q5:v 5 = _) _ _ _ _ _ _;intro bb hbb;have o1:bb.eval (.tmp 141) = v 10:=by rw [hbb]; dsimp only; (try simp (discharger:=decide) only [eval_put_ne]); rw [Q0a (by simp only [size_put]; exact (by decide:141 < 261))]
  exact ⟨_,fun w=>X8i (.tmp 141) rfl o1,rfl⟩
 case g14=>
  intro v w1 hx (q0:v 0 = _) (q1:v 1 = _) _ _ (q4:v 4 = _) (q5:v 5 = _) _ _ _ _ _ (q11:v 11 = _) _ _;intro bb hbb;subst hbb;refine ⟨_,fun w=>?_,rfl⟩;go_simp
 case post =>
  intro v w1 hx;(iterate 2 intro (zq:v _ = _));intro (q2:(fun v w'=>Q2g w' (v 2) (Q5c lim)) v w1) (q3:(fun v w'=>Q0e w' (v 3) [0]) v w1);(iterate 2 intro (zq:v _ = _));intro (q6:(fun v w'=>Q2p w' (v 6) (X0b s i cl)) v w1) (q7:(fun v w'=>∃ a b:Int,v 7 = .tuple #[.int .i64 a,.int .i64 b,.int .i64 ef]) v w1) (q8:(fun v w'=>v 8 = v 7) v w1) (q9:(fun v w'=>∃ a:Int,v 9 = .int .i64 a) v w1) (q10:(fun v w'=>∃ a:Int,v 10 = .int .i64 a) v w1);(iterate 1 intro (zq:v _ = _));intro (q12:(fun v w'=>v 12 = v 9) v w1) (q13:(fun v w'=>v 13 = v 10) v w1);(iterate 1 intro (zq:v _ = _));simp only [Flow.All,Flow.acts,Act.put];go_simp;have hxx:=hdr.trans hx;replace HXA:=Lib.hid (HXA.out.trans hxx);replace H2:=Lib.hid (H2.out.ext hxx);replace KB:=Lib.hid (KB.out.ext hxx);replace HCB:=Lib.hid (HCB.out.ext hxx);replace HOX:=Lib.hid (HOX.out.ext hxx);replace HIX:=Lib.hid (HIX.out.ext hxx);replace KM:=Lib.hid (KM.out.ext hxx);obtain ⟨z2,rfl⟩:∃ Z,Z = w1:=⟨_,rfl⟩;clear hx hdr hxx q2 q3 q6 q7 q8 q9 q10 q12 q13;(repeat clear zq);clear HTD;have HSM:Hid (Y1h s cl (i + 1) = Y1h s cl i + if (Q1k s i).keeps s.limit cl = true then wt else 0):=Lib.hid (by rw [<- HWT.out]; exact Q5h _ _)
  have hsb:=J8h HV.out cl (Nat.le_of_lt HIM.out);have hwb:=HV.out.weights i HIM.out;rw [HWT.out] at hwb;have hi8:i <= 8:=by have:=HV.out.some.2; have:=HIM.out; omega
  have hb1:IntKind.i64.wrap (Y1h s cl i + wt) = Y1h s cl i + wt:=Q2q _ (by omega) (by omega)
  obtain ⟨kb,hkb⟩:∃ z,(Q1k s i).keeps s.limit cl = z:=⟨_,rfl⟩;rw [hkb] at HEF HSM;clear hkb;cases kb with
  | true =>
    obtain rfl:ef = 7:=HEF.out.symm;have hsm:=HSM.out;simp only [if_true,Bool.false_eq_true,if_false,Int.add_zero] at hsm;rw [hsm] at HQ;clear hsm hsb hwb;have p1:=KM.out.cell 1;simp only [Go.Tw.gA,Go.Tw.gB,Go.Tw.gC] at p1;go_wp2_with fail
    all_goals (apply HQ.out; exact HXA.out)
  | false =>
    obtain rfl:ef = 0:=HEF.out.symm;have hsm:=HSM.out;simp only [if_true,Bool.false_eq_true,if_false,Int.add_zero] at hsm;rw [hsm] at HQ;clear hsm hsb hwb hb1;have p1:=KM.out.cell 1;simp only [Go.Tw.gA,Go.Tw.gB,Go.Tw.gC] at p1;go_wp2_with fail
    all_goals (apply HQ.out; exact HXA.out)
end Go.Proofs
namespace Go.Proofs
open Go.RowKit Go.Tw Go.Flow Go.Ba
attribute [local go_sem] Oper.semAt_some
theorem J5b {z0:World} {s:Q0b} {A B:Option Addr} {T M capa capb gs m:Nat} {lim:Int} {Q:Exit -> Act -> World -> Prop} {a0 a2 a3 a4 a5 a6 a10 a11 a12 a13 a14 a15 a16 a17 a18 a19 a20 a21 a22 a23 a24 a25 a26 a27 a28 a29 a30 a31 a32 a33 a34 a35 a36 a37 a38 a39 a40 a41 a42 a43 a44 a45 a46 a47 a48 a49 a50 a51 a52 a53 a54 a55 a56 a57 a58 a59 a60 a61 a62 a63 a64 a65 a66 a67 a68 a69 a70 a71 a72 a73 a74 a75 a76 a77 a78 a79 a80 a81 a82 a83 a84 a85 a86 a87 a88 a89 a91 a92 a93 a94 a95 a96 a97 a98 a99 a100 a101 a102 a103 a104 a105 a106 a107 a108 a109 a110 a111 a112 a113 a114 a115 a116 a117 a118 a119 a120 a121 a122 a123 a124 a125 a126 a127 a128 a129 a130 a131 a132 a133 a134 a135 a136 a137 a138 a139 a140 a141 a142 a143 a144 a145 a146 a147 a148 a149 a150 a151 a152 a153 a154 a155 a156 a157 a158 a159 a160 a161 a162 a163 a164 a165 a166 a167 a168 a169 a170 a171 a172 a173 a174 a175 a176 a177 a178 a179 a180 a181 a182 a183 a184 a185 a186 a187 a188 a189 a190 a191 a192 a193 a194 a195 a196 a197 a198 a199 a200 a201 a202 a203 a204 a205 a206 a207 a208 a209 a210 a211 a212 a213 a214 a215 a216 a217 a218 a219 a220 a221 a222 a223 a224 a225 a226 a227 a228 a229 a230 a231 a232 a233 a234 a235 a236 a237 a238 a239 a240 a241 a242 a243 a244 a245 a246 a247 a248 a249 a250 a251 a252 a253 a254 a255 a256 a257 a258 a259 a260:Value} (H2:Hid (Q2e z0 (.slice A T capa) (.slice B M capb) s)) (KB:Hid (Blk z0 gs 55 #[.int .i64 lim,.slice A T capa,.slice B M capb])) (HSEA:Hid (∀ W,Q2e W (.slice A T capa) (.slice B M capb) s -> Q0p W (.agg #[.int .i64 lim,.slice A T capa,.slice B M capb]) s)) (HS:Hid (Q2x s)) (HV:Hid (Q0m s)) (HT:Hid (s.ships.length = T)) (HM:Hid (s.members.length = M)) (HLIM:Hid (s.limit = lim)) (HT4:Hid (T <= 4)) (HMT:Hid (m < 2 ^ T))
    (HQ:Hid (∀ (b2 b10 b11 b12 b13 b14 b15 b17 b18 b19 b20 b92 b93 b94 b95 b96 b97 b98 b99 b100 b101 b102 b103 b104 b105 b106 b107 b108 b109 b110 b111 b112 b113 b114 b115 b116 b117 b118 b119 b120 b121 b122 b123 b124 b125 b126 b127 b128 b129 b130 b131 b132 b133 b134 b135 b136 b137 b138 b139 b140 b141 b142 b143 b144 b145 b146 b147 b148 b149 b150 b151 b152 b153 b154 b155 b156 b157 b158 b159 b160 b161 b162 b163 b164 b165 b166 b167 b168 b169 b170 b171 b172 b173 b174 b175 b176 b177 b178 b179 b180 b181:Value) (w':World),Ext z0 w' -> Q .normal ⟨#[a0,.pointer (some ⟨gs,0,none⟩),b2,a3,a4,a5,a6,.int .i64 (Q1b s (m + 1)).1,.int .i64 (Q1b s (m + 1)).2.1,.int .i64 (Q1b s (m + 1)).2.2,b10,b11,b12,b13,b14,b15,a16,b17,b18,b19,b20,a21,a22,a23,a24,a25,a26,a27,a28,a29,a30,a31,a32,a33,a34,a35,a36,a37,a38,a39,a40,a41,a42,a43,a44,a45,a46,a47,a48,a49,a50,a51,a52,a53,a54,a55,a56,a57,a58,a59,a60,a61,a62,a63,a64,a65,a66,a67,a68,a69,a70,a71,a72,a73,a74,a75,a76,a77,a78,a79,a80,a81,a82,a83,a84,a85,a86,a87,a88,a89,.int .i64 (m:Int),a91,b92,b93,b94,b95,b96,b97,b98,b99,b100,b101,b102,b103,b104,b105,b106,b107,b108,b109,b110,b111,b112,b113,b114,b115,b116,b117,b118,b119,b120,b121,b122,b123,b124,b125,b126,b127,b128,b129,b130,b131,b132,b133,b134,b135,b136,b137,b138,b139,b140,b141,b142,b143,b144,b145,b146,b147,b148,b149,b150,b151,b152,b153,b154,b155,b156,b157,b158,b159,b160,b161,b162,b163,b164,b165,b166,b167,b168,b169,b170,b171,b172,b173,b174,b175,b176,b177,b178,b179,b180,b181,a182,a183,a184,a185,a186,a187,a188,a189,a190,a191,a192,a193,a194,a195,a196,a197,a198,a199,a200,a201,a202,a203,a204,a205,a206,a207,a208,a209,a210,a211,a212,a213,a214,a215,a216,a217,a218,a219,a220,a221,a222,a223,a224,a225,a226,a227,a228,a229,a230,a231,a232,a233,a234,a235,a236,a237,a238,a239,a240,a241,a242,a243,a244,a245,a246,a247,a248,a249,a250,a251,a252,a253,a254,a255,a256,a257,a258,a259,a260],[]⟩ w')) :
    (J5l Tryz.f5 18).wp Tryz.prog Q ⟨#[a0,.pointer (some ⟨gs,0,none⟩),a2,a3,a4,a5,a6,.int .i64 (Q1b s m).1,.int .i64 (Q1b s m).2.1,.int .i64 (Q1b s m).2.2,a10,a11,a12,a13,a14,a15,a16,a17,a18,a19,a20,a21,a22,a23,a24,a25,a26,a27,a28,a29,a30,a31,a32,a33,a34,a35,a36,a37,a38,a39,a40,a41,a42,a43,a44,a45,a46,a47,a48,a49,a50,a51,a52,a53,a54,a55,a56,a57,a58,a59,a60,a61,a62,a63,a64,a65,a66,a67,a68,a69,a70,a71,a72,a73,a74,a75,a76,a77,a78,a79,a80,a81,a82,a83,a84,a85,a86,a87,a88,a89,.int .i64 (m:Int),a91,a92,a93,a94,a95,a96,a97,a98,a99,a100,a101,a102,a103,a104,a105,a106,a107,a108,a109,a110,a111,a112,a113,a114,a115,a116,a117,a118,a119,a120,a121,a122,a123,a124,a125,a126,a127,a128,a129,a130,a131,a132,a133,a134,a135,a136,a137,a138,a139,a140,a141,a142,a143,a144,a145,a146,a147,a148,a149,a150,a151,a152,a153,a154,a155,a156,a157,a158,a159,a160,a161,a162,a163,a164,a165,a166,a167,a168,a169,a170,a171,a172,a173,a174,a175,a176,a177,a178,a179,a180,a181,a182,a183,a184,a185,a186,a187,a188,a189,a190,a191,a192,a193,a194,a195,a196,a197,a198,a199,a200,a201,a202,a203,a204,a205,a206,a207,a208,a209,a210,a211,a212,a213,a214,a215,a216,a217,a218,a219,a220,a221,a222,a223,a224,a225,a226,a227,a228,a229,a230,a231,a232,a233,a234,a235,a236,a237,a238,a239,a240,a241,a242,a243,a244,a245,a246,a247,a248,a249,a250,a251,a252,a253,a254,a255,a256,a257,a258,a259,a260],[]⟩ z0:=by
 conv=>arg 2; whnf
 have HXA:=Lib.hid (Ext.refl z0);have HT6:Hid (0 < T /\ T <= 6):=Lib.hid (by rw [<- HT.out]; exact HV.out.tides)
 have HM16:Hid (m < 16):=Lib.hid (Nat.lt_of_lt_of_le HMT.out (Nat.le_trans (Nat.pow_le_pow_right (n:=2) (by omega) HT4.out) (by decide)))
 obtain ⟨A2,ca2,hA2,-,-,hcs⟩:=H2.out.ships.opened;rw [HT.out] at hA2 hcs;injection hA2 with k1 k2 k3;subst k1 k3;clear k2;have HCS:=Lib.hid hcs;clear hcs;obtain ⟨m0,hm0⟩:∃ z,(Q1b s m).1 = z:=⟨_,rfl⟩;obtain ⟨f0,hf0⟩:∃ z,(Q1b s m).2.1 = z:=⟨_,rfl⟩;obtain ⟨d0,hd0⟩:∃ z,(Q1b s m).2.2 = z:=⟨_,rfl⟩;rw [hm0,hf0,hd0];obtain ⟨m1,hm1⟩:∃ z,(Q1b s (m + 1)).1 = z:=⟨_,rfl⟩;obtain ⟨f1,hf1⟩:∃ z,(Q1b s (m + 1)).2.1 = z:=⟨_,rfl⟩;obtain ⟨d1,hd1⟩:∃ z,(Q1b s (m + 1)).2.2 = z:=⟨_,rfl⟩;rw [hm1,hf1,hd1] at HQ;have HC0:=Lib.hid (And.intro hm0 (And.intro hf0 hd0));have HC1:=Lib.hid (And.intro hm1 (And.intro hf1 hd1));clear hm0 hf0 hd0 hm1 hf1 hd1;have p0:=KB.out.cell 0;have p1:=KB.out.cell 1;have p2:=KB.out.cell 2;simp only [Go.Tw.gA,Go.Tw.gB,Go.Tw.gC] at p0 p1 p2;obtain ⟨i0,hi,hz0,hz1,hz2⟩:=info_parts Tryz.Y4m;go_upto_region 19 with fail
 go_step
 refine Q1g rfl ?_;go_simp;refine Q1g rfl ?_;go_simp;refine Q1g rfl ?_;go_simp;refine Q1g rfl ?_;have hT4:=HT4.out;refine X5i (.tmp 95) _ _ rfl i0 _ 1 1 Tryz.underlying78 hi hz0 hz1 hz2 T rfl (by omega) (by decide) ?_
 have hb:=Blk.made z0 4 (madeCells (Value.bool false).cells (T * 1));have hx:=Ext.box z0 (.cells (madeCells (Value.bool false).cells (T * 1)) 4);obtain ⟨wb,hwb⟩:∃ X,z0.alloc (.cells (madeCells (Value.bool false).cells (T * 1)) 4) = X:=⟨_,rfl⟩;rw [hwb] at hb hx ⊢;rw [show madeCells (Value.bool false).cells (T * 1) = Q3f m T 0 from Y5g m T] at hb
 have HBC:=Lib.hid hb;have HXW2:=Lib.hid hx;obtain ⟨gk,hgk⟩:∃ x,z0.heap.size = x:=⟨_,rfl⟩;rw [hgk] at HBC ⊢;have HGK:=Lib.hid hgk;clear hwb hb hx hgk p0 p1 p2;go_wp2
 go_loopw [12,13,99] (fun cv dv iv wr=>∃ t:Nat,t <= T /\ iv = .int .i64 t /\ cv = .int .i64 (Y0f m t) /\ dv = .int .i64 (Y4l s m t) /\ Blk wr gk 4 (Q3f m T t) /\ Below gk wb wr) (fun _ _ iv _=>T - (intOf iv).toNat)
 case atStart=>exact ⟨0,Nat.zero_le _,rfl,rfl,rfl,HBC.out,Below.refl _ _⟩
 case round =>
  obtain ⟨t,ht,rfl,rfl,rfl,hblk,hbel⟩:=hrel;have HBL:=Lib.hid hblk;have HBE:=Lib.hid hbel;clear hblk hbel
  by_cases htt:t < T
  . skip
    have HTT:=Lib.hid htt;have htI:(t:Int) < (T:Int):=by omega
    have hbit:=Y9d (s:=m) (by have:=HM16.out; omega) t
    have hcnt:Y0f m (t + 1) = Y0f m t + if m.testBit t then 1 else 0:=Q5h _ _
    have hdly:Y4l s m (t + 1) = Y4l s m t + if m.testBit t then ix s.ships t else 0:=Q5h _ _
    have HSU:=Lib.hid (Y4p m htt);have hb1:=J4s m t;have hb2:=J4y HV.out m (t:=t) (by rw [HT.out]; omega)
    have hb3:=Z8o HV.out (t:=t) (by rw [HT.out]; omega)
    obtain ⟨cn,hcn⟩:∃ z,Y0f m t = z:=⟨_,rfl⟩;rw [hcn] at hcnt hb1 ⊢;obtain ⟨dn,hdn⟩:∃ z,Y4l s m t = z:=⟨_,rfl⟩;rw [hdn] at hdly hb2 ⊢;have hwr:IntKind.i64.wrap (cn + 1) = cn + 1:=Q2q _ (by omega) (by omega)
    have hwd:IntKind.i64.wrap (dn + ix s.ships t) = dn + ix s.ships t:=Q2q _ (by omega) (by omega)
    have HWJ:Hid (wrap64 ((t:Int) + 1) = (t:Int) + 1):=Lib.hid (by have:=HT6.out; have:=HTT.out; unfold wrap64; omega)
    have hcell:wr.cell? ⟨gk,t,none⟩ = some (.bool false):=by rw [HBL.out.cell]; simp [Q3f,htt]
    have hfr:=HBL.out.frozen t;obtain ⟨bs,os,hbs,hs0⟩:=HCS.out t htt;subst hbs;clear htt hcn hdn hb1 hb2 hb3;cases hq:m.testBit t with
    | false =>
      rw [hq] at hbit hcnt hdly HSU;simp only [if_true,Bool.false_eq_true,if_false,Int.add_zero] at hcnt hdly;have HCNT:=Lib.hid hcnt;have HDLY:=Lib.hid hdly;clear hcnt hdly hq;have HSET:=Lib.hid (HBL.out.set t (.bool false));have HSEB:=Lib.hid (HBE.out.setCell (p:=⟨gk,t,none⟩) (Nat.le_refl _) (.bool false));have hxz:Ext z0 (wr.setCell ⟨gk,t,none⟩ (.bool false)):=Below.trans HXW2.out (by rw [HGK.out]; exact HSEB.out)
      have c1:=(KB.out.ext hxz).cell 1;simp only [Go.Tw.gA,Go.Tw.gB,Go.Tw.gC] at c1;replace hs0:=hxz.cell hs0;have c2:=HSET.out.cell t;have hc2:((Q3f m T t).setIfInBounds t (.bool false))[t]? = some (.bool false):=by rw [Array.getElem?_setIfInBounds_self_of_lt (by rw [Q3e]; exact HTT.out)]
      rw [hc2] at c2;clear hc2 hxz;go_upto_region 25 with fail;obtain ⟨wk,hwk⟩:∃ Z,wr.setCell ⟨gk,t,none⟩ (.bool false) = Z:=⟨_,rfl⟩;rw [hwk] at c1 c2 hs0 HSET HSEB ⊢;clear hwk hcell hfr hbit;go_wp2;clear c1 c2 hs0 hwr hwd;go_roundw
      case rel=>exact ⟨t + 1,by have:=HTT.out; omega,by (try rw [HWJ.out]); go_num,by rw [HCNT.out],by rw [HDLY.out],by rw [<- HSU.out]; exact HSET.out,HSEB.out⟩
      case measure=>have:=HTT.out; (try rw [HWJ.out]); simp [intOf]; omega
    | true =>
      rw [hq] at hbit hcnt hdly HSU;simp only [if_true,Bool.false_eq_true,if_false,Int.add_zero] at hcnt hdly;have HCNT:=Lib.hid hcnt;have HDLY:=Lib.hid hdly;clear hcnt hdly hq;have HSET:=Lib.hid (HBL.out.set t (.bool true));have HSEB:=Lib.hid (HBE.out.setCell (p:=⟨gk,t,none⟩) (Nat.le_refl _) (.bool true));have hxz:Ext z0 (wr.setCell ⟨gk,t,none⟩ (.bool true)):=Below.trans HXW2.out (by rw [HGK.out]; exact HSEB.out)
      have c1:=(KB.out.ext hxz).cell 1;simp only [Go.Tw.gA,Go.Tw.gB,Go.Tw.gC] at c1;replace hs0:=hxz.cell hs0;have c2:=HSET.out.cell t;have hc2:((Q3f m T t).setIfInBounds t (.bool true))[t]? = some (.bool true):=by rw [Array.getElem?_setIfInBounds_self_of_lt (by rw [Q3e]; exact HTT.out)]
      rw [hc2] at c2;clear hc2 hxz;go_upto_region 25 with fail;obtain ⟨wk,hwk⟩:∃ Z,wr.setCell ⟨gk,t,none⟩ (.bool true) = Z:=⟨_,rfl⟩;rw [hwk] at c1 c2 hs0 HSET HSEB ⊢;clear hwk hcell hfr hbit;go_wp2;clear c1 c2 hs0 hwr hwd;go_roundw
      case rel=>exact ⟨t + 1,by have:=HTT.out; omega,by (try rw [HWJ.out]); go_num,by rw [HCNT.out],by rw [HDLY.out],by rw [<- HSU.out]; exact HSET.out,HSEB.out⟩
      case measure=>have:=HTT.out; (try rw [HWJ.out]); simp [intOf]; omega
  . skip
    have htI:¬ (t:Int) < (T:Int):=by omega
    have htT:t = T:=by omega
    subst htT;rw [Y8o] at HBL;have hxz:Ext z0 wr:=Below.trans HXW2.out (by rw [HGK.out]; exact HBE.out)
    have hwm:=J6o s (Q7f m t);rw [HM.out] at hwm;have HCW:Hid (Y0f m t = countB (Q7f m t)):=Lib.hid (Z0z m t);have HDW:Hid (Y4l s m t = Q2s s (Q7f m t)):=Lib.hid (Z8i s m t);have HWW:=Lib.hid hwm;obtain ⟨cl,hcl⟩:∃ z,Q7f m t = z:=⟨_,rfl⟩;have HCLL:Hid (cl.length = t):=Lib.hid (by rw [<- hcl,Y0c])
    rw [hcl] at HBL HCW HDW HWW;have HCLS:=Lib.hid hcl;replace HXA:=Lib.hid (HXA.out.trans hxz);replace H2:=Lib.hid (H2.out.ext hxz);replace KB:=Lib.hid (KB.out.ext hxz);have HCB:Hid (Q2k wr (.slice (some ⟨gk,0,none⟩) t t) cl):=Lib.hid (by have h:=J0v HBL.out (by rw [HCLL.out]; have:=HT6.out; omega); rw [HCLL.out] at h; exact h)
    obtain ⟨z1,rfl⟩:∃ Z,Z = wr:=⟨_,rfl⟩;clear hxz hwm HBL HBE HBC HXW2 HGK hcl htI ht hz0 hz1 hz2 hi hT4;have p0:=KB.out.cell 0;have p1:=KB.out.cell 1;have p2:=KB.out.cell 2;simp only [Go.Tw.gA,Go.Tw.gB,Go.Tw.gC] at p0 p1 p2;go_wp2_with fail;clear p0 p1 p2
    go_loopw [15,127] (fun wv iv wr=>∃ i:Nat,i <= M /\ iv = .int .i64 i /\ wv = .int .i64 (Y1h s cl i) /\ Ext z1 wr) (fun _ iv _=>M - (intOf iv).toNat)
    case atStart=>exact ⟨0,Nat.zero_le _,rfl,rfl,Ext.refl _⟩
    case round =>
     obtain ⟨i,hi,rfl,rfl,hxr⟩:=hrel;replace HXA:=Lib.hid (HXA.out.trans hxr);replace H2:=Lib.hid (H2.out.ext hxr);replace KB:=Lib.hid (KB.out.ext hxr);replace HCB:=Lib.hid (HCB.out.ext hxr);have HXN:=Lib.hid hxr;clear hxr
     by_cases hlt:i < M
     . skip
       have hiI:(i:Int) < (M:Int):=by omega
       have HI:=Lib.hid hlt;have HWK:Hid (wrap64 ((i:Int) + 1) = (i:Int) + 1):=Lib.hid (by have:=HV.out.some.2; have:=HM.out; unfold wrap64; omega)
       clear hlt hi;go_upto_if 128 with fail
       repeat ((fail_if_success refine (J5j H2 KB HCB HSEA HS HV HT HM HLIM HI HCLL ?_)); go_step)
       refine (J5j H2 KB HCB HSEA HS HV HT HM HLIM HI HCLL ?_);refine Lib.hid ?_
       intros
       rename_i w9 hx9
       have HX9:=Lib.hid (HXN.out.trans hx9);clear hx9;go_wp2;go_roundw
       case rel=>exact ⟨i + 1,by have:=HI.out; omega,by (try rw [HWK.out]); go_num,rfl,HX9.out⟩
       case measure=>have:=HI.out; (try rw [HWK.out]); simp [intOf]; omega
     . skip
       have hiM:i = M:=by omega
       subst hiM;have hiI:¬ (i:Int) < (i:Int):=by omega
       rw [HWW.out,HCW.out,HDW.out];have HST:Hid (Q1b s (m + 1) = if m0 < Q9i s cl ∨ Q9i s cl = m0 /\ (countB cl < f0 ∨ countB cl = f0 /\ Q2s s cl < d0) then (Q9i s cl,countB cl,Q2s s cl) else Q1b s m):=Lib.hid (by rw [Q1b,HT.out,HCLS.out,HC0.out.1,HC0.out.2.1,HC0.out.2.2])
       obtain ⟨kw,hkw⟩:∃ z,Q9i s cl = z:=⟨_,rfl⟩;rw [hkw] at HST ⊢;obtain ⟨kc,hkc⟩:∃ z,countB cl = z:=⟨_,rfl⟩;rw [hkc] at HST ⊢;obtain ⟨kd,hkd⟩:∃ z,Q2s s cl = z:=⟨_,rfl⟩;rw [hkd] at HST ⊢;clear hkw hkc hkd HWW HCW HDW hlt hi
       by_cases c1:m0 < kw
       . skip
         have dc1:decide (m0 < kw) = true:=decide_eq_true c1;have hst:=HST.out;rw [if_pos (by omega)] at hst
         obtain rfl:m1 = kw:=by rw [<- HC1.out.1,hst]
         obtain rfl:f1 = kc:=by rw [<- HC1.out.2.1,hst]
         obtain rfl:d1 = kd:=by rw [<- HC1.out.2.2,hst]
         clear hst HST HC1;go_wp2_with fail
         all_goals (apply HQ.out; exact HXA.out)
       . skip
         have dc1:decide (m0 < kw) = false:=decide_eq_false c1
         by_cases c2:kw = m0
         . skip
           subst c2
           by_cases c3:kc < f0
           . skip
             have dc3:decide (kc < f0) = true:=decide_eq_true c3;have hst:=HST.out;rw [if_pos (by omega)] at hst
             obtain rfl:m1 = kw:=by rw [<- HC1.out.1,hst]
             obtain rfl:f1 = kc:=by rw [<- HC1.out.2.1,hst]
             obtain rfl:d1 = kd:=by rw [<- HC1.out.2.2,hst]
             clear hst HST HC1;go_wp2_with fail
             all_goals (apply HQ.out; exact HXA.out)
           . skip
             have dc3:decide (kc < f0) = false:=decide_eq_false c3
             by_cases c4:kc = f0
             . skip
               subst c4
               by_cases c5:kd < d0
               . skip
                 have dc5:decide (kd < d0) = true:=decide_eq_true c5;have hst:=HST.out;rw [if_pos (by omega)] at hst
                 obtain rfl:m1 = kw:=by rw [<- HC1.out.1,hst]
                 obtain rfl:f1 = kc:=by rw [<- HC1.out.2.1,hst]
                 obtain rfl:d1 = kd:=by rw [<- HC1.out.2.2,hst]
                 clear hst HST HC1;go_wp2_with fail
                 all_goals (apply HQ.out; exact HXA.out)
               . skip
                 have dc5:decide (kd < d0) = false:=decide_eq_false c5;have hst:=HST.out;rw [if_neg (by omega)] at hst
                 obtain rfl:m1 = kw:=by rw [<- HC1.out.1,hst,HC0.out.1]
                 obtain rfl:f1 = kc:=by rw [<- HC1.out.2.1,hst,HC0.out.2.1]
                 obtain rfl:d1 = d0:=by rw [<- HC1.out.2.2,hst,HC0.out.2.2]
                 clear hst HST HC1;go_wp2_with fail
                 all_goals (apply HQ.out; exact HXA.out)
             . skip
               have dc4:decide (kc = f0) = false:=decide_eq_false c4;have hst:=HST.out;rw [if_neg (by omega)] at hst
               obtain rfl:m1 = kw:=by rw [<- HC1.out.1,hst,HC0.out.1]
               obtain rfl:f1 = f0:=by rw [<- HC1.out.2.1,hst,HC0.out.2.1]
               obtain rfl:d1 = d0:=by rw [<- HC1.out.2.2,hst,HC0.out.2.2]
               clear hst HST HC1;go_wp2_with fail
               all_goals (apply HQ.out; exact HXA.out)
         . skip
           have dc2:decide (kw = m0) = false:=decide_eq_false c2;have hst:=HST.out;rw [if_neg (by omega)] at hst
           obtain rfl:m1 = m0:=by rw [<- HC1.out.1,hst,HC0.out.1]
           obtain rfl:f1 = f0:=by rw [<- HC1.out.2.1,hst,HC0.out.2.1]
           obtain rfl:d1 = d0:=by rw [<- HC1.out.2.2,hst,HC0.out.2.2]
           clear hst HST HC1;go_wp2_with fail
           all_goals (apply HQ.out; exact HXA.out)
end Go.Proofs
namespace Go.Proofs
open Go.RowKit Go.Tw Go.Flow Go.Ba
attribute [local go_sem] Oper.semAt_some
theorem Y4v {F:Array Value} (h:F.size = 261):∃ u:Nat -> Value,F = #[u 0,u 1,u 2,u 3,u 4,u 5,u 6,u 7,u 8,u 9,u 10,u 11,u 12,u 13,u 14,u 15,u 16,u 17,u 18,u 19,u 20,u 21,u 22,u 23,u 24,u 25,u 26,u 27,u 28,u 29,u 30,u 31,u 32,u 33,u 34,u 35,u 36,u 37,u 38,u 39,u 40,u 41,u 42,u 43,u 44,u 45,u 46,u 47,u 48,u 49,u 50,u 51,u 52,u 53,u 54,u 55,u 56,u 57,u 58,u 59,u 60,u 61,u 62,u 63,u 64,u 65,u 66,u 67,u 68,u 69,u 70,u 71,u 72,u 73,u 74,u 75,u 76,u 77,u 78,u 79,u 80,u 81,u 82,u 83,u 84,u 85,u 86,u 87,u 88,u 89,u 90,u 91,u 92,u 93,u 94,u 95,u 96,u 97,u 98,u 99,u 100,u 101,u 102,u 103,u 104,u 105,u 106,u 107,u 108,u 109,u 110,u 111,u 112,u 113,u 114,u 115,u 116,u 117,u 118,u 119,u 120,u 121,u 122,u 123,u 124,u 125,u 126,u 127,u 128,u 129,u 130,u 131,u 132,u 133,u 134,u 135,u 136,u 137,u 138,u 139,u 140,u 141,u 142,u 143,u 144,u 145,u 146,u 147,u 148,u 149,u 150,u 151,u 152,u 153,u 154,u 155,u 156,u 157,u 158,u 159,u 160,u 161,u 162,u 163,u 164,u 165,u 166,u 167,u 168,u 169,u 170,u 171,u 172,u 173,u 174,u 175,u 176,u 177,u 178,u 179,u 180,u 181,u 182,u 183,u 184,u 185,u 186,u 187,u 188,u 189,u 190,u 191,u 192,u 193,u 194,u 195,u 196,u 197,u 198,u 199,u 200,u 201,u 202,u 203,u 204,u 205,u 206,u 207,u 208,u 209,u 210,u 211,u 212,u 213,u 214,u 215,u 216,u 217,u 218,u 219,u 220,u 221,u 222,u 223,u 224,u 225,u 226,u 227,u 228,u 229,u 230,u 231,u 232,u 233,u 234,u 235,u 236,u 237,u 238,u 239,u 240,u 241,u 242,u 243,u 244,u 245,u 246,u 247,u 248,u 249,u 250,u 251,u 252,u 253,u 254,u 255,u 256,u 257,u 258,u 259,u 260]:=by
 refine ⟨fun i=>F.getD i undef,?_⟩;have e:F = ((List.range 261).map fun i=>F.getD i undef).toArray:=by
  apply Array.ext
  . simp [h]
  . intro i h1 h2
    simp [h1]
 exact e.trans (by kernel_rfl)
theorem J3f (w:World) (v:Value) (s:Q0b) {m0 f0 d0:Int} (hv:Q0p w v (Q2u s)) (hs:Q2x s) (hV:Q0m s) (h4:s.ships.length <= 4) (h5:s.members.length <= 4) (hc:Q1b s (2 ^ s.ships.length) = (m0,f0,d0)) :
    Calls Tryz.prog 24 #[v] w fun e w'=>e = .returned (.tuple #[.int .i64 m0,.int .i64 0]) /\ Ext w w':=by
 have h:=J0z w v (Q2u s) hv (Q5j hs _) (Z4t hV h4 h5);have he:=(Q9u hV).err;have hm:=Z3s hV;rw [hc] at hm;unfold J3c at h;rw [if_pos he,he,hm] at h;exact h
theorem J4i (w:World) (v:Value) (s:Q0b) {m0 f0 d0 tt:Int} (hv:Q0p w v (Q2u s)) (hs:Q2x s) (hV:Q0m s) (h4:s.ships.length <= 4) (h5:s.members.length <= 4) (hc:Q1b s (2 ^ s.ships.length) = (m0,f0,d0)) (ht:Y5z s = tt) :
    Calls Tryz.prog 25 #[v,.int .i64 m0] w fun e w'=>∃ X n c,e = .returned (.tuple #[.agg #[.slice X n c],.int .i64 (tt * f0),.int .i64 (tt * d0),.int .i64 0]) /\ Ext w w':=by
 have h:=Z9c w v (Q2u s) m0 hv (Q5j hs _) (Z4t hV h4 h5);have hb:=J4a hV;rw [hc,ht] at hb;dsimp only at hb;refine h.mono ?_;rintro e w' ⟨⟨x,rfl,hr⟩,hx⟩;rw [hb];obtain ⟨X,c,rfl,-⟩:=hr.opened;exact ⟨_,_,_,rfl,hx⟩
theorem Z5y (w:World) (v:Value) (s:Q0b) {m0 f0 d0:Int} (hv:Q0p w v (Q2u s)) (hs:Q2x s) (hV:Q0m s) (h5:s.members.length <= 4) (hc:Q1b s (2 ^ s.ships.length) = (m0,f0,d0)) :
    Calls Tryz.prog 27 #[v,.int .i64 (m0 + 1)] w fun e w'=>∃ b off c X cx,e = .returned (.tuple #[.slice (some ⟨b,off,none⟩) 1 c,.int .i64 0]) /\ w'.cell? ⟨b,off,none⟩ = some (.slice X s.members.length cx) /\ w'.cell? ⟨b,off + 1,none⟩ = some (.int .i64 m0) /\ Ext w w':=by
 have h:=Z3j w v (Q2u s) (m0 + 1) hv (Q5j hs _);obtain ⟨h1,h2⟩:=Z6y hV (by omega)
 rw [hc] at h1 h2;dsimp only at h1 h2;rw [h1,h2] at h;refine h.mono ?_;rintro e w' ⟨x,rfl,hg,hx⟩;obtain ⟨A,cap,rfl,-,-,hcg⟩:=hg.opened;obtain ⟨b,off,y,rfl,-,e0,e1,hi⟩:=hcg 0 (by simp)
 obtain ⟨X,cx,rfl,-,-,-⟩:=hi.opened;simp only [Nat.zero_mul,Nat.add_zero] at e0 e1;refine ⟨b,off,cap,X,cx,rfl,?_,e1,hx⟩;rw [e0];simp [X7s]
theorem J9b {w z0:World} {s:Q0b} {A B:Option Addr} {T M capa capb gs go:Nat} {lim m0 f0 d0 tt:Int} {uv xv:Value} (HXA:Hid (Ext w z0)) (H2:Hid (Q2e z0 (.slice A T capa) (.slice B M capb) s)) (KB:Hid (Blk z0 gs 55 #[.int .i64 lim,.slice A T capa,.slice B M capb])) (KO:Hid (Blk z0 go 74 #[.int .i64 lim,uv,xv])) (GO:Hid (Q0p z0 (.agg #[.int .i64 lim,uv,xv]) (Q2u s))) (HSEA:Hid (∀ W,Q2e W (.slice A T capa) (.slice B M capb) s -> Q0p W (.agg #[.int .i64 lim,.slice A T capa,.slice B M capb]) s)) (HS:Hid (Q2x s)) (HV:Hid (Q0m s)) (HT:Hid (s.ships.length = T)) (HM:Hid (s.members.length = M)) (HLIM:Hid (s.limit = lim)) (HT4:Hid (T <= 4)) (HM4:Hid (M <= 4)) (HCT:Hid (Q1b s (2 ^ T) = (m0,f0,d0))) (HTW:Hid (Y5z s = tt))
    (F:Array Value) (hF:F.size = 261) (f1:F[1]? = some (.pointer (some ⟨gs,0,none⟩))) (f3:F[3]? = some (.pointer (some ⟨go,0,none⟩))) (f4:F[4]? = some (.int .i64 tt)) (f7:F[7]? = some (.int .i64 m0)) (f8:F[8]? = some (.int .i64 f0)) (f9:F[9]? = some (.int .i64 d0)) :
    (codeFrom Tryz.f5 42).wp Tryz.prog (bodyPost Tryz.prog Tryz.f5 (fun e w'=>e = .returned (.bool true) /\ Ext w w')) ⟨F,[]⟩ z0:=by
 obtain ⟨u,rfl⟩:=Y4v hF;replace f1:u 1 = _:=Option.some.inj f1;replace f3:u 3 = _:=Option.some.inj f3;replace f4:u 4 = _:=Option.some.inj f4;replace f7:u 7 = _:=Option.some.inj f7;replace f8:u 8 = _:=Option.some.inj f8;replace f9:u 9 = _:=Option.some.inj f9;rw [f1,f3,f4,f7,f8,f9];clear hF f1 f3 f4 f7 f8 f9
 conv=>arg 2; whnf
 have HE4:Hid (s.ships.length <= 4 /\ s.members.length <= 4):=Lib.hid (by rw [HT.out,HM.out]; exact ⟨HT4.out,HM4.out⟩)
 have HCS:Hid (Q1b s (2 ^ s.ships.length) = (m0,f0,d0)):=Lib.hid (by rw [HT.out]; exact HCT.out)
 have HSO:Hid (Q2x (Q2u s)):=Lib.hid (Q5j HS.out _);have hbd:(0 <= m0 /\ m0 <= 4000) /\ (0 <= tt * f0 /\ tt * f0 <= 16000) /\ 0 <= tt * d0 /\ tt * d0 <= 16000000:=by
  obtain ⟨⟨k,hk,e⟩,-⟩:=Q8h HV.out (2 ^ T) (Nat.pow_pos (by decide))
  rw [HCT.out] at e;injection e with e1 e2;injection e2 with e2 e3;have h1:=Q6i HV.out (Q7f k s.ships.length);have h2:=Y6g HV.out (Q7f k s.ships.length);have h3:=J1t HV.out;have h4:=J4s k s.ships.length;have h5:=J4y HV.out k (Nat.le_refl _);rw [<- e1,HTW.out] at *;rw [Z0z,<- e2] at h4;rw [Z8i,<- e3] at h5;have h6:=HE4.out;have h7:tt <= 4000:=by omega
  have h8:f0 <= 4:=by omega
  have h9:d0 <= 4000:=by omega
  refine ⟨⟨by omega,by omega⟩,⟨Int.mul_nonneg (by omega) h4.1,?_⟩,Int.mul_nonneg (by omega) h5.1,?_⟩
  . exact Int.le_trans (Int.mul_le_mul h7 h8 h4.1 (by decide)) (by decide)
  . exact Int.le_trans (Int.mul_le_mul h7 h9 h5.1 (by decide)) (by decide)
 have HW1:Hid (IntKind.i64.wrap (tt * f0) = tt * f0):=Lib.hid (Q2q _ (by omega) (by omega))
 have HW2:Hid (IntKind.i64.wrap (tt * d0) = tt * d0):=Lib.hid (Q2q _ (by omega) (by omega))
 have HW3:Hid (IntKind.i64.wrap (m0 + 1) = m0 + 1):=Lib.hid (Q2q _ (by omega) (by omega))
 clear hbd;go_wp2_with (first | (refine Q0j rfl _ 74 rfl Tryz.X1v Tryz.Q4t rfl KO.out rfl ?_) | fail)
 refine (J3f _ _ s GO.out HS.out HV.out HE4.out.1 HE4.out.2 HCS.out).mono ?_;rintro e z1 ⟨rfl,hx⟩;have hxx:Ext z0 z1:=hx;replace HXA:=Lib.hid (HXA.out.trans hxx);replace H2:=Lib.hid (H2.out.ext hxx);replace KB:=Lib.hid (KB.out.ext hxx);replace KO:=Lib.hid (KO.out.ext hxx);replace GO:=Lib.hid (GO.out.ext hxx);clear hx hxx;go_wp2_with (first | (refine Q0j rfl _ 74 rfl Tryz.X1v Tryz.Q4t rfl KO.out rfl ?_) | fail)
 refine (X2v _ _ _ GO.out HSO.out).mono ?_;rintro e z2 ⟨xb,rfl,hxb,hx⟩;have hxx:Ext z1 z2:=hx;replace HXA:=Lib.hid (HXA.out.trans hxx);replace H2:=Lib.hid (H2.out.ext hxx);replace KB:=Lib.hid (KB.out.ext hxx);replace KO:=Lib.hid (KO.out.ext hxx);replace GO:=Lib.hid (GO.out.ext hxx);have HB:=Lib.hid (hxb);clear hx hxx;clear hxb;go_wp2_with fail;refine (J4i _ _ s HB.out HS.out HV.out HE4.out.1 HE4.out.2 HCS.out HTW.out).mono ?_;rintro e z3 ⟨Xp,np,cp,rfl,hx⟩;have hxx:Ext z2 z3:=hx;replace HXA:=Lib.hid (HXA.out.trans hxx);clear HB;replace H2:=Lib.hid (H2.out.ext hxx);replace KB:=Lib.hid (KB.out.ext hxx);replace KO:=Lib.hid (KO.out.ext hxx);replace GO:=Lib.hid (GO.out.ext hxx);clear hx hxx;have hxp:=Ext.box z3 (.cells #[.slice Xp np cp] 64);have hbp:=Blk.made z3 64 #[.slice Xp np cp];replace HXA:=Lib.hid (HXA.out.trans hxp);replace H2:=Lib.hid (H2.out.ext hxp);replace KB:=Lib.hid (KB.out.ext hxp);replace KO:=Lib.hid (KO.out.ext hxp);replace GO:=Lib.hid (GO.out.ext hxp);go_upto_region 44 with fail;obtain ⟨gp,hgp⟩:∃ z,z3.heap.size = z:=⟨_,rfl⟩;obtain ⟨z4,hwt⟩:∃ Z,z3.alloc (.cells #[.slice Xp np cp] 64) = Z:=⟨_,rfl⟩;rw [hwt,hgp] at hbp;rw [hwt] at HXA H2 KB KO GO;rw [hwt,hgp];have KP:=Lib.hid hbp;clear hbp hwt hgp hxp;go_wp2_with (first | (refine Q0j rfl _ 74 rfl Tryz.X1v Tryz.Q4t rfl KO.out rfl ?_) | fail)
 refine (X2v _ _ _ GO.out HSO.out).mono ?_;rintro e z5 ⟨xb,rfl,hxb,hx⟩;have hxx:Ext z4 z5:=hx;replace HXA:=Lib.hid (HXA.out.trans hxx);replace H2:=Lib.hid (H2.out.ext hxx);replace KB:=Lib.hid (KB.out.ext hxx);replace KO:=Lib.hid (KO.out.ext hxx);replace GO:=Lib.hid (GO.out.ext hxx);replace KP:=Lib.hid (KP.out.ext hxx);have HB:=Lib.hid (hxb);clear hx hxx;clear hxb;have hw3:=HW3.out;go_wp2_with fail;refine (Z5y _ _ s HB.out HS.out HV.out HE4.out.2 HCS.out).mono ?_;rintro e z6 ⟨bg,og,cg,Xg,cx,rfl,hg0,hg1,hx⟩;have hxx:Ext z5 z6:=hx;replace HXA:=Lib.hid (HXA.out.trans hxx);clear HB;replace H2:=Lib.hid (H2.out.ext hxx);replace KB:=Lib.hid (KB.out.ext hxx);replace KO:=Lib.hid (KO.out.ext hxx);replace GO:=Lib.hid (GO.out.ext hxx);replace KP:=Lib.hid (KP.out.ext hxx);clear hx hxx;clear hw3;rw [HM.out] at hg0;have hdr:=(Ext.refl z6).drew;have HG0:=Lib.hid hg0;have HG1:=Lib.hid hg1;clear hg0 hg1;go_upto_region 45 with fail;refine Flow.Q1q [.p,.p,.p,.p,.p,.p,.p,.p,.p,.p,.p,.p,.p,.p,.p,.p,.p,.p,.p,.p,.p,.p,.p,.p,.p,.p,.p,.p,.p,.p,.p,.p,.p,.p,.p,.p,.p,.p,.w,.p,.p,.p,.p,.p,.p,.p,.w,.p,.p,.w,.p,.p,.p,.p,.w,.p,.p] [0,1,2,3,4,5,6,7,8,9,10,11,12,13,14,15,16,17,18,19,20,21,22,23,24,25,26,27,28,29,30,31,32,33,34,35,36,37,38,39,40,41,42,43,44,45,46,47,48,49,50,51,52,53,54,55,56] [[],[0],[1],[2],[2,3],[2,4],[2,5],[6],[6,7],[6,8],[6,9],[10],[10],[10,11,12],[10,13],[10,14],[15],[15],[15],[15,17,18],[15,16,19],[15,20],[15,21],[22],[22],[22],[22,24,25],[22,23,26],[22,27],[22,28],[29],[29,30],[29,31],[29,32],[29,33],[34],[34,35],[34,36],[34,37],[34],[34,38,39],[34,40],[34,41],[42],[42,43],[42,44],[42,45],[42,46],[42],[42,48],[42,49],[42,47,50],[42,51],[42,52],[53],[53,54],[0,1,2,3,4,5,6,7,8,9,10,11,12,13,14,15,16,17,18,19,20,21,22,23,24,25,26,27,28,29,30,31,32,33,34,35,36,37,38,39,40,41,42,43,44,45,46,47,48,49,50,51,52,53,54,55]]
  [.c 0 (.int .i64 0),.c 1 (.bool true),.c 2 (.bool true),.c 3 (.int .i64 0),.c 4 (.bool true),.c 5 (.bool true),.c 6 (.bool true),.c 7 (.int .i64 0),.c 8 (.bool true),.c 9 (.bool true),.c 10 (.bool true),.c 11 (.int .i64 m0),.c 12 (.int .i64 m0),.c 13 (.bool true),.c 14 (.bool true),.c 15 (.bool true),.c 16 (.int .i64 (tt * f0)),.c 17 (.int .i64 tt),.c 18 (.int .i64 f0),.c 19 (.int .i64 (tt * f0)),.c 20 (.bool true),.c 21 (.bool true),.c 22 (.bool true),.c 23 (.int .i64 (tt * d0)),.c 24 (.int .i64 tt),.c 25 (.int .i64 d0),.c 26 (.int .i64 (tt * d0)),.c 27 (.bool true),.c 28 (.bool true),.c 29 (.bool true),.c 30 (.slice (some ⟨bg,og,none⟩) 1 cg),.c 31 (.int .i64 1),.c 32 (.bool true),.c 33 (.bool true),.c 34 (.bool true),.c 35 (.slice (some ⟨bg,og,none⟩) 1 cg),.c 36 (.pointer (some ⟨bg,og,none⟩)),.c 37 (.pointer (some ⟨bg,og + 1,none⟩)),.c 38 (.int .i64 m0),.c 39 (.int .i64 m0),.c 40 (.bool true),.c 41 (.bool true),.c 42 (.bool true),.c 43 (.slice (some ⟨bg,og,none⟩) 1 cg),.c 44 (.pointer (some ⟨bg,og,none⟩)),.c 45 (.pointer (some ⟨bg,og,none⟩)),.c 46 (.slice Xg M cx),.c 47 (.int .i64 ((M:Nat):Int)),.c 48 (.pointer (some ⟨gs,2,none⟩)),.c 49 (.slice B M capb),.c 50 (.int .i64 ((M:Nat):Int)),.c 51 (.bool true),.c 52 (.bool true),.c 53 (.bool true),.c 54 (.bool true),.c 55 (.bool true),.c 56 (.bool true)]
  (by kernel_rfl) rfl (by kernel_rfl) ?owed ?post
 case owed =>
  refine ⟨?g0,?g1,?g2,?g3,?g4,?g5,?g6,?g7,?g8,?g9,?g10,?g11,?g12,?g13,?g14,?g15,?g16,?g17,?g18,?g19,?g20,?g21,?g22,?g23,?g24,?g25,?g26,?g27,?g28,?g29,?g30,?g31,?g32,?g33,?g34,?g35,?g36,?g37,?g38,?g39,?g40,?g41,?g42,?g43,?g44,?g45,?g46,?g47,?g48,?g49,?g50,?g51,?g52,?g53,?g54,?g55,?g56,trivial⟩
  case g0=>
   intro v w1 hx;intro bb hbb;have fo0:bb.eval (.tmp 22) = .int .i64 0:=by rw [hbb]; dsimp only; (try simp (discharger:=decide) only [Flow.eval_put_ne,Flow.Q0c]); rfl
   clear hbb;refine ⟨_,fun w=>?_,rfl⟩;unfold execOp;simp only [fo0];clear fo0;go_simp
  case g1=>
   intro v w1 hx;(repeat intro (zq:v _ = _));intro bb hbb;have fo0:bb.eval (.tmp 205) = .int .i64 0:=by rw [hbb]; dsimp only; (try simp (discharger:=decide) only [Flow.eval_put_ne,Flow.Q0c]); rw [Flow.Q0a (by simp only [Flow.size_put]; exact (by decide:205 < 261))]; assumption
   clear hbb;refine ⟨_,fun w=>?_,rfl⟩;unfold execOp;simp only [fo0];clear fo0;go_simp
  case g2=>
   intro v w1 hx;(repeat intro (zq:v _ = _));intro bb hbb;have fo0:bb.eval (.tmp 206) = .bool true:=by rw [hbb]; dsimp only; (try simp (discharger:=decide) only [Flow.eval_put_ne,Flow.Q0c]); rw [Flow.Q0a (by simp only [Flow.size_put]; exact (by decide:206 < 261))]; assumption
   clear hbb;refine ⟨_,fun w=>?_,rfl⟩;unfold execOp;simp only [fo0];clear fo0;go_simp
  case g3=>
   intro v w1 hx;(repeat intro (zq:v _ = _));intro bb hbb;refine Flow.Q0l (d:=207) rfl rfl (by rw [hbb]; simp only [size_put]; exact (by decide:207 < 261)) (by rw [hbb]; dsimp only; (try simp (discharger:=decide) only [eval_put_ne]); rw [Q0a (by simp only [size_put]; exact (by decide:207 < 261))]; assumption) ?_
   have fo0:bb.eval (.tmp 26) = .int .i64 0:=by rw [hbb]; dsimp only; (try simp (discharger:=decide) only [Flow.eval_put_ne,Flow.Q0c]); rfl
   clear hbb;refine ⟨_,fun w=>?_,rfl⟩;unfold execOp;simp only [fo0];clear fo0;go_simp
  case g4=>
   intro v w1 hx;(repeat intro (zq:v _ = _));intro bb hbb;refine Flow.Q0l (d:=207) rfl rfl (by rw [hbb]; simp only [size_put]; exact (by decide:207 < 261)) (by rw [hbb]; dsimp only; (try simp (discharger:=decide) only [eval_put_ne]); rw [Q0a (by simp only [size_put]; exact (by decide:207 < 261))]; assumption) ?_
   have fo0:bb.eval (.tmp 208) = .int .i64 0:=by rw [hbb]; dsimp only; (try simp (discharger:=decide) only [Flow.eval_put_ne,Flow.Q0c]); rw [Flow.Q0a (by simp only [Flow.size_put]; exact (by decide:208 < 261))]; assumption
   clear hbb;refine ⟨_,fun w=>?_,rfl⟩;unfold execOp;simp only [fo0];clear fo0;go_simp
  case g5=>
   intro v w1 hx;(repeat intro (zq:v _ = _));intro bb hbb;have fo0:bb.eval (.tmp 207) = .bool true:=by rw [hbb]; dsimp only; (try simp (discharger:=decide) only [Flow.eval_put_ne,Flow.Q0c]); rw [Flow.Q0a (by simp only [Flow.size_put]; exact (by decide:207 < 261))]; assumption
   have fo1:bb.eval (.tmp 209) = .bool true:=by rw [hbb]; dsimp only; (try simp (discharger:=decide) only [Flow.eval_put_ne,Flow.Q0c]); rw [Flow.Q0a (by simp only [Flow.size_put]; exact (by decide:209 < 261))]; assumption
   clear hbb;refine ⟨_,fun w=>?_,rfl⟩;unfold execOp;simp only [fo0,fo1];clear fo0 fo1;go_simp
  case g6=>
   intro v w1 hx;(repeat intro (zq:v _ = _));intro bb hbb;have fo0:bb.eval (.tmp 210) = .bool true:=by rw [hbb]; dsimp only; (try simp (discharger:=decide) only [Flow.eval_put_ne,Flow.Q0c]); rw [Flow.Q0a (by simp only [Flow.size_put]; exact (by decide:210 < 261))]; assumption
   clear hbb;refine ⟨_,fun w=>?_,rfl⟩;unfold execOp;simp only [fo0];clear fo0;go_simp
  case g7=>
   intro v w1 hx;(repeat intro (zq:v _ = _));intro bb hbb;refine Flow.Q0l (d:=211) rfl rfl (by rw [hbb]; simp only [size_put]; exact (by decide:211 < 261)) (by rw [hbb]; dsimp only; (try simp (discharger:=decide) only [eval_put_ne]); rw [Q0a (by simp only [size_put]; exact (by decide:211 < 261))]; assumption) ?_
   have fo0:bb.eval (.tmp 28) = .int .i64 0:=by rw [hbb]; dsimp only; (try simp (discharger:=decide) only [Flow.eval_put_ne,Flow.Q0c]); rfl
   clear hbb;refine ⟨_,fun w=>?_,rfl⟩;unfold execOp;simp only [fo0];clear fo0;go_simp
  case g8=>
   intro v w1 hx;(repeat intro (zq:v _ = _));intro bb hbb;refine Flow.Q0l (d:=211) rfl rfl (by rw [hbb]; simp only [size_put]; exact (by decide:211 < 261)) (by rw [hbb]; dsimp only; (try simp (discharger:=decide) only [eval_put_ne]); rw [Q0a (by simp only [size_put]; exact (by decide:211 < 261))]; assumption) ?_
   have fo0:bb.eval (.tmp 212) = .int .i64 0:=by rw [hbb]; dsimp only; (try simp (discharger:=decide) only [Flow.eval_put_ne,Flow.Q0c]); rw [Flow.Q0a (by simp only [Flow.size_put]; exact (by decide:212 < 261))]; assumption
   clear hbb;refine ⟨_,fun w=>?_,rfl⟩;unfold execOp;simp only [fo0];clear fo0;go_simp
  case g9=>
   intro v w1 hx;(repeat intro (zq:v _ = _));intro bb hbb;have fo0:bb.eval (.tmp 211) = .bool true:=by rw [hbb]; dsimp only; (try simp (discharger:=decide) only [Flow.eval_put_ne,Flow.Q0c]); rw [Flow.Q0a (by simp only [Flow.size_put]; exact (by decide:211 < 261))]; assumption
   have fo1:bb.eval (.tmp 213) = .bool true:=by rw [hbb]; dsimp only; (try simp (discharger:=decide) only [Flow.eval_put_ne,Flow.Q0c]); rw [Flow.Q0a (by simp only [Flow.size_put]; exact (by decide:213 < 261))]; assumption
   clear hbb;refine ⟨_,fun w=>?_,rfl⟩;unfold execOp;simp only [fo0,fo1];clear fo0 fo1;go_simp
  case g10=>
   intro v w1 hx;(repeat intro (zq:v _ = _));intro bb hbb;have fo0:bb.eval (.tmp 214) = .bool true:=by rw [hbb]; dsimp only; (try simp (discharger:=decide) only [Flow.eval_put_ne,Flow.Q0c]); rw [Flow.Q0a (by simp only [Flow.size_put]; exact (by decide:214 < 261))]; assumption
   clear hbb;refine ⟨_,fun w=>?_,rfl⟩;unfold execOp;simp only [fo0];clear fo0;go_simp
  case g11=>
   intro v w1 hx;(repeat intro (zq:v _ = _));intro bb hbb;refine Flow.Q0l (d:=215) rfl rfl (by rw [hbb]; simp only [size_put]; exact (by decide:215 < 261)) (by rw [hbb]; dsimp only; (try simp (discharger:=decide) only [eval_put_ne]); rw [Q0a (by simp only [size_put]; exact (by decide:215 < 261))]; assumption) ?_
   have fo0:bb.eval (.tmp 21) = .int .i64 m0:=by rw [hbb]; dsimp only; (try simp (discharger:=decide) only [Flow.eval_put_ne,Flow.Q0c]); rfl
   clear hbb;refine ⟨_,fun w=>?_,rfl⟩;unfold execOp;simp only [fo0];clear fo0;go_simp
  case g12=>
   intro v w1 hx;(repeat intro (zq:v _ = _));intro bb hbb;refine Flow.Q0l (d:=215) rfl rfl (by rw [hbb]; simp only [size_put]; exact (by decide:215 < 261)) (by rw [hbb]; dsimp only; (try simp (discharger:=decide) only [eval_put_ne]); rw [Q0a (by simp only [size_put]; exact (by decide:215 < 261))]; assumption) ?_
   have fo0:bb.eval (.tmp 7) = .int .i64 m0:=by rw [hbb]; dsimp only; (try simp (discharger:=decide) only [Flow.eval_put_ne,Flow.Q0c]); rfl
   clear hbb;refine ⟨_,fun w=>?_,rfl⟩;unfold execOp;simp only [fo0];clear fo0;go_simp
  case g13=>
   intro v w1 hx;(repeat intro (zq:v _ = _));intro bb hbb;refine Flow.Q0l (d:=215) rfl rfl (by rw [hbb]; simp only [size_put]; exact (by decide:215 < 261)) (by rw [hbb]; dsimp only; (try simp (discharger:=decide) only [eval_put_ne]); rw [Q0a (by simp only [size_put]; exact (by decide:215 < 261))]; assumption) ?_
   have fo0:bb.eval (.tmp 216) = .int .i64 m0:=by rw [hbb]; dsimp only; (try simp (discharger:=decide) only [Flow.eval_put_ne,Flow.Q0c]); rw [Flow.Q0a (by simp only [Flow.size_put]; exact (by decide:216 < 261))]; assumption
   have fo1:bb.eval (.tmp 217) = .int .i64 m0:=by rw [hbb]; dsimp only; (try simp (discharger:=decide) only [Flow.eval_put_ne,Flow.Q0c]); rw [Flow.Q0a (by simp only [Flow.size_put]; exact (by decide:217 < 261))]; assumption
   clear hbb;refine ⟨_,fun w=>?_,rfl⟩;unfold execOp;simp only [fo0,fo1];clear fo0 fo1;go_simp
  case g14=>
   intro v w1 hx;(repeat intro (zq:v _ = _));intro bb hbb;have fo0:bb.eval (.tmp 215) = .bool true:=by rw [hbb]; dsimp only; (try simp (discharger:=decide) only [Flow.eval_put_ne,Flow.Q0c]); rw [Flow.Q0a (by simp only [Flow.size_put]; exact (by decide:215 < 261))]; assumption
   have fo1:bb.eval (.tmp 218) = .bool true:=by rw [hbb]; dsimp only; (try simp (discharger:=decide) only [Flow.eval_put_ne,Flow.Q0c]); rw [Flow.Q0a (by simp only [Flow.size_put]; exact (by decide:218 < 261))]; assumption
   clear hbb;refine ⟨_,fun w=>?_,rfl⟩;unfold execOp;simp only [fo0,fo1];clear fo0 fo1;go_simp
  case g15=>
   intro v w1 hx;(repeat intro (zq:v _ = _));intro bb hbb;have fo0:bb.eval (.tmp 219) = .bool true:=by rw [hbb]; dsimp only; (try simp (discharger:=decide) only [Flow.eval_put_ne,Flow.Q0c]); rw [Flow.Q0a (by simp only [Flow.size_put]; exact (by decide:219 < 261))]; assumption
   clear hbb;refine ⟨_,fun w=>?_,rfl⟩;unfold execOp;simp only [fo0];clear fo0;go_simp
  case g16=>
   intro v w1 hx;(repeat intro (zq:v _ = _));intro bb hbb;refine Flow.Q0l (d:=220) rfl rfl (by rw [hbb]; simp only [size_put]; exact (by decide:220 < 261)) (by rw [hbb]; dsimp only; (try simp (discharger:=decide) only [eval_put_ne]); rw [Q0a (by simp only [size_put]; exact (by decide:220 < 261))]; assumption) ?_
   have fo0:bb.eval (.tmp 24) = .int .i64 (tt * f0):=by rw [hbb]; dsimp only; (try simp (discharger:=decide) only [Flow.eval_put_ne,Flow.Q0c]); rfl
   clear hbb;refine ⟨_,fun w=>?_,rfl⟩;unfold execOp;simp only [fo0];clear fo0;go_simp
  case g17=>
   intro v w1 hx;(repeat intro (zq:v _ = _));intro bb hbb;refine Flow.Q0l (d:=220) rfl rfl (by rw [hbb]; simp only [size_put]; exact (by decide:220 < 261)) (by rw [hbb]; dsimp only; (try simp (discharger:=decide) only [eval_put_ne]); rw [Q0a (by simp only [size_put]; exact (by decide:220 < 261))]; assumption) ?_
   have fo0:bb.eval (.tmp 4) = .int .i64 tt:=by rw [hbb]; dsimp only; (try simp (discharger:=decide) only [Flow.eval_put_ne,Flow.Q0c]); rfl
   clear hbb;refine ⟨_,fun w=>?_,rfl⟩;unfold execOp;simp only [fo0];clear fo0;go_simp
  case g18=>
   intro v w1 hx;(repeat intro (zq:v _ = _));intro bb hbb;refine Flow.Q0l (d:=220) rfl rfl (by rw [hbb]; simp only [size_put]; exact (by decide:220 < 261)) (by rw [hbb]; dsimp only; (try simp (discharger:=decide) only [eval_put_ne]); rw [Q0a (by simp only [size_put]; exact (by decide:220 < 261))]; assumption) ?_
   have fo0:bb.eval (.tmp 8) = .int .i64 f0:=by rw [hbb]; dsimp only; (try simp (discharger:=decide) only [Flow.eval_put_ne,Flow.Q0c]); rfl
   clear hbb;refine ⟨_,fun w=>?_,rfl⟩;unfold execOp;simp only [fo0];clear fo0;go_simp
  case g19=>
   intro v w1 hx;(repeat intro (zq:v _ = _));intro bb hbb;refine Flow.Q0l (d:=220) rfl rfl (by rw [hbb]; simp only [size_put]; exact (by decide:220 < 261)) (by rw [hbb]; dsimp only; (try simp (discharger:=decide) only [eval_put_ne]); rw [Q0a (by simp only [size_put]; exact (by decide:220 < 261))]; assumption) ?_
   subst hbb;refine ⟨.int .i64 (tt * f0),fun w=>?_,rfl⟩;go_simp
   (try rw [HW1.out])
  case g20=>
   intro v w1 hx;(repeat intro (zq:v _ = _));intro bb hbb;refine Flow.Q0l (d:=220) rfl rfl (by rw [hbb]; simp only [size_put]; exact (by decide:220 < 261)) (by rw [hbb]; dsimp only; (try simp (discharger:=decide) only [eval_put_ne]); rw [Q0a (by simp only [size_put]; exact (by decide:220 < 261))]; assumption) ?_
   have fo0:bb.eval (.tmp 221) = .int .i64 (tt * f0):=by rw [hbb]; dsimp only; (try simp (discharger:=decide) only [Flow.eval_put_ne,Flow.Q0c]); rw [Flow.Q0a (by simp only [Flow.size_put]; exact (by decide:221 < 261))]; assumption
   have fo1:bb.eval (.tmp 224) = .int .i64 (tt * f0):=by rw [hbb]; dsimp only; (try simp (discharger:=decide) only [Flow.eval_put_ne,Flow.Q0c]); rw [Flow.Q0a (by simp only [Flow.size_put]; exact (by decide:224 < 261))]; assumption
   clear hbb;refine ⟨_,fun w=>?_,rfl⟩;unfold execOp;simp only [fo0,fo1];clear fo0 fo1;go_simp
  case g21=>
   intro v w1 hx;(repeat intro (zq:v _ = _));intro bb hbb;have fo0:bb.eval (.tmp 220) = .bool true:=by rw [hbb]; dsimp only; (try simp (discharger:=decide) only [Flow.eval_put_ne,Flow.Q0c]); rw [Flow.Q0a (by simp only [Flow.size_put]; exact (by decide:220 < 261))]; assumption
   have fo1:bb.eval (.tmp 225) = .bool true:=by rw [hbb]; dsimp only; (try simp (discharger:=decide) only [Flow.eval_put_ne,Flow.Q0c]); rw [Flow.Q0a (by simp only [Flow.size_put]; exact (by decide:225 < 261))]; assumption
   clear hbb;refine ⟨_,fun w=>?_,rfl⟩;unfold execOp;simp only [fo0,fo1];clear fo0 fo1;go_simp
  case g22=>
   intro v w1 hx;(repeat intro (zq:v _ = _));intro bb hbb;have fo0:bb.eval (.tmp 226) = .bool true:=by rw [hbb]; dsimp only; (try simp (discharger:=decide) only [Flow.eval_put_ne,Flow.Q0c]); rw [Flow.Q0a (by simp only [Flow.size_put]; exact (by decide:226 < 261))]; assumption
   clear hbb;refine ⟨_,fun w=>?_,rfl⟩;unfold execOp;simp only [fo0];clear fo0;go_simp
  case g23=>
   intro v w1 hx;(repeat intro (zq:v _ = _));intro bb hbb;refine Flow.Q0l (d:=227) rfl rfl (by rw [hbb]; simp only [size_put]; exact (by decide:227 < 261)) (by rw [hbb]; dsimp only; (try simp (discharger:=decide) only [eval_put_ne]); rw [Q0a (by simp only [size_put]; exact (by decide:227 < 261))]; assumption) ?_
   have fo0:bb.eval (.tmp 25) = .int .i64 (tt * d0):=by rw [hbb]; dsimp only; (try simp (discharger:=decide) only [Flow.eval_put_ne,Flow.Q0c]); rfl
   clear hbb;refine ⟨_,fun w=>?_,rfl⟩;unfold execOp;simp only [fo0];clear fo0;go_simp
  case g24=>
   intro v w1 hx;(repeat intro (zq:v _ = _));intro bb hbb;refine Flow.Q0l (d:=227) rfl rfl (by rw [hbb]; simp only [size_put]; exact (by decide:227 < 261)) (by rw [hbb]; dsimp only; (try simp (discharger:=decide) only [eval_put_ne]); rw [Q0a (by simp only [size_put]; exact (by decide:227 < 261))]; assumption) ?_
   have fo0:bb.eval (.tmp 4) = .int .i64 tt:=by rw [hbb]; dsimp only; (try simp (discharger:=decide) only [Flow.eval_put_ne,Flow.Q0c]); rfl
   clear hbb;refine ⟨_,fun w=>?_,rfl⟩;unfold execOp;simp only [fo0];clear fo0;go_simp
  case g25=>
   intro v w1 hx;(repeat intro (zq:v _ = _));intro bb hbb;refine Flow.Q0l (d:=227) rfl rfl (by rw [hbb]; simp only [size_put]; exact (by decide:227 < 261)) (by rw [hbb]; dsimp only; (try simp (discharger:=decide) only [eval_put_ne]); rw [Q0a (by simp only [size_put]; exact (by decide:227 < 261))]; assumption) ?_
   have fo0:bb.eval (.tmp 9) = .int .i64 d0:=by rw [hbb]; dsimp only; (try simp (discharger:=decide) only [Flow.eval_put_ne,Flow.Q0c]); rfl
   clear hbb;refine ⟨_,fun w=>?_,rfl⟩;unfold execOp;simp only [fo0];clear fo0;go_simp
  case g26=>
   intro v w1 hx;(repeat intro (zq:v _ = _));intro bb hbb;refine Flow.Q0l (d:=227) rfl rfl (by rw [hbb]; simp only [size_put]; exact (by decide:227 < 261)) (by rw [hbb]; dsimp only; (try simp (discharger:=decide) only [eval_put_ne]); rw [Q0a (by simp only [size_put]; exact (by decide:227 < 261))]; assumption) ?_
   subst hbb;refine ⟨.int .i64 (tt * d0),fun w=>?_,rfl⟩;go_simp
   (try rw [HW2.out])
  case g27=>
   intro v w1 hx;(repeat intro (zq:v _ = _));intro bb hbb;refine Flow.Q0l (d:=227) rfl rfl (by rw [hbb]; simp only [size_put]; exact (by decide:227 < 261)) (by rw [hbb]; dsimp only; (try simp (discharger:=decide) only [eval_put_ne]); rw [Q0a (by simp only [size_put]; exact (by decide:227 < 261))]; assumption) ?_
   have fo0:bb.eval (.tmp 228) = .int .i64 (tt * d0):=by rw [hbb]; dsimp only; (try simp (discharger:=decide) only [Flow.eval_put_ne,Flow.Q0c]); rw [Flow.Q0a (by simp only [Flow.size_put]; exact (by decide:228 < 261))]; assumption
   have fo1:bb.eval (.tmp 231) = .int .i64 (tt * d0):=by rw [hbb]; dsimp only; (try simp (discharger:=decide) only [Flow.eval_put_ne,Flow.Q0c]); rw [Flow.Q0a (by simp only [Flow.size_put]; exact (by decide:231 < 261))]; assumption
   clear hbb;refine ⟨_,fun w=>?_,rfl⟩;unfold execOp;simp only [fo0,fo1];clear fo0 fo1;go_simp
  case g28=>
   intro v w1 hx;(repeat intro (zq:v _ = _));intro bb hbb;have fo0:bb.eval (.tmp 227) = .bool true:=by rw [hbb]; dsimp only; (try simp (discharger:=decide) only [Flow.eval_put_ne,Flow.Q0c]); rw [Flow.Q0a (by simp only [Flow.size_put]; exact (by decide:227 < 261))]; assumption
   have fo1:bb.eval (.tmp 232) = .bool true:=by rw [hbb]; dsimp only; (try simp (discharger:=decide) only [Flow.eval_put_ne,Flow.Q0c]); rw [Flow.Q0a (by simp only [Flow.size_put]; exact (by decide:232 < 261))]; assumption
   clear hbb;refine ⟨_,fun w=>?_,rfl⟩;unfold execOp;simp only [fo0,fo1];clear fo0 fo1;go_simp
  case g29=>
   intro v w1 hx;(repeat intro (zq:v _ = _));intro bb hbb;have fo0:bb.eval (.tmp 233) = .bool true:=by rw [hbb]; dsimp only; (try simp (discharger:=decide) only [Flow.eval_put_ne,Flow.Q0c]); rw [Flow.Q0a (by simp only [Flow.size_put]; exact (by decide:233 < 261))]; assumption
   clear hbb;refine ⟨_,fun w=>?_,rfl⟩;unfold execOp;simp only [fo0];clear fo0;go_simp
  case g30=>
   intro v w1 hx;(repeat intro (zq:v _ = _));intro bb hbb;refine Flow.Q0l (d:=234) rfl rfl (by rw [hbb]; simp only [size_put]; exact (by decide:234 < 261)) (by rw [hbb]; dsimp only; (try simp (discharger:=decide) only [eval_put_ne]); rw [Q0a (by simp only [size_put]; exact (by decide:234 < 261))]; assumption) ?_
   have fo0:bb.eval (.tmp 27) = .slice (some ⟨bg,og,none⟩) 1 cg:=by rw [hbb]; dsimp only; (try simp (discharger:=decide) only [Flow.eval_put_ne,Flow.Q0c]); rfl
   clear hbb;refine ⟨_,fun w=>?_,rfl⟩;unfold execOp;simp only [fo0];clear fo0;go_simp
  case g31=>
   intro v w1 hx;(repeat intro (zq:v _ = _));intro bb hbb;refine Flow.Q0l (d:=234) rfl rfl (by rw [hbb]; simp only [size_put]; exact (by decide:234 < 261)) (by rw [hbb]; dsimp only; (try simp (discharger:=decide) only [eval_put_ne]); rw [Q0a (by simp only [size_put]; exact (by decide:234 < 261))]; assumption) ?_
   subst hbb;refine ⟨_,fun w=>?_,rfl⟩;go_simp
  case g32=>
   intro v w1 hx;(repeat intro (zq:v _ = _));intro bb hbb;refine Flow.Q0l (d:=234) rfl rfl (by rw [hbb]; simp only [size_put]; exact (by decide:234 < 261)) (by rw [hbb]; dsimp only; (try simp (discharger:=decide) only [eval_put_ne]); rw [Q0a (by simp only [size_put]; exact (by decide:234 < 261))]; assumption) ?_
   have fo0:bb.eval (.tmp 236) = .int .i64 1:=by rw [hbb]; dsimp only; (try simp (discharger:=decide) only [Flow.eval_put_ne,Flow.Q0c]); rw [Flow.Q0a (by simp only [Flow.size_put]; exact (by decide:236 < 261))]; assumption
   clear hbb;refine ⟨_,fun w=>?_,rfl⟩;unfold execOp;simp only [fo0];clear fo0;go_simp
  case g33=>
   intro v w1 hx;(repeat intro (zq:v _ = _));intro bb hbb;have fo0:bb.eval (.tmp 234) = .bool true:=by rw [hbb]; dsimp only; (try simp (discharger:=decide) only [Flow.eval_put_ne,Flow.Q0c]); rw [Flow.Q0a (by simp only [Flow.size_put]; exact (by decide:234 < 261))]; assumption
   have fo1:bb.eval (.tmp 237) = .bool true:=by rw [hbb]; dsimp only; (try simp (discharger:=decide) only [Flow.eval_put_ne,Flow.Q0c]); rw [Flow.Q0a (by simp only [Flow.size_put]; exact (by decide:237 < 261))]; assumption
   clear hbb;refine ⟨_,fun w=>?_,rfl⟩;unfold execOp;simp only [fo0,fo1];clear fo0 fo1;go_simp
  case g34=>
   intro v w1 hx;(repeat intro (zq:v _ = _));intro bb hbb;have fo0:bb.eval (.tmp 238) = .bool true:=by rw [hbb]; dsimp only; (try simp (discharger:=decide) only [Flow.eval_put_ne,Flow.Q0c]); rw [Flow.Q0a (by simp only [Flow.size_put]; exact (by decide:238 < 261))]; assumption
   clear hbb;refine ⟨_,fun w=>?_,rfl⟩;unfold execOp;simp only [fo0];clear fo0;go_simp
  case g35=>
   intro v w1 hx;(repeat intro (zq:v _ = _));intro bb hbb;refine Flow.Q0l (d:=239) rfl rfl (by rw [hbb]; simp only [size_put]; exact (by decide:239 < 261)) (by rw [hbb]; dsimp only; (try simp (discharger:=decide) only [eval_put_ne]); rw [Q0a (by simp only [size_put]; exact (by decide:239 < 261))]; assumption) ?_
   have fo0:bb.eval (.tmp 27) = .slice (some ⟨bg,og,none⟩) 1 cg:=by rw [hbb]; dsimp only; (try simp (discharger:=decide) only [Flow.eval_put_ne,Flow.Q0c]); rfl
   clear hbb;refine ⟨_,fun w=>?_,rfl⟩;unfold execOp;simp only [fo0];clear fo0;go_simp
  case g36=>
   intro v w1 hx;(repeat intro (zq:v _ = _));intro bb hbb;refine Flow.Q0l (d:=239) rfl rfl (by rw [hbb]; simp only [size_put]; exact (by decide:239 < 261)) (by rw [hbb]; dsimp only; (try simp (discharger:=decide) only [eval_put_ne]); rw [Q0a (by simp only [size_put]; exact (by decide:239 < 261))]; assumption) ?_
   have fo0:bb.eval (.tmp 240) = .slice (some ⟨bg,og,none⟩) 1 cg:=by rw [hbb]; dsimp only; (try simp (discharger:=decide) only [Flow.eval_put_ne,Flow.Q0c]); rw [Flow.Q0a (by simp only [Flow.size_put]; exact (by decide:240 < 261))]; assumption
   clear hbb;refine ⟨_,fun w=>?_,rfl⟩;unfold execOp;simp only [fo0];clear fo0;go_simp
  case g37=>
   intro v w1 hx;(repeat intro (zq:v _ = _));intro bb hbb;refine Flow.Q0l (d:=239) rfl rfl (by rw [hbb]; simp only [size_put]; exact (by decide:239 < 261)) (by rw [hbb]; dsimp only; (try simp (discharger:=decide) only [eval_put_ne]); rw [Q0a (by simp only [size_put]; exact (by decide:239 < 261))]; assumption) ?_
   have fo0:bb.eval (.tmp 241) = .pointer (some ⟨bg,og,none⟩):=by rw [hbb]; dsimp only; (try simp (discharger:=decide) only [Flow.eval_put_ne,Flow.Q0c]); rw [Flow.Q0a (by simp only [Flow.size_put]; exact (by decide:241 < 261))]; assumption
   clear hbb;refine ⟨_,fun w=>?_,rfl⟩;unfold execOp;simp only [fo0];clear fo0;go_simp
  case g38=>
   intro v w1 hx;(repeat intro (zq:v _ = _));intro bb hbb;have n0:w1.cell? ⟨bg,og + 1,none⟩ = some (.int .i64 m0):=(hdr.trans hx).cell HG1.out;refine Flow.Q0l (d:=239) rfl rfl (by rw [hbb]; simp only [size_put]; exact (by decide:239 < 261)) (by rw [hbb]; dsimp only; (try simp (discharger:=decide) only [eval_put_ne]); rw [Q0a (by simp only [size_put]; exact (by decide:239 < 261))]; assumption) ?_
   have fo0:bb.eval (.tmp 242) = .pointer (some ⟨bg,og + 1,none⟩):=by rw [hbb]; dsimp only; (try simp (discharger:=decide) only [Flow.eval_put_ne,Flow.Q0c]); rw [Flow.Q0a (by simp only [Flow.size_put]; exact (by decide:242 < 261))]; assumption
   clear hbb;intro K hK;unfold execOp;simp only [fo0];clear fo0;go_simp;exact hK _ _ (Ext.refl _) rfl
  case g39=>
   intro v w1 hx;(repeat intro (zq:v _ = _));intro bb hbb;refine Flow.Q0l (d:=239) rfl rfl (by rw [hbb]; simp only [size_put]; exact (by decide:239 < 261)) (by rw [hbb]; dsimp only; (try simp (discharger:=decide) only [eval_put_ne]); rw [Q0a (by simp only [size_put]; exact (by decide:239 < 261))]; assumption) ?_
   have fo0:bb.eval (.tmp 7) = .int .i64 m0:=by rw [hbb]; dsimp only; (try simp (discharger:=decide) only [Flow.eval_put_ne,Flow.Q0c]); rfl
   clear hbb;refine ⟨_,fun w=>?_,rfl⟩;unfold execOp;simp only [fo0];clear fo0;go_simp
  case g40=>
   intro v w1 hx;(repeat intro (zq:v _ = _));intro bb hbb;refine Flow.Q0l (d:=239) rfl rfl (by rw [hbb]; simp only [size_put]; exact (by decide:239 < 261)) (by rw [hbb]; dsimp only; (try simp (discharger:=decide) only [eval_put_ne]); rw [Q0a (by simp only [size_put]; exact (by decide:239 < 261))]; assumption) ?_
   have fo0:bb.eval (.tmp 243) = .int .i64 m0:=by rw [hbb]; dsimp only; (try simp (discharger:=decide) only [Flow.eval_put_ne,Flow.Q0c]); rw [Flow.Q0a (by simp only [Flow.size_put]; exact (by decide:243 < 261))]; assumption
   have fo1:bb.eval (.tmp 244) = .int .i64 m0:=by rw [hbb]; dsimp only; (try simp (discharger:=decide) only [Flow.eval_put_ne,Flow.Q0c]); rw [Flow.Q0a (by simp only [Flow.size_put]; exact (by decide:244 < 261))]; assumption
   clear hbb;refine ⟨_,fun w=>?_,rfl⟩;unfold execOp;simp only [fo0,fo1];clear fo0 fo1;go_simp
  case g41=>
   intro v w1 hx;(repeat intro (zq:v _ = _));intro bb hbb;have fo0:bb.eval (.tmp 239) = .bool true:=by rw [hbb]; dsimp only; (try simp (discharger:=decide) only [Flow.eval_put_ne,Flow.Q0c]); rw [Flow.Q0a (by simp only [Flow.size_put]; exact (by decide:239 < 261))]; assumption
   have fo1:bb.eval (.tmp 245) = .bool true:=by rw [hbb]; dsimp only; (try simp (discharger:=decide) only [Flow.eval_put_ne,Flow.Q0c]); rw [Flow.Q0a (by simp only [Flow.size_put]; exact (by decide:245 < 261))]; assumption
   clear hbb;refine ⟨_,fun w=>?_,rfl⟩;unfold execOp;simp only [fo0,fo1];clear fo0 fo1;go_simp
  case g42=>
   intro v w1 hx;(repeat intro (zq:v _ = _));intro bb hbb;have fo0:bb.eval (.tmp 246) = .bool true:=by rw [hbb]; dsimp only; (try simp (discharger:=decide) only [Flow.eval_put_ne,Flow.Q0c]); rw [Flow.Q0a (by simp only [Flow.size_put]; exact (by decide:246 < 261))]; assumption
   clear hbb;refine ⟨_,fun w=>?_,rfl⟩;unfold execOp;simp only [fo0];clear fo0;go_simp
  case g43=>
   intro v w1 hx;(repeat intro (zq:v _ = _));intro bb hbb;refine Flow.Q0l (d:=247) rfl rfl (by rw [hbb]; simp only [size_put]; exact (by decide:247 < 261)) (by rw [hbb]; dsimp only; (try simp (discharger:=decide) only [eval_put_ne]); rw [Q0a (by simp only [size_put]; exact (by decide:247 < 261))]; assumption) ?_
   have fo0:bb.eval (.tmp 27) = .slice (some ⟨bg,og,none⟩) 1 cg:=by rw [hbb]; dsimp only; (try simp (discharger:=decide) only [Flow.eval_put_ne,Flow.Q0c]); rfl
   clear hbb;refine ⟨_,fun w=>?_,rfl⟩;unfold execOp;simp only [fo0];clear fo0;go_simp
  case g44=>
   intro v w1 hx;(repeat intro (zq:v _ = _));intro bb hbb;refine Flow.Q0l (d:=247) rfl rfl (by rw [hbb]; simp only [size_put]; exact (by decide:247 < 261)) (by rw [hbb]; dsimp only; (try simp (discharger:=decide) only [eval_put_ne]); rw [Q0a (by simp only [size_put]; exact (by decide:247 < 261))]; assumption) ?_
   have fo0:bb.eval (.tmp 248) = .slice (some ⟨bg,og,none⟩) 1 cg:=by rw [hbb]; dsimp only; (try simp (discharger:=decide) only [Flow.eval_put_ne,Flow.Q0c]); rw [Flow.Q0a (by simp only [Flow.size_put]; exact (by decide:248 < 261))]; assumption
   clear hbb;refine ⟨_,fun w=>?_,rfl⟩;unfold execOp;simp only [fo0];clear fo0;go_simp
  case g45=>
   intro v w1 hx;(repeat intro (zq:v _ = _));intro bb hbb;refine Flow.Q0l (d:=247) rfl rfl (by rw [hbb]; simp only [size_put]; exact (by decide:247 < 261)) (by rw [hbb]; dsimp only; (try simp (discharger:=decide) only [eval_put_ne]); rw [Q0a (by simp only [size_put]; exact (by decide:247 < 261))]; assumption) ?_
   have fo0:bb.eval (.tmp 249) = .pointer (some ⟨bg,og,none⟩):=by rw [hbb]; dsimp only; (try simp (discharger:=decide) only [Flow.eval_put_ne,Flow.Q0c]); rw [Flow.Q0a (by simp only [Flow.size_put]; exact (by decide:249 < 261))]; assumption
   clear hbb;refine ⟨_,fun w=>?_,rfl⟩;unfold execOp;simp only [fo0];clear fo0;go_simp
  case g46=>
   intro v w1 hx;(repeat intro (zq:v _ = _));intro bb hbb;have n0:w1.cell? ⟨bg,og,none⟩ = some (.slice Xg M cx):=(hdr.trans hx).cell HG0.out;refine Flow.Q0l (d:=247) rfl rfl (by rw [hbb]; simp only [size_put]; exact (by decide:247 < 261)) (by rw [hbb]; dsimp only; (try simp (discharger:=decide) only [eval_put_ne]); rw [Q0a (by simp only [size_put]; exact (by decide:247 < 261))]; assumption) ?_
   have fo0:bb.eval (.tmp 250) = .pointer (some ⟨bg,og,none⟩):=by rw [hbb]; dsimp only; (try simp (discharger:=decide) only [Flow.eval_put_ne,Flow.Q0c]); rw [Flow.Q0a (by simp only [Flow.size_put]; exact (by decide:250 < 261))]; assumption
   clear hbb;intro K hK;unfold execOp;simp only [fo0];clear fo0;go_simp;exact hK _ _ (Ext.refl _) rfl
  case g47 | g50=>
   intro v w1 hx;(repeat intro (zq:v _ = _));intro bb hbb;refine Flow.Q0l (d:=247) rfl rfl (by rw [hbb]; simp only [size_put]; exact (by decide:247 < 261)) (by rw [hbb]; dsimp only; (try simp (discharger:=decide) only [eval_put_ne]); rw [Q0a (by simp only [size_put]; exact (by decide:247 < 261))]; assumption) ?_
   subst hbb;refine ⟨_,fun w=>?_,rfl⟩;go_simp
  case g48=>
   intro v w1 hx;(repeat intro (zq:v _ = _));intro bb hbb;refine Flow.Q0l (d:=247) rfl rfl (by rw [hbb]; simp only [size_put]; exact (by decide:247 < 261)) (by rw [hbb]; dsimp only; (try simp (discharger:=decide) only [eval_put_ne]); rw [Q0a (by simp only [size_put]; exact (by decide:247 < 261))]; assumption) ?_
   have fo0:bb.eval (.tmp 1) = .pointer (some ⟨gs,0,none⟩):=by rw [hbb]; dsimp only; (try simp (discharger:=decide) only [Flow.eval_put_ne,Flow.Q0c]); rfl
   clear hbb;refine ⟨_,fun w=>?_,rfl⟩;unfold execOp;simp only [fo0];clear fo0;go_simp
  case g49=>
   intro v w1 hx;(repeat intro (zq:v _ = _));intro bb hbb;have n0:w1.cell? ⟨gs,2,none⟩ = some (.slice B M capb):=(KB.out.ext (hdr.trans hx)).cell 2;refine Flow.Q0l (d:=247) rfl rfl (by rw [hbb]; simp only [size_put]; exact (by decide:247 < 261)) (by rw [hbb]; dsimp only; (try simp (discharger:=decide) only [eval_put_ne]); rw [Q0a (by simp only [size_put]; exact (by decide:247 < 261))]; assumption) ?_
   have fo0:bb.eval (.tmp 253) = .pointer (some ⟨gs,2,none⟩):=by rw [hbb]; dsimp only; (try simp (discharger:=decide) only [Flow.eval_put_ne,Flow.Q0c]); rw [Flow.Q0a (by simp only [Flow.size_put]; exact (by decide:253 < 261))]; assumption
   clear hbb;intro K hK;unfold execOp;simp only [fo0];clear fo0;go_simp;exact hK _ _ (Ext.refl _) rfl
  case g51=>
   intro v w1 hx;(repeat intro (zq:v _ = _));intro bb hbb;refine Flow.Q0l (d:=247) rfl rfl (by rw [hbb]; simp only [size_put]; exact (by decide:247 < 261)) (by rw [hbb]; dsimp only; (try simp (discharger:=decide) only [eval_put_ne]); rw [Q0a (by simp only [size_put]; exact (by decide:247 < 261))]; assumption) ?_
   have fo0:bb.eval (.tmp 252) = .int .i64 ((M:Nat):Int):=by rw [hbb]; dsimp only; (try simp (discharger:=decide) only [Flow.eval_put_ne,Flow.Q0c]); rw [Flow.Q0a (by simp only [Flow.size_put]; exact (by decide:252 < 261))]; assumption
   have fo1:bb.eval (.tmp 255) = .int .i64 ((M:Nat):Int):=by rw [hbb]; dsimp only; (try simp (discharger:=decide) only [Flow.eval_put_ne,Flow.Q0c]); rw [Flow.Q0a (by simp only [Flow.size_put]; exact (by decide:255 < 261))]; assumption
   clear hbb;refine ⟨_,fun w=>?_,rfl⟩;unfold execOp;simp only [fo0,fo1];clear fo0 fo1;go_simp
  case g52=>
   intro v w1 hx;(repeat intro (zq:v _ = _));intro bb hbb;have fo0:bb.eval (.tmp 247) = .bool true:=by rw [hbb]; dsimp only; (try simp (discharger:=decide) only [Flow.eval_put_ne,Flow.Q0c]); rw [Flow.Q0a (by simp only [Flow.size_put]; exact (by decide:247 < 261))]; assumption
   have fo1:bb.eval (.tmp 256) = .bool true:=by rw [hbb]; dsimp only; (try simp (discharger:=decide) only [Flow.eval_put_ne,Flow.Q0c]); rw [Flow.Q0a (by simp only [Flow.size_put]; exact (by decide:256 < 261))]; assumption
   clear hbb;refine ⟨_,fun w=>?_,rfl⟩;unfold execOp;simp only [fo0,fo1];clear fo0 fo1;go_simp
  case g53=>
   intro v w1 hx;(repeat intro (zq:v _ = _));intro bb hbb;have fo0:bb.eval (.tmp 257) = .bool true:=by rw [hbb]; dsimp only; (try simp (discharger:=decide) only [Flow.eval_put_ne,Flow.Q0c]); rw [Flow.Q0a (by simp only [Flow.size_put]; exact (by decide:257 < 261))]; assumption
   clear hbb;refine ⟨_,fun w=>?_,rfl⟩;unfold execOp;simp only [fo0];clear fo0;go_simp
  case g54=>
   intro v w1 hx;(repeat intro (zq:v _ = _));intro bb hbb;refine Flow.Q0l (d:=258) rfl rfl (by rw [hbb]; simp only [size_put]; exact (by decide:258 < 261)) (by rw [hbb]; dsimp only; (try simp (discharger:=decide) only [eval_put_ne]); rw [Q0a (by simp only [size_put]; exact (by decide:258 < 261))]; assumption) ?_
   subst hbb;intro K2 hK2;go_simp;refine Q0f (Q3y w1) ?_;rintro e w2 ⟨rfl,hx2⟩;exact ⟨_,rfl,hK2 _ _ hx2 rfl⟩
  case g55=>
   intro v w1 hx;(repeat intro (zq:v _ = _));intro bb hbb;have fo0:bb.eval (.tmp 258) = .bool true:=by rw [hbb]; dsimp only; (try simp (discharger:=decide) only [Flow.eval_put_ne,Flow.Q0c]); rw [Flow.Q0a (by simp only [Flow.size_put]; exact (by decide:258 < 261))]; assumption
   have fo1:bb.eval (.tmp 259) = .bool true:=by rw [hbb]; dsimp only; (try simp (discharger:=decide) only [Flow.eval_put_ne,Flow.Q0c]); rw [Flow.Q0a (by simp only [Flow.size_put]; exact (by decide:259 < 261))]; assumption
   clear hbb;refine ⟨_,fun w=>?_,rfl⟩;unfold execOp;simp only [fo0,fo1];clear fo0 fo1;go_simp
  case g56=>
   intro v w1 hx;(repeat intro (zq:v _ = _));intro bb hbb;have fo0:bb.eval (.tmp 260) = .bool true:=by rw [hbb]; dsimp only; (try simp (discharger:=decide) only [Flow.eval_put_ne,Flow.Q0c]); rw [Flow.Q0a (by simp only [Flow.size_put]; exact (by decide:260 < 261))]; assumption
   clear hbb;refine ⟨_,fun w=>?_,rfl⟩;unfold execOp;simp only [fo0];clear fo0;go_simp
 case post =>
  intro v w1 hx;(iterate 57 intro (zq:v _ = _));simp only [Flow.All,Flow.acts,Act.put];go_simp;have hxx:=hdr.trans hx;replace HXA:=Lib.hid (HXA.out.trans hxx);replace H2:=Lib.hid (H2.out.ext hxx);replace KB:=Lib.hid (KB.out.ext hxx);replace KO:=Lib.hid (KO.out.ext hxx);replace GO:=Lib.hid (GO.out.ext hxx);replace KP:=Lib.hid (KP.out.ext hxx);obtain ⟨z7,rfl⟩:∃ Z,Z = w1:=⟨_,rfl⟩;clear hx hdr hxx;(repeat clear zq);go_wp2;go_ret;exact ⟨rfl,HXA.out⟩
end Go.Proofs
namespace Go.Proofs
open Go.RowKit Go.Tw Go.Flow Go.Ba
attribute [local go_sem] Oper.semAt_some
theorem J8q {w z0:World} {s:Q0b} {A B:Option Addr} {T M capa capb gs go:Nat} {lim tt:Int} {uv xv:Value} (HXA:Hid (Ext w z0)) (H2:Hid (Q2e z0 (.slice A T capa) (.slice B M capb) s)) (KB:Hid (Blk z0 gs 55 #[.int .i64 lim,.slice A T capa,.slice B M capb])) (KO:Hid (Blk z0 go 74 #[.int .i64 lim,uv,xv])) (GO:Hid (Q0p z0 (.agg #[.int .i64 lim,uv,xv]) (Q2u s))) (HSEA:Hid (∀ W,Q2e W (.slice A T capa) (.slice B M capb) s -> Q0p W (.agg #[.int .i64 lim,.slice A T capa,.slice B M capb]) s)) (HS:Hid (Q2x s)) (HV:Hid (Q0m s)) (HT:Hid (s.ships.length = T)) (HM:Hid (s.members.length = M)) (HLIM:Hid (s.limit = lim)) (HT4:Hid (T <= 4)) (HM4:Hid (M <= 4)) (HTW:Hid (Y5z s = tt))
    (F:Array Value) (hF:F.size = 261) (f1:F[1]? = some (.pointer (some ⟨gs,0,none⟩))) (f3:F[3]? = some (.pointer (some ⟨go,0,none⟩))) (f4:F[4]? = some (.int .i64 tt)) :
    (codeFrom Tryz.f5 15).wp Tryz.prog (bodyPost Tryz.prog Tryz.f5 (fun e w'=>e = .returned (.bool true) /\ Ext w w')) ⟨F,[]⟩ z0:=by
 obtain ⟨u,rfl⟩:=Y4v hF;replace f1:u 1 = _:=Option.some.inj f1;replace f3:u 3 = _:=Option.some.inj f3;replace f4:u 4 = _:=Option.some.inj f4;rw [f1,f3,f4];clear hF f1 f3 f4
 conv=>arg 2; whnf
 have hsh:=J4q (n:=T) (by have:=HT4.out; omega)
 obtain ⟨T2,hT2⟩:∃ z,2 ^ T = z:=⟨_,rfl⟩;have HT2:=Lib.hid hT2;have hsh2:=J9k (n:=T) (by have:=HT4.out; omega)
 rw [hT2] at hsh hsh2;have HB16:Hid (T2 <= 16):=Lib.hid (by rw [<- HT2.out]; exact Nat.le_trans (Nat.pow_le_pow_right (n:=2) (by omega) HT4.out) (by decide))
 clear hT2;have p0:=KB.out.cell 0;have p1:=KB.out.cell 1;have p2:=KB.out.cell 2;simp only [Go.Tw.gA,Go.Tw.gB,Go.Tw.gC] at p0 p1 p2;go_wp2_with fail;clear p0 p1 p2 hsh hsh2
 go_loopw [7,8,9,90] (fun av bv cv iv wr=>∃ m:Nat,m <= T2 /\ iv = .int .i64 m /\ av = .int .i64 (Q1b s m).1 /\ bv = .int .i64 (Q1b s m).2.1 /\ cv = .int .i64 (Q1b s m).2.2 /\ Ext z0 wr) (fun _ _ _ iv _=>T2 - (intOf iv).toNat)
 case atStart=>exact ⟨0,Nat.zero_le _,rfl,rfl,rfl,rfl,Ext.refl _⟩
 case round =>
  obtain ⟨m,hm,rfl,rfl,rfl,rfl,hxr⟩:=hrel;replace HXA:=Lib.hid (HXA.out.trans hxr);replace H2:=Lib.hid (H2.out.ext hxr);replace KB:=Lib.hid (KB.out.ext hxr);replace KO:=Lib.hid (KO.out.ext hxr);replace GO:=Lib.hid (GO.out.ext hxr);have HXN:=Lib.hid hxr;clear hxr
  by_cases hlt:m < T2
  . skip
    have hmI:(m:Int) < (T2:Int):=by omega
    have HI:=Lib.hid hlt;have HMT:Hid (m < 2 ^ T):=Lib.hid (by rw [HT2.out]; exact hlt)
    have HWM:Hid (wrap64 ((m:Int) + 1) = (m:Int) + 1):=Lib.hid (by have:=HB16.out; unfold wrap64; omega)
    clear hlt hm;go_upto_if 91 with fail
    repeat ((fail_if_success refine (J5b H2 KB HSEA HS HV HT HM HLIM HT4 HMT ?_)); go_step)
    refine (J5b H2 KB HSEA HS HV HT HM HLIM HT4 HMT ?_);refine Lib.hid ?_
    intros
    rename_i w9 hx9
    have HX9:=Lib.hid (HXN.out.trans hx9);clear hx9;go_wp2;go_roundw
    case rel=>exact ⟨m + 1,by have:=HI.out; omega,by (try rw [HWM.out]); go_num,rfl,rfl,rfl,HX9.out⟩
    case measure=>have:=HI.out; (try rw [HWM.out]); simp [intOf]; omega
  . skip
    have hmT:m = T2:=by omega
    subst hmT;have hmI:¬ (m:Int) < (m:Int):=by omega
    obtain ⟨m0,hm0⟩:∃ z,(Q1b s m).1 = z:=⟨_,rfl⟩;obtain ⟨f0,hf0⟩:∃ z,(Q1b s m).2.1 = z:=⟨_,rfl⟩;obtain ⟨d0,hd0⟩:∃ z,(Q1b s m).2.2 = z:=⟨_,rfl⟩;have HCT:Hid (Q1b s (2 ^ T) = (m0,f0,d0)):=Lib.hid (by rw [HT2.out,<- hm0,<- hf0,<- hd0])
    rw [hm0,hf0,hd0];clear hm0 hf0 hd0 hlt hm HXN;go_upto_if 91 with fail
    repeat (first | exact J9b HXA H2 KB KO GO HSEA HS HV HT HM HLIM HT4 HM4 HCT HTW _ rfl rfl rfl rfl rfl rfl rfl | go_step)
end Go.Proofs
namespace Go.Proofs
open Go.RowKit Go.Tw Go.Flow Go.Ba
attribute [local go_sem] Oper.semAt_some
theorem J9n {w z0:World} {s:Q0b} {A B:Option Addr} {T M capa capb gs:Nat} {lim:Int} (HXA:Hid (Ext w z0)) (H2:Hid (Q2e z0 (.slice A T capa) (.slice B M capb) s)) (KB:Hid (Blk z0 gs 55 #[.int .i64 lim,.slice A T capa,.slice B M capb])) (HSEA:Hid (∀ W,Q2e W (.slice A T capa) (.slice B M capb) s -> Q0p W (.agg #[.int .i64 lim,.slice A T capa,.slice B M capb]) s)) (HS:Hid (Q2x s)) (HV:Hid (Q0m s)) (HT:Hid (s.ships.length = T)) (HM:Hid (s.members.length = M)) (HLIM:Hid (s.limit = lim)) (HT4:Hid (T <= 4)) (HM4:Hid (M <= 4)) (HNM:Hid (∀ k,k < s.members.length -> Short (Q1d s.members k)))
    (F:Array Value) (hF:F.size = 261) (f1:F[1]? = some (.pointer (some ⟨gs,0,none⟩))) :
    (codeFrom Tryz.f5 3).wp Tryz.prog (bodyPost Tryz.prog Tryz.f5 (fun e w'=>e = .returned (.bool true) /\ Ext w w')) ⟨F,[]⟩ z0:=by
 obtain ⟨u,rfl⟩:=Y4v hF;replace f1:u 1 = _:=Option.some.inj f1;rw [f1];clear hF f1
 conv=>arg 2; whnf
 have hTM:0 < T /\ T <= 4 /\ 0 < M /\ M <= 4:=by have h1:=HV.out.tides.1; have h2:=HV.out.some.1; rw [HT.out] at h1; rw [HM.out] at h2; exact ⟨h1,HT4.out,h2,HM4.out⟩
 have HTM:=Lib.hid hTM;clear hTM;have HPOS:Hid (∀ k,k < s.members.length -> 0 < (Q0d s.members k).length /\ 0 < (Q0n s.members k).length /\ 0 < (Q0s s.members k).length):=Lib.hid fun k hk=>by
  obtain ⟨l1,l2,l3⟩:=HV.out.shaped k hk;have h:=HTM.out;rw [l1,l2,l3,HT.out];exact ⟨h.1,h.1,h.1⟩
 have p0:=KB.out.cell 0;have p1:=KB.out.cell 1;have p2:=KB.out.cell 2;simp only [Go.Tw.gA,Go.Tw.gB,Go.Tw.gC] at p0 p1 p2;go_wp2_with fail;refine (X9x _ _ s (HSEA.out _ H2.out) HS.out HPOS.out).mono ?_;rintro e z1 ⟨uv,xv,qs,rfl,hg,hm,hx⟩;clear p0 p1 p2;have hql:qs.length = M:=by rw [<- HM.out,<- hm,List.length_map]
 obtain ⟨Ux,cux,hux,-⟩:=hg.u.shape;obtain ⟨gm,cm,cur,hxv,-⟩:=X3f hg.x (by rw [hql]; exact HTM.out.2.2.1)
 rw [HT.out] at hux;rw [hql] at hxv;subst hux hxv;rw [HLIM.out];have HXN:=Lib.hid hx;have HSZ:Hid (z0.heap.size <= z1.heap.size):=Lib.hid hx.size;have HGV:=Lib.hid hg;have HQM:=Lib.hid hm;clear hg hm hx hql;obtain ⟨E,hE⟩:∃ y,z1.heap.size = y:=⟨_,rfl⟩;have HE1:=Lib.hid hE;rw [hE] at HGV HSZ;clear hE;go_upto_region 4 with fail;have hxp:=Ext.box z1 (.cells #[.int .i64 lim,.slice Ux T cux,.slice (some ⟨gm,0,none⟩) M cm] 74);have hbp:=Blk.made z1 74 #[.int .i64 lim,.slice Ux T cux,.slice (some ⟨gm,0,none⟩) M cm];obtain ⟨go,hgo⟩:∃ z,z1.heap.size = z:=⟨_,rfl⟩;obtain ⟨z2,hwt⟩:∃ Z,z1.alloc (.cells #[.int .i64 lim,.slice Ux T cux,.slice (some ⟨gm,0,none⟩) M cm] 74) = Z:=⟨_,rfl⟩;rw [hwt,hgo] at hbp;rw [hwt] at hxp;rw [hwt,hgo];have FR:Hid (Y6m z0 z2 s z0.heap.size E go (.slice Ux T cux) (.slice (some ⟨gm,0,none⟩) s.members.length cm) 0 0):=Lib.hid (by rw [HM.out]; exact ⟨Nat.le_refl _,HSZ.out,HXN.out.trans hxp,⟨qs,HGV.out.ext hxp,by rw [HQM.out,J0d]⟩,by rw [HLIM.out]; exact hbp⟩)
 have KO:=Lib.hid hbp;clear hwt hgo hxp hbp HGV HQM HSZ HXN;have p0:=KO.out.cell 0;have p1:=KO.out.cell 1;have p2:=KO.out.cell 2;simp only [Go.Tw.gA,Go.Tw.gB,Go.Tw.gC] at p0 p1 p2;go_wp2_with fail;clear p0 p1 p2 KO
 go_loopw [4,55] (fun tv iv wr=>∃ i:Nat,i <= M /\ iv = .int .i64 i /\ tv = .int .i64 (Y1u s i) /\ Y6m z0 wr s z0.heap.size E go (.slice Ux T cux) (.slice (some ⟨gm,0,none⟩) s.members.length cm) i 0) (fun _ iv _=>M - (intOf iv).toNat)
 case atStart=>exact ⟨0,Nat.zero_le _,rfl,rfl,FR.out⟩
 case round =>
  clear FR;obtain ⟨i,hi,rfl,rfl,hfr⟩:=hrel;have FR:=Lib.hid hfr
  by_cases hlt:i < M
  . skip
    have hiI:(i:Int) < (M:Int):=by omega
    have HI:=Lib.hid hlt;have HIM:Hid (i < s.members.length):=Lib.hid (by rw [HM.out]; exact hlt)
    have HWK:Hid (wrap64 ((i:Int) + 1) = (i:Int) + 1):=Lib.hid (by have:=HTM.out; have:=HI.out; unfold wrap64; omega)
    have HCL:Hid ((Q0d s.members i).length = T):=Lib.hid (by rw [<- HT.out]; exact (HV.out.shaped i HIM.out).1)
    have c1:=hfr.weight HIM.out;obtain ⟨b0,d0,c2,-,-,-⟩:=hfr.at HIM.out (t:=0) (by rw [HCL.out]; exact HTM.out.1)
    rw [HCL.out] at c2;have c0:=hfr.bc.cell 2;simp only [Go.Tw.gA,Go.Tw.gB,Go.Tw.gC] at c0;rw [HM.out] at c0;have htt:=J4d HV.out (Nat.le_of_lt HIM.out);have hww:=HV.out.weights i HIM.out;have HTS:Hid (Y1u s (i + 1) = Y1u s i + Q0h s.members i):=Lib.hid (Q5h _ _);obtain ⟨wt,hwt⟩:∃ z,Q0h s.members i = z:=⟨_,rfl⟩;rw [hwt] at c1 hww HTS;have hwr:IntKind.i64.wrap (Y1u s i + wt) = Y1u s i + wt:=Q2q _ (by have:=HTM.out; omega) (by have:=HTM.out; omega)
    clear hwt htt hww hlt hi hfr;go_wp2_with fail;clear c0 c1 c2 hwr
    go_loopw [73] (fun iv wr=>∃ t:Nat,t <= T /\ iv = .int .i64 t /\ Y6m z0 wr s z0.heap.size E go (.slice Ux T cux) (.slice (some ⟨gm,0,none⟩) s.members.length cm) i t) (fun iv _=>T - (intOf iv).toNat)
    case atStart=>exact ⟨0,Nat.zero_le _,rfl,FR.out⟩
    case round =>
     clear FR;obtain ⟨t,ht,rfl,hfr⟩:=hrel;have FR:=Lib.hid hfr
     by_cases hlt:t < T
     . skip
       have htI:(t:Int) < (T:Int):=by omega
       have HTT:=Lib.hid hlt;have HWJ:Hid (wrap64 ((t:Int) + 1) = (t:Int) + 1):=Lib.hid (by have:=HTM.out; have:=HTT.out; unfold wrap64; omega)
       have c0:=hfr.bc.cell 2;simp only [Go.Tw.gA,Go.Tw.gB,Go.Tw.gC] at c0;rw [HM.out] at c0;obtain ⟨bb,dd,c2,⟨cs,hk,hts⟩,hput,-⟩:=hfr.at HIM.out (t:=t) (by rw [HCL.out]; exact hlt)
       rw [HCL.out] at c2;have HPUT:=Lib.hid hput;have c3:=hk.cell t;have c4:=hk.frozen t;rw [Array.getElem?_eq_getElem hts] at c3;obtain ⟨ov,hov⟩:∃ z,cs[t] = z:=⟨_,rfl⟩;rw [hov] at c3;clear hov hput hfr hlt ht;go_wp2_with fail;go_roundw
       case rel=>exact ⟨t + 1,by have:=HTT.out; omega,by (try rw [HWJ.out]); go_num,HPUT.out⟩
       case measure=>have:=HTT.out; (try rw [HWJ.out]); simp [intOf]; omega
     . skip
       have htI:¬ (t:Int) < (T:Int):=by omega
       have htT:t = T:=by omega
       subst htT;replace FR:=Lib.hid (hfr.next HCL.out);clear hfr hlt ht;go_wp2;go_roundw
       case rel=>exact ⟨i + 1,by have:=HI.out; omega,by (try rw [HWK.out]); go_num,by rw [HTS.out],FR.out⟩
       case measure=>have:=HI.out; (try rw [HWK.out]); simp [intOf]; omega
  . skip
    have hiM:i = M:=by omega
    subst hiM;have hiI:¬ (i:Int) < (i:Int):=by omega
    have hfr2:=hfr;rw [<- HM.out] at hfr2;have GO:=Lib.hid (hfr2.done HS.out HNM.out);rw [HLIM.out,HM.out] at GO;have KO:=Lib.hid hfr.bc;rw [HLIM.out,HM.out] at KO;have HTW:Hid (Y5z s = Y1u s i):=Lib.hid (by rw [<- J6b,HM.out])
    obtain ⟨tt,htt⟩:∃ z,Y1u s i = z:=⟨_,rfl⟩;rw [htt] at HTW ⊢;replace HXA:=Lib.hid (HXA.out.trans hfr.ex);replace H2:=Lib.hid (H2.out.ext hfr.ex);replace KB:=Lib.hid (KB.out.ext hfr.ex);clear htt hfr hfr2 hlt hi FR;go_upto_if 56 with fail
    repeat (first | exact J8q HXA H2 KB KO GO HSEA HS HV HT HM HLIM HT4 HM4 HTW _ rfl rfl rfl rfl | go_step)
end Go.Proofs
namespace Go.Proofs
open Go.RowKit Go.Tw Go.Flow Go.Ba
attribute [local go_sem] Oper.semAt_some
theorem X3c (w:World) (v:Value) (s:Q0b) (hv:Q0p w v s) :
    Calls Tryz.prog 5 #[v] w fun e w'=>e = .returned (.bool true) /\ Ext w w':=by
 obtain ⟨a,b,rfl,h2⟩:=hv;obtain ⟨A,capa,rfl,-,-,-⟩:=h2.ships.opened;obtain ⟨B,capb,rfl,-,-,hcm9⟩:=h2.members.opened;have HNM:Hid (∀ k,k < s.members.length -> Short (Q1d s.members k)):=Lib.hid (fun k hk=>by obtain ⟨_,_,_,_,_,_,_,_,_,_,_,_,_,_,_,hsn⟩:=hcm9 k hk; exact hsn)
 have HXA:=Lib.hid (Ext.refl w);have H2:=Lib.hid h2;obtain ⟨T,hT⟩:∃ T,s.ships.length = T:=⟨_,rfl⟩;have HT:=Lib.hid hT;obtain ⟨M,hM⟩:∃ M,s.members.length = M:=⟨_,rfl⟩;have HM:=Lib.hid hM;obtain ⟨lim,hlim⟩:∃ k,s.limit = k:=⟨_,rfl⟩;have HLIM:=Lib.hid hlim;have HSEA:Hid (∀ W,Q2e W (.slice A T capa) (.slice B M capb) s -> Q0p W (.agg #[.int .i64 lim,.slice A T capa,.slice B M capb]) s):=Lib.hid (fun W h=>⟨_,_,by rw [hlim],h⟩)
 rw [hT,hM] at H2;rw [hT,hM,hlim];clear h2 hT hM hlim hcm9;go_enter Tryz.func5,Tryz.ntmps5;go_upto_region 1 with fail;obtain ⟨W,hWW,k0,HXW,eW⟩:=Q2y w 55 #[.int .i64 lim,.slice A T capa,.slice B M capb];rw [hWW];clear hWW;obtain ⟨gs,hgs⟩:∃ z,w.heap.size = z:=⟨_,rfl⟩;rw [hgs] at k0 ⊢;have KB:=Lib.hid k0;replace HXA:=Lib.hid HXW.out;replace H2:=Lib.hid (H2.out.ext HXW.out);obtain ⟨z0,rfl⟩:∃ Z,Z = W:=⟨_,rfl⟩;clear hgs k0 eW HXW;have d0KB:=KB.out.cell 0;have d1KB:=KB.out.cell 1;have d2KB:=KB.out.cell 2;simp only [Go.Tw.gA,Go.Tw.gB,Go.Tw.gC] at d0KB d1KB d2KB;go_wp2_with fail;refine (Z7k _ _ s (HSEA.out _ H2.out)).mono ?_;rintro e z1 ⟨q,rfl,hq,hx⟩;have hxx:Ext z0 z1:=hx;replace HXA:=Lib.hid (HXA.out.trans hxx);replace H2:=Lib.hid (H2.out.ext hxx);replace KB:=Lib.hid (KB.out.ext hxx);clear hx hxx d0KB d1KB d2KB;cases q with
 | false =>
   clear hq;go_wp2_with fail;refine (Q3y _).mono ?_;rintro e z2 ⟨rfl,hx⟩;have hxx:Ext z1 z2:=hx;replace HXA:=Lib.hid (HXA.out.trans hxx);replace H2:=Lib.hid (H2.out.ext hxx);replace KB:=Lib.hid (KB.out.ext hxx);clear hx hxx;go_wp2;go_ret;exact ⟨rfl,HXA.out⟩
 | true =>
   have hs:Q2x s:=hq.1 rfl;have HS:=Lib.hid hs;clear hs hq
   by_cases h4:4 < T
   . skip
     have p0:=KB.out.cell 0;have p1:=KB.out.cell 1;have p2:=KB.out.cell 2;simp only [Go.Tw.gA,Go.Tw.gB,Go.Tw.gC] at p0 p1 p2;have h4I:(4:Int) < (T:Int):=by omega
     have h4d:decide ((4:Int) < (T:Int)) = true:=decide_eq_true h4I;have h4n:decide (4 < T) = true:=decide_eq_true h4;go_wp2_with fail;refine (Q3y _).mono ?_;rintro e z2 ⟨rfl,hx⟩;have hxx:Ext z1 z2:=hx;replace HXA:=Lib.hid (HXA.out.trans hxx);replace H2:=Lib.hid (H2.out.ext hxx);replace KB:=Lib.hid (KB.out.ext hxx);clear hx hxx;go_wp2;go_ret;exact ⟨rfl,HXA.out⟩
   have h4I:¬ (4:Int) < (T:Int):=by omega
   have h4d:decide ((4:Int) < (T:Int)) = false:=decide_eq_false h4I;have h4n:decide (4 < T) = false:=decide_eq_false h4;have HT4:Hid (T <= 4):=Lib.hid (by omega)
   by_cases h5:4 < M
   . skip
     have p0:=KB.out.cell 0;have p1:=KB.out.cell 1;have p2:=KB.out.cell 2;simp only [Go.Tw.gA,Go.Tw.gB,Go.Tw.gC] at p0 p1 p2;have h5I:(4:Int) < (M:Int):=by omega
     have h5d:decide ((4:Int) < (M:Int)) = true:=decide_eq_true h5I;have h5n:decide (4 < M) = true:=decide_eq_true h5;go_wp2_with fail;refine (Q3y _).mono ?_;rintro e z2 ⟨rfl,hx⟩;have hxx:Ext z1 z2:=hx;replace HXA:=Lib.hid (HXA.out.trans hxx);replace H2:=Lib.hid (H2.out.ext hxx);replace KB:=Lib.hid (KB.out.ext hxx);clear hx hxx;go_wp2;go_ret;exact ⟨rfl,HXA.out⟩
   have h5I:¬ (4:Int) < (M:Int):=by omega
   have h5d:decide ((4:Int) < (M:Int)) = false:=decide_eq_false h5I;have h5n:decide (4 < M) = false:=decide_eq_false h5;have HM4:Hid (M <= 4):=Lib.hid (by omega)
   have d0KB:=KB.out.cell 0;have d1KB:=KB.out.cell 1;have d2KB:=KB.out.cell 2;simp only [Go.Tw.gA,Go.Tw.gB,Go.Tw.gC] at d0KB d1KB d2KB;go_wp2_with fail;refine (X6z _ _ s (HSEA.out _ H2.out)).mono ?_;rintro e z2 ⟨rfl,hx⟩;have hxx:Ext z1 z2:=hx;replace HXA:=Lib.hid (HXA.out.trans hxx);replace H2:=Lib.hid (H2.out.ext hxx);replace KB:=Lib.hid (KB.out.ext hxx);clear hx hxx d0KB d1KB d2KB;clear h4 h4I h4d h4n h5 h5I h5d h5n
   by_cases he:s.err = 0
   . skip
     have HV:=Lib.hid (Q0m.of he);rw [he];clear he;go_upto_if 48 with fail
     repeat (first | exact J9n HXA H2 KB HSEA HS HV HT HM HLIM HT4 HM4 HNM _ rfl rfl | go_step)
   . skip
     have heb:(s.err != 0) = true:=by simp [he]
     obtain ⟨E,hE⟩:∃ z,s.err = z:=⟨_,rfl⟩;rw [hE] at heb he ⊢;have hE0:E ≠ 0:=he;go_wp2_with fail;refine (Q3y _).mono ?_;rintro e z3 ⟨rfl,hx⟩;have hxx:Ext z2 z3:=hx;replace HXA:=Lib.hid (HXA.out.trans hxx);replace H2:=Lib.hid (H2.out.ext hxx);replace KB:=Lib.hid (KB.out.ext hxx);clear hx hxx;go_wp2;go_ret;exact ⟨rfl,HXA.out⟩
end Go.Proofs
namespace Go.Proofs.YtodinjclfmiohaaGreat
open Go.ChangeShapes Go.WideShapes Go.ChangeAt Go.RowKit Go.Tw
theorem Q9s (os:Os) (started:os.Started) (H:Type) (enc:TypeId × Value -> H) :
    ReturnsInHanded {} Tryz.checked os 5 .any (Rows.topKeelCertainSpec.pre6 enc Tryz.prog Tryz.f5 Rows.topKeelCertainRow.domain false)
     (Rows.topKeelCertainSpec.post enc Tryz.prog Tryz.f5 false true false false):=by
 refine J7h (C:=Tryz.checked) own started (by kernel_rfl) Tryz.func5
  (ChangeSpec.witness6 (enc:=enc) (C:=Tryz.checked) false ⟨#[],#[.agg #[.int .i64 0,.slice none 0 0,.slice none 0 0]],[]⟩ 8 (by kernel_rfl) (by kernel_rfl) (by kernel_rfl) (by kernel_rfl)) ?_
 intro W base args ds gs before hval0 hW hsz0;have hval:∀ (j:Nat) t v,Tryz.f5.params[j]? = some t -> args[j]? = some v -> Value.okWide Tryz.prog W .any base t v:=hval0;have hsz:(DataW.weightsEach Tryz.prog (Tryz.f5.params.toList ++ Rows.topKeelCertainSpec.plain.varTypes Tryz.prog) (ds ++ gs)).all (· <= reachBytes) = true:=hsz0;have hW':=hW;obtain ⟨p,q,hA0,hV,rfl,hfz,hnd⟩:=hW;have hA:DataW.TrodAll enc Tryz.prog W 0 (fun _=>true) true Tryz.f5.params.toList args.toList ds p:=hA0;rw [Tryz.params5] at hA hval hsz;obtain ⟨v0,vs0,d0,ds0,p0,q0,hargs,rfl,rfl,h0,r0⟩:=trodAll_cons hA;obtain ⟨rfl,rfl,rfl⟩:=trodAll_nil r0;obtain rfl:args = #[v0]:=by cases args; simp_all
 obtain ⟨rfl,rfl⟩:=trodVars_none hV;have hfit:∀ x ∈ DataW.weightsEach Tryz.prog [55] [d0],x <= 140737488351232:=fun x hx=>by
  have:=List.all_eq_true.1 (show (DataW.weightsEach Tryz.prog [55] [d0]).all (· <= reachBytes) = true from hsz) x hx
  exact Nat.le_trans (of_decide_eq_true this) (by decide)
 obtain ⟨f0,g0⟩:=Q4o hfit;have k0:=h0;have lt0:∀ x ∈ p0,x.block < W.heap.size:=by obtain ⟨m,hm⟩:=k0; exact DataW.trod_lt m _ _ _ hm
 obtain ⟨t0,HI0⟩:=Y1f (hval 0 55 v0 rfl rfl) h0 f0;have hcall:Calls Tryz.prog 5 #[v0] W fun e W'=>e = .returned (.bool true) /\ Ext W W':=X3c _ _ _ HI0;clear hA0 hval0 hsz0;refine hcall.mono fun e W' ⟨he,bel⟩=>?_;subst he;exact ⟨_,rfl,_,_,_,[],_,[],hW',trodAll_mk1 (shut_bool Tryz.underlying4 _),(trodAll_cons_mk (Below.trod laidOut (by kernel_rfl) (of_decide_eq_true (by kernel_rfl)) k0 bel lt0) trodAll_mk0),rfl,bel.frame _,fun h=>by cases h⟩
theorem X0x:Tryz.pinned.checked.prog.funcNamed Rows.topKeelCertainRow.func = some 5:=by kernel_rfl
theorem Q8z:Tryz.f5.isInstance Tryz.pinned.checked.prog Rows.topKeelCertainRow.origin Rows.topKeelCertainRow.targs:=of_decide_eq_true (by kernel_rfl)
theorem X5c:(Rows.topKeelCertainRow.wf (OpenSpec.ofChange Rows.topKeelCertainSpec):Bool) = true:=by kernel_rfl
theorem X5q:(Tryz.f5.params.all (Tryz.prog.readableRec ·):Bool) = true:=by kernel_rfl
theorem X4s:(namedTie Tryz.prog Rows.topKeelCertainRow.named Rows.topKeelCertainSpec.vars:Bool) = true:=by kernel_rfl
theorem X5p:((Rows.topKeelCertainRow.stops == []):Bool) = true:=by kernel_rfl
theorem X5b:((Rows.topKeelCertainRow.knobs == []):Bool) = true:=by kernel_rfl
theorem X5g:((Rows.topKeelCertainRow.inPlace == Tryz.prog.inPlace 5):Bool) = true:=by kernel_rfl
theorem X2x:((Rows.topKeelCertainRow.unfollowed == Tryz.prog.unfollowed 5):Bool) = true:=by kernel_rfl
theorem X2o:((Rows.topKeelCertainRow.recurses == Tryz.prog.recurses 5):Bool) = true:=by kernel_rfl
theorem X4g:((Rows.topKeelCertainRow.named == Tryz.prog.varsNamed 5):Bool) = true:=by kernel_rfl
theorem X3l:((Rows.topKeelCertainRow.maps == (Tryz.f5.params.toList ++ Rows.topKeelCertainSpec.plain.varTypes Tryz.prog).any (Tryz.prog.mapsRec ·)):Bool) = true:=by kernel_rfl
theorem X2d:((Rows.topKeelCertainRow.ifaces == (Tryz.f5.params.toList ++ Rows.topKeelCertainSpec.plain.varTypes Tryz.prog).any (Tryz.prog.ifacesRec ·)):Bool) = true:=by kernel_rfl
theorem X4b:((Rows.topKeelCertainRow.mapsOut == Tryz.prog.mapsAmong Tryz.f5.resultTypes.toList):Bool) = true:=by kernel_rfl
theorem X2b:((Rows.topKeelCertainRow.loops == (Tryz.f5.params.toList ++ Rows.topKeelCertainSpec.plain.varTypes Tryz.prog).any (Tryz.prog.loopsFrom ·)):Bool) = true:=by kernel_rfl
theorem X4f:((Rows.topKeelCertainRow.wideKeys == (Tryz.f5.params.toList ++ Rows.topKeelCertainSpec.plain.varTypes Tryz.prog ++ Tryz.f5.resultTypes.toList).any (Tryz.prog.wideKeysFrom ·)):Bool) = true:=by kernel_rfl
theorem X3y:(Rows.topKeelCertainSpec.vars.all (Tryz.prog.varReadable ·):Bool) = true:=by kernel_rfl
theorem X3v:(Tryz.f5.resultTypes.all (fun t=>Tryz.prog.readableRec t && decide (t < Tryz.prog.types.size)):Bool) = true:=by kernel_rfl
theorem X3p:((Rows.topKeelCertainRow.ifacesOut == Tryz.f5.resultTypes.toList.any (Tryz.prog.ifacesRec ·)):Bool) = true:=by kernel_rfl
theorem X2l:((Rows.topKeelCertainRow.loopsOut == Tryz.f5.resultTypes.toList.any (Tryz.prog.loopsFrom ·)):Bool) = true:=by kernel_rfl
theorem X2s:((Rows.topKeelCertainRow.plainKeys == Tryz.prog.plainKeys):Bool) = true:=by kernel_rfl
theorem X2g:(Rows.topKeelCertainRow.shortTexts.isNone:Bool) = true:=by kernel_rfl
theorem X3z:((Rows.topKeelCertainRow.lifted == Tryz.prog.liftsFinal):Bool) = true:=by kernel_rfl
theorem X4m:((Tryz.prog.make == some Rows.topKeelCertainRow.make):Bool) = true:=by kernel_rfl
theorem X2z:(Rows.topKeelCertainRow.domain.isEmpty && (Rows.topKeelCertainRow.kinds == []):Bool) = true:=by kernel_rfl
theorem X3w:((Rows.topKeelCertainRow.pinned == Rows.topKeelCertainRow.pinnedBy):Bool) = true:=by kernel_rfl
theorem X3n:((Rows.topKeelCertainRow.veiled == (Tryz.f5.params.toList ++ Rows.topKeelCertainSpec.plain.varTypes Tryz.prog ++ Tryz.f5.resultTypes.toList).any (Tryz.prog.veiledRec ·)):Bool) = true:=by kernel_rfl
theorem X3e:(Rows.topKeelCertainRow.veiledFits Tryz.prog Tryz.f5.params.toList (Tryz.f5.params.toList ++ Rows.topKeelCertainSpec.plain.varTypes Tryz.prog ++ Tryz.f5.resultTypes.toList):Bool) = true:=by kernel_rfl
theorem Q9n:joinedFacts Tryz.pinned.checked.prog 5 Tryz.f5 Rows.topKeelCertainSpec Rows.topKeelCertainRow = true :=
 Z8b Tryz.prog 5 Tryz.f5 Rows.topKeelCertainSpec Rows.topKeelCertainRow X5c J7k J6z X5q X4s X5p J5y X5b J5u X5g X2x X2o X4g X3l X2d X4b X2b X4f X3y X3v X3p X2l X2s X2g J2q J2d X3z X4m X2z X3w X3n X3e
theorem topKeelCertain_holds:Rows.TopKeelCertainSaid :=
 OpenClaim.holds_of_wide 5 Tryz.f5 rfl rfl rfl rfl rfl rfl rfl ⟨rfl,rfl,rfl,rfl,rfl⟩ rfl rfl rfl rfl rfl X0x Tryz.func5 Q9n
  Q8z (by unfold Func.isWrapper; first | (rw [if_pos (by decide +kernel)]; kernel_rfl) | (rw [if_neg (by decide +kernel)]; exact ⟨rfl,rfl⟩))
  (fun os started H enc _=>Q9s os started H enc)
#print axioms topKeelCertain_holds
end Go.Proofs.YtodinjclfmiohaaGreat
