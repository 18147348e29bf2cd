/- Plain law: what PolicyFiner says: higher limits, one class for all members, a class for each member. What the law PolicyInformed asks, plain: levels and X3n tide by tide, the sums over the members, a turned rule, Q7o members. No program in sight. Plain facts of PolicyFiner: classes set cell by cell; the weight of the members that are not Q7o. What the loops of PolicyFiner keep: two copies of the J6z, apart, with classes set cell by cell. -/
import Derived.Test.YthnobngcipaljaaGreatDoorPp35
import Derived.Test.YthnobngcipaljaaGreatDoorPz01
import Derived.Test.YthnobngcipaljaaGreatDoorPz02
set_option maxRecDepth 1000000
set_option maxHeartbeats 64000000
set_option linter.unusedVariables false
set_option linter.unusedSimpArgs false
set_option linter.constructorNameAsVariable false
namespace Go.Tw
variable {s:Q0b}
theorem Q1b.err (h:Q1b s):s.err=0:=by
 have hm:∀ k,k < s.members.length -> s.Q2o k=0:=by
  intro k hk;unfold Q0b.Q2o;have h2:Q2y s.members k=false:=by
   unfold Q2y;rw [List.any_eq_false];intro i hi;rw [X1c (h.twice k hk i (List.mem_range.1 hi))]; simp
  rw [if_neg (by rw [h.names k hk]; simp),if_neg (by rw [h2]; simp),if_neg (by rw [Q5h.2 (h.weights k hk)]; simp),if_neg (fun hn=>hn (h.shaped k hk)),Q1r]
  intro x hx;simp only [List.mem_cons,List.not_mem_nil,or_false] at hx
  rcases hx with e | e | e
  . rw [e]; exact Q4l.2 (h.digits k hk)
  . rw [e]; exact Q4l.2 (h.outside k hk)
  . rw [e]; exact Q4l.2 (h.inflow k hk)
 have h1:=h.tides;have h2:=h.some;unfold Q0b.err;rw [if_neg (by rw [Q5h.2 h.limit]; simp),if_neg (by omega),if_neg (by omega),if_neg (by rw [Q4l.2 h.delays]; simp),if_neg (by omega),if_neg (by omega),Q1r]
 intro x hx;obtain ⟨k,hk,rfl⟩:=List.mem_map.1 hx;exact hm k (List.mem_range.1 hk)
theorem J7s (f:List Int -> Bool) (i t:Nat) (h:t < (Z2o s f i).length):(Z2o s f i)[t]=f (hs s i (t + 1)):=by simp [Z2o]
def keepW (s:Q0b) (say:Nat -> List Bool):Int:=((List.range s.members.length).map fun i=>if (Q2e s i).keeps s.limit (say i) then Q0i s.members i else 0).sum
theorem J6w (f:List Int -> Bool):Z0n s f s.ships.length (X9l s)=keepW s (Z2o s f):=by
 unfold Z0n X9l keepW;rw [List.map_map]
 congr 1
 apply List.map_congr_left
 intro i _;simp only [Function.comp];rw [Z3n _ _ (Nat.le_refl _)];simp only [Nat.sub_self,List.drop_zero,Bool.true_and,Mem.keeps,Mem.X3n];rfl
theorem J4b (hf:Fine s) (f:List Int -> Bool):keepW s (Z2o s f) <= Z5c s:=by
 obtain ⟨x,hx,e,-,-⟩:=Y5s hf f;rw [J6w] at e;exact Int.le_trans e (J7v x hx)
theorem J6b (hv:Q1b s):∃ f,keepW s (Z2o s f)=Z5c s:=by
 obtain ⟨x,hx,e⟩:=J7q hv;refine ⟨fun h=>x.closed.contains (Q5x h),?_⟩;rw [<- J6w,<- e];exact (Y4o hv.toFine hx _ fun i _ u _ _=>rfl).1
theorem J5r {s':Q0b} {a b:Nat -> List Bool} (hn:s'.members.length=s.members.length) (hw:∀ i,i < s.members.length -> Q0i s'.members i=Q0i s.members i)
    (h0:∀ i,i < s.members.length -> 0 <= Q0i s.members i) (hk:∀ i,i < s.members.length -> (Q2e s i).keeps s.limit (a i)=true -> (Q2e s' i).keeps s'.limit (b i)=true):keepW s a <= keepW s' b:=by
 unfold keepW;rw [hn];refine J8c fun i hi=>?_;have hi':=List.mem_range.1 hi;rw [hw i hi'];have:=h0 i hi'
 by_cases h:(Q2e s i).keeps s.limit (a i)=true
 . rw [if_pos h,if_pos (hk i hi' h)]; exact Int.le_refl _
 . rw [if_neg h]; split <;> omega
theorem J6k {s':Q0b} (hv:Q1b s) (hf':Fine s') (hn:s'.members.length=s.members.length) (hw:∀ i,i < s.members.length -> Q0i s'.members i=Q0i s.members i)
    (hk:∀ i,i < s.members.length -> ∀ c,(Q2e s i).keeps s.limit c=true -> (Q2e s' i).keeps s'.limit c=true) (hsay:∀ f,∃ f',∀ i,i < s.members.length -> Z2o s' f' i=Z2o s f i):Z5c s <= Z5c s':=by
 obtain ⟨f,hf⟩:=J6b hv;obtain ⟨f',h'⟩:=hsay f;rw [<- hf];refine Int.le_trans (J5r hn hw (fun i hi=>by have:=(hv.weights i hi).1; omega) fun i hi hc=>?_) (J4b hf' f')
 rw [h' i hi]; exact hk i hi _ hc
def higher (s:Q0b) (n:Int):Q0b:=⟨n,s.ships,s.members⟩
theorem J3q (hv:Q1b s) {n:Int} (h:0 <= n /\ n <= 1024):Q1b (higher s n) :=
 { shaped:=hv.shaped,digits:=hv.digits,limit:=h,tides:=hv.tides,delays:=hv.delays,some:=hv.some,names:=hv.names,twice:=hv.twice,weights:=hv.weights,outside:=hv.outside,inflow:=hv.inflow }
theorem J6j (hv:Q1b s) {n:Int} (h:s.limit <= n /\ n <= 1024):Z5c s <= Z5c (higher s n) :=
 J6k hv (J3q hv ⟨Int.le_trans hv.limit.1 h.1,h.2⟩).toFine rfl (fun _ _=>rfl) (fun _ _ _ hc=>J5m h.1 hc) fun f=>⟨f,fun _ _=>rfl⟩
theorem J6r {n:Int} (h:s.limit <= n) (p:List Rul) {x:Int} (hx:x ∈ Q3r s p):x ∈ Q3r (higher s n) p:=by
 obtain ⟨i,hi,rfl⟩:=List.mem_map.1 hx;obtain ⟨h1,h2⟩:=List.mem_filter.1 hi;exact List.mem_map.2 ⟨i,List.mem_filter.2 ⟨h1,J5m h h2⟩,rfl⟩
def J2o (s:Q0b) (g:Nat -> Int):Q0b:=⟨s.limit,s.ships,s.members.mapIdx fun i m=>{ m with classes:=m.classes.map fun _=>g i }⟩
theorem J2k (g:Nat -> Int):(J2o s g).members.length=s.members.length:=by simp [J2o]
theorem J3j (g:Nat -> Int) {i:Nat} (hi:i < s.members.length):Q2e (J2o s g) i={ Q2e s i with classes:=(Q2e s i).classes.map fun _=>g i }:=by
 unfold Q2e;rw [Q0v _ (by rw [J2k]; exact hi),Q0v _ hi]
 simp [J2o]
theorem J2w (hf:Fine s) (g:Nat -> Int) {i:Nat} (hi:i < s.members.length):Q0c (J2o s g).members i=List.replicate s.ships.length (g i):=by
 have:=congrArg Mem.classes (J3j (s:=s) g hi);have h2:Q0c (J2o s g).members i=(Q0c s.members i).map fun _=>g i:=this;rw [h2,List.map_const',(hf.shaped i hi).1]
theorem J2x (g:Nat -> Int) {i:Nat} (hi:i < s.members.length) (lim:Int) (c:List Bool):(Q2e (J2o s g) i).keeps lim c=(Q2e s i).keeps lim c:=by
 have go:∀ (m:Mem) (l:List Int) (t:Nat) (lv:Int) (c:List Bool),({ m with classes:=l }:Mem).Q3e t lv c=m.Q3e t lv c:=by
  intro m l t lv c
  induction c generalizing t lv with
  | nil=>rfl
  | cons x c ih=>simp only [Mem.Q3e,Mem.stepT]; rw [ih]
 rw [J3j g hi];unfold Mem.keeps Mem.X3n;rw [go]
theorem J3i (hv:Q1b s) {g:Nat -> Int} (hg:∀ i,i < s.members.length -> 0 <= g i /\ g i <= 9):Q1b (J2o s g):=by
 have e:∀ i,i < s.members.length -> Q1h (J2o s g).members i=Q1h s.members i /\ Q0i (J2o s g).members i=Q0i s.members i /\ Q0t (J2o s g).members i=Q0t s.members i /\ Q0y (J2o s g).members i=Q0y s.members i:=by
  intro i hi;have:=J3j (s:=s) g hi;have a1:=congrArg Mem.name this;have a2:=congrArg Mem.weight this;have a3:=congrArg Mem.outside this;have a4:=congrArg Mem.inflow this;exact ⟨a1,a2,a3,a4⟩
 exact
 { shaped:=fun k hk=>by
    rw [J2k] at hk;refine ⟨by rw [J2w hv.toFine g hk,List.length_replicate]; rfl,?_,?_⟩
    . rw [(e k hk).2.2.1]; exact (hv.shaped k hk).2.1
    . rw [(e k hk).2.2.2]; exact (hv.shaped k hk).2.2
   digits:=fun k hk=>by
    rw [J2k] at hk;rw [J2w hv.toFine g hk];intro x hx;rw [List.eq_of_mem_replicate hx]; exact hg k hk
   limit:=hv.limit
   tides:=hv.tides
   delays:=hv.delays
   some:=by rw [J2k]; exact hv.some
   names:=fun k hk=>by rw [J2k] at hk; rw [(e k hk).1]; exact hv.names k hk
   twice:=fun k hk i hi=>by rw [J2k] at hk; rw [(e k hk).1,(e i (by omega)).1]; exact hv.twice k hk i hi
   weights:=fun k hk=>by rw [J2k] at hk; rw [(e k hk).2.1]; exact hv.weights k hk
   outside:=fun k hk=>by rw [J2k] at hk; rw [(e k hk).2.2.1]; exact hv.outside k hk
   inflow:=fun k hk=>by rw [J2k] at hk; rw [(e k hk).2.2.2]; exact hv.inflow k hk }
theorem J2q (g:Nat -> Int) {i:Nat} (hi:i < s.members.length):Q0i (J2o s g).members i=Q0i s.members i:=by
 have a2:=congrArg Mem.weight (J3j (s:=s) g hi);exact a2
theorem J6u (hf:Fine s) (g:Nat -> Int) {i u:Nat} (hi:i < s.members.length) (hu:u <= s.ships.length):hs (J2o s g) i u=List.replicate u (g i):=by
 rw [hs,J2w hf g hi,List.take_replicate,Nat.min_eq_left hu]
theorem J6t (hv:Q1b s):Z5c (J2o s fun _=>0) <= Z5c s:=by
 have hv':=J3i hv (g:=fun _=>0) (fun _ _=>⟨by decide,by decide⟩)
 refine J6k hv' hv.toFine (J2k _).symm (fun i hi=>(J2q _ (by rwa [J2k] at hi)).symm) (fun i hi c hc=>?_) fun f=>⟨fun h=>f (List.replicate h.length 0),fun i hi=>?_⟩
 . rw [J2k] at hi; rwa [J2x _ hi] at hc
 . rw [J2k] at hi
   unfold Z2o
   apply List.map_congr_left
   intro t ht;have ht':t < s.ships.length:=List.mem_range.1 ht;show f (List.replicate (hs s i (t + 1)).length 0)=f (hs (J2o s _) i (t + 1));rw [Z3z hv.toFine hi (by omega),J6u hv.toFine _ hi (by omega)]
theorem J5v (hv:Q1b s) (hn:s.members.length <= 10):Z5c (J2o s fun i=>(i:Int))=keepW s (fun i=>(if Q7o s i=none then (alone s i).getD [] else List.replicate s.ships.length false)) /\ Z5c s <= Z5c (J2o s fun i=>(i:Int)):=by
 have hv':=J3i hv (g:=fun i=>(i:Int)) (fun i hi=>⟨by omega,by omega⟩)
 have hs0:=hv.tides.1;have h0:∀ i,i < s.members.length -> 0 <= Q0i s.members i:=fun i hi=>by have:=(hv.weights i hi).1; omega
 refine ⟨Int.le_antisymm ?_ ?_,?_⟩
 . obtain ⟨f,hf⟩:=J6b hv'
   rw [<- hf];refine J5r (J2k _).symm (fun i hi=>(J2q _ (by rwa [J2k] at hi)).symm) (fun i hi=>by rw [J2k] at hi; rw [J2q _ hi]; exact h0 i hi) fun i hi hc=>?_
   rw [J2k] at hi;rw [J2x _ hi] at hc;have hl:(Z2o (J2o s fun i=>(i:Int)) f i).length=s.ships.length:=by simp [Z2o,J2o]
   have hd:Q7o s i=none:=(J5k hs0).2 ⟨_,hl,hc⟩;rw [if_pos hd];cases ha:alone s i with
   | none=>have:=J3k ha _ hl; rw [show (J2o s fun i=>(i:Int)).limit=s.limit from rfl] at hc; rw [this] at hc; cases hc
   | some b=>exact (J3o ha).2.1
 . refine Int.le_trans (J5r (J2k _) (fun i hi=>J2q _ hi) h0 fun i hi hc=>?_) (J4b hv'.toFine fun h=>((fun i=>(if Q7o s i=none then (alone s i).getD [] else List.replicate s.ships.length false)) (ix h 0).toNat).getD (h.length - 1) false)
   rw [J2x _ hi];have e:Z2o (J2o s fun i=>(i:Int)) (fun h=>((fun i=>(if Q7o s i=none then (alone s i).getD [] else List.replicate s.ships.length false)) (ix h 0).toNat).getD (h.length - 1) false) i=(if Q7o s i=none then (alone s i).getD [] else List.replicate s.ships.length false):=by
    have hl:(if Q7o s i=none then (alone s i).getD [] else List.replicate s.ships.length false).length=s.ships.length:=by
     split
     . rename_i hd
       obtain ⟨c,hc1,hc2⟩:=J2u hd hs0;cases ha:alone s i with
       | none=>rw [J3k ha c hc1] at hc2; cases hc2
       | some b=>exact (J3o ha).1
     . simp
    apply List.ext_getElem
    . rw [hl]; simp [Z2o,J2o]
    . intro t h1 h2
      have ht:t < s.ships.length:=by rwa [hl] at h2
      rw [J7s,J6u hv.toFine _ hi (by omega)]
      dsimp only;rw [List.length_replicate,show ix (List.replicate (t + 1) (i:Int)) 0=(i:Int) by simp [ix],Int.toNat_natCast,Nat.add_sub_cancel,Q0v _ h2]
   rw [e]; exact hc
 . refine J6k hv hv'.toFine (J2k _) (fun i hi=>J2q _ hi) (fun i hi c hc=>by rw [J2x _ hi]; exact hc) fun f=>⟨fun h=>f (hs s (ix h 0).toNat h.length),fun i hi=>?_⟩
   unfold Z2o
   apply List.map_congr_left
   intro t ht;have ht':t < s.ships.length:=List.mem_range.1 ht;dsimp only;rw [J6u hv.toFine _ hi (by omega),List.length_replicate,show ix (List.replicate (t + 1) (i:Int)) 0=(i:Int) by simp [ix],Int.toNat_natCast]
theorem J6n (hv:Q1b s) {i:Nat} (hi:i < s.members.length) (hd:Q7o s i=none):Q0i s.members i <= Z5c s:=by
 obtain ⟨c,hc1,hc2⟩:=J2u hd hv.tides.1;refine Int.le_trans ?_ (J4b hv.toFine fun h=>c.getD (h.length - 1) false);have e:Z2o s (fun h=>c.getD (h.length - 1) false) i=c:=by
  apply List.ext_getElem
  . simp [Z2o,hc1]
  . intro t h1 h2
    rw [J7s,Z3z hv.toFine hi (by omega),Nat.add_sub_cancel,Q0v _ h2]
 have:=J8p (g:=fun i=>if (Q2e s i).keeps s.limit (Z2o s (fun h=>c.getD (h.length - 1) false) i) then Q0i s.members i else 0) (List.mem_range.2 hi) fun k hk=>by
  have:=(hv.weights k (List.mem_range.1 hk)).1
  split <;> omega
 simp only [e,hc2,if_true] at this;exact this
end Go.Tw
namespace Go.Proofs
open Go.Tw
def J2m (f:Nat -> Int) (k:Nat):Int:=((List.range k).map f).sum
theorem J4k (f:Nat -> Int) (k:Nat):J2m f (k + 1)=J2m f k + f k:=by
 unfold J2m;rw [List.range_succ,List.map_append,List.sum_append]; simp
theorem J6f {f:Nat -> Int} {b:Int} {n:Nat} (h:∀ i,i < n -> 0 <= f i /\ f i <= b) (hb:0 <= b):∀ k,k <= n -> 0 <= J2m f k /\ J2m f k <= b * k
 | 0,_=>by simp [J2m]
 | k + 1,hk=>by
   have ih:=J6f h hb k (by omega)
   have hf:=h k (by omega)
   rw [J4k];have e:b * ((k + 1:Nat):Int)=b * (k:Int) + b:=by rw [Int.natCast_succ,Int.mul_add,Int.mul_one]
   rw [e];omega
end Go.Proofs
namespace Go.Proofs
open Go.Tw
def recC (s:Q0b) (g:Nat -> Int) (i t j:Nat):List Int:=if j < i then (Q0c s.members j).map fun _=>g j else if j=i then ((Q0c s.members j).take t).map (fun _=>g j) ++ (Q0c s.members j).drop t else Q0c s.members j
def J6i (s:Q0b) (g:Nat -> Int) (i t:Nat):List Mem:=(List.range s.members.length).map fun j=>{ Q2e s j with classes:=recC s g i t j }
theorem J2s (s:Q0b) (g:Nat -> Int) (i t:Nat):(J6i s g i t).length=s.members.length:=by simp [J6i]
theorem J5x (s:Q0b) (g:Nat -> Int):J6i s g 0 0=s.members:=by
 apply List.ext_getElem (J2s s g 0 0)
 intro j h1 h2;have e:recC s g 0 0 j=Q0c s.members j:=by
  unfold recC;rw [if_neg (Nat.not_lt_zero _)]
  split <;> simp
 simp only [J6i,List.getElem_map,List.getElem_range,e];unfold Q2e Q0c;rw [Q0v _ h2]
theorem J7f (s:Q0b) (g:Nat -> Int):J6i s g s.members.length 0=(J2o s g).members:=by
 apply List.ext_getElem (by rw [J2s,J2k])
 intro j h1 h2;have hj:j < s.members.length:=by rwa [J2s] at h1
 simp only [J6i,List.getElem_map,List.getElem_range,recC,if_pos hj];simp only [J2o,List.getElem_mapIdx];unfold Q2e Q0c;rw [Q0v _ hj]
theorem J6c (s:Q0b) (g:Nat -> Int) {i T:Nat} (h:(Q0c s.members i).length=T):J6i s g i T=J6i s g (i + 1) 0:=by
 unfold J6i
 apply List.map_congr_left
 intro j hj;have e:recC s g i T j=recC s g (i + 1) 0 j:=by
  unfold recC
  by_cases h1:j < i
  . rw [if_pos h1,if_pos (by omega)]
  . rw [if_neg h1]
    by_cases h2:j=i
    . subst h2
      rw [if_pos rfl,if_pos (by omega),List.take_of_length_le (by omega),List.drop_of_length_le (by omega),List.append_nil]
    . rw [if_neg h2,if_neg (by omega)]
      split
      . rename_i h3; subst h3; simp
      . rfl
 rw [e]
theorem J6x (s:Q0b) (g:Nat -> Int) (i t j:Nat):(recC s g i t j).length=(Q0c s.members j).length:=by
 unfold recC
 split
 . simp
 . split
   . simp; omega
   . rfl
theorem J4t (s:Q0b) (g:Nat -> Int) (i t:Nat) {j:Nat} (hj:j < (J6i s g i t).length):(J6i s g i t)[j]={ Q2e s j with classes:=recC s g i t j }:=by simp [J6i]
theorem J8l (s:Q0b) (g:Nat -> Int) {i t:Nat} (ht:t < (Q0c s.members i).length):(recC s g i t i).set t (g i)=recC s g i (t + 1) i:=by
 unfold recC;rw [if_neg (Nat.lt_irrefl _),if_pos rfl,if_neg (Nat.lt_irrefl _),if_pos rfl]
 apply List.ext_getElem
 . simp; omega
 . intro k h1 h2
   rw [List.getElem_set]
   by_cases e:t=k
   . subst e
     rw [if_pos rfl,List.getElem_append_left (by simp; omega)]
     simp
   . rw [if_neg e]
     by_cases hlt:k < t
     . rw [List.getElem_append_left (by simp; omega),List.getElem_append_left (by simp; omega)]
       simp
     . rw [List.getElem_append_right (by simp; omega),List.getElem_append_right (by simp; omega)]
       simp only [List.length_map,List.length_take,List.getElem_drop]
       congr 1
       omega
theorem J6v (s:Q0b) (g:Nat -> Int) {i t:Nat} (ht:t < (Q0c s.members i).length):(J6i s g i t).set i { Q2e s i with classes:=(recC s g i t i).set t (g i) }=J6i s g i (t + 1):=by
 apply List.ext_getElem
 . rw [List.length_set,J2s,J2s]
 . intro j h1 h2
   rw [List.getElem_set]
   by_cases e:i=j
   . subst e
     rw [if_pos rfl,J4t,J8l s g ht]
   . rw [if_neg e,J4t,J4t]
     have:recC s g i t j=recC s g i (t + 1) j:=by
      unfold recC
      by_cases h3:j < i
      . rw [if_pos h3,if_pos h3]
      . rw [if_neg h3,if_neg h3,if_neg (fun h=>e h.symm),if_neg (fun h=>e h.symm)]
     rw [this]
def J5l (s:Q0b) (i:Nat):Int:=if Q7o s i=none then Q0i s.members i else 0
theorem J8q {s:Q0b} (hS:Q1b s) {i:Nat} (hi:i < s.members.length):0 <= J5l s i /\ J5l s i <= 1000:=by
 have:=hS.weights i hi;unfold J5l
 split <;> omega
theorem J8x {s:Q0b} (hS:Q1b s) {k:Nat} (hk:k <= s.members.length):0 <= J2m (J5l s) k /\ J2m (J5l s) k <= 1000 * k:=J6f (fun i hi=>J8q hS hi) (by decide) k hk
theorem J8v {s:Q0b} (hv:Q1b s) (hn:s.members.length <= 10):J2m (J5l s) s.members.length=Z5c (J2o s fun i=>(i:Int)):=by
 rw [(J5v hv hn).1];unfold J2m keepW
 congr 1
 apply List.map_congr_left
 intro i hi;unfold J5l
 by_cases hd:Q7o s i=none
 . rw [if_pos hd,if_pos]
   dsimp only;rw [if_pos hd];obtain ⟨c,hc1,hc2⟩:=J2u hd hv.tides.1;cases ha:alone s i with
   | none=>rw [J3k ha c hc1] at hc2; cases hc2
   | some b=>exact (J3o ha).2.1
 . rw [if_neg hd,if_neg]
   dsimp only;rw [if_neg hd];intro hk;exact hd ((J5k hv.tides.1).2 ⟨_,by simp,hk⟩)
end Go.Proofs
namespace Go.Proofs
open Go.RowKit Go.Tw Go.Flow
attribute [local go_sem] Oper.semAt_some
structure J8m where
 B:Nat
 E:Nat
 B2:Nat
 E2:Nat
 gc:Nat
 gf:Nat
 uc:Value
 xc:Value
 uf:Value
 xf:Value
structure J5t (W0 w:World) (s:Q0b) (L:J8m) (i t:Nat):Prop where
 ap:L.E <= L.B2
 lo:W0.heap.size <= L.B
 lo2:L.B <= L.E
 ex:Ext W0 w
 c:∃ qc,J3h w L.B L.E L.uc L.xc s.ships qc /\ qc.map (·.1)=J6i s (fun _=>0) i t
 f:∃ qf,J3h w L.B2 L.E2 L.uf L.xf s.ships qf /\ qf.map (·.1)=J6i s (fun j=>(j:Int)) i t
 bc:Blk w L.gc 34 #[.int .i64 s.limit,L.uc,L.xc]
 bf:Blk w L.gf 34 #[.int .i64 s.limit,L.uf,L.xf]
theorem J5t.ext {W0 w w':World} {s:Q0b} {L:J8m} {i t:Nat} (h:J5t W0 w s L i t) (hx:Ext w w'):J5t W0 w' s L i t:=by
 obtain ⟨h1,h2,h3,h4,⟨qc,h5,h6⟩,⟨qf,h7,h8⟩,h9,h10⟩:=h;exact ⟨h1,h2,h3,h4.trans hx,⟨qc,h5.ext hx,h6⟩,⟨qf,h7.ext hx,h8⟩,h9.ext hx,h10.ext hx⟩
theorem J5t.next {W0 w:World} {s:Q0b} {L:J8m} {i T:Nat} (h:J5t W0 w s L i T) (hT:(Q0c s.members i).length=T):J5t W0 w s L (i + 1) 0:=by
 obtain ⟨h1,h2,h3,h4,⟨qc,h5,h6⟩,⟨qf,h7,h8⟩,h9,h10⟩:=h;exact ⟨h1,h2,h3,h4,⟨qc,h5,by rw [h6,J6c s _ hT]⟩,⟨qf,h7,by rw [h8,J6c s _ hT]⟩,h9,h10⟩
structure J9f (w:World) (L:J8m) (i t M n g1 c1 b1 d1 g2 c2 b2 d2:Nat):Prop where
 x1:L.xc=.slice (some ⟨g1,0,none⟩) M c1
 x2:L.xf=.slice (some ⟨g2,0,none⟩) M c2
 e1:w.cell? ⟨g1,i * 5 + 2,none⟩=some (.slice (some ⟨b1,0,none⟩) n d1)
 e2:w.cell? ⟨g2,i * 5 + 2,none⟩=some (.slice (some ⟨b2,0,none⟩) n d2)
 ne:b2 ≠ b1
 k1:∃ cs,Blk w b1 3 cs /\ t < cs.size
 k2:∃ cs,Blk w b2 3 cs /\ t < cs.size
theorem J7b {qs:List MV} {ms:List Mem} {i:Nat} {m:Mem} {v:Value × Value × Value} (h:qs.map (·.1)=ms):(qs.set i (m,v)).map (·.1)=ms.set i m:=by rw [List.map_set,h]
theorem J3l {w w':World} {b:Nat} {T:TypeId} {cs:Array Value} (h:Blk w b T cs) (ho:w'.heap[b]?=w.heap[b]?):Blk w' b T cs:=by unfold Blk at *; rw [ho]; exact h
theorem J9b {w:World} {a b:Nat} {S T:TypeId} {cs ds:Array Value} (h:Blk w a S cs) (h2:Blk w b T ds) (hT:S ≠ T):a ≠ b:=by
 rintro rfl;unfold Blk at *;rw [h] at h2;injection h2 with h2;injection h2 with _ h3 _;exact hT h3
theorem J5t.at {W0 w:World} {s:Q0b} {L:J8m} {i t:Nat} (h:J5t W0 w s L i t) (hi:i < s.members.length) (ht:t < (Q0c s.members i).length) :
    ∃ g1 c1 b1 d1 g2 c2 b2 d2,J9f w L i t s.members.length (Q0c s.members i).length g1 c1 b1 d1 g2 c2 b2 d2 /\
     ∀ w1,Ext w w1 -> J5t W0 ((w1.setCell ⟨b1,t,none⟩ (.int .i64 0)).setCell ⟨b2,t,none⟩ (.int .i64 (i:Int))) s L i (t + 1) /\
      ∀ g T (cs:Array Value),T ≠ 3 -> Blk w1 g T cs -> Blk ((w1.setCell ⟨b1,t,none⟩ (.int .i64 0)).setCell ⟨b2,t,none⟩ (.int .i64 (i:Int))) g T cs:=by
 obtain ⟨hap,hlo,hlo2,hex,⟨qc,hgc,hmc⟩,⟨qf,hgf,hmf⟩,hbc,hbf⟩:=h;have hlc:qc.length=s.members.length:=by rw [<- J2s s (fun _=>0) i t,<- hmc,List.length_map]
 have hlf:qf.length=s.members.length:=by rw [<- J2s s (fun j=>(j:Int)) i t,<- hmf,List.length_map]
 have hic:i < qc.length:=by omega
 have hif:i < qf.length:=by omega
 have eqc:qc[i].1={ Q2e s i with classes:=recC s (fun _=>0) i t i }:=by
  have h1:(qc.map (·.1))[i]'(by simpa using hic)=qc[i].1:=by simp
  rw [<- h1];simp only [hmc];exact J4t s _ i t _
 have eqf:qf[i].1={ Q2e s i with classes:=recC s (fun j=>(j:Int)) i t i }:=by
  have h1:(qf.map (·.1))[i]'(by simpa using hif)=qf[i].1:=by simp
  rw [<- h1];simp only [hmf];exact J4t s _ i t _
 have hnc:qc[i].1.classes.length=(Q0c s.members i).length:=by rw [eqc]; exact J6x s (fun _=>0) i t i
 have hnf:qf[i].1.classes.length=(Q0c s.members i).length:=by rw [eqf]; exact J6x s (fun j=>(j:Int)) i t i
 obtain ⟨g1,c1,b1,d1,cs1,hx1,he1,hB1,hE1,hk1,ht1,hput1⟩:=hgc.at hic (t:=t) (by omega)
 obtain ⟨g2,c2,b2,d2,cs2,hx2,he2,hB2,hE2,hk2,ht2,hput2⟩:=hgf.at hif (t:=t) (by omega)
 rw [hnc] at he1;rw [hnf] at he2;rw [hlc] at hx1;rw [hlf] at hx2;have hne:b2 ≠ b1:=by omega
 refine ⟨g1,c1,b1,d1,g2,c2,b2,d2,⟨hx1,hx2,he1,he2,hne,⟨cs1,hk1,ht1⟩,⟨cs2,hk2,ht2⟩⟩,fun w1 hx=>?_⟩;obtain ⟨g1',c1',b1',d1',cs1',hx1',he1',hB1',hE1',hk1',ht1',hput1'⟩:=(hgc.ext hx).at hic (t:=t) (by omega)
 obtain ⟨g2',c2',b2',d2',cs2',hx2',he2',hB2',hE2',hk2',ht2',hput2'⟩:=(hgf.ext hx).at hif (t:=t) (by omega)
 have eg1:g1=g1':=by have h:=hx1.symm.trans hx1'; injection h with h; injection h with h; injection h
 have eg2:g2=g2':=by have h:=hx2.symm.trans hx2'; injection h with h; injection h with h; injection h
 subst eg1;subst eg2;have eb1:b1=b1':=by have h:=(hx.cell he1).symm.trans he1'; injection h with h; injection h with h; injection h with h; injection h
 have eb2:b2=b2':=by have h:=(hx.cell he2).symm.trans he2'; injection h with h; injection h with h; injection h with h; injection h
 subst eb1;subst eb2;have o1:∀ k,k ≠ b1 -> (w1.setCell ⟨b1,t,none⟩ (.int .i64 0)).heap[k]?=w1.heap[k]?:=fun k hk=>Below.heap_setCell _ _ _ _ hk;have o2:∀ k,k ≠ b2 -> ((w1.setCell ⟨b1,t,none⟩ (.int .i64 0)).setCell ⟨b2,t,none⟩ (.int .i64 (i:Int))).heap[k]?=(w1.setCell ⟨b1,t,none⟩ (.int .i64 0)).heap[k]?:=fun k hk=>Below.heap_setCell _ _ _ _ hk;have o12:∀ k,k ≠ b1 -> k ≠ b2 -> ((w1.setCell ⟨b1,t,none⟩ (.int .i64 0)).setCell ⟨b2,t,none⟩ (.int .i64 (i:Int))).heap[k]?=w1.heap[k]?:=fun k h1 h2=>(o2 k h2).trans (o1 k h1);have hty:∀ g T (cs:Array Value),T ≠ 3 -> Blk w1 g T cs -> Blk ((w1.setCell ⟨b1,t,none⟩ (.int .i64 0)).setCell ⟨b2,t,none⟩ (.int .i64 (i:Int))) g T cs:=fun g T cs hT hb=>J3l hb (o12 g (J9b hb hk1' hT) (J9b hb hk2' hT));refine ⟨⟨hap,hlo,hlo2,?_,?_,?_,hty _ _ _ (by decide) (hbc.ext hx),hty _ _ _ (by decide) (hbf.ext hx)⟩,hty⟩
 . exact ((hex.trans hx).setCell (p:=⟨b1,t,none⟩) (by show W0.heap.size <= b1; omega) _).setCell (p:=⟨b2,t,none⟩) (by show W0.heap.size <= b2; omega) _
 . refine ⟨_,hput1' _ 0 (J3l (hk1'.set t (.int .i64 0)) (o2 b1 hne.symm)) (fun k h1 h2 h3=>o12 k h1 (by omega)),?_⟩
   rw [J7b hmc,eqc];exact J6v s (fun _=>0) ht
 . refine ⟨_,hput2' _ (i:Int) ((J3l hk2' (o1 b2 hne)).set t (.int .i64 (i:Int))) (fun k h1 h2 h3=>o12 k (by omega) h1),?_⟩
   rw [J7b hmf,eqf];exact J6v s (fun j=>(j:Int)) ht
theorem J2y {s:Q0b} (h:Q3k s) (g:Nat -> Int):Q3k (J2o s g):=by
 refine ⟨h.ships,by rw [J2k]; exact h.members,fun k hk=>?_⟩
 rw [J2k] at hk;have e:=J3j (s:=s) g hk;have h1:=h.each k hk;have b1:=congrArg Mem.name e;have b2:=congrArg Mem.classes e;have b3:=congrArg Mem.outside e;have b4:=congrArg Mem.inflow e;have a1:Q1h (J2o s g).members k=Q1h s.members k:=b1;have a2:Q0c (J2o s g).members k=(Q0c s.members k).map fun _=>g k:=b2;have a3:Q0t (J2o s g).members k=Q0t s.members k:=b3;have a4:Q0y (J2o s g).members k=Q0y s.members k:=b4;unfold X1u at *;rw [a1,a2,a3,a4,List.length_map];exact h1
theorem J5t.done {W0 w:World} {s:Q0b} {L:J8m} (h:J5t W0 w s L s.members.length 0) (hs:Q3k s) (hn:∀ k,k < s.members.length -> Short (Q1h s.members k)) :
    Q0h w (.agg #[.int .i64 s.limit,L.uc,L.xc]) (J2o s fun _=>0) /\ Q0h w (.agg #[.int .i64 s.limit,L.uf,L.xf]) (J2o s fun i=>(i:Int)):=by
 obtain ⟨hap,hlo,hlo2,hex,⟨qc,hgc,hmc⟩,⟨qf,hgf,hmf⟩,hbc,hbf⟩:=h;have hn2:∀ (g:Nat -> Int) k,k < (J2o s g).members.length -> Short (Q1h (J2o s g).members k):=fun g k hk=>by
  rw [J2k] at hk;have b1:=congrArg Mem.name (J3j (s:=s) g hk);have a1:Q1h (J2o s g).members k=Q1h s.members k:=b1;rw [a1]; exact hn k hk
 exact ⟨J3h.J6z (s:=J2o s fun _=>0) hgc (by rw [hmc,J7f]) (J2y hs _) (hn2 _),J3h.J6z (s:=J2o s fun i=>(i:Int)) hgf (by rw [hmf,J7f]) (J2y hs _) (hn2 _)⟩
theorem J7t {s:Q0b} (h4:s.members.length <= 4) (h3:s.ships.length <= 3) (g:Nat -> Int):(J2o s g).hist.length <= 12:=by
 have h1:=X7m (J2o s g) (J2o s g).ships.length;have h2:(J2o s g).ships.length * (J2o s g).members.length <= 3 * 4:=Nat.mul_le_mul h3 (by rw [J2k]; exact h4)
 unfold Q0b.hist;omega
end Go.Proofs
