/- The region theorem in the form in which it is used: the operations, their forerunners and what each gives stand in lists. Small aids for the uses of the region theorem and for boxes. Contracts: the errors of sets; sets without an element; all others. Sets of numbers as the bits of a number, and Go's operators on them: no program is in sight here. Contracts of small functions of the program: when, first, within, ascending. -/
import Derived.Test.YtghcnlbkghaaeaaDoorPv02
import Derived.Test.YtghcnlbkghaaeaaDoorPv01
import Derived.Deep.Draws
import Derived.Laws.StructEq
import Derived.Laws.BitsLemmas
set_option maxRecDepth 1000000
set_option maxHeartbeats 64000000
set_option linter.unusedVariables false
set_option linter.unusedSimpArgs false
set_option linter.constructorNameAsVariable false
namespace Go.Flow
open Go.RowKit Go.Tw
structure Spec where
 D:(Nat -> Value) -> World -> Prop
 mono:∀ v w w',Ext w w' -> D v w -> D v w'
def Spec.is (j:Nat) (e:(Nat -> Value) -> Value):Spec:=⟨fun v _=>v j = e v,fun _ _ _ _ h=>h⟩
def Spec.c (j:Nat) (x:Value):Spec:=Spec.is j fun _=>x
def Spec.none:Spec:=⟨fun _ _=>True,fun _ _ _ _ _=>trivial⟩
def lookup {α:Type}:List α -> α -> Nat -> α
 | [],d,_=>d
 | x :: _,_,0=>x
 | _ :: l,d,n + 1=>lookup l d n
def Facts (pre:Nat -> List Nat) (D:Nat -> (Nat -> Value) -> World -> Prop) (v:Nat -> Value) (w:World):List Nat -> Prop -> Prop
 | [],G=>G
 | k :: l,G=>D k (mask pre k v) w -> Facts pre D v w l G
theorem Facts.out {pre:Nat -> List Nat} {D:Nat -> (Nat -> Value) -> World -> Prop} {v:Nat -> Value} {w:World} {G:Prop}:∀ {l:List Nat},Facts pre D v w l G -> (∀ k ∈ l,D k (mask pre k v) w) -> G
 | [],h,_=>h
 | k :: l,h,hf=>Facts.out (h (hf k (by simp))) (fun i hi=>hf i (by simp [hi]))
def Due (P:Program) (pre:Nat -> List Nat) (D:Nat -> (Nat -> Value) -> World -> Prop) (E:(Nat -> Value) -> World -> World -> Prop) (k:Kind) (o:Oper) (j:Nat) (b:Act) (v:Nat -> Value) (w1 w:World):Prop :=
 match k with
 | .plain=>∃ u,(∀ w,(execOp b.eval o).run P w = .ok (.value u) w) /\ D j (mask pre j (upd v j u)) w1
 | .world=>∀ K:Value -> World -> Prop,(∀ u w',Ext w1 w' -> D j (mask pre j (upd v j u)) w' -> K u w') -> gives P K ((execOp b.eval o).run P w1)
 | .last=>∀ K:Value -> World -> Prop,(∀ u w',E (mask pre j (upd v j u)) w1 w' -> K u w') -> gives P K ((execOp b.eval o).run P w)
def Pass (pre:Nat -> List Nat) (D:Nat -> (Nat -> Value) -> World -> Prop) (E:(Nat -> Value) -> World -> World -> Prop) (k:Kind) (j:Nat) (v:Nat -> Value) (w1 w:World):Prop :=
 match k with
 | .last=>E (mask pre j (upd v j undef)) w1 w
 | _=>D j (mask pre j (upd v j undef)) w1
def Guarded (ops:Array Oper) (o:Oper) (b:Act) (T F:Prop):Prop :=
 match o.guard with
 | none=>T
 | some _=>(Region.wanted o (yielded ops b.tmps) = true /\ T) ∨ (Region.wanted o (yielded ops b.tmps) = false /\ F)
theorem Y2i {P:Program} {ops:Array Oper} {pre:Nat -> List Nat} {D:Nat -> (Nat -> Value) -> World -> Prop} {T E:(Nat -> Value) -> World -> World -> Prop} {k:Kind} {o:Oper} {j:Nat} {b:Act} {v:Nat -> Value} {w1:World}
    (hk:k ≠ .last) (h:Guarded ops o b (Due P pre D E k o j b v w1 w1) (Pass pre D E k j v w1 w1)):vc P ops pre Ext D T E k o j b v w1:=by
 have h':(Region.wanted o (yielded ops b.tmps) = true /\ Due P pre D E k o j b v w1 w1) ∨ (Region.wanted o (yielded ops b.tmps) = false /\ Pass pre D E k j v w1 w1):=by
  unfold Guarded at h;cases hg:o.guard with
  | none=>rw [hg] at h; exact .inl ⟨by simp [Region.wanted,hg],h⟩
  | some g=>rw [hg] at h; exact h
 cases k with
 | plain=>exact h'.imp (fun ⟨a,u,b,c⟩=>⟨a,u,b,c⟩) id
 | world=>exact h'.imp (fun ⟨a,b⟩=>⟨a,b _ fun u w' h1 h2=>⟨h1,h2⟩⟩) id
 | last=>exact absurd rfl hk
theorem Y0v {P:Program} {ops:Array Oper} {pre:Nat -> List Nat} {D:Nat -> (Nat -> Value) -> World -> Prop} {T E:(Nat -> Value) -> World -> World -> Prop} {o:Oper} {j:Nat} {b:Act} {v:Nat -> Value} {w1:World}
    (h:∀ w,T v w1 w -> Guarded ops o b (Due P pre D E .last o j b v w1 w) (Pass pre D E .last j v w1 w)):vc P ops pre Ext D T E .last o j b v w1:=by
 intro w hT;have h:=h w hT;have h':(Region.wanted o (yielded ops b.tmps) = true /\ Due P pre D E .last o j b v w1 w) ∨ (Region.wanted o (yielded ops b.tmps) = false /\ Pass pre D E .last j v w1 w):=by
  unfold Guarded at h;cases hg:o.guard with
  | none=>rw [hg] at h; exact .inl ⟨by simp [Region.wanted,hg],h⟩
  | some g=>rw [hg] at h; exact h
 exact h'.imp (fun ⟨a,b⟩=>⟨a,b _ fun u w' h1=>h1⟩) id
def Q6n (P:Program) (ops:Array Oper) (pre:Nat -> List Nat) (tail:List Nat) (w0:World) (D:Nat -> (Nat -> Value) -> World -> Prop):List ((Nat -> Value) -> World -> World -> Prop) -> ((Nat -> Value) -> World -> World -> Prop) -> List Oper -> List Kind -> List Nat -> ((Nat -> Value) -> Act) -> Prop
 | El,T,o :: l,k :: kl,j :: jl,b =>
   match k,El with
   | .last,E :: El=>(∀ v w1,Ext w0 w1 -> Facts pre D v w1 ((pre j).filter fun i=>!tail.contains i) (∀ w,T v w1 w -> ∀ bb,bb = b v -> Guarded ops o bb (Due P pre D E .last o j bb v w1 w) (Pass pre D E .last j v w1 w))) /\
      Q6n P ops pre tail w0 D El (fun v w1 w=>E (mask pre j v) w1 w) l kl jl (fun v=>(b v).put o.dst (v j))
   | .last,[]=>False
   | k,El=>(∀ v w1,Ext w0 w1 -> Facts pre D v w1 (pre j) (Guarded ops o (b v) (Due P pre D (fun _ _ _=>False) k o j (b v) v w1 w1) (Pass pre D (fun _ _ _=>False) k j v w1 w1))) /\ Q6n P ops pre tail w0 D El T l kl jl (fun v=>(b v).put o.dst (v j))
 | _,_,_,_,_,_=>True
def Q9m:Kind -> Bool | .world=>true | _=>false
def isLast:Kind -> Bool | .last=>true | _=>false
def okL (ops:List Oper) (pl:List (List Nat)) (kl:List Kind) (tail:List Nat) (n:Nat):Bool :=
 okB ops.toArray (lookup pl []) && kl.length == ops.length && (tail == (List.range ops.length).filter fun j=>isLast (lookup kl .plain j)) && (n == tail.length) &&
 ((List.range tail.length).all fun k=>(List.range k).all fun i=>(lookup pl [] (tail.getD k 0)).contains (tail.getD i 0)) &&
 ((List.range ops.length).all fun j=>isLast (lookup kl .plain j) || ((lookup pl [] j).all fun k=>!tail.contains k)) &&
 ((List.range ops.length).all fun j=>!Q9m (lookup kl .plain j) || (tail.all fun s=>(lookup pl [] s).contains j))
theorem Q2w (v:Nat -> Value):∀ (l:List Oper) (i j:Nat) (a:Act),act (fun k=>decide (k < i + j)) v l i a = act (fun _=>true) v (l.take j) i a
 | [],i,j,a=>by simp [act]
 | o :: l,i,0,a=>by
   simp only [Nat.add_zero,List.take_zero,act];rw [if_neg (by simp)]
   have:∀ (l:List Oper) (k:Nat) (a:Act),i <= k -> act (fun k=>decide (k < i)) v l k a = a:=by
    intro l
    induction l with
    | nil=>intro k a _; rfl
    | cons o l ih=>intro k a hk; rw [act,if_neg (by simp; omega)]; exact ih (k + 1) a (by omega)
   exact this l (i + 1) a (by omega)
 | o :: l,i,j + 1,a=>by
   rw [List.take_succ_cons,act,act,if_pos (by simp),if_pos rfl]
   have:=Q2w v l (i + 1) j (a.put o.dst (v i))
   rwa [show i + 1 + j = i + (j + 1) from by omega] at this
theorem X2s {P:Program} {ops:Array Oper} {pre:Nat -> List Nat} {tail:List Nat} {w0:World} {D:Nat -> (Nat -> Value) -> World -> Prop} :
    ∀ (l:List Oper) (kl:List Kind) (El:List ((Nat -> Value) -> World -> World -> Prop)) (T:(Nat -> Value) -> World -> World -> Prop) (i:Nat) (b:(Nat -> Value) -> Act),kl.length = l.length ->
     Q6n P ops pre tail w0 D El T l kl (List.range' i l.length) b -> ∀ j o,l[j]? = some o -> lookup kl .plain j ≠ .last -> ∀ v w1,Ext w0 w1 ->
     (∀ n ∈ pre (i + j),D n (mask pre n v) w1) -> vc P ops pre Ext D (fun _ _ _=>False) (fun _ _ _=>False) (lookup kl .plain j) o (i + j) (act (fun _=>true) v (l.take j) i (b v)) v w1
 | [],_,_,_,_,_,_,_,j,_,h,_,_,_,_,_=>by simp at h
 | o :: l,[],_,_,_,_,hk,_,_,_,_,_,_,_,_,_=>by simp at hk
 | o :: l,k :: kl,El,T,i,b,hk,h,j,o',hj,hne,v,w1,hx,hf=>by
   rw [List.length_cons,List.range'_succ] at h;cases j with
   | zero =>
     simp only [List.getElem?_cons_zero,Option.some.injEq] at hj;subst hj;simp only [lookup] at hne ⊢;cases k with
     | last=>exact absurd rfl hne
     | plain=>simp only [Q6n] at h; simpa [act] using Y2i hne ((h.1 v w1 hx).out (by simpa using hf))
     | world=>simp only [Q6n] at h; simpa [act] using Y2i hne ((h.1 v w1 hx).out (by simpa using hf))
   | succ j =>
     have hrest:∃ El T,Q6n P ops pre tail w0 D El T l kl (List.range' (i + 1) l.length) (fun v=>(b v).put o.dst (v i)):=by
      cases k with
      | last=>cases El with
        | nil=>simp only [Q6n] at h
        | cons E El=>simp only [Q6n] at h; exact ⟨_,_,h.2⟩
      | plain=>simp only [Q6n] at h; exact ⟨_,_,h.2⟩
      | world=>simp only [Q6n] at h; exact ⟨_,_,h.2⟩
     obtain ⟨El',T',h'⟩:=hrest;have:=X2s l kl El' T' (i + 1) _ (by simpa using hk) h' j o' (by simpa using hj) (by simpa [lookup] using hne) v w1 hx (by rwa [show i + 1 + j = i + (j + 1) from by omega])
     rw [show i + 1 + j = i + (j + 1) from by omega] at this
     simpa [act,lookup] using this
def lasts:List Kind -> Nat -> List Nat
 | [],_=>[]
 | .last :: l,i=>i :: lasts l (i + 1)
 | _ :: l,i=>lasts l (i + 1)
theorem Q9l:∀ (kl:List Kind) (i:Nat),lasts kl i = (List.range' i kl.length).filter fun j=>isLast (lookup kl .plain (j - i))
 | [],_=>rfl
 | k :: l,i=>by
   rw [List.length_cons,List.range'_succ,List.filter_cons,Nat.sub_self];have e:((List.range' (i + 1) l.length).filter fun j=>isLast (lookup (k :: l) .plain (j - i))) = (List.range' (i + 1) l.length).filter fun j=>isLast (lookup l .plain (j - (i + 1))):=by
    refine List.filter_congr fun j hj=>?_;have hj':=(List.mem_range'_1.1 hj).1;rw [show j - i = (j - (i + 1)) + 1 from by omega]; rfl
   rw [e,<- Q9l l (i + 1)];cases k <;> simp [lasts,lookup,isLast]
theorem Q3u {P:Program} {ops:Array Oper} {pre:Nat -> List Nat} {tail:List Nat} {w0:World} {D:Nat -> (Nat -> Value) -> World -> Prop} (E:Nat -> (Nat -> Value) -> World -> World -> Prop) :
    ∀ (l:List Oper) (kl:List Kind) (El:List ((Nat -> Value) -> World -> World -> Prop)) (i:Nat) (b:(Nat -> Value) -> Act) (c0:Nat),kl.length = l.length -> tail.drop c0 = lasts kl i -> (∀ n,n < (lasts kl i).length -> El[n]? = some (E (c0 + n))) ->
     Q6n P ops pre tail w0 D El (Tail pre tail E c0) l kl (List.range' i l.length) b -> ∀ n,n < (lasts kl i).length -> ∀ j o,tail[c0 + n]? = some (i + j) -> l[j]? = some o -> ∀ v w1,Ext w0 w1 ->
     (∀ m ∈ pre (i + j),m ∉ tail -> D m (mask pre m v) w1) -> vc P ops pre Ext D (Tail pre tail E (c0 + n)) (E (c0 + n)) .last o (i + j) (act (fun _=>true) v (l.take j) i (b v)) v w1
 | [],[],_,_,_,_,_,_,_,_,n,h,_,_,_,_,_,_,_,_=>by simp [lasts] at h
 | [],_ :: _,_,_,_,_,hk,_,_,_,_,_,_,_,_,_,_,_,_,_=>by simp at hk
 | o :: l,[],_,_,_,_,hk,_,_,_,_,_,_,_,_,_,_,_,_,_=>by simp at hk
 | o :: l,k :: kl,El,i,b,c0,hk,htl,hE,h,n,hn,j,o',ht,hj,v,w1,hx,hf=>by
   rw [List.length_cons,List.range'_succ] at h;have hlow:∀ (kl:List Kind) (i:Nat),∀ x ∈ lasts kl i,i <= x:=by
    intro kl
    induction kl with
    | nil=>intro i x hx; simp [lasts] at hx
    | cons k kl ih => intro i x hx; cases k <;> simp only [lasts, List.mem_cons] at hx
                      . have:=ih _ _ hx; omega
                      . have:=ih _ _ hx; omega
                      . rcases hx with rfl | hx
                        . exact Nat.le_refl _
                        . have:=ih _ _ hx; omega
   have ht':(lasts (k :: kl) i)[n]? = some (i + j):=by rw [<- htl,List.getElem?_drop]; exact ht
   have hsk:k ≠ .last -> ∃ j',j = j' + 1 /\ (lasts kl (i + 1))[n]? = some (i + 1 + j'):=by
    intro hne;have e:lasts (k :: kl) i = lasts kl (i + 1):=by cases k <;> first | rfl | exact absurd rfl hne
    rw [e] at ht';have:=hlow kl (i + 1) _ (List.mem_of_getElem? ht');exact ⟨j - 1,by omega,by rw [ht']; congr 1; omega⟩
   cases k with
   | plain =>
     obtain ⟨j',rfl,ht2⟩:=hsk (by simp)
     simp only [Q6n] at h;have:=Q3u E l kl El (i + 1) _ c0 (by simpa using hk) (by simpa [lasts] using htl) (by simpa [lasts] using hE) h.2 n (by simpa [lasts] using hn) j' o' (by rw [ht]; congr 1; omega) (by simpa using hj) v w1 hx (by rwa [show i + 1 + j' = i + (j' + 1) from by omega])
     rw [show i + 1 + j' = i + (j' + 1) from by omega] at this
     simpa [act] using this
   | world =>
     obtain ⟨j',rfl,ht2⟩:=hsk (by simp)
     simp only [Q6n] at h;have:=Q3u E l kl El (i + 1) _ c0 (by simpa using hk) (by simpa [lasts] using htl) (by simpa [lasts] using hE) h.2 n (by simpa [lasts] using hn) j' o' (by rw [ht]; congr 1; omega) (by simpa using hj) v w1 hx (by rwa [show i + 1 + j' = i + (j' + 1) from by omega])
     rw [show i + 1 + j' = i + (j' + 1) from by omega] at this
     simpa [act] using this
   | last =>
     cases El with
     | nil=>simp only [Q6n] at h
     | cons E0 El =>
       have e0:E0 = E c0:=by have:=hE 0 (by simp [lasts]); simpa using this
       subst e0;simp only [Q6n] at h;have htc:tail.getD c0 0 = i:=by
        have:(tail.drop c0)[0]? = some i:=by rw [htl]; rfl
        rw [List.getElem?_drop] at this
        simpa using congrArg (fun x=>x.getD 0) this
       cases n with
       | zero =>
         have hj0:j = 0:=by
          have:(lasts (.last :: kl) i)[0]? = some i:=rfl;rw [this] at ht'; simp at ht'; omega
         subst hj0;simp only [List.getElem?_cons_zero,Option.some.injEq] at hj;subst hj;have:=Y0v (h:=fun w hT=>(h.1 v w1 hx).out (fun m hm=>by
          simp only [List.mem_filter,Bool.not_eq_true',List.contains_eq_mem,decide_eq_false_iff_not] at hm;exact hf m (by simpa using hm.1) hm.2) w hT _ rfl)
         simpa [act] using this
       | succ n =>
         have hmem:(lasts kl (i + 1))[n]? = some (i + j):=by simpa [lasts] using ht'
         have hge:=hlow kl (i + 1) _ (List.mem_of_getElem? hmem);obtain ⟨j',rfl⟩:∃ j',j = j' + 1:=⟨j - 1,by omega⟩
         have hT:(fun v w1 w=>E c0 (mask pre i v) w1 w) = Tail pre tail E (c0 + 1):=by
          funext v w1 w
          show _ = E c0 (mask pre (tail.getD c0 0) v) w1 w;rw [htc]
         have h2:=h.2;rw [hT] at h2;have:=Q3u E l kl El (i + 1) _ (c0 + 1) (by simpa using hk) (by
             have e:tail.drop (c0 + 1) = (tail.drop c0).drop 1:=by rw [List.drop_drop]
             rw [e,htl]; rfl) (fun m hm=>by
             have:=hE (m + 1) (by simpa [lasts] using hm)
             rw [show c0 + 1 + m = c0 + (m + 1) from by omega]
             simpa using this) h2 n (by simpa [lasts] using hn) j' o' (by rw [show c0 + 1 + n = c0 + (n + 1) from by omega,ht]; congr 1; omega) (by simpa using hj) v w1 hx (by rwa [show i + 1 + j' = i + (j' + 1) from by omega])
         rw [show i + 1 + j' = i + (j' + 1) from by omega,show c0 + 1 + n = c0 + (n + 1) from by omega] at this
         simpa [act] using this
def acts (v:Nat -> Value):List Oper -> List Nat -> Act -> Act
 | o :: l,j :: jl,a=>acts v l jl (a.put o.dst (v j))
 | _,_,a=>a
theorem X2p (v:Nat -> Value):∀ (l:List Oper) (i:Nat) (a:Act),acts v l (List.range' i l.length) a = act (fun _=>true) v l i a
 | [],_,_=>rfl
 | o :: l,i,a=>by rw [List.length_cons,List.range'_succ,acts,act,X2p v l]; rfl
def All (pre:Nat -> List Nat) (D:Nat -> (Nat -> Value) -> World -> Prop) (v:Nat -> Value) (w:World) (tail:List Nat):List Nat -> Prop -> Prop
 | [],G=>G
 | j :: l,G=>if tail.contains j = true then All pre D v w tail l G else D j (mask pre j v) w -> All pre D v w tail l G
theorem All.out {pre:Nat -> List Nat} {D:Nat -> (Nat -> Value) -> World -> Prop} {v:Nat -> Value} {w:World} {tail:List Nat} {G:Prop}:∀ {l:List Nat},All pre D v w tail l G -> (∀ k ∈ l,k ∉ tail -> D k (mask pre k v) w) -> G
 | [],h,_=>h
 | j :: l,h,hf=>by
   unfold All at h
   split at h
   . exact All.out h (fun k hk=>hf k (by simp [hk]))
   . rename_i hj
     exact All.out (h (hf j (by simp) (by simpa using hj))) (fun k hk=>hf k (by simp [hk]))
def endOf (pre:Nat -> List Nat) (v:Nat -> Value) (w1 w:World):List Nat -> List ((Nat -> Value) -> World -> World -> Prop) -> Prop
 | [j],[E]=>E (mask pre j v) w1 w
 | _ :: jl,_ :: El=>endOf pre v w1 w jl El
 | _,_=>w = w1
section
variable {P:Program} {id:Nat} {Q:Exit -> Act -> World -> Prop} {a0:Act} {w:World} {ops:List Oper}
theorem Y1i (news:List Nat) (kl:List Kind) (jl:List Nat) (pl:List (List Nat)) (tail:List Nat) (Dl:List Spec) (El:List ((Nat -> Value) -> World -> World -> Prop))
    (hm:P.follows .mixedOrders = true) (hjl:jl = List.range' 0 ops.length) (hok:okL ops pl kl tail El.length = true)
    (hvc:Q6n P ops.toArray (lookup pl []) tail w.drew (fun k=>(lookup Dl .none k).D) El (fun _ w1 w=>w = w1) ops kl jl (fun _=>a0))
    (hnews:news.all (fun j=>decide (j < ops.length) && Q9m (lookup kl .plain j)) = true) (hmade:∀ j ∈ news,∀ o,ops[j]? = some o -> Made P o)
    (hpost:∀ v w1,Ext w.drew w1 -> Y2x news v -> All (lookup pl []) (fun k=>(lookup Dl .none k).D) v w1 tail jl (∀ w',endOf (lookup pl []) v w1 w' tail El -> Q .normal (acts v ops jl a0) w')) :
    (Code.region id ops.toArray true).wp P Q a0 w:=by
 subst hjl;simp only [X2p] at hpost;simp only [okL,Bool.and_eq_true,List.all_eq_true,List.mem_range,beq_iff_eq,Bool.or_eq_true,Bool.not_eq_true',List.contains_eq_mem,decide_eq_true_eq,decide_eq_false_iff_not] at hok;obtain ⟨⟨⟨⟨⟨⟨hok,hlen⟩,htail⟩,hn⟩,hchain⟩,hlate⟩,hearly⟩:=hok;have hmem:∀ j,j ∈ tail ↔ j < ops.length /\ isLast (lookup kl .plain j) = true:=by intro j; rw [htail,List.mem_filter,List.mem_range]
 have hk:∀ j,isLast (lookup kl .plain j) = true ↔ lookup kl .plain j = .last:=by intro j; cases lookup kl .plain j <;> simp [isLast]
 have hlk:lasts kl 0 = tail:=by
  rw [Q9l,htail,hlen,List.range_eq_range'];rfl
 have hEl:∀ n,n < (lasts kl 0).length -> El[n]? = some ((fun c=>(El[c]?).getD fun _ _ _=>True) (0 + n)):=by
  intro n hn';rw [hlk,<- hn] at hn';simp [hn']
 have hend:∀ v w1 w',Tail (lookup pl []) tail (fun c=>(El[c]?).getD fun _ _ _=>True) tail.length v w1 w' -> endOf (lookup pl []) v w1 w' tail El:=by
  intro v w1 w' h;have gen:∀ (tl:List Nat) (el:List ((Nat -> Value) -> World -> World -> Prop)),el.length = tl.length -> (tl = [] -> w' = w1) -> (∀ (hne:tl ≠ []),((el[tl.length - 1]?).getD fun _ _ _=>True) (mask (lookup pl []) (tl.getD (tl.length - 1) 0) v) w1 w') -> endOf (lookup pl []) v w1 w' tl el:=by
   intro tl
   induction tl with
   | nil=>intro el _ h0 _; cases el <;> exact h0 rfl
   | cons j tl ih =>
     intro el hl _ h1;cases el with
     | nil=>simp at hl
     | cons E el =>
       cases tl with
       | nil=>cases el with
         | nil=>simpa [endOf] using h1 (by simp)
         | cons _ _=>simp at hl
       | cons j' tl=>cases el with
         | nil=>simp at hl
         | cons E' el =>
           show endOf _ v w1 w' (j' :: tl) (E' :: el);exact ih _ (by simpa using hl) (fun h=>by simp at h) (fun _=>by simpa using h1 (by simp))
  refine gen tail El hn.symm.symm (fun h0=>?_) (fun hne=>?_)
  . rw [h0] at h; exact h
  . obtain ⟨m,hm⟩:∃ m,tail.length = m + 1:=⟨tail.length - 1,by have:=List.length_pos_iff.2 hne; omega⟩
    rw [hm] at h;rw [hm,Nat.add_sub_cancel];exact h
 refine Q8g news tail (lookup kl .plain) (Rel:=Ext) (D:=fun k=>(lookup Dl .none k).D) (E:=fun c=>(El[c]?).getD fun _ _ _=>True) hm (Y1z hok)
  (fun i hi=>by simpa using ((hmem _).1 (List.getElem_mem hi)).1) (fun i k hi hk hik=>by have:=hchain k hk i hik; simpa [hi,hk] using this)
  (fun j hjl hjs k hk'=>?_) (fun j hjl=>?_) (fun j hjl hjw s hs=>?_)
  Ext.refl (fun _ _ _=>Ext.trans) (fun k _ v w w' hx hd=>(lookup Dl .none k).mono v w w' hx hd) (fun j o ho hjs v w1 hx hf=>?_) (fun c hc o ho v w1 hx hf=>?_) (fun j hj=>?_) (fun _ _ h=>h.size) (fun v w1 w' hx hnw hf hE=>?_)
 . rcases hlate j (by simpa using hjl) with h | h
   . exact absurd ((hmem j).2 ⟨by simpa using hjl,h⟩) hjs
   . exact h k hk'
 . rw [hmem,hk]; simp at hjl; simp [hjl]
 . rcases hearly j (by simpa using hjl) with h | h
   . rw [hjw] at h; simp [Q9m] at h
   . exact h s hs
 . have hjl:j < ops.length:=by simpa using (Array.getElem?_eq_some_iff.1 ho).1
   have:=X2s ops kl El _ 0 _ hlen hvc j o (by simpa using ho) (fun h=>hjs ((hmem j).2 ⟨hjl,(hk j).2 h⟩)) v w1 hx (by simpa using hf)
   rw [Nat.zero_add] at this;have e:=Q2w v ops 0 j a0;rw [Nat.zero_add] at e
   simpa [e] using this
 . have:=Q3u (fun c=>(El[c]?).getD fun _ _ _=>True) ops kl El 0 _ 0 hlen (by rw [hlk]; rfl) hEl hvc c (by rw [hlk]; exact hc) tail[c] o (by simp [hc]) (by simpa using ho) v w1 hx (by simpa using hf)
   rw [Nat.zero_add,Nat.zero_add] at this;have e:=Q2w v ops 0 tail[c] a0;rw [Nat.zero_add] at e
   simpa [e] using this
 . have h1:=List.all_eq_true.1 hnews j hj
   simp only [Bool.and_eq_true,decide_eq_true_eq] at h1;refine ⟨by simpa using h1.1,?_,fun o ho=>hmade j hj o (by simpa using ho)⟩
   have h2:=h1.2;cases hk:lookup kl .plain j <;> rw [hk] at h2 <;> first | rfl | cases h2
 . exact (hpost v w1 hx hnw).out (fun k hk hks=>hf k (by simpa using hk) hks) w' (hend v w1 w' hE)
theorem region (kl:List Kind) (jl:List Nat) (pl:List (List Nat)) (tail:List Nat) (Dl:List Spec) (El:List ((Nat -> Value) -> World -> World -> Prop))
    (hm:P.follows .mixedOrders = true) (hjl:jl = List.range' 0 ops.length) (hok:okL ops pl kl tail El.length = true)
    (hvc:Q6n P ops.toArray (lookup pl []) tail w.drew (fun k=>(lookup Dl .none k).D) El (fun _ w1 w=>w = w1) ops kl jl (fun _=>a0))
    (hpost:∀ v w1,Ext w.drew w1 -> All (lookup pl []) (fun k=>(lookup Dl .none k).D) v w1 tail jl (∀ w',endOf (lookup pl []) v w1 w' tail El -> Q .normal (acts v ops jl a0) w')) :
    (Code.region id ops.toArray true).wp P Q a0 w :=
 Y1i [] kl jl pl tail Dl El hm hjl hok hvc rfl (fun _ h=>nomatch h) (fun v w1 hx _=>hpost v w1 hx)
theorem Q3y (kl:List Kind) (jl:List Nat) (pl:List (List Nat)) (Dl:List Spec)
    (hm:P.follows .mixedOrders = true) (hjl:jl = List.range' 0 ops.length) (hok:okL ops pl kl [] 0 = true)
    (hvc:Q6n P ops.toArray (lookup pl []) [] w.drew (fun k=>(lookup Dl .none k).D) [] (fun _ w1 w=>w = w1) ops kl jl (fun _=>a0))
    (hpost:∀ v w1,Ext w.drew w1 -> All (lookup pl []) (fun k=>(lookup Dl .none k).D) v w1 [] jl (Q .normal (acts v ops jl a0) w1)) :
    (Code.region id ops.toArray true).wp P Q a0 w :=
 region kl jl pl [] Dl [] hm hjl hok hvc (fun v w1 hx=>by
  have:=hpost v w1 hx;have gen:∀ (jl:List Nat) (G G':Prop),(G -> G') -> All (lookup pl []) (fun k=>(lookup Dl .none k).D) v w1 [] jl G -> All (lookup pl []) (fun k=>(lookup Dl .none k).D) v w1 [] jl G':=by
   intro jl
   induction jl with
   | nil=>intro G G' h hG; exact h hG
   | cons j jl ih =>
     intro G G' h hG;simp only [All,List.contains_nil,Bool.false_eq_true,if_false] at hG ⊢;exact fun hd=>ih G G' h (hG hd)
  exact gen _ _ _ (fun h w' (hE:w' = w1)=>hE ▸ h) this)
end
end Go.Flow
namespace Go.Tw
open Go.RowKit Go.Flow
theorem Q0b {P:Program} {f:FuncId} {args:Array Value} {w:World} {K:Value -> World -> Prop} {R:Ending -> World -> Prop} (h:Calls P f args w R) (hk:∀ e w',R e w' -> ∃ u,e = .returned u /\ K u w') :
    gives P K (.ok (.enter f args) w):=h.mono hk
theorem Q0d (w:World) (cs:Array Value) (e:TypeId) (i:Nat):(w.alloc (.cells cs e)).cell? ⟨w.heap.size,i,none⟩ = cs[i]?:=by
 rw [World.cell?_alloc_at _ _ _ _ rfl]
theorem Ext.box (w:World) (o:Obj):Ext w (w.alloc o):=(Ext.refl w).alloc o
theorem Ext.drewN {a b:World} (h:Ext a b) (n:Nat):Ext a (b.drewN n):=by
 obtain ⟨h1,h2,h3,h4,h5⟩:=h;exact ⟨h1,h2,h3,h4,h5⟩
theorem addr_add (b off j:Nat):(⟨b,off,none⟩:Addr).add j = ⟨b,off + j,none⟩:=by unfold Addr.add; split <;> simp_all
theorem below_grown {α:Type} {w w':World} {base B:Nat} {e:TypeId} {enc:α -> Value} {v:Value} {xs:List α} (hown:Q0f w base e enc v xs) (hg:w.grownBy w' v.ownBlock) (hb:B <= base) (hB:B <= w.heap.size):Below B w w' :=
 Below.grown (Below.refl _ _) hg hB (fun k hk=>Nat.le_trans hb (World.ownsRow.lt hown k hk).1)
theorem Q0f.made {α:Type} (w:World) (base:Nat) (e:TypeId) (enc:α -> Value) (hb:base <= w.heap.size):Q0f (w.alloc (.cells #[] e)) base e enc (.slice (some ⟨w.heap.size,0,none⟩) 0 0) ([]:List α) :=
 World.ownsRow_made w #[] 0 hb (by unfold maxLen; omega) rfl
theorem Q5y {α:Type} {P:Program} {K:Value -> World -> Prop} {o:Oper} {a:Act} {w:World} (s x:Operand) (t:TypeId) (ho:o.op = .call { callee:=.builtin .append,args:=#[s,x],argTypes:=#[t,t] })
    (base:Nat) (e:TypeId) (i:TypeInfo) (z:Value) (bytes:Nat) (ht:P.underlying t = some (.slice e)) (hi:P.info? e = some i) (hz:i.zero = some z) (hsize:i.size = 1) (hby:i.bytes = bytes) (hzs:z.cells.size = 1)
    (enc:α -> Value) (v:Value) (xs ys:List α) (hs:a.eval s = v) (hown:Q0f w base e enc v xs) (ad:Addr) (c:Nat) (hx:a.eval x = .slice (some ad) ys.length c)
    (hnews:∀ j (h:j < ys.length),w.cell? (ad.add j) = some (enc ys[j])) (h1:∀ y,(enc y).oneCell' = true)
    (h63:xs.length + ys.length <= 17592186043904) (hb:bytes <= 8) (hbase:base <= w.heap.size)
    (h:∀ v' w',Q0f w' base e enc v' (xs ++ ys) -> w.grownBy w' v.ownBlock -> K v' w'):gives P K ((execOp a.eval o).run P w):=by
 obtain ⟨v',w',hr,h2,h3,h4⟩:=run_append_own (P:=P) w base t o.type e i z 1 bytes ht hi hz hsize hby hzs (by decide) v xs.length (xs.map enc) hown ad ys.length c (ys.map enc) (by simp) (fun j u hu=>by
  rw [List.getElem?_map] at hu
  rcases Nat.lt_or_ge j ys.length with hj | hj
  . rw [List.getElem?_eq_getElem hj] at hu
    simp only [Option.map_some,Option.some.injEq] at hu;rw [<- hu]; exact hnews j hj
  . rw [List.getElem?_eq_none hj] at hu; cases hu) (fun u hu=>by obtain ⟨y,_,rfl⟩:=List.mem_map.1 hu; exact h1 y) (by unfold maxLen; omega) (by
    have:(xs.length + ys.length) * bytes <= 17592186043904 * 8:=Nat.mul_le_mul h63 hb;omega) hbase
 unfold execOp;simp only [ho,resolve,invoke,builtin,Sem.run_bind,Sem.run_pure,Result.andThen_ok,List.map_toArray,List.map_cons,List.map_nil,hs,hx,hr];refine h v' w' ?_ h3;unfold Q0f
 simpa using h2
def Src {α:Type} (w:World) (enc:α -> Value) (v:Value) (ys:List α):Prop:=∃ A c,v = .slice A ys.length c /\ ∀ j (h:j < ys.length),∃ b off,A = some ⟨b,off,none⟩ /\ w.cell? ⟨b,off + j,none⟩ = some (enc ys[j])
theorem Q6y {P:Program} (w:World) (t ty e:TypeId) (i:TypeInfo) (ht:P.underlying t = some (.slice e)) (hi:P.info? e = some i) (b A:Option Addr) (s c c':Nat) (h:s <= c) :
    (Builtin.append_ #[t,t] ty #[.slice b s c,.slice A 0 c']).run P w = .ok (.slice b s c) w:=by
 cases A <;> cases b <;> simp [Builtin.append_,run_underlying ht,sizeOf,typeInfo,hi,Builtin.lenOf,Builtin.firstCells,loadCells,loadCellsFrom,storeCells,h]
theorem Q0f.shape {α:Type} {w:World} {base:Nat} {e:TypeId} {enc:α -> Value} {v:Value} {xs:List α} (h:Q0f w base e enc v xs):∃ b c,v = .slice b xs.length c /\ xs.length <= c:=by
 rcases h.2 with ⟨rfl,h0⟩ | ⟨g,cap,cur,rfl,_,_,hc,_⟩
 . exact ⟨none,0,by rw [h0],by omega⟩
 . exact ⟨_,cap,rfl,hc⟩
theorem Q6g {α:Type} {P:Program} {K:Value -> World -> Prop} {o:Oper} {a:Act} {w:World} (s x:Operand) (t:TypeId) (ho:o.op = .call { callee:=.builtin .append,args:=#[s,x],argTypes:=#[t,t] })
    (base:Nat) (e:TypeId) (i:TypeInfo) (z:Value) (bytes:Nat) (ht:P.underlying t = some (.slice e)) (hi:P.info? e = some i) (hz:i.zero = some z) (hsize:i.size = 1) (hby:i.bytes = bytes) (hzs:z.cells.size = 1)
    (enc:α -> Value) (v src:Value) (xs ys:List α) (hs:a.eval s = v) (hown:Q0f w base e enc v xs) (hx:a.eval x = src) (hsrc:Src w enc src ys) (h1:∀ y ∈ ys,(enc y).oneCell' = true)
    (h63:xs.length + ys.length <= 4398046511104) (hb:bytes <= 32) (hbase:base <= w.heap.size)
    (h:∀ v' w',Q0f w' base e enc v' (xs ++ ys) -> w.grownBy w' v.ownBlock -> K v' w'):gives P K ((execOp a.eval o).run P w):=by
 obtain ⟨A,c,rfl,hc⟩:=hsrc;cases ys with
 | nil =>
   obtain ⟨b,c',rfl,hcap⟩:=hown.shape;unfold execOp;simp only [ho,resolve,invoke,builtin,Sem.run_bind,Sem.run_pure,Result.andThen_ok,List.map_toArray,List.map_cons,List.map_nil,hs,hx];rw [List.length_nil,Q6y (P:=P) w t o.type e i ht hi b A xs.length c' c hcap];exact h _ _ (by simpa using hown) ⟨rfl,rfl,rfl,Nat.le_refl _,fun _ _ _=>rfl⟩
 | cons y ys =>
   obtain ⟨b0,off0,rfl,_⟩:=hc 0 (by simp)
   obtain ⟨v',w',hr,h2,h3,h4⟩:=run_append_own (P:=P) w base t o.type e i z 1 bytes ht hi hz hsize hby hzs (by decide) v xs.length (xs.map enc) hown ⟨b0,off0,none⟩ (y :: ys).length c ((y :: ys).map enc) (by simp) (fun j u hu=>by
    rw [List.getElem?_map] at hu
    rcases Nat.lt_or_ge j (y :: ys).length with hj | hj
    . rw [List.getElem?_eq_getElem hj] at hu
      simp only [Option.map_some,Option.some.injEq] at hu;obtain ⟨b',off',hA,hcell⟩:=hc j hj;cases hA;rw [<- hu,addr_add]; exact hcell
    . rw [List.getElem?_eq_none hj] at hu; cases hu) (fun u hu=>by obtain ⟨y,hy,rfl⟩:=List.mem_map.1 hu; exact h1 y hy) (by unfold maxLen; omega) (by
      have:(xs.length + (y :: ys).length) * bytes <= 4398046511104 * 32:=Nat.mul_le_mul h63 hb;omega) hbase
   unfold execOp;simp only [ho,resolve,invoke,builtin,Sem.run_bind,Sem.run_pure,Result.andThen_ok,List.map_toArray,List.map_cons,List.map_nil,hs,hx,hr];refine h v' w' ?_ h3;unfold Q0f
   simpa using h2
theorem X9m:sAnd.toList = [97,110,100]:=by simp [sAnd,go_sem]
theorem Y1f:sOr.toList = [111,114]:=by simp [sOr,go_sem]
theorem X1l:sVote.toList = [118,111,116,101]:=by simp [sVote,go_sem]
theorem Q7q {a b:ByteArray} {l:List UInt8} (hl:b.toList = l) (h:¬ a = b):(a.toList == l) = false:=by
 rw [<- hl,<- Go.beq_toListBytes]; exact str_ne h
end Go.Tw
namespace Go.Proofs
open Go.RowKit Go.Tw Go.Flow
def out1 (x n:Int):Bool:=decide (x < 0 ∨ n <= x)
theorem Q7h (x:Int) (l:List Int) (n:Int):outB (x :: l) n = (out1 x n || outB l n):=rfl
theorem X4k {l:List Int} {k:Nat} (h:k + 1 < l.length):ascB (l.drop k) = (decide (ix l k < ix l (k + 1)) && ascB (l.drop (k + 1))):=by
 rw [Q1s (show k < l.length by omega),Q1s h]; rfl
theorem Y0w {l:List Int} {k:Nat} (h:l.length <= k + 1):ascB (l.drop k) = true:=by
 rcases Nat.lt_or_ge k l.length with h' | h'
 . rw [Q1s h',List.drop_eq_nil_of_le h]; rfl
 . rw [List.drop_eq_nil_of_le h']; rfl
end Go.Proofs
namespace Go.Tw
def Q1l:List Bool -> Nat
 | []=>0
 | b :: l=>b.toNat + 2 * Q1l l
theorem Q1n:∀ (l:List Bool) (i:Nat),(Q1l l).testBit i = bx l i
 | [],i=>by simp [Q1l,bx]
 | b :: l,0=>by
   rw [Q1l,Nat.testBit_zero];cases b <;> simp [bx] <;> omega
 | b :: l,i + 1=>by
   rw [Q1l,Nat.testBit_succ,show (b.toNat + 2 * Q1l l) / 2 = Q1l l from by cases b <;> simp <;> omega,Q1n l i]
   simp [bx]
theorem X4b:∀ l:List Bool,Q1l l < 2 ^ l.length
 | []=>by simp [Q1l]
 | b :: l=>by
   have:=X4b l;rw [Q1l,List.length_cons,Nat.pow_succ];cases b <;> simp <;> omega
theorem Q7g (n i:Nat):(2 ^ n).testBit i = decide (i = n):=by
 rw [Nat.testBit_two_pow]; by_cases h:n = i
 . subst h; simp
 . have h2:¬ i = n:=fun e=>h e.symm
   simp [h,h2]
theorem X8c (l m:List Bool) (i:Nat):bx (l ++ m) i = if i < l.length then bx l i else bx m (i - l.length):=by
 unfold bx
 split
 . rename_i h; simp [List.getD_eq_getElem?_getD,List.getElem?_append_left h]
 . rename_i h; simp [List.getD_eq_getElem?_getD,List.getElem?_append_right (by omega:l.length <= i)]
theorem X1g {l:List Bool} {i:Nat} (h:l.length <= i):bx l i = false:=by simp [bx,h]
theorem X4t (l:List Bool) (b:Bool):Q1l (l ++ [b]) = if b then Q1l l ||| 2 ^ l.length else Q1l l:=by
 apply Nat.eq_of_testBit_eq
 intro i;rw [Q1n,X8c]
 by_cases h:i < l.length
 . rw [if_pos h]
   cases b with
   | false=>simp only [Bool.false_eq_true,if_false]; rw [Q1n]
   | true=>simp only [if_true]; rw [Nat.testBit_or,Q7g,Q1n,decide_eq_false (by omega:¬ i = l.length),Bool.or_false]
 . rw [if_neg h]
   cases b with
   | false => simp only [Bool.false_eq_true, if_false]; rw [Q1n, X1g (l := l) (by omega)]; rcases Nat.lt_or_ge (i - l.length) 1 with h' | h'
              . rw [show i - l.length = 0 from by omega]; rfl
              . exact X1g (by simpa using h')
   | true =>
     simp only [if_true];rw [Nat.testBit_or,Q7g,Q1n,X1g (l:=l) (by omega),Bool.false_or]
     by_cases h':i = l.length
     . subst h'; simp [bx]
     . rw [decide_eq_false h']; exact X1g (by simp; omega)
def Y1c (a:Nat) (x:Int):Nat:=a ||| 2 ^ x.toNat
def Q7s (a:Nat) (l:List Int):Nat:=l.foldl Y1c a
def Q1d (l:List Int):Nat:=Q7s 0 l
theorem Q4r (a:Nat) (x:Int) (l:List Int):Q7s a (x :: l) = Q7s (Y1c a x) l:=rfl
theorem Q8s:∀ (l:List Int) (a i:Nat),(∀ x ∈ l,0 <= x) -> (Q7s a l).testBit i = (a.testBit i || has l i)
 | [],a,i,_=>by simp [Q7s,has]
 | x :: l,a,i,h=>by
   rw [Q4r,Q8s l _ i (fun y hy=>h y (List.mem_cons_of_mem _ hy)),Y1c,Nat.testBit_or,Q7g,has_cons,Bool.or_assoc];have h0:=h x (List.mem_cons_self ..)
   by_cases e:x = (i:Int)
   . subst e; simp
   . have e1:¬ i = x.toNat:=by omega
     rw [decide_eq_false e1,beq_false_of_ne e]
theorem Q5h {l:List Int} (h:∀ x ∈ l,0 <= x) (i:Nat):(Q1d l).testBit i = has l i:=by
 unfold Q1d; rw [Q8s l 0 i h]; simp
theorem X0g {n:Nat}:∀ (l:List Int) (a:Nat),a < 2 ^ n -> (∀ x ∈ l,x < (n:Int)) -> (0 < n) -> Q7s a l < 2 ^ n
 | [],_,h,_,_=>h
 | x :: l,a,h,hx,hn=>by
   rw [Q4r];refine X0g l _ (Nat.or_lt_two_pow h (Nat.pow_lt_pow_right (by omega) ?_)) (fun y hy=>hx y (List.mem_cons_of_mem _ hy)) hn
   have:=hx x (List.mem_cons_self ..);omega
theorem Q7w {n:Nat} {l:List Int} (hn:0 < n) (h:∀ x ∈ l,x < (n:Int)):Q1d l < 2 ^ n:=X0g l 0 (Nat.two_pow_pos n) h hn
def Q1g (a b:Nat):Nat:=a ^^^ (a &&& b)
theorem Q1t (a b i:Nat):(Q1g a b).testBit i = (a.testBit i && !b.testBit i):=by
 unfold Q1g;rw [Nat.testBit_xor,Nat.testBit_and];cases a.testBit i <;> cases b.testBit i <;> rfl
theorem Q3z {a n:Nat} (b:Nat) (h:a < 2 ^ n):Q1g a b < 2 ^ n:=Nat.xor_lt_two_pow h (Nat.lt_of_le_of_lt Nat.and_le_left h)
theorem Q2x (n:Int) (h0:0 <= n) (h1:n < 2 ^ 62):IntKind.i64.wrap n = n:=by rw [IntKind.wrap_i64]; omega
theorem Y2y {a b:Nat} (ha:a < 2 ^ 62) (hb:b < 2 ^ 62):bits .or .i64 (a:Int) (b:Int) = ((a ||| b:Nat):Int):=(bits_nat .i64 62 (by decide) Q2x a b ha hb).2
theorem X9p {a b:Nat} (ha:a < 2 ^ 62) (hb:b < 2 ^ 62):bits .and .i64 (a:Int) (b:Int) = ((a &&& b:Nat):Int):=(bits_nat .i64 62 (by decide) Q2x a b ha hb).1
theorem Y2m (s i:Nat):s.testBit i = decide (s / 2 ^ i % 2 = 1):=by rw [Nat.testBit_eq_decide_div_mod_eq]
end Go.Tw
namespace Go.Proofs
open Go.RowKit Go.Tw Go.Flow
def Q0c (b:Bool) (e:Int):Int:=if b then e else 0
theorem Q4g (w:World) (b:Bool) (x:Int) :
    Calls Tryd.prog 72 #[.bool b,.int .i64 x] w fun e w'=>e = .returned (.int .i64 (Q0c b x)) /\ w = w':=by
 cases b <;>
 . go_enter Tryd.func72,Tryd.ntmps72
   go_wp2;go_ret;exact ⟨rfl,rfl⟩
theorem first_any (w:World) (v:Value) (l:List Int) (hv:IsInts w v l) :
    Calls Tryd.prog 71 #[v] w fun e w'=>e = .returned (.int .i64 (firstErr l)) /\ w = w':=by
 obtain ⟨A,cap,rfl,hl,hcap,hc⟩:=hv.opened;clear hv;go_enter Tryd.func71,Tryd.ntmps71;go_wp2
 go_loop [7] (fun i=>∃ k:Nat,k <= l.length /\ i = .int .i64 k /\ firstErr (l.drop k) = firstErr l) (fun i=>l.length - (intOf i).toNat)
 case atStart=>exact ⟨0,Nat.zero_le _,rfl,rfl⟩
 case round =>
  obtain ⟨k,hk,rfl,hr⟩:=hrel;have HR:=Lib.hid hr; clear hr
  by_cases hlt:k < l.length
  . obtain ⟨b,off,rfl,hcell⟩:=hc k hlt
    clear hc
    by_cases hx:ix l k = 0
    . have HX:=Lib.hid hx
      have hx1:(ix l k != 0) = false:=by simp [hx]
      clear hx;go_wp2;go_round
      case rel=>exact ⟨k + 1,by omega,by go_num,by rw [<- HR.out,Q1s hlt,firstErr,if_pos HX.out]⟩
      case measure=>simp [intOf]; omega
    . have hx1:(ix l k != 0) = true:=by simp [hx]
      have HX:=Lib.hid hx; clear hx;go_wp2;go_ret;exact ⟨ret_int (by rw [<- HR.out,Q1s hlt,firstErr,if_neg HX.out]),rfl⟩
  . clear hc
    go_wp2;go_ret;exact ⟨ret_int (by rw [<- HR.out,List.drop_eq_nil_of_le (by omega)]; rfl),rfl⟩
theorem Q5j (w:World) (x a b:Int) :
    Calls Tryd.prog 101 #[.int .i64 x,.int .i64 a,.int .i64 b] w fun e w'=>e = .returned (.int .i64 (rangeErr x a b)) /\ w = w':=by
 unfold rangeErr
 by_cases h1:x < a
 . rw [if_pos (.inl h1)]
   go_enter Tryd.func101,Tryd.ntmps101;go_wp2;go_ret;exact ⟨rfl,rfl⟩
 . by_cases h2:b < x
   . rw [if_pos (.inr h2)]
     go_enter Tryd.func101,Tryd.ntmps101;go_wp2;go_ret;exact ⟨rfl,rfl⟩
   . rw [if_neg (by omega)]
     go_enter Tryd.func101,Tryd.ntmps101;go_wp2;go_ret;exact ⟨rfl,rfl⟩
theorem Q2e (w:World) (v:Value) (l:List Int) (n:Int) (hv:IsInts w v l) :
    Calls Tryd.prog 94 #[v,.int .i64 n] w fun e w'=>e = .returned (.int .i64 (setErr l n)) /\ Ext w w':=by
 obtain ⟨A,cap,rfl,hl,hcap,hc⟩:=hv.opened;clear hv;go_enter Tryd.func94,Tryd.ntmps94;go_wp2
 go_loop [10] (fun i=>∃ k:Nat,k <= l.length /\ i = .int .i64 k /\ outB (l.drop k) n = outB l n) (fun i=>l.length - (intOf i).toNat)
 case atStart=>exact ⟨0,Nat.zero_le _,rfl,rfl⟩
 case round =>
  obtain ⟨k,hk,rfl,hr⟩:=hrel;have HR:=Lib.hid hr; clear hr
  by_cases hlt:k < l.length
  . obtain ⟨b,off,rfl,hcell⟩:=hc k hlt
    clear hc
    by_cases h0:ix l k < 0
    . have HO:Hid (out1 (ix l k) n = true):=by unfold out1; exact decide_eq_true (.inl h0)
      go_wp2;go_ret;exact ⟨ret_int (by unfold setErr; rw [<- HR.out,Q1s hlt,Q7h,HO.out]; rfl),Ext.refl _⟩
    . by_cases h1:n <= ix l k
      . have HO:Hid (out1 (ix l k) n = true):=by unfold out1; exact decide_eq_true (.inr h1)
        go_wp2;go_ret;exact ⟨ret_int (by unfold setErr; rw [<- HR.out,Q1s hlt,Q7h,HO.out]; rfl),Ext.refl _⟩
      . have HO:Hid (out1 (ix l k) n = false):=by unfold out1; exact decide_eq_false (by omega)
        go_wp2;go_round
        case rel=>exact ⟨k + 1,by omega,by go_num,by rw [<- HR.out,Q1s hlt,Q7h,HO.out,Bool.false_or]⟩
        case measure=>simp [intOf]; omega
  . have HO:Hid (outB l n = false):=by
     have:=HR.out;rw [List.drop_eq_nil_of_le (by omega)] at this
     exact this.symm
    clear HR;go_wp2
    go_loopw [7] (fun i wr=>∃ k:Nat,(k + 1 <= l.length ∨ k = 0) /\ i = .int .i64 (k + 1:Nat) /\ ascB (l.drop k) = ascB l /\ Ext w wr) (fun i _=>l.length - (intOf i).toNat)
    case atStart=>exact ⟨0,.inr rfl,rfl,rfl,Ext.refl _⟩
    case round =>
     obtain ⟨m,hm,rfl,hr,hx⟩:=hrel;have HR:=Lib.hid hr; clear hr
     by_cases hlm:m + 1 < l.length
     . obtain ⟨b,off,rfl,hcell⟩:=hc m (by omega)
       obtain ⟨b',off',hA,hcell'⟩:=hc (m + 1) hlm;cases hA;clear hc;replace hcell:=hx.cell hcell;replace hcell':=hx.cell hcell';have i1:(0:Int) <= ((m + 1:Nat):Int):=by omega
       have i2:((m + 1:Nat):Int) < l.length:=by omega
       have i3:(0:Int) <= ((m + 1:Nat):Int) - 1:=by omega
       have i4:((m + 1:Nat):Int) - 1 < l.length:=by omega
       have i5:(((m + 1:Nat):Int) - 1).toNat = m:=by omega
       by_cases ha:ix l m < ix l (m + 1)
       . have HA:Hid (decide (ix l m < ix l (m + 1)) = true):=by exact decide_eq_true ha
         go_wp2
         go_quiet (fail)
         all_goals go_wp2
         go_roundw
         case rel=>exact ⟨m + 1,by omega,by go_num,by rw [<- HR.out,X4k hlm,HA.out,Bool.true_and],hx.drewN _⟩
         case measure=>simp [intOf]; omega
       . have HA:Hid (decide (ix l m < ix l (m + 1)) = false):=by exact decide_eq_false ha
         have ha':ix l (m + 1) <= ix l m:=by omega
         go_wp2
         go_quiet (fail)
         all_goals go_wp2
         go_ret;exact ⟨ret_int (by unfold setErr; rw [HO.out,<- HR.out,X4k hlm,HA.out,Bool.false_and]; rfl),hx.drewN _⟩
     . clear hc
       have i2:(l.length:Int) <= ((m + 1:Nat):Int):=by omega
       go_wp2;go_ret;exact ⟨ret_int (by unfold setErr; rw [HO.out,<- HR.out,Y0w (by omega)]; rfl),hx⟩
end Go.Proofs
