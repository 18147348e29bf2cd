/- The region theorem in the form in which it is used: the operations, their forerunners and what each gives stand in lists. Slices that a call makes and appends to, read as lists. Small aids for the uses of the region theorem and for boxes. strings.Builder: what it holds while others come into being; WriteString (its laying is taken out of that of strings.Join), String. Contracts of small functions of the references. Contracts of small functions of the program: when, first, within, checkHeight, checkDelay, checkClass, checkNeed. -/
import Derived.Test.YthnobngcipaljaaGreatDoorPn02
import Derived.Test.YthnobngcipaljaaGreatDoorPn01
import Derived.Laws.AppendOwn
import Derived.Deep.DeepMust
import Derived.Deep.Light
import Derived.Deep.Draws
import Derived.Laws.StructEq
import Derived.Shelf.Strings.Builder1
import Derived.Shelf.Strings.Builder2
import Derived.Test.YthnobngcipaljaaGreatDoorProg
import Derived.Deep.QuietTactic
import Derived.BigQuiet
set_option maxRecDepth 1000000
set_option maxHeartbeats 64000000
set_option linter.unusedVariables false
set_option linter.unusedSimpArgs false
set_option linter.constructorNameAsVariable false
namespace Go.Flow
open Go.RowKit Go.Tw
structure Spec where
 D:(Nat -> Value) -> World -> Prop
 mono:∀ v w w',Ext w w' -> D v w -> D v w'
def Spec.is (j:Nat) (e:(Nat -> Value) -> Value):Spec:=⟨fun v _=>v j=e v,fun _ _ _ _ h=>h⟩
def Spec.c (j:Nat) (x:Value):Spec:=Spec.is j fun _=>x
def Spec.none:Spec:=⟨fun _ _=>True,fun _ _ _ _ _=>trivial⟩
def lookup {α:Type}:List α -> α -> Nat -> α
 | [],d,_=>d
 | x :: _,_,0=>x
 | _ :: l,d,n + 1=>lookup l d n
def Facts (pre:Nat -> List Nat) (D:Nat -> (Nat -> Value) -> World -> Prop) (v:Nat -> Value) (w:World):List Nat -> Prop -> Prop
 | [],G=>G
 | k :: l,G=>D k (mask pre k v) w -> Facts pre D v w l G
theorem Facts.out {pre:Nat -> List Nat} {D:Nat -> (Nat -> Value) -> World -> Prop} {v:Nat -> Value} {w:World} {G:Prop}:∀ {l:List Nat},Facts pre D v w l G -> (∀ k ∈ l,D k (mask pre k v) w) -> G
 | [],h,_=>h
 | k :: l,h,hf=>Facts.out (h (hf k (by simp))) (fun i hi=>hf i (by simp [hi]))
def Due (P:Program) (pre:Nat -> List Nat) (D:Nat -> (Nat -> Value) -> World -> Prop) (E:(Nat -> Value) -> World -> World -> Prop) (k:Kind) (o:Oper) (j:Nat) (b:Act) (v:Nat -> Value) (w1 w:World):Prop :=
 match k with
 | .plain=>∃ u,(∀ w,(execOp b.eval o).run P w=.ok (.value u) w) /\ D j (mask pre j (upd v j u)) w1
 | .world=>∀ K:Value -> World -> Prop,(∀ u w',Ext w1 w' -> D j (mask pre j (upd v j u)) w' -> K u w') -> gives P K ((execOp b.eval o).run P w1)
 | .last=>∀ K:Value -> World -> Prop,(∀ u w',E (mask pre j (upd v j u)) w1 w' -> K u w') -> gives P K ((execOp b.eval o).run P w)
def Pass (pre:Nat -> List Nat) (D:Nat -> (Nat -> Value) -> World -> Prop) (E:(Nat -> Value) -> World -> World -> Prop) (k:Kind) (j:Nat) (v:Nat -> Value) (w1 w:World):Prop :=
 match k with
 | .last=>E (mask pre j (upd v j undef)) w1 w
 | _=>D j (mask pre j (upd v j undef)) w1
def Guarded (ops:Array Oper) (o:Oper) (b:Act) (T F:Prop):Prop :=
 match o.guard with
 | none=>T
 | some _=>(Region.wanted o (yielded ops b.tmps)=true /\ T) ∨ (Region.wanted o (yielded ops b.tmps)=false /\ F)
theorem J5q {P:Program} {ops:Array Oper} {pre:Nat -> List Nat} {D:Nat -> (Nat -> Value) -> World -> Prop} {T E:(Nat -> Value) -> World -> World -> Prop} {k:Kind} {o:Oper} {j:Nat} {b:Act} {v:Nat -> Value} {w1:World}
    (hk:k ≠ .last) (h:Guarded ops o b (Due P pre D E k o j b v w1 w1) (Pass pre D E k j v w1 w1)):vc P ops pre Ext D T E k o j b v w1:=by
 have h':(Region.wanted o (yielded ops b.tmps)=true /\ Due P pre D E k o j b v w1 w1) ∨ (Region.wanted o (yielded ops b.tmps)=false /\ Pass pre D E k j v w1 w1):=by
  unfold Guarded at h;cases hg:o.guard with
  | none=>rw [hg] at h; exact .inl ⟨by simp [Region.wanted,hg],h⟩
  | some g=>rw [hg] at h; exact h
 cases k with
 | plain=>exact h'.imp (fun ⟨a,u,b,c⟩=>⟨a,u,b,c⟩) id
 | world=>exact h'.imp (fun ⟨a,b⟩=>⟨a,b _ fun u w' h1 h2=>⟨h1,h2⟩⟩) id
 | last=>exact absurd rfl hk
theorem J2i {P:Program} {ops:Array Oper} {pre:Nat -> List Nat} {D:Nat -> (Nat -> Value) -> World -> Prop} {T E:(Nat -> Value) -> World -> World -> Prop} {o:Oper} {j:Nat} {b:Act} {v:Nat -> Value} {w1:World}
    (h:∀ w,T v w1 w -> Guarded ops o b (Due P pre D E .last o j b v w1 w) (Pass pre D E .last j v w1 w)):vc P ops pre Ext D T E .last o j b v w1:=by
 intro w hT;have h:=h w hT;have h':(Region.wanted o (yielded ops b.tmps)=true /\ Due P pre D E .last o j b v w1 w) ∨ (Region.wanted o (yielded ops b.tmps)=false /\ Pass pre D E .last j v w1 w):=by
  unfold Guarded at h;cases hg:o.guard with
  | none=>rw [hg] at h; exact .inl ⟨by simp [Region.wanted,hg],h⟩
  | some g=>rw [hg] at h; exact h
 exact h'.imp (fun ⟨a,b⟩=>⟨a,b _ fun u w' h1=>h1⟩) id
def X7m (P:Program) (ops:Array Oper) (pre:Nat -> List Nat) (tail:List Nat) (w0:World) (D:Nat -> (Nat -> Value) -> World -> Prop):List ((Nat -> Value) -> World -> World -> Prop) -> ((Nat -> Value) -> World -> World -> Prop) -> List Oper -> List Kind -> List Nat -> ((Nat -> Value) -> Act) -> Prop
 | El,T,o :: l,k :: kl,j :: jl,b =>
   match k,El with
   | .last,E :: El=>(∀ v w1,Ext w0 w1 -> Facts pre D v w1 ((pre j).filter fun i=>!tail.contains i) (∀ w,T v w1 w -> ∀ bb,bb=b v -> Guarded ops o bb (Due P pre D E .last o j bb v w1 w) (Pass pre D E .last j v w1 w))) /\
      X7m P ops pre tail w0 D El (fun v w1 w=>E (mask pre j v) w1 w) l kl jl (fun v=>(b v).put o.dst (v j))
   | .last,[]=>False
   | k,El=>(∀ v w1,Ext w0 w1 -> Facts pre D v w1 (pre j) (Guarded ops o (b v) (Due P pre D (fun _ _ _=>False) k o j (b v) v w1 w1) (Pass pre D (fun _ _ _=>False) k j v w1 w1))) /\ X7m P ops pre tail w0 D El T l kl jl (fun v=>(b v).put o.dst (v j))
 | _,_,_,_,_,_=>True
def X9u:Kind -> Bool | .world=>true | _=>false
def isLast:Kind -> Bool | .last=>true | _=>false
def okL (ops:List Oper) (pl:List (List Nat)) (kl:List Kind) (tail:List Nat) (n:Nat):Bool :=
 okB ops.toArray (lookup pl []) && kl.length == ops.length && (tail == (List.range ops.length).filter fun j=>isLast (lookup kl .plain j)) && (n == tail.length) &&
 ((List.range tail.length).all fun k=>(List.range k).all fun i=>(lookup pl [] (tail.getD k 0)).contains (tail.getD i 0)) &&
 ((List.range ops.length).all fun j=>isLast (lookup kl .plain j) || ((lookup pl [] j).all fun k=>!tail.contains k)) &&
 ((List.range ops.length).all fun j=>!X9u (lookup kl .plain j) || (tail.all fun s=>(lookup pl [] s).contains j))
theorem Q4x (v:Nat -> Value):∀ (l:List Oper) (i j:Nat) (a:Act),act (fun k=>decide (k < i + j)) v l i a=act (fun _=>true) v (l.take j) i a
 | [],i,j,a=>by simp [act]
 | o :: l,i,0,a=>by
   simp only [Nat.add_zero,List.take_zero,act];rw [if_neg (by simp)]
   have:∀ (l:List Oper) (k:Nat) (a:Act),i <= k -> act (fun k=>decide (k < i)) v l k a=a:=by
    intro l
    induction l with
    | nil=>intro k a _; rfl
    | cons o l ih=>intro k a hk; rw [act,if_neg (by simp; omega)]; exact ih (k + 1) a (by omega)
   exact this l (i + 1) a (by omega)
 | o :: l,i,j + 1,a=>by
   rw [List.take_succ_cons,act,act,if_pos (by simp),if_pos rfl]
   have:=Q4x v l (i + 1) j (a.put o.dst (v i))
   rwa [show i + 1 + j=i + (j + 1) from by omega] at this
theorem Z0s {P:Program} {ops:Array Oper} {pre:Nat -> List Nat} {tail:List Nat} {w0:World} {D:Nat -> (Nat -> Value) -> World -> Prop} :
    ∀ (l:List Oper) (kl:List Kind) (El:List ((Nat -> Value) -> World -> World -> Prop)) (T:(Nat -> Value) -> World -> World -> Prop) (i:Nat) (b:(Nat -> Value) -> Act),kl.length=l.length ->
     X7m P ops pre tail w0 D El T l kl (List.range' i l.length) b -> ∀ j o,l[j]?=some o -> lookup kl .plain j ≠ .last -> ∀ v w1,Ext w0 w1 ->
     (∀ n ∈ pre (i + j),D n (mask pre n v) w1) -> vc P ops pre Ext D (fun _ _ _=>False) (fun _ _ _=>False) (lookup kl .plain j) o (i + j) (act (fun _=>true) v (l.take j) i (b v)) v w1
 | [],_,_,_,_,_,_,_,j,_,h,_,_,_,_,_=>by simp at h
 | o :: l,[],_,_,_,_,hk,_,_,_,_,_,_,_,_,_=>by simp at hk
 | o :: l,k :: kl,El,T,i,b,hk,h,j,o',hj,hne,v,w1,hx,hf=>by
   rw [List.length_cons,List.range'_succ] at h;cases j with
   | zero =>
     simp only [List.getElem?_cons_zero,Option.some.injEq] at hj;subst hj;simp only [lookup] at hne ⊢;cases k with
     | last=>exact absurd rfl hne
     | plain=>simp only [X7m] at h; simpa [act] using J5q hne ((h.1 v w1 hx).out (by simpa using hf))
     | world=>simp only [X7m] at h; simpa [act] using J5q hne ((h.1 v w1 hx).out (by simpa using hf))
   | succ j =>
     have hrest:∃ El T,X7m P ops pre tail w0 D El T l kl (List.range' (i + 1) l.length) (fun v=>(b v).put o.dst (v i)):=by
      cases k with
      | last=>cases El with
        | nil=>simp only [X7m] at h
        | cons E El=>simp only [X7m] at h; exact ⟨_,_,h.2⟩
      | plain=>simp only [X7m] at h; exact ⟨_,_,h.2⟩
      | world=>simp only [X7m] at h; exact ⟨_,_,h.2⟩
     obtain ⟨El',T',h'⟩:=hrest;have:=Z0s l kl El' T' (i + 1) _ (by simpa using hk) h' j o' (by simpa using hj) (by simpa [lookup] using hne) v w1 hx (by rwa [show i + 1 + j=i + (j + 1) from by omega])
     rw [show i + 1 + j=i + (j + 1) from by omega] at this
     simpa [act,lookup] using this
def lasts:List Kind -> Nat -> List Nat
 | [],_=>[]
 | .last :: l,i=>i :: lasts l (i + 1)
 | _ :: l,i=>lasts l (i + 1)
theorem X7n:∀ (kl:List Kind) (i:Nat),lasts kl i=(List.range' i kl.length).filter fun j=>isLast (lookup kl .plain (j - i))
 | [],_=>rfl
 | k :: l,i=>by
   rw [List.length_cons,List.range'_succ,List.filter_cons,Nat.sub_self];have e:((List.range' (i + 1) l.length).filter fun j=>isLast (lookup (k :: l) .plain (j - i)))=(List.range' (i + 1) l.length).filter fun j=>isLast (lookup l .plain (j - (i + 1))):=by
    refine List.filter_congr fun j hj=>?_;have hj':=(List.mem_range'_1.1 hj).1;rw [show j - i=(j - (i + 1)) + 1 from by omega]; rfl
   rw [e,<- X7n l (i + 1)];cases k <;> simp [lasts,lookup,isLast]
theorem Q9f {P:Program} {ops:Array Oper} {pre:Nat -> List Nat} {tail:List Nat} {w0:World} {D:Nat -> (Nat -> Value) -> World -> Prop} (E:Nat -> (Nat -> Value) -> World -> World -> Prop) :
    ∀ (l:List Oper) (kl:List Kind) (El:List ((Nat -> Value) -> World -> World -> Prop)) (i:Nat) (b:(Nat -> Value) -> Act) (c0:Nat),kl.length=l.length -> tail.drop c0=lasts kl i -> (∀ n,n < (lasts kl i).length -> El[n]?=some (E (c0 + n))) ->
     X7m P ops pre tail w0 D El (Tail pre tail E c0) l kl (List.range' i l.length) b -> ∀ n,n < (lasts kl i).length -> ∀ j o,tail[c0 + n]?=some (i + j) -> l[j]?=some o -> ∀ v w1,Ext w0 w1 ->
     (∀ m ∈ pre (i + j),m ∉ tail -> D m (mask pre m v) w1) -> vc P ops pre Ext D (Tail pre tail E (c0 + n)) (E (c0 + n)) .last o (i + j) (act (fun _=>true) v (l.take j) i (b v)) v w1
 | [],[],_,_,_,_,_,_,_,_,n,h,_,_,_,_,_,_,_,_=>by simp [lasts] at h
 | [],_ :: _,_,_,_,_,hk,_,_,_,_,_,_,_,_,_,_,_,_,_=>by simp at hk
 | o :: l,[],_,_,_,_,hk,_,_,_,_,_,_,_,_,_,_,_,_,_=>by simp at hk
 | o :: l,k :: kl,El,i,b,c0,hk,htl,hE,h,n,hn,j,o',ht,hj,v,w1,hx,hf=>by
   rw [List.length_cons,List.range'_succ] at h;have hlow:∀ (kl:List Kind) (i:Nat),∀ x ∈ lasts kl i,i <= x:=by
    intro kl
    induction kl with
    | nil=>intro i x hx; simp [lasts] at hx
    | cons k kl ih => intro i x hx; cases k <;> simp only [lasts, List.mem_cons] at hx
                      . have:=ih _ _ hx; omega
                      . have:=ih _ _ hx; omega
                      . rcases hx with rfl | hx
                        . exact Nat.le_refl _
                        . have:=ih _ _ hx; omega
   have ht':(lasts (k :: kl) i)[n]?=some (i + j):=by rw [<- htl,List.getElem?_drop]; exact ht
   have hsk:k ≠ .last -> ∃ j',j=j' + 1 /\ (lasts kl (i + 1))[n]?=some (i + 1 + j'):=by
    intro hne;have e:lasts (k :: kl) i=lasts kl (i + 1):=by cases k <;> first | rfl | exact absurd rfl hne
    rw [e] at ht';have:=hlow kl (i + 1) _ (List.mem_of_getElem? ht');exact ⟨j - 1,by omega,by rw [ht']; congr 1; omega⟩
   cases k with
   | plain =>
     obtain ⟨j',rfl,ht2⟩:=hsk (by simp)
     simp only [X7m] at h;have:=Q9f E l kl El (i + 1) _ c0 (by simpa using hk) (by simpa [lasts] using htl) (by simpa [lasts] using hE) h.2 n (by simpa [lasts] using hn) j' o' (by rw [ht]; congr 1; omega) (by simpa using hj) v w1 hx (by rwa [show i + 1 + j'=i + (j' + 1) from by omega])
     rw [show i + 1 + j'=i + (j' + 1) from by omega] at this
     simpa [act] using this
   | world =>
     obtain ⟨j',rfl,ht2⟩:=hsk (by simp)
     simp only [X7m] at h;have:=Q9f E l kl El (i + 1) _ c0 (by simpa using hk) (by simpa [lasts] using htl) (by simpa [lasts] using hE) h.2 n (by simpa [lasts] using hn) j' o' (by rw [ht]; congr 1; omega) (by simpa using hj) v w1 hx (by rwa [show i + 1 + j'=i + (j' + 1) from by omega])
     rw [show i + 1 + j'=i + (j' + 1) from by omega] at this
     simpa [act] using this
   | last =>
     cases El with
     | nil=>simp only [X7m] at h
     | cons E0 El =>
       have e0:E0=E c0:=by have:=hE 0 (by simp [lasts]); simpa using this
       subst e0;simp only [X7m] at h;have htc:tail.getD c0 0=i:=by
        have:(tail.drop c0)[0]?=some i:=by rw [htl]; rfl
        rw [List.getElem?_drop] at this
        simpa using congrArg (fun x=>x.getD 0) this
       cases n with
       | zero =>
         have hj0:j=0:=by
          have:(lasts (.last :: kl) i)[0]?=some i:=rfl;rw [this] at ht'; simp at ht'; omega
         subst hj0;simp only [List.getElem?_cons_zero,Option.some.injEq] at hj;subst hj;have:=J2i (h:=fun w hT=>(h.1 v w1 hx).out (fun m hm=>by
          simp only [List.mem_filter,Bool.not_eq_true',List.contains_eq_mem,decide_eq_false_iff_not] at hm;exact hf m (by simpa using hm.1) hm.2) w hT _ rfl)
         simpa [act] using this
       | succ n =>
         have hmem:(lasts kl (i + 1))[n]?=some (i + j):=by simpa [lasts] using ht'
         have hge:=hlow kl (i + 1) _ (List.mem_of_getElem? hmem);obtain ⟨j',rfl⟩:∃ j',j=j' + 1:=⟨j - 1,by omega⟩
         have hT:(fun v w1 w=>E c0 (mask pre i v) w1 w)=Tail pre tail E (c0 + 1):=by
          funext v w1 w
          show _=E c0 (mask pre (tail.getD c0 0) v) w1 w;rw [htc]
         have h2:=h.2;rw [hT] at h2;have:=Q9f E l kl El (i + 1) _ (c0 + 1) (by simpa using hk) (by
             have e:tail.drop (c0 + 1)=(tail.drop c0).drop 1:=by rw [List.drop_drop]
             rw [e,htl]; rfl) (fun m hm=>by
             have:=hE (m + 1) (by simpa [lasts] using hm)
             rw [show c0 + 1 + m=c0 + (m + 1) from by omega]
             simpa using this) h2 n (by simpa [lasts] using hn) j' o' (by rw [show c0 + 1 + n=c0 + (n + 1) from by omega,ht]; congr 1; omega) (by simpa using hj) v w1 hx (by rwa [show i + 1 + j'=i + (j' + 1) from by omega])
         rw [show i + 1 + j'=i + (j' + 1) from by omega,show c0 + 1 + n=c0 + (n + 1) from by omega] at this
         simpa [act] using this
def acts (v:Nat -> Value):List Oper -> List Nat -> Act -> Act
 | o :: l,j :: jl,a=>acts v l jl (a.put o.dst (v j))
 | _,_,a=>a
theorem Y4p (v:Nat -> Value):∀ (l:List Oper) (i:Nat) (a:Act),acts v l (List.range' i l.length) a=act (fun _=>true) v l i a
 | [],_,_=>rfl
 | o :: l,i,a=>by rw [List.length_cons,List.range'_succ,acts,act,Y4p v l]; rfl
def All (pre:Nat -> List Nat) (D:Nat -> (Nat -> Value) -> World -> Prop) (v:Nat -> Value) (w:World) (tail:List Nat):List Nat -> Prop -> Prop
 | [],G=>G
 | j :: l,G=>if tail.contains j=true then All pre D v w tail l G else D j (mask pre j v) w -> All pre D v w tail l G
theorem All.out {pre:Nat -> List Nat} {D:Nat -> (Nat -> Value) -> World -> Prop} {v:Nat -> Value} {w:World} {tail:List Nat} {G:Prop}:∀ {l:List Nat},All pre D v w tail l G -> (∀ k ∈ l,k ∉ tail -> D k (mask pre k v) w) -> G
 | [],h,_=>h
 | j :: l,h,hf=>by
   unfold All at h
   split at h
   . exact All.out h (fun k hk=>hf k (by simp [hk]))
   . rename_i hj
     exact All.out (h (hf j (by simp) (by simpa using hj))) (fun k hk=>hf k (by simp [hk]))
def endOf (pre:Nat -> List Nat) (v:Nat -> Value) (w1 w:World):List Nat -> List ((Nat -> Value) -> World -> World -> Prop) -> Prop
 | [j],[E]=>E (mask pre j v) w1 w
 | _ :: jl,_ :: El=>endOf pre v w1 w jl El
 | _,_=>w=w1
section
variable {P:Program} {id:Nat} {Q:Exit -> Act -> World -> Prop} {a0:Act} {w:World} {ops:List Oper}
theorem J3i (news:List Nat) (kl:List Kind) (jl:List Nat) (pl:List (List Nat)) (tail:List Nat) (Dl:List Spec) (El:List ((Nat -> Value) -> World -> World -> Prop))
    (hm:P.follows .mixedOrders=true) (hjl:jl=List.range' 0 ops.length) (hok:okL ops pl kl tail El.length=true)
    (hvc:X7m P ops.toArray (lookup pl []) tail w.drew (fun k=>(lookup Dl .none k).D) El (fun _ w1 w=>w=w1) ops kl jl (fun _=>a0))
    (hnews:news.all (fun j=>decide (j < ops.length) && X9u (lookup kl .plain j))=true) (hmade:∀ j ∈ news,∀ o,ops[j]?=some o -> Made P o)
    (hpost:∀ v w1,Ext w.drew w1 -> J6m news v -> All (lookup pl []) (fun k=>(lookup Dl .none k).D) v w1 tail jl (∀ w',endOf (lookup pl []) v w1 w' tail El -> Q .normal (acts v ops jl a0) w')) :
    (Code.region id ops.toArray true).wp P Q a0 w:=by
 subst hjl;simp only [Y4p] at hpost;simp only [okL,Bool.and_eq_true,List.all_eq_true,List.mem_range,beq_iff_eq,Bool.or_eq_true,Bool.not_eq_true',List.contains_eq_mem,decide_eq_true_eq,decide_eq_false_iff_not] at hok;obtain ⟨⟨⟨⟨⟨⟨hok,hlen⟩,htail⟩,hn⟩,hchain⟩,hlate⟩,hearly⟩:=hok;have hmem:∀ j,j ∈ tail ↔ j < ops.length /\ isLast (lookup kl .plain j)=true:=by intro j; rw [htail,List.mem_filter,List.mem_range]
 have hk:∀ j,isLast (lookup kl .plain j)=true ↔ lookup kl .plain j=.last:=by intro j; cases lookup kl .plain j <;> simp [isLast]
 have hlk:lasts kl 0=tail:=by
  rw [X7n,htail,hlen,List.range_eq_range'];rfl
 have hEl:∀ n,n < (lasts kl 0).length -> El[n]?=some ((fun c=>(El[c]?).getD fun _ _ _=>True) (0 + n)):=by
  intro n hn';rw [hlk,<- hn] at hn';simp [hn']
 have hend:∀ v w1 w',Tail (lookup pl []) tail (fun c=>(El[c]?).getD fun _ _ _=>True) tail.length v w1 w' -> endOf (lookup pl []) v w1 w' tail El:=by
  intro v w1 w' h;have gen:∀ (tl:List Nat) (el:List ((Nat -> Value) -> World -> World -> Prop)),el.length=tl.length -> (tl=[] -> w'=w1) -> (∀ (hne:tl ≠ []),((el[tl.length - 1]?).getD fun _ _ _=>True) (mask (lookup pl []) (tl.getD (tl.length - 1) 0) v) w1 w') -> endOf (lookup pl []) v w1 w' tl el:=by
   intro tl
   induction tl with
   | nil=>intro el _ h0 _; cases el <;> exact h0 rfl
   | cons j tl ih =>
     intro el hl _ h1;cases el with
     | nil=>simp at hl
     | cons E el =>
       cases tl with
       | nil=>cases el with
         | nil=>simpa [endOf] using h1 (by simp)
         | cons _ _=>simp at hl
       | cons j' tl=>cases el with
         | nil=>simp at hl
         | cons E' el =>
           show endOf _ v w1 w' (j' :: tl) (E' :: el);exact ih _ (by simpa using hl) (fun h=>by simp at h) (fun _=>by simpa using h1 (by simp))
  refine gen tail El hn.symm.symm (fun h0=>?_) (fun hne=>?_)
  . rw [h0] at h; exact h
  . obtain ⟨m,hm⟩:∃ m,tail.length=m + 1:=⟨tail.length - 1,by have:=List.length_pos_iff.2 hne; omega⟩
    rw [hm] at h;rw [hm,Nat.add_sub_cancel];exact h
 refine Y0w news tail (lookup kl .plain) (Rel:=Ext) (D:=fun k=>(lookup Dl .none k).D) (E:=fun c=>(El[c]?).getD fun _ _ _=>True) hm (J3e hok)
  (fun i hi=>by simpa using ((hmem _).1 (List.getElem_mem hi)).1) (fun i k hi hk hik=>by have:=hchain k hk i hik; simpa [hi,hk] using this)
  (fun j hjl hjs k hk'=>?_) (fun j hjl=>?_) (fun j hjl hjw s hs=>?_)
  Ext.refl (fun _ _ _=>Ext.trans) (fun k _ v w w' hx hd=>(lookup Dl .none k).mono v w w' hx hd) (fun j o ho hjs v w1 hx hf=>?_) (fun c hc o ho v w1 hx hf=>?_) (fun j hj=>?_) (fun _ _ h=>h.size) (fun v w1 w' hx hnw hf hE=>?_)
 . rcases hlate j (by simpa using hjl) with h | h
   . exact absurd ((hmem j).2 ⟨by simpa using hjl,h⟩) hjs
   . exact h k hk'
 . rw [hmem,hk]; simp at hjl; simp [hjl]
 . rcases hearly j (by simpa using hjl) with h | h
   . rw [hjw] at h; simp [X9u] at h
   . exact h s hs
 . have hjl:j < ops.length:=by simpa using (Array.getElem?_eq_some_iff.1 ho).1
   have:=Z0s ops kl El _ 0 _ hlen hvc j o (by simpa using ho) (fun h=>hjs ((hmem j).2 ⟨hjl,(hk j).2 h⟩)) v w1 hx (by simpa using hf)
   rw [Nat.zero_add] at this;have e:=Q4x v ops 0 j a0;rw [Nat.zero_add] at e
   simpa [e] using this
 . have:=Q9f (fun c=>(El[c]?).getD fun _ _ _=>True) ops kl El 0 _ 0 hlen (by rw [hlk]; rfl) hEl hvc c (by rw [hlk]; exact hc) tail[c] o (by simp [hc]) (by simpa using ho) v w1 hx (by simpa using hf)
   rw [Nat.zero_add,Nat.zero_add] at this;have e:=Q4x v ops 0 tail[c] a0;rw [Nat.zero_add] at e
   simpa [e] using this
 . have h1:=List.all_eq_true.1 hnews j hj
   simp only [Bool.and_eq_true,decide_eq_true_eq] at h1;refine ⟨by simpa using h1.1,?_,fun o ho=>hmade j hj o (by simpa using ho)⟩
   have h2:=h1.2;cases hk:lookup kl .plain j <;> rw [hk] at h2 <;> first | rfl | cases h2
 . exact (hpost v w1 hx hnw).out (fun k hk hks=>hf k (by simpa using hk) hks) w' (hend v w1 w' hE)
theorem region (kl:List Kind) (jl:List Nat) (pl:List (List Nat)) (tail:List Nat) (Dl:List Spec) (El:List ((Nat -> Value) -> World -> World -> Prop))
    (hm:P.follows .mixedOrders=true) (hjl:jl=List.range' 0 ops.length) (hok:okL ops pl kl tail El.length=true)
    (hvc:X7m P ops.toArray (lookup pl []) tail w.drew (fun k=>(lookup Dl .none k).D) El (fun _ w1 w=>w=w1) ops kl jl (fun _=>a0))
    (hpost:∀ v w1,Ext w.drew w1 -> All (lookup pl []) (fun k=>(lookup Dl .none k).D) v w1 tail jl (∀ w',endOf (lookup pl []) v w1 w' tail El -> Q .normal (acts v ops jl a0) w')) :
    (Code.region id ops.toArray true).wp P Q a0 w :=
 J3i [] kl jl pl tail Dl El hm hjl hok hvc rfl (fun _ h=>nomatch h) (fun v w1 hx _=>hpost v w1 hx)
theorem J2n (kl:List Kind) (jl:List Nat) (pl:List (List Nat)) (Dl:List Spec)
    (hm:P.follows .mixedOrders=true) (hjl:jl=List.range' 0 ops.length) (hok:okL ops pl kl [] 0=true)
    (hvc:X7m P ops.toArray (lookup pl []) [] w.drew (fun k=>(lookup Dl .none k).D) [] (fun _ w1 w=>w=w1) ops kl jl (fun _=>a0))
    (hpost:∀ v w1,Ext w.drew w1 -> All (lookup pl []) (fun k=>(lookup Dl .none k).D) v w1 [] jl (Q .normal (acts v ops jl a0) w1)) :
    (Code.region id ops.toArray true).wp P Q a0 w :=
 region kl jl pl [] Dl [] hm hjl hok hvc (fun v w1 hx=>by
  have:=hpost v w1 hx;have gen:∀ (jl:List Nat) (G G':Prop),(G -> G') -> All (lookup pl []) (fun k=>(lookup Dl .none k).D) v w1 [] jl G -> All (lookup pl []) (fun k=>(lookup Dl .none k).D) v w1 [] jl G':=by
   intro jl
   induction jl with
   | nil=>intro G G' h hG; exact h hG
   | cons j jl ih =>
     intro G G' h hG;simp only [All,List.contains_nil,Bool.false_eq_true,if_false] at hG ⊢;exact fun hd=>ih G G' h (hG hd)
  exact gen _ _ _ (fun h w' (hE:w'=w1)=>hE ▸ h) this)
end
end Go.Flow
namespace Go.Tw
open Go.RowKit
def Q0m {α:Type} (w:World) (base:Nat) (e:TypeId) (enc:α -> Value) (v:Value) (l:List α):Prop:=w.ownsRow base e 1 v l.length (l.map enc)
theorem Q0m.nil {α:Type} (w:World) (base:Nat) (e:TypeId) (enc:α -> Value):Q0m w base e enc (.slice none 0 0) []:=World.ownsRow_nil w base e 1
theorem Q0m.row {α:Type} {w:World} {base:Nat} {e:TypeId} {enc:α -> Value} {v:Value} {l:List α} (h:Q0m w base e enc v l) (hl:l.length <= 17592186043904) (c:Nat -> Value)
    (hc:∀ k (hk:k < l.length),c k=enc l[k]):Row w v l.length 1 c:=by
 obtain ⟨_,h2⟩:=h
 rcases h2 with ⟨rfl,h0⟩ | ⟨g,cap,cur,rfl,_,hg,hcap,_,_,htake⟩
 . exact ⟨none,0,by rw [h0],hl,by omega,fun j hj=>by omega⟩
 . refine ⟨some ⟨g,0,none⟩,cap,rfl,hl,hcap,fun j hj=>⟨g,0,rfl,?_⟩⟩
   have hj':j < l.length:=by omega
   rw [Nat.zero_add];have h1:=congrArg (fun l=>l[j]?) htake;simp only [Nat.mul_one,List.getElem?_take,hj',if_true,List.getElem?_map,List.getElem?_eq_getElem hj',Option.map_some] at h1;simp only [World.cell?,hg,hc j hj']
   simpa using h1
theorem Q0m.rows {α:Type} {w:World} {base:Nat} {e:TypeId} {enc:α -> Value} {v:Value} {l:List α} {R:World -> (Nat -> Value) -> α -> Prop} (h:Q0m w base e enc v l) (hl:l.length <= 17592186043904)
    (hR:∀ x ∈ l,R w (fun _=>enc x) x) (hloc:∀ c c' x,c 0=c' 0 -> R w c x -> R w c' x):Rows 1 R w v l:=by
 refine ⟨fun k=>((l.map enc)[k]?).getD undef,h.row hl _ (fun k hk=>by simp [hk]),fun j hj=>hloc _ _ _ ?_ (hR _ (List.getElem_mem hj))⟩
 simp [hj]
theorem Q0m.ints {w:World} {base:Nat} {e:TypeId} {v:Value} {l:List Int} (h:Q0m w base e (Value.int .i64) v l) (hl:l.length <= 17592186043904):Q0e w v l :=
 h.rows hl (fun _ _=>rfl) (fun _ _ _ h h'=>h ▸ h')
theorem Q0m.bools {w:World} {base:Nat} {e:TypeId} {v:Value} {l:List Bool} (h:Q0m w base e Value.bool v l) (hl:l.length <= 17592186043904):Q0r w v l :=
 h.rows hl (fun _ _=>rfl) (fun _ _ _ h h'=>h ▸ h')
theorem Q0m.below {α:Type} {w w':World} {base:Nat} {e:TypeId} {enc:α -> Value} {v:Value} {l:List α} (h:Q0m w base e enc v l) (hx:Ext w w'):Q0m w' base e enc v l:=by
 obtain ⟨h1,h2⟩:=h;refine ⟨h1,?_⟩
 rcases h2 with h2 | ⟨g,cap,cur,hv,hb,hg,r⟩
 . exact .inl h2
 . refine .inr ⟨g,cap,cur,hv,hb,?_,r⟩
   rw [Below.block hx g (Array.getElem?_eq_some_iff.1 hg).1]; exact hg
theorem Q0m.snoc {α:Type} {w:World} {base:Nat} {e:TypeId} {enc:α -> Value} {v:Value} {l:List α} {x:α} (h:w.ownsRow base e 1 v (l.length + 1) (l.map enc ++ [enc x])):Q0m w base e enc v (l ++ [x]):=by
 unfold Q0m; simpa using h
theorem Q2e {w wr w':World} {v:Value} {base:Nat} {e:TypeId} {n size:Nat} {xs:List Value} {o:Obj} (hx:Ext w wr) (hown:wr.ownsRow base e size v n xs) (hb:w.heap.size <= base) (hg:(wr.alloc o).grownBy w' v.ownBlock):Ext w w' :=
 Below.grown (hx.alloc o) hg (by have:=hx.size; simp; omega) (fun k hk=>by have:=(hown.lt k hk).1; omega)
theorem Q3i (w:World) (x:Value) (e:TypeId):∀ j u,[x][j]?=some u -> (w.alloc (.cells #[x] e)).cell? ((⟨w.heap.size,0,none⟩:Addr).add j)=some u:=by
 intro j u h;cases j with
 | zero =>
   simp only [List.getElem?_cons_zero,Option.some.injEq] at h;subst h;show (w.alloc (.cells #[x] e)).cell? ⟨w.heap.size,0,none⟩=some x;rw [World.cell?_alloc_at _ _ _ _ rfl];rfl
 | succ j=>simp at h
theorem Q3d {l:List Int} {k:Nat} (h:k < l.length):l.drop k=ix l k :: l.drop (k + 1):=by rw [Q4n h]; exact List.drop_eq_getElem_cons h
end Go.Tw
namespace Go.Tw
open Go.RowKit Go.Flow
theorem Q0d {P:Program} {f:FuncId} {args:Array Value} {w:World} {K:Value -> World -> Prop} {R:Ending -> World -> Prop} (h:Calls P f args w R) (hk:∀ e w',R e w' -> ∃ u,e=.returned u /\ K u w') :
    gives P K (.ok (.enter f args) w):=h.mono hk
theorem X2o (w:World) (cs:Array Value) (e:TypeId) (i:Nat):(w.alloc (.cells cs e)).cell? ⟨w.heap.size,i,none⟩=cs[i]?:=by
 rw [World.cell?_alloc_at _ _ _ _ rfl]
theorem Ext.box (w:World) (o:Obj):Ext w (w.alloc o):=(Ext.refl w).alloc o
theorem Ext.drewN {a b:World} (h:Ext a b) (n:Nat):Ext a (b.drewN n):=by
 obtain ⟨h1,h2,h3,h4,h5⟩:=h;exact ⟨h1,h2,h3,h4,h5⟩
theorem addr_add (b off j:Nat):(⟨b,off,none⟩:Addr).add j=⟨b,off + j,none⟩:=by unfold Addr.add; split <;> simp_all
theorem below_grown {α:Type} {w w':World} {base B:Nat} {e:TypeId} {enc:α -> Value} {v:Value} {xs:List α} (hown:Q0m w base e enc v xs) (hg:w.grownBy w' v.ownBlock) (hb:B <= base) (hB:B <= w.heap.size):Below B w w' :=
 Below.grown (Below.refl _ _) hg hB (fun k hk=>Nat.le_trans hb (World.ownsRow.lt hown k hk).1)
theorem Q0m.made {α:Type} (w:World) (base:Nat) (e:TypeId) (enc:α -> Value) (hb:base <= w.heap.size):Q0m (w.alloc (.cells #[] e)) base e enc (.slice (some ⟨w.heap.size,0,none⟩) 0 0) ([]:List α) :=
 World.ownsRow_made w #[] 0 hb (by unfold maxLen; omega) rfl
def Src {α:Type} (w:World) (enc:α -> Value) (v:Value) (ys:List α):Prop:=∃ A c,v=.slice A ys.length c /\ ∀ j (h:j < ys.length),∃ b off,A=some ⟨b,off,none⟩ /\ w.cell? ⟨b,off + j,none⟩=some (enc ys[j])
theorem Q6s {P:Program} (w:World) (t ty e:TypeId) (i:TypeInfo) (ht:P.underlying t=some (.slice e)) (hi:P.info? e=some i) (b A:Option Addr) (s c c':Nat) (h:s <= c) :
    (Builtin.append_ #[t,t] ty #[.slice b s c,.slice A 0 c']).run P w=.ok (.slice b s c) w:=by
 cases A <;> cases b <;> simp [Builtin.append_,run_underlying ht,sizeOf,typeInfo,hi,Builtin.lenOf,Builtin.firstCells,loadCells,loadCellsFrom,storeCells,h]
theorem Q0m.shape {α:Type} {w:World} {base:Nat} {e:TypeId} {enc:α -> Value} {v:Value} {xs:List α} (h:Q0m w base e enc v xs):∃ b c,v=.slice b xs.length c /\ xs.length <= c:=by
 rcases h.2 with ⟨rfl,h0⟩ | ⟨g,cap,cur,rfl,_,_,hc,_⟩
 . exact ⟨none,0,by rw [h0],by omega⟩
 . exact ⟨_,cap,rfl,hc⟩
theorem Q1n {α:Type} {P:Program} {K:Value -> World -> Prop} {o:Oper} {a:Act} {w:World} (s x:Operand) (t:TypeId) (ho:o.op=.call { callee:=.builtin .append,args:=#[s,x],argTypes:=#[t,t] })
    (base:Nat) (e:TypeId) (i:TypeInfo) (z:Value) (bytes:Nat) (ht:P.underlying t=some (.slice e)) (hi:P.info? e=some i) (hz:i.zero=some z) (hsize:i.size=1) (hby:i.bytes=bytes) (hzs:z.cells.size=1)
    (enc:α -> Value) (v src:Value) (xs ys:List α) (hs:a.eval s=v) (hown:Q0m w base e enc v xs) (hx:a.eval x=src) (hsrc:Src w enc src ys) (h1:∀ y ∈ ys,(enc y).oneCell'=true)
    (h63:xs.length + ys.length <= 4398046511104) (hb:bytes <= 32) (hbase:base <= w.heap.size)
    (h:∀ v' w',Q0m w' base e enc v' (xs ++ ys) -> w.grownBy w' v.ownBlock -> K v' w'):gives P K ((execOp a.eval o).run P w):=by
 obtain ⟨A,c,rfl,hc⟩:=hsrc;cases ys with
 | nil =>
   obtain ⟨b,c',rfl,hcap⟩:=hown.shape;unfold execOp;simp only [ho,resolve,invoke,builtin,Sem.run_bind,Sem.run_pure,Result.andThen_ok,List.map_toArray,List.map_cons,List.map_nil,hs,hx];rw [List.length_nil,Q6s (P:=P) w t o.type e i ht hi b A xs.length c' c hcap];exact h _ _ (by simpa using hown) ⟨rfl,rfl,rfl,Nat.le_refl _,fun _ _ _=>rfl⟩
 | cons y ys =>
   obtain ⟨b0,off0,rfl,_⟩:=hc 0 (by simp)
   obtain ⟨v',w',hr,h2,h3,h4⟩:=run_append_own (P:=P) w base t o.type e i z 1 bytes ht hi hz hsize hby hzs (by decide) v xs.length (xs.map enc) hown ⟨b0,off0,none⟩ (y :: ys).length c ((y :: ys).map enc) (by simp) (fun j u hu=>by
    rw [List.getElem?_map] at hu
    rcases Nat.lt_or_ge j (y :: ys).length with hj | hj
    . rw [List.getElem?_eq_getElem hj] at hu
      simp only [Option.map_some,Option.some.injEq] at hu;obtain ⟨b',off',hA,hcell⟩:=hc j hj;cases hA;rw [<- hu,addr_add]; exact hcell
    . rw [List.getElem?_eq_none hj] at hu; cases hu) (fun u hu=>by obtain ⟨y,hy,rfl⟩:=List.mem_map.1 hu; exact h1 y hy) (by unfold maxLen; omega) (by
      have:(xs.length + (y :: ys).length) * bytes <= 4398046511104 * 32:=Nat.mul_le_mul h63 hb;omega) hbase
   unfold execOp;simp only [ho,resolve,invoke,builtin,Sem.run_bind,Sem.run_pure,Result.andThen_ok,List.map_toArray,List.map_cons,List.map_nil,hs,hx,hr];refine h v' w' ?_ h3;unfold Q0m
   simpa using h2
theorem Q5o {α:Type} {P:Program} {K:Value -> World -> Prop} {o:Oper} {a:Act} {w:World} (s x:Operand) (t:TypeId) (ho:o.op=.call { callee:=.builtin .append,args:=#[s,x],argTypes:=#[t,t] })
    (base:Nat) (e:TypeId) (i:TypeInfo) (z:Value) (bytes:Nat) (ht:P.underlying t=some (.slice e)) (hi:P.info? e=some i) (hz:i.zero=some z) (hsize:i.size=1) (hby:i.bytes=bytes) (hzs:z.cells.size=1)
    (enc:α -> Value) (v src:Value) (ys:List α) (hs:a.eval s=v) (hv:∃ g,v=.slice (some ⟨g,0,none⟩) 0 0 /\ base <= g /\ w.heap[g]?=some (.cells #[] e (0,0))) (hx:a.eval x=src) (hsrc:Src w enc src ys) (h1:∀ y ∈ ys,(enc y).oneCell'=true)
    (h63:ys.length <= 4398046511104) (hb:bytes <= 32) (hbase:base <= w.heap.size)
    (h:∀ v' w',Q0m w' base e enc v' ys -> Ext w w' -> K v' w'):gives P K ((execOp a.eval o).run P w):=by
 obtain ⟨g,rfl,hbg,hg⟩:=hv;have hown:Q0m w base e enc (.slice (some ⟨g,0,none⟩) 0 0) ([]:List α):=⟨by simp,.inr ⟨g,0,#[],rfl,hbg,hg,Nat.le_refl _,Nat.zero_le _,rfl,by simp⟩⟩
 obtain ⟨A,c,rfl,hc⟩:=hsrc;cases ys with
 | nil =>
   unfold execOp;simp only [ho,resolve,invoke,builtin,Sem.run_bind,Sem.run_pure,Result.andThen_ok,List.map_toArray,List.map_cons,List.map_nil,hs,hx];rw [List.length_nil,Q6s (P:=P) w t o.type e i ht hi _ A 0 0 c (Nat.le_refl _)];exact h _ _ hown (Ext.refl _)
 | cons y ys =>
   obtain ⟨b0,off0,rfl,_⟩:=hc 0 (by simp)
   have hnews:∀ j u,((y :: ys).map enc)[j]?=some u -> w.cell? ((⟨b0,off0,none⟩:Addr).add j)=some u:=fun j u hu=>by
    rw [List.getElem?_map] at hu
    rcases Nat.lt_or_ge j (y :: ys).length with hj | hj
    . rw [List.getElem?_eq_getElem hj] at hu
      simp only [Option.map_some,Option.some.injEq] at hu;obtain ⟨b',off',hA,hcell⟩:=hc j hj;cases hA;rw [<- hu,addr_add]; exact hcell
    . rw [List.getElem?_eq_none hj] at hu; cases hu
   have hbytes:(y :: ys).length * bytes <= 140737488355328:=by
    have:(y :: ys).length * bytes <= 4398046511104 * 32:=Nat.mul_le_mul h63 hb;omega
   obtain ⟨v',w',hr,h2,h3,h4⟩:=run_append_own (P:=P) w base t o.type e i z 1 bytes ht hi hz hsize hby hzs (by decide) _ 0 (([]:List α).map enc) hown ⟨b0,off0,none⟩ (y :: ys).length c ((y :: ys).map enc) (by simp) hnews (fun u hu=>by obtain ⟨y,hy,rfl⟩:=List.mem_map.1 hu; exact h1 y hy) (by unfold maxLen; omega) (by rw [Nat.zero_add]; exact hbytes) hbase
   have hgr:=run_append_grow (P:=P) w t o.type e i z ht hi hz ⟨g,0,none⟩ 0 0 [] (by simp) (by simp) ⟨b0,off0,none⟩ (y :: ys).length c ((y :: ys).map enc) (by rw [hsize]; simp) hnews (by simp) (by simp only [List.length_cons] at h63 ⊢; omega) (by rw [hby]; exact growslice_fits (by simp) (by rw [Nat.zero_add]; exact hbytes))
   rw [hr] at hgr;injection hgr with hv' hw';unfold execOp;simp only [ho,resolve,invoke,builtin,Sem.run_bind,Sem.run_pure,Result.andThen_ok,List.map_toArray,List.map_cons,List.map_nil,hs,hx,hr];refine h v' w' ?_ (by rw [hw']; exact ((Ext.refl w).drew).alloc _)
   unfold Q0m
   simpa using h2
theorem Z7k {a b:ByteArray} {l:List UInt8} (hl:b.toList=l) (h:¬ a=b):(a.toList == l)=false:=by
 rw [<- hl,<- Go.beq_toListBytes]; exact X2t h
theorem toList_eq {a b:ByteArray} {l:List UInt8} (hl:b.toList=l) (h:a=b):(a.toList == l)=true:=by
 rw [<- hl,<- Go.beq_toListBytes]; exact str_eq h
end Go.Tw
namespace Go.Proofs
open Go.RowKit Go.Tw Go.Flow
theorem Tryz.J0w:Lays.n166 Tryz.prog Tryz.lays156_ren :=
 have L:=Tryz.lays156
 { mixed:=L.mixed,f166:=L.f166,f240:=L.f240,f276:=L.f276,t0:=L.t0,a0:=L.a0,z0:=L.z0,v0:=L.v0,t3:=L.t3,a3:=L.a3,z3:=L.z3,v3:=L.v3,t4:=L.t4,a4:=L.a4,z4:=L.z4,v4:=L.v4,t9:=L.t9,a9:=L.a9,z9:=L.z9,v9:=L.v9,t20:=L.t20,a20:=L.a20,z20:=L.z20,v20:=L.v20,t37:=L.t37,a37:=L.a37,z37:=L.z37,v37:=L.v37,
   t70:=L.t70,a70:=L.a70,z70:=L.z70,v70:=L.v70,t72:=L.t72,a72:=L.a72,z72:=L.z72,v72:=L.v72,t75:=L.t75,a75:=L.a75,z75:=L.z75,v75:=L.v75,t164:=L.t164,a164:=L.a164,z164:=L.z164,v164:=L.v164 }
def Bld (w:World) (b:Nat) (l:List UInt8):Prop:=Lib.IsBuilder 214 5 b b (Lib.byteCells l) w
theorem Bld.fresh (w:World):Bld (w.alloc (.cells #[.pointer none,.slice none 0 0] 214)) w.heap.size []:=Lib.fresh_isBuilder _ _ w
theorem Bld.ext {w w':World} {b:Nat} {l:List UInt8} (h:Bld w b l) (hx:Ext w w'):Bld w' b l:=by
 have key:∀ p,Lib.BuilderAt 214 5 b b p (Lib.byteCells l) w -> Lib.BuilderAt 214 5 b b p (Lib.byteCells l) w':=by
  rintro p ⟨hB,v,hb,⟨h1,h2⟩,hne⟩;refine ⟨hB,v,by rw [Below.block hx b (Array.getElem?_eq_some_iff.1 hb).1]; exact hb,⟨h1,?_⟩,hne⟩
  rcases h2 with h2 | ⟨g,cap,cur,hv,hbg,hg,r⟩
  . exact .inl h2
  . exact .inr ⟨g,cap,cur,hv,hbg,by rw [Below.block hx g (Array.getElem?_eq_some_iff.1 hg).1]; exact hg,r⟩
 rcases h with h | h
 . exact .inl (key _ h)
 . exact .inr (key _ h)
theorem Bld.lt {w:World} {b:Nat} {l:List UInt8} (h:Bld w b l):b < w.heap.size:=by
 rcases h with h | h <;> exact h.lt
theorem write_any (w:World) (b:Nat) (l:List UInt8) (s:ByteArray) (h:Bld w b l) (hl:l.length + s.size <= 140737488355328) :
    Calls Tryz.prog 148 #[.pointer (some ⟨b,0,none⟩),.string s] w fun e w'=>e=.returned (.tuple #[.int .i64 s.size,.nilIface]) /\ Bld w' b (l ++ s.data.toList) /\ Below b w w':=by
 have hlt:=h.lt;refine (Any.Builder_WriteString Tryz.J0w Tryz.Builder_Extra_156 b b (Lib.byteCells l) s w h (by simpa [Lib.byteCells] using hl) (by omega)).mono ?_
 rintro e w' ⟨rfl,h1,h2⟩;refine ⟨rfl,.inr ?_,h2⟩;have e:Lib.byteCells (l ++ s.data.toList)=Lib.byteCells l ++ Lib.strCells s:=by simp [Lib.byteCells,Lib.strCells]
 rw [e]; exact h1
theorem Y9x (w:World) (b:Nat) (l:List UInt8) (h:Bld w b l) :
    Calls Tryz.prog 150 #[.pointer (some ⟨b,0,none⟩)] w fun e w'=>e=.returned (.string ⟨l.toArray⟩) /\ Below b w w' :=
 Tryz.Builder_String_any b b l w h (by have:=h.lt; omega)
end Go.Proofs
namespace Go.Proofs
open Go.RowKit Go.Tw
theorem Tryz.info3:(Tryz.prog.info? 3).map (fun i=>(i.zero,i.size,i.bytes))=some (some (.int .i64 0),1,8):=by kernel_rfl
theorem Z8f (w:World) (v:Value) (l:List Int) (hv:Q0e w v l) :
    Calls Tryz.prog 22 #[v] w fun e w'=>e=.returned (.int .i64 (Q0l l)) /\ w=w':=by
 obtain ⟨A,cap,rfl,hl,hcap,hc⟩:=hv.opened;clear hv;go_enter Tryz.func22,Tryz.ntmps22;go_wp2
 go_loop [3] (fun i=>∃ k:Nat,k <= l.length /\ i=.int .i64 k /\ Q0l (l.drop k)=Q0l l) (fun i=>l.length - (intOf i).toNat)
 case atStart=>exact ⟨0,Nat.zero_le _,rfl,rfl⟩
 case round =>
  obtain ⟨k,hk,rfl,hr⟩:=hrel;have HR:=Lib.hid hr; clear hr
  by_cases hlt:k < l.length
  . obtain ⟨b,off,rfl,hcell⟩:=hc k hlt
    clear hc
    by_cases hx:ix l k=0
    . have HX:=Lib.hid hx
      have hx1:(ix l k != 0)=false:=by simp [hx]
      clear hx;go_wp2;go_round
      case rel=>exact ⟨k + 1,by omega,by go_num,by rw [<- HR.out,Q3d hlt,Q0l,if_pos HX.out]⟩
      case measure=>simp [intOf]; omega
    . have hx1:(ix l k != 0)=true:=by simp [hx]
      have HX:=Lib.hid hx; clear hx;go_wp2;go_ret;exact ⟨Q1b (by rw [<- HR.out,Q3d hlt,Q0l,if_neg HX.out]),rfl⟩
  . clear hc
    go_wp2;go_ret;exact ⟨Q1b (by rw [<- HR.out,List.drop_eq_nil_of_le (by omega)]; rfl),rfl⟩
theorem Q2n (w:World) (x a b:Int) :
    Calls Tryz.prog 87 #[.int .i64 x,.int .i64 a,.int .i64 b] w fun e w'=>e=.returned (.int .i64 (Q0h x a b)) /\ w=w':=by
 unfold Q0h
 by_cases h1:x < a
 . rw [if_pos (.inl h1)]
   go_enter Tryz.func87,Tryz.ntmps87;go_wp2;go_ret;exact ⟨rfl,rfl⟩
 . by_cases h2:b < x
   . rw [if_pos (.inr h2)]
     go_enter Tryz.func87,Tryz.ntmps87;go_wp2;go_ret;exact ⟨rfl,rfl⟩
   . rw [if_neg (by omega)]
     go_enter Tryz.func87,Tryz.ntmps87;go_wp2;go_ret;exact ⟨rfl,rfl⟩
end Go.Proofs
namespace Go.Proofs
open Go.RowKit Go.Tw
def Q0v (b:Bool) (e:Int):Int:=if b then e else 0
theorem Q3y (w:World) (b:Bool) (x:Int) :
    Calls Tryz.prog 119 #[.bool b,.int .i64 x] w fun e w'=>e=.returned (.int .i64 (Q0v b x)) /\ w=w':=by
 cases b <;>
 . go_enter Tryz.func119,Tryz.ntmps119
   go_wp2;go_ret;exact ⟨rfl,rfl⟩
theorem first_any (w:World) (v:Value) (l:List Int) (hv:Q0e w v l) :
    Calls Tryz.prog 96 #[v] w fun e w'=>e=.returned (.int .i64 (Q0l l)) /\ w=w':=by
 obtain ⟨A,cap,rfl,hl,hcap,hc⟩:=hv.opened;clear hv;go_enter Tryz.func96,Tryz.ntmps96;go_wp2
 go_loop [7] (fun i=>∃ k:Nat,k <= l.length /\ i=.int .i64 k /\ Q0l (l.drop k)=Q0l l) (fun i=>l.length - (intOf i).toNat)
 case atStart=>exact ⟨0,Nat.zero_le _,rfl,rfl⟩
 case round =>
  obtain ⟨k,hk,rfl,hr⟩:=hrel;have HR:=Lib.hid hr; clear hr
  by_cases hlt:k < l.length
  . obtain ⟨b,off,rfl,hcell⟩:=hc k hlt
    clear hc
    by_cases hx:ix l k=0
    . have HX:=Lib.hid hx
      have hx1:(ix l k != 0)=false:=by simp [hx]
      clear hx;go_wp2;go_round
      case rel=>exact ⟨k + 1,by omega,by go_num,by rw [<- HR.out,Q3d hlt,Q0l,if_pos HX.out]⟩
      case measure=>simp [intOf]; omega
    . have hx1:(ix l k != 0)=true:=by simp [hx]
      have HX:=Lib.hid hx; clear hx;go_wp2;go_ret;exact ⟨Q1b (by rw [<- HR.out,Q3d hlt,Q0l,if_neg HX.out]),rfl⟩
  . clear hc
    go_wp2;go_ret;exact ⟨Q1b (by rw [<- HR.out,List.drop_eq_nil_of_le (by omega)]; rfl),rfl⟩
theorem Q7v (w:World) (x a b:Int) :
    Calls Tryz.prog 125 #[.int .i64 x,.int .i64 a,.int .i64 b] w fun e w'=>e=.returned (.int .i64 (Q0h x a b)) /\ w=w':=by
 unfold Q0h
 by_cases h1:x < a
 . rw [if_pos (.inl h1)]
   go_enter Tryz.func125,Tryz.ntmps125;go_wp2;go_ret;exact ⟨rfl,rfl⟩
 . by_cases h2:b < x
   . rw [if_pos (.inr h2)]
     go_enter Tryz.func125,Tryz.ntmps125;go_wp2;go_ret;exact ⟨rfl,rfl⟩
   . rw [if_neg (by omega)]
     go_enter Tryz.func125,Tryz.ntmps125;go_wp2;go_ret;exact ⟨rfl,rfl⟩
theorem X0a (w:World) (x:Int) :
    Calls Tryz.prog 118 #[.int .i64 x] w fun e w'=>e=.returned (.int .i64 (Q0h x 0 1024)) /\ w=w':=by
 go_enter Tryz.func118,Tryz.ntmps118;go_wp2_with (go_at_call 125; refine (Q7v _ x 0 1024).mono ?_; rintro e w' ⟨rfl,rfl⟩);go_ret;exact ⟨rfl,rfl⟩
theorem Y1a (w:World) (x:Int) :
    Calls Tryz.prog 121 #[.int .i64 x] w fun e w'=>e=.returned (.int .i64 (Q0h x 0 1000)) /\ w=w':=by
 go_enter Tryz.func121,Tryz.ntmps121;go_wp2_with (go_at_call 125; refine (Q7v _ x 0 1000).mono ?_; rintro e w' ⟨rfl,rfl⟩);go_ret;exact ⟨rfl,rfl⟩
theorem Y1j (w:World) (x:Int) :
    Calls Tryz.prog 126 #[.int .i64 x] w fun e w'=>e=.returned (.int .i64 (Q0h x 0 9)) /\ w=w':=by
 go_enter Tryz.func126,Tryz.ntmps126;go_wp2_with (go_at_call 125; refine (Q7v _ x 0 9).mono ?_; rintro e w' ⟨rfl,rfl⟩);go_ret;exact ⟨rfl,rfl⟩
theorem X3o (w:World) (x:Int) :
    Calls Tryz.prog 97 #[.int .i64 x] w fun e w'=>e=.returned (.int .i64 (Q0h x 0 8000)) /\ w=w':=by
 go_enter Tryz.func97,Tryz.ntmps97;go_wp2_with (go_at_call 125; refine (Q7v _ x 0 8000).mono ?_; rintro e w' ⟨rfl,rfl⟩);go_ret;exact ⟨rfl,rfl⟩
end Go.Proofs
