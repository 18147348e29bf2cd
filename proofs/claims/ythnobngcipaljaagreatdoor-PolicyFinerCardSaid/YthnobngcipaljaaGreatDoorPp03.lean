/- The region theorem in the form in which it is used: the operations, their forerunners and what each gives stand in lists. Small aids for the uses of the region theorem and for boxes. Contracts of small functions of the program: when, first, within, checkHeight, checkDelay, checkClass, checkNeed. Contract of isName: a name by its bytes. -/
import Derived.Test.YthnobngcipaljaaGreatDoorPp02
import Derived.Test.YthnobngcipaljaaGreatDoorPp01
import Derived.Deep.Draws
import Derived.Laws.StructEq
set_option maxRecDepth 1000000
set_option maxHeartbeats 64000000
set_option linter.unusedVariables false
set_option linter.unusedSimpArgs false
set_option linter.constructorNameAsVariable false
open Go.Lib (hid)
namespace Go.Flow
open Go.RowKit Go.Tw
structure Spec where
 D:(Nat -> Value) -> World -> Prop
 mono:∀ v w w',Ext w w' -> D v w -> D v w'
def Spec.is (j:Nat) (e:(Nat -> Value) -> Value):Spec:=⟨fun v _=>v j=e v,fun _ _ _ _ h=>h⟩
def Spec.c (j:Nat) (x:Value):Spec:=Spec.is j fun _=>x
def Spec.none:Spec:=⟨fun _ _=>True,fun _ _ _ _ _=>trivial⟩
def lookup {α:Type}:List α -> α -> Nat -> α
 | [],d,_=>d
 | x :: _,_,0=>x
 | _ :: l,d,n + 1=>lookup l d n
def Facts (pre:Nat -> List Nat) (D:Nat -> (Nat -> Value) -> World -> Prop) (v:Nat -> Value) (w:World):List Nat -> Prop -> Prop
 | [],G=>G
 | k :: l,G=>D k (mask pre k v) w -> Facts pre D v w l G
theorem Facts.out {pre:Nat -> List Nat} {D:Nat -> (Nat -> Value) -> World -> Prop} {v:Nat -> Value} {w:World} {G:Prop}:∀ {l:List Nat},Facts pre D v w l G -> (∀ k ∈ l,D k (mask pre k v) w) -> G
 | [],h,_=>h
 | k :: l,h,hf=>Facts.out (h (hf k (by simp))) (fun i hi=>hf i (by simp [hi]))
def Due (P:Program) (pre:Nat -> List Nat) (D:Nat -> (Nat -> Value) -> World -> Prop) (E:(Nat -> Value) -> World -> World -> Prop) (k:Kind) (o:Oper) (j:Nat) (b:Act) (v:Nat -> Value) (w1 w:World):Prop :=
 match k with
 | .plain=>∃ u,(∀ w,(execOp b.eval o).run P w=.ok (.value u) w) /\ D j (mask pre j (upd v j u)) w1
 | .world=>∀ K:Value -> World -> Prop,(∀ u w',Ext w1 w' -> D j (mask pre j (upd v j u)) w' -> K u w') -> gives P K ((execOp b.eval o).run P w1)
 | .last=>∀ K:Value -> World -> Prop,(∀ u w',E (mask pre j (upd v j u)) w1 w' -> K u w') -> gives P K ((execOp b.eval o).run P w)
def Pass (pre:Nat -> List Nat) (D:Nat -> (Nat -> Value) -> World -> Prop) (E:(Nat -> Value) -> World -> World -> Prop) (k:Kind) (j:Nat) (v:Nat -> Value) (w1 w:World):Prop :=
 match k with
 | .last=>E (mask pre j (upd v j undef)) w1 w
 | _=>D j (mask pre j (upd v j undef)) w1
def Guarded (ops:Array Oper) (o:Oper) (b:Act) (T F:Prop):Prop :=
 match o.guard with
 | none=>T
 | some _=>(Region.wanted o (yielded ops b.tmps)=true /\ T) ∨ (Region.wanted o (yielded ops b.tmps)=false /\ F)
theorem Z9x {P:Program} {ops:Array Oper} {pre:Nat -> List Nat} {D:Nat -> (Nat -> Value) -> World -> Prop} {T E:(Nat -> Value) -> World -> World -> Prop} {k:Kind} {o:Oper} {j:Nat} {b:Act} {v:Nat -> Value} {w1:World}
    (hk:k ≠ .last) (h:Guarded ops o b (Due P pre D E k o j b v w1 w1) (Pass pre D E k j v w1 w1)):vc P ops pre Ext D T E k o j b v w1:=by
 have h':(Region.wanted o (yielded ops b.tmps)=true /\ Due P pre D E k o j b v w1 w1) ∨ (Region.wanted o (yielded ops b.tmps)=false /\ Pass pre D E k j v w1 w1):=by
  unfold Guarded at h;cases hg:o.guard with
  | none=>rw [hg] at h; exact .inl ⟨by simp [Region.wanted,hg],h⟩
  | some g=>rw [hg] at h; exact h
 cases k with
 | plain=>exact h'.imp (fun ⟨a,u,b,c⟩=>⟨a,u,b,c⟩) id
 | world=>exact h'.imp (fun ⟨a,b⟩=>⟨a,b _ fun u w' h1 h2=>⟨h1,h2⟩⟩) id
 | last=>exact absurd rfl hk
theorem Z8s {P:Program} {ops:Array Oper} {pre:Nat -> List Nat} {D:Nat -> (Nat -> Value) -> World -> Prop} {T E:(Nat -> Value) -> World -> World -> Prop} {o:Oper} {j:Nat} {b:Act} {v:Nat -> Value} {w1:World}
    (h:∀ w,T v w1 w -> Guarded ops o b (Due P pre D E .last o j b v w1 w) (Pass pre D E .last j v w1 w)):vc P ops pre Ext D T E .last o j b v w1:=by
 intro w hT;have h:=h w hT;have h':(Region.wanted o (yielded ops b.tmps)=true /\ Due P pre D E .last o j b v w1 w) ∨ (Region.wanted o (yielded ops b.tmps)=false /\ Pass pre D E .last j v w1 w):=by
  unfold Guarded at h;cases hg:o.guard with
  | none=>rw [hg] at h; exact .inl ⟨by simp [Region.wanted,hg],h⟩
  | some g=>rw [hg] at h; exact h
 exact h'.imp (fun ⟨a,b⟩=>⟨a,b _ fun u w' h1=>h1⟩) id
def X3t (P:Program) (ops:Array Oper) (pre:Nat -> List Nat) (tail:List Nat) (w0:World) (D:Nat -> (Nat -> Value) -> World -> Prop):List ((Nat -> Value) -> World -> World -> Prop) -> ((Nat -> Value) -> World -> World -> Prop) -> List Oper -> List Kind -> List Nat -> ((Nat -> Value) -> Act) -> Prop
 | El,T,o :: l,k :: kl,j :: jl,b =>
   match k,El with
   | .last,E :: El=>(∀ v w1,Ext w0 w1 -> Facts pre D v w1 ((pre j).filter fun i=>!tail.contains i) (∀ w,T v w1 w -> ∀ bb,bb=b v -> Guarded ops o bb (Due P pre D E .last o j bb v w1 w) (Pass pre D E .last j v w1 w))) /\
      X3t P ops pre tail w0 D El (fun v w1 w=>E (mask pre j v) w1 w) l kl jl (fun v=>(b v).put o.dst (v j))
   | .last,[]=>False
   | k,El=>(∀ v w1,Ext w0 w1 -> Facts pre D v w1 (pre j) (Guarded ops o (b v) (Due P pre D (fun _ _ _=>False) k o j (b v) v w1 w1) (Pass pre D (fun _ _ _=>False) k j v w1 w1))) /\ X3t P ops pre tail w0 D El T l kl jl (fun v=>(b v).put o.dst (v j))
 | _,_,_,_,_,_=>True
def X4q:Kind -> Bool | .world=>true | _=>false
def isLast:Kind -> Bool | .last=>true | _=>false
def okL (ops:List Oper) (pl:List (List Nat)) (kl:List Kind) (tail:List Nat) (n:Nat):Bool :=
 okB ops.toArray (lookup pl []) && kl.length == ops.length && (tail == (List.range ops.length).filter fun j=>isLast (lookup kl .plain j)) && (n == tail.length) &&
 ((List.range tail.length).all fun k=>(List.range k).all fun i=>(lookup pl [] (tail.getD k 0)).contains (tail.getD i 0)) &&
 ((List.range ops.length).all fun j=>isLast (lookup kl .plain j) || ((lookup pl [] j).all fun k=>!tail.contains k)) &&
 ((List.range ops.length).all fun j=>!X4q (lookup kl .plain j) || (tail.all fun s=>(lookup pl [] s).contains j))
theorem Q3z (v:Nat -> Value):∀ (l:List Oper) (i j:Nat) (a:Act),act (fun k=>decide (k < i + j)) v l i a=act (fun _=>true) v (l.take j) i a
 | [],i,j,a=>by simp [act]
 | o :: l,i,0,a=>by
   simp only [Nat.add_zero,List.take_zero,act];rw [if_neg (by simp)]
   have:∀ (l:List Oper) (k:Nat) (a:Act),i <= k -> act (fun k=>decide (k < i)) v l k a=a:=by
    intro l
    induction l with
    | nil=>intro k a _; rfl
    | cons o l ih=>intro k a hk; rw [act,if_neg (by simp; omega)]; exact ih (k + 1) a (by omega)
   exact this l (i + 1) a (by omega)
 | o :: l,i,j + 1,a=>by
   rw [List.take_succ_cons,act,act,if_pos (by simp),if_pos rfl]
   have:=Q3z v l (i + 1) j (a.put o.dst (v i))
   rwa [show i + 1 + j=i + (j + 1) from by omega] at this
theorem Y6s {P:Program} {ops:Array Oper} {pre:Nat -> List Nat} {tail:List Nat} {w0:World} {D:Nat -> (Nat -> Value) -> World -> Prop} :
    ∀ (l:List Oper) (kl:List Kind) (El:List ((Nat -> Value) -> World -> World -> Prop)) (T:(Nat -> Value) -> World -> World -> Prop) (i:Nat) (b:(Nat -> Value) -> Act),kl.length=l.length ->
     X3t P ops pre tail w0 D El T l kl (List.range' i l.length) b -> ∀ j o,l[j]?=some o -> lookup kl .plain j ≠ .last -> ∀ v w1,Ext w0 w1 ->
     (∀ n ∈ pre (i + j),D n (mask pre n v) w1) -> vc P ops pre Ext D (fun _ _ _=>False) (fun _ _ _=>False) (lookup kl .plain j) o (i + j) (act (fun _=>true) v (l.take j) i (b v)) v w1
 | [],_,_,_,_,_,_,_,j,_,h,_,_,_,_,_=>by simp at h
 | o :: l,[],_,_,_,_,hk,_,_,_,_,_,_,_,_,_=>by simp at hk
 | o :: l,k :: kl,El,T,i,b,hk,h,j,o',hj,hne,v,w1,hx,hf=>by
   rw [List.length_cons,List.range'_succ] at h;cases j with
   | zero =>
     simp only [List.getElem?_cons_zero,Option.some.injEq] at hj;subst hj;simp only [lookup] at hne ⊢;cases k with
     | last=>exact absurd rfl hne
     | plain=>simp only [X3t] at h; simpa [act] using Z9x hne ((h.1 v w1 hx).out (by simpa using hf))
     | world=>simp only [X3t] at h; simpa [act] using Z9x hne ((h.1 v w1 hx).out (by simpa using hf))
   | succ j =>
     have hrest:∃ El T,X3t P ops pre tail w0 D El T l kl (List.range' (i + 1) l.length) (fun v=>(b v).put o.dst (v i)):=by
      cases k with
      | last=>cases El with
        | nil=>simp only [X3t] at h
        | cons E El=>simp only [X3t] at h; exact ⟨_,_,h.2⟩
      | plain=>simp only [X3t] at h; exact ⟨_,_,h.2⟩
      | world=>simp only [X3t] at h; exact ⟨_,_,h.2⟩
     obtain ⟨El',T',h'⟩:=hrest;have:=Y6s l kl El' T' (i + 1) _ (by simpa using hk) h' j o' (by simpa using hj) (by simpa [lookup] using hne) v w1 hx (by rwa [show i + 1 + j=i + (j + 1) from by omega])
     rw [show i + 1 + j=i + (j + 1) from by omega] at this
     simpa [act,lookup] using this
def lasts:List Kind -> Nat -> List Nat
 | [],_=>[]
 | .last :: l,i=>i :: lasts l (i + 1)
 | _ :: l,i=>lasts l (i + 1)
theorem X3u:∀ (kl:List Kind) (i:Nat),lasts kl i=(List.range' i kl.length).filter fun j=>isLast (lookup kl .plain (j - i))
 | [],_=>rfl
 | k :: l,i=>by
   rw [List.length_cons,List.range'_succ,List.filter_cons,Nat.sub_self];have e:((List.range' (i + 1) l.length).filter fun j=>isLast (lookup (k :: l) .plain (j - i)))=(List.range' (i + 1) l.length).filter fun j=>isLast (lookup l .plain (j - (i + 1))):=by
    refine List.filter_congr fun j hj=>?_;have hj':=(List.mem_range'_1.1 hj).1;rw [show j - i=(j - (i + 1)) + 1 from by omega]; rfl
   rw [e,<- X3u l (i + 1)];cases k <;> simp [lasts,lookup,isLast]
theorem Q8e {P:Program} {ops:Array Oper} {pre:Nat -> List Nat} {tail:List Nat} {w0:World} {D:Nat -> (Nat -> Value) -> World -> Prop} (E:Nat -> (Nat -> Value) -> World -> World -> Prop) :
    ∀ (l:List Oper) (kl:List Kind) (El:List ((Nat -> Value) -> World -> World -> Prop)) (i:Nat) (b:(Nat -> Value) -> Act) (c0:Nat),kl.length=l.length -> tail.drop c0=lasts kl i -> (∀ n,n < (lasts kl i).length -> El[n]?=some (E (c0 + n))) ->
     X3t P ops pre tail w0 D El (Tail pre tail E c0) l kl (List.range' i l.length) b -> ∀ n,n < (lasts kl i).length -> ∀ j o,tail[c0 + n]?=some (i + j) -> l[j]?=some o -> ∀ v w1,Ext w0 w1 ->
     (∀ m ∈ pre (i + j),m ∉ tail -> D m (mask pre m v) w1) -> vc P ops pre Ext D (Tail pre tail E (c0 + n)) (E (c0 + n)) .last o (i + j) (act (fun _=>true) v (l.take j) i (b v)) v w1
 | [],[],_,_,_,_,_,_,_,_,n,h,_,_,_,_,_,_,_,_=>by simp [lasts] at h
 | [],_ :: _,_,_,_,_,hk,_,_,_,_,_,_,_,_,_,_,_,_,_=>by simp at hk
 | o :: l,[],_,_,_,_,hk,_,_,_,_,_,_,_,_,_,_,_,_,_=>by simp at hk
 | o :: l,k :: kl,El,i,b,c0,hk,htl,hE,h,n,hn,j,o',ht,hj,v,w1,hx,hf=>by
   rw [List.length_cons,List.range'_succ] at h;have hlow:∀ (kl:List Kind) (i:Nat),∀ x ∈ lasts kl i,i <= x:=by
    intro kl
    induction kl with
    | nil=>intro i x hx; simp [lasts] at hx
    | cons k kl ih => intro i x hx; cases k <;> simp only [lasts, List.mem_cons] at hx
                      . have:=ih _ _ hx; omega
                      . have:=ih _ _ hx; omega
                      . rcases hx with rfl | hx
                        . exact Nat.le_refl _
                        . have:=ih _ _ hx; omega
   have ht':(lasts (k :: kl) i)[n]?=some (i + j):=by rw [<- htl,List.getElem?_drop]; exact ht
   have hsk:k ≠ .last -> ∃ j',j=j' + 1 /\ (lasts kl (i + 1))[n]?=some (i + 1 + j'):=by
    intro hne;have e:lasts (k :: kl) i=lasts kl (i + 1):=by cases k <;> first | rfl | exact absurd rfl hne
    rw [e] at ht';have:=hlow kl (i + 1) _ (List.mem_of_getElem? ht');exact ⟨j - 1,by omega,by rw [ht']; congr 1; omega⟩
   cases k with
   | plain =>
     obtain ⟨j',rfl,ht2⟩:=hsk (by simp)
     simp only [X3t] at h;have:=Q8e E l kl El (i + 1) _ c0 (by simpa using hk) (by simpa [lasts] using htl) (by simpa [lasts] using hE) h.2 n (by simpa [lasts] using hn) j' o' (by rw [ht]; congr 1; omega) (by simpa using hj) v w1 hx (by rwa [show i + 1 + j'=i + (j' + 1) from by omega])
     rw [show i + 1 + j'=i + (j' + 1) from by omega] at this
     simpa [act] using this
   | world =>
     obtain ⟨j',rfl,ht2⟩:=hsk (by simp)
     simp only [X3t] at h;have:=Q8e E l kl El (i + 1) _ c0 (by simpa using hk) (by simpa [lasts] using htl) (by simpa [lasts] using hE) h.2 n (by simpa [lasts] using hn) j' o' (by rw [ht]; congr 1; omega) (by simpa using hj) v w1 hx (by rwa [show i + 1 + j'=i + (j' + 1) from by omega])
     rw [show i + 1 + j'=i + (j' + 1) from by omega] at this
     simpa [act] using this
   | last =>
     cases El with
     | nil=>simp only [X3t] at h
     | cons E0 El =>
       have e0:E0=E c0:=by have:=hE 0 (by simp [lasts]); simpa using this
       subst e0;simp only [X3t] at h;have htc:tail.getD c0 0=i:=by
        have:(tail.drop c0)[0]?=some i:=by rw [htl]; rfl
        rw [List.getElem?_drop] at this
        simpa using congrArg (fun x=>x.getD 0) this
       cases n with
       | zero =>
         have hj0:j=0:=by
          have:(lasts (.last :: kl) i)[0]?=some i:=rfl;rw [this] at ht'; simp at ht'; omega
         subst hj0;simp only [List.getElem?_cons_zero,Option.some.injEq] at hj;subst hj;have:=Z8s (h:=fun w hT=>(h.1 v w1 hx).out (fun m hm=>by
          simp only [List.mem_filter,Bool.not_eq_true',List.contains_eq_mem,decide_eq_false_iff_not] at hm;exact hf m (by simpa using hm.1) hm.2) w hT _ rfl)
         simpa [act] using this
       | succ n =>
         have hmem:(lasts kl (i + 1))[n]?=some (i + j):=by simpa [lasts] using ht'
         have hge:=hlow kl (i + 1) _ (List.mem_of_getElem? hmem);obtain ⟨j',rfl⟩:∃ j',j=j' + 1:=⟨j - 1,by omega⟩
         have hT:(fun v w1 w=>E c0 (mask pre i v) w1 w)=Tail pre tail E (c0 + 1):=by
          funext v w1 w
          show _=E c0 (mask pre (tail.getD c0 0) v) w1 w;rw [htc]
         have h2:=h.2;rw [hT] at h2;have:=Q8e E l kl El (i + 1) _ (c0 + 1) (by simpa using hk) (by
             have e:tail.drop (c0 + 1)=(tail.drop c0).drop 1:=by rw [List.drop_drop]
             rw [e,htl]; rfl) (fun m hm=>by
             have:=hE (m + 1) (by simpa [lasts] using hm)
             rw [show c0 + 1 + m=c0 + (m + 1) from by omega]
             simpa using this) h2 n (by simpa [lasts] using hn) j' o' (by rw [show c0 + 1 + n=c0 + (n + 1) from by omega,ht]; congr 1; omega) (by simpa using hj) v w1 hx (by rwa [show i + 1 + j'=i + (j' + 1) from by omega])
         rw [show i + 1 + j'=i + (j' + 1) from by omega,show c0 + 1 + n=c0 + (n + 1) from by omega] at this
         simpa [act] using this
def acts (v:Nat -> Value):List Oper -> List Nat -> Act -> Act
 | o :: l,j :: jl,a=>acts v l jl (a.put o.dst (v j))
 | _,_,a=>a
theorem X9k (v:Nat -> Value):∀ (l:List Oper) (i:Nat) (a:Act),acts v l (List.range' i l.length) a=act (fun _=>true) v l i a
 | [],_,_=>rfl
 | o :: l,i,a=>by rw [List.length_cons,List.range'_succ,acts,act,X9k v l]; rfl
def All (pre:Nat -> List Nat) (D:Nat -> (Nat -> Value) -> World -> Prop) (v:Nat -> Value) (w:World) (tail:List Nat):List Nat -> Prop -> Prop
 | [],G=>G
 | j :: l,G=>if tail.contains j=true then All pre D v w tail l G else D j (mask pre j v) w -> All pre D v w tail l G
theorem All.out {pre:Nat -> List Nat} {D:Nat -> (Nat -> Value) -> World -> Prop} {v:Nat -> Value} {w:World} {tail:List Nat} {G:Prop}:∀ {l:List Nat},All pre D v w tail l G -> (∀ k ∈ l,k ∉ tail -> D k (mask pre k v) w) -> G
 | [],h,_=>h
 | j :: l,h,hf=>by
   unfold All at h
   split at h
   . exact All.out h (fun k hk=>hf k (by simp [hk]))
   . rename_i hj
     exact All.out (h (hf j (by simp) (by simpa using hj))) (fun k hk=>hf k (by simp [hk]))
def endOf (pre:Nat -> List Nat) (v:Nat -> Value) (w1 w:World):List Nat -> List ((Nat -> Value) -> World -> World -> Prop) -> Prop
 | [j],[E]=>E (mask pre j v) w1 w
 | _ :: jl,_ :: El=>endOf pre v w1 w jl El
 | _,_=>w=w1
section
variable {P:Program} {id:Nat} {Q:Exit -> Act -> World -> Prop} {a0:Act} {w:World} {ops:List Oper}
theorem Z8a (news:List Nat) (kl:List Kind) (jl:List Nat) (pl:List (List Nat)) (tail:List Nat) (Dl:List Spec) (El:List ((Nat -> Value) -> World -> World -> Prop))
    (hm:P.follows .mixedOrders=true) (hjl:jl=List.range' 0 ops.length) (hok:okL ops pl kl tail El.length=true)
    (hvc:X3t P ops.toArray (lookup pl []) tail w.drew (fun k=>(lookup Dl .none k).D) El (fun _ w1 w=>w=w1) ops kl jl (fun _=>a0))
    (hnews:news.all (fun j=>decide (j < ops.length) && X4q (lookup kl .plain j))=true) (hmade:∀ j ∈ news,∀ o,ops[j]?=some o -> Made P o)
    (hpost:∀ v w1,Ext w.drew w1 -> J1b news v -> All (lookup pl []) (fun k=>(lookup Dl .none k).D) v w1 tail jl (∀ w',endOf (lookup pl []) v w1 w' tail El -> Q .normal (acts v ops jl a0) w')) :
    (Code.region id ops.toArray true).wp P Q a0 w:=by
 subst hjl;simp only [X9k] at hpost;simp only [okL,Bool.and_eq_true,List.all_eq_true,List.mem_range,beq_iff_eq,Bool.or_eq_true,Bool.not_eq_true',List.contains_eq_mem,decide_eq_true_eq,decide_eq_false_iff_not] at hok;obtain ⟨⟨⟨⟨⟨⟨hok,hlen⟩,htail⟩,hn⟩,hchain⟩,hlate⟩,hearly⟩:=hok;have hmem:∀ j,j ∈ tail ↔ j < ops.length /\ isLast (lookup kl .plain j)=true:=by intro j; rw [htail,List.mem_filter,List.mem_range]
 have hk:∀ j,isLast (lookup kl .plain j)=true ↔ lookup kl .plain j=.last:=by intro j; cases lookup kl .plain j <;> simp [isLast]
 have hlk:lasts kl 0=tail:=by
  rw [X3u,htail,hlen,List.range_eq_range'];rfl
 have hEl:∀ n,n < (lasts kl 0).length -> El[n]?=some ((fun c=>(El[c]?).getD fun _ _ _=>True) (0 + n)):=by
  intro n hn';rw [hlk,<- hn] at hn';simp [hn']
 have hend:∀ v w1 w',Tail (lookup pl []) tail (fun c=>(El[c]?).getD fun _ _ _=>True) tail.length v w1 w' -> endOf (lookup pl []) v w1 w' tail El:=by
  intro v w1 w' h;have gen:∀ (tl:List Nat) (el:List ((Nat -> Value) -> World -> World -> Prop)),el.length=tl.length -> (tl=[] -> w'=w1) -> (∀ (hne:tl ≠ []),((el[tl.length - 1]?).getD fun _ _ _=>True) (mask (lookup pl []) (tl.getD (tl.length - 1) 0) v) w1 w') -> endOf (lookup pl []) v w1 w' tl el:=by
   intro tl
   induction tl with
   | nil=>intro el _ h0 _; cases el <;> exact h0 rfl
   | cons j tl ih =>
     intro el hl _ h1;cases el with
     | nil=>simp at hl
     | cons E el =>
       cases tl with
       | nil=>cases el with
         | nil=>simpa [endOf] using h1 (by simp)
         | cons _ _=>simp at hl
       | cons j' tl=>cases el with
         | nil=>simp at hl
         | cons E' el =>
           show endOf _ v w1 w' (j' :: tl) (E' :: el);exact ih _ (by simpa using hl) (fun h=>by simp at h) (fun _=>by simpa using h1 (by simp))
  refine gen tail El hn.symm.symm (fun h0=>?_) (fun hne=>?_)
  . rw [h0] at h; exact h
  . obtain ⟨m,hm⟩:∃ m,tail.length=m + 1:=⟨tail.length - 1,by have:=List.length_pos_iff.2 hne; omega⟩
    rw [hm] at h;rw [hm,Nat.add_sub_cancel];exact h
 refine X6k news tail (lookup kl .plain) (Rel:=Ext) (D:=fun k=>(lookup Dl .none k).D) (E:=fun c=>(El[c]?).getD fun _ _ _=>True) hm (Z7g hok)
  (fun i hi=>by simpa using ((hmem _).1 (List.getElem_mem hi)).1) (fun i k hi hk hik=>by have:=hchain k hk i hik; simpa [hi,hk] using this)
  (fun j hjl hjs k hk'=>?_) (fun j hjl=>?_) (fun j hjl hjw s hs=>?_)
  Ext.refl (fun _ _ _=>Ext.trans) (fun k _ v w w' hx hd=>(lookup Dl .none k).mono v w w' hx hd) (fun j o ho hjs v w1 hx hf=>?_) (fun c hc o ho v w1 hx hf=>?_) (fun j hj=>?_) (fun _ _ h=>h.size) (fun v w1 w' hx hnw hf hE=>?_)
 . rcases hlate j (by simpa using hjl) with h | h
   . exact absurd ((hmem j).2 ⟨by simpa using hjl,h⟩) hjs
   . exact h k hk'
 . rw [hmem,hk]; simp at hjl; simp [hjl]
 . rcases hearly j (by simpa using hjl) with h | h
   . rw [hjw] at h; simp [X4q] at h
   . exact h s hs
 . have hjl:j < ops.length:=by simpa using (Array.getElem?_eq_some_iff.1 ho).1
   have:=Y6s ops kl El _ 0 _ hlen hvc j o (by simpa using ho) (fun h=>hjs ((hmem j).2 ⟨hjl,(hk j).2 h⟩)) v w1 hx (by simpa using hf)
   rw [Nat.zero_add] at this;have e:=Q3z v ops 0 j a0;rw [Nat.zero_add] at e
   simpa [e] using this
 . have:=Q8e (fun c=>(El[c]?).getD fun _ _ _=>True) ops kl El 0 _ 0 hlen (by rw [hlk]; rfl) hEl hvc c (by rw [hlk]; exact hc) tail[c] o (by simp [hc]) (by simpa using ho) v w1 hx (by simpa using hf)
   rw [Nat.zero_add,Nat.zero_add] at this;have e:=Q3z v ops 0 tail[c] a0;rw [Nat.zero_add] at e
   simpa [e] using this
 . have h1:=List.all_eq_true.1 hnews j hj
   simp only [Bool.and_eq_true,decide_eq_true_eq] at h1;refine ⟨by simpa using h1.1,?_,fun o ho=>hmade j hj o (by simpa using ho)⟩
   have h2:=h1.2;cases hk:lookup kl .plain j <;> rw [hk] at h2 <;> first | rfl | cases h2
 . exact (hpost v w1 hx hnw).out (fun k hk hks=>hf k (by simpa using hk) hks) w' (hend v w1 w' hE)
theorem region (kl:List Kind) (jl:List Nat) (pl:List (List Nat)) (tail:List Nat) (Dl:List Spec) (El:List ((Nat -> Value) -> World -> World -> Prop))
    (hm:P.follows .mixedOrders=true) (hjl:jl=List.range' 0 ops.length) (hok:okL ops pl kl tail El.length=true)
    (hvc:X3t P ops.toArray (lookup pl []) tail w.drew (fun k=>(lookup Dl .none k).D) El (fun _ w1 w=>w=w1) ops kl jl (fun _=>a0))
    (hpost:∀ v w1,Ext w.drew w1 -> All (lookup pl []) (fun k=>(lookup Dl .none k).D) v w1 tail jl (∀ w',endOf (lookup pl []) v w1 w' tail El -> Q .normal (acts v ops jl a0) w')) :
    (Code.region id ops.toArray true).wp P Q a0 w :=
 Z8a [] kl jl pl tail Dl El hm hjl hok hvc rfl (fun _ h=>nomatch h) (fun v w1 hx _=>hpost v w1 hx)
theorem Z7r (kl:List Kind) (jl:List Nat) (pl:List (List Nat)) (Dl:List Spec)
    (hm:P.follows .mixedOrders=true) (hjl:jl=List.range' 0 ops.length) (hok:okL ops pl kl [] 0=true)
    (hvc:X3t P ops.toArray (lookup pl []) [] w.drew (fun k=>(lookup Dl .none k).D) [] (fun _ w1 w=>w=w1) ops kl jl (fun _=>a0))
    (hpost:∀ v w1,Ext w.drew w1 -> All (lookup pl []) (fun k=>(lookup Dl .none k).D) v w1 [] jl (Q .normal (acts v ops jl a0) w1)) :
    (Code.region id ops.toArray true).wp P Q a0 w :=
 region kl jl pl [] Dl [] hm hjl hok hvc (fun v w1 hx=>by
  have:=hpost v w1 hx;have gen:∀ (jl:List Nat) (G G':Prop),(G -> G') -> All (lookup pl []) (fun k=>(lookup Dl .none k).D) v w1 [] jl G -> All (lookup pl []) (fun k=>(lookup Dl .none k).D) v w1 [] jl G':=by
   intro jl
   induction jl with
   | nil=>intro G G' h hG; exact h hG
   | cons j jl ih =>
     intro G G' h hG;simp only [All,List.contains_nil,Bool.false_eq_true,if_false] at hG ⊢;exact fun hd=>ih G G' h (hG hd)
  exact gen _ _ _ (fun h w' (hE:w'=w1)=>hE ▸ h) this)
end
end Go.Flow
namespace Go.Tw
open Go.RowKit Go.Flow
theorem Q0e {P:Program} {f:FuncId} {args:Array Value} {w:World} {K:Value -> World -> Prop} {R:Ending -> World -> Prop} (h:Calls P f args w R) (hk:∀ e w',R e w' -> ∃ u,e=.returned u /\ K u w') :
    gives P K (.ok (.enter f args) w):=h.mono hk
theorem X9z (w:World) (cs:Array Value) (e:TypeId) (i:Nat):(w.alloc (.cells cs e)).cell? ⟨w.heap.size,i,none⟩=cs[i]?:=by
 rw [World.cell?_alloc_at _ _ _ _ rfl]
theorem Ext.box (w:World) (o:Obj):Ext w (w.alloc o):=(Ext.refl w).alloc o
theorem Ext.drewN {a b:World} (h:Ext a b) (n:Nat):Ext a (b.drewN n):=by
 obtain ⟨h1,h2,h3,h4,h5⟩:=h;exact ⟨h1,h2,h3,h4,h5⟩
theorem addr_add (b off j:Nat):(⟨b,off,none⟩:Addr).add j=⟨b,off + j,none⟩:=by unfold Addr.add; split <;> simp_all
theorem below_grown {α:Type} {w w':World} {base B:Nat} {e:TypeId} {enc:α -> Value} {v:Value} {xs:List α} (hown:Q0q w base e enc v xs) (hg:w.grownBy w' v.ownBlock) (hb:B <= base) (hB:B <= w.heap.size):Below B w w' :=
 Below.grown (Below.refl _ _) hg hB (fun k hk=>Nat.le_trans hb (World.ownsRow.lt hown k hk).1)
theorem Q0q.made {α:Type} (w:World) (base:Nat) (e:TypeId) (enc:α -> Value) (hb:base <= w.heap.size):Q0q (w.alloc (.cells #[] e)) base e enc (.slice (some ⟨w.heap.size,0,none⟩) 0 0) ([]:List α) :=
 World.ownsRow_made w #[] 0 hb (by unfold maxLen; omega) rfl
def Src {α:Type} (w:World) (enc:α -> Value) (v:Value) (ys:List α):Prop:=∃ A c,v=.slice A ys.length c /\ ∀ j (h:j < ys.length),∃ b off,A=some ⟨b,off,none⟩ /\ w.cell? ⟨b,off + j,none⟩=some (enc ys[j])
theorem Q7q {P:Program} (w:World) (t ty e:TypeId) (i:TypeInfo) (ht:P.underlying t=some (.slice e)) (hi:P.info? e=some i) (b A:Option Addr) (s c c':Nat) (h:s <= c) :
    (Builtin.append_ #[t,t] ty #[.slice b s c,.slice A 0 c']).run P w=.ok (.slice b s c) w:=by
 cases A <;> cases b <;> simp [Builtin.append_,run_underlying ht,sizeOf,typeInfo,hi,Builtin.lenOf,Builtin.firstCells,loadCells,loadCellsFrom,storeCells,h]
theorem Q0q.shape {α:Type} {w:World} {base:Nat} {e:TypeId} {enc:α -> Value} {v:Value} {xs:List α} (h:Q0q w base e enc v xs):∃ b c,v=.slice b xs.length c /\ xs.length <= c:=by
 rcases h.2 with ⟨rfl,h0⟩ | ⟨g,cap,cur,rfl,_,_,hc,_⟩
 . exact ⟨none,0,by rw [h0],by omega⟩
 . exact ⟨_,cap,rfl,hc⟩
theorem Q5d {α:Type} {P:Program} {K:Value -> World -> Prop} {o:Oper} {a:Act} {w:World} (s x:Operand) (t:TypeId) (ho:o.op=.call { callee:=.builtin .append,args:=#[s,x],argTypes:=#[t,t] })
    (base:Nat) (e:TypeId) (i:TypeInfo) (z:Value) (bytes:Nat) (ht:P.underlying t=some (.slice e)) (hi:P.info? e=some i) (hz:i.zero=some z) (hsize:i.size=1) (hby:i.bytes=bytes) (hzs:z.cells.size=1)
    (enc:α -> Value) (v src:Value) (xs ys:List α) (hs:a.eval s=v) (hown:Q0q w base e enc v xs) (hx:a.eval x=src) (hsrc:Src w enc src ys) (h1:∀ y ∈ ys,(enc y).oneCell'=true)
    (h63:xs.length + ys.length <= 4398046511104) (hb:bytes <= 32) (hbase:base <= w.heap.size)
    (h:∀ v' w',Q0q w' base e enc v' (xs ++ ys) -> w.grownBy w' v.ownBlock -> K v' w'):gives P K ((execOp a.eval o).run P w):=by
 obtain ⟨A,c,rfl,hc⟩:=hsrc;cases ys with
 | nil =>
   obtain ⟨b,c',rfl,hcap⟩:=hown.shape;unfold execOp;simp only [ho,resolve,invoke,builtin,Sem.run_bind,Sem.run_pure,Result.andThen_ok,List.map_toArray,List.map_cons,List.map_nil,hs,hx];rw [List.length_nil,Q7q (P:=P) w t o.type e i ht hi b A xs.length c' c hcap];exact h _ _ (by simpa using hown) ⟨rfl,rfl,rfl,Nat.le_refl _,fun _ _ _=>rfl⟩
 | cons y ys =>
   obtain ⟨b0,off0,rfl,_⟩:=hc 0 (by simp)
   obtain ⟨v',w',hr,h2,h3,h4⟩:=run_append_own (P:=P) w base t o.type e i z 1 bytes ht hi hz hsize hby hzs (by decide) v xs.length (xs.map enc) hown ⟨b0,off0,none⟩ (y :: ys).length c ((y :: ys).map enc) (by simp) (fun j u hu=>by
    rw [List.getElem?_map] at hu
    rcases Nat.lt_or_ge j (y :: ys).length with hj | hj
    . rw [List.getElem?_eq_getElem hj] at hu
      simp only [Option.map_some,Option.some.injEq] at hu;obtain ⟨b',off',hA,hcell⟩:=hc j hj;cases hA;rw [<- hu,addr_add]; exact hcell
    . rw [List.getElem?_eq_none hj] at hu; cases hu) (fun u hu=>by obtain ⟨y,hy,rfl⟩:=List.mem_map.1 hu; exact h1 y hy) (by unfold maxLen; omega) (by
      have:(xs.length + (y :: ys).length) * bytes <= 4398046511104 * 32:=Nat.mul_le_mul h63 hb;omega) hbase
   unfold execOp;simp only [ho,resolve,invoke,builtin,Sem.run_bind,Sem.run_pure,Result.andThen_ok,List.map_toArray,List.map_cons,List.map_nil,hs,hx,hr];refine h v' w' ?_ h3;unfold Q0q
   simpa using h2
theorem Z4b {a b:ByteArray} {l:List UInt8} (hl:b.toList=l) (h:¬ a=b):(a.toList == l)=false:=by
 rw [<- hl,<- Go.beq_toListBytes]; exact X1c h
theorem toList_eq {a b:ByteArray} {l:List UInt8} (hl:b.toList=l) (h:a=b):(a.toList == l)=true:=by
 rw [<- hl,<- Go.beq_toListBytes]; exact str_eq h
end Go.Tw
namespace Go.Proofs
open Go.RowKit Go.Tw
def Q0x (b:Bool) (e:Int):Int:=if b then e else 0
theorem Q6f (w:World) (b:Bool) (x:Int) :
    Calls Tryz.prog 119 #[.bool b,.int .i64 x] w fun e w'=>e=.returned (.int .i64 (Q0x b x)) /\ w=w':=by
 cases b <;>
 . go_enter Tryz.func119,Tryz.ntmps119
   go_wp2;go_ret;exact ⟨rfl,rfl⟩
theorem first_any (w:World) (v:Value) (l:List Int) (hv:Q0d w v l) :
    Calls Tryz.prog 96 #[v] w fun e w'=>e=.returned (.int .i64 (Q0g l)) /\ w=w':=by
 obtain ⟨A,cap,rfl,hl,hcap,hc⟩:=hv.opened;clear hv;go_enter Tryz.func96,Tryz.ntmps96;go_wp2
 go_loop [7] (fun i=>∃ k:Nat,k <= l.length /\ i=.int .i64 k /\ Q0g (l.drop k)=Q0g l) (fun i=>l.length - (intOf i).toNat)
 case atStart=>exact ⟨0,Nat.zero_le _,rfl,rfl⟩
 case round =>
  obtain ⟨k,hk,rfl,hr⟩:=hrel;have HR:=hid hr; clear hr
  by_cases hlt:k < l.length
  . obtain ⟨b,off,rfl,hcell⟩:=hc k hlt
    clear hc
    by_cases hx:ix l k=0
    . have HX:=hid hx
      have hx1:(ix l k != 0)=false:=by simp [hx]
      clear hx;go_wp2;go_round
      case rel=>exact ⟨k + 1,by omega,by go_num,by rw [<- HR.out,Q3b hlt,Q0g,if_pos HX.out]⟩
      case measure=>simp [intOf]; omega
    . have hx1:(ix l k != 0)=true:=by simp [hx]
      have HX:=hid hx; clear hx;go_wp2;go_ret;exact ⟨Q1d (by rw [<- HR.out,Q3b hlt,Q0g,if_neg HX.out]),rfl⟩
  . clear hc
    go_wp2;go_ret;exact ⟨Q1d (by rw [<- HR.out,List.drop_eq_nil_of_le (by omega)]; rfl),rfl⟩
theorem Q6l (w:World) (x a b:Int) :
    Calls Tryz.prog 125 #[.int .i64 x,.int .i64 a,.int .i64 b] w fun e w'=>e=.returned (.int .i64 (Q0f x a b)) /\ w=w':=by
 unfold Q0f
 by_cases h1:x < a
 . rw [if_pos (.inl h1)]
   go_enter Tryz.func125,Tryz.ntmps125;go_wp2;go_ret;exact ⟨rfl,rfl⟩
 . by_cases h2:b < x
   . rw [if_pos (.inr h2)]
     go_enter Tryz.func125,Tryz.ntmps125;go_wp2;go_ret;exact ⟨rfl,rfl⟩
   . rw [if_neg (by omega)]
     go_enter Tryz.func125,Tryz.ntmps125;go_wp2;go_ret;exact ⟨rfl,rfl⟩
theorem Q7t (w:World) (x:Int) :
    Calls Tryz.prog 118 #[.int .i64 x] w fun e w'=>e=.returned (.int .i64 (Q0f x 0 1024)) /\ w=w':=by
 go_enter Tryz.func118,Tryz.ntmps118;go_wp2_with (go_at_call 125; refine (Q6l _ x 0 1024).mono ?_; rintro e w' ⟨rfl,rfl⟩);go_ret;exact ⟨rfl,rfl⟩
theorem X6r (w:World) (x:Int) :
    Calls Tryz.prog 121 #[.int .i64 x] w fun e w'=>e=.returned (.int .i64 (Q0f x 0 1000)) /\ w=w':=by
 go_enter Tryz.func121,Tryz.ntmps121;go_wp2_with (go_at_call 125; refine (Q6l _ x 0 1000).mono ?_; rintro e w' ⟨rfl,rfl⟩);go_ret;exact ⟨rfl,rfl⟩
theorem X6l (w:World) (x:Int) :
    Calls Tryz.prog 126 #[.int .i64 x] w fun e w'=>e=.returned (.int .i64 (Q0f x 0 9)) /\ w=w':=by
 go_enter Tryz.func126,Tryz.ntmps126;go_wp2_with (go_at_call 125; refine (Q6l _ x 0 9).mono ?_; rintro e w' ⟨rfl,rfl⟩);go_ret;exact ⟨rfl,rfl⟩
theorem X0x (w:World) (x:Int) :
    Calls Tryz.prog 97 #[.int .i64 x] w fun e w'=>e=.returned (.int .i64 (Q0f x 0 8000)) /\ w=w':=by
 go_enter Tryz.func97,Tryz.ntmps97;go_wp2_with (go_at_call 125; refine (Q6l _ x 0 8000).mono ?_; rintro e w' ⟨rfl,rfl⟩);go_ret;exact ⟨rfl,rfl⟩
end Go.Proofs
namespace Go.Proofs
open Go.RowKit Go.Tw
def Q1f (first:Bool):List UInt8 -> Bool
 | []=>true
 | c :: l=>(Q1l c || (!first && Q3j c)) && Q1f false l
theorem X3c:∀ l:List UInt8,Q1f false l=l.all fun c=>Q1l c || Q3j c
 | []=>rfl
 | c :: l=>by simp [Q1f,X3c l]
theorem Q1j (s:ByteArray):nameB s=(Q1f true s.data.toList && (decide (s.data.toList ≠ []) && decide (s.data.toList.length <= 24))):=by
 unfold nameB;cases s.data.toList with
 | nil=>rfl
 | cons c l =>
   simp only [Q1f,X3c,Bool.not_true,Bool.false_and,Bool.or_false,List.length_cons];rw [show decide (c :: l ≠ [])=true from by simp,Bool.true_and]
   congr 1
theorem Y6v (s:ByteArray) (pos:Nat) (h:pos < s.size):s.data.toList.drop pos=s[pos]'h :: s.data.toList.drop (pos + 1):=by
 have h':pos < s.data.toList.length:=by simpa using h
 rw [List.drop_eq_getElem_cons h'];rfl
theorem X8x (c:UInt8):Q1l c=(decide (97 <= c.toNat /\ c.toNat <= 122) || decide (65 <= c.toNat /\ c.toNat <= 90)):=by
 unfold Q1l;simp only [UInt8.le_iff_toNat_le];simp
theorem Y1c (c:UInt8):Q3j c=(decide (c.toNat=95) || decide (48 <= c.toNat /\ c.toNat <= 57)):=by
 unfold Q3j;simp only [UInt8.le_iff_toNat_le];rw [show (c == 95)=decide (c.toNat=95) from by rw [show (c == 95)=decide (c=95) from rfl]; exact decide_eq_decide.2 ⟨fun h=>by subst h; rfl,fun h=>UInt8.toNat_inj.1 h⟩]
 simp
theorem Z7a (s:ByteArray) (pos:Nat) (h:pos < s.size):∃ n d,Utf8.decode s pos=(n,d) /\ 1 <= d /\ (n < 128 -> n=(s[pos]'h).toNat /\ d=1) /\ (128 <= n -> 128 <= (s[pos]'h).toNat):=by
 by_cases ha:(s[pos]'h).toNat < 128
 . exact ⟨_,_,decode_ascii s pos h ha,Nat.le_refl _,fun _=>⟨rfl,rfl⟩,fun h'=>h'⟩
 . have:=decode_high s pos h (by omega)
   obtain ⟨n,d,hnd⟩:∃ n d,Utf8.decode s pos=(n,d):=⟨_,_,rfl⟩;rw [hnd] at this;exact ⟨n,d,hnd,this.2,fun h'=>by have:=this.1; omega,fun _=>by omega⟩
theorem Y8d {s:ByteArray} (h:s.toList=[]):s.data.toList=[]:=by rw [toList_nil_iff_emptyBytes] at h; subst h; rfl
theorem Z2t {s:ByteArray} (h:¬ s.toList=[]):s.data.toList ≠ []:=fun e=>h (by
 rw [toList_nil_iff_emptyBytes];obtain ⟨⟨l⟩⟩:=s;simp only at e;subst e; rfl)
theorem Y8l (w:World) (s:ByteArray) (hs:Short s) :
    Calls Tryz.prog 124 #[.string s] w fun e w'=>e=.returned (.bool (nameB s)) /\ Ext w w':=by
 unfold Short at hs;go_enter Tryz.func124,Tryz.ntmps124;go_wp2
 go_loopw [9] (fun _ w'=>∃ pos:Nat,w'=w.iter s pos /\ Q1f (pos == 0) (s.data.toList.drop pos)=Q1f true s.data.toList) (fun _ w'=>s.size - w'.iterPos w.heap.size)
 case atStart=>exact ⟨0,rfl,rfl⟩
 case round =>
  obtain ⟨pos,rfl,hc⟩:=hrel;have HC:=hid hc; clear hc
  by_cases hp:pos < s.size
  . obtain ⟨n,d,hd,hd1,hn1,hn2⟩:=Z7a s pos hp
    have hnx:∀ ty,(Instr.next (.pointer (some ⟨w.heap.size,0,none⟩)) true ty).run Tryz.prog (w.iter s pos)=.ok (.tuple #[.bool true,.int .i64 pos,.int .i32 n]) (w.iter s (pos + d)):=fun ty=>by
     rw [run_next_any w s pos ty hp,hd]
    have HB:=hid (Y6v s pos hp);have HL:=hid (X8x (s[pos]'hp));have HO:=hid (Y1c (s[pos]'hp));obtain ⟨c,hcc⟩:∃ c,s[pos]'hp=c:=⟨_,rfl⟩;rw [hcc] at hn1 hn2 HB HL HO;have HN1:=hid hn1;have HN2:=hid hn2;clear hcc hd hn1 hn2;have hcl:(65 <= n /\ n <= 90) ∨ (97 <= n /\ n <= 122) ∨ (48 <= n /\ n <= 57) ∨ n=95 ∨ n < 48 ∨ (58 <= n /\ n < 65) ∨ (91 <= n /\ n < 97 /\ n ≠ 95) ∨ 123 <= n:=by omega
    obtain ⟨N,hN⟩:∃ N:Int,(n:Int)=N:=⟨_,rfl⟩;rw [hN] at hnx
    rcases hcl with hcl | hcl | hcl | hcl | hcl | hcl | hcl | hcl
    . have f0:65 <= N:=by omega
      have f1:N <= 90:=by omega
      have HX:Hid (Q1l c=true):=by
       exact (by rw [HL.out,<- (HN1.out (by omega)).1]; simp; omega:Q1l c=true)
      have HD:Hid (d=1):=by exact (HN1.out (by omega)).2
      clear hcl hN;go_wp2;go_roundw
      case rel=>exact ⟨pos + d,rfl,by rw [<- HC.out,HB.out,HD.out]; simp [Q1f,HX.out]⟩
      case measure=>simp; omega
    . have f0:65 <= N:=by omega
      have f1:¬ N <= 90:=by omega
      have f2:97 <= N:=by omega
      have f3:N <= 122:=by omega
      have HX:Hid (Q1l c=true):=by
       exact (by rw [HL.out,<- (HN1.out (by omega)).1]; simp; omega:Q1l c=true)
      have HD:Hid (d=1):=by exact (HN1.out (by omega)).2
      clear hcl hN;go_wp2;go_roundw
      case rel=>exact ⟨pos + d,rfl,by rw [<- HC.out,HB.out,HD.out]; simp [Q1f,HX.out]⟩
      case measure=>simp; omega
    . have f0:¬ 65 <= N:=by omega
      have f1:¬ 97 <= N:=by omega
      have f2:48 <= N:=by omega
      have f3:N <= 57:=by omega
      have HX:Hid (Q1l c=false /\ Q3j c=true):=by
       exact (by rw [HL.out,HO.out,<- (HN1.out (by omega)).1]; simp; omega:Q1l c=false /\ Q3j c=true)
      have HD:Hid (d=1):=by exact (HN1.out (by omega)).2
      clear hcl hN
      by_cases h0:pos=0
      . subst h0
        go_wp2;go_ret;exact ⟨Q0u (by rw [Q1j,<- HC.out,HB.out]; simp [Q1f,HX.out.1]),Ext.box _ _⟩
      . have h0':(((pos:Nat):Int) == 0)=false:=by rw [beq_eq_false_iff_ne]; omega
        have HP:=hid h0; clear h0;go_wp2;go_roundw
        case rel=>exact ⟨pos + d,rfl,by rw [<- HC.out,HB.out,HD.out]; simp [Q1f,HX.out.1,HX.out.2,HP.out]⟩
        case measure=>simp; omega
    . have f0:65 <= N:=by omega
      have f1:¬ N <= 90:=by omega
      have f2:¬ 97 <= N:=by omega
      have f3:48 <= N:=by omega
      have f4:¬ N <= 57:=by omega
      have f5:(N == 95)=true:=by rw [beq_iff_eq]; omega
      have HX:Hid (Q1l c=false /\ Q3j c=true):=by
       exact (by rw [HL.out,HO.out,<- (HN1.out (by omega)).1]; simp; omega:Q1l c=false /\ Q3j c=true)
      have HD:Hid (d=1):=by exact (HN1.out (by omega)).2
      clear hcl hN
      by_cases h0:pos=0
      . subst h0
        go_wp2;go_ret;exact ⟨Q0u (by rw [Q1j,<- HC.out,HB.out]; simp [Q1f,HX.out.1]),Ext.box _ _⟩
      . have h0':(((pos:Nat):Int) == 0)=false:=by rw [beq_eq_false_iff_ne]; omega
        have HP:=hid h0; clear h0;go_wp2;go_roundw
        case rel=>exact ⟨pos + d,rfl,by rw [<- HC.out,HB.out,HD.out]; simp [Q1f,HX.out.1,HX.out.2,HP.out]⟩
        case measure=>simp; omega
    . have f0:¬ 65 <= N:=by omega
      have f1:¬ 97 <= N:=by omega
      have f2:¬ 48 <= N:=by omega
      have f3:(N == 95)=false:=by rw [beq_eq_false_iff_ne]; omega
      have HX:Hid (Q1l c=false /\ Q3j c=false):=by
       exact (by
        rcases Nat.lt_or_ge n 128 with h | h
        . rw [HL.out,HO.out,<- (HN1.out h).1]; simp; omega
        . have:=HN2.out h
          rw [HL.out,HO.out]; simp; omega:Q1l c=false /\ Q3j c=false)
      clear hcl hN
      by_cases h0:pos=0
      . subst h0
        go_wp2;go_ret;exact ⟨Q0u (by rw [Q1j,<- HC.out,HB.out]; simp [Q1f,HX.out.1]),Ext.box _ _⟩
      . have h0':(((pos:Nat):Int) == 0)=false:=by rw [beq_eq_false_iff_ne]; omega
        have HP:=hid h0; clear h0;go_wp2;go_ret;exact ⟨Q0u (by rw [Q1j,<- HC.out,HB.out]; simp [Q1f,HX.out.1,HX.out.2]),Ext.box _ _⟩
    . have f0:¬ 65 <= N:=by omega
      have f1:¬ 97 <= N:=by omega
      have f2:48 <= N:=by omega
      have f3:¬ N <= 57:=by omega
      have f4:(N == 95)=false:=by rw [beq_eq_false_iff_ne]; omega
      have HX:Hid (Q1l c=false /\ Q3j c=false):=by
       exact (by
        rcases Nat.lt_or_ge n 128 with h | h
        . rw [HL.out,HO.out,<- (HN1.out h).1]; simp; omega
        . have:=HN2.out h
          rw [HL.out,HO.out]; simp; omega:Q1l c=false /\ Q3j c=false)
      clear hcl hN
      by_cases h0:pos=0
      . subst h0
        go_wp2;go_ret;exact ⟨Q0u (by rw [Q1j,<- HC.out,HB.out]; simp [Q1f,HX.out.1]),Ext.box _ _⟩
      . have h0':(((pos:Nat):Int) == 0)=false:=by rw [beq_eq_false_iff_ne]; omega
        have HP:=hid h0; clear h0;go_wp2;go_ret;exact ⟨Q0u (by rw [Q1j,<- HC.out,HB.out]; simp [Q1f,HX.out.1,HX.out.2]),Ext.box _ _⟩
    . have f0:65 <= N:=by omega
      have f1:¬ N <= 90:=by omega
      have f2:¬ 97 <= N:=by omega
      have f3:48 <= N:=by omega
      have f4:¬ N <= 57:=by omega
      have f5:(N == 95)=false:=by rw [beq_eq_false_iff_ne]; omega
      have HX:Hid (Q1l c=false /\ Q3j c=false):=by
       exact (by
        rcases Nat.lt_or_ge n 128 with h | h
        . rw [HL.out,HO.out,<- (HN1.out h).1]; simp; omega
        . have:=HN2.out h
          rw [HL.out,HO.out]; simp; omega:Q1l c=false /\ Q3j c=false)
      clear hcl hN
      by_cases h0:pos=0
      . subst h0
        go_wp2;go_ret;exact ⟨Q0u (by rw [Q1j,<- HC.out,HB.out]; simp [Q1f,HX.out.1]),Ext.box _ _⟩
      . have h0':(((pos:Nat):Int) == 0)=false:=by rw [beq_eq_false_iff_ne]; omega
        have HP:=hid h0; clear h0;go_wp2;go_ret;exact ⟨Q0u (by rw [Q1j,<- HC.out,HB.out]; simp [Q1f,HX.out.1,HX.out.2]),Ext.box _ _⟩
    . have f0:65 <= N:=by omega
      have f1:¬ N <= 90:=by omega
      have f2:97 <= N:=by omega
      have f3:¬ N <= 122:=by omega
      have f4:48 <= N:=by omega
      have f5:¬ N <= 57:=by omega
      have f6:(N == 95)=false:=by rw [beq_eq_false_iff_ne]; omega
      have HX:Hid (Q1l c=false /\ Q3j c=false):=by
       exact (by
        rcases Nat.lt_or_ge n 128 with h | h
        . rw [HL.out,HO.out,<- (HN1.out h).1]; simp; omega
        . have:=HN2.out h
          rw [HL.out,HO.out]; simp; omega:Q1l c=false /\ Q3j c=false)
      clear hcl hN
      by_cases h0:pos=0
      . subst h0
        go_wp2;go_ret;exact ⟨Q0u (by rw [Q1j,<- HC.out,HB.out]; simp [Q1f,HX.out.1]),Ext.box _ _⟩
      . have h0':(((pos:Nat):Int) == 0)=false:=by rw [beq_eq_false_iff_ne]; omega
        have HP:=hid h0; clear h0;go_wp2;go_ret;exact ⟨Q0u (by rw [Q1j,<- HC.out,HB.out]; simp [Q1f,HX.out.1,HX.out.2]),Ext.box _ _⟩
  . have hnx:∀ ty,(Instr.next (.pointer (some ⟨w.heap.size,0,none⟩)) true ty).run Tryz.prog (w.iter s pos)=_:=fun ty=>run_next_end w s pos ty hp
    have HF:Hid (Q1f true s.data.toList=true):=by
     exact (by rw [<- HC.out,List.drop_eq_nil_of_le (by simpa using hp)]; rfl:Q1f true s.data.toList=true)
    have hsz:s.data.toList.length=s.size:=by simp
    have HS:=hid hsz;clear hsz hp
    by_cases h24:(s.size:Int) <= 24
    . have H24:=hid h24
      go_wp2
      . have he:s.toList=[]:=by assumption
        go_ret;exact ⟨Q0u (by rw [Q1j,HF.out,Y8d he]; rfl),Ext.box _ _⟩
      . have he:¬ s.toList=[]:=by assumption
        go_ret;exact ⟨Q0u (by have:=HS.out; have:=H24.out; rw [Q1j,HF.out,Bool.true_and,decide_eq_true (Z2t he),Bool.true_and]; rw [decide_eq_true (by omega:s.data.toList.length <= 24)]; simp [he]),Ext.box _ _⟩
    . have H24:=hid h24
      go_wp2
      . have he:s.toList=[]:=by assumption
        go_ret;exact ⟨Q0u (by rw [Q1j,HF.out,Y8d he]; rfl),Ext.box _ _⟩
      . have he:¬ s.toList=[]:=by assumption
        go_ret;exact ⟨Q0u (by have:=HS.out; have:=H24.out; rw [Q1j,HF.out,Bool.true_and,decide_eq_true (Z2t he),Bool.true_and]; exact (decide_eq_false (by omega)).symm),Ext.box _ _⟩
end Go.Proofs
