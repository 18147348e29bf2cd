/- A region whose operations are carried out in an order that Go leaves open: one look at each operation, with what its forerunners gave, serves every order. -/
import Derived.Orders
import Derived.Below
set_option maxRecDepth 1000000
set_option maxHeartbeats 64000000
set_option linter.unusedVariables false
set_option linter.unusedSimpArgs false
set_option linter.constructorNameAsVariable false
namespace Go.Flow
open Go.RowKit
def upd (v:Nat -> Value) (j:Nat) (u:Value):Nat -> Value:=fun k=>if k=j then u else v k
def mask (pre:Nat -> List Nat) (k:Nat) (v:Nat -> Value):Nat -> Value:=fun i=>if (i == k || (pre k).contains i)=true then v i else undef
def act (X:Nat -> Bool) (v:Nat -> Value):List Oper -> Nat -> Act -> Act
 | [],_,a=>a
 | o :: l,i,a=>act X v l (i + 1) (if X i then a.put o.dst (v i) else a)
theorem Q7c (a:Act) (d:Option Tmp) (u:Value):(a.put d u).tmps.size=a.tmps.size:=by cases d <;> simp [Act.put]
theorem put_defers (a:Act) (d:Option Tmp) (u:Value):(a.put d u).defers=a.defers:=by cases d <;> rfl
theorem X3v (X:Nat -> Bool) (v:Nat -> Value):∀ (l:List Oper) (i:Nat) (a:Act),(act X v l i a).tmps.size=a.tmps.size
 | [],_,_=>rfl
 | o :: l,i,a=>by rw [act,X3v X v l]; split <;> simp [Q7c]
theorem Q2h (X:Nat -> Bool) (v:Nat -> Value):∀ (l:List Oper) (i:Nat) (a:Act),(act X v l i a).defers=a.defers
 | [],_,_=>rfl
 | o :: l,i,a=>by rw [act,Q2h X v l]; split <;> simp [put_defers]
theorem X2c (a:Act) (d:Option Tmp) (u:Value) (t:Tmp) (h:d ≠ some t):(a.put d u).tmps[t]?=a.tmps[t]?:=by
 cases d with
 | none=>rfl
 | some d=>simp only [Act.put]; exact Array.getElem?_setIfInBounds_ne (fun e=>h (by rw [e]))
theorem Q9c (a:Act) (u:Value) (t:Tmp) (h:t < a.tmps.size):(a.put (some t) u).tmps[t]?=some u:=by
 simp [Act.put,h]
theorem Q5k (X Y:Nat -> Bool) (v v':Nat -> Value) (t:Tmp):∀ (l:List Oper) (i:Nat) (a a':Act),a.tmps.size=a'.tmps.size -> a.tmps[t]?=a'.tmps[t]? ->
    (∀ k o,l[k]?=some o -> o.dst=some t -> X (i + k)=Y (i + k) /\ (X (i + k)=true -> v (i + k)=v' (i + k))) ->
    (act X v l i a).tmps[t]?=(act Y v' l i a').tmps[t]?
 | [],_,_,_,_,h,_=>h
 | o :: l,i,a,a',hs,h,hk=>by
   rw [act,act];refine Q5k X Y v v' t l (i + 1) _ _ (by split <;> split <;> simp [Q7c,hs]) ?_ (fun k o' ho hd=>by have:=hk (k + 1) o' (by simpa using ho) hd; rwa [show i + (k + 1)=i + 1 + k from by omega] at this)
   by_cases hd:o.dst=some t
   . obtain ⟨h1,h2⟩:=hk 0 o rfl hd
     simp only [Nat.add_zero] at h1 h2;rw [<- h1]
     split
     . rename_i hx
       rw [hd,h2 hx]
       rcases Nat.lt_or_ge t a.tmps.size with hl | hl
       . rw [Q9c _ _ _ hl,Q9c _ _ _ (hs ▸ hl)]
       . rw [Array.getElem?_eq_none (by rw [Q7c]; exact hl),Array.getElem?_eq_none (by rw [Q7c,<- hs]; exact hl)]
     . exact h
   . have e1:(if X i=true then a.put o.dst (v i) else a).tmps[t]?=a.tmps[t]?:=by split <;> first | exact X2c _ _ _ _ hd | rfl
     have e2:(if Y i=true then a'.put o.dst (v' i) else a').tmps[t]?=a'.tmps[t]?:=by split <;> first | exact X2c _ _ _ _ hd | rfl
     rw [e1,e2,h]
theorem Y8i (X:Nat -> Bool) (v:Nat -> Value) (t:Tmp):∀ (l:List Oper) (i:Nat) (a:Act) (j:Nat) (o:Oper),t < a.tmps.size -> l[j]?=some o -> o.dst=some t -> X (i + j)=true ->
    (∀ k o',j < k -> l[k]?=some o' -> o'.dst=some t -> X (i + k)=false) -> (act X v l i a).tmps[t]?=some (v (i + j))
 | [],_,_,_,_,_,h,_,_,_=>by simp at h
 | o :: l,i,a,0,o',hs,h,hd,hX,hk=>by
   simp only [List.getElem?_cons_zero,Option.some.injEq] at h;subst h;simp only [Nat.add_zero] at hX ⊢;rw [act,if_pos hX,Q5k X (fun _=>false) v v t l (i + 1) _ (a.put o.dst (v i)) rfl rfl (fun k o' ho hd'=>by
    have:=hk (k + 1) o' (by omega) (by simpa using ho) hd'
    rw [show i + (k + 1)=i + 1 + k from by omega] at this
    exact ⟨this,fun h=>by simp [this] at h⟩)]
   have:∀ (l:List Oper) (i:Nat) (a:Act),act (fun _=>false) v l i a=a:=by
    intro l; induction l with
    | nil=>intro i a; rfl
    | cons o l ih=>intro i a; simp [act,ih]
   rw [this,hd]; exact Q9c _ _ _ hs
 | o :: l,i,a,j + 1,o',hs,h,hd,hX,hk=>by
   rw [act];have:=Y8i X v t l (i + 1) (if X i then a.put o.dst (v i) else a) j o' (by split <;> simp [Q7c,hs]) (by simpa using h) hd (by rwa [show i + 1 + j=i + (j + 1) from by omega])
    (fun k o'' hlt ho hd'=>by have:=hk (k + 1) o'' (by omega) (by simpa using ho) hd'; rwa [show i + (k + 1)=i + 1 + k from by omega] at this)
   rw [this]; congr 2; omega
theorem X0b {a b:Act} (hd:a.defers=b.defers) (h:∀ t:Nat,a.tmps[t]?=b.tmps[t]?):a=b:=by
 obtain ⟨ta,da⟩:=a; obtain ⟨tb,db⟩:=b;simp only at hd h;subst hd
 congr
 exact Array.ext_getElem? h
def okB (ops:Array Oper) (pre:Nat -> List Nat):Bool :=
 Region.noSelect ops &&
 (List.range ops.size).all fun j=>match ops[j]? with
  | none=>true
  | some oj =>
    (oj.after.toList.all fun e=>!Region.binds .any e || decide (e.on < j)) &&
    ((pre j).all fun i=>oj.after.toList.any fun e=>Region.binds .any e && (e.on == i || (pre e.on).contains i)) &&
    (List.range j).all fun i=>match ops[i]? with
     | none=>true
     | some oi=>oi.apart ops oj || (pre j).contains i
structure Ok (ops:Array Oper) (pr:Nat -> List Nat):Prop where
 sel:∀ (j:Nat) (o:Oper) (cs:Array SelectCase) (b:Bool),ops[j]?=some o -> o.op ≠ .select cs b
 edge:∀ j o,ops[j]?=some o -> ∀ e ∈ o.after,Region.binds .any e=true -> e.on < j
 pre:∀ j o,ops[j]?=some o -> ∀ i ∈ pr j,∃ e ∈ o.after,Region.binds .any e=true /\ (e.on=i ∨ i ∈ pr e.on)
 apart:∀ i j oi oj,i < j -> ops[i]?=some oi -> ops[j]?=some oj -> oi.apart ops oj=true ∨ i ∈ pr j
theorem Z7g {ops:Array Oper} {pre:Nat -> List Nat} (h:okB ops pre=true):Ok ops pre:=by
 simp only [okB,Bool.and_eq_true,List.all_eq_true,List.mem_range] at h;obtain ⟨hs,h⟩:=h;have hj:∀ j o,ops[j]?=some o -> j < ops.size:=fun j o ho=>(Array.getElem?_eq_some_iff.1 ho).1;refine ⟨Region.noSelect_spec hs,fun j o ho e he hb=>?_,fun j o ho i hi=>?_,fun i j oi oj hij hoi hoj=>?_⟩
 . have:=h j (hj j o ho)
   simp only [ho,Bool.and_eq_true,List.all_eq_true] at this;have:=this.1.1 e (Array.mem_toList_iff.2 he)
   simpa [hb] using this
 . have:=h j (hj j o ho)
   simp only [ho,Bool.and_eq_true,List.all_eq_true] at this;have:=this.1.2 i hi;simp only [List.any_eq_true,Bool.and_eq_true,Bool.or_eq_true,beq_iff_eq,List.contains_iff_mem] at this;obtain ⟨e,he,hb,hc⟩:=this;exact ⟨e,Array.mem_toList_iff.1 he,hb,hc⟩
 . have:=h j (hj j oj hoj)
   simp only [hoj,Bool.and_eq_true,List.all_eq_true,List.mem_range] at this;have:=this.2 i hij;simp only [hoi,Bool.or_eq_true,List.contains_iff_mem] at this;exact this
section
variable {P:Program} {ops:Array Oper} {pre:Nat -> List Nat}
theorem eval_congr {a b:Act} (o:Oper) (h:∀ t ∈ o.looksAt ops,a.tmps[t]?=b.tmps[t]?):∀ x ∈ o.op.operands,a.eval x=b.eval x:=fun x hx=>by
 cases x with
 | tmp t =>
   have:=h t (List.mem_append_left _ (List.mem_filterMap.2 ⟨.tmp t,by simpa using hx,rfl⟩))
   simp [Act.eval,this]
 | _=>rfl
theorem Q7s {a b:Act} (o:Oper) (h:∀ t ∈ o.looksAt ops,a.tmps[t]?=b.tmps[t]?):Region.wanted o (yielded ops a.tmps)=Region.wanted o (yielded ops b.tmps):=by
 unfold Region.wanted;cases hg:o.guard with
 | none=>rfl
 | some gw =>
   obtain ⟨g,want⟩:=gw;have hy:yielded ops a.tmps g=yielded ops b.tmps g:=by
    unfold yielded;cases ht:(ops[g]?).bind (·.dst) with
    | none=>rfl
    | some t =>
      have:=h t (by simp [Oper.looksAt,hg,ht])
      simp [this]
   simp only [hy]
def gives (P:Program) (G:Value -> World -> Prop):Result Next -> Prop
 | .ok (.value v) w'=>G v w'
 | .ok .skip w'=>G undef w'
 | .ok (.enter f args) w'=>Calls P f args w' fun e w''=>∃ u,e=.returned u /\ G u w''
 | .ok (.row row args) w'=>Rows P row args w' fun v w''=>G v w''
 | _=>False
theorem Q4a {G G':Value -> World -> Prop} (h:∀ v w,G v w -> G' v w) {r:Result Next} (hr:gives P G r):gives P G' r:=by
 cases r with
 | ok n w =>
   cases n <;> simp only [gives] at hr ⊢
   case value=>exact h _ _ hr
   case skip=>exact h _ _ hr
   case enter=>exact hr.mono fun e w ⟨u,he,hu⟩=>⟨u,he,h _ _ hu⟩
   case row=>exact hr.mono fun v w hu=>h _ _ hu
 | halt x w=>exact hr
theorem Q1y {o:Oper} {a:Act} {K:Act -> World -> Prop} {Q:Exit -> Act -> World -> Prop} {r:Result Next} (h:gives P (fun v w=>K (a.put o.dst v) w) r):o.upon P a K Q r:=by
 cases r with
 | ok n w =>
   cases n <;> simp only [gives,Oper.upon] at h ⊢
   case value=>exact h
   case skip=>exact h
   case enter=>exact h.mono fun e w ⟨u,he,hu⟩=>by subst he; exact hu
   case row=>exact h
 | halt x w=>exact h.elim
inductive Kind where
 | plain
 | world
 | last
abbrev Kind.p:=Kind.plain
abbrev Kind.w:=Kind.world
def vc (P:Program) (ops:Array Oper) (pre:Nat -> List Nat) (Rel:World -> World -> Prop) (D:Nat -> (Nat -> Value) -> World -> Prop) (T E:(Nat -> Value) -> World -> World -> Prop) (k:Kind) (o:Oper) (j:Nat) (b:Act) (v:Nat -> Value) (w1:World):Prop :=
 match k with
 | .plain=>(Region.wanted o (yielded ops b.tmps)=true /\ ∃ u,(∀ w,(execOp b.eval o).run P w=.ok (.value u) w) /\ D j (mask pre j (upd v j u)) w1) ∨ (Region.wanted o (yielded ops b.tmps)=false /\ D j (mask pre j (upd v j undef)) w1)
 | .world=>(Region.wanted o (yielded ops b.tmps)=true /\ gives P (fun u w'=>Rel w1 w' /\ D j (mask pre j (upd v j u)) w') ((execOp b.eval o).run P w1)) ∨ (Region.wanted o (yielded ops b.tmps)=false /\ D j (mask pre j (upd v j undef)) w1)
 | .last=>∀ w,T v w1 w -> (Region.wanted o (yielded ops b.tmps)=true /\ gives P (fun u w'=>E (mask pre j (upd v j u)) w1 w') ((execOp b.eval o).run P w)) ∨ (Region.wanted o (yielded ops b.tmps)=false /\ E (mask pre j (upd v j undef)) w1 w)
def Tail (pre:Nat -> List Nat) (tail:List Nat) (E:Nat -> (Nat -> Value) -> World -> World -> Prop):Nat -> (Nat -> Value) -> World -> World -> Prop
 | 0,_,w1,w=>w=w1
 | c + 1,v,w1,w=>E c (mask pre (tail.getD c 0) v) w1 w
def Made (P:Program) (o:Oper):Prop:=o.guard=none /\ ∀ (e:Operand -> Value) (w:World),∃ c,(execOp e o).run P w=.ok (.value (.pointer (some ⟨w.heap.size,0,none⟩))) (w.alloc c)
def J1b (news:List Nat) (v:Nat -> Value):Prop:=∀ i ∈ news,∀ k ∈ news,i ≠ k -> v i ≠ v k
structure Inv (ops:Array Oper) (pre:Nat -> List Nat) (Rel:World -> World -> Prop) (D:Nat -> (Nat -> Value) -> World -> Prop) (E:Nat -> (Nat -> Value) -> World -> World -> Prop) (tail:List Nat) (news:List Nat) (a0:Act) (w0:World) (X:Nat -> Bool) (v:Nat -> Value) (w1:World) (c:Nat) (a:Act) (w:World):Prop where
 act:a=act X v ops.toList 0 a0
 rel:Rel w0 w1
 facts:∀ k,X k=true -> k ∉ tail -> D k (mask pre k v) w1
 count:c <= tail.length
 before:∀ i (h:i < tail.length),i < c -> X tail[i]=true
 after:∀ i (h:i < tail.length),c <= i -> X tail[i]=false
 last:Tail pre tail E c v w1 w
 newIn:∀ i ∈ news,X i=true -> ∃ g,v i=.pointer (some ⟨g,0,none⟩) /\ g < w1.heap.size
 newNe:∀ i ∈ news,∀ k ∈ news,i ≠ k -> X i=true -> X k=true -> v i ≠ v k
theorem Q9d {j k:Nat} {v:Nat -> Value} {u:Value} (h1:j ≠ k) (h2:j ∉ pre k):mask pre k (upd v j u)=mask pre k v:=by
 funext i
 unfold mask upd
 split
 . rename_i h
   rw [if_neg];rintro rfl;simp only [Bool.or_eq_true,beq_iff_eq,List.contains_iff_mem] at h
   rcases h with h | h
   . exact h1 h
   . exact h2 h
 . rfl
theorem X9h {l:List Oper} {X:Nat -> Bool} {v:Nat -> Value} {a0:Act} {j:Nat} {o:Oper} {u:Value} (ho:l[j]?=some o) (hX:X j=false)
    (hlate:∀ k o',j < k -> l[k]?=some o' -> X k=true -> o'.dst ≠ o.dst ∨ o.dst=none) :
    (act X v l 0 a0).put o.dst u=act (fun k=>if k=j then true else X k) (upd v j u) l 0 a0:=by
 refine X0b (by rw [put_defers,Q2h,Q2h]) fun t=>?_
 by_cases hd:o.dst=some t
 . rcases Nat.lt_or_ge t a0.tmps.size with hl | hl
   . rw [hd,Q9c _ _ _ (by rw [X3v]; exact hl),Y8i _ _ t l 0 a0 j o hl ho hd (by simp) (fun k o' hk ho' hd'=>by
      rw [if_neg (by omega)]
      cases hx:X (0 + k) with
      | false=>rfl
      | true =>
        rw [Nat.zero_add] at hx
        rcases hlate k o' hk ho' hx with h | h
        . exact absurd (hd'.trans hd.symm) h
        . rw [h] at hd; cases hd)]
     simp [upd]
   . rw [Array.getElem?_eq_none (by rw [Q7c,X3v]; exact hl),Array.getElem?_eq_none (by rw [X3v]; exact hl)]
 . rw [X2c _ _ _ _ hd]
   refine Q5k _ _ _ _ t l 0 a0 a0 rfl rfl fun k o' ho' hd'=>?_;have hkj:¬ (0 + k=j):=by
    rw [Nat.zero_add]; rintro rfl;rw [ho] at ho'; cases ho'; exact hd hd'
   rw [if_neg hkj];exact ⟨rfl,fun _=>by simp only [upd]; rw [if_neg hkj]⟩
theorem Q2m {a:Array Bool} {j:Nat} (h:j < a.size):a.getD j true=a.getD j false:=by simp [h]
theorem Q2k (n k:Nat):(Array.replicate n false).getD k false=false:=by
 simp only [Array.getD_eq_getD_getElem?,Array.getElem?_replicate]
 split <;> rfl
def left (n:Nat) (listed:Array Bool):Nat:=(List.range n).countP fun i=>!listed.getD i true
theorem Q8u {n i:Nat} {listed:Array Bool} (_hn:listed.size=n) (hi:i < n) (h:listed.getD i true=false):left n (listed.setIfInBounds i true) < left n listed:=by
 unfold left;have h2:∀ m,m <= n -> (List.range m).countP (fun k=>!(listed.setIfInBounds i true).getD k true) + (if i < m then 1 else 0)=(List.range m).countP (fun k=>!listed.getD k true):=by
  intro m
  induction m with
  | zero=>intro _; simp
  | succ m ih =>
    intro hm;rw [List.range_succ,List.countP_append,List.countP_append,<- ih (by omega)]
    by_cases hmi:m=i
    . subst hmi
      have h':listed[m]?.getD true=false:=by simpa using h
      simp [h']
    . rw [List.countP_singleton,List.countP_singleton,getD_set_ne true (fun e=>hmi e.symm)]
      split <;> split <;> split <;> omega
 have:=h2 n (Nat.le_refl _);rw [if_pos hi] at this;omega
theorem X6k (news:List Nat) (tail:List Nat) (kind:Nat -> Kind) {Rel:World -> World -> Prop} {D:Nat -> (Nat -> Value) -> World -> Prop} {E:Nat -> (Nat -> Value) -> World -> World -> Prop}
    {id:Nat} {Q:Exit -> Act -> World -> Prop} {a0:Act} {w:World} (hm:P.follows .mixedOrders=true) (hok:Ok ops pre)
    (htail:∀ i (h:i < tail.length),tail[i] < ops.size) (hchain:∀ i k (hi:i < tail.length) (hk:k < tail.length),i < k -> tail[i] ∈ pre tail[k])
    (hlate:∀ j,j < ops.size -> j ∉ tail -> ∀ k ∈ pre j,k ∉ tail) (hkind:∀ j,j < ops.size -> (kind j=.last ↔ j ∈ tail)) (hearly:∀ j,j < ops.size -> kind j=.world -> ∀ s ∈ tail,j ∈ pre s)
    (hrefl:∀ w,Rel w w) (htrans:∀ a b c,Rel a b -> Rel b c -> Rel a c) (hmono:∀ k,k < ops.size -> ∀ v w w',Rel w w' -> D k v w -> D k v w')
    (hvc:∀ j o,ops[j]?=some o -> j ∉ tail -> ∀ v w1,Rel w.drew w1 -> (∀ k ∈ pre j,D k (mask pre k v) w1) -> vc P ops pre Rel D (fun _ _ _=>False) (fun _ _ _=>False) (kind j) o j (act (fun k=>decide (k < j)) v ops.toList 0 a0) v w1)
    (hvl:∀ c (hc:c < tail.length) o,ops[tail[c]]?=some o -> ∀ v w1,Rel w.drew w1 -> (∀ k ∈ pre tail[c],k ∉ tail -> D k (mask pre k v) w1) -> vc P ops pre Rel D (Tail pre tail E c) (E c) .last o tail[c] (act (fun k=>decide (k < tail[c])) v ops.toList 0 a0) v w1)
    (hnews:∀ j ∈ news,j < ops.size /\ kind j=.world /\ ∀ o,ops[j]?=some o -> Made P o) (hrsz:∀ a b,Rel a b -> a.heap.size <= b.heap.size)
    (hpost:∀ v w1 w',Rel w.drew w1 -> J1b news v -> (∀ k,k < ops.size -> k ∉ tail -> D k (mask pre k v) w1) -> Tail pre tail E tail.length v w1 w' -> Q .normal (act (fun _=>true) v ops.toList 0 a0) w') :
    (Code.region id ops true).wp P Q a0 w:=by
 refine wp_region_any hm ?_;have hclosed:∀ (X:Nat -> Bool),(∀ j o,ops[j]?=some o -> X j=true -> ∀ e ∈ o.after,Region.binds .any e=true -> X e.on=true) ->
     ∀ j o,ops[j]?=some o -> (∀ e ∈ o.after,Region.binds .any e=true -> X e.on=true) -> ∀ i ∈ pre j,X i=true:=by
  intro X hX j
  induction j using Nat.strongRecOn with
  | _ j ih =>
    intro o ho hall i hi;obtain ⟨e,he,hb,hc⟩:=hok.pre j o ho i hi
    rcases hc with rfl | hc
    . exact hall e he hb
    . have hlt:=hok.edge j o ho e he hb
      have hj:j < ops.size:=(Array.getElem?_eq_some_iff.1 ho).1;have ho':ops[e.on]?=some ops[e.on]:=Array.getElem?_eq_getElem (by omega)
      exact ih e.on hlt _ ho' (hX e.on _ ho' (hall e he hb)) i hc
 have main:∀ (fuel:Nat) (listed:Array Bool) (a:Act) (wc:World),listed.size=ops.size -> left ops.size listed <= fuel ->
     (∀ j o,ops[j]?=some o -> listed.getD j false=true -> ∀ e ∈ o.after,Region.binds .any e=true -> listed.getD e.on false=true) ->
     (∃ v w1 c,Inv ops pre Rel D E tail news a0 w.drew (fun k=>listed.getD k false) v w1 c a wc) -> wpAny P .any ops Q fuel listed a wc:=by
  intro fuel;have hdone:∀ (listed:Array Bool) (a:Act) (wc:World),listed.size=ops.size ->
      (∃ v w1 c,Inv ops pre Rel D E tail news a0 w.drew (fun k=>listed.getD k false) v w1 c a wc) -> Region.ready .any ops listed=[] -> Q .normal a wc:=by
   rintro listed a wc hsz ⟨v,w1,c,hI⟩ hr;have hall:∀ j,j < ops.size -> listed.getD j false=true:=by
    intro j
    induction j using Nat.strongRecOn with
    | _ j ih =>
      intro hj;cases hx:listed.getD j false with
      | true=>rfl
      | false =>
        have hmem:j ∈ Region.ready .any ops listed:=mem_ready.2 ⟨by rw [Q2m (by omega)]; exact hx,ops[j],Array.getElem?_eq_getElem hj,fun e he hb =>
         have hlt:=hok.edge j _ (Array.getElem?_eq_getElem hj) e he hb
         ih e.on hlt (by omega)⟩
        rw [hr] at hmem;cases hmem
   have hact:a=act (fun _=>true) v ops.toList 0 a0:=by
    rw [hI.act];refine X0b (by rw [Q2h,Q2h]) fun t=>Q5k _ _ _ _ t _ 0 _ _ rfl rfl fun k o ho _=>⟨?_,fun _=>rfl⟩
    rw [Nat.zero_add];exact hall k (by simpa using (List.getElem?_eq_some_iff.1 ho).1)
   rw [hact];refine hpost v w1 wc hI.rel (fun i hi k hk hne=>hI.newNe i hi k hk hne (hall i (hnews i hi).1) (hall k (hnews k hk).1)) (fun k hk hks=>hI.facts k (hall k hk) hks) ?_;have hl:=hI.last;have hc:c=tail.length:=by
    rcases Nat.lt_or_ge c tail.length with h | h
    . have h1:listed.getD tail[c] false=false:=hI.after c h (Nat.le_refl _)
      have h2:=hall _ (htail c h);rw [h2] at h1; cases h1
    . have:=hI.count; omega
   rw [hc] at hl;exact hl
  induction fuel with
  | zero =>
    intro listed a wc hsz hleft _ hI;have hr:Region.ready .any ops listed=[]:=by
     refine List.eq_nil_iff_forall_not_mem.2 fun j hj=>?_;obtain ⟨hun,o,ho,_⟩:=mem_ready.1 hj;have hlt:j < ops.size:=(Array.getElem?_eq_some_iff.1 ho).1;have:=Q8u hsz hlt hun;omega
    exact ⟨hr,hdone listed a wc hsz hI hr⟩
  | succ fuel ih =>
    intro listed a wc hsz hleft hcl hI;refine ⟨hdone listed a wc hsz hI,fun j hj=>?_⟩;obtain ⟨v,w1,c,hI⟩:=hI;obtain ⟨hun,o,ho,hall⟩:=mem_ready.1 hj;have hlt:j < ops.size:=(Array.getElem?_eq_some_iff.1 ho).1;have hunf:listed.getD j false=false:=by rw [<- Q2m (by omega)]; exact hun
    have hpre:=hclosed (fun k=>listed.getD k false) hcl j o ho hall;have hol:ops.toList[j]?=some o:=by simpa using ho
    have hfree:∀ k,k < ops.size -> listed.getD k false=true -> j ∉ pre k:=by
     intro k hk hx hmem;have ho':ops[k]?=some ops[k]:=Array.getElem?_eq_getElem hk;have h2:listed.getD j false=true:=hclosed (fun k=>listed.getD k false) hcl k _ ho' (hcl k _ ho' hx) j hmem;rw [hunf] at h2; cases h2
    have hlater:∀ k o',j < k -> ops[k]?=some o' -> listed.getD k false=true -> o.apart ops o'=true:=by
     intro k o' hk ho' hx
     rcases hok.apart j k o o' hk ho ho' with h | h
     . exact h
     . exact absurd h (hfree k (Array.getElem?_eq_some_iff.1 ho').1 hx)
    have hlooks:∀ t ∈ o.looksAt ops,a.tmps[t]?=(act (fun k=>decide (k < j)) v ops.toList 0 a0).tmps[t]?:=by
     intro t ht;rw [hI.act];refine Q5k _ _ _ _ t _ 0 _ _ rfl rfl fun k o' ho' hd=>?_;rw [Nat.zero_add];refine ⟨?_,fun _=>rfl⟩;have ho'':ops[k]?=some o':=by simpa using ho'
     rcases Nat.lt_trichotomy k j with hk | hk | hk
     . simp only [hk,decide_true]
       rcases hok.apart k j o' o hk ho'' ho with h | h
       . exact absurd ht ((Oper.apart_spec h).1 t hd)
       . exact hpre k h
     . subst hk
       simp [hunf]
     . have hnlt:¬ k < j:=by omega
       simp only [hnlt,decide_false];cases hx:listed.getD k false with
       | false=>rfl
       | true=>exact absurd ht ((Oper.apart_spec (hlater k o' hk ho'' hx)).2.2 t hd)
    have hexec:execOp a.eval o=execOp (act (fun k=>decide (k < j)) v ops.toList 0 a0).eval o:=execOp_congr o (fun cs b=>hok.sel j o cs b ho) (eval_congr o hlooks);have hwant:Region.wanted o (yielded ops a.tmps)=Region.wanted o (yielded ops (act (fun k=>decide (k < j)) v ops.toList 0 a0).tmps):=Q7s o hlooks;have hput:∀ u,a.put o.dst u=act (fun k=>if k=j then true else listed.getD k false) (upd v j u) ops.toList 0 a0:=by
     intro u;rw [hI.act];refine X9h hol hunf fun k o' hk ho' hx=>?_;cases hd:o.dst with
     | none=>exact .inr rfl
     | some d=>exact .inl ((Oper.apart_spec (hlater k o' hk (by simpa using ho') hx)).2.1 d hd)
    have hX:(fun k=>(listed.setIfInBounds j true).getD k false)=fun k=>if k=j then true else listed.getD k false:=by
     funext k
     split
     . rename_i hk; subst hk; simp [hsz,hlt]
     . rename_i hk; exact getD_set_ne false (Ne.symm hk)
    have hwhich:j ∈ tail -> ∃ h:c < tail.length,tail[c]=j:=by
     intro hmem;obtain ⟨i,hi,he⟩:=List.getElem_of_mem hmem;have hci:c <= i:=by
      rcases Nat.lt_or_ge i c with h | h
      . have:=hI.before i hi h
        simp only [he] at this;rw [hunf] at this; cases this
      . exact h
     have:c=i:=by
      rcases Nat.lt_or_ge c i with h | h
      . have hx:=hpre tail[c] (by rw [<- he]; exact hchain c i (by omega) hi h)
        have h1:=hI.after c (by omega) (Nat.le_refl _)
        rw [hx] at h1; cases h1
      . omega
     subst this;exact ⟨hi,he⟩
    have hnext:∀ (u:Value) (w1' wc':World) (c':Nat),Rel w1 w1' -> (j ∉ tail -> D j (mask pre j (upd v j u)) w1') -> (j ∉ tail -> c'=c) -> (j ∈ tail -> c'=c + 1) -> (j ∈ news -> ∃ g,u=.pointer (some ⟨g,0,none⟩) /\ w1.heap.size <= g /\ g < w1'.heap.size) ->
        Tail pre tail E c' (upd v j u) w1' wc' -> wpAny P .any ops Q fuel (listed.setIfInBounds j true) (a.put o.dst u) wc':=by
     intro u w1' wc' c' hrel hD hc1 hc2 hN hE;refine ih _ _ _ (by simpa using hsz) (by have:=Q8u hsz hlt hun; omega) (fun k ok hok' hx e he hb=>?_) ⟨upd v j u,w1',c',⟨by rw [hX]; exact hput u,htrans _ _ _ hI.rel hrel,fun k hx hks=>?_,?_,fun i hi hic=>?_,fun i hi hic=>?_,hE,fun i hi hx=>?_,fun i hi k hk hne hx hy=>?_⟩⟩
     . by_cases hkj:k=j
       . subst hkj
         rw [ho] at hok';cases hok';exact getD_set_true (hall e he hb)
       . rw [getD_set_ne false (Ne.symm hkj)] at hx
         exact getD_set_true (hcl k ok hok' hx e he hb)
     . rw [congrFun hX k] at hx
       by_cases hkj:k=j
       . subst hkj; exact hD hks
       . rw [if_neg hkj] at hx
         have hksz:k < ops.size:=by
          rcases Nat.lt_or_ge k ops.size with h | h
          . exact h
          . rw [<- hsz] at h; simp [Array.getElem?_eq_none h] at hx
         rw [Q9d (Ne.symm hkj) (hfree k hksz hx)];exact hmono k hksz _ _ _ hrel (hI.facts k hx hks)
     . by_cases hjt:j ∈ tail
       . obtain ⟨h,_⟩:=hwhich hjt
         rw [hc2 hjt]; omega
       . rw [hc1 hjt]; exact hI.count
     . rw [congrFun hX]
       by_cases hij:tail[i]=j
       . rw [if_pos hij]
       . rw [if_neg hij]
         by_cases hjt:j ∈ tail
         . obtain ⟨h,he⟩:=hwhich hjt
           rw [hc2 hjt] at hic;have:i ≠ c:=fun e=>hij (by subst e; exact he)
           exact hI.before i hi (by omega)
         . rw [hc1 hjt] at hic; exact hI.before i hi hic
     . rw [congrFun hX]
       by_cases hjt:j ∈ tail
       . obtain ⟨h,he⟩:=hwhich hjt
         rw [hc2 hjt] at hic;rw [if_neg (fun e=>by
          have h1:=hchain c i h hi (by omega)
          rw [e,he] at h1;obtain ⟨e',he',hb',hcc⟩:=hok.pre j o ho j h1;have hl:=hok.edge j o ho e' he' hb';have h2:listed.getD j false=true:=hpre j h1;rw [hunf] at h2; cases h2)]
         exact hI.after i hi (by omega)
       . rw [hc1 hjt] at hic
         rw [if_neg (fun e=>hjt (by rw [<- e]; exact List.getElem_mem hi))]
         exact hI.after i hi hic
     . rw [congrFun hX i] at hx
       by_cases hij:i=j
       . subst hij
         obtain ⟨g,hg,_,h2⟩:=hN hi;exact ⟨g,by simp [upd,hg],h2⟩
       . rw [if_neg hij] at hx
         obtain ⟨g,hg,h2⟩:=hI.newIn i hi hx;exact ⟨g,by simp [upd,hij,hg],Nat.lt_of_lt_of_le h2 (hrsz _ _ hrel)⟩
     . rw [congrFun hX i] at hx
       rw [congrFun hX k] at hy
       by_cases hij:i=j
       . subst hij
         rw [if_neg (Ne.symm hne)] at hy;obtain ⟨g,hg,h1,_⟩:=hN hi;obtain ⟨g',hg',h2⟩:=hI.newIn k hk hy;have e1:upd v i u i=u:=by simp [upd]
         have e2:upd v i u k=v k:=by simp [upd,Ne.symm hne]
         rw [e1,e2,hg,hg'];intro he;injection he with he;injection he with he;injection he with he;omega
       . rw [if_neg hij] at hx
         by_cases hkj:k=j
         . subst hkj
           obtain ⟨g,hg,h1,_⟩:=hN hk;obtain ⟨g',hg',h2⟩:=hI.newIn i hi hx;have e1:upd v k u k=u:=by simp [upd]
           have e2:upd v k u i=v i:=by simp [upd,hij]
           rw [e1,e2,hg,hg'];intro he;injection he with he;injection he with he;injection he with he;omega
         . rw [if_neg hkj] at hy
           have e1:upd v j u i=v i:=by simp [upd,hij]
           have e2:upd v j u k=v k:=by simp [upd,hkj]
           rw [e1,e2];exact hI.newNe i hi k hk hne hx hy
    have htailkeep:j ∉ tail -> ∀ u,Tail pre tail E c (upd v j u) w1 wc:=by
     intro hjt u;have hl:=hI.last;cases c with
     | zero=>exact hl
     | succ c =>
       have hct:c < tail.length:=by have:=hI.count; omega
       change E c (mask pre (tail.getD c 0) v) w1 wc at hl;show E c (mask pre (tail.getD c 0) (upd v j u)) w1 wc;have e:tail.getD c 0=tail[c]:=by simp [hct]
       rw [e] at hl ⊢;rw [Q9d (fun h=>hjt (by rw [h]; exact List.getElem_mem hct)) (hfree _ (htail c hct) (hI.before c hct (by omega)))]
       exact hl
    have hnone:kind j ≠ .world -> j ∉ news:=fun h1 h2=>h1 (hnews j h2).2.1;have hpass:Region.wanted o (yielded ops (act (fun k=>decide (k < j)) v ops.toList 0 a0).tmps)=false -> j ∉ news:=fun h1 h2=>by
     have h3:=((hnews j h2).2.2 o ho).1;simp [Region.wanted,h3] at h1
    unfold wpOp;simp only [ho];rw [hwant]
    by_cases hjt:j ∈ tail
    . obtain ⟨hc,he⟩:=hwhich hjt
      have hv:=hvl c hc o (by rw [he]; exact ho) v w1 hI.rel (fun k hk hkt=>hI.facts k (hpre k (by rw [<- he]; exact hk)) hkt) wc hI.last
      rw [he] at hv;have hT:∀ u w',E c (mask pre j (upd v j u)) w1 w' -> Tail pre tail E (c + 1) (upd v j u) w1 w':=by
       intro u w' h;show E c (mask pre (tail.getD c 0) (upd v j u)) w1 w';have e:tail.getD c 0=j:=by simp [hc,he]
       rw [e]; exact h
      rcases hv with ⟨hwt,hg⟩ | ⟨hwf,hD⟩
      . rw [if_pos hwt]
        refine .inl ?_;unfold Oper.wp;rw [hexec];exact Q1y (Q4a (fun u w' h=>hnext u w1 w' (c + 1) (hrefl _) (fun h=>absurd hjt h) (fun h=>absurd hjt h) (fun _=>rfl) (fun hn=>absurd hn (hnone (by rw [(hkind j hlt).2 hjt]; simp))) (hT u w' h)) hg)
      . rw [if_neg (by rw [hwf]; simp)]
        exact hnext undef w1 wc (c + 1) (hrefl _) (fun h=>absurd hjt h) (fun h=>absurd hjt h) (fun _=>rfl) (fun hn=>absurd hn (hpass hwf)) (hT _ _ hD)
    . have hfacts:∀ k ∈ pre j,D k (mask pre k v) w1:=fun k hk=>hI.facts k (hpre k hk) (hlate j hlt hjt k hk)
      have hv:=hvc j o ho hjt v w1 hI.rel hfacts;cases hk:kind j with
      | plain =>
        rw [hk] at hv
        rcases hv with ⟨hwt,u,hrun,hD⟩ | ⟨hwf,hD⟩
        . rw [if_pos hwt]
          refine .inl ?_;unfold Oper.wp;rw [hexec,hrun wc];exact hnext u w1 wc c (hrefl _) (fun _=>hD) (fun _=>rfl) (fun h=>absurd h hjt) (fun hn=>absurd hn (hnone (by rw [hk]; simp))) (htailkeep hjt u)
        . rw [if_neg (by rw [hwf]; simp)]
          exact hnext undef w1 wc c (hrefl _) (fun _=>hD) (fun _=>rfl) (fun h=>absurd h hjt) (fun hn=>absurd hn (hpass hwf)) (htailkeep hjt undef)
      | world =>
        have hc0:c=0:=by
         rcases Nat.eq_zero_or_pos c with h | h
         . exact h
         . have h0:0 < tail.length:=by have:=hI.count; omega
           have hx:=hI.before 0 h0 h;exact absurd (hearly j hlt hk tail[0] (List.getElem_mem h0)) (hfree _ (htail 0 h0) hx)
        subst hc0;have hwc:wc=w1:=hI.last;subst hwc;rw [hk] at hv
        rcases hv with ⟨hwt,hg⟩ | ⟨hwf,hD⟩
        . rw [if_pos hwt]
          refine .inl ?_;unfold Oper.wp;rw [hexec]
          by_cases hn:j ∈ news
          . obtain ⟨cc,hrun⟩:=((hnews j hn).2.2 o ho).2 (act (fun k=>decide (k < j)) v ops.toList 0 a0).eval wc
            rw [hrun] at hg ⊢;exact Q1y (hnext _ _ _ 0 hg.1 (fun _=>hg.2) (fun _=>rfl) (fun h=>absurd h hjt) (fun _=>⟨_,rfl,Nat.le_refl _,by rw [World.size_alloc]; exact Nat.lt_succ_self _⟩) rfl)
          . exact Q1y (Q4a (fun u w' h=>hnext u w' w' 0 h.1 (fun _=>h.2) (fun _=>rfl) (fun h=>absurd h hjt) (fun h=>absurd h hn) rfl) hg)
        . rw [if_neg (by rw [hwf]; simp)]
          exact hnext undef wc wc 0 (hrefl _) (fun _=>hD) (fun _=>rfl) (fun h=>absurd h hjt) (fun hn=>absurd hn (hpass hwf)) rfl
      | last=>exact absurd ((hkind j hlt).1 hk) hjt
 refine main ops.size _ a0 _ (by simp) ?_ (fun j o _ hx=>?_) ⟨fun _=>undef,w.drew,0,?_,hrefl _,fun k hx=>?_,Nat.zero_le _,fun i _ h=>absurd h (Nat.not_lt_zero _),fun i _ _=>?_,rfl,fun i _ hx=>?_,fun i _ _ _ _ hx=>?_⟩
 . exact Nat.le_trans (List.countP_le_length) (by simp)
 . have:=Q2k ops.size j
   rw [this] at hx; cases hx
 . refine (X0b (by rw [Q2h]) fun t=>?_)
   have:∀ (l:List Oper) (i:Nat) (a:Act),act (fun k=>(Array.replicate ops.size false).getD k false) (fun _=>undef) l i a=a:=by
    intro l; induction l with
    | nil=>intro i a; rfl
    | cons o l ih=>intro i a; rw [act,ih,Q2k]; rfl
   rw [this]
 . have:=Q2k ops.size k
   rw [this] at hx; cases hx
 . exact Q2k ops.size _
 . have:=Q2k ops.size i
   rw [this] at hx; cases hx
 . have:=Q2k ops.size i
   rw [this] at hx; cases hx
end
end Go.Flow
