/- Contract: slices.SortFunc over histories. What CompactFunc keeps of a sorted list of histories; clear of the rest of a block of one-cell elements. Contract: slices.CompactFunc over histories. -/
import Derived.Test.YthnobngcipaljaaGreatDoorPn15
import Derived.Test.YthnobngcipaljaaGreatDoorPn04
import Derived.Test.YthnobngcipaljaaGreatDoorPn11
import Derived.Test.YthnobngcipaljaaGreatDoorPn05
import Derived.Test.YthnobngcipaljaaGreatDoorPn02
import Derived.Test.YthnobngcipaljaaGreatDoorPn09
import Derived.Test.YthnobngcipaljaaGreatDoorPn13
set_option maxRecDepth 1000000
set_option maxHeartbeats 64000000
set_option linter.unusedVariables false
set_option linter.unusedSimpArgs false
set_option linter.constructorNameAsVariable false
namespace Go.Proofs
open Go.RowKit Go.Tw Go.Flow Go.Sort
theorem Z8j (x y:Int):Y5j x y < 0 ↔ x < y:=by unfold Y5j; split <;> (try split) <;> omega
theorem Y6s (x y:Int) (l m:List Int):cmpL (x :: l) (y :: m) < 0 ↔ x < y ∨ (x=y /\ cmpL l m < 0):=by
 show (if x=y then cmpL l m else Y5j x y) < 0 ↔ _
 split
 . rename_i h; simp [h]
 . rename_i h; rw [Z8j]; simp [h]
theorem Y5p:∀ a b:List Int,a.length=b.length -> (Q5b a b=true ↔ cmpL a b < 0)
 | [],[],_=>by simp [Q5b,cmpL]
 | [],_ :: _,h=>by simp at h
 | _ :: _,[],h=>by simp at h
 | x :: l,y :: m,h=>by
   rw [Y6s];show (if x=y then Q5b l m else decide (x < y))=true ↔ _
   split
   . rename_i hxy
     rw [Y5p l m (by simpa using h)]
     simp [hxy]
   . rename_i hxy
     simp [hxy]
theorem X3s (x y:Int):Y5j x y=0 ↔ x=y:=by unfold Y5j; split <;> (try split) <;> omega
theorem Y6d:∀ a b:List Int,cmpL a b=0 ↔ a=b
 | [],[]=>by simp [cmpL]
 | [],_ :: _=>by simp [cmpL]
 | _ :: _,[]=>by simp [cmpL]
 | x :: l,y :: m=>by
   show (if x=y then cmpL l m else Y5j x y)=0 ↔ _
   split
   . rename_i h; rw [Y6d l m]; simp [h]
   . rename_i h; rw [X3s]; simp [h]
theorem X3r (a b:List Int):Y3i a b=0 ↔ a=b:=by
 unfold Y3i
 split
 . exact Y6d a b
 . rename_i h
   constructor
   . intro k; exact absurd k h
   . intro k; subst k; exact absurd ((X3s _ _).2 rfl) h
theorem Q7a (a b:List Int):Y3i a b < 0 ↔ Q2a a b=true:=by
 unfold Y3i Q2a
 split
 . rename_i h
   have hl:a.length=b.length:=by have:=(X3s _ _).1 h; omega
   rw [if_pos hl];exact (Y5p a b hl).symm
 . rename_i h
   have hl:¬ a.length=b.length:=fun e=>h (by rw [e]; exact (X3s _ _).2 rfl)
   rw [if_neg hl,Z8j,decide_eq_true_iff];omega
theorem Z0q (a:List Int):¬ Y3i a a < 0:=by rw [Q7a]; exact Q7l a
theorem Y1v {a b c:List Int} (h1:Y3i a b < 0) (h2:Y3i b c < 0):Y3i a c < 0:=by rw [Q7a] at *; exact Q6f h1 h2
theorem Z2a (a b:List Int):Y3i a b < 0 ∨ a=b ∨ Y3i b a < 0:=by
 rw [Q7a,Q7a];cases h:Q2a a b with
 | true=>exact .inl rfl
 | false=>exact .inr (X9k h)
theorem Z9u (f:Nat -> List Int):SWO (ltOf fun x y:Nat=>Y3i (f x) (f y)) where
 irrefl x:=by simpa [ltOf] using Z0q (f x)
 trans x y z h1 h2:=by simp only [ltOf,decide_eq_true_eq] at *; exact Y1v h1 h2
 ntrans x y z h1 h2:=by
  simp only [ltOf,decide_eq_false_iff_not] at *;intro h
  rcases Z2a (f x) (f y) with h' | h' | h'
  . exact h1 h'
  . rw [h'] at h; exact h2 h
  . exact h2 (Y1v h' h)
def Sets (w:World) (vs:List Value) (ll:List (List Int)):Prop:=vs.length=ll.length /\ ∀ i,i < ll.length -> Q0m w 0 3 (.int .i64) (vs.getD i undef) (ll.getD i []) /\ (ll.getD i []).length <= 8
theorem Z1m {w W:World} {v:Value} {l:List Int} (h:Q0m w 0 3 (.int .i64) v l) (hb:∀ b,v.ownBlock=some b -> b < w.heap.size -> W.heap[b]?=w.heap[b]?):Q0m W 0 3 (.int .i64) v l:=by
 obtain ⟨h1,h2⟩:=h;refine ⟨h1,?_⟩
 rcases h2 with h2 | ⟨g,cap,cur,hv,hbg,hg,r⟩
 . exact .inl h2
 . exact .inr ⟨g,cap,cur,hv,hbg,(hb g (by rw [hv]; rfl) (Array.getElem?_eq_some_iff.1 hg).1).trans hg,r⟩
theorem Y4n {w:World} {v:Value} {l:List Int} {g:Nat} {cur:Array Value} {fr:Nat × Nat} (h:Q0m w 0 3 (.int .i64) v l) (hg:w.heap[g]?=some (.cells cur 166 fr)):v.ownBlock ≠ some g:=by
 intro e;obtain ⟨h1,h2⟩:=h
 rcases h2 with ⟨rfl,_⟩ | ⟨g',cap,cur',rfl,hbg,hg',r⟩
 . cases e
 . obtain rfl:g'=g:=by simpa [Value.ownBlock] using e
   rw [hg] at hg';injection hg' with h;injection h with _ h;exact absurd h (by decide)
theorem Sets.at {w W:World} {vs:List Value} {ll:List (List Int)} (h:Sets w vs ll) (hb:∀ v l,Q0m w 0 3 (.int .i64) v l -> ∀ b,v.ownBlock=some b -> b < w.heap.size -> W.heap[b]?=w.heap[b]?):Sets W vs ll :=
 ⟨h.1,fun i hi=>⟨Z1m (h.2 i hi).1 (hb _ _ (h.2 i hi).1),(h.2 i hi).2⟩⟩
theorem Sets.ext {w W:World} {vs:List Value} {ll:List (List Int)} (h:Sets w vs ll) (hx:Ext w W):Sets W vs ll:=h.at fun _ _ _ b _ hb=>Below.block hx b hb
theorem Sets.reads {w:World} {vs:List Value} {ll:List (List Int)} (h:Sets w vs ll):Reads w vs ll:=⟨h.1,fun i hi=>(h.2 i hi).1.ints (by have:=(h.2 i hi).2; omega)⟩
theorem Sets.nil (w:World):Sets w [] []:=⟨rfl,fun i hi=>by simp at hi⟩
theorem Sets.snoc {w:World} {vs:List Value} {ll:List (List Int)} {v:Value} {l:List Int} (h:Sets w vs ll) (hv:Q0m w 0 3 (.int .i64) v l) (hl:l.length <= 8):Sets w (vs ++ [v]) (ll ++ [l]):=by
 refine ⟨by simp [h.1],fun i hi=>?_⟩
 rw [List.length_append,List.length_singleton] at hi
 by_cases hlt:i < ll.length
 . have e1:(vs ++ [v]).getD i undef=vs.getD i undef:=by simp [List.getElem?_append_left (show i < vs.length by rw [h.1]; exact hlt)]
   have e2:(ll ++ [l]).getD i []=ll.getD i []:=by simp [List.getElem?_append_left hlt]
   rw [e1,e2]; exact h.2 i hlt
 . have e:i=ll.length:=by omega
   have e1:(vs ++ [v]).getD i undef=v:=by rw [e,<- h.1]; simp
   have e2:(ll ++ [l]).getD i []=l:=by rw [e]; simp
   rw [e1,e2]; exact ⟨hv,hl⟩
theorem Q5q {α:Type} [Inhabited α] (enc:α -> Value) (w:World) (blk off n:Nat) (d:Array α) (os:Array Obj) {k:Nat} (hk:k < w.heap.size) (hne:k ≠ blk):(sortWorld enc w blk off n d os).heap[k]?=w.heap[k]?:=by
 unfold sortWorld;rw [heap_grow_old _ _ (by rw [size_putRow]; exact hk)]
 show (w.heap.modify blk _)[k]?=_;rw [Array.getElem?_modify,if_neg (fun h=>hne h.symm)]
theorem Y1n {α:Type} [Inhabited α] (enc:α -> Value) (w:World) (blk off n:Nat) (d:Array α) (os:Array Obj):w.heap.size <= (sortWorld enc w blk off n d os).heap.size:=by
 unfold sortWorld;rw [size_grow,size_putRow]; show w.heap.size <= w.heap.size + _; omega
theorem X8v {α:Type} [Inhabited α] (enc:α -> Value) (w:World) (blk off n:Nat) (d:Array α) (os:Array Obj):w.grownBy (sortWorld enc w blk off n d os) (some blk) :=
 ⟨rfl,rfl,rfl,Y1n _ _ _ _ _ _ _,fun k hk hne=>Q5q _ _ _ _ _ _ _ hk (fun e=>hne (by rw [e]))⟩
theorem X9g {α:Type} [Inhabited α] (enc:α -> Value) (w:World) (blk off n:Nat) (d0 d:Array α) (os:Array Obj) (h0:Holds enc w blk off d0) (hs:d.size=d0.size) (hb:blk < w.heap.size):Holds enc (sortWorld enc w blk off n d os) blk off d:=by
 unfold sortWorld;exact holds_grow _ _ _ _ _ _ (by rw [size_putRow]; exact hb) (holds_putRow enc (Sort.ahead w n) blk off d0 d (holds_ahead _ _ _ _ _ _ h0) hs)
theorem Z8s {w:World} {v:Value} {l:List Int} {g:Nat} {cs:Array Value} {T:TypeId} (hT:T ≠ 3) (h:Q0m w 0 3 (.int .i64) v l) (hg:Blk w g T cs):v.ownBlock ≠ some g:=by
 intro e;obtain ⟨h1,h2⟩:=h
 rcases h2 with ⟨rfl,_⟩ | ⟨g',cap,cur',rfl,hbg,hg',r⟩
 . cases e
 . obtain rfl:g'=g:=by simpa [Value.ownBlock] using e
   unfold Blk at hg;rw [hg] at hg';injection hg' with h;injection h with _ h;exact hT h
theorem Y3r {α:Type} [Inhabited α] (enc:α -> Value) (w:World) (g n:Nat) (d:Array α) (os:Array Obj) {T:TypeId} {cur:Array Value} (hb:Blk w g T cur):∃ cur',Blk (sortWorld enc w g 0 n d os) g T cur' /\ cur'.size=cur.size:=by
 refine ⟨putCells enc 0 d cur,?_,by simp [putCells]⟩
 unfold Blk sortWorld;rw [heap_grow_old _ _ (by rw [size_putRow]; exact hb.lt)]
 show (w.heap.modify g _)[g]?=_;rw [Array.getElem?_modify,if_pos rfl];unfold Blk at hb;rw [hb]; rfl
def Sorted (ll:List (List Int)):Prop:=ll.Pairwise fun a b=>¬ Y3i b a < 0
def Z2d (w:World) (g:Nat) (cur vs:List Value) (ll:List (List Int)):Prop:=Blk w g 166 cur.toArray /\ cur.take vs.length=vs /\ Sets w vs ll
theorem Z9v (w:World) (g cap base:Nat) (vs:List Value) (ll:List (List Int)) (hown:Q0m w base 166 idV (.slice (some ⟨g,0,none⟩) vs.length cap) vs) (hs:Sets w vs ll) (hle:ll.length <= 4096) :
    Calls Tryz.prog 159 #[.slice (some ⟨g,0,none⟩) ll.length cap,.func (.func 160) #[] #[]] w fun e w'=>e=.returned (.tuple #[]) /\ ∃ ll' cur vs',ll'.Perm ll /\ Sorted ll' /\ Z2d w' g cur vs' ll' /\ w.grownBy w' (some g):=by
 obtain ⟨cur,hcur,hgl,hcap,htake⟩:∃ cur,w.heap[g]?=some (.cells cur 166 (0,0)) /\ g < w.heap.size /\ vs.length <= cap /\ cur.toList.take vs.length=vs:=by
  obtain ⟨h1,h2⟩:=hown
  rcases h2 with ⟨h2,_⟩ | ⟨g',cap',cur,hv,hb,hg,hc,hm,hz,ht⟩
  . cases h2
  . injection hv with e1 e2 e3
    injection e1 with e1;injection e1 with e1;subst e1; subst e3;refine ⟨cur,hg,(Array.getElem?_eq_some_iff.1 hg).1,hc,?_⟩;have hid:vs.map idV=vs:=by show vs.map id=vs; exact List.map_id vs
    rw [hid,Nat.mul_one] at ht;exact ht
 have hlen:=hs.1;obtain ⟨K,hK⟩:∃ K,ll.length=K:=⟨_,rfl⟩;rw [hK] at hlen hle ⊢
 let z:Value:=.slice none 0 0
 let enc:Nat -> Value:=fun x=>vs.getD x z
 let cont:Nat -> List Int:=fun x=>ll.getD x []
 have hint:∀ x W,(∀ k,k < w.heap.size -> k ≠ g -> W.heap[k]?=w.heap[k]?) -> Q0e W (enc x) (cont x):=by
  intro x W hW
  by_cases hx:x < K
  . have h1:=(hs.2 x (by omega)).1
    have h2:=Z1m (W:=W) h1 (fun b hb hbl=>hW b hbl (fun e=>Y4n h1 hcur (by rw [<- e]; exact hb)))
    have h3:=h2.ints (by have:=(hs.2 x (by omega)).2; omega)
    have e1:vs.getD x undef=enc x:=by simp [enc,z,show x < vs.length by omega]
    rw [e1] at h3;exact h3
  . have e1:enc x=.slice none 0 0:=by simp [enc,z,show ¬ x < vs.length by omega,List.getD_eq_getElem?_getD]
    have e2:cont x=[]:=by simp [cont,List.getD_eq_getElem?_getD,List.getElem?_eq_none (show ll.length <= x by omega)]
    rw [e1,e2];exact Rows.nil 1 _ W
 have hone:OneCell enc:=by
  intro x;obtain ⟨A,c,he,_⟩:=(hint x w (fun _ _ _=>rfl)).opened
  rw [he]; rfl
 have hH:Holds enc w g 0 (Array.range K):=by
  intro j hj;rw [Array.size_range] at hj;have e1:(Array.range K)[j]! = j:=by rw [getElem!_pos _ j (by simpa using hj)]; simp
  rw [e1];refine ⟨?_,by simp [World.frozen?,hcur]⟩
  have h1:=congrArg (fun l=>l[j]?) htake;rw [Nat.zero_add];simp only [List.getElem?_take,show j < vs.length by omega,if_true] at h1
  show (match w.heap[g]? with | some (.cells c _ _)=>_ | _=>_)=_
  rw [hcur];simp only [Option.isSome_none,Bool.false_eq_true,if_false];rw [<- Array.getElem?_toList,h1];simp [enc,show j < vs.length by omega]
 have hcmp:CmpLays1 Tryz.prog 160 #[] enc (fun x y=>Y3i (cont x) (cont y)) g 0 (Array.range K).size w:=by
  intro m os dk hdk x y;have h:=X6l (sortWorld enc w g 0 m dk os) (enc x) (enc y) (cont x) (cont y) (hint x _ (fun k hk hne=>Q5q _ _ _ _ _ _ _ hk hne)) (hint y _ (fun k hk hne=>Q5q _ _ _ _ _ _ _ hk hne));exact h.mono fun e w' ⟨he,o,hw⟩=>⟨he,0,#[o],by rw [hw,alloc_eq_grow]; rfl⟩
 have eg:∀ args w,(callFunc 160 args).run Tryz.prog w=.ok (.enter 160 args) w:=enters_of Tryz.func160 (by kernel_rfl) rfl
 have hcon:=Any.slices_SortFunc Tryz.sortSet enc hone (fun x y=>Y3i (cont x) (cont y)) (Z9u cont) 160 #[] g 0 cap (Array.range K) w eg hcmp hH hgl (by rw [Array.size_range]; omega)
 rw [Array.size_range] at hcon;change Calls Tryz.prog 159 _ _ _ at hcon;refine hcon.mono fun e w' ⟨he,d',n,os,hp,hso,hw⟩=>⟨he,?_⟩;subst hw;obtain ⟨hp1,_,hp3⟩:=hp;rw [Array.size_range] at hp1;have hperm:d'.toList.Perm (List.range K):=by
  have e1:d'.extract 0 K=d':=by rw [<- hp1]; simp
  have e2:(Array.range K).extract 0 K=Array.range K:=by
   apply Array.toList_inj.1
   rw [Array.toList_extract,List.extract_eq_take_drop,List.drop_zero];exact List.take_of_length_le (by simp)
  rw [e1,e2] at hp3
  simpa using hp3
 have hll:(List.range K).map cont=ll:=by
  apply List.ext_getElem
  . simp [hK]
  . intro i h1 h2; simp [cont,h2]
 obtain ⟨cur',hb',hcs⟩:=Y3r enc w g n d' os (show Blk w g 166 cur from hcur)
 have hho:=X9g enc w g 0 n (Array.range K) d' os hH (by simp [hp1]) hgl
 have hcl:K <= cur'.size:=by
  have:cur.toList.length=cur.size:=Array.length_toList;have h2:=congrArg List.length htake;rw [List.length_take] at h2;omega
 have hvl:(d'.toList.map enc).length=K:=by simp [hp1]
 refine ⟨d'.toList.map cont,cur'.toList,d'.toList.map enc,by rw [<- hll]; exact hperm.map cont,?_,⟨by rw [Array.toArray_toList]; exact hb',?_,?_,?_⟩,X8v _ _ _ _ _ _ _⟩
 . unfold Sorted
   rw [List.pairwise_map,List.pairwise_iff_getElem];intro i j hi hj hij;have hi':i < d'.size:=by simpa using hi
   have hj':j < d'.size:=by simpa using hj
   have h:=hso i j (Nat.zero_le _) hij (by omega)
   rw [getElem!_pos d' i hi',getElem!_pos d' j hj'] at h
   simpa [ltOf] using h
 . apply List.ext_getElem
   . rw [List.length_take,hvl,Array.length_toList]; omega
   . intro i h1 h2
     have hi:i < K:=by rw [hvl] at h2; exact h2
     have h3:=(hho i (by omega)).1
     rw [Nat.zero_add,hb'.cell,Array.getElem?_eq_getElem (by omega),Option.some.injEq] at h3
     rw [List.getElem_take,Array.getElem_toList,h3,List.getElem_map,Array.getElem_toList,getElem!_pos d' i (by omega)]
 . simp
 . intro i hi
   have hi':i < K:=by simpa [hp1] using hi
   have hid:i < d'.size:=by omega
   have hx:d'[i] < K:=by
    have:=hperm.mem_iff.1 (show d'[i] ∈ d'.toList from by simp)
    exact List.mem_range.1 this
   have h1:=hs.2 d'[i] (by omega)
   have e1:(d'.toList.map enc).getD i undef=vs.getD d'[i] undef:=by
    rw [List.getD_eq_getElem?_getD,List.getElem?_eq_getElem (by rw [hvl]; exact hi'),List.getElem_map,Array.getElem_toList]
    simp [enc,show d'[i] < vs.length by omega]
   have e2:(d'.toList.map cont).getD i []=ll.getD d'[i] []:=by
    rw [List.getD_eq_getElem?_getD,List.getElem?_eq_getElem (by simp [hp1]; exact hi'),List.getElem_map,Array.getElem_toList]
    simp [cont]
   rw [e1,e2];refine ⟨Z1m h1.1 fun b hb hbl=>Q5q _ _ _ _ _ _ _ hbl fun e=>Y4n h1.1 hcur (by rw [<- e]; exact hb),h1.2⟩
end Go.Proofs
namespace Go.Tw
open Go.RowKit Go.Flow
theorem Z0w {P:Program} {w:World} (t ty e:TypeId) (ht:P.underlying t=some (.slice e)) {g off:Nat} {T:TypeId} {cur:Array Value} (hb:Blk w g T cur) (n cap:Nat) (hn:0 < n) (z:Value) (hz:∀ w,(zeroValue e).run P w=.ok z w) (h1:∀ v ∈ (Builtin.zeroCells z.cells n).toList,v.oneCell'=true) (hfit:off + (Builtin.zeroCells z.cells n).size <= cur.size) :
    ∃ w',(Builtin.clear_ #[t] ty #[.slice (some ⟨g,off,none⟩) n cap]).run P w=.ok (.tuple #[]) w' /\ Blk w' g T (Q3m cur off (Builtin.zeroCells z.cells n).toList) /\ (∀ n,n <= g -> Below n w w') /\ ∀ k,k ≠ g -> w'.heap[k]?=w.heap[k]?:=by
 obtain ⟨w',hr,hb',hl,hoo⟩:=Q8b (P:=P) (off:=off) (Builtin.zeroCells z.cells n).toList 0 w cur hb h1 (by simpa using hfit)
 refine ⟨w',?_,by simpa using hb',hl,hoo⟩
 obtain ⟨m,rfl⟩:∃ m,n=m + 1:=⟨n - 1,by omega⟩
 simp [Builtin.clear_,run_underlying ht,hz,hr]
theorem X1l {P:Program} {w:World} {ops:Array Oper} {rest:List Oper} {o:Oper} {a:Act} {Q:Exit -> Act -> World -> Prop} (hgd:o.guard=none) (x:Operand) (t e:TypeId) (ho:o.op=.call { callee:=.builtin .clear,args:=#[x],argTypes:=#[t] }) (ht:P.underlying t=some (.slice e))
    {g off n cap:Nat} (hn:0 < n) (hx:a.eval x=.slice (some ⟨g,off,none⟩) n cap) {T:TypeId} {cur:Array Value} (hb:Blk w g T cur) (z:Value) (hz:∀ w,(zeroValue e).run P w=.ok z w) (h1:∀ v ∈ (Builtin.zeroCells z.cells n).toList,v.oneCell'=true) (hfit:off + (Builtin.zeroCells z.cells n).size <= cur.size)
    (hK:∀ w',Blk w' g T (Q3m cur off (Builtin.zeroCells z.cells n).toList) -> (∀ n,n <= g -> Below n w w') -> (∀ k,k ≠ g -> w'.heap[k]?=w.heap[k]?) -> wpList P ops Q rest (a.put o.dst (.tuple #[])) w'):wpList P ops Q (o :: rest) a w:=by
 refine wpList_plain hgd fun K' hK'=>?_;unfold Oper.wp;obtain ⟨w',hr,hb',hl,hoo⟩:=Z0w (P:=P) t o.type e ht hb n cap hn z hz h1 hfit;have hr2:(execOp a.eval o).run P w=.ok (.value (.tuple #[])) w':=by
  unfold execOp;simp only [ho,resolve,invoke,builtin,Sem.run_bind,Sem.run_pure,Result.andThen_ok,List.map_toArray,List.map_cons,List.map_nil,hx,hr]
 rw [hr2];exact hK' _ _ (hK w' hb' hl hoo)
theorem X0d (n:Nat):(Builtin.zeroCells (Value.slice none 0 0).cells n).toList=List.replicate n (.slice none 0 0):=by
 apply List.ext_getElem?
 intro j;unfold Builtin.zeroCells
 by_cases hj:j < n
 . simp [Value.cells,hj,Nat.mod_one]
 . simp [Value.cells,hj]
end Go.Tw
namespace Go.Proofs
open Go.RowKit Go.Tw Go.Flow
structure Kept (ll r:List (List Int)) (j:Nat):Prop where
 asc:Asc r
 last:∃ r0,r=r0 ++ [ll.getD j []]
 mem:∀ x,x ∈ r ↔ x ∈ ll.take (j + 1)
theorem Kept.start {ll:List (List Int)} (h:0 < ll.length):Kept ll [ll.getD 0 []] 0 where
 asc:=by unfold Asc; simp
 last:=⟨[],rfl⟩
 mem x:=by rw [List.take_succ_eq_append_getElem h]; simp [h]
theorem X3m {ll:List (List Int)} {j:Nat} (hj:j + 1 < ll.length) (x:List Int):x ∈ ll.take (j + 2) ↔ x ∈ ll.take (j + 1) ∨ x=ll.getD (j + 1) []:=by
 have e:ll.getD (j + 1) []=ll[j + 1]:=by simp [hj]
 rw [show j + 2=(j + 1) + 1 from rfl,List.take_succ_eq_append_getElem hj,List.mem_append,List.mem_singleton,e]
theorem Kept.same {ll r:List (List Int)} {j:Nat} (h:Kept ll r j) (hj:j + 1 < ll.length) (he:ll.getD (j + 1) []=ll.getD j []):Kept ll r (j + 1) where
 asc:=h.asc
 last:=by rw [he]; exact h.last
 mem x:=by
  rw [X3m hj,h.mem x]
  constructor
  . exact .inl
  . rintro (k | k)
    . exact k
    . obtain ⟨r0,hr⟩:=h.last
      rw [<- h.mem x,k,he,hr]; simp
theorem Kept.snoc {ll r:List (List Int)} {j:Nat} (h:Kept ll r j) (hs:Sorted ll) (hj:j + 1 < ll.length) (he:ll.getD (j + 1) [] ≠ ll.getD j []):Kept ll (r ++ [ll.getD (j + 1) []]) (j + 1) where
 asc:=by
  have hb:Q2a (ll.getD j []) (ll.getD (j + 1) [])=true:=by
   have h1:=List.pairwise_iff_getElem.1 hs j (j + 1) (by omega) hj (by omega)
   have e1:ll.getD j []=ll[j]:=by simp [show j < ll.length by omega]
   have e2:ll.getD (j + 1) []=ll[j + 1]:=by simp [hj]
   rw [e1,e2] at he ⊢;rw [<- Q7a]
   rcases Z2a ll[j] ll[j + 1] with k | k | k
   . exact k
   . exact absurd k.symm he
   . exact absurd k h1
  obtain ⟨r0,hr⟩:=h.last;have ha:=h.asc;unfold Asc at ha ⊢;rw [List.pairwise_append];refine ⟨ha,List.pairwise_singleton _ _,?_⟩;intro a ham b hbm;rw [List.mem_singleton] at hbm;subst hbm;rw [hr,List.pairwise_append] at ha;rw [hr,List.mem_append,List.mem_singleton] at ham
  rcases ham with ham | ham
  . exact Q6f (ha.2.2 a ham _ (List.mem_singleton.2 rfl)) hb
  . subst ham; exact hb
 last:=⟨r,rfl⟩
 mem x:=by rw [X3m hj,List.mem_append,h.mem x,List.mem_singleton]
theorem Kept.all {ll r:List (List Int)} {j:Nat} (h:Kept ll r j) (hj:j + 1=ll.length):Asc r /\ ∀ x,x ∈ r ↔ x ∈ ll :=
 ⟨h.asc,fun x=>by rw [h.mem x,hj,List.take_length]⟩
theorem Kept.take_snoc {ll:List (List Int)} {j:Nat} (hj:j + 1 < ll.length):ll.take (j + 1) ++ [ll.getD (j + 1) []]=ll.take (j + 2):=by
 have e:ll.getD (j + 1) []=ll[j + 1]:=by simp [hj]
 rw [show j + 2=(j + 1) + 1 from rfl,List.take_succ_eq_append_getElem hj,e]
theorem Kept.first {ll:List (List Int)} (h:0 < ll.length):Kept ll (ll.take 1) 0:=by
 have e:ll.take 1=[ll.getD 0 []]:=by rw [List.take_succ_eq_append_getElem h]; simp [h]
 rw [e]; exact Kept.start h
theorem Tryz.Z9r (w:World):(zeroValue 166).run Tryz.prog w=.ok (.slice none 0 0) w:=by kernel_rfl
theorem Tryz.J0v (w:World):(sizeOf 166).run Tryz.prog w=.ok 1 w:=by kernel_rfl
theorem Z2d.ext {w w':World} {g:Nat} {cur vs:List Value} {ll:List (List Int)} (h:Z2d w g cur vs ll) (hx:Ext w w'):Z2d w' g cur vs ll:=⟨h.1.ext hx,h.2.1,h.2.2.ext hx⟩
theorem Z2d.at {w:World} {g:Nat} {cur vs:List Value} {ll:List (List Int)} (h:Z2d w g cur vs ll) {k:Nat} (hk:k < ll.length) :
    w.cell? ⟨g,k,none⟩=some (vs.getD k undef) /\ Q0e w (vs.getD k undef) (ll.getD k []) /\ Q0m w 0 3 (.int .i64) (vs.getD k undef) (ll.getD k []) /\ (ll.getD k []).length <= 8:=by
 obtain ⟨hb,ht,hs⟩:=h;have hl:=hs.1;have h1:=hs.2 k hk;refine ⟨?_,h1.1.ints (by have:=h1.2; omega),h1.1,h1.2⟩
 rw [hb.cell,List.getElem?_toArray];have h2:=congrArg (fun l=>l[k]?) ht;simp only [List.getElem?_take,show k < vs.length by omega,if_true] at h2
 rw [h2];simp [show k < vs.length by omega]
theorem Z2d.reads {w:World} {g cap:Nat} {cur vs:List Value} {ll:List (List Int)} (h:Z2d w g cur vs ll) (hl:ll.length <= 1000) (hc:ll.length <= cap):Q3q w (.slice (some ⟨g,0,none⟩) ll.length cap) ll :=
 ⟨fun k=>vs.getD k undef,⟨_,cap,rfl,by omega,hc,fun j hj=>⟨g,0,rfl,by rw [Nat.zero_add]; exact (h.at (by omega)).1⟩⟩,fun j hj=>by
  have:=(h.at hj).2.1
  simpa [hj] using this⟩
end Go.Proofs
namespace Go.Proofs
open Go.RowKit Go.Tw Go.Flow
attribute [local go_sem] Oper.semAt_some
def Cpt (W wr:World) (g:Nat) (cur vs:List Value) (ll:List (List Int)) (K k2 kw:Nat):Prop :=
 ∃ cur' vr r,Z2d wr g cur' vr r /\ Kept ll r (K + k2 - 1) /\ r.length=kw /\ cur'.length=cur.length /\ (∀ j,K + k2 <= j -> cur'[j]?=cur[j]?) /\ (cur'[K + k2 - 1]?=cur[K + k2 - 1]?) /\ Sets wr vs ll /\ W.grownBy wr (some g)
theorem Q5d {a w w':World} {row:Option Nat} (h:a.grownBy w row) (hx:Ext w w'):a.grownBy w' row :=
 ⟨hx.os.trans h.os,hx.tape.trans h.tape,hx.output.trans h.output,Nat.le_trans h.size hx.size,fun i hi hr=>(hx.block i (Nat.lt_of_lt_of_le hi h.size)).trans (h.block i hi hr)⟩
theorem X0i {a w w':World} {g:Nat} (h:a.grownBy w (some g)) (hb:Below 0 w w') (ho:∀ k,k ≠ g -> w'.heap[k]?=w.heap[k]?):a.grownBy w' (some g) :=
 ⟨hb.os.trans h.os,hb.tape.trans h.tape,hb.output.trans h.output,Nat.le_trans h.size hb.size,fun i hi hr=>(ho i (fun e=>hr (by rw [e]))).trans (h.block i hi hr)⟩
theorem Q6l (w:World) (row:Option Nat):w.grownBy w row:=⟨rfl,rfl,rfl,Nat.le_refl _,fun _ _ _=>rfl⟩
theorem Q8p {a w w':World} {row:Option Nat} (h:a.grownBy w row) (k:w.grownBy w' row):a.grownBy w' row :=
 ⟨k.os.trans h.os,k.tape.trans h.tape,k.output.trans h.output,Nat.le_trans h.size k.size,fun i hi hr=>(k.block i (Nat.lt_of_lt_of_le hi h.size) hr).trans (h.block i hi hr)⟩
theorem X3l {w w':World} {vs:List Value} {ll:List (List Int)} {g:Nat} {cs:Array Value} (h:Sets w vs ll) (hb:Blk w g 166 cs) (ho:∀ k,k ≠ g -> w'.heap[k]?=w.heap[k]?):Sets w' vs ll :=
 h.at fun _ _ hv b hbv _=>ho b fun e=>Z8s (by decide) hv hb (by rw [hbv,e])
theorem Cpt.ext {W wr wr':World} {g:Nat} {cur vs:List Value} {ll:List (List Int)} {K k2 kw:Nat} (h:Cpt W wr g cur vs ll K k2 kw) (hx:Ext wr wr'):Cpt W wr' g cur vs ll K k2 kw:=by
 obtain ⟨cur',vr,r,ha,hk,hl,hcl,hj,hj1,hs,hg⟩:=h;exact ⟨cur',vr,r,ha.ext hx,hk,hl,hcl,hj,hj1,hs.ext hx,Q5d hg hx⟩
theorem Cpt.put {W wr w9:World} {g:Nat} {cur cur' vs vr:List Value} {ll r:List (List Int)} {K k2 kw:Nat} (ha:Z2d wr g cur' vr r) (hkp:Kept ll r (K + k2 - 1)) (hrl:r.length=kw) (hcl:cur'.length=cur.length) (hjj:∀ j,K + k2 <= j -> cur'[j]?=cur[j]?) (hss:Sets wr vs ll) (hg:W.grownBy wr (some g))
    (hs:Sorted ll) (hlt:K + k2 < ll.length) (hkw:kw + 1 <= K + k2) (hll:ll.length <= cur.length) (hne:ll.getD (K + k2) [] ≠ ll.getD (K + k2 - 1) []) (hb9:Blk w9 g 166 (cur'.toArray.setIfInBounds kw (vs.getD (K + k2) undef))) (hl:Below 0 wr w9) (ho:∀ k,k ≠ g -> w9.heap[k]?=wr.heap[k]?):Cpt W w9 g cur vs ll K (k2 + 1) (kw + 1):=by
 have e1:K + k2 - 1 + 1=K + k2:=by omega
 have e2:K + (k2 + 1) - 1=K + k2:=by omega
 have hvr:vr.length=kw:=by rw [<- hrl]; exact ha.2.2.1
 refine ⟨cur'.set kw (vs.getD (K + k2) undef),vr ++ [vs.getD (K + k2) undef],r ++ [ll.getD (K + k2) []],⟨?_,?_,?_⟩,?_,by rw [List.length_append,hrl]; rfl,by rw [List.length_set,hcl],fun j hj=>?_,?_,X3l hss ha.1 ho,X0i hg hl ho⟩
 . rw [<- List.setIfInBounds_toArray]; exact hb9
 . rw [List.length_append,hvr,List.length_singleton,List.take_succ_eq_append_getElem (by rw [List.length_set,hcl]; omega),List.getElem_set_self]
   congr 1
   rw [List.take_set_of_le (Nat.le_refl _)];have:=ha.2.1
   rwa [hvr] at this
 . exact (X3l ha.2.2 ha.1 ho).snoc ((X3l hss ha.1 ho).2 _ hlt).1 (hss.2 _ hlt).2
 . have h:=hkp.snoc hs (by rw [e1]; exact hlt) (by rw [e1]; exact hne)
   rw [e1] at h;rw [e2]; exact h
 . rw [List.getElem?_set_ne (by omega)]; exact hjj j (by omega)
 . rw [e2,List.getElem?_set_ne (by omega)]; exact hjj _ (Nat.le_refl _)
theorem Z2d.cleared {wr w9:World} {g kw:Nat} {cur' vr new:List Value} {r:List (List Int)} (ha:Z2d wr g cur' vr r) (hk:r.length=kw) (hfit:kw + new.length <= cur'.toArray.size) (hb9:Blk w9 g 166 (Q3m cur'.toArray kw new)) (ho:∀ k,k ≠ g -> w9.heap[k]?=wr.heap[k]?):Z2d w9 g (Q3m cur'.toArray kw new).toList vr r:=by
 have hvr:vr.length=kw:=by rw [<- hk]; exact ha.2.2.1
 refine ⟨by rw [Array.toArray_toList]; exact hb9,?_,X3l ha.2.2 ha.1 ho⟩
 have h:=ha.2.1;rw [hvr] at h ⊢;rw [<- h]
 apply List.ext_getElem?
 intro j;rw [List.getElem?_take,List.getElem?_take]
 by_cases hj:j < kw
 . rw [if_pos hj,if_pos hj,Array.getElem?_toList,Q5u _ _ _ _ hfit,if_neg (by omega),List.getElem?_toArray]
 . rw [if_neg hj,if_neg hj]
theorem Z1i (w:World) (g cap:Nat) (cur vs:List Value) (ll:List (List Int)) (h0:0 < ll.length) (hle:ll.length <= 1000) (hcap:ll.length <= cap) (hcl:ll.length <= cur.length) (hs:Sorted ll) (hr:Z2d w g cur vs ll) :
    Calls Tryz.prog 161 #[.slice (some ⟨g,0,none⟩) ll.length cap,.func (.func 162) #[] #[]] w fun e w'=>∃ r,e=.returned (.slice (some ⟨g,0,none⟩) r.length cap) /\ Q3q w' (.slice (some ⟨g,0,none⟩) r.length cap) r /\ Asc r /\ (∀ x,x ∈ r ↔ x ∈ ll) /\ r.length <= ll.length /\ w.grownBy w' (some g):=by
 have HR:=Lib.hid hr;have HS:=Lib.hid hs;obtain ⟨n,hn⟩:∃ n,ll.length=n:=⟨_,rfl⟩;have HN:=Lib.hid hn;have HG0:Hid (w.grownBy w (some g)):=Lib.hid ⟨rfl,rfl,rfl,Nat.le_refl _,fun _ _ _=>rfl⟩;rw [hn] at h0 hle hcap hcl ⊢;clear hr hs hn
 by_cases h2:n < 2
 . have h2I:(n:Int) < 2:=by omega
   have HK:Hid (Kept ll ll 0):=Lib.hid (by
    have:=Kept.first (ll:=ll) (by rw [HN.out]; exact h0)
    rwa [List.take_of_length_le (by rw [HN.out]; omega)] at this)
   have HE:Hid (n=ll.length):=Lib.hid HN.out.symm;clear h2;go_enter Tryz.func161,Tryz.ntmps161;go_wp2;go_ret;have hh:=HK.out.all (by have:=HN.out; omega)
   refine ⟨ll,by rw [HN.out]; rfl,HR.out.reads (by rw [HN.out]; omega) (by rw [HN.out]; exact hcap),hh.1,hh.2,by rw [HN.out]; exact Nat.le_refl _,HG0.out⟩
 have h2I:¬ (n:Int) < 2:=by omega
 go_enter Tryz.func161,Tryz.ntmps161;go_wp2
 go_loopw [5] (fun i wr=>∃ (K J:Nat),J + 1=K /\ K <= n /\ i=.int .i64 K /\ Kept ll (ll.take K) J /\ Ext w wr) (fun i _=>n - (intOf i).toNat)
 case atStart=>exact ⟨1,0,rfl,by omega,rfl,Kept.first (by rw [HN.out]; exact h0),Ext.refl _⟩
 case round =>
  obtain ⟨K,J,hJ,hK,rfl,hkept,hx⟩:=hrel;have HKP:=Lib.hid hkept;have HX:=Lib.hid hx;have HRR:=Lib.hid (HR.out.ext hx);clear hkept
  by_cases hlt:K < n
  . have hKI:(K:Int) < n:=by omega
    have hJI:(J:Int) < n:=by omega
    have hw1:IntKind.i64.wrap ((K:Int) - 1)=(J:Int):=by rw [show (K:Int) - 1=(J:Int) by omega]; exact Q2h _ (by omega) (by omega)
    obtain ⟨cK,iK,-,-⟩:=HRR.out.at (k:=K) (by rw [HN.out]; exact hlt)
    obtain ⟨cJ,iJ,-,-⟩:=HRR.out.at (k:=J) (by rw [HN.out]; omega)
    obtain ⟨lK,hlK⟩:∃ x,ll.getD K []=x:=⟨_,rfl⟩;obtain ⟨lJ,hlJ⟩:∃ x,ll.getD J []=x:=⟨_,rfl⟩;rw [hlK] at iK;rw [hlJ] at iJ;obtain ⟨vK,hvK⟩:∃ x,vs.getD K undef=x:=⟨_,rfl⟩;obtain ⟨vJ,hvJ⟩:∃ x,vs.getD J undef=x:=⟨_,rfl⟩;rw [hvK] at cK iK;rw [hvJ] at cJ iJ;have HIK:=Lib.hid iK;have HIJ:=Lib.hid iJ;have HLK:=Lib.hid hlK;have HLJ:=Lib.hid hlJ;obtain ⟨q,hq⟩:∃ q,(Y3i lK lJ == 0)=q:=⟨_,rfl⟩;have HQ:=Lib.hid hq;have hdr:=(Ext.refl wr).drew;clear hlK hlJ hvK hvJ iK iJ hq;go_wp2;refine Flow.Q1d [.p,.p,.p,.p,.w,.p,.p,.p,.p,.w,.w] [0,1,2,3,4,5,6,7,8,9,10] [[],[],[],[1,2],[3],[],[],[6],[5,7],[8],[0,4,9]]
     [.c 0 (.func (.func 162) #[] #[]),.c 1 (.slice (some ⟨g,0,none⟩) n cap),.c 2 (.int .i64 (K:Int)),.c 3 (.pointer (some ⟨g,K,none⟩)),.c 4 (vK),.c 5 (.slice (some ⟨g,0,none⟩) n cap),.c 6 (.int .i64 (K:Int)),.c 7 (.int .i64 (J:Int)),.c 8 (.pointer (some ⟨g,J,none⟩)),.c 9 (vJ),.c 10 (.bool q)]
     (by kernel_rfl) rfl (by kernel_rfl) ⟨?g0,?g1,?g2,?g3,?g4,?g5,?g6,?g7,?g8,?g9,?g10,trivial⟩ ?post
    case g0 | g1 | g2 | g5 | g6=>
     intro v w1 hx;intro bb hbb;subst hbb;refine ⟨_,fun w=>?_,rfl⟩;go_simp
    case g3 | g7 | g8=>
     intro v w1 hx;(repeat intro (zq:v _=_));intro bb hbb;subst hbb;refine ⟨_,fun w=>?_,rfl⟩;go_simp
    case g4 | g9=>
     intro v w1 hx;(repeat intro (zq:v _=_));intro bb hbb;subst hbb;have cK:=hx.cell cK;have cJ:=hx.cell cJ;intro K hK;go_simp;exact hK _ _ (Ext.refl _) rfl
    case g10=>
     intro v w1 hx;(repeat intro (zq:v _=_));intro bb hbb;subst hbb;have cK:=hx.cell cK;have cJ:=hx.cell cJ;intro L hL;go_simp;refine Q0d (X1b w1 _ _ lK lJ (HIK.out.ext (hdr.trans hx)) (HIJ.out.ext (hdr.trans hx))) ?_;rintro e w2 ⟨rfl,o,rfl⟩;rw [HQ.out];exact ⟨_,rfl,hL _ _ (Ext.box _ _) rfl⟩
    case post =>
     intro v w1 hx (q0:v 0=_) (q1:v 1=_) (q2:v 2=_) (q3:v 3=_) (q4:v 4=_) (q5:v 5=_) (q6:v 6=_) (q7:v 7=_) (q8:v 8=_) (q9:v 9=_) (q10:v 10=_);simp only [Flow.All,Flow.acts,Act.put];go_simp;have HX1:=Lib.hid (HX.out.trans (hdr.trans hx));have HRR1:=Lib.hid (HRR.out.ext (hdr.trans hx));clear hx hdr cK cJ q0 q1 q2 q3 q4 q5 q6 q7 q8 q9 q10;obtain ⟨V,rfl⟩:∃ X,X=w1:=⟨_,rfl⟩;cases q with
     | false =>
       have HST:Hid (Kept ll (ll.take (K + 1)) K):=Lib.hid (by
        have h:=HKP.out.snoc HS.out (by rw [HN.out]; omega) (by
         rw [hJ,HLK.out,HLJ.out];intro e;have:=HQ.out;rw [(X3r lK lJ).2 e] at this;cases this)
        subst hJ
        rwa [Kept.take_snoc (by rw [HN.out]; omega)] at h)
       go_wp2;go_roundw
       case rel=>exact ⟨K + 1,K,rfl,by omega,by go_num,HST.out,HX1.out⟩
       case measure=>simp [intOf]; omega
     | true =>
       have hsame:ll.getD K []=ll.getD J []:=by
        rw [HLK.out,HLJ.out];exact (X3r lK lJ).1 (by have:=HQ.out; simpa using this)
       have HST:Hid (Cpt V V g cur vs ll K 1 K):=Lib.hid ⟨cur,vs.take K,ll.take K,⟨HRR1.out.1,by
           have h1:=HRR1.out.2.1;have h2:=HRR1.out.2.2.1;rw [List.length_take,Nat.min_eq_left (by rw [h2,HN.out]; omega),<- h1,List.take_take,Nat.min_eq_left (by rw [h2,HN.out]; omega)],⟨by rw [List.length_take,List.length_take,HRR1.out.2.2.1],fun i hi=>by
           rw [List.length_take,HN.out] at hi;have h:=HRR1.out.2.2.2 i (by rw [HN.out]; omega)
           have e1:(vs.take K).getD i undef=vs.getD i undef:=by simp [show i < K by omega]
           have e2:(ll.take K).getD i []=ll.getD i []:=by simp [show i < K by omega]
           rw [e1,e2]; exact h⟩⟩,by
           have h:=HKP.out.same (by rw [HN.out]; omega) (by rw [hJ]; exact hsame)
           rw [hJ] at h;rw [show K + 1 - 1=K by omega]; exact h,by rw [List.length_take,HN.out]; omega,rfl,fun _ _=>rfl,rfl,HRR1.out.2.2,⟨rfl,rfl,rfl,Nat.le_refl _,fun _ _ _=>rfl⟩⟩
       have s1:(K:Int) <= (n:Int):=by omega
       have s2:¬ n < K:=by omega
       have s3:¬ cap=K:=by omega
       have s4:¬ cap < K:=by omega
       have s5:¬ cap < n:=by omega
       clear hsame;have HST2:Hid (∀ kw k2 wr',1 <= k2 -> K + k2 < n -> Cpt V wr' g cur vs ll K k2 kw -> Y3i (ll.getD (K + k2) []) (ll.getD (K + k2 - 1) [])=0 -> Cpt V wr' g cur vs ll K (k2 + 1) kw):=Lib.hid (by
        rintro kw k2 wr' h1 hlt ⟨cur',vr,r,ha,hk,hl,hcl',hj,hj1,hs,hg⟩ he;refine ⟨cur',vr,r,ha,?_,hl,hcl',fun j h=>hj j (by omega),hj _ (by omega),hs,hg⟩
        have h:=hk.same (by rw [HN.out]; omega) (by rw [show K + k2 - 1 + 1=K + k2 by omega]; exact (X3r _ _).1 he)
        rw [show K + k2 - 1 + 1=K + (k2 + 1) - 1 by omega] at h
        exact h)
       go_wp2;obtain ⟨m,hm⟩:∃ m,n - K=m:=⟨_,rfl⟩;obtain ⟨c2,hc2⟩:∃ c2,cap - K=c2:=⟨_,rfl⟩;rw [hm,hc2]
       go_loopw [5,7] (fun kv iv wr=>∃ (kw k2:Nat),1 <= k2 /\ K + k2 <= n /\ kw + 1 <= K + k2 /\ kv=.int .i64 kw /\ iv=.int .i64 k2 /\ Cpt V wr g cur vs ll K k2 kw) (fun _ i _=>m - (intOf i).toNat)
       case atStart=>exact ⟨K,1,Nat.le_refl _,by omega,by omega,rfl,rfl,HST.out⟩
       case round =>
        obtain ⟨kw,k2,h1,hkn,hkw,rfl,rfl,hcpt⟩:=hrel;have HC:=Lib.hid hcpt;clear hcpt
        by_cases hlt2:k2 < m
        . have hlt2I:(k2:Int) < m:=by omega
          obtain ⟨j2,hj2⟩:∃ j2,j2 + 1=k2:=⟨k2 - 1,by omega⟩
          have hw2:IntKind.i64.wrap ((k2:Int) - 1)=(j2:Int):=by rw [show (k2:Int) - 1=(j2:Int) by omega]; exact Q2h _ (by omega) (by omega)
          have hj2I:(j2:Int) < m:=by omega
          obtain ⟨cur',vr,r,ha,hkp,hrl,hcl',hjj,hj1,hss,hg⟩:=HC.out;have hat:=HRR1.out;have cA:wr.cell? ⟨g,K + k2,none⟩=some (vs.getD (K + k2) undef):=by
           have h:=(hat.at (k:=K + k2) (by rw [HN.out]; omega)).1
           rw [hat.1.cell,List.getElem?_toArray] at h;rw [ha.1.cell,List.getElem?_toArray,hjj _ (Nat.le_refl _)]; exact h
          have cB:wr.cell? ⟨g,K + j2,none⟩=some (vs.getD (K + j2) undef):=by
           have h:=(hat.at (k:=K + j2) (by rw [HN.out]; omega)).1
           rw [hat.1.cell,List.getElem?_toArray] at h;rw [show K + k2 - 1=K + j2 by omega] at hj1
           rw [ha.1.cell,List.getElem?_toArray,hj1]; exact h
          have iA:=(hss.2 (K + k2) (by rw [HN.out]; omega)).1.ints (by have:=(hss.2 (K + k2) (by rw [HN.out]; omega)).2; omega)
          have iB:=(hss.2 (K + j2) (by rw [HN.out]; omega)).1.ints (by have:=(hss.2 (K + j2) (by rw [HN.out]; omega)).2; omega)
          have hOA:=hss.2 (K + k2) (by rw [HN.out]; omega)
          have hE2:=HST2.out kw k2 wr h1 (by omega) HC.out
          rw [show K + k2 - 1=K + j2 by omega] at hE2
          obtain ⟨lA,hlA⟩:∃ x,ll.getD (K + k2) []=x:=⟨_,rfl⟩;obtain ⟨lB,hlB⟩:∃ x,ll.getD (K + j2) []=x:=⟨_,rfl⟩;obtain ⟨vA,hvA⟩:∃ x,vs.getD (K + k2) undef=x:=⟨_,rfl⟩;obtain ⟨vB,hvB⟩:∃ x,vs.getD (K + j2) undef=x:=⟨_,rfl⟩;rw [hlA,hvA] at iA hOA;rw [hlB,hvB] at iB;rw [hvA] at cA;rw [hvB] at cB;rw [hlA,hlB] at hE2;have HIA:=Lib.hid iA;have HIB:=Lib.hid iB;have HLA:=Lib.hid hlA;have HLB:=Lib.hid hlB;have HVA:=Lib.hid hvA;have HOA:=Lib.hid hOA;have HHA:=Lib.hid ha;have HKK:=Lib.hid hkp;have HRL:=Lib.hid hrl;have HCL:=Lib.hid hcl';have HJJ:=Lib.hid hjj;have HSS:=Lib.hid hss;have HG:=Lib.hid hg;have HE2:=Lib.hid hE2;obtain ⟨q,hq⟩:∃ q,(Y3i lA lB == 0)=q:=⟨_,rfl⟩;have HQ:=Lib.hid hq;have hdr:=(Ext.refl wr).drew;clear hlA hlB hvA hvB iA iB hq hat hOA ha hkp hrl hcl' hjj hj1 hss hg hE2 HC
          go_light
          go_wp2;refine Flow.Q1d [.p,.p,.p,.p,.w,.p,.p,.p,.p,.w,.w,.p] [0,1,2,3,4,5,6,7,8,9,10,11] [[],[],[],[1,2],[3],[],[],[6],[5,7],[8],[0,4,9],[10]]
           [.c 0 (.func (.func 162) #[] #[]),.c 1 (.slice (some ⟨g,K,none⟩) m c2),.c 2 (.int .i64 (k2:Int)),.c 3 (.pointer (some ⟨g,K + k2,none⟩)),.c 4 (vA),.c 5 (.slice (some ⟨g,K,none⟩) m c2),.c 6 (.int .i64 (k2:Int)),.c 7 (.int .i64 (j2:Int)),.c 8 (.pointer (some ⟨g,K + j2,none⟩)),.c 9 (vB),.c 10 (.bool q),.c 11 (.bool (!q))]
           (by kernel_rfl) rfl (by kernel_rfl) ⟨?g0,?g1,?g2,?g3,?g4,?g5,?g6,?g7,?g8,?g9,?g10,?g11,trivial⟩ ?post
          case g0 | g1 | g2 | g5 | g6=>
           intro v w1 hx;intro bb hbb;subst hbb;refine ⟨_,fun w=>?_,rfl⟩;go_simp
          case g3 | g7 | g8 | g11=>
           intro v w1 hx;(repeat intro (zq:v _=_));intro bb hbb;subst hbb;refine ⟨_,fun w=>?_,rfl⟩;go_simp
          case g4 | g9=>
           intro v w1 hx;(repeat intro (zq:v _=_));intro bb hbb;subst hbb;have cA:=hx.cell cA;have cB:=hx.cell cB;intro K hK;go_simp;exact hK _ _ (Ext.refl _) rfl
          case g10=>
           intro v w1 hx;(repeat intro (zq:v _=_));intro bb hbb;subst hbb;have cA:=hx.cell cA;have cB:=hx.cell cB;intro L hL;go_simp;refine Q0d (X1b w1 _ _ lA lB (HIA.out.ext (hdr.trans hx)) (HIB.out.ext (hdr.trans hx))) ?_;rintro e w2 ⟨rfl,o,rfl⟩;rw [HQ.out];exact ⟨_,rfl,hL _ _ (Ext.box _ _) rfl⟩
          case post =>
           intro v w1 hx;(iterate 12 intro (zq:v _=_));simp only [Flow.All,Flow.acts,Act.put];go_simp;have HXV:=Lib.hid (hdr.trans hx);have HHA1:=Lib.hid (HHA.out.ext HXV.out);have HSS1:=Lib.hid (HSS.out.ext HXV.out);have HG1:=Lib.hid (Q5d HG.out HXV.out);replace cA:=HXV.out.cell (show wr.cell? ⟨g,K + k2,none⟩=some vA from cA)
           clear hx hdr cB;(repeat clear zq);obtain ⟨Y,rfl⟩:∃ X,X=w1:=⟨_,rfl⟩;cases q with
           | true =>
             have HE3:=Lib.hid ((HE2.out (by have:=HQ.out; simpa using this)).ext HXV.out)
             clear cA;go_wp2;go_roundw
             case rel=>exact ⟨kw,k2 + 1,by omega,by omega,by omega,rfl,by go_num,HE3.out⟩
             case measure=>simp [intOf]; omega
           | false =>
             have hkwI:(kw:Int) < n:=by omega
             have hone:=(HOA.out.1.ints (by have:=HOA.out.2; omega)).one
             have hcel:=(HOA.out.1.ints (by have:=HOA.out.2; omega)).cells
             have HONE:Hid (vA.oneCell'=true):=Lib.hid hone;have HCEL:=Lib.hid hcel;have HKC:Hid (kw < cur'.toArray.size):=Lib.hid (by rw [List.size_toArray,HCL.out]; omega)
             have HNE:Hid (ll.getD (K + k2) [] ≠ ll.getD (K + k2 - 1) []):=Lib.hid (by
              rw [show K + k2 - 1=K + j2 by omega,HLA.out,HLB.out]
              intro e;have:=HQ.out;rw [(X3r lA lB).2 e] at this;cases this)
             clear hone hcel;go_wp2_with (refine X4r rfl _ _ 166 rfl Tryz.J0v rfl rfl HCEL.out HONE.out HHA1.out.1 HKC.out ?_; intro w9 hb9 hl9 ho9);go_roundw
             case rel=>exact ⟨kw + 1,k2 + 1,by omega,by omega,by omega,by go_num,by go_num,Cpt.put HHA1.out HKK.out HRL.out HCL.out HJJ.out HSS1.out HG1.out HS.out (by rw [HN.out]; omega) hkw (by rw [HN.out]; exact hcl) HNE.out (by rw [HVA.out]; exact hb9) (hl9 0 (Nat.zero_le _)) ho9⟩
             case measure=>simp [intOf]; omega
        . have hmk:¬ (k2:Int) < m:=by omega
          obtain ⟨cur',vr,r,ha,hkp,hrl,hcl',hjj,hj1,hss,hg⟩:=HC.out;have t1:(kw:Int) <= (n:Int):=by omega
          have t2:¬ n < kw:=by omega
          have t3:¬ cap=kw:=by omega
          have t4:¬ cap < kw:=by omega
          have t5:¬ cap < n:=by omega
          have HHA:=Lib.hid ha;have HG:=Lib.hid hg;have HRL:=Lib.hid hrl;have HALL:=Lib.hid (hkp.all (by rw [HN.out]; omega))
          have HFIT:Hid (kw + (Builtin.zeroCells (Value.slice none 0 0).cells (n - kw)).size <= cur'.toArray.size):=Lib.hid (by
           rw [<- Array.length_toList,X0d,List.length_replicate,List.size_toArray,hcl']; omega)
          have HZ1:Hid (∀ v ∈ (Builtin.zeroCells (Value.slice none 0 0).cells (n - kw)).toList,v.oneCell'=true):=Lib.hid (by
           rw [X0d]; intro v hv; rw [List.eq_of_mem_replicate hv]; rfl)
          clear ha hkp hrl hcl' hjj hj1 hss hg HC;go_wp2_with (refine X1l rfl _ 168 166 rfl Tryz.underlying168 (show 0 < n - kw by omega) rfl HHA.out.1 _ Tryz.Z9r HZ1.out HFIT.out ?_; intro w9 hb9 hl9 ho9)
          go_ret;have hh:=HHA.out.cleared HRL.out (by rw [Array.length_toList]; exact HFIT.out) hb9 ho9
          refine ⟨r,by rw [HRL.out]; rfl,hh.reads (by rw [HRL.out]; omega) (by rw [HRL.out]; omega),HALL.out.1,HALL.out.2,by rw [HRL.out]; omega,?_⟩
          exact X0i (Q8p (Q5d (Q6l w (some g)) HX1.out) HG.out) (hl9 0 (Nat.zero_le _)) ho9
  . have HKF:Hid (Kept ll ll J):=Lib.hid (by
     have:=HKP.out
     rwa [List.take_of_length_le (by rw [HN.out]; omega)] at this)
    go_wp2;go_ret;have hh:=HKF.out.all (by have:=HN.out; omega)
    exact ⟨ll,by rw [HN.out]; rfl,HRR.out.reads (by rw [HN.out]; omega) (by rw [HN.out]; exact hcap),hh.1,hh.2,by rw [HN.out]; exact Nat.le_refl _,Q5d HG0.out HX.out⟩
end Go.Proofs
