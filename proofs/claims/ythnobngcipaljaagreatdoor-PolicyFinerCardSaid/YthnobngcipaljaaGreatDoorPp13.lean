/- Contract: slices.SortFunc over histories. Blocks of structs: their cells by a function of the place; stores, copies and clears of parts of a block. What CompactFunc keeps of a sorted list of histories; clear of the rest of a block of one-cell elements. -/
import Derived.Test.YthnobngcipaljaaGreatDoorPp12
import Derived.Test.YthnobngcipaljaaGreatDoorPp04
import Derived.Test.YthnobngcipaljaaGreatDoorPp08
import Derived.Test.YthnobngcipaljaaGreatDoorPp05
import Derived.Test.YthnobngcipaljaaGreatDoorPp11
import Derived.Test.YthnobngcipaljaaGreatDoorPp09
import Derived.Laws.MakeOwn
set_option maxRecDepth 1000000
set_option maxHeartbeats 64000000
set_option linter.unusedVariables false
set_option linter.unusedSimpArgs false
set_option linter.constructorNameAsVariable false
namespace Go.Proofs
open Go.RowKit Go.Tw Go.Flow Go.Sort
theorem Z1u (x y:Int):Y0v x y < 0 ↔ x < y:=by unfold Y0v; split <;> (try split) <;> omega
theorem Y1b (x y:Int) (l m:List Int):cmpL (x :: l) (y :: m) < 0 ↔ x < y ∨ (x=y /\ cmpL l m < 0):=by
 show (if x=y then cmpL l m else Y0v x y) < 0 ↔ _
 split
 . rename_i h; simp [h]
 . rename_i h; rw [Z1u]; simp [h]
theorem Y2a:∀ a b:List Int,a.length=b.length -> (Q5y a b=true ↔ cmpL a b < 0)
 | [],[],_=>by simp [Q5y,cmpL]
 | [],_ :: _,h=>by simp at h
 | _ :: _,[],h=>by simp at h
 | x :: l,y :: m,h=>by
   rw [Y1b];show (if x=y then Q5y l m else decide (x < y))=true ↔ _
   split
   . rename_i hxy
     rw [Y2a l m (by simpa using h)]
     simp [hxy]
   . rename_i hxy
     simp [hxy]
theorem X0m (x y:Int):Y0v x y=0 ↔ x=y:=by unfold Y0v; split <;> (try split) <;> omega
theorem Y1t:∀ a b:List Int,cmpL a b=0 ↔ a=b
 | [],[]=>by simp [cmpL]
 | [],_ :: _=>by simp [cmpL]
 | _ :: _,[]=>by simp [cmpL]
 | x :: l,y :: m=>by
   show (if x=y then cmpL l m else Y0v x y)=0 ↔ _
   split
   . rename_i h; rw [Y1t l m]; simp [h]
   . rename_i h; rw [X0m]; simp [h]
theorem X0k (a b:List Int):X7z a b=0 ↔ a=b:=by
 unfold X7z
 split
 . exact Y1t a b
 . rename_i h
   constructor
   . intro k; exact absurd k h
   . intro k; subst k; exact absurd ((X0m _ _).2 rfl) h
theorem Q5t (a b:List Int):X7z a b < 0 ↔ Q1s a b=true:=by
 unfold X7z Q1s
 split
 . rename_i h
   have hl:a.length=b.length:=by have:=(X0m _ _).1 h; omega
   rw [if_pos hl];exact (Y2a a b hl).symm
 . rename_i h
   have hl:¬ a.length=b.length:=fun e=>h (by rw [e]; exact (X0m _ _).2 rfl)
   rw [if_neg hl,Z1u,decide_eq_true_iff];omega
theorem Y6r (a:List Int):¬ X7z a a < 0:=by rw [Q5t]; exact Q6j a
theorem X7p {a b c:List Int} (h1:X7z a b < 0) (h2:X7z b c < 0):X7z a c < 0:=by rw [Q5t] at *; exact Q5f h1 h2
theorem Y8j (a b:List Int):X7z a b < 0 ∨ a=b ∨ X7z b a < 0:=by
 rw [Q5t,Q5t];cases h:Q1s a b with
 | true=>exact .inl rfl
 | false=>exact .inr (X6d h)
theorem Z4l (f:Nat -> List Int):SWO (ltOf fun x y:Nat=>X7z (f x) (f y)) where
 irrefl x:=by simpa [ltOf] using Y6r (f x)
 trans x y z h1 h2:=by simp only [ltOf,decide_eq_true_eq] at *; exact X7p h1 h2
 ntrans x y z h1 h2:=by
  simp only [ltOf,decide_eq_false_iff_not] at *;intro h
  rcases Y8j (f x) (f y) with h' | h' | h'
  . exact h1 h'
  . rw [h'] at h; exact h2 h
  . exact h2 (X7p h' h)
def Sets (w:World) (vs:List Value) (ll:List (List Int)):Prop:=vs.length=ll.length /\ ∀ i,i < ll.length -> Q0q w 0 3 (.int .i64) (vs.getD i undef) (ll.getD i []) /\ (ll.getD i []).length <= 8
theorem Y5j {w W:World} {v:Value} {l:List Int} (h:Q0q w 0 3 (.int .i64) v l) (hb:∀ b,v.ownBlock=some b -> b < w.heap.size -> W.heap[b]?=w.heap[b]?):Q0q W 0 3 (.int .i64) v l:=by
 obtain ⟨h1,h2⟩:=h;refine ⟨h1,?_⟩
 rcases h2 with h2 | ⟨g,cap,cur,hv,hbg,hg,r⟩
 . exact .inl h2
 . exact .inr ⟨g,cap,cur,hv,hbg,(hb g (by rw [hv]; rfl) (Array.getElem?_eq_some_iff.1 hg).1).trans hg,r⟩
theorem X9b {w:World} {v:Value} {l:List Int} {g:Nat} {cur:Array Value} {fr:Nat × Nat} (h:Q0q w 0 3 (.int .i64) v l) (hg:w.heap[g]?=some (.cells cur 166 fr)):v.ownBlock ≠ some g:=by
 intro e;obtain ⟨h1,h2⟩:=h
 rcases h2 with ⟨rfl,_⟩ | ⟨g',cap,cur',rfl,hbg,hg',r⟩
 . cases e
 . obtain rfl:g'=g:=by simpa [Value.ownBlock] using e
   rw [hg] at hg';injection hg' with h;injection h with _ h;exact absurd h (by decide)
theorem Sets.at {w W:World} {vs:List Value} {ll:List (List Int)} (h:Sets w vs ll) (hb:∀ v l,Q0q w 0 3 (.int .i64) v l -> ∀ b,v.ownBlock=some b -> b < w.heap.size -> W.heap[b]?=w.heap[b]?):Sets W vs ll :=
 ⟨h.1,fun i hi=>⟨Y5j (h.2 i hi).1 (hb _ _ (h.2 i hi).1),(h.2 i hi).2⟩⟩
theorem Sets.ext {w W:World} {vs:List Value} {ll:List (List Int)} (h:Sets w vs ll) (hx:Ext w W):Sets W vs ll:=h.at fun _ _ _ b _ hb=>Below.block hx b hb
theorem Sets.reads {w:World} {vs:List Value} {ll:List (List Int)} (h:Sets w vs ll):Reads w vs ll:=⟨h.1,fun i hi=>(h.2 i hi).1.ints (by have:=(h.2 i hi).2; omega)⟩
theorem Sets.nil (w:World):Sets w [] []:=⟨rfl,fun i hi=>by simp at hi⟩
theorem Sets.snoc {w:World} {vs:List Value} {ll:List (List Int)} {v:Value} {l:List Int} (h:Sets w vs ll) (hv:Q0q w 0 3 (.int .i64) v l) (hl:l.length <= 8):Sets w (vs ++ [v]) (ll ++ [l]):=by
 refine ⟨by simp [h.1],fun i hi=>?_⟩
 rw [List.length_append,List.length_singleton] at hi
 by_cases hlt:i < ll.length
 . have e1:(vs ++ [v]).getD i undef=vs.getD i undef:=by simp [List.getElem?_append_left (show i < vs.length by rw [h.1]; exact hlt)]
   have e2:(ll ++ [l]).getD i []=ll.getD i []:=by simp [List.getElem?_append_left hlt]
   rw [e1,e2]; exact h.2 i hlt
 . have e:i=ll.length:=by omega
   have e1:(vs ++ [v]).getD i undef=v:=by rw [e,<- h.1]; simp
   have e2:(ll ++ [l]).getD i []=l:=by rw [e]; simp
   rw [e1,e2]; exact ⟨hv,hl⟩
theorem Q4q {α:Type} [Inhabited α] (enc:α -> Value) (w:World) (blk off n:Nat) (d:Array α) (os:Array Obj) {k:Nat} (hk:k < w.heap.size) (hne:k ≠ blk):(sortWorld enc w blk off n d os).heap[k]?=w.heap[k]?:=by
 unfold sortWorld;rw [heap_grow_old _ _ (by rw [size_putRow]; exact hk)]
 show (w.heap.modify blk _)[k]?=_;rw [Array.getElem?_modify,if_neg (fun h=>hne h.symm)]
theorem X7k {α:Type} [Inhabited α] (enc:α -> Value) (w:World) (blk off n:Nat) (d:Array α) (os:Array Obj):w.heap.size <= (sortWorld enc w blk off n d os).heap.size:=by
 unfold sortWorld;rw [size_grow,size_putRow]; show w.heap.size <= w.heap.size + _; omega
theorem X6e {α:Type} [Inhabited α] (enc:α -> Value) (w:World) (blk off n:Nat) (d:Array α) (os:Array Obj):w.grownBy (sortWorld enc w blk off n d os) (some blk) :=
 ⟨rfl,rfl,rfl,X7k _ _ _ _ _ _ _,fun k hk hne=>Q4q _ _ _ _ _ _ _ hk (fun e=>hne (by rw [e]))⟩
theorem X6a {α:Type} [Inhabited α] (enc:α -> Value) (w:World) (blk off n:Nat) (d0 d:Array α) (os:Array Obj) (h0:Holds enc w blk off d0) (hs:d.size=d0.size) (hb:blk < w.heap.size):Holds enc (sortWorld enc w blk off n d os) blk off d:=by
 unfold sortWorld;exact holds_grow _ _ _ _ _ _ (by rw [size_putRow]; exact hb) (holds_putRow enc (Sort.ahead w n) blk off d0 d (holds_ahead _ _ _ _ _ _ h0) hs)
theorem Z2h {w:World} {v:Value} {l:List Int} {g:Nat} {cs:Array Value} {T:TypeId} (hT:T ≠ 3) (h:Q0q w 0 3 (.int .i64) v l) (hg:Blk w g T cs):v.ownBlock ≠ some g:=by
 intro e;obtain ⟨h1,h2⟩:=h
 rcases h2 with ⟨rfl,_⟩ | ⟨g',cap,cur',rfl,hbg,hg',r⟩
 . cases e
 . obtain rfl:g'=g:=by simpa [Value.ownBlock] using e
   unfold Blk at hg;rw [hg] at hg';injection hg' with h;injection h with _ h;exact hT h
theorem Y0k {α:Type} [Inhabited α] (enc:α -> Value) (w:World) (g n:Nat) (d:Array α) (os:Array Obj) {T:TypeId} {cur:Array Value} (hb:Blk w g T cur):∃ cur',Blk (sortWorld enc w g 0 n d os) g T cur' /\ cur'.size=cur.size:=by
 refine ⟨putCells enc 0 d cur,?_,by simp [putCells]⟩
 unfold Blk sortWorld;rw [heap_grow_old _ _ (by rw [size_putRow]; exact hb.lt)]
 show (w.heap.modify g _)[g]?=_;rw [Array.getElem?_modify,if_pos rfl];unfold Blk at hb;rw [hb]; rfl
def Sorted (ll:List (List Int)):Prop:=ll.Pairwise fun a b=>¬ X7z b a < 0
def Y6x (w:World) (g:Nat) (cur vs:List Value) (ll:List (List Int)):Prop:=Blk w g 166 cur.toArray /\ cur.take vs.length=vs /\ Sets w vs ll
theorem Z4f (w:World) (g cap base:Nat) (vs:List Value) (ll:List (List Int)) (hown:Q0q w base 166 idV (.slice (some ⟨g,0,none⟩) vs.length cap) vs) (hs:Sets w vs ll) (hle:ll.length <= 4096) :
    Calls Tryz.prog 159 #[.slice (some ⟨g,0,none⟩) ll.length cap,.func (.func 160) #[] #[]] w fun e w'=>e=.returned (.tuple #[]) /\ ∃ ll' cur vs',ll'.Perm ll /\ Sorted ll' /\ Y6x w' g cur vs' ll' /\ w.grownBy w' (some g):=by
 obtain ⟨cur,hcur,hgl,hcap,htake⟩:∃ cur,w.heap[g]?=some (.cells cur 166 (0,0)) /\ g < w.heap.size /\ vs.length <= cap /\ cur.toList.take vs.length=vs:=by
  obtain ⟨h1,h2⟩:=hown
  rcases h2 with ⟨h2,_⟩ | ⟨g',cap',cur,hv,hb,hg,hc,hm,hz,ht⟩
  . cases h2
  . injection hv with e1 e2 e3
    injection e1 with e1;injection e1 with e1;subst e1; subst e3;refine ⟨cur,hg,(Array.getElem?_eq_some_iff.1 hg).1,hc,?_⟩;have hid:vs.map idV=vs:=by show vs.map id=vs; exact List.map_id vs
    rw [hid,Nat.mul_one] at ht;exact ht
 have hlen:=hs.1;obtain ⟨K,hK⟩:∃ K,ll.length=K:=⟨_,rfl⟩;rw [hK] at hlen hle ⊢
 let z:Value:=.slice none 0 0
 let enc:Nat -> Value:=fun x=>vs.getD x z
 let cont:Nat -> List Int:=fun x=>ll.getD x []
 have hint:∀ x W,(∀ k,k < w.heap.size -> k ≠ g -> W.heap[k]?=w.heap[k]?) -> Q0d W (enc x) (cont x):=by
  intro x W hW
  by_cases hx:x < K
  . have h1:=(hs.2 x (by omega)).1
    have h2:=Y5j (W:=W) h1 (fun b hb hbl=>hW b hbl (fun e=>X9b h1 hcur (by rw [<- e]; exact hb)))
    have h3:=h2.ints (by have:=(hs.2 x (by omega)).2; omega)
    have e1:vs.getD x undef=enc x:=by simp [enc,z,show x < vs.length by omega]
    rw [e1] at h3;exact h3
  . have e1:enc x=.slice none 0 0:=by simp [enc,z,show ¬ x < vs.length by omega,List.getD_eq_getElem?_getD]
    have e2:cont x=[]:=by simp [cont,List.getD_eq_getElem?_getD,List.getElem?_eq_none (show ll.length <= x by omega)]
    rw [e1,e2];exact Rows.nil 1 _ W
 have hone:OneCell enc:=by
  intro x;obtain ⟨A,c,he,_⟩:=(hint x w (fun _ _ _=>rfl)).opened
  rw [he]; rfl
 have hH:Holds enc w g 0 (Array.range K):=by
  intro j hj;rw [Array.size_range] at hj;have e1:(Array.range K)[j]! = j:=by rw [getElem!_pos _ j (by simpa using hj)]; simp
  rw [e1];refine ⟨?_,by simp [World.frozen?,hcur]⟩
  have h1:=congrArg (fun l=>l[j]?) htake;rw [Nat.zero_add];simp only [List.getElem?_take,show j < vs.length by omega,if_true] at h1
  show (match w.heap[g]? with | some (.cells c _ _)=>_ | _=>_)=_
  rw [hcur];simp only [Option.isSome_none,Bool.false_eq_true,if_false];rw [<- Array.getElem?_toList,h1];simp [enc,show j < vs.length by omega]
 have hcmp:CmpLays1 Tryz.prog 160 #[] enc (fun x y=>X7z (cont x) (cont y)) g 0 (Array.range K).size w:=by
  intro m os dk hdk x y;have h:=X3d (sortWorld enc w g 0 m dk os) (enc x) (enc y) (cont x) (cont y) (hint x _ (fun k hk hne=>Q4q _ _ _ _ _ _ _ hk hne)) (hint y _ (fun k hk hne=>Q4q _ _ _ _ _ _ _ hk hne));exact h.mono fun e w' ⟨he,o,hw⟩=>⟨he,0,#[o],by rw [hw,alloc_eq_grow]; rfl⟩
 have eg:∀ args w,(callFunc 160 args).run Tryz.prog w=.ok (.enter 160 args) w:=enters_of Tryz.func160 (by kernel_rfl) rfl
 have hcon:=Any.slices_SortFunc Tryz.sortSet enc hone (fun x y=>X7z (cont x) (cont y)) (Z4l cont) 160 #[] g 0 cap (Array.range K) w eg hcmp hH hgl (by rw [Array.size_range]; omega)
 rw [Array.size_range] at hcon;change Calls Tryz.prog 159 _ _ _ at hcon;refine hcon.mono fun e w' ⟨he,d',n,os,hp,hso,hw⟩=>⟨he,?_⟩;subst hw;obtain ⟨hp1,_,hp3⟩:=hp;rw [Array.size_range] at hp1;have hperm:d'.toList.Perm (List.range K):=by
  have e1:d'.extract 0 K=d':=by rw [<- hp1]; simp
  have e2:(Array.range K).extract 0 K=Array.range K:=by
   apply Array.toList_inj.1
   rw [Array.toList_extract,List.extract_eq_take_drop,List.drop_zero];exact List.take_of_length_le (by simp)
  rw [e1,e2] at hp3
  simpa using hp3
 have hll:(List.range K).map cont=ll:=by
  apply List.ext_getElem
  . simp [hK]
  . intro i h1 h2; simp [cont,h2]
 obtain ⟨cur',hb',hcs⟩:=Y0k enc w g n d' os (show Blk w g 166 cur from hcur)
 have hho:=X6a enc w g 0 n (Array.range K) d' os hH (by simp [hp1]) hgl
 have hcl:K <= cur'.size:=by
  have:cur.toList.length=cur.size:=Array.length_toList;have h2:=congrArg List.length htake;rw [List.length_take] at h2;omega
 have hvl:(d'.toList.map enc).length=K:=by simp [hp1]
 refine ⟨d'.toList.map cont,cur'.toList,d'.toList.map enc,by rw [<- hll]; exact hperm.map cont,?_,⟨by rw [Array.toArray_toList]; exact hb',?_,?_,?_⟩,X6e _ _ _ _ _ _ _⟩
 . unfold Sorted
   rw [List.pairwise_map,List.pairwise_iff_getElem];intro i j hi hj hij;have hi':i < d'.size:=by simpa using hi
   have hj':j < d'.size:=by simpa using hj
   have h:=hso i j (Nat.zero_le _) hij (by omega)
   rw [getElem!_pos d' i hi',getElem!_pos d' j hj'] at h
   simpa [ltOf] using h
 . apply List.ext_getElem
   . rw [List.length_take,hvl,Array.length_toList]; omega
   . intro i h1 h2
     have hi:i < K:=by rw [hvl] at h2; exact h2
     have h3:=(hho i (by omega)).1
     rw [Nat.zero_add,hb'.cell,Array.getElem?_eq_getElem (by omega),Option.some.injEq] at h3
     rw [List.getElem_take,Array.getElem_toList,h3,List.getElem_map,Array.getElem_toList,getElem!_pos d' i (by omega)]
 . simp
 . intro i hi
   have hi':i < K:=by simpa [hp1] using hi
   have hid:i < d'.size:=by omega
   have hx:d'[i] < K:=by
    have:=hperm.mem_iff.1 (show d'[i] ∈ d'.toList from by simp)
    exact List.mem_range.1 this
   have h1:=hs.2 d'[i] (by omega)
   have e1:(d'.toList.map enc).getD i undef=vs.getD d'[i] undef:=by
    rw [List.getD_eq_getElem?_getD,List.getElem?_eq_getElem (by rw [hvl]; exact hi'),List.getElem_map,Array.getElem_toList]
    simp [enc,show d'[i] < vs.length by omega]
   have e2:(d'.toList.map cont).getD i []=ll.getD d'[i] []:=by
    rw [List.getD_eq_getElem?_getD,List.getElem?_eq_getElem (by simp [hp1]; exact hi'),List.getElem_map,Array.getElem_toList]
    simp [cont]
   rw [e1,e2];refine ⟨Y5j h1.1 fun b hb hbl=>Q4q _ _ _ _ _ _ _ hbl fun e=>X9b h1.1 hcur (by rw [<- e]; exact hb),h1.2⟩
end Go.Proofs
namespace Go.Tw
open Go.RowKit Go.Flow
section
variable {α:Type} {enc:α -> List Value} {k:Nat}
def Q2s (cs:Array Value) (o:Nat):List Value -> Array Value
 | []=>cs
 | v :: vs=>Q2s (cs.setIfInBounds o v) (o + 1) vs
theorem X0n (o:Nat):∀ (vs:List Value) (cs:Array Value) ,(Q2s cs o vs).size=cs.size:=by
 intro vs
 induction vs generalizing o with
 | nil=>intro cs; rfl
 | cons v vs ih=>intro cs; rw [Q2s,ih]; simp
theorem Q4w:∀ (vs:List Value) (o:Nat) (cs:Array Value) (j:Nat),o + vs.length <= cs.size -> (Q2s cs o vs)[j]?=if o <= j /\ j < o + vs.length then vs[j - o]? else cs[j]?
 | [],o,cs,j,_=>by rw [Q2s,if_neg (by simp only [List.length_nil]; omega)]
 | v :: vs,o,cs,j,h=>by
   rw [List.length_cons] at h;rw [Q2s,Q4w vs (o + 1) _ j (by simp; omega)]
   by_cases h1:o + 1 <= j /\ j < o + 1 + vs.length
   . rw [if_pos h1,if_pos (by rw [List.length_cons]; omega),show j - o=(j - (o + 1)) + 1 from by omega]; rfl
   . rw [if_neg h1]
     by_cases h2:j=o
     . subst h2
       rw [if_pos (by rw [List.length_cons]; omega),Nat.sub_self]
       rw [Array.getElem?_setIfInBounds];rw [if_pos rfl,if_pos (by omega)]; rfl
     . rw [if_neg (by rw [List.length_cons]; omega),Array.getElem?_setIfInBounds,if_neg (fun e=>h2 e.symm)]
theorem Q7b {P:Program} {g off:Nat} {T:TypeId}:∀ (vs:List Value) (i:Nat) (w:World) (cs:Array Value),Blk w g T cs -> (∀ u ∈ vs,u.oneCell'=true) -> off + i + vs.length <= cs.size ->
    ∃ w',(storeCells ⟨g,off,none⟩ vs i).run P w=.ok () w' /\ Blk w' g T (Q2s cs (off + i) vs) /\ (∀ n,n <= g -> Below n w w') /\ ∀ k,k ≠ g -> w'.heap[k]?=w.heap[k]?
 | [],i,w,cs,h,_,hi=>⟨w,by simp [storeCells],h,fun _ _=>Below.refl _ _,fun _ _=>rfl⟩
 | v :: vs,i,w,cs,h,h1,hi=>by
   rw [List.length_cons] at hi;have hlt:off + i < cs.size:=by omega
   have h0:=h.cell (off + i);rw [Array.getElem?_eq_getElem hlt] at h0;have ea:(⟨g,off,none⟩:Addr).add i=⟨g,off + i,none⟩:=by rw [addr_add]
   obtain ⟨w',hr,hb,hl,ho⟩:=Q7b (P:=P) (off:=off) vs (i + 1) (w.setCell ⟨g,off + i,none⟩ v) (cs.setIfInBounds (off + i) v) (h.set _ v) (fun u hu=>h1 u (List.mem_cons_of_mem _ hu)) (by rw [Array.size_setIfInBounds]; omega)
   refine ⟨w',?_,?_,fun n hn=>Below.trans ((Below.refl n w).setCell (p:=⟨g,off + i,none⟩) hn v) (hl n hn),fun k hk=>(ho k hk).trans (Below.heap_setCell _ _ _ _ hk)⟩
   . rw [storeCells,ea]
     simp only [Sem.run_bind,run_store P w _ v _ (h1 v (List.mem_cons_self ..)),h0,h.frozen (off + i),Bool.false_eq_true,if_false,Result.andThen_ok];exact hr
   . rw [Q2s]; exact hb
theorem X3o {P:Program} {K:Value -> World -> Prop} {o:Oper} {a:Act} {w:World} (p x:Operand) (T:TypeId) (ho:o.op=.store T p x)
    {n:Nat} (hS:∀ w,(sizeOf T).run P w=.ok n w) {g off:Nat} (hp:a.eval p=.pointer (some ⟨g,off,none⟩)) {BT:TypeId} {cs vs:Array Value} (hx:a.eval x=.agg vs) (hb:Blk w g BT cs) (hn:off + n <= cs.size) (hv:vs.size=n) (h1:∀ u ∈ vs.toList,u.oneCell'=true)
    (h:∀ v w',Blk w' g BT (Q2s cs off vs.toList) -> (∀ n,n <= g -> Below n w w') -> (∀ k,k ≠ g -> w'.heap[k]?=w.heap[k]?) -> K v w'):gives P K ((execOp a.eval o).run P w):=by
 obtain ⟨w',hr,hb',hl,hoo⟩:=Q7b (P:=P) (off:=off) vs.toList 0 w cs hb h1 (by simp [hv]; omega)
 have hs:(storeVar T ⟨g,off,none⟩ (.agg vs)).run P w=.ok () w':=by
  have hc:(Value.agg vs).cells=vs:=rfl;unfold storeVar;simp only [Sem.run_bind,hS,Result.andThen_ok];rw [if_neg (by rw [hc]; simp [hv])]
  exact hr
 have hr2:(execOp a.eval o).run P w=.ok .skip w':=by
  unfold execOp;simp only [ho,hp,hx,Instr.storeAt,Instr.sureAddr,Sem.run_bind,Sem.run_pure,Result.andThen_ok,hs]
 rw [hr2];exact h _ _ hb' hl hoo
end
end Go.Tw
namespace Go.Tw
open Go.RowKit Go.Flow
theorem Y4s {P:Program} {w:World} (t ty e:TypeId) (ht:P.underlying t=some (.slice e)) {g off:Nat} {T:TypeId} {cur:Array Value} (hb:Blk w g T cur) (n cap:Nat) (hn:0 < n) (z:Value) (hz:∀ w,(zeroValue e).run P w=.ok z w) (h1:∀ v ∈ (Builtin.zeroCells z.cells n).toList,v.oneCell'=true) (hfit:off + (Builtin.zeroCells z.cells n).size <= cur.size) :
    ∃ w',(Builtin.clear_ #[t] ty #[.slice (some ⟨g,off,none⟩) n cap]).run P w=.ok (.tuple #[]) w' /\ Blk w' g T (Q2s cur off (Builtin.zeroCells z.cells n).toList) /\ (∀ n,n <= g -> Below n w w') /\ ∀ k,k ≠ g -> w'.heap[k]?=w.heap[k]?:=by
 obtain ⟨w',hr,hb',hl,hoo⟩:=Q7b (P:=P) (off:=off) (Builtin.zeroCells z.cells n).toList 0 w cur hb h1 (by simpa using hfit)
 refine ⟨w',?_,by simpa using hb',hl,hoo⟩
 obtain ⟨m,rfl⟩:∃ m,n=m + 1:=⟨n - 1,by omega⟩
 simp [Builtin.clear_,run_underlying ht,hz,hr]
theorem Q9l {P:Program} {w:World} {ops:Array Oper} {rest:List Oper} {o:Oper} {a:Act} {Q:Exit -> Act -> World -> Prop} (hgd:o.guard=none) (x:Operand) (t e:TypeId) (ho:o.op=.call { callee:=.builtin .clear,args:=#[x],argTypes:=#[t] }) (ht:P.underlying t=some (.slice e))
    {g off n cap:Nat} (hn:0 < n) (hx:a.eval x=.slice (some ⟨g,off,none⟩) n cap) {T:TypeId} {cur:Array Value} (hb:Blk w g T cur) (z:Value) (hz:∀ w,(zeroValue e).run P w=.ok z w) (h1:∀ v ∈ (Builtin.zeroCells z.cells n).toList,v.oneCell'=true) (hfit:off + (Builtin.zeroCells z.cells n).size <= cur.size)
    (hK:∀ w',Blk w' g T (Q2s cur off (Builtin.zeroCells z.cells n).toList) -> (∀ n,n <= g -> Below n w w') -> (∀ k,k ≠ g -> w'.heap[k]?=w.heap[k]?) -> wpList P ops Q rest (a.put o.dst (.tuple #[])) w'):wpList P ops Q (o :: rest) a w:=by
 refine wpList_plain hgd fun K' hK'=>?_;unfold Oper.wp;obtain ⟨w',hr,hb',hl,hoo⟩:=Y4s (P:=P) t o.type e ht hb n cap hn z hz h1 hfit;have hr2:(execOp a.eval o).run P w=.ok (.value (.tuple #[])) w':=by
  unfold execOp;simp only [ho,resolve,invoke,builtin,Sem.run_bind,Sem.run_pure,Result.andThen_ok,List.map_toArray,List.map_cons,List.map_nil,hx,hr]
 rw [hr2];exact hK' _ _ (hK w' hb' hl hoo)
theorem Q8j (n:Nat):(Builtin.zeroCells (Value.slice none 0 0).cells n).toList=List.replicate n (.slice none 0 0):=by
 apply List.ext_getElem?
 intro j;unfold Builtin.zeroCells
 by_cases hj:j < n
 . simp [Value.cells,hj,Nat.mod_one]
 . simp [Value.cells,hj]
end Go.Tw
namespace Go.Proofs
open Go.RowKit Go.Tw Go.Flow
structure Kept (ll r:List (List Int)) (j:Nat):Prop where
 asc:Asc r
 last:∃ r0,r=r0 ++ [ll.getD j []]
 mem:∀ x,x ∈ r ↔ x ∈ ll.take (j + 1)
theorem Kept.start {ll:List (List Int)} (h:0 < ll.length):Kept ll [ll.getD 0 []] 0 where
 asc:=by unfold Asc; simp
 last:=⟨[],rfl⟩
 mem x:=by rw [List.take_succ_eq_append_getElem h]; simp [h]
theorem X1a {ll:List (List Int)} {j:Nat} (hj:j + 1 < ll.length) (x:List Int):x ∈ ll.take (j + 2) ↔ x ∈ ll.take (j + 1) ∨ x=ll.getD (j + 1) []:=by
 have e:ll.getD (j + 1) []=ll[j + 1]:=by simp [hj]
 rw [show j + 2=(j + 1) + 1 from rfl,List.take_succ_eq_append_getElem hj,List.mem_append,List.mem_singleton,e]
theorem Kept.same {ll r:List (List Int)} {j:Nat} (h:Kept ll r j) (hj:j + 1 < ll.length) (he:ll.getD (j + 1) []=ll.getD j []):Kept ll r (j + 1) where
 asc:=h.asc
 last:=by rw [he]; exact h.last
 mem x:=by
  rw [X1a hj,h.mem x]
  constructor
  . exact .inl
  . rintro (k | k)
    . exact k
    . obtain ⟨r0,hr⟩:=h.last
      rw [<- h.mem x,k,he,hr]; simp
theorem Kept.snoc {ll r:List (List Int)} {j:Nat} (h:Kept ll r j) (hs:Sorted ll) (hj:j + 1 < ll.length) (he:ll.getD (j + 1) [] ≠ ll.getD j []):Kept ll (r ++ [ll.getD (j + 1) []]) (j + 1) where
 asc:=by
  have hb:Q1s (ll.getD j []) (ll.getD (j + 1) [])=true:=by
   have h1:=List.pairwise_iff_getElem.1 hs j (j + 1) (by omega) hj (by omega)
   have e1:ll.getD j []=ll[j]:=by simp [show j < ll.length by omega]
   have e2:ll.getD (j + 1) []=ll[j + 1]:=by simp [hj]
   rw [e1,e2] at he ⊢;rw [<- Q5t]
   rcases Y8j ll[j] ll[j + 1] with k | k | k
   . exact k
   . exact absurd k.symm he
   . exact absurd k h1
  obtain ⟨r0,hr⟩:=h.last;have ha:=h.asc;unfold Asc at ha ⊢;rw [List.pairwise_append];refine ⟨ha,List.pairwise_singleton _ _,?_⟩;intro a ham b hbm;rw [List.mem_singleton] at hbm;subst hbm;rw [hr,List.pairwise_append] at ha;rw [hr,List.mem_append,List.mem_singleton] at ham
  rcases ham with ham | ham
  . exact Q5f (ha.2.2 a ham _ (List.mem_singleton.2 rfl)) hb
  . subst ham; exact hb
 last:=⟨r,rfl⟩
 mem x:=by rw [X1a hj,List.mem_append,h.mem x,List.mem_singleton]
theorem Kept.all {ll r:List (List Int)} {j:Nat} (h:Kept ll r j) (hj:j + 1=ll.length):Asc r /\ ∀ x,x ∈ r ↔ x ∈ ll :=
 ⟨h.asc,fun x=>by rw [h.mem x,hj,List.take_length]⟩
theorem Kept.take_snoc {ll:List (List Int)} {j:Nat} (hj:j + 1 < ll.length):ll.take (j + 1) ++ [ll.getD (j + 1) []]=ll.take (j + 2):=by
 have e:ll.getD (j + 1) []=ll[j + 1]:=by simp [hj]
 rw [show j + 2=(j + 1) + 1 from rfl,List.take_succ_eq_append_getElem hj,e]
theorem Kept.first {ll:List (List Int)} (h:0 < ll.length):Kept ll (ll.take 1) 0:=by
 have e:ll.take 1=[ll.getD 0 []]:=by rw [List.take_succ_eq_append_getElem h]; simp [h]
 rw [e]; exact Kept.start h
theorem Tryz.Z6c (w:World):(zeroValue 166).run Tryz.prog w=.ok (.slice none 0 0) w:=by kernel_rfl
theorem Tryz.Z6e (w:World):(sizeOf 166).run Tryz.prog w=.ok 1 w:=by kernel_rfl
theorem Y6x.ext {w w':World} {g:Nat} {cur vs:List Value} {ll:List (List Int)} (h:Y6x w g cur vs ll) (hx:Ext w w'):Y6x w' g cur vs ll:=⟨h.1.ext hx,h.2.1,h.2.2.ext hx⟩
theorem Y6x.at {w:World} {g:Nat} {cur vs:List Value} {ll:List (List Int)} (h:Y6x w g cur vs ll) {k:Nat} (hk:k < ll.length) :
    w.cell? ⟨g,k,none⟩=some (vs.getD k undef) /\ Q0d w (vs.getD k undef) (ll.getD k []) /\ Q0q w 0 3 (.int .i64) (vs.getD k undef) (ll.getD k []) /\ (ll.getD k []).length <= 8:=by
 obtain ⟨hb,ht,hs⟩:=h;have hl:=hs.1;have h1:=hs.2 k hk;refine ⟨?_,h1.1.ints (by have:=h1.2; omega),h1.1,h1.2⟩
 rw [hb.cell,List.getElem?_toArray];have h2:=congrArg (fun l=>l[k]?) ht;simp only [List.getElem?_take,show k < vs.length by omega,if_true] at h2
 rw [h2];simp [show k < vs.length by omega]
theorem Y6x.reads {w:World} {g cap:Nat} {cur vs:List Value} {ll:List (List Int)} (h:Y6x w g cur vs ll) (hl:ll.length <= 1000) (hc:ll.length <= cap):Q2z w (.slice (some ⟨g,0,none⟩) ll.length cap) ll :=
 ⟨fun k=>vs.getD k undef,⟨_,cap,rfl,by omega,hc,fun j hj=>⟨g,0,rfl,by rw [Nat.zero_add]; exact (h.at (by omega)).1⟩⟩,fun j hj=>by
  have:=(h.at hj).2.1
  simpa [hj] using this⟩
end Go.Proofs
