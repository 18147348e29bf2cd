/- Contract: slices.SortFunc over sets. Contract: the minimal sets that have a property. -/
import Derived.Test.YtgopmebjbkdfgaaGreatDoorMz11
set_option maxRecDepth 1000000
set_option maxHeartbeats 64000000
set_option linter.unusedVariables false
set_option linter.unusedSimpArgs false
set_option linter.constructorNameAsVariable false
namespace Go.Proofs
open Go.RowKit Go.Tw Go.Flow Go.Sort
theorem J3n (x y:Int):Z7r x y < 0 ↔ x < y:=by unfold Z7r; split <;> (try split) <;> omega
theorem Q7h (x y:Int) (l m:List Int):cmpL (x :: l) (y :: m) < 0 ↔ x < y ∨ (x = y /\ cmpL l m < 0):=by
 show (if x = y then cmpL l m else Z7r x y) < 0 ↔ _
 split
 . rename_i h; simp [h]
 . rename_i h; rw [J3n]; simp [h]
theorem Z0r:∀ a b:List Int,cmpL a b < 0 ∨ a = b ∨ cmpL b a < 0
 | [],[]=>.inr (.inl rfl)
 | [],_ :: _=>.inl (by exact (by decide:(-1:Int) < 0))
 | _ :: _,[]=>.inr (.inr (by exact (by decide:(-1:Int) < 0)))
 | x :: l,y :: m=>by
   rw [Q7h,Q7h]
   rcases Int.lt_trichotomy x y with h | h | h
   . exact .inl (.inl h)
   . subst h
     rcases Z0r l m with h | h | h
     . exact .inl (.inr ⟨rfl,h⟩)
     . subst h; exact .inr (.inl rfl)
     . exact .inr (.inr (.inr ⟨rfl,h⟩))
   . exact .inr (.inr (.inl h))
theorem Y1o:∀ a b c:List Int,cmpL a b < 0 -> cmpL b c < 0 -> cmpL a c < 0
 | [],[],_,h,_=>by simp [cmpL] at h
 | [],_ :: _,[],_,h=>by simp [cmpL] at h
 | [],_ :: _,_ :: _,_,_=>by simp [cmpL]
 | _ :: _,[],_,h,_=>by simp [cmpL] at h
 | _ :: _,_ :: _,[],_,h=>by simp [cmpL] at h
 | x :: l,y :: m,z :: n,h1,h2=>by
   rw [Q7h] at *
   rcases h1 with h1 | ⟨h1,h1'⟩ <;> rcases h2 with h2 | ⟨h2,h2'⟩
   . exact .inl (by omega)
   . exact .inl (by omega)
   . exact .inl (by omega)
   . exact .inr ⟨by omega,Y1o l m n h1' h2'⟩
theorem Y6y (a:List Int):¬ cmpL a a < 0:=by
 induction a with
 | nil=>decide
 | cons x l ih=>rw [Q7h]; rintro (h | ⟨_,h⟩) <;> omega
theorem X0t (a b:List Int):Q5w a b < 0 ↔ a.length < b.length ∨ (a.length = b.length /\ cmpL a b < 0):=by
 unfold Q5w
 split
 . rename_i h; simp [h]
 . rename_i h; omega
theorem X4l (a:List Int):¬ Q5w a a < 0:=by rw [X0t]; have:=Y6y a; omega
theorem Q8z {a b c:List Int} (h1:Q5w a b < 0) (h2:Q5w b c < 0):Q5w a c < 0:=by
 rw [X0t] at *
 rcases h1 with h1 | ⟨h1,h1'⟩ <;> rcases h2 with h2 | ⟨h2,h2'⟩
 . exact .inl (by omega)
 . exact .inl (by omega)
 . exact .inl (by omega)
 . exact .inr ⟨by omega,Y1o _ _ _ h1' h2'⟩
theorem X4z (a b:List Int):Q5w a b < 0 ∨ a = b ∨ Q5w b a < 0:=by
 rw [X0t,X0t]
 rcases Nat.lt_trichotomy a.length b.length with h | h | h
 . exact .inl (.inl h)
 . rcases Z0r a b with h' | h' | h'
   . exact .inl (.inr ⟨h,h'⟩)
   . exact .inr (.inl h')
   . exact .inr (.inr (.inr ⟨h.symm,h'⟩))
 . exact .inr (.inr (.inl h))
theorem Z3u (f:Nat -> List Int):SWO (ltOf fun x y:Nat=>Q5w (f x) (f y)) where
 irrefl x:=by simpa [ltOf] using X4l (f x)
 trans x y z h1 h2:=by simp only [ltOf,decide_eq_true_eq] at *; exact Q8z h1 h2
 ntrans x y z h1 h2:=by
  simp only [ltOf,decide_eq_false_iff_not] at *;intro h
  rcases X4z (f x) (f y) with h' | h' | h'
  . exact h1 h'
  . rw [h'] at h; exact h2 h
  . exact h2 (Q8z h' h)
def Sets (w:World) (vs:List Value) (ll:List (List Int)):Prop:=vs.length = ll.length /\ ∀ i,i < ll.length -> Q0t w 0 3 (.int .i64) (vs.getD i undef) (ll.getD i []) /\ (ll.getD i []).length <= 16
theorem Y3d {w W:World} {v:Value} {l:List Int} (h:Q0t w 0 3 (.int .i64) v l) (hb:∀ b,v.ownBlock = some b -> b < w.heap.size -> W.heap[b]? = w.heap[b]?):Q0t W 0 3 (.int .i64) v l:=by
 obtain ⟨h1,h2⟩:=h;refine ⟨h1,?_⟩
 rcases h2 with h2 | ⟨g,cap,cur,hv,hbg,hg,r⟩
 . exact .inl h2
 . exact .inr ⟨g,cap,cur,hv,hbg,(hb g (by rw [hv]; rfl) (Array.getElem?_eq_some_iff.1 hg).1).trans hg,r⟩
theorem Z1g {w:World} {v:Value} {l:List Int} {g:Nat} {cur:Array Value} {fr:Nat × Nat} (h:Q0t w 0 3 (.int .i64) v l) (hg:w.heap[g]? = some (.cells cur 180 fr)):v.ownBlock ≠ some g:=by
 intro e;obtain ⟨h1,h2⟩:=h
 rcases h2 with ⟨rfl,_⟩ | ⟨g',cap,cur',rfl,hbg,hg',r⟩
 . cases e
 . obtain rfl:g' = g:=by simpa [Value.ownBlock] using e
   rw [hg] at hg';injection hg' with h;injection h with _ h;exact absurd h (by decide)
theorem Sets.at {w W:World} {vs:List Value} {ll:List (List Int)} (h:Sets w vs ll) (hb:∀ v l,Q0t w 0 3 (.int .i64) v l -> ∀ b,v.ownBlock = some b -> b < w.heap.size -> W.heap[b]? = w.heap[b]?):Sets W vs ll :=
 ⟨h.1,fun i hi=>⟨Y3d (h.2 i hi).1 (hb _ _ (h.2 i hi).1),(h.2 i hi).2⟩⟩
theorem Sets.ext {w W:World} {vs:List Value} {ll:List (List Int)} (h:Sets w vs ll) (hx:Ext w W):Sets W vs ll:=h.at fun _ _ _ b _ hb=>Below.block hx b hb
theorem Sets.reads {w:World} {vs:List Value} {ll:List (List Int)} (h:Sets w vs ll):Reads w vs ll:=⟨h.1,fun i hi=>(h.2 i hi).1.ints (by have:=(h.2 i hi).2; omega)⟩
theorem Sets.nil (w:World):Sets w [] []:=⟨rfl,fun i hi=>by simp at hi⟩
theorem Sets.snoc {w:World} {vs:List Value} {ll:List (List Int)} {v:Value} {l:List Int} (h:Sets w vs ll) (hv:Q0t w 0 3 (.int .i64) v l) (hl:l.length <= 16):Sets w (vs ++ [v]) (ll ++ [l]):=by
 refine ⟨by simp [h.1],fun i hi=>?_⟩
 rw [List.length_append,List.length_singleton] at hi
 by_cases hlt:i < ll.length
 . have e1:(vs ++ [v]).getD i undef = vs.getD i undef:=by simp [List.getElem?_append_left (show i < vs.length by rw [h.1]; exact hlt)]
   have e2:(ll ++ [l]).getD i [] = ll.getD i []:=by simp [List.getElem?_append_left hlt]
   rw [e1,e2]; exact h.2 i hlt
 . have e:i = ll.length:=by omega
   have e1:(vs ++ [v]).getD i undef = v:=by rw [e,<- h.1]; simp
   have e2:(ll ++ [l]).getD i [] = l:=by rw [e]; simp
   rw [e1,e2]; exact ⟨hv,hl⟩
theorem Q7a {α:Type} [Inhabited α] (enc:α -> Value) (w:World) (blk off n:Nat) (d:Array α) (os:Array Obj) {k:Nat} (hk:k < w.heap.size) (hne:k ≠ blk):(sortWorld enc w blk off n d os).heap[k]? = w.heap[k]?:=by
 unfold sortWorld;rw [heap_grow_old _ _ (by rw [size_putRow]; exact hk)]
 show (w.heap.modify blk _)[k]? = _;rw [Array.getElem?_modify,if_neg (fun h=>hne h.symm)]
theorem Y0c {α:Type} [Inhabited α] (enc:α -> Value) (w:World) (blk off n:Nat) (d:Array α) (os:Array Obj):w.heap.size <= (sortWorld enc w blk off n d os).heap.size:=by
 unfold sortWorld;rw [size_grow,size_putRow]; show w.heap.size <= w.heap.size + _; omega
theorem X8j {α:Type} [Inhabited α] (enc:α -> Value) (w:World) (blk off n:Nat) (d:Array α) (os:Array Obj):w.grownBy (sortWorld enc w blk off n d os) (some blk) :=
 ⟨rfl,rfl,rfl,Y0c _ _ _ _ _ _ _,fun k hk hne=>Q7a _ _ _ _ _ _ _ hk (fun e=>hne (by rw [e]))⟩
theorem X8r {α:Type} [Inhabited α] (enc:α -> Value) (w:World) (blk off n:Nat) (d0 d:Array α) (os:Array Obj) (h0:Holds enc w blk off d0) (hs:d.size = d0.size) (hb:blk < w.heap.size):Holds enc (sortWorld enc w blk off n d os) blk off d:=by
 unfold sortWorld;exact holds_grow _ _ _ _ _ _ (by rw [size_putRow]; exact hb) (holds_putRow enc (Sort.ahead w n) blk off d0 d (holds_ahead _ _ _ _ _ _ h0) hs)
def Sorted (ll:List (List Int)):Prop:=ll.Pairwise fun a b=>¬ Q5w b a < 0
theorem J0z (w:World) (g cap base:Nat) (vs:List Value) (ll:List (List Int)) (hown:Q0t w base 180 idV (.slice (some ⟨g,0,none⟩) vs.length cap) vs) (hs:Sets w vs ll) (hle:ll.length <= 4096) :
    Calls Tryz.prog 121 #[.slice (some ⟨g,0,none⟩) ll.length cap,.func (.func 122) #[] #[]] w fun e w'=>e = .returned (.tuple #[]) /\ ∃ ll',ll'.Perm ll /\ Sorted ll' /\ Q1t w' (.slice (some ⟨g,0,none⟩) ll.length cap) ll' /\ w.grownBy w' (some g):=by
 obtain ⟨cur,hcur,hgl,hcap,htake⟩:∃ cur,w.heap[g]? = some (.cells cur 180 (0,0)) /\ g < w.heap.size /\ vs.length <= cap /\ cur.toList.take vs.length = vs:=by
  obtain ⟨h1,h2⟩:=hown
  rcases h2 with ⟨h2,_⟩ | ⟨g',cap',cur,hv,hb,hg,hc,hm,hz,ht⟩
  . cases h2
  . injection hv with e1 e2 e3
    injection e1 with e1;injection e1 with e1;subst e1; subst e3;refine ⟨cur,hg,(Array.getElem?_eq_some_iff.1 hg).1,hc,?_⟩;have hid:vs.map idV = vs:=by show vs.map id = vs; exact List.map_id vs
    rw [hid,Nat.mul_one] at ht;exact ht
 have hlen:=hs.1;obtain ⟨K,hK⟩:∃ K,ll.length = K:=⟨_,rfl⟩;rw [hK] at hlen hle ⊢
 let z:Value:=.slice none 0 0
 let enc:Nat -> Value:=fun x=>vs.getD x z
 let cont:Nat -> List Int:=fun x=>ll.getD x []
 have hint:∀ x W,(∀ k,k < w.heap.size -> k ≠ g -> W.heap[k]? = w.heap[k]?) -> Q0f W (enc x) (cont x):=by
  intro x W hW
  by_cases hx:x < K
  . have h1:=(hs.2 x (by omega)).1
    have h2:=Y3d (W:=W) h1 (fun b hb hbl=>hW b hbl (fun e=>Z1g h1 hcur (by rw [<- e]; exact hb)))
    have h3:=h2.ints (by have:=(hs.2 x (by omega)).2; omega)
    have e1:vs.getD x undef = enc x:=by simp [enc,z,show x < vs.length by omega]
    rw [e1] at h3;exact h3
  . have e1:enc x = .slice none 0 0:=by simp [enc,z,show ¬ x < vs.length by omega,List.getD_eq_getElem?_getD,List.getElem?_eq_none (show vs.length <= x by omega)]
    have e2:cont x = []:=by simp [cont,List.getD_eq_getElem?_getD,List.getElem?_eq_none (show ll.length <= x by omega)]
    rw [e1,e2];exact Rows.nil 1 _ W
 have hone:OneCell enc:=by
  intro x;obtain ⟨A,c,he,_⟩:=(hint x w (fun _ _ _=>rfl)).opened
  rw [he]; rfl
 have hH:Holds enc w g 0 (Array.range K):=by
  intro j hj;rw [Array.size_range] at hj;have e1:(Array.range K)[j]! = j:=by rw [getElem!_pos _ j (by simpa using hj)]; simp
  rw [e1];refine ⟨?_,by simp [World.frozen?,hcur]⟩
  have h1:=congrArg (fun l=>l[j]?) htake;rw [Nat.zero_add];simp only [List.getElem?_take,show j < vs.length by omega,if_true] at h1
  show (match w.heap[g]? with | some (.cells c _ _)=>_ | _=>_) = _
  rw [hcur];simp only [Option.isSome_none,Bool.false_eq_true,if_false];rw [<- Array.getElem?_toList,h1];simp [enc,show j < vs.length by omega]
 have hcmp:CmpLays1 Tryz.prog 122 #[] enc (fun x y=>Q5w (cont x) (cont y)) g 0 (Array.range K).size w:=by
  refine CmpReads.lays fun m os dk hdk x y=>?_;have h:=Y8k (sortWorld enc w g 0 m dk os) (enc x) (enc y) (cont x) (cont y) (hint x _ (fun k hk hne=>Q7a _ _ _ _ _ _ _ hk hne)) (hint y _ (fun k hk hne=>Q7a _ _ _ _ _ _ _ hk hne));exact h.mono fun e w' ⟨he,hw⟩=>⟨he,0,hw.symm⟩
 have eg:∀ args w,(callFunc 122 args).run Tryz.prog w = .ok (.enter 122 args) w:=enters_of Tryz.func122 (by kernel_rfl) rfl
 have hcon:=Any.slices_SortFunc Tryz.sortSet enc hone (fun x y=>Q5w (cont x) (cont y)) (Z3u cont) 122 #[] g 0 cap (Array.range K) w eg hcmp hH hgl (by rw [Array.size_range]; omega)
 rw [Array.size_range] at hcon;change Calls Tryz.prog 121 _ _ _ at hcon;refine hcon.mono fun e w' ⟨he,d',n,os,hp,hso,hw⟩=>⟨he,?_⟩;subst hw;obtain ⟨hp1,_,hp3⟩:=hp;rw [Array.size_range] at hp1;have hperm:d'.toList.Perm (List.range K):=by
  have e1:d'.extract 0 K = d':=by rw [<- hp1]; simp
  have e2:(Array.range K).extract 0 K = Array.range K:=by
   apply Array.toList_inj.1
   rw [Array.toList_extract,List.extract_eq_take_drop,List.drop_zero];exact List.take_of_length_le (by simp)
  rw [e1,e2] at hp3
  simpa using hp3
 have hll:(List.range K).map cont = ll:=by
  apply List.ext_getElem
  . simp [hK]
  . intro i h1 h2; simp [cont,h2]
 refine ⟨d'.toList.map cont,by rw [<- hll]; exact hperm.map cont,?_,?_,X8j _ _ _ _ _ _ _⟩
 . unfold Sorted
   rw [List.pairwise_map,List.pairwise_iff_getElem];intro i j hi hj hij;have hi':i < d'.size:=by simpa using hi
   have hj':j < d'.size:=by simpa using hj
   have h:=hso i j (Nat.zero_le _) hij (by omega)
   rw [getElem!_pos d' i hi',getElem!_pos d' j hj'] at h
   simpa [ltOf] using h
 . have hho:=X8r enc w g 0 n (Array.range K) d' os hH (by simp [hp1]) hgl
   have hl2:(d'.toList.map cont).length = K:=by simp [hp1]
   refine ⟨fun k=>enc (d'[k]!),⟨_,cap,by rw [hl2],by rw [hl2]; omega,by rw [hl2]; omega,fun j hj=>?_⟩,fun j hj=>?_⟩
   . rw [hl2,Nat.mul_one] at hj
     exact ⟨g,0,rfl,(hho j (by omega)).1⟩
   . rw [hl2] at hj
     have hj':j < d'.size:=by omega
     simp only [Nat.mul_one,Nat.add_zero];rw [getElem!_pos d' j hj'];have:=hint d'[j] (sortWorld enc w g 0 n d' os) (fun k hk hne=>Q7a _ _ _ _ _ _ _ hk hne)
     simpa using this
end Go.Proofs
namespace Go.Proofs
open Go.RowKit Go.Tw Go.Flow Go.Sort
attribute [local go_sem] Oper.semAt_some
def X2u (q:Nat -> Bool) (n x:Nat):Bool:=q x && (List.range n).all fun i=>!(x.testBit i && q (Q2j x (2 ^ i)))
def Y2b (q:Nat -> Bool) (x k:Nat):Bool:=(List.range k).all fun i=>!(x.testBit i && q (Q2j x (2 ^ i)))
theorem Z3g (q:Nat -> Bool) (x k:Nat):Y2b q x (k + 1) = (Y2b q x k && !(x.testBit k && q (Q2j x (2 ^ k)))):=by unfold Y2b; rw [List.range_succ,List.all_append]; simp
def minL {N:Nat} (q:Nat -> Bool) (n:Nat) (l:List (Fin N)):List (List Int):=(l.filter fun x=>X2u q n x.1).map fun x=>bitsOf x.1
theorem Z6h {N:Nat} (q:Nat -> Bool) (n:Nat) (l:List (Fin N)) (x:Fin N):minL q n (l ++ [x]) = minL q n l ++ if X2u q n x.1 then [bitsOf x.1] else []:=by
 unfold minL;rw [List.filter_append,List.map_append];cases h:X2u q n x.1 <;> simp [h]
theorem Y1y {N:Nat} (q:Nat -> Bool) (n:Nat) (l:List (Fin N)):(minL q n l).length <= l.length:=by unfold minL; rw [List.length_map]; exact List.length_filter_le _ _
theorem J0w {q:Nat -> Bool} {n x:Nat} (h:q x = false):X2u q n x = false:=by unfold X2u; rw [h]; rfl
theorem Z1a {q:Nat -> Bool} {n x:Nat} (h:q x = true):X2u q n x = Y2b q x n:=by unfold X2u Y2b; rw [h]; rfl
theorem Z2h {q:Nat -> Bool} {n x k:Nat} (hk:k < n) (h:(x.testBit k && q (Q2j x (2 ^ k))) = true):Y2b q x n = false:=by
 unfold Y2b;rw [List.all_eq_false];exact ⟨k,List.mem_range.2 hk,by rw [h]; decide⟩
theorem Y6p {α:Type} {W W':World} {base:Nat} {e:TypeId} {enc:α -> Value} {v:Value} {l:List α} (h:Q0t W base e enc v l) (hk:∀ (b:Nat) (o:Obj),W.heap[b]? = some o -> o.isCells = true -> W'.heap[b]? = some o):Q0t W' base e enc v l:=by
 obtain ⟨h1,h2⟩:=h;refine ⟨h1,?_⟩
 rcases h2 with h2 | ⟨g,cap,cur,hv,hbg,hg,r⟩
 . exact .inl h2
 . exact .inr ⟨g,cap,cur,hv,hbg,hk _ _ hg rfl,r⟩
def Coll (g base:Nat) (ll:List (List Int)) (W:World):Prop:=∃ v vs,Blk W g 179 #[v] /\ Q0t W base 180 idV v vs /\ Sets W vs ll
theorem Coll.own {β:Type} (g base:Nat) (f:β -> List (List Int)):Own (fun s W=>Coll g base (f s) W):=by
 intro s W W' row hs hg hr;obtain ⟨v,vs,hb,ho,hst⟩:=hs;have hk:∀ (b:Nat) (o:Obj),W.heap[b]? = some o -> o.isCells = true -> W'.heap[b]? = some o:=fun b o h hc=>(grownBy_keeps_cells hg hr h hc).trans h;exact ⟨v,vs,hk _ _ hb rfl,Y6p ho hk,hst.1,fun i hi=>⟨Y6p (hst.2 i hi).1 hk,(hst.2 i hi).2⟩⟩
theorem Coll.ext {g base:Nat} {ll:List (List Int)} {W W':World} (h:Coll g base ll W) (hx:Ext W W'):Coll g base ll W':=by
 obtain ⟨v,vs,hb,ho,hst⟩:=h;exact ⟨v,vs,hb.ext hx,ho.below hx,hst.ext hx⟩
theorem X8v {α:Type} {W W':World} {base:Nat} {e:TypeId} {enc:α -> Value} {v:Value} {l:List α} (h:Q0t W base e enc v l) (hg:W.grownBy W' v.ownBlock):KeepsOthers W W':=by
 refine ⟨hg.size,fun k o hk hc=>?_⟩
 by_cases hr:some k = v.ownBlock
 . obtain ⟨h1,h2⟩:=h
   rcases h2 with ⟨rfl,_⟩ | ⟨g,cap,cur,rfl,hbg,hgc,r⟩
   . cases hr
   . have:k = g:=by simpa [Value.ownBlock] using hr
     subst this;rw [hgc] at hk;injection hk with hk;subst hk;cases hc
 . rw [hg.block k (Array.getElem?_eq_some_iff.1 hk).1 hr]; exact hk
theorem Z4f {W W':World} {base:Nat} {v:Value} {vs us:List Value} {ll:List (List Int)} (h:Q0t W base 180 idV v us) (hs:Sets W vs ll) (hg:W.grownBy W' v.ownBlock):Sets W' vs ll:=by
 refine hs.at fun u l hu b hb hbl=>hg.block b hbl fun e=>?_;obtain ⟨h1,h2⟩:=h
 rcases h2 with ⟨rfl,_⟩ | ⟨g,cap,cur,rfl,hbg,hgc,r⟩
 . cases e
 . have:b = g:=by simpa [Value.ownBlock] using e
   subst this;exact Z1g hu hgc hb
theorem Y5e {α:Type} {W W':World} {base:Nat} {e:TypeId} {enc:α -> Value} {v:Value} {l:List α} {g:Nat} {T:TypeId} {cs:Array Value} (hb:Blk W g T cs) (h:Q0t W base e enc v l) (hlt:g < base) (hg:W.grownBy W' v.ownBlock):Blk W' g T cs:=by
 unfold Blk at *;refine (hg.block g (Array.getElem?_eq_some_iff.1 hb).1 fun e=>?_).trans hb;obtain ⟨h1,h2⟩:=h
 rcases h2 with ⟨rfl,_⟩ | ⟨g',cap,cur,rfl,hbg,hgc,r⟩
 . cases e
 . have:g = g':=by simpa [Value.ownBlock] using e
   omega
theorem Tryz.J3e:(Tryz.prog.info? 180).map (fun i=>(i.zero,i.size,i.bytes)) = some (some (.slice none 0 0),1,24):=by kernel_rfl
theorem Y6n {w w':World} {v:Value} {n sz:Nat} {c:Nat -> Value} (h:Row w v n sz c) (hc:∀ a u,w.cell? a = some u -> w'.cell? a = some u):Row w' v n sz c:=by
 obtain ⟨A,cap,hv,hn,hcap,hj⟩:=h;exact ⟨A,cap,hv,hn,hcap,fun j hjj=>let ⟨b,off,hA,h⟩:=hj j hjj; ⟨b,off,hA,hc _ _ h⟩⟩
theorem Y6h {w w':World} {v:Value} {l:List Int} (h:Q0f w v l) (hc:∀ a u,w.cell? a = some u -> w'.cell? a = some u):Q0f w' v l:=let ⟨c,h1,h2⟩:=h; ⟨c,Y6n h1 hc,h2⟩
theorem X4d {w w':World} {v:Value} {l:List (List Int)} (h:Q1t w v l) (hc:∀ a u,w.cell? a = some u -> w'.cell? a = some u):Q1t w' v l:=let ⟨c,h1,h2⟩:=h; ⟨c,Y6n h1 hc,fun j hj=>Y6h (h2 j hj) hc⟩
theorem J0k (w:World) (f:Value):Calls Tryz.prog 158 #[.slice none 0 0,.int .i64 0,.int .i64 0,f] w fun e w'=>e = .returned (.tuple #[]) /\ w = w':=by
 go_enter Tryz.func158,Tryz.ntmps158;go_wp2_with (apply wp_loop_once)
 go_end0
 exact ⟨rfl,rfl⟩
theorem Z9q (w:World) (f:Value) (m:Int):Calls Tryz.prog 145 #[.slice none 0 0,.int .i64 0,.int .i64 0,.int .i64 m,f] w fun e w'=>e = .returned (.tuple #[]) /\ w = w':=by
 go_enter Tryz.func145,Tryz.ntmps145;go_wp2_with (first | (apply wp_loop_once) | (go_at_call 158; refine (J0k _ _).mono ?_; rintro e w' ⟨rfl,rfl⟩))
 refine bodyPost_ret (results_none rfl _ _ _) rfl ?_;exact ⟨rfl,rfl⟩
theorem Z5o (w:World):Calls Tryz.prog 121 #[.slice none 0 0,.func (.func 122) #[] #[]] w fun e w'=>e = .returned (.tuple #[]) /\ w = w':=by
 have hlen:=Tryz.bits_Len 0;generalize ((Lib.bitLen (Int.toNat 0):Nat):Int) = m at hlen;go_enter Tryz.func121,Tryz.ntmps121;go_wp2_with (first | (go_at_call 146; refine (hlen _ (by omega) (by omega)).mono ?_; rintro e w' ⟨rfl,rfl⟩) | (go_at_call 145; refine (Z9q _ _ _).mono ?_; rintro e w' ⟨rfl,rfl⟩))
 go_end0
 exact ⟨rfl,rfl⟩
theorem X9p {c:Code} {n:Nat} {P:Program} {Q:Exit -> Act -> World -> Prop} {a:Act} {w:World} (h:c.wpIn Fence.wide n P (Exit.noGoto Q) a w):(Code.scope c).wpIn Fence.wide n P Q a w:=wpIn_wide.2 (wp_scope_straight (wpIn_wide.1 h))
theorem X9b {w:World} {v:Value} {l:List Int} {g:Nat} {cs:Array Value} {T:TypeId} (hT:T ≠ 3) (h:Q0t w 0 3 (.int .i64) v l) (hg:Blk w g T cs):v.ownBlock ≠ some g:=by
 intro e;obtain ⟨h1,h2⟩:=h
 rcases h2 with ⟨rfl,_⟩ | ⟨g',cap,cur',rfl,hbg,hg',r⟩
 . cases e
 . obtain rfl:g' = g:=by simpa [Value.ownBlock] using e
   unfold Blk at hg;rw [hg] at hg';injection hg' with h;injection h with _ h;exact hT h
theorem Y4i {W:World} {vs:List Value} {ll:List (List Int)} {g k:Nat} {T:TypeId} {cs:Array Value} {u:Value} (hs:Sets W vs ll) (hb:Blk W g T cs) (hT:T ≠ 3):Sets (W.setCell ⟨g,k,none⟩ u) vs ll :=
 hs.at fun _ _ hv b hbv _=>Q9a _ _ _ b fun e=>X9b hT hv hb (by rw [hbv]; exact congrArg some e)
theorem J0d {k Z:Nat} (hZ:2 ^ k = Z) (h:Z < 2 ^ 62):IntKind.i64.wrap ((2:Int) ^ k) = (Z:Int):=by
 rw [show ((2:Int) ^ k) = ((2 ^ k:Nat):Int) by simp,hZ]
 exact Q6e _ (by omega) (by omega)
theorem Tryz.J0j (w:World):(sizeOf 179).run Tryz.prog w = .ok 1 w:=by kernel_rfl
theorem X0v (w:World) (fv gv:Value) (t:Tree) (c:List Int) (hf:Nat) (rv:Value) (q:Nat -> Bool) (hv:Valid t) (hn:Y6q w fv gv t) (hT:Tab w) (eg:∀ args w,(callFunc hf args).run Tryz.prog w = .ok (.enter hf args) w)
    (hq:∀ (W:World) (s:Nat),Ext w W -> s < 2 ^ t.size -> Calls Tryz.prog hf #[rv,.int .i64 s] W fun e W'=>e = .returned (.bool (q s)) /\ Ext W W') :
    Calls Tryz.prog 72 #[noV t c fv gv,.func (.func hf) #[rv] #[]] w fun e w'=>∃ x ll,e = .returned x /\ Q1t w' x ll /\ ll.Perm (minL q t.size (List.finRange (2 ^ t.size))) /\ Sorted ll /\ Ext w w':=by
 obtain ⟨i0,hi,hz0,hz1,hz2⟩:=info_parts Tryz.J3e;obtain ⟨A1,cap1,rfl,_,_,_⟩:=hn.fails.opened;obtain ⟨A2,cap2,rfl,_,_,_⟩:=hn.gates.opened;rw [Q2v] at hn ⊢;have HN:=Lib.hid hn;have HV:=Lib.hid hv;have HQ:=Lib.hid hq;have HT:=Lib.hid hT;have hsz:=hv.size;clear hn hv hq hT;unfold noV;refine (callsIn_wide (n:=9)).1 ?_;refine callsIn_of_wp_marks Tryz.func72 rfl trivial ?_ rfl;simp only [Tryz.ntmps72,List.size_toArray,List.length_cons,List.length_nil,Nat.reduceAdd,Nat.reduceSub,Array.replicate_succ,Array.replicate_zero,List.push_toArray,List.append_toArray,List.nil_append,List.cons_append]
 gi_wp2_with (first | (apply X9p) | (apply wpIn_label) | (simp only [Exit.noGoto]) | (refine (show Fence.wide.fn _ /\ _ from ⟨trivial,?_⟩); gi_at_call 94; refine (callsIn_wide.2 (X3p _ t c A1 t.size cap1)).mono ?_; rintro e w' ⟨rfl,hce,hse,hxe⟩))
 simp only [World.size_alloc];have es0:(w.alloc (.cells (outA t.size (.slice A1 t.size cap1) c t.basics.length (.slice A2 t.gates.length cap2)) 129)).heap.size = w.heap.size + 1:=by simp
 have k0:=Blk.made w 129 (outA t.size (.slice A1 t.size cap1) c t.basics.length (.slice A2 t.gates.length cap2));have x0:=Ext.box w (.cells (outA t.size (.slice A1 t.size cap1) c t.basics.length (.slice A2 t.gates.length cap2)) 129);replace hxe:Ext (((w.alloc (.cells (outA t.size (.slice A1 t.size cap1) c t.basics.length (.slice A2 t.gates.length cap2)) 129)).alloc (.cells #[.func (.func hf) #[rv] #[]] 133)).alloc (.cells #[.slice none 0 0] 179)) w':=hxe;replace hce:w'.cell? ⟨(((w.alloc (.cells (outA t.size (.slice A1 t.size cap1) c t.basics.length (.slice A2 t.gates.length cap2)) 129)).alloc (.cells #[.func (.func hf) #[rv] #[]] 133)).alloc (.cells #[.slice none 0 0] 179)).heap.size,0,none⟩ = some (.int .i64 t.size):=hce;replace hse:w'.heap.size = (((w.alloc (.cells (outA t.size (.slice A1 t.size cap1) c t.basics.length (.slice A2 t.gates.length cap2)) 129)).alloc (.cells #[.func (.func hf) #[rv] #[]] 133)).alloc (.cells #[.slice none 0 0] 179)).heap.size + 1:=hse;obtain ⟨X0,hX0⟩:∃ X,(w.alloc (.cells (outA t.size (.slice A1 t.size cap1) c t.basics.length (.slice A2 t.gates.length cap2)) 129)) = X:=⟨_,rfl⟩;rw [hX0] at hxe hce hse k0 x0 es0;have k1:=Blk.made X0 133 #[.func (.func hf) #[rv] #[]];have x1:=Ext.box X0 (.cells #[.func (.func hf) #[rv] #[]] 133);have es1:(X0.alloc (.cells #[.func (.func hf) #[rv] #[]] 133)).heap.size = X0.heap.size + 1:=by simp
 obtain ⟨X1,hX1⟩:∃ X,X0.alloc (.cells #[.func (.func hf) #[rv] #[]] 133) = X:=⟨_,rfl⟩;rw [hX1] at hxe hce hse k1 x1 es1;have k2:=Blk.made X1 179 #[.slice none 0 0];have x2:=Ext.box X1 (.cells #[.slice none 0 0] 179);have es2:(X1.alloc (.cells #[.slice none 0 0] 179)).heap.size = X1.heap.size + 1:=by simp
 obtain ⟨X2,hX2⟩:∃ X,X1.alloc (.cells #[.slice none 0 0] 179) = X:=⟨_,rfl⟩;rw [hX2] at hxe hce hse k2 x2 es2;clear hX0 hX1 hX2;replace k0:=(k0.ext x1).ext (x2.trans hxe);replace k1:=k1.ext (x2.trans hxe);replace k2:=k2.ext hxe;have XW:Ext w w':=((x0.trans x1).trans x2).trans hxe;have e1:X0.heap.size = w.heap.size + 1:=es0;have e2:X1.heap.size = w.heap.size + 1 + 1:=by omega
 have e3:X2.heap.size = w.heap.size + 1 + 1 + 1:=by omega
 have e5:w'.heap.size = w.heap.size + 1 + 1 + 1 + 1:=by omega
 rw [e1] at k1;rw [e2] at k2;rw [e3] at hce;clear es0 es1 es2 e1 e2 e3 hse x0 x1 x2 hxe;have HXW:=Lib.hid XW;clear XW;refine wpIn_rangeFunc_ownF (n:=9) rfl (by omega) (gf:=138) (lb:=#[.pointer (some ⟨w.heap.size + 1 + 1 + 1,0,none⟩)]) rfl trivial (enters_of Tryz.func138 (by kernel_rfl) rfl)
  (X2i _ (w.heap.size + 1 + 1 + 1) (2 ^ t.size) w' t rfl hsz hce) (fun _ _=>trivial) (fun _ _ _ _ _ _ _ _=>trivial) (Below.refl _ _) (fun _=>rfl)
  (fun pre W=>Coll (w.heap.size + 1 + 1) (w.heap.size + 1 + 1 + 1) (minL q t.size pre) W /\ Below (w.heap.size + 1 + 1) w' W)
  (fun _ _ _=>False)
  (OwnFrom.and (Own.from (Coll.own _ _ _) _) (ownFrom_below (by omega) (by omega)))
  (fun _ _ _ _ _ hs _ _=>hs)
  ⟨⟨_,[],k2,Q0t.nil _ _ _ _,Sets.nil _⟩,Below.refl _ _⟩
  (fun x=>{ tmps:=#[noV t c (.slice A1 t.size cap1) (.slice A2 t.gates.length cap2),.func (.func hf) #[rv] #[],.pointer (some ⟨w.heap.size,0,none⟩),.pointer (some ⟨w.heap.size + 1,0,none⟩),.slice none 0 0,.pointer (some ⟨w.heap.size + 1 + 1,0,none⟩),.int .i64 x.1,undef,.pointer (some ⟨w.heap.size,0,none⟩),evV t c (.slice A1 t.size cap1),.func (.func 138) #[] #[.pointer (some ⟨w.heap.size + 1 + 1 + 1,0,none⟩)],.int .i64 x.1,undef,undef,undef,undef,undef,undef,undef,undef,undef,undef,undef,undef,undef,undef,undef,undef,undef,undef,undef,undef,undef,undef,undef,undef,undef,undef,undef,undef,undef,undef,undef,undef,undef],defers:=[] }) ?assign ?body ?done ?stop
 case assign =>
  intro l x W K hK
  gi_wp2
  exact hK
 case stop =>
  rintro D cc pre W _ _ h _;exact h.elim
 case done =>
  rintro D ys W hD rfl ⟨hC,hB⟩ hK;obtain ⟨v,vs,hb,ho,hst⟩:=hC;have hcell:W.cell? ⟨w.heap.size + 1 + 1,0,none⟩ = some v:=hb.cell 0;have HST:=Lib.hid hst;have hlen:=Y1y q t.size (List.finRange (2 ^ t.size));rw [List.length_finRange] at hlen;have h12:(2:Nat) ^ t.size <= 2 ^ 12:=Nat.pow_le_pow_right (by omega) hsz
  have hvl:vs.length <= 4096:=by rw [hst.1]; omega
  have HLEN:Hid ((minL q t.size (List.finRange (2 ^ t.size))).length <= 4096):=Lib.hid (by omega)
  rcases ho.cells2 with ⟨rfl,hve⟩ | ⟨g0,cc,rfl,hcc,hbg,hgl,hcl⟩
  . subst hve
    have hz:minL q t.size (List.finRange (2 ^ t.size)) = []:=List.length_eq_zero_iff.1 (by have:=hst.1; simpa using this.symm)
    have HZ:=Lib.hid hz;clear hst hlen h12 hz;have HBL:=Lib.hid hb;clear ho hb
    gi_wp2_with (first | (refine ⟨trivial,?_⟩; gi_at_call 121; refine (callsIn_wide.2 (Z5o _)).mono ?_; rintro e w2 ⟨rfl,rfl⟩) | (refine ⟨trivial,?_⟩; gi_at_call 123; refine (callsIn_wide.2 (X9j _ _ [] (Rows.nil _ _ _) (by simp))).mono ?_; rintro e w3 ⟨xv,rfl,hxv,hx3⟩) | (simp only [Exit.noGoto]))
    have hK3:=(hx3.block D (Array.getElem?_eq_some_iff.1 hK).1).trans hK;have hX3:Below w.heap.size w w3:=Below.trans (Below.trans HXW.out (hB.mono (by omega))) (Below.mono hx3 (Nat.le_trans HXW.out.size hB.size))
    refine ⟨by simp,.inl ⟨_,_,rfl,run_takeDeferred hK3,?_⟩⟩
    exact ⟨_,results_tmp rfl _ _ _,xv,[],rfl,X4d hxv (fun a u h=>cell_kept h (grownBy_putObj' _ D (.deferred none)) (fun r e=>by cases e; exact ⟨_,hK3,rfl⟩)),by rw [HZ.out],List.Pairwise.nil,Below.trans hX3 (belowK_b (w:=w) (Nat.le_refl _) w3 D _ _ (by omega) hK3 rfl rfl)⟩
  . clear hst hlen h12
    have HO:=Lib.hid ho;have HBL:=Lib.hid hb;have HCL:Hid (Calls Tryz.prog 121 #[.slice (some ⟨g0,0,none⟩) vs.length cc,.func (.func 122) #[] #[]] W fun e w'=>e = .returned (.tuple #[]) /\ ∃ ll',ll'.Perm (minL q t.size (List.finRange (2 ^ t.size))) /\ Sorted ll' /\ Q1t w' (.slice (some ⟨g0,0,none⟩) vs.length cc) ll' /\ W.grownBy w' (some g0)):=by
     have:=J0z W g0 cc _ vs _ HO.out HST.out HLEN.out;rw [<- HST.out.1] at this;exact this
    clear ho hb hcl
    gi_wp2_with (first | (refine ⟨trivial,?_⟩; gi_at_call 121; refine (callsIn_wide.2 HCL.out).mono ?_; rintro e w2 ⟨rfl,ll,hperm,hso,hii,hgr⟩; have hcell2:w2.cell? ⟨w.heap.size + 1 + 1,0,none⟩ = some (.slice (some ⟨g0,0,none⟩) vs.length cc):=(Y5e HBL.out HO.out (by omega) hgr).cell 0; have HPERM:=Lib.hid hperm; have HSO:=Lib.hid hso; have HII:=Lib.hid hii; have HGR:=Lib.hid hgr; clear hperm hso hii hgr) | (refine ⟨trivial,?_⟩; gi_at_call 123; refine (callsIn_wide.2 (X9j _ _ ll HII.out (by rw [HPERM.out.length_eq]; exact HLEN.out))).mono ?_; rintro e w3 ⟨xv,rfl,hxv,hx3⟩) | (simp only [Exit.noGoto]))
    have hK2:=(X8v HO.out HGR.out).same D _ hK rfl;have hK3:=(hx3.block D (Array.getElem?_eq_some_iff.1 hK2).1).trans hK2;have hX3:Below w.heap.size w w3:=Below.trans (Below.trans (Below.trans HXW.out (hB.mono (by omega))) (Below.grown (Below.refl _ _) HGR.out (by omega) (fun k hk=>by cases hk; omega))) (Below.mono hx3 (Nat.le_trans HXW.out.size (Nat.le_trans hB.size HGR.out.size)))
    refine ⟨by simp,.inl ⟨_,_,rfl,run_takeDeferred hK3,?_⟩⟩
    exact ⟨_,results_tmp rfl _ _ _,xv,ll,rfl,X4d hxv (fun a u h=>cell_kept h (grownBy_putObj' _ D (.deferred none)) (fun r e=>by cases e; exact ⟨_,hK3,rfl⟩)),HPERM.out,HSO.out,Below.trans hX3 (belowK_b (w:=w) (Nat.le_refl _) w3 D _ _ (by omega) hK3 rfl rfl)⟩
 case body =>
  rintro l pre ⟨x,hxN⟩ W ⟨hC,hB⟩ hpl;dsimp only;have h12:(2:Nat) ^ t.size <= 2 ^ 12:=Nat.pow_le_pow_right (by omega) hsz
  have b0:=k0.below hB (by omega)
  have b1:=k1.below hB (by omega)
  have c0:W.cell? ⟨w.heap.size,0,none⟩ = some (.int .i64 t.size):=b0.cell 0;have c1:W.cell? ⟨w.heap.size + 1,0,none⟩ = some (.func (.func hf) #[rv] #[]):=b1.cell 0;have hxw:Ext w W:=Below.trans HXW.out (hB.mono (by omega))
  have HSN:=Lib.hid (Z6h q t.size pre ⟨x,hxN⟩);have HXX:=Lib.hid hxw;have HB:=Lib.hid hB;have HC:=Lib.hid hC;clear hxw hB hC b0 b1;cases hqx:q x with
  | false =>
    have HQX:=Lib.hid hqx
    gi_wp2_with (first | (refine ⟨trivial,?_⟩; refine (CallsIn.inRound l (callsIn_wide.2 (HQ.out _ x HXX.out hxN))).mono ?_; rw [hqx]; rintro e w9 ⟨rfl,hx9⟩) | (refine (CallsIn.inRound l (callsIn_wide.2 (HQ.out _ x HXX.out hxN))).mono ?_; rw [hqx]; rintro e w9 ⟨rfl,hx9⟩))
    exact ⟨Q4r hx9,trivial,by rw [HSN.out,if_neg (by rw [J0w HQX.out]; decide),List.append_nil]; exact HC.out.ext hx9,HB.out.trans (hx9.mono (by have:=HB.out.size; omega))⟩
  | true =>
    gi_wp2_with (first | (refine ⟨trivial,?_⟩; refine (CallsIn.inRound l (callsIn_wide.2 (HQ.out _ x HXX.out hxN))).mono ?_; rw [hqx]; rintro e w9 ⟨rfl,hx9⟩; have c0':=hx9.cell c0; have c1':=hx9.cell c1) | (refine (CallsIn.inRound l (callsIn_wide.2 (HQ.out _ x HXX.out hxN))).mono ?_; rw [hqx]; rintro e w9 ⟨rfl,hx9⟩; have c0':=hx9.cell c0; have c1':=hx9.cell c1))
    have HQX:=Lib.hid hqx;have hww:w.heap.size + 1 + 1 < W.heap.size:=by have:=HB.out.size; omega
    clear c0 c1 hqx
    gi_loopw [19] (fun i wr=>∃ k:Nat,k <= t.size /\ i = .int .i64 k /\ Y2b q x k = true /\ Ext w9 wr) (fun i _=>t.size - (intOf i).toNat)
    case atStart=>exact ⟨0,Nat.zero_le _,rfl,rfl,Ext.refl _⟩
    case round =>
     obtain ⟨k,hk,rfl,hmin,hxr⟩:=hrel;replace c0':=hxr.cell c0';replace c1':=hxr.cell c1'
     by_cases hlt:k < t.size
     . have hb1:=X2e (s:=x) (by omega) k
       have hp1:=Y7u (n:=k) (by omega)
       have hp2:(2:Nat) ^ k < 2 ^ 62:=Nat.pow_lt_pow_right (by omega) (by omega)
       have han:=X1y (a:=x) (b:=2 ^ k) (by omega) hp2
       have hcl:=Q8n (2 ^ k) hxN;have HMS:=Lib.hid (Z3g q x k);have HST:Hid ((x.testBit k && q (Q2j x (2 ^ k))) = true -> Y2b q x t.size = false):=Lib.hid (fun h=>Z2h hlt h);obtain ⟨Z,hZ⟩:∃ Z,2 ^ k = Z:=⟨_,rfl⟩;obtain ⟨Y,hY⟩:∃ Y,Q2j x Z = Y:=⟨_,rfl⟩;obtain ⟨bt,hbt⟩:∃ bt,x.testBit k = bt:=⟨_,rfl⟩;obtain ⟨qy,hqy⟩:∃ qy,q Y = qy:=⟨_,rfl⟩;obtain ⟨nb,hnb⟩:∃ nb,(!bt) = nb:=⟨_,rfl⟩;rw [hZ] at hp1 hp2 han hcl HMS HST;have hpw:IntKind.i64.wrap ((2:Int) ^ k) = (Z:Int):=J0d hZ hp2;rw [hY,hqy,hbt] at HMS HST;rw [hY] at han hcl;rw [hbt] at hb1;have hbn:bt = !nb:=by rw [<- hnb,Bool.not_not]
       rw [hbn] at hb1 HMS HST;have HQY:Hid (∀ W',Ext w W' -> Calls Tryz.prog hf #[rv,.int .i64 Y] W' fun e W''=>e = .returned (.bool qy) /\ Ext W' W''):=Lib.hid (by intro W' hx; rw [<- hqy]; exact HQ.out W' Y hx hcl)
       have HMIN:=Lib.hid hmin;have hkI:(k:Int) < 12:=by omega
       clear hZ hY hqy hbt hnb hbn hmin hp2 hcl h12;have hdr:=(Ext.refl wr).drew;have hxx:=(HXX.out.trans hx9).trans hxr;have HXS:=Lib.hid hxx;clear hxx
       gi_wp2
       refine Flow.Z0x [.p,.p,.p,.p,.p,.p,.w,.p,.p,.p,.p,.w,.p] [0,1,2,3,4,5,6,7,8,9,10,11,12] [[],[],[0,1],[2],[3],[4],[5],[5],[5],[5,8],[5,7,9],[5,6,10],[5,11]]
        [.c 0 (.int .i64 x),.c 1 (.int .i64 k),.c 2 (.int .i64 ((x:Int) / 2 ^ k)),.c 3 (.int .i64 (bits .and .i64 ((x:Int) / 2 ^ k) 1)),.c 4 (.bool (!nb)),.c 5 (.bool (!nb)),.c 6 (Q1z nb (.func (.func hf) #[rv] #[])),.c 7 (Q1z nb (.int .i64 x)),.c 8 (Q1z nb (.int .i64 k)),.c 9 (Q1z nb (.int .i64 (Z:Nat))),.c 10 (Q1z nb (.int .i64 (Y:Nat))),.c 11 (Q1z nb (.bool qy)),.c 12 (.bool (!nb && qy))]
        (by kernel_rfl) (by kernel_rfl) rfl (by kernel_rfl) ⟨?g0,?g1,?g2,?g3,?g4,?g5,?g6,?g7,?g8,?g9,?g10,?g11,?g12,trivial⟩ ?post
       case g0 | g1=>
        intro v w1 hx;have c1':=hx.cell c1';refine ⟨_,fun w=>?_,rfl⟩;go_simp
       case g2 | g3 | g4 | g5=>
        intro v w1 hx;(repeat intro (zq:v _ = _));have c1':=hx.cell c1';refine ⟨_,fun w=>?_,rfl⟩;go_simp
       case g6=>
        intro v w1 hx;(repeat intro (zq:v _ = _));have c1':=hx.cell c1';cases nb with
        | true=>exact .inr ⟨by go_simp,rfl⟩
        | false =>
          refine .inl ⟨by go_simp,?_⟩
          intro K hK;go_simp;exact hK _ _ (Ext.refl _) rfl
       case g7 | g8=>
        intro v w1 hx;(repeat intro (zq:v _ = _));have c1':=hx.cell c1';cases nb with
        | true=>exact .inr ⟨by go_simp,rfl⟩
        | false =>
          refine .inl ⟨by go_simp,?_⟩
          refine ⟨_,fun w=>?_,rfl⟩;go_simp
       case g9=>
        intro v w1 hx (q5:v 5 = _) (q8:v 8 = Q1z nb (.int .i64 k));have c1':=hx.cell c1';cases nb with
        | true=>exact .inr ⟨by go_simp,rfl⟩
        | false =>
          replace q8:v 8 = .int .i64 k:=q8;refine .inl ⟨by go_simp,?_⟩
          refine ⟨_,fun w=>?_,rfl⟩;go_simp
       case g10=>
        intro v w1 hx (q5:v 5 = _) (q7:v 7 = Q1z nb (.int .i64 x)) (q9:v 9 = Q1z nb (.int .i64 (Z:Nat)));have c1':=hx.cell c1';cases nb with
        | true=>exact .inr ⟨by go_simp,rfl⟩
        | false =>
          replace q7:v 7 = .int .i64 x:=q7;replace q9:v 9 = .int .i64 (Z:Nat):=q9;refine .inl ⟨by go_simp,?_⟩
          refine ⟨_,fun w=>?_,rfl⟩;go_simp
       case g11=>
        intro v w1 hx (q5:v 5 = _) (q6:v 6 = Q1z nb (.func (.func hf) #[rv] #[])) (q10:v 10 = Q1z nb (.int .i64 (Y:Nat)));have c1':=hx.cell c1';cases nb with
        | true=>exact .inr ⟨by go_simp,rfl⟩
        | false =>
          refine .inl ⟨by go_simp,?_⟩
          intro K hK;replace q6:v 6 = .func (.func hf) #[rv] #[]:=q6;replace q10:v 10 = .int .i64 (Y:Nat):=q10;go_simp;refine Q0d (HQY.out w1 (HXS.out.trans (hdr.trans hx))) ?_;rintro e w2 ⟨rfl,hx2⟩;exact ⟨_,rfl,hK _ _ hx2 rfl⟩
       case g12=>
        intro v w1 hx (q5:v 5 = _) (q11:v 11 = Q1z nb (.bool qy));have c1':=hx.cell c1';refine ⟨.bool (!nb && qy),fun w=>?_,rfl⟩;cases nb with
        | true=>go_simp
        | false=>go_simp; rfl
       case post =>
        intro v w1 hx;(iterate 6 intro (zq:v _ = _));intro (q6:v 6 = Q1z nb (.func (.func hf) #[rv] #[])) (q7:v 7 = Q1z nb (.int .i64 x)) (q8:v 8 = Q1z nb (.int .i64 k)) (q9:v 9 = Q1z nb (.int .i64 (Z:Nat))) (q10:v 10 = Q1z nb (.int .i64 (Y:Nat))) (q11:v 11 = Q1z nb (.bool qy));(iterate 1 intro (zq:v _ = _));simp only [Flow.All,Flow.acts,Act.put];go_simp;cases nb with
        | true =>
          simp only [Bool.not_true,Bool.false_and]
          gi_wp2
          go_roundw
          case rel=>exact ⟨k + 1,by omega,by go_num,by rw [HMS.out,HMIN.out]; rfl,hxr.trans (hdr.trans hx)⟩
          case measure=>simp [intOf]; omega
        | false =>
          cases qy with
          | true =>
            simp only [Bool.not_false,Bool.true_and]
            gi_wp2
            exact ⟨(Q4r hx9).trans (Q4r (hxr.trans (hdr.trans hx))),trivial,by rw [HSN.out,if_neg (by rw [Z1a HQX.out,HST.out rfl]; decide),List.append_nil]; exact (HC.out.ext hx9).ext (hxr.trans (hdr.trans hx)),HB.out.trans ((hx9.trans (hxr.trans (hdr.trans hx))).mono (by omega))⟩
          | false =>
            simp only [Bool.not_false,Bool.true_and]
            gi_wp2
            go_roundw
            case rel=>exact ⟨k + 1,by omega,by go_num,by rw [HMS.out,HMIN.out]; rfl,hxr.trans (hdr.trans hx)⟩
            case measure=>simp [intOf]; omega
     . have hks:k = t.size:=by omega
       have HMB:Hid (X2u q t.size x = true):=by rw [Z1a HQX.out,<- hks,hmin]; exact rfl
       obtain ⟨v,vs,hb,ho,hst⟩:=(HC.out.ext hx9).ext hxr;have hxx:=(HXX.out.trans hx9).trans hxr;have hsn:=HSN.out;rw [if_pos HMB.out] at hsn;have HSN2:=Lib.hid hsn;have hvl:vs.length <= 4096:=by
        have h1:=hst.1;have h2:=Y1y q t.size pre;omega
       have hsize:W.heap.size <= wr.heap.size:=Nat.le_trans hx9.size hxr.size;have hdr:=(Ext.refl wr).drew;have HW:=Lib.hid ((hx9.trans hxr).trans hdr);have HTW:=Lib.hid (HT.out.ext hxx);have cv:wr.cell? ⟨w.heap.size + 1 + 1,0,none⟩ = some v:=hb.cell 0;have fv:wr.frozen? ⟨w.heap.size + 1 + 1,0,none⟩ = false:=hb.frozen 0;obtain ⟨bv,cvv,hvs,hcapv⟩:=ho.shape;subst hvs;have HO:=Lib.hid ho;have HBK:=Lib.hid hb;have HS:=Lib.hid hst;have hx16:x < 65536:=by omega
       have hbl:=Y1k x;clear hks hmin hsn hxx ho hb hst hx9 hxr c0' c1' h12
       gi_wp2
       refine Flow.Y8n [.w,.p,.w,.w,.last,.last] [0,1,2,3,4,5] [[],[],[1],[1,2],[0,1,2,3],[0,1,2,3,4]] [4,5]
        [.c 0 (.slice bv vs.length cvv),.c 1 (.int .i64 x),⟨fun v wz=>(fun v w'=>Q0t w' 0 3 (.int .i64) (v 2) (bitsOf x)) v wz,fun _ _ _ hx h=>Q0t.below h hx⟩,⟨fun v wz=>(fun v w'=>Q9c w' (v 3) (v 2)) v wz,fun _ _ _ hx h=>Q9c.ext h hx⟩,.none,.none]
        [fun v w1 w'=>Q0t w' (w.heap.size + 1 + 1 + 1) 180 idV (v 4) (vs ++ [v 2]) /\ w1.grownBy w' (Value.slice bv vs.length cvv).ownBlock,fun v w1 w'=>Coll (w.heap.size + 1 + 1) (w.heap.size + 1 + 1 + 1) (minL q t.size pre ++ [bitsOf x]) w' /\ RowKit.Below (w.heap.size + 1 + 1) w1 w' /\ KeepsOthers w1 w'] (by kernel_rfl) (by kernel_rfl) rfl (by kernel_rfl) ⟨?g0,?g1,?g2,?g3,?g4,?g5,trivial⟩ ?post
       case g0=>
        intro v w1 hx;have cv:=hx.cell cv;intro K hK;go_simp;exact hK _ _ (Ext.refl _) rfl
       case g1=>
        intro v w1 hx;refine ⟨_,fun w=>?_,rfl⟩;go_simp
       case g2=>
        intro v w1 hx;(repeat intro (zq:v _ = _));have cv:=hx.cell cv;intro K hK;go_simp;refine Q0d (Y9c w1 x hx16 (HTW.out.ext (hdr.trans hx))) ?_;rintro e w2 ⟨u,rfl,h,hx2⟩;exact ⟨_,rfl,hK _ _ hx2 (h.weaken (Nat.zero_le _))⟩
       case g3=>
        intro v w1 hx (q1:v 1 = _) (q2:(fun v w'=>Q0t w' 0 3 (.int .i64) (v 2) (bitsOf x)) v w1);have cv:=hx.cell cv;intro K hK;obtain ⟨b2,c2,hv2,_⟩:=Q0t.shape q2;go_simp;exact hK _ _ (Ext.box _ _) (show Q9c (w1.alloc (.cells #[.slice b2 (bitsOf x).length c2] 180)) (.slice (some ⟨w1.heap.size,0,none⟩) 1 1) (v 2) from by rw [hv2]; exact Q9c.made _ _ _)
       case g4=>
        intro v w1 hx (q0:v 0 = _) (q1:v 1 = _) (q2:(fun v w'=>Q0t w' 0 3 (.int .i64) (v 2) (bitsOf x)) v w1) (q3:(fun v w'=>Q9c w' (v 3) (v 2)) v w1);intro wl hT;obtain rfl:wl = w1:=hT;intro bb hbb;subst hbb;have cv:=hx.cell cv;intro K hK;obtain ⟨b2,c2,hv2,_⟩:=Q0t.shape q2;refine Q7k _ _ 179 rfl (w.heap.size + 1 + 1 + 1) 180 i0 (.slice none 0 0) 24 Tryz.underlying179 hi hz0 hz1 hz2 rfl idV (.slice bv vs.length cvv) (v 3) vs [v 2] (by go_simp) (HO.out.below (hdr.trans hx)) (by go_simp) (Q9c.src q3) (fun y hy=>by rw [List.mem_singleton] at hy; rw [hy,hv2]; rfl) (by rw [List.length_singleton]; omega) (by decide) (by have:=hx.size; have:wr.drew.heap.size = wr.heap.size:=rfl; omega) (fun v' w' hown hg=>hK _ _ ⟨hown,hg⟩)
       case g5=>
        intro v w1 hx (q0:v 0 = _) (q1:v 1 = _) (q2:(fun v w'=>Q0t w' 0 3 (.int .i64) (v 2) (bitsOf x)) v w1) _;intro wl hT;replace hT:(fun v w1 w'=>Q0t w' (w.heap.size + 1 + 1 + 1) 180 idV (v 4) (vs ++ [v 2]) /\ w1.grownBy w' (Value.slice bv vs.length cvv).ownBlock) v w1 wl:=hT;intro bb hbb;have cv:=hx.cell cv;intro K hK;obtain ⟨hT1,hT2⟩:=hT;have o1:bb.eval (.tmp 5) = .pointer (some ⟨w.heap.size + 1 + 1,0,none⟩):=by rw [hbb]; dsimp only; (try simp (discharger:=decide) only [eval_put_ne]); rfl
        have o2:bb.eval (.tmp 40) = v 4:=by rw [hbb]; dsimp only; (try simp (discharger:=decide) only [eval_put_ne]); rw [Q0a (by simp only [size_put]; exact (by decide:40 < 45))]
        obtain ⟨b4,c4,hv4,_⟩:=Q0t.shape hT1;have hx':=hdr.trans hx;have hbk:=Y5e (HBK.out.ext hx') (HO.out.below hx') (by omega) hT2
        have hss:=Z4f (HO.out.below hx') ((HS.out.ext hx').snoc q2 hbl) hT2;exact Q3a (.tmp 5) (.tmp 40) rfl Tryz.J0j o1 o2 (by rw [hv4]; rfl) (by rw [hv4]; rfl) hbk Nat.zero_lt_one (fun vv=>hK _ _ ⟨⟨v 4,vs ++ [v 2],hbk.set 0 _,hT1.setCell (Nat.lt_succ_self _) _,Y4i hss hbk (by decide)⟩,(Go.Tw.below_grown (HO.out.below hx') hT2 (Nat.le_succ _) (Nat.le_trans (by omega) hx'.size)).setCell (p:=⟨w.heap.size + 1 + 1,0,none⟩) (Nat.le_refl _) _,(X8v (HO.out.below hx') hT2).trans (KeepsOthers.setCell _ _ _)⟩)
       case post =>
        intro v w1 hx (q0:v 0 = _) (q1:v 1 = _) (q2:(fun v w'=>Q0t w' 0 3 (.int .i64) (v 2) (bitsOf x)) v w1) (q3:(fun v w'=>Q9c w' (v 3) (v 2)) v w1);intro w2 hE;replace hE:(fun v w1 w'=>Coll (w.heap.size + 1 + 1) (w.heap.size + 1 + 1 + 1) (minL q t.size pre ++ [bitsOf x]) w' /\ RowKit.Below (w.heap.size + 1 + 1) w1 w' /\ KeepsOthers w1 w') v w1 w2:=hE;simp only [Flow.acts,Act.put];go_simp;obtain ⟨e1,e2,e3⟩:=hE
        gi_wp2
        exact ⟨(Q4r (HW.out.trans hx)).trans e3,trivial,by rw [HSN2.out]; exact e1,(HB.out.trans ((HW.out.trans hx).mono (by omega))).trans e2⟩
end Go.Proofs
