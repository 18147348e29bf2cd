/- Contract: slices.SortFunc over sets. -/
import Derived.Test.YtgopmebjbkdfgaaGreatDoorFm13
set_option maxRecDepth 1000000
set_option maxHeartbeats 64000000
set_option linter.unusedVariables false
set_option linter.unusedSimpArgs false
set_option linter.constructorNameAsVariable false
namespace Go.Proofs
open Go.RowKit Go.Tw Go.Flow Go.Sort
theorem Z8f (x y:Int):Z2y x y < 0 ↔ x < y:=by unfold Z2y; split <;> (try split) <;> omega
theorem Q6x (x y:Int) (l m:List Int):cmpL (x :: l) (y :: m) < 0 ↔ x < y ∨ (x = y /\ cmpL l m < 0):=by
 show (if x = y then cmpL l m else Z2y x y) < 0 ↔ _
 split
 . rename_i h; simp [h]
 . rename_i h; rw [Z8f]; simp [h]
theorem Y5p:∀ a b:List Int,cmpL a b < 0 ∨ a = b ∨ cmpL b a < 0
 | [],[]=>.inr (.inl rfl)
 | [],_ :: _=>.inl (by exact (by decide:(-1:Int) < 0))
 | _ :: _,[]=>.inr (.inr (by exact (by decide:(-1:Int) < 0)))
 | x :: l,y :: m=>by
   rw [Q6x,Q6x]
   rcases Int.lt_trichotomy x y with h | h | h
   . exact .inl (.inl h)
   . subst h
     rcases Y5p l m with h | h | h
     . exact .inl (.inr ⟨rfl,h⟩)
     . subst h; exact .inr (.inl rfl)
     . exact .inr (.inr (.inr ⟨rfl,h⟩))
   . exact .inr (.inr (.inl h))
theorem X7u:∀ a b c:List Int,cmpL a b < 0 -> cmpL b c < 0 -> cmpL a c < 0
 | [],[],_,h,_=>by simp [cmpL] at h
 | [],_ :: _,[],_,h=>by simp [cmpL] at h
 | [],_ :: _,_ :: _,_,_=>by simp [cmpL]
 | _ :: _,[],_,h,_=>by simp [cmpL] at h
 | _ :: _,_ :: _,[],_,h=>by simp [cmpL] at h
 | x :: l,y :: m,z :: n,h1,h2=>by
   rw [Q6x] at *
   rcases h1 with h1 | ⟨h1,h1'⟩ <;> rcases h2 with h2 | ⟨h2,h2'⟩
   . exact .inl (by omega)
   . exact .inl (by omega)
   . exact .inl (by omega)
   . exact .inr ⟨by omega,X7u l m n h1' h2'⟩
theorem Y3w (a:List Int):¬ cmpL a a < 0:=by
 induction a with
 | nil=>decide
 | cons x l ih=>rw [Q6x]; rintro (h | ⟨_,h⟩) <;> omega
theorem Q9z (a b:List Int):Q5p a b < 0 ↔ a.length < b.length ∨ (a.length = b.length /\ cmpL a b < 0):=by
 unfold Q5p
 split
 . rename_i h; simp [h]
 . rename_i h; omega
theorem X2i (a:List Int):¬ Q5p a a < 0:=by rw [Q9z]; have:=Y3w a; omega
theorem Q8k {a b c:List Int} (h1:Q5p a b < 0) (h2:Q5p b c < 0):Q5p a c < 0:=by
 rw [Q9z] at *
 rcases h1 with h1 | ⟨h1,h1'⟩ <;> rcases h2 with h2 | ⟨h2,h2'⟩
 . exact .inl (by omega)
 . exact .inl (by omega)
 . exact .inl (by omega)
 . exact .inr ⟨by omega,X7u _ _ _ h1' h2'⟩
theorem X3q (a b:List Int):Q5p a b < 0 ∨ a = b ∨ Q5p b a < 0:=by
 rw [Q9z,Q9z]
 rcases Nat.lt_trichotomy a.length b.length with h | h | h
 . exact .inl (.inl h)
 . rcases Y5p a b with h' | h' | h'
   . exact .inl (.inr ⟨h,h'⟩)
   . exact .inr (.inl h')
   . exact .inr (.inr (.inr ⟨h.symm,h'⟩))
 . exact .inr (.inr (.inl h))
theorem Y8m (f:Nat -> List Int):SWO (ltOf fun x y:Nat=>Q5p (f x) (f y)) where
 irrefl x:=by simpa [ltOf] using X2i (f x)
 trans x y z h1 h2:=by simp only [ltOf,decide_eq_true_eq] at *; exact Q8k h1 h2
 ntrans x y z h1 h2:=by
  simp only [ltOf,decide_eq_false_iff_not] at *;intro h
  rcases X3q (f x) (f y) with h' | h' | h'
  . exact h1 h'
  . rw [h'] at h; exact h2 h
  . exact h2 (Q8k h' h)
def Sets (w:World) (vs:List Value) (ll:List (List Int)):Prop:=vs.length = ll.length /\ ∀ i,i < ll.length -> Q0r w 0 3 (.int .i64) (vs.getD i undef) (ll.getD i []) /\ (ll.getD i []).length <= 16
theorem X9k {w W:World} {v:Value} {l:List Int} (h:Q0r w 0 3 (.int .i64) v l) (hb:∀ b,v.ownBlock = some b -> b < w.heap.size -> W.heap[b]? = w.heap[b]?):Q0r W 0 3 (.int .i64) v l:=by
 obtain ⟨h1,h2⟩:=h;refine ⟨h1,?_⟩
 rcases h2 with h2 | ⟨g,cap,cur,hv,hbg,hg,r⟩
 . exact .inl h2
 . exact .inr ⟨g,cap,cur,hv,hbg,(hb g (by rw [hv]; rfl) (Array.getElem?_eq_some_iff.1 hg).1).trans hg,r⟩
theorem Y5u {w:World} {v:Value} {l:List Int} {g:Nat} {cur:Array Value} {fr:Nat × Nat} (h:Q0r w 0 3 (.int .i64) v l) (hg:w.heap[g]? = some (.cells cur 180 fr)):v.ownBlock ≠ some g:=by
 intro e;obtain ⟨h1,h2⟩:=h
 rcases h2 with ⟨rfl,_⟩ | ⟨g',cap,cur',rfl,hbg,hg',r⟩
 . cases e
 . obtain rfl:g' = g:=by simpa [Value.ownBlock] using e
   rw [hg] at hg';injection hg' with h;injection h with _ h;exact absurd h (by decide)
theorem Sets.at {w W:World} {vs:List Value} {ll:List (List Int)} (h:Sets w vs ll) (hb:∀ v l,Q0r w 0 3 (.int .i64) v l -> ∀ b,v.ownBlock = some b -> b < w.heap.size -> W.heap[b]? = w.heap[b]?):Sets W vs ll :=
 ⟨h.1,fun i hi=>⟨X9k (h.2 i hi).1 (hb _ _ (h.2 i hi).1),(h.2 i hi).2⟩⟩
theorem Sets.ext {w W:World} {vs:List Value} {ll:List (List Int)} (h:Sets w vs ll) (hx:Ext w W):Sets W vs ll:=h.at fun _ _ _ b _ hb=>Below.block hx b hb
theorem Sets.reads {w:World} {vs:List Value} {ll:List (List Int)} (h:Sets w vs ll):Reads w vs ll:=⟨h.1,fun i hi=>(h.2 i hi).1.ints (by have:=(h.2 i hi).2; omega)⟩
theorem Sets.nil (w:World):Sets w [] []:=⟨rfl,fun i hi=>by simp at hi⟩
theorem Sets.snoc {w:World} {vs:List Value} {ll:List (List Int)} {v:Value} {l:List Int} (h:Sets w vs ll) (hv:Q0r w 0 3 (.int .i64) v l) (hl:l.length <= 16):Sets w (vs ++ [v]) (ll ++ [l]):=by
 refine ⟨by simp [h.1],fun i hi=>?_⟩
 rw [List.length_append,List.length_singleton] at hi
 by_cases hlt:i < ll.length
 . have e1:(vs ++ [v]).getD i undef = vs.getD i undef:=by simp [List.getElem?_append_left (show i < vs.length by rw [h.1]; exact hlt)]
   have e2:(ll ++ [l]).getD i [] = ll.getD i []:=by simp [List.getElem?_append_left hlt]
   rw [e1,e2]; exact h.2 i hlt
 . have e:i = ll.length:=by omega
   have e1:(vs ++ [v]).getD i undef = v:=by rw [e,<- h.1]; simp
   have e2:(ll ++ [l]).getD i [] = l:=by rw [e]; simp
   rw [e1,e2]; exact ⟨hv,hl⟩
theorem Q6o {α:Type} [Inhabited α] (enc:α -> Value) (w:World) (blk off n:Nat) (d:Array α) (os:Array Obj) {k:Nat} (hk:k < w.heap.size) (hne:k ≠ blk):(sortWorld enc w blk off n d os).heap[k]? = w.heap[k]?:=by
 unfold sortWorld;rw [heap_grow_old _ _ (by rw [size_putRow]; exact hk)]
 show (w.heap.modify blk _)[k]? = _;rw [Array.getElem?_modify,if_neg (fun h=>hne h.symm)]
theorem X7o {α:Type} [Inhabited α] (enc:α -> Value) (w:World) (blk off n:Nat) (d:Array α) (os:Array Obj):w.heap.size <= (sortWorld enc w blk off n d os).heap.size:=by
 unfold sortWorld;rw [size_grow,size_putRow]; show w.heap.size <= w.heap.size + _; omega
theorem X6z {α:Type} [Inhabited α] (enc:α -> Value) (w:World) (blk off n:Nat) (d:Array α) (os:Array Obj):w.grownBy (sortWorld enc w blk off n d os) (some blk) :=
 ⟨rfl,rfl,rfl,X7o _ _ _ _ _ _ _,fun k hk hne=>Q6o _ _ _ _ _ _ _ hk (fun e=>hne (by rw [e]))⟩
theorem X5x {α:Type} [Inhabited α] (enc:α -> Value) (w:World) (blk off n:Nat) (d0 d:Array α) (os:Array Obj) (h0:Holds enc w blk off d0) (hs:d.size = d0.size) (hb:blk < w.heap.size):Holds enc (sortWorld enc w blk off n d os) blk off d:=by
 unfold sortWorld;exact holds_grow _ _ _ _ _ _ (by rw [size_putRow]; exact hb) (holds_putRow enc (Sort.ahead w n) blk off d0 d (holds_ahead _ _ _ _ _ _ h0) hs)
def Sorted (ll:List (List Int)):Prop:=ll.Pairwise fun a b=>¬ Q5p b a < 0
theorem Z4i (w:World) (g cap base:Nat) (vs:List Value) (ll:List (List Int)) (hown:Q0r w base 180 idV (.slice (some ⟨g,0,none⟩) vs.length cap) vs) (hs:Sets w vs ll) (hle:ll.length <= 4096) :
    Calls Tryz.prog 121 #[.slice (some ⟨g,0,none⟩) ll.length cap,.func (.func 122) #[] #[]] w fun e w'=>e = .returned (.tuple #[]) /\ ∃ ll',ll'.Perm ll /\ Sorted ll' /\ Q2b w' (.slice (some ⟨g,0,none⟩) ll.length cap) ll' /\ w.grownBy w' (some g):=by
 obtain ⟨cur,hcur,hgl,hcap,htake⟩:∃ cur,w.heap[g]? = some (.cells cur 180 (0,0)) /\ g < w.heap.size /\ vs.length <= cap /\ cur.toList.take vs.length = vs:=by
  obtain ⟨h1,h2⟩:=hown
  rcases h2 with ⟨h2,_⟩ | ⟨g',cap',cur,hv,hb,hg,hc,hm,hz,ht⟩
  . cases h2
  . injection hv with e1 e2 e3
    injection e1 with e1;injection e1 with e1;subst e1; subst e3;refine ⟨cur,hg,(Array.getElem?_eq_some_iff.1 hg).1,hc,?_⟩;have hid:vs.map idV = vs:=by show vs.map id = vs; exact List.map_id vs
    rw [hid,Nat.mul_one] at ht;exact ht
 have hlen:=hs.1;obtain ⟨K,hK⟩:∃ K,ll.length = K:=⟨_,rfl⟩;rw [hK] at hlen hle ⊢
 let z:Value:=.slice none 0 0
 let enc:Nat -> Value:=fun x=>vs.getD x z
 let cont:Nat -> List Int:=fun x=>ll.getD x []
 have hint:∀ x W,(∀ k,k < w.heap.size -> k ≠ g -> W.heap[k]? = w.heap[k]?) -> Q0f W (enc x) (cont x):=by
  intro x W hW
  by_cases hx:x < K
  . have h1:=(hs.2 x (by omega)).1
    have h2:=X9k (W:=W) h1 (fun b hb hbl=>hW b hbl (fun e=>Y5u h1 hcur (by rw [<- e]; exact hb)))
    have h3:=h2.ints (by have:=(hs.2 x (by omega)).2; omega)
    have e1:vs.getD x undef = enc x:=by simp [enc,z,show x < vs.length by omega]
    rw [e1] at h3;exact h3
  . have e1:enc x = .slice none 0 0:=by simp [enc,z,show ¬ x < vs.length by omega,List.getD_eq_getElem?_getD,List.getElem?_eq_none (show vs.length <= x by omega)]
    have e2:cont x = []:=by simp [cont,List.getD_eq_getElem?_getD,List.getElem?_eq_none (show ll.length <= x by omega)]
    rw [e1,e2];exact Rows.nil 1 _ W
 have hone:OneCell enc:=by
  intro x;obtain ⟨A,c,he,_⟩:=(hint x w (fun _ _ _=>rfl)).opened
  rw [he]; rfl
 have hH:Holds enc w g 0 (Array.range K):=by
  intro j hj;rw [Array.size_range] at hj;have e1:(Array.range K)[j]! = j:=by rw [getElem!_pos _ j (by simpa using hj)]; simp
  rw [e1];refine ⟨?_,by simp [World.frozen?,hcur]⟩
  have h1:=congrArg (fun l=>l[j]?) htake;rw [Nat.zero_add];simp only [List.getElem?_take,show j < vs.length by omega,if_true] at h1
  show (match w.heap[g]? with | some (.cells c _ _)=>_ | _=>_) = _
  rw [hcur];simp only [Option.isSome_none,Bool.false_eq_true,if_false];rw [<- Array.getElem?_toList,h1];simp [enc,show j < vs.length by omega]
 have hcmp:CmpLays1 Tryz.prog 122 #[] enc (fun x y=>Q5p (cont x) (cont y)) g 0 (Array.range K).size w:=by
  refine CmpReads.lays fun m os dk hdk x y=>?_;have h:=Y4s (sortWorld enc w g 0 m dk os) (enc x) (enc y) (cont x) (cont y) (hint x _ (fun k hk hne=>Q6o _ _ _ _ _ _ _ hk hne)) (hint y _ (fun k hk hne=>Q6o _ _ _ _ _ _ _ hk hne));exact h.mono fun e w' ⟨he,hw⟩=>⟨he,0,hw.symm⟩
 have eg:∀ args w,(callFunc 122 args).run Tryz.prog w = .ok (.enter 122 args) w:=enters_of Tryz.func122 (by kernel_rfl) rfl
 have hcon:=Any.slices_SortFunc Tryz.sortSet enc hone (fun x y=>Q5p (cont x) (cont y)) (Y8m cont) 122 #[] g 0 cap (Array.range K) w eg hcmp hH hgl (by rw [Array.size_range]; omega)
 rw [Array.size_range] at hcon;change Calls Tryz.prog 121 _ _ _ at hcon;refine hcon.mono fun e w' ⟨he,d',n,os,hp,hso,hw⟩=>⟨he,?_⟩;subst hw;obtain ⟨hp1,_,hp3⟩:=hp;rw [Array.size_range] at hp1;have hperm:d'.toList.Perm (List.range K):=by
  have e1:d'.extract 0 K = d':=by rw [<- hp1]; simp
  have e2:(Array.range K).extract 0 K = Array.range K:=by
   apply Array.toList_inj.1
   rw [Array.toList_extract,List.extract_eq_take_drop,List.drop_zero];exact List.take_of_length_le (by simp)
  rw [e1,e2] at hp3
  simpa using hp3
 have hll:(List.range K).map cont = ll:=by
  apply List.ext_getElem
  . simp [hK]
  . intro i h1 h2; simp [cont,h2]
 refine ⟨d'.toList.map cont,by rw [<- hll]; exact hperm.map cont,?_,?_,X6z _ _ _ _ _ _ _⟩
 . unfold Sorted
   rw [List.pairwise_map,List.pairwise_iff_getElem];intro i j hi hj hij;have hi':i < d'.size:=by simpa using hi
   have hj':j < d'.size:=by simpa using hj
   have h:=hso i j (Nat.zero_le _) hij (by omega)
   rw [getElem!_pos d' i hi',getElem!_pos d' j hj'] at h
   simpa [ltOf] using h
 . have hho:=X5x enc w g 0 n (Array.range K) d' os hH (by simp [hp1]) hgl
   have hl2:(d'.toList.map cont).length = K:=by simp [hp1]
   refine ⟨fun k=>enc (d'[k]!),⟨_,cap,by rw [hl2],by rw [hl2]; omega,by rw [hl2]; omega,fun j hj=>?_⟩,fun j hj=>?_⟩
   . rw [hl2,Nat.mul_one] at hj
     exact ⟨g,0,rfl,(hho j (by omega)).1⟩
   . rw [hl2] at hj
     have hj':j < d'.size:=by omega
     simp only [Nat.mul_one,Nat.add_zero];rw [getElem!_pos d' j hj'];have:=hint d'[j] (sortWorld enc w g 0 n d' os) (fun k hk hne=>Q6o _ _ _ _ _ _ _ hk hne)
     simpa using this
end Go.Proofs
