/- For the rows of texts: what the listed tables give; small facts on the program for the rows. Contracts: a list of sets as a list of lists. Contract: slices.SortFunc over sets. -/
import Derived.Test.YtgopmebjbkdfgaaGreatDoorTx01
import Derived.Test.YtgopmebjbkdfgaaGreatDoorTx11
import Derived.Test.YtgopmebjbkdfgaaGreatDoorRows
import Derived.Test.YtgopmebjbkdfgaaGreatDoorTie
import Derived.Test.YtgopmebjbkdfgaaGreatDoorCards
import Derived.ProofKit
import Derived.OpenShut
import Derived.LaidMore
import Derived.Lay
import Derived.Lib.LaidTab
import Derived.SevenTiedAt
import Derived.Stop.Joined
import Derived.HandedShaped
import Derived.Shelf.Vars
set_option maxRecDepth 1000000
set_option maxHeartbeats 64000000
set_option linter.unusedVariables false
set_option linter.unusedSimpArgs false
set_option linter.constructorNameAsVariable false
namespace Go.Proofs.YtgopmebjbkdfgaaGreatDoor
open Go.ChangeShapes Go.WideShapes Go.ChangeAt Go.RowKit Go.Tw
theorem own:ownKnob Tryz.prog.godebug = none:=by kernel_rfl
theorem laidOut:laidOutB Tryz.prog = true:=by kernel_rfl
def Y6v:List (String × DataW Unit):=Rows.faultTextsRow.laid
theorem Z1k:(Rows.laid_math_bits_deBruijn64tab:DataW Unit) = Lib.tabData .u8 (List.map (fun n:Nat=>(n:Int)) Lib.deBruijn64tab):=by kernel_rfl
theorem Y4n {W:World} (h:laidMetH Tryz.prog Y6v W):Tab W:=by
 rw [MakeChecks.laidMetH_plain _ _ _ (by kernel_rfl)] at h
 obtain ⟨ps,⟨g0,t0,cs0,f0,p0,q0,hg0,ht0,hv0,hd0,⟨g1,t1,cs1,f1,p1,q1,hg1,ht1,hv1,hd1,_⟩,_⟩,_,_⟩:=h;obtain rfl:=Option.some.inj ((show Tryz.prog.globalNamed (Y6v[1]?.map (·.1)).get! = some 2 by kernel_rfl).symm.trans hg1)
 obtain ⟨t,ht⟩:∃ t,(Tryz.prog.globals[2]?).map (·.type) = some t:=⟨_,ht1⟩;obtain rfl:=Option.some.inj (ht.symm.trans ht1);have ht2:(Tryz.prog.globals[2]?).map (·.type) = some 233:=by kernel_rfl
 obtain rfl:=Option.some.inj (ht2.symm.trans ht);rw [Z1k] at hd1;have hu8:Tryz.prog.cellsOf 5 = 1:=by kernel_rfl
 have hc64:Tryz.prog.cellsOf 233 = 64:=by kernel_rfl
 have hcs:=Lib.cells_of_tab Tryz.underlying233 Tryz.underlying5 hu8 hc64 hd1;intro j hj;have:=World.var?_cell hg1 hv1 j;rw [this,<- Array.getElem?_toList,hcs];simp [hj]
theorem Y0j {W:World} (h:W.ShapedOpen Tryz.prog):∃ m,W.cell? ⟨0,0,none⟩ = some (.int .i64 m) :=
 cell_of_shapedOpen_int (zero:=#[.int .i64 0]) (t:=3) h (of_decide_eq_true (by kernel_rfl)) (by kernel_rfl) rfl (by kernel_rfl) (by kernel_rfl) Tryz.underlying3
theorem Z6z {H:Type} {enc:TypeId × Value -> H} {a:Assume} {C:Checked} {os:Os} {f:FuncId} {fn:Func} {s:ChangeSpec} {conds:List PathCond} {apart fresh handsOn again:Bool} {X:World -> Array Value -> Prop}
    (hX:∀ (w w':World) (args:Array Value),w.heap = w'.heap -> X w args -> X w' args) (own:ownKnob C.prog.godebug = none) (started:os.Started) (hi:C.prog.inits.idxOf? f = none) (hf:C.prog.funcs[f]? = some fn)
    (wit:∃ (w:World) (tape:Tape) (i:Input),w.os = os /\ (w.forCall tape i).Shaped C.prog /\ i.vars = [] /\ Input.okWide C.prog (w.forCall tape i) .any w.heap.size f i /\
     ((s.pre enc C.prog fn conds apart (w.forCall tape i).memory i.args /\ X (w.forCall tape i).memory i.args) /\ sizedMet enc C.prog fn (OpenSpec.ofChange s) apart (w.forCall tape i).memory i.args) /\ a.holds C.prog (lone (Frame.enter C.prog f i.args .normal) [] (w.forCall tape i)))
    (con:∀ (W:World) (base:Nat) (args:Array Value) (ds gs:List (DataW H)) (before:List MemPlace),(∀ (j:Nat) t v,fn.params[j]? = some t -> args[j]? = some v -> Value.okWide C.prog W .any base t v) ->
     DataW.Whole enc C.prog fn.params.toList s.vars apart W args.toList ds gs before -> conds.all (PathCond.test C.prog ⟨fn.params.toList,ds,s.plain.varTypes C.prog,gs⟩) = true ->
     (DataW.weightsEach C.prog (fn.params.toList ++ s.plain.varTypes C.prog) (ds ++ gs)).all (· <= reachBytes) = true -> X W args -> W.ShapedOpen C.prog ->
     a.holds C.prog (lone (Frame.enter C.prog f args .normal) [] W) -> Calls C.prog f args W fun e W'=>∃ v,e = .returned v /\ s.post enc C.prog fn apart fresh handsOn again W args v W') :
    ReturnsInHanded a C os f .any (fun w args=>(s.pre enc C.prog fn conds apart w args /\ X w args) /\ sizedMet enc C.prog fn (OpenSpec.ofChange s) apart w args) (s.post enc C.prog fn apart fresh handsOn again):=by
 refine returnsInHanded_of_calls own started hi wit fun w tape i _ hsh _ hok hpre hh=>?_;obtain ⟨_,_,_,fn',hf',_,_,_,_,hval⟩:=hok;obtain rfl:fn' = fn:=Option.some.inj (hf'.symm.trans hf);obtain ⟨⟨⟨ds,gs,bf,hw,hc⟩,hx⟩,hz⟩:=hpre;refine (con _ w.heap.size i.args ds gs bf hval (DataW.Whole.of_heap (w':=w.forCall tape i) (by rfl) hw) hc (hz.weights hw) (hX _ _ _ (by rfl) hx) hsh hh).mono fun e W' ⟨v,he,hp⟩=>?_
 subst he;exact ChangeSpec.post_blind hp
end Go.Proofs.YtgopmebjbkdfgaaGreatDoor
namespace Go.Proofs
open Go.RowKit Go.Tw Go.Flow
theorem Z2u (w:World) (x:Value):Calls Tryz.prog 124 #[x] w fun e w'=>e = .returned x /\ w = w':=by
 go_enter Tryz.func124,Tryz.ntmps124;go_wp2;go_ret;exact ⟨rfl,rfl⟩
theorem X5s {w:World} {vs:List Value} {ll:List (List Int)} {v:Value} {k:Nat} (h:Reads w vs (ll.take k)) (hk:k < ll.length) (hv:Q0e w v (ll.getD k [])):Reads w (vs ++ [v]) (ll.take (k + 1)):=by
 have e:ll.take (k + 1) = ll.take k ++ [ll.getD k []]:=by rw [List.take_succ_eq_append_getElem hk]; simp [hk]
 rw [e];exact h.snoc hv
theorem X5i (w:World) (v:Value) (ll:List (List Int)) (hv:Q1v w v ll) (hle:ll.length <= 4096) :
    Calls Tryz.prog 123 #[v,.func (.func 124) #[] #[]] w fun e w'=>∃ x,e = .returned x /\ Q1v w' x ll /\ Ext w w':=by
 obtain ⟨i0,hi,hz0,hz1,hz2⟩:=info_parts Tryz.Z8e;obtain ⟨A,cap,rfl,hl,hcap,hc⟩:=hv.opened;have HC:=Lib.hid hc;clear hv hc;go_enter Tryz.func123,Tryz.ntmps123;go_wp2
 go_loopw [5,10] (fun o i wr=>∃ (k:Nat) (vs:List Value),k <= ll.length /\ i = .int .i64 k /\ Q0s wr w.heap.size 40 idV o vs /\ Reads w vs (ll.take k) /\ Ext w wr) (fun _ i _=>ll.length - (intOf i).toNat)
 case atStart=>exact ⟨0,[],Nat.zero_le _,rfl,Q0s.nil _ _ _ _,⟨rfl,fun i hi=>by simp at hi⟩,Ext.refl _⟩
 case round =>
  obtain ⟨k,vs,hk,rfl,hown,hrd,hx⟩:=hrel
  by_cases hlt:k < ll.length
  . obtain ⟨b,off,m,rfl,hbw,hcell,hm⟩:=HC.out k hlt
    obtain ⟨Am,cm,rfl,_,_,_⟩:=hm.opened;obtain ⟨ln,hln⟩:∃ ln,(ll.getD k []).length = ln:=⟨_,rfl⟩;rw [hln] at hcell hm;have HM:=Lib.hid hm;clear hln;replace hcell:=hx.cell hcell;have hvs:vs.length = k:=by rw [hrd.1,List.length_take]; omega
    have HRD:=Lib.hid hrd;clear hm hrd;go_wp2_with (first | (go_at_call 124; refine (Z2u _ _).mono ?_; rintro e w9 ⟨rfl,rfl⟩) | (at_builtin; refine wpList_append_own _ rfl _ _ 55 rfl (w.heap.size) 40 i0 (.slice none 0 0) 1 24 Tryz.underlying55 hi hz0 hz1 hz2 rfl (by decide) _ _ _ rfl (World.ownsRow.alloc hown _) ⟨wr.heap.size,0,none⟩ 1 1 [.slice Am ln cm] rfl rfl ?_ ?_ ?_ ?_ ?_ ?_; exact Q5k _ _ _; (focus (simp [Value.oneCell'])); (focus (unfold maxLen; omega)); (focus omega); (focus (have:=hx.size; simp at this ⊢; omega)); intro v' w1 hown' hgrow _))
    have hx':=Q3u hx hown (Nat.le_refl _) hgrow;go_wp2;go_roundw
    case rel=>exact ⟨k + 1,vs ++ [.slice Am ln cm],by omega,by go_num,Q0s.snoc (x:=Value.slice Am ln cm) hown',X5s HRD.out hlt HM.out,hx'⟩
    case measure=>simp [intOf]; omega
  . have HE:Hid (ll.take k = ll):=by rw [List.take_of_length_le (by omega)]; exact rfl
    have hvl:vs.length <= 17592186043904:=by rw [hrd.1,List.length_take]; omega
    have HRD:=Lib.hid hrd;clear hrd;go_wp2;go_ret;exact ⟨_,rfl,hown.Z9u (by rw [<- HE.out]; exact HRD.out.ext hx) (by omega),hx⟩
end Go.Proofs
namespace Go.Proofs
open Go.RowKit Go.Tw Go.Flow Go.Sort
theorem Z6k (x y:Int):Y9a x y < 0 ↔ x < y:=by unfold Y9a; split <;> (try split) <;> omega
theorem Q6d (x y:Int) (l m:List Int):cmpL (x :: l) (y :: m) < 0 ↔ x < y ∨ (x = y /\ cmpL l m < 0):=by
 show (if x = y then cmpL l m else Y9a x y) < 0 ↔ _
 split
 . rename_i h; simp [h]
 . rename_i h; rw [Z6k]; simp [h]
theorem Y5c:∀ a b:List Int,cmpL a b < 0 ∨ a = b ∨ cmpL b a < 0
 | [],[]=>.inr (.inl rfl)
 | [],_ :: _=>.inl (by exact (by decide:(-1:Int) < 0))
 | _ :: _,[]=>.inr (.inr (by exact (by decide:(-1:Int) < 0)))
 | x :: l,y :: m=>by
   rw [Q6d,Q6d]
   rcases Int.lt_trichotomy x y with h | h | h
   . exact .inl (.inl h)
   . subst h
     rcases Y5c l m with h | h | h
     . exact .inl (.inr ⟨rfl,h⟩)
     . subst h; exact .inr (.inl rfl)
     . exact .inr (.inr (.inr ⟨rfl,h⟩))
   . exact .inr (.inr (.inl h))
theorem X7v:∀ a b c:List Int,cmpL a b < 0 -> cmpL b c < 0 -> cmpL a c < 0
 | [],[],_,h,_=>by simp [cmpL] at h
 | [],_ :: _,[],_,h=>by simp [cmpL] at h
 | [],_ :: _,_ :: _,_,_=>by simp [cmpL]
 | _ :: _,[],_,h,_=>by simp [cmpL] at h
 | _ :: _,_ :: _,[],_,h=>by simp [cmpL] at h
 | x :: l,y :: m,z :: n,h1,h2=>by
   rw [Q6d] at *
   rcases h1 with h1 | ⟨h1,h1'⟩ <;> rcases h2 with h2 | ⟨h2,h2'⟩
   . exact .inl (by omega)
   . exact .inl (by omega)
   . exact .inl (by omega)
   . exact .inr ⟨by omega,X7v l m n h1' h2'⟩
theorem Y3e (a:List Int):¬ cmpL a a < 0:=by
 induction a with
 | nil=>decide
 | cons x l ih=>rw [Q6d]; rintro (h | ⟨_,h⟩) <;> omega
theorem Q8x (a b:List Int):Q5a a b < 0 ↔ a.length < b.length ∨ (a.length = b.length /\ cmpL a b < 0):=by
 unfold Q5a
 split
 . rename_i h; simp [h]
 . rename_i h; omega
theorem X1f (a:List Int):¬ Q5a a a < 0:=by rw [Q8x]; have:=Y3e a; omega
theorem Q7a {a b c:List Int} (h1:Q5a a b < 0) (h2:Q5a b c < 0):Q5a a c < 0:=by
 rw [Q8x] at *
 rcases h1 with h1 | ⟨h1,h1'⟩ <;> rcases h2 with h2 | ⟨h2,h2'⟩
 . exact .inl (by omega)
 . exact .inl (by omega)
 . exact .inl (by omega)
 . exact .inr ⟨by omega,X7v _ _ _ h1' h2'⟩
theorem X2o (a b:List Int):Q5a a b < 0 ∨ a = b ∨ Q5a b a < 0:=by
 rw [Q8x,Q8x]
 rcases Nat.lt_trichotomy a.length b.length with h | h | h
 . exact .inl (.inl h)
 . rcases Y5c a b with h' | h' | h'
   . exact .inl (.inr ⟨h,h'⟩)
   . exact .inr (.inl h')
   . exact .inr (.inr (.inr ⟨h.symm,h'⟩))
 . exact .inr (.inr (.inl h))
theorem Y6e (f:Nat -> List Int):SWO (ltOf fun x y:Nat=>Q5a (f x) (f y)) where
 irrefl x:=by simpa [ltOf] using X1f (f x)
 trans x y z h1 h2:=by simp only [ltOf,decide_eq_true_eq] at *; exact Q7a h1 h2
 ntrans x y z h1 h2:=by
  simp only [ltOf,decide_eq_false_iff_not] at *;intro h
  rcases X2o (f x) (f y) with h' | h' | h'
  . exact h1 h'
  . rw [h'] at h; exact h2 h
  . exact h2 (Q7a h' h)
def Sets (w:World) (vs:List Value) (ll:List (List Int)):Prop:=vs.length = ll.length /\ ∀ i,i < ll.length -> Q0s w 0 3 (.int .i64) (vs.getD i undef) (ll.getD i []) /\ (ll.getD i []).length <= 16
theorem X9y {w W:World} {v:Value} {l:List Int} (h:Q0s w 0 3 (.int .i64) v l) (hb:∀ b,v.ownBlock = some b -> b < w.heap.size -> W.heap[b]? = w.heap[b]?):Q0s W 0 3 (.int .i64) v l:=by
 obtain ⟨h1,h2⟩:=h;refine ⟨h1,?_⟩
 rcases h2 with h2 | ⟨g,cap,cur,hv,hbg,hg,r⟩
 . exact .inl h2
 . exact .inr ⟨g,cap,cur,hv,hbg,(hb g (by rw [hv]; rfl) (Array.getElem?_eq_some_iff.1 hg).1).trans hg,r⟩
theorem Y5k {w:World} {v:Value} {l:List Int} {g:Nat} {cur:Array Value} {fr:Nat × Nat} (h:Q0s w 0 3 (.int .i64) v l) (hg:w.heap[g]? = some (.cells cur 180 fr)):v.ownBlock ≠ some g:=by
 intro e;obtain ⟨h1,h2⟩:=h
 rcases h2 with ⟨rfl,_⟩ | ⟨g',cap,cur',rfl,hbg,hg',r⟩
 . cases e
 . obtain rfl:g' = g:=by simpa [Value.ownBlock] using e
   rw [hg] at hg';injection hg' with h;injection h with _ h;exact absurd h (by decide)
theorem Sets.at {w W:World} {vs:List Value} {ll:List (List Int)} (h:Sets w vs ll) (hb:∀ v l,Q0s w 0 3 (.int .i64) v l -> ∀ b,v.ownBlock = some b -> b < w.heap.size -> W.heap[b]? = w.heap[b]?):Sets W vs ll :=
 ⟨h.1,fun i hi=>⟨X9y (h.2 i hi).1 (hb _ _ (h.2 i hi).1),(h.2 i hi).2⟩⟩
theorem Sets.ext {w W:World} {vs:List Value} {ll:List (List Int)} (h:Sets w vs ll) (hx:Ext w W):Sets W vs ll:=h.at fun _ _ _ b _ hb=>Below.block hx b hb
theorem Sets.reads {w:World} {vs:List Value} {ll:List (List Int)} (h:Sets w vs ll):Reads w vs ll:=⟨h.1,fun i hi=>(h.2 i hi).1.ints (by have:=(h.2 i hi).2; omega)⟩
theorem Sets.nil (w:World):Sets w [] []:=⟨rfl,fun i hi=>by simp at hi⟩
theorem Sets.snoc {w:World} {vs:List Value} {ll:List (List Int)} {v:Value} {l:List Int} (h:Sets w vs ll) (hv:Q0s w 0 3 (.int .i64) v l) (hl:l.length <= 16):Sets w (vs ++ [v]) (ll ++ [l]):=by
 refine ⟨by simp [h.1],fun i hi=>?_⟩
 rw [List.length_append,List.length_singleton] at hi
 by_cases hlt:i < ll.length
 . have e1:(vs ++ [v]).getD i undef = vs.getD i undef:=by simp [List.getElem?_append_left (show i < vs.length by rw [h.1]; exact hlt)]
   have e2:(ll ++ [l]).getD i [] = ll.getD i []:=by simp [List.getElem?_append_left hlt]
   rw [e1,e2]; exact h.2 i hlt
 . have e:i = ll.length:=by omega
   have e1:(vs ++ [v]).getD i undef = v:=by rw [e,<- h.1]; simp
   have e2:(ll ++ [l]).getD i [] = l:=by rw [e]; simp
   rw [e1,e2]; exact ⟨hv,hl⟩
theorem Q5w {α:Type} [Inhabited α] (enc:α -> Value) (w:World) (blk off n:Nat) (d:Array α) (os:Array Obj) {k:Nat} (hk:k < w.heap.size) (hne:k ≠ blk):(sortWorld enc w blk off n d os).heap[k]? = w.heap[k]?:=by
 unfold sortWorld;rw [heap_grow_old _ _ (by rw [size_putRow]; exact hk)]
 show (w.heap.modify blk _)[k]? = _;rw [Array.getElem?_modify,if_neg (fun h=>hne h.symm)]
theorem X6j {α:Type} [Inhabited α] (enc:α -> Value) (w:World) (blk off n:Nat) (d:Array α) (os:Array Obj):w.heap.size <= (sortWorld enc w blk off n d os).heap.size:=by
 unfold sortWorld;rw [size_grow,size_putRow]; show w.heap.size <= w.heap.size + _; omega
theorem X4l {α:Type} [Inhabited α] (enc:α -> Value) (w:World) (blk off n:Nat) (d:Array α) (os:Array Obj):w.grownBy (sortWorld enc w blk off n d os) (some blk) :=
 ⟨rfl,rfl,rfl,X6j _ _ _ _ _ _ _,fun k hk hne=>Q5w _ _ _ _ _ _ _ hk (fun e=>hne (by rw [e]))⟩
theorem X5o {α:Type} [Inhabited α] (enc:α -> Value) (w:World) (blk off n:Nat) (d0 d:Array α) (os:Array Obj) (h0:Holds enc w blk off d0) (hs:d.size = d0.size) (hb:blk < w.heap.size):Holds enc (sortWorld enc w blk off n d os) blk off d:=by
 unfold sortWorld;exact holds_grow _ _ _ _ _ _ (by rw [size_putRow]; exact hb) (holds_putRow enc (Sort.ahead w n) blk off d0 d (holds_ahead _ _ _ _ _ _ h0) hs)
def Sorted (ll:List (List Int)):Prop:=ll.Pairwise fun a b=>¬ Q5a b a < 0
theorem Z4s (w:World) (g cap base:Nat) (vs:List Value) (ll:List (List Int)) (hown:Q0s w base 180 idV (.slice (some ⟨g,0,none⟩) vs.length cap) vs) (hs:Sets w vs ll) (hle:ll.length <= 4096) :
    Calls Tryz.prog 121 #[.slice (some ⟨g,0,none⟩) ll.length cap,.func (.func 122) #[] #[]] w fun e w'=>e = .returned (.tuple #[]) /\ ∃ ll',ll'.Perm ll /\ Sorted ll' /\ Q1v w' (.slice (some ⟨g,0,none⟩) ll.length cap) ll' /\ w.grownBy w' (some g):=by
 obtain ⟨cur,hcur,hgl,hcap,htake⟩:∃ cur,w.heap[g]? = some (.cells cur 180 (0,0)) /\ g < w.heap.size /\ vs.length <= cap /\ cur.toList.take vs.length = vs:=by
  obtain ⟨h1,h2⟩:=hown
  rcases h2 with ⟨h2,_⟩ | ⟨g',cap',cur,hv,hb,hg,hc,hm,hz,ht⟩
  . cases h2
  . injection hv with e1 e2 e3
    injection e1 with e1;injection e1 with e1;subst e1; subst e3;refine ⟨cur,hg,(Array.getElem?_eq_some_iff.1 hg).1,hc,?_⟩;have hid:vs.map idV = vs:=by show vs.map id = vs; exact List.map_id vs
    rw [hid,Nat.mul_one] at ht;exact ht
 have hlen:=hs.1;obtain ⟨K,hK⟩:∃ K,ll.length = K:=⟨_,rfl⟩;rw [hK] at hlen hle ⊢
 let z:Value:=.slice none 0 0
 let enc:Nat -> Value:=fun x=>vs.getD x z
 let cont:Nat -> List Int:=fun x=>ll.getD x []
 have hint:∀ x W,(∀ k,k < w.heap.size -> k ≠ g -> W.heap[k]? = w.heap[k]?) -> Q0e W (enc x) (cont x):=by
  intro x W hW
  by_cases hx:x < K
  . have h1:=(hs.2 x (by omega)).1
    have h2:=X9y (W:=W) h1 (fun b hb hbl=>hW b hbl (fun e=>Y5k h1 hcur (by rw [<- e]; exact hb)))
    have h3:=h2.ints (by have:=(hs.2 x (by omega)).2; omega)
    have e1:vs.getD x undef = enc x:=by simp [enc,z,show x < vs.length by omega]
    rw [e1] at h3;exact h3
  . have e1:enc x = .slice none 0 0:=by simp [enc,z,show ¬ x < vs.length by omega,List.getD_eq_getElem?_getD,List.getElem?_eq_none (show vs.length <= x by omega)]
    have e2:cont x = []:=by simp [cont,List.getD_eq_getElem?_getD,List.getElem?_eq_none (show ll.length <= x by omega)]
    rw [e1,e2];exact Rows.nil 1 _ W
 have hone:OneCell enc:=by
  intro x;obtain ⟨A,c,he,_⟩:=(hint x w (fun _ _ _=>rfl)).opened
  rw [he]; rfl
 have hH:Holds enc w g 0 (Array.range K):=by
  intro j hj;rw [Array.size_range] at hj;have e1:(Array.range K)[j]! = j:=by rw [getElem!_pos _ j (by simpa using hj)]; simp
  rw [e1];refine ⟨?_,by simp [World.frozen?,hcur]⟩
  have h1:=congrArg (fun l=>l[j]?) htake;rw [Nat.zero_add];simp only [List.getElem?_take,show j < vs.length by omega,if_true] at h1
  show (match w.heap[g]? with | some (.cells c _ _)=>_ | _=>_) = _
  rw [hcur];simp only [Option.isSome_none,Bool.false_eq_true,if_false];rw [<- Array.getElem?_toList,h1];simp [enc,show j < vs.length by omega]
 have hcmp:CmpLays1 Tryz.prog 122 #[] enc (fun x y=>Q5a (cont x) (cont y)) g 0 (Array.range K).size w:=by
  refine CmpReads.lays fun m os dk hdk x y=>?_;have h:=Y3a (sortWorld enc w g 0 m dk os) (enc x) (enc y) (cont x) (cont y) (hint x _ (fun k hk hne=>Q5w _ _ _ _ _ _ _ hk hne)) (hint y _ (fun k hk hne=>Q5w _ _ _ _ _ _ _ hk hne));exact h.mono fun e w' ⟨he,hw⟩=>⟨he,0,hw.symm⟩
 have eg:∀ args w,(callFunc 122 args).run Tryz.prog w = .ok (.enter 122 args) w:=enters_of Tryz.func122 (by kernel_rfl) rfl
 have hcon:=Any.slices_SortFunc Tryz.sortSet enc hone (fun x y=>Q5a (cont x) (cont y)) (Y6e cont) 122 #[] g 0 cap (Array.range K) w eg hcmp hH hgl (by rw [Array.size_range]; omega)
 rw [Array.size_range] at hcon;change Calls Tryz.prog 121 _ _ _ at hcon;refine hcon.mono fun e w' ⟨he,d',n,os,hp,hso,hw⟩=>⟨he,?_⟩;subst hw;obtain ⟨hp1,_,hp3⟩:=hp;rw [Array.size_range] at hp1;have hperm:d'.toList.Perm (List.range K):=by
  have e1:d'.extract 0 K = d':=by rw [<- hp1]; simp
  have e2:(Array.range K).extract 0 K = Array.range K:=by
   apply Array.toList_inj.1
   rw [Array.toList_extract,List.extract_eq_take_drop,List.drop_zero];exact List.take_of_length_le (by simp)
  rw [e1,e2] at hp3
  simpa using hp3
 have hll:(List.range K).map cont = ll:=by
  apply List.ext_getElem
  . simp [hK]
  . intro i h1 h2; simp [cont,h2]
 refine ⟨d'.toList.map cont,by rw [<- hll]; exact hperm.map cont,?_,?_,X4l _ _ _ _ _ _ _⟩
 . unfold Sorted
   rw [List.pairwise_map,List.pairwise_iff_getElem];intro i j hi hj hij;have hi':i < d'.size:=by simpa using hi
   have hj':j < d'.size:=by simpa using hj
   have h:=hso i j (Nat.zero_le _) hij (by omega)
   rw [getElem!_pos d' i hi',getElem!_pos d' j hj'] at h
   simpa [ltOf] using h
 . have hho:=X5o enc w g 0 n (Array.range K) d' os hH (by simp [hp1]) hgl
   have hl2:(d'.toList.map cont).length = K:=by simp [hp1]
   refine ⟨fun k=>enc (d'[k]!),⟨_,cap,by rw [hl2],by rw [hl2]; omega,by rw [hl2]; omega,fun j hj=>?_⟩,fun j hj=>?_⟩
   . rw [hl2,Nat.mul_one] at hj
     exact ⟨g,0,rfl,(hho j (by omega)).1⟩
   . rw [hl2] at hj
     have hj':j < d'.size:=by omega
     simp only [Nat.mul_one,Nat.add_zero];rw [getElem!_pos d' j hj'];have:=hint d'[j] (sortWorld enc w g 0 n d' os) (fun k hk hne=>Q5w _ _ _ _ _ _ _ hk hne)
     simpa using this
end Go.Proofs
