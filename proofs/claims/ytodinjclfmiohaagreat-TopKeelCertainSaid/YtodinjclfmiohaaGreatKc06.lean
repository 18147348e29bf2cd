/- The region theorem under a relation of worlds of one's own. The region theorem where one operation turns what others only extend: it is carried out once, and ahead of it the stronger relation holds. Contract: undominated. Contracts: slices.Grow of nil; slices.Concat of two lists (strings; plans). Contracts: weight, checkMember, checkMembers (of the program). Contracts of the law's own functions: Q9v, rules. Contracts: slices.Clone of a history; histories of the program. Contract: slices.Equal of lists of numbers. Contracts: slices.Equal; checkRules, CheckPolicy. Contract of the law's own function: told. Contract of the law's own function: given. Lists of lists whose parts are the call's own. Contract of the reference: Coded. Contract of the reference: Flip. Contract of the law's own function: keelTides. The parts of a string between a byte; strings.Cut and strings.Split in these words. Plain law. Contracts: add (of a cost), spent. Contracts: Kept, Closings, Delay, Weight (of the program). The error of a Q9v and a member's number. Contract: Alone (of the program). What the law PolicyReads asks, plain: which closings come first, sets of tides as closings, the text of a coded policy, the regret as a sum over the members. -/
import Derived.Test.YtodinjclfmiohaaGreatKc02
import Derived.Test.YtodinjclfmiohaaGreatKc05
import Derived.Lib.AppendZeros
import Derived.Test.YtodinjclfmiohaaGreatKc03
import Derived.Test.YtodinjclfmiohaaGreatKc04
import Derived.OwnWalk
import Derived.Lib.Split
import Derived.Lib.SplitLaws
import Derived.Lib.CutLaws
import Derived.Lib.IndexMore
set_option maxRecDepth 1000000
set_option maxHeartbeats 64000000
set_option linter.unusedVariables false
set_option linter.unusedSimpArgs false
set_option linter.constructorNameAsVariable false
namespace Go.Flow
open Go.RowKit Go.Tw
structure Z0p (Rel:World -> World -> Prop) where
 D:(Nat -> Value) -> World -> Prop
 mono:∀ v w w',Rel w w' -> D v w -> D v w'
def Z0p.is {Rel:World -> World -> Prop} (j:Nat) (e:(Nat -> Value) -> Value):Z0p Rel:=⟨fun v _=>v j = e v,fun _ _ _ _ h=>h⟩
def Z0p.c {Rel:World -> World -> Prop} (j:Nat) (x:Value):Z0p Rel:=Z0p.is j fun _=>x
def Z0p.none {Rel:World -> World -> Prop}:Z0p Rel:=⟨fun _ _=>True,fun _ _ _ _ _=>trivial⟩
def J7p (Rel:World -> World -> Prop) (P:Program) (pre:Nat -> List Nat) (D:Nat -> (Nat -> Value) -> World -> Prop) (E:(Nat -> Value) -> World -> World -> Prop) (k:Kind) (o:Oper) (j:Nat) (b:Act) (v:Nat -> Value) (w1 w:World):Prop :=
 match k with
 | .plain=>∃ u,(∀ w,(execOp b.eval o).run P w = .ok (.value u) w) /\ D j (mask pre j (upd v j u)) w1
 | .world=>∀ K:Value -> World -> Prop,(∀ u w',Rel w1 w' -> D j (mask pre j (upd v j u)) w' -> K u w') -> gives P K ((execOp b.eval o).run P w1)
 | .last=>∀ K:Value -> World -> Prop,(∀ u w',E (mask pre j (upd v j u)) w1 w' -> K u w') -> gives P K ((execOp b.eval o).run P w)
theorem J4u {Rel:World -> World -> Prop} {P:Program} {ops:Array Oper} {pre:Nat -> List Nat} {D:Nat -> (Nat -> Value) -> World -> Prop} {T E:(Nat -> Value) -> World -> World -> Prop} {k:Kind} {o:Oper} {j:Nat} {b:Act} {v:Nat -> Value} {w1:World}
    (hk:k ≠ .last) (h:Guarded ops o b (J7p Rel P pre D E k o j b v w1 w1) (Pass pre D E k j v w1 w1)):vc P ops pre Rel D T E k o j b v w1:=by
 have h':(Region.wanted o (yielded ops b.tmps) = true /\ J7p Rel P pre D E k o j b v w1 w1) ∨ (Region.wanted o (yielded ops b.tmps) = false /\ Pass pre D E k j v w1 w1):=by
  unfold Guarded at h;cases hg:o.guard with
  | none=>rw [hg] at h; exact .inl ⟨by simp [Region.wanted,hg],h⟩
  | some g=>rw [hg] at h; exact h
 cases k with
 | plain=>exact h'.imp (fun ⟨a,u,b,c⟩=>⟨a,u,b,c⟩) id
 | world=>exact h'.imp (fun ⟨a,b⟩=>⟨a,b _ fun u w' h1 h2=>⟨h1,h2⟩⟩) id
 | last=>exact absurd rfl hk
theorem J4e {Rel:World -> World -> Prop} {P:Program} {ops:Array Oper} {pre:Nat -> List Nat} {D:Nat -> (Nat -> Value) -> World -> Prop} {T E:(Nat -> Value) -> World -> World -> Prop} {o:Oper} {j:Nat} {b:Act} {v:Nat -> Value} {w1:World}
    (h:∀ w,T v w1 w -> Guarded ops o b (J7p Rel P pre D E .last o j b v w1 w) (Pass pre D E .last j v w1 w)):vc P ops pre Rel D T E .last o j b v w1:=by
 intro w hT;have h:=h w hT;have h':(Region.wanted o (yielded ops b.tmps) = true /\ J7p Rel P pre D E .last o j b v w1 w) ∨ (Region.wanted o (yielded ops b.tmps) = false /\ Pass pre D E .last j v w1 w):=by
  unfold Guarded at h;cases hg:o.guard with
  | none=>rw [hg] at h; exact .inl ⟨by simp [Region.wanted,hg],h⟩
  | some g=>rw [hg] at h; exact h
 exact h'.imp (fun ⟨a,b⟩=>⟨a,b _ fun u w' h1=>h1⟩) id
section
variable {P:Program} {id:Nat} {Q:Exit -> Act -> World -> Prop} {a0:Act} {w:World} {ops:List Oper}
end
end Go.Flow
namespace Go.Flow
open Go.RowKit Go.Tw
section
variable {P:Program} {ops:Array Oper} {pre:Nat -> List Nat}
theorem Y1n (j0:Nat) {Rel0:World -> World -> Prop} (h0r:∀ w,Rel0 w w) (h0t:∀ a b c,Rel0 a b -> Rel0 b c -> Rel0 a c) (news:List Nat) (tail:List Nat) (kind:Nat -> Kind) {Rel:World -> World -> Prop} {D:Nat -> (Nat -> Value) -> World -> Prop} {E:Nat -> (Nat -> Value) -> World -> World -> Prop}
    {id:Nat} {Q:Exit -> Act -> World -> Prop} {a0:Act} {w:World} (hm:P.follows .mixedOrders = true) (hok:Ok ops pre)
    (htail:∀ i (h:i < tail.length),tail[i] < ops.size) (hchain:∀ i k (hi:i < tail.length) (hk:k < tail.length),i < k -> tail[i] ∈ pre tail[k])
    (hlate:∀ j,j < ops.size -> j ∉ tail -> ∀ k ∈ pre j,k ∉ tail) (hkind:∀ j,j < ops.size -> (kind j = .last ↔ j ∈ tail)) (hearly:∀ j,j < ops.size -> kind j = .world -> ∀ s ∈ tail,j ∈ pre s)
    (h01:∀ a b,Rel0 a b -> Rel a b) (hrefl:∀ w,Rel w w) (htrans:∀ a b c,Rel a b -> Rel b c -> Rel a c) (hmono:∀ k,k < ops.size -> ∀ v w w',Rel w w' -> D k v w -> D k v w')
    (hvc:∀ j o,ops[j]? = some o -> j ∉ tail -> j ≠ j0 -> ∀ v w1,Rel w.drew w1 -> (∀ k ∈ pre j,D k (mask pre k v) w1) -> vc P ops pre Rel0 D (fun _ _ _=>False) (fun _ _ _=>False) (kind j) o j (act (fun k=>decide (k < j)) v ops.toList 0 a0) v w1)
    (hvc0:∀ o,ops[j0]? = some o -> j0 ∉ tail -> ∀ v w1,Rel0 w.drew w1 -> (∀ k ∈ pre j0,D k (mask pre k v) w1) -> vc P ops pre Rel D (fun _ _ _=>False) (fun _ _ _=>False) (kind j0) o j0 (act (fun k=>decide (k < j0)) v ops.toList 0 a0) v w1)
    (hvl:∀ c (hc:c < tail.length) o,ops[tail[c]]? = some o -> ∀ v w1,Rel w.drew w1 -> (∀ k ∈ pre tail[c],k ∉ tail -> D k (mask pre k v) w1) -> vc P ops pre Rel D (Tail pre tail E c) (E c) .last o tail[c] (act (fun k=>decide (k < tail[c])) v ops.toList 0 a0) v w1)
    (hnews:∀ j ∈ news,j < ops.size /\ kind j = .world /\ ∀ o,ops[j]? = some o -> Made P o) (hrsz:∀ a b,Rel a b -> a.heap.size <= b.heap.size)
    (hpost:∀ v w1 w',Rel w.drew w1 -> J9p news v -> (∀ k,k < ops.size -> k ∉ tail -> D k (mask pre k v) w1) -> Tail pre tail E tail.length v w1 w' -> Q .normal (act (fun _=>true) v ops.toList 0 a0) w') :
    (Code.region id ops true).wp P Q a0 w:=by
 refine wp_region_any hm ?_;have hclosed:∀ (X:Nat -> Bool),(∀ j o,ops[j]? = some o -> X j = true -> ∀ e ∈ o.after,Region.binds .any e = true -> X e.on = true) ->
     ∀ j o,ops[j]? = some o -> (∀ e ∈ o.after,Region.binds .any e = true -> X e.on = true) -> ∀ i ∈ pre j,X i = true:=by
  intro X hX j
  induction j using Nat.strongRecOn with
  | _ j ih =>
    intro o ho hall i hi;obtain ⟨e,he,hb,hc⟩:=hok.pre j o ho i hi
    rcases hc with rfl | hc
    . exact hall e he hb
    . have hlt:=hok.edge j o ho e he hb
      have hj:j < ops.size:=(Array.getElem?_eq_some_iff.1 ho).1;have ho':ops[e.on]? = some ops[e.on]:=Array.getElem?_eq_getElem (by omega)
      exact ih e.on hlt _ ho' (hX e.on _ ho' (hall e he hb)) i hc
 have main:∀ (fuel:Nat) (listed:Array Bool) (a:Act) (wc:World),listed.size = ops.size -> left ops.size listed <= fuel ->
     (∀ j o,ops[j]? = some o -> listed.getD j false = true -> ∀ e ∈ o.after,Region.binds .any e = true -> listed.getD e.on false = true) ->
     (∃ v w1 c,Inv ops pre Rel D E tail news a0 w.drew (fun k=>listed.getD k false) v w1 c a wc /\ (listed.getD j0 false = false -> Rel0 w.drew w1)) -> wpAny P .any ops Q fuel listed a wc:=by
  intro fuel;have hdone:∀ (listed:Array Bool) (a:Act) (wc:World),listed.size = ops.size ->
      (∃ v w1 c,Inv ops pre Rel D E tail news a0 w.drew (fun k=>listed.getD k false) v w1 c a wc /\ (listed.getD j0 false = false -> Rel0 w.drew w1)) -> Region.ready .any ops listed = [] -> Q .normal a wc:=by
   rintro listed a wc hsz ⟨v,w1,c,hI,_⟩ hr;have hall:∀ j,j < ops.size -> listed.getD j false = true:=by
    intro j
    induction j using Nat.strongRecOn with
    | _ j ih =>
      intro hj;cases hx:listed.getD j false with
      | true=>rfl
      | false =>
        have hmem:j ∈ Region.ready .any ops listed:=mem_ready.2 ⟨by rw [Q2a (by omega)]; exact hx,ops[j],Array.getElem?_eq_getElem hj,fun e he hb =>
         have hlt:=hok.edge j _ (Array.getElem?_eq_getElem hj) e he hb
         ih e.on hlt (by omega)⟩
        rw [hr] at hmem;cases hmem
   have hact:a = act (fun _=>true) v ops.toList 0 a0:=by
    rw [hI.act];refine Q8u (by rw [Q1w,Q1w]) fun t=>Q4m _ _ _ _ t _ 0 _ _ rfl rfl fun k o ho _=>⟨?_,fun _=>rfl⟩
    rw [Nat.zero_add];exact hall k (by simpa using (List.getElem?_eq_some_iff.1 ho).1)
   rw [hact];refine hpost v w1 wc hI.rel (fun i hi k hk hne=>hI.newNe i hi k hk hne (hall i (hnews i hi).1) (hall k (hnews k hk).1)) (fun k hk hks=>hI.facts k (hall k hk) hks) ?_;have hl:=hI.last;have hc:c = tail.length:=by
    rcases Nat.lt_or_ge c tail.length with h | h
    . have h1:listed.getD tail[c] false = false:=hI.after c h (Nat.le_refl _)
      have h2:=hall _ (htail c h);rw [h2] at h1; cases h1
    . have:=hI.count; omega
   rw [hc] at hl;exact hl
  induction fuel with
  | zero =>
    intro listed a wc hsz hleft _ hI;have hr:Region.ready .any ops listed = []:=by
     refine List.eq_nil_iff_forall_not_mem.2 fun j hj=>?_;obtain ⟨hun,o,ho,_⟩:=mem_ready.1 hj;have hlt:j < ops.size:=(Array.getElem?_eq_some_iff.1 ho).1;have:=Q7b hsz hlt hun;omega
    exact ⟨hr,hdone listed a wc hsz hI hr⟩
  | succ fuel ih =>
    intro listed a wc hsz hleft hcl hI;refine ⟨hdone listed a wc hsz hI,fun j hj=>?_⟩;obtain ⟨v,w1,c,hI,hO⟩:=hI;obtain ⟨hun,o,ho,hall⟩:=mem_ready.1 hj;have hlt:j < ops.size:=(Array.getElem?_eq_some_iff.1 ho).1;have hunf:listed.getD j false = false:=by rw [<- Q2a (by omega)]; exact hun
    have hpre:=hclosed (fun k=>listed.getD k false) hcl j o ho hall;have hol:ops.toList[j]? = some o:=by simpa using ho
    have hfree:∀ k,k < ops.size -> listed.getD k false = true -> j ∉ pre k:=by
     intro k hk hx hmem;have ho':ops[k]? = some ops[k]:=Array.getElem?_eq_getElem hk;have h2:listed.getD j false = true:=hclosed (fun k=>listed.getD k false) hcl k _ ho' (hcl k _ ho' hx) j hmem;rw [hunf] at h2; cases h2
    have hlater:∀ k o',j < k -> ops[k]? = some o' -> listed.getD k false = true -> o.apart ops o' = true:=by
     intro k o' hk ho' hx
     rcases hok.apart j k o o' hk ho ho' with h | h
     . exact h
     . exact absurd h (hfree k (Array.getElem?_eq_some_iff.1 ho').1 hx)
    have hlooks:∀ t ∈ o.looksAt ops,a.tmps[t]? = (act (fun k=>decide (k < j)) v ops.toList 0 a0).tmps[t]?:=by
     intro t ht;rw [hI.act];refine Q4m _ _ _ _ t _ 0 _ _ rfl rfl fun k o' ho' hd=>?_;rw [Nat.zero_add];refine ⟨?_,fun _=>rfl⟩;have ho'':ops[k]? = some o':=by simpa using ho'
     rcases Nat.lt_trichotomy k j with hk | hk | hk
     . simp only [hk,decide_true]
       rcases hok.apart k j o' o hk ho'' ho with h | h
       . exact absurd ht ((Oper.apart_spec h).1 t hd)
       . exact hpre k h
     . subst hk
       simp [hunf]
     . have hnlt:¬ k < j:=by omega
       simp only [hnlt,decide_false];cases hx:listed.getD k false with
       | false=>rfl
       | true=>exact absurd ht ((Oper.apart_spec (hlater k o' hk ho'' hx)).2.2 t hd)
    have hexec:execOp a.eval o = execOp (act (fun k=>decide (k < j)) v ops.toList 0 a0).eval o:=execOp_congr o (fun cs b=>hok.sel j o cs b ho) (eval_congr o hlooks);have hwant:Region.wanted o (yielded ops a.tmps) = Region.wanted o (yielded ops (act (fun k=>decide (k < j)) v ops.toList 0 a0).tmps):=Q6v o hlooks;have hput:∀ u,a.put o.dst u = act (fun k=>if k = j then true else listed.getD k false) (upd v j u) ops.toList 0 a0:=by
     intro u;rw [hI.act];refine X7l hol hunf fun k o' hk ho' hx=>?_;cases hd:o.dst with
     | none=>exact .inr rfl
     | some d=>exact .inl ((Oper.apart_spec (hlater k o' hk (by simpa using ho') hx)).2.1 d hd)
    have hX:(fun k=>(listed.setIfInBounds j true).getD k false) = fun k=>if k = j then true else listed.getD k false:=by
     funext k
     split
     . rename_i hk; subst hk; simp [hsz,hlt]
     . rename_i hk; exact getD_set_ne false (Ne.symm hk)
    have hwhich:j ∈ tail -> ∃ h:c < tail.length,tail[c] = j:=by
     intro hmem;obtain ⟨i,hi,he⟩:=List.getElem_of_mem hmem;have hci:c <= i:=by
      rcases Nat.lt_or_ge i c with h | h
      . have:=hI.before i hi h
        simp only [he] at this;rw [hunf] at this; cases this
      . exact h
     have:c = i:=by
      rcases Nat.lt_or_ge c i with h | h
      . have hx:=hpre tail[c] (by rw [<- he]; exact hchain c i (by omega) hi h)
        have h1:=hI.after c (by omega) (Nat.le_refl _)
        rw [hx] at h1; cases h1
      . omega
     subst this;exact ⟨hi,he⟩
    have hnext:∀ (u:Value) (w1' wc':World) (c':Nat),Rel w1 w1' -> (j ≠ j0 -> Rel0 w1 w1') -> (j ∉ tail -> D j (mask pre j (upd v j u)) w1') -> (j ∉ tail -> c' = c) -> (j ∈ tail -> c' = c + 1) -> (j ∈ news -> ∃ g,u = .pointer (some ⟨g,0,none⟩) /\ w1.heap.size <= g /\ g < w1'.heap.size) ->
        Tail pre tail E c' (upd v j u) w1' wc' -> wpAny P .any ops Q fuel (listed.setIfInBounds j true) (a.put o.dst u) wc':=by
     intro u w1' wc' c' hrel hrel0 hD hc1 hc2 hN hE;refine ih _ _ _ (by simpa using hsz) (by have:=Q7b hsz hlt hun; omega) (fun k ok hok' hx e he hb=>?_) ⟨upd v j u,w1',c',⟨by rw [hX]; exact hput u,htrans _ _ _ hI.rel hrel,fun k hx hks=>?_,?_,fun i hi hic=>?_,fun i hi hic=>?_,hE,fun i hi hx=>?_,fun i hi k hk hne hx hy=>?_⟩,fun hx=>?_⟩
     . by_cases hkj:k = j
       . subst hkj
         rw [ho] at hok';cases hok';exact getD_set_true (hall e he hb)
       . rw [getD_set_ne false (Ne.symm hkj)] at hx
         exact getD_set_true (hcl k ok hok' hx e he hb)
     . rw [congrFun hX k] at hx
       by_cases hkj:k = j
       . subst hkj; exact hD hks
       . rw [if_neg hkj] at hx
         have hksz:k < ops.size:=by
          rcases Nat.lt_or_ge k ops.size with h | h
          . exact h
          . rw [<- hsz] at h; simp [Array.getElem?_eq_none h] at hx
         rw [Q7g (Ne.symm hkj) (hfree k hksz hx)];exact hmono k hksz _ _ _ hrel (hI.facts k hx hks)
     . by_cases hjt:j ∈ tail
       . obtain ⟨h,_⟩:=hwhich hjt
         rw [hc2 hjt]; omega
       . rw [hc1 hjt]; exact hI.count
     . rw [congrFun hX]
       by_cases hij:tail[i] = j
       . rw [if_pos hij]
       . rw [if_neg hij]
         by_cases hjt:j ∈ tail
         . obtain ⟨h,he⟩:=hwhich hjt
           rw [hc2 hjt] at hic;have:i ≠ c:=fun e=>hij (by subst e; exact he)
           exact hI.before i hi (by omega)
         . rw [hc1 hjt] at hic; exact hI.before i hi hic
     . rw [congrFun hX]
       by_cases hjt:j ∈ tail
       . obtain ⟨h,he⟩:=hwhich hjt
         rw [hc2 hjt] at hic;rw [if_neg (fun e=>by
          have h1:=hchain c i h hi (by omega)
          rw [e,he] at h1;obtain ⟨e',he',hb',hcc⟩:=hok.pre j o ho j h1;have hl:=hok.edge j o ho e' he' hb';have h2:listed.getD j false = true:=hpre j h1;rw [hunf] at h2; cases h2)]
         exact hI.after i hi (by omega)
       . rw [hc1 hjt] at hic
         rw [if_neg (fun e=>hjt (by rw [<- e]; exact List.getElem_mem hi))]
         exact hI.after i hi hic
     . rw [congrFun hX i] at hx
       by_cases hij:i = j
       . subst hij
         obtain ⟨g,hg,_,h2⟩:=hN hi;exact ⟨g,by simp [upd,hg],h2⟩
       . rw [if_neg hij] at hx
         obtain ⟨g,hg,h2⟩:=hI.newIn i hi hx;exact ⟨g,by simp [upd,hij,hg],Nat.lt_of_lt_of_le h2 (hrsz _ _ hrel)⟩
     . rw [congrFun hX i] at hx
       rw [congrFun hX k] at hy
       by_cases hij:i = j
       . subst hij
         rw [if_neg (Ne.symm hne)] at hy;obtain ⟨g,hg,h1,_⟩:=hN hi;obtain ⟨g',hg',h2⟩:=hI.newIn k hk hy;have e1:upd v i u i = u:=by simp [upd]
         have e2:upd v i u k = v k:=by simp [upd,Ne.symm hne]
         rw [e1,e2,hg,hg'];intro he;injection he with he;injection he with he;injection he with he;omega
       . rw [if_neg hij] at hx
         by_cases hkj:k = j
         . subst hkj
           obtain ⟨g,hg,h1,_⟩:=hN hk;obtain ⟨g',hg',h2⟩:=hI.newIn i hi hx;have e1:upd v k u k = u:=by simp [upd]
           have e2:upd v k u i = v i:=by simp [upd,hij]
           rw [e1,e2,hg,hg'];intro he;injection he with he;injection he with he;injection he with he;omega
         . rw [if_neg hkj] at hy
           have e1:upd v j u i = v i:=by simp [upd,hij]
           have e2:upd v j u k = v k:=by simp [upd,hkj]
           rw [e1,e2];exact hI.newNe i hi k hk hne hx hy
     . rw [congrFun hX j0] at hx
       by_cases hj0:j0 = j
       . rw [if_pos hj0] at hx; cases hx
       . rw [if_neg hj0] at hx
         exact h0t _ _ _ (hO hx) (hrel0 (Ne.symm hj0))
    have htailkeep:j ∉ tail -> ∀ u,Tail pre tail E c (upd v j u) w1 wc:=by
     intro hjt u;have hl:=hI.last;cases c with
     | zero=>exact hl
     | succ c =>
       have hct:c < tail.length:=by have:=hI.count; omega
       change E c (mask pre (tail.getD c 0) v) w1 wc at hl;show E c (mask pre (tail.getD c 0) (upd v j u)) w1 wc;have e:tail.getD c 0 = tail[c]:=by simp [hct]
       rw [e] at hl ⊢;rw [Q7g (fun h=>hjt (by rw [h]; exact List.getElem_mem hct)) (hfree _ (htail c hct) (hI.before c hct (by omega)))]
       exact hl
    have hnone:kind j ≠ .world -> j ∉ news:=fun h1 h2=>h1 (hnews j h2).2.1;have hpass:Region.wanted o (yielded ops (act (fun k=>decide (k < j)) v ops.toList 0 a0).tmps) = false -> j ∉ news:=fun h1 h2=>by
     have h3:=((hnews j h2).2.2 o ho).1;simp [Region.wanted,h3] at h1
    unfold wpOp;simp only [ho];rw [hwant]
    by_cases hjt:j ∈ tail
    . obtain ⟨hc,he⟩:=hwhich hjt
      have hv:=hvl c hc o (by rw [he]; exact ho) v w1 hI.rel (fun k hk hkt=>hI.facts k (hpre k (by rw [<- he]; exact hk)) hkt) wc hI.last
      rw [he] at hv;have hT:∀ u w',E c (mask pre j (upd v j u)) w1 w' -> Tail pre tail E (c + 1) (upd v j u) w1 w':=by
       intro u w' h;show E c (mask pre (tail.getD c 0) (upd v j u)) w1 w';have e:tail.getD c 0 = j:=by simp [hc,he]
       rw [e]; exact h
      rcases hv with ⟨hwt,hg⟩ | ⟨hwf,hD⟩
      . rw [if_pos hwt]
        refine .inl ?_;unfold Oper.wp;rw [hexec];exact Q1l (Q3k (fun u w' h=>hnext u w1 w' (c + 1) (hrefl _) (fun _=>h0r _) (fun h=>absurd hjt h) (fun h=>absurd hjt h) (fun _=>rfl) (fun hn=>absurd hn (hnone (by rw [(hkind j hlt).2 hjt]; simp))) (hT u w' h)) hg)
      . rw [if_neg (by rw [hwf]; simp)]
        exact hnext undef w1 wc (c + 1) (hrefl _) (fun _=>h0r _) (fun h=>absurd hjt h) (fun h=>absurd hjt h) (fun _=>rfl) (fun hn=>absurd hn (hpass hwf)) (hT _ _ hD)
    . have hfacts:∀ k ∈ pre j,D k (mask pre k v) w1:=fun k hk=>hI.facts k (hpre k hk) (hlate j hlt hjt k hk)
      by_cases hj0:j = j0
      . subst hj0
        have hv:=hvc0 o ho hjt v w1 (hO hunf) hfacts;cases hk:kind j with
        | plain =>
          rw [hk] at hv
          rcases hv with ⟨hwt,u,hrun,hD⟩ | ⟨hwf,hD⟩
          . rw [if_pos hwt]
            refine .inl ?_;unfold Oper.wp;rw [hexec,hrun wc];exact hnext u w1 wc c (hrefl _) (fun _=>h0r _) (fun _=>hD) (fun _=>rfl) (fun h=>absurd h hjt) (fun hn=>absurd hn (hnone (by rw [hk]; simp))) (htailkeep hjt u)
          . rw [if_neg (by rw [hwf]; simp)]
            exact hnext undef w1 wc c (hrefl _) (fun _=>h0r _) (fun _=>hD) (fun _=>rfl) (fun h=>absurd h hjt) (fun hn=>absurd hn (hpass hwf)) (htailkeep hjt undef)
        | world =>
          have hc0:c = 0:=by
           rcases Nat.eq_zero_or_pos c with h | h
           . exact h
           . have h0:0 < tail.length:=by have:=hI.count; omega
             have hx:=hI.before 0 h0 h;exact absurd (hearly j hlt hk tail[0] (List.getElem_mem h0)) (hfree _ (htail 0 h0) hx)
          subst hc0;have hwc:wc = w1:=hI.last;subst hwc;rw [hk] at hv
          rcases hv with ⟨hwt,hg⟩ | ⟨hwf,hD⟩
          . rw [if_pos hwt]
            refine .inl ?_;unfold Oper.wp;rw [hexec]
            by_cases hn:j ∈ news
            . obtain ⟨cc,hrun⟩:=((hnews j hn).2.2 o ho).2 (act (fun k=>decide (k < j)) v ops.toList 0 a0).eval wc
              rw [hrun] at hg ⊢;exact Q1l (hnext _ _ _ 0 hg.1 (fun h=>absurd rfl h) (fun _=>hg.2) (fun _=>rfl) (fun h=>absurd h hjt) (fun _=>⟨_,rfl,Nat.le_refl _,by rw [World.size_alloc]; exact Nat.lt_succ_self _⟩) rfl)
            . exact Q1l (Q3k (fun u w' h=>hnext u w' w' 0 h.1 (fun h'=>absurd rfl h') (fun _=>h.2) (fun _=>rfl) (fun h=>absurd h hjt) (fun h=>absurd h hn) rfl) hg)
          . rw [if_neg (by rw [hwf]; simp)]
            exact hnext undef wc wc 0 (hrefl _) (fun _=>h0r _) (fun _=>hD) (fun _=>rfl) (fun h=>absurd h hjt) (fun hn=>absurd hn (hpass hwf)) rfl
        | last=>exact absurd ((hkind j hlt).1 hk) hjt
      . skip
        have hv:=hvc j o ho hjt hj0 v w1 hI.rel hfacts;cases hk:kind j with
        | plain =>
          rw [hk] at hv
          rcases hv with ⟨hwt,u,hrun,hD⟩ | ⟨hwf,hD⟩
          . rw [if_pos hwt]
            refine .inl ?_;unfold Oper.wp;rw [hexec,hrun wc];exact hnext u w1 wc c (hrefl _) (fun _=>h0r _) (fun _=>hD) (fun _=>rfl) (fun h=>absurd h hjt) (fun hn=>absurd hn (hnone (by rw [hk]; simp))) (htailkeep hjt u)
          . rw [if_neg (by rw [hwf]; simp)]
            exact hnext undef w1 wc c (hrefl _) (fun _=>h0r _) (fun _=>hD) (fun _=>rfl) (fun h=>absurd h hjt) (fun hn=>absurd hn (hpass hwf)) (htailkeep hjt undef)
        | world =>
          have hc0:c = 0:=by
           rcases Nat.eq_zero_or_pos c with h | h
           . exact h
           . have h0:0 < tail.length:=by have:=hI.count; omega
             have hx:=hI.before 0 h0 h;exact absurd (hearly j hlt hk tail[0] (List.getElem_mem h0)) (hfree _ (htail 0 h0) hx)
          subst hc0;have hwc:wc = w1:=hI.last;subst hwc;rw [hk] at hv
          rcases hv with ⟨hwt,hg⟩ | ⟨hwf,hD⟩
          . rw [if_pos hwt]
            refine .inl ?_;unfold Oper.wp;rw [hexec]
            by_cases hn:j ∈ news
            . obtain ⟨cc,hrun⟩:=((hnews j hn).2.2 o ho).2 (act (fun k=>decide (k < j)) v ops.toList 0 a0).eval wc
              rw [hrun] at hg ⊢;exact Q1l (hnext _ _ _ 0 (h01 _ _ hg.1) (fun _=>hg.1) (fun _=>hg.2) (fun _=>rfl) (fun h=>absurd h hjt) (fun _=>⟨_,rfl,Nat.le_refl _,by rw [World.size_alloc]; exact Nat.lt_succ_self _⟩) rfl)
            . exact Q1l (Q3k (fun u w' h=>hnext u w' w' 0 (h01 _ _ h.1) (fun _=>h.1) (fun _=>h.2) (fun _=>rfl) (fun h=>absurd h hjt) (fun h=>absurd h hn) rfl) hg)
          . rw [if_neg (by rw [hwf]; simp)]
            exact hnext undef wc wc 0 (hrefl _) (fun _=>h0r _) (fun _=>hD) (fun _=>rfl) (fun h=>absurd h hjt) (fun hn=>absurd hn (hpass hwf)) rfl
        | last=>exact absurd ((hkind j hlt).1 hk) hjt
 refine main ops.size _ a0 _ (by simp) ?_ (fun j o _ hx=>?_) ⟨fun _=>undef,w.drew,0,⟨?_,hrefl _,fun k hx=>?_,Nat.zero_le _,fun i _ h=>absurd h (Nat.not_lt_zero _),fun i _ _=>?_,rfl,fun i _ hx=>?_,fun i _ _ _ _ hx=>?_⟩,fun _=>h0r _⟩
 . exact Nat.le_trans (List.countP_le_length) (by simp)
 . have:=Q1t ops.size j
   rw [this] at hx; cases hx
 . refine (Q8u (by rw [Q1w]) fun t=>?_)
   have:∀ (l:List Oper) (i:Nat) (a:Act),act (fun k=>(Array.replicate ops.size false).getD k false) (fun _=>undef) l i a = a:=by
    intro l; induction l with
    | nil=>intro i a; rfl
    | cons o l ih=>intro i a; rw [act,ih,Q1t]; rfl
   rw [this]
 . have:=Q1t ops.size k
   rw [this] at hx; cases hx
 . exact Q1t ops.size _
 . have:=Q1t ops.size i
   rw [this] at hx; cases hx
 . have:=Q1t ops.size i
   rw [this] at hx; cases hx
end
def X0z (j0:Nat) (Rel0 Rel:World -> World -> Prop) (P:Program) (ops:Array Oper) (pre:Nat -> List Nat) (tail:List Nat) (w0:World) (D:Nat -> (Nat -> Value) -> World -> Prop):List ((Nat -> Value) -> World -> World -> Prop) -> ((Nat -> Value) -> World -> World -> Prop) -> List Oper -> List Kind -> List Nat -> ((Nat -> Value) -> Act) -> Prop
 | El,T,o :: l,k :: kl,j :: jl,b =>
   match k,El with
   | .last,E :: El=>(∀ v w1,Rel w0 w1 -> Facts pre D v w1 ((pre j).filter fun i=>!tail.contains i) (∀ w,T v w1 w -> ∀ bb,bb = b v -> Guarded ops o bb (J7p Rel P pre D E .last o j bb v w1 w) (Pass pre D E .last j v w1 w))) /\
      X0z j0 Rel0 Rel P ops pre tail w0 D El (fun v w1 w=>E (mask pre j v) w1 w) l kl jl (fun v=>(b v).put o.dst (v j))
   | .last,[]=>False
   | k,El=>(∀ v w1,(if j = j0 then Rel0 else Rel) w0 w1 -> Facts pre D v w1 (pre j) (∀ bb,bb = b v -> Guarded ops o bb (J7p (if j = j0 then Rel else Rel0) P pre D (fun _ _ _=>False) k o j bb v w1 w1) (Pass pre D (fun _ _ _=>False) k j v w1 w1))) /\ X0z j0 Rel0 Rel P ops pre tail w0 D El T l kl jl (fun v=>(b v).put o.dst (v j))
 | _,_,_,_,_,_=>True
theorem Y5a {j0:Nat} {Rel0 Rel:World -> World -> Prop} {P:Program} {ops:Array Oper} {pre:Nat -> List Nat} {tail:List Nat} {w0:World} {D:Nat -> (Nat -> Value) -> World -> Prop} :
    ∀ (l:List Oper) (kl:List Kind) (El:List ((Nat -> Value) -> World -> World -> Prop)) (T:(Nat -> Value) -> World -> World -> Prop) (i:Nat) (b:(Nat -> Value) -> Act),kl.length = l.length ->
     X0z j0 Rel0 Rel P ops pre tail w0 D El T l kl (List.range' i l.length) b -> ∀ j o,l[j]? = some o -> lookup kl .plain j ≠ .last -> ∀ v w1,(if i + j = j0 then Rel0 else Rel) w0 w1 ->
     (∀ n ∈ pre (i + j),D n (mask pre n v) w1) -> vc P ops pre (if i + j = j0 then Rel else Rel0) D (fun _ _ _=>False) (fun _ _ _=>False) (lookup kl .plain j) o (i + j) (act (fun _=>true) v (l.take j) i (b v)) v w1
 | [],_,_,_,_,_,_,_,j,_,h,_,_,_,_,_=>by simp at h
 | o :: l,[],_,_,_,_,hk,_,_,_,_,_,_,_,_,_=>by simp at hk
 | o :: l,k :: kl,El,T,i,b,hk,h,j,o',hj,hne,v,w1,hx,hf=>by
   rw [List.length_cons,List.range'_succ] at h;cases j with
   | zero =>
     simp only [List.getElem?_cons_zero,Option.some.injEq] at hj;subst hj;simp only [lookup] at hne ⊢;cases k with
     | last=>exact absurd rfl hne
     | plain=>simp only [X0z] at h; simpa [act] using J4u hne ((h.1 v w1 (by simpa using hx)).out (by simpa using hf) _ rfl)
     | world=>simp only [X0z] at h; simpa [act] using J4u hne ((h.1 v w1 (by simpa using hx)).out (by simpa using hf) _ rfl)
   | succ j =>
     have hrest:∃ El T,X0z j0 Rel0 Rel P ops pre tail w0 D El T l kl (List.range' (i + 1) l.length) (fun v=>(b v).put o.dst (v i)):=by
      cases k with
      | last=>cases El with
        | nil=>simp only [X0z] at h
        | cons E El=>simp only [X0z] at h; exact ⟨_,_,h.2⟩
      | plain=>simp only [X0z] at h; exact ⟨_,_,h.2⟩
      | world=>simp only [X0z] at h; exact ⟨_,_,h.2⟩
     obtain ⟨El',T',h'⟩:=hrest;have:=Y5a l kl El' T' (i + 1) _ (by simpa using hk) h' j o' (by simpa using hj) (by simpa [lookup] using hne) v w1 (by rwa [show i + 1 + j = i + (j + 1) from by omega]) (by rwa [show i + 1 + j = i + (j + 1) from by omega])
     rw [show i + 1 + j = i + (j + 1) from by omega] at this
     simpa [act,lookup] using this
theorem X0t {j0:Nat} {Rel0 Rel:World -> World -> Prop} {P:Program} {ops:Array Oper} {pre:Nat -> List Nat} {tail:List Nat} {w0:World} {D:Nat -> (Nat -> Value) -> World -> Prop} (E:Nat -> (Nat -> Value) -> World -> World -> Prop) :
    ∀ (l:List Oper) (kl:List Kind) (El:List ((Nat -> Value) -> World -> World -> Prop)) (i:Nat) (b:(Nat -> Value) -> Act) (c0:Nat),kl.length = l.length -> tail.drop c0 = lasts kl i -> (∀ n,n < (lasts kl i).length -> El[n]? = some (E (c0 + n))) ->
     X0z j0 Rel0 Rel P ops pre tail w0 D El (Tail pre tail E c0) l kl (List.range' i l.length) b -> ∀ n,n < (lasts kl i).length -> ∀ j o,tail[c0 + n]? = some (i + j) -> l[j]? = some o -> ∀ v w1,Rel w0 w1 ->
     (∀ m ∈ pre (i + j),m ∉ tail -> D m (mask pre m v) w1) -> vc P ops pre Rel D (Tail pre tail E (c0 + n)) (E (c0 + n)) .last o (i + j) (act (fun _=>true) v (l.take j) i (b v)) v w1
 | [],[],_,_,_,_,_,_,_,_,n,h,_,_,_,_,_,_,_,_=>by simp [lasts] at h
 | [],_ :: _,_,_,_,_,hk,_,_,_,_,_,_,_,_,_,_,_,_,_=>by simp at hk
 | o :: l,[],_,_,_,_,hk,_,_,_,_,_,_,_,_,_,_,_,_,_=>by simp at hk
 | o :: l,k :: kl,El,i,b,c0,hk,htl,hE,h,n,hn,j,o',ht,hj,v,w1,hx,hf=>by
   rw [List.length_cons,List.range'_succ] at h;have hlow:∀ (kl:List Kind) (i:Nat),∀ x ∈ lasts kl i,i <= x:=by
    intro kl
    induction kl with
    | nil=>intro i x hx; simp [lasts] at hx
    | cons k kl ih => intro i x hx; cases k <;> simp only [lasts, List.mem_cons] at hx
                      . have:=ih _ _ hx; omega
                      . have:=ih _ _ hx; omega
                      . rcases hx with rfl | hx
                        . exact Nat.le_refl _
                        . have:=ih _ _ hx; omega
   have ht':(lasts (k :: kl) i)[n]? = some (i + j):=by rw [<- htl,List.getElem?_drop]; exact ht
   have hsk:k ≠ .last -> ∃ j',j = j' + 1 /\ (lasts kl (i + 1))[n]? = some (i + 1 + j'):=by
    intro hne;have e:lasts (k :: kl) i = lasts kl (i + 1):=by cases k <;> first | rfl | exact absurd rfl hne
    rw [e] at ht';have:=hlow kl (i + 1) _ (List.mem_of_getElem? ht');exact ⟨j - 1,by omega,by rw [ht']; congr 1; omega⟩
   cases k with
   | plain =>
     obtain ⟨j',rfl,ht2⟩:=hsk (by simp)
     simp only [X0z] at h;have:=X0t E l kl El (i + 1) _ c0 (by simpa using hk) (by simpa [lasts] using htl) (by simpa [lasts] using hE) h.2 n (by simpa [lasts] using hn) j' o' (by rw [ht]; congr 1; omega) (by simpa using hj) v w1 hx (by rwa [show i + 1 + j' = i + (j' + 1) from by omega])
     rw [show i + 1 + j' = i + (j' + 1) from by omega] at this
     simpa [act] using this
   | world =>
     obtain ⟨j',rfl,ht2⟩:=hsk (by simp)
     simp only [X0z] at h;have:=X0t E l kl El (i + 1) _ c0 (by simpa using hk) (by simpa [lasts] using htl) (by simpa [lasts] using hE) h.2 n (by simpa [lasts] using hn) j' o' (by rw [ht]; congr 1; omega) (by simpa using hj) v w1 hx (by rwa [show i + 1 + j' = i + (j' + 1) from by omega])
     rw [show i + 1 + j' = i + (j' + 1) from by omega] at this
     simpa [act] using this
   | last =>
     cases El with
     | nil=>simp only [X0z] at h
     | cons E0 El =>
       have e0:E0 = E c0:=by have:=hE 0 (by simp [lasts]); simpa using this
       subst e0;simp only [X0z] at h;have htc:tail.getD c0 0 = i:=by
        have:(tail.drop c0)[0]? = some i:=by rw [htl]; rfl
        rw [List.getElem?_drop] at this
        simpa using congrArg (fun x=>x.getD 0) this
       cases n with
       | zero =>
         have hj0:j = 0:=by
          have:(lasts (.last :: kl) i)[0]? = some i:=rfl;rw [this] at ht'; simp at ht'; omega
         subst hj0;simp only [List.getElem?_cons_zero,Option.some.injEq] at hj;subst hj;have:=J4e (h:=fun w hT=>(h.1 v w1 hx).out (fun m hm=>by
          simp only [List.mem_filter,Bool.not_eq_true',List.contains_eq_mem,decide_eq_false_iff_not] at hm;exact hf m (by simpa using hm.1) hm.2) w hT _ rfl)
         simpa [act] using this
       | succ n =>
         have hmem:(lasts kl (i + 1))[n]? = some (i + j):=by simpa [lasts] using ht'
         have hge:=hlow kl (i + 1) _ (List.mem_of_getElem? hmem);obtain ⟨j',rfl⟩:∃ j',j = j' + 1:=⟨j - 1,by omega⟩
         have hT:(fun v w1 w=>E c0 (mask pre i v) w1 w) = Tail pre tail E (c0 + 1):=by
          funext v w1 w
          show _ = E c0 (mask pre (tail.getD c0 0) v) w1 w;rw [htc]
         have h2:=h.2;rw [hT] at h2;have:=X0t E l kl El (i + 1) _ (c0 + 1) (by simpa using hk) (by
             have e:tail.drop (c0 + 1) = (tail.drop c0).drop 1:=by rw [List.drop_drop]
             rw [e,htl]; rfl) (fun m hm=>by
             have:=hE (m + 1) (by simpa [lasts] using hm)
             rw [show c0 + 1 + m = c0 + (m + 1) from by omega]
             simpa using this) h2 n (by simpa [lasts] using hn) j' o' (by rw [show c0 + 1 + n = c0 + (n + 1) from by omega,ht]; congr 1; omega) (by simpa using hj) v w1 hx (by rwa [show i + 1 + j' = i + (j' + 1) from by omega])
         rw [show i + 1 + j' = i + (j' + 1) from by omega,show c0 + 1 + n = c0 + (n + 1) from by omega] at this
         simpa [act] using this
section
variable {P:Program} {id:Nat} {Q:Exit -> Act -> World -> Prop} {a0:Act} {w:World} {ops:List Oper}
theorem J0o (Rel:World -> World -> Prop) (j0:Nat) (Rel0:World -> World -> Prop) (h0r:∀ w,Rel0 w w) (h0t:∀ a b c,Rel0 a b -> Rel0 b c -> Rel0 a c) (h01:∀ a b,Rel0 a b -> Rel a b) (hrefl:∀ w,Rel w w) (htrans:∀ a b c,Rel a b -> Rel b c -> Rel a c) (hrsz:∀ a b,Rel a b -> a.heap.size <= b.heap.size) (kl:List Kind) (jl:List Nat) (pl:List (List Nat)) (tail:List Nat) (Dl:List (Z0p Rel)) (El:List ((Nat -> Value) -> World -> World -> Prop))
    (hm:P.follows .mixedOrders = true) (hjl:jl = List.range' 0 ops.length) (hok:okL ops pl kl tail El.length = true)
    (hvc:X0z j0 Rel0 Rel P ops.toArray (lookup pl []) tail w.drew (fun k=>(lookup Dl .none k).D) El (fun _ w1 w=>w = w1) ops kl jl (fun _=>a0))
    (hpost:∀ v w1,Rel w.drew w1 -> All (lookup pl []) (fun k=>(lookup Dl .none k).D) v w1 tail jl (∀ w',endOf (lookup pl []) v w1 w' tail El -> Q .normal (acts v ops jl a0) w')) :
    (Code.region id ops.toArray true).wp P Q a0 w:=by
 subst hjl;simp only [X8o] at hpost;simp only [okL,Bool.and_eq_true,List.all_eq_true,List.mem_range,beq_iff_eq,Bool.or_eq_true,Bool.not_eq_true',List.contains_eq_mem,decide_eq_true_eq,decide_eq_false_iff_not] at hok;obtain ⟨⟨⟨⟨⟨⟨hok,hlen⟩,htail⟩,hn⟩,hchain⟩,hlate⟩,hearly⟩:=hok;have hmem:∀ j,j ∈ tail ↔ j < ops.length /\ isLast (lookup kl .plain j) = true:=by intro j; rw [htail,List.mem_filter,List.mem_range]
 have hk:∀ j,isLast (lookup kl .plain j) = true ↔ lookup kl .plain j = .last:=by intro j; cases lookup kl .plain j <;> simp [isLast]
 have hlk:lasts kl 0 = tail:=by
  rw [X2h,htail,hlen,List.range_eq_range'];rfl
 have hEl:∀ n,n < (lasts kl 0).length -> El[n]? = some ((fun c=>(El[c]?).getD fun _ _ _=>True) (0 + n)):=by
  intro n hn';rw [hlk,<- hn] at hn';simp [hn']
 have hend:∀ v w1 w',Tail (lookup pl []) tail (fun c=>(El[c]?).getD fun _ _ _=>True) tail.length v w1 w' -> endOf (lookup pl []) v w1 w' tail El:=by
  intro v w1 w' h;have gen:∀ (tl:List Nat) (el:List ((Nat -> Value) -> World -> World -> Prop)),el.length = tl.length -> (tl = [] -> w' = w1) -> (∀ (hne:tl ≠ []),((el[tl.length - 1]?).getD fun _ _ _=>True) (mask (lookup pl []) (tl.getD (tl.length - 1) 0) v) w1 w') -> endOf (lookup pl []) v w1 w' tl el:=by
   intro tl
   induction tl with
   | nil=>intro el _ h0 _; cases el <;> exact h0 rfl
   | cons j tl ih =>
     intro el hl _ h1;cases el with
     | nil=>simp at hl
     | cons E el =>
       cases tl with
       | nil=>cases el with
         | nil=>simpa [endOf] using h1 (by simp)
         | cons _ _=>simp at hl
       | cons j' tl=>cases el with
         | nil=>simp at hl
         | cons E' el =>
           show endOf _ v w1 w' (j' :: tl) (E' :: el);exact ih _ (by simpa using hl) (fun h=>by simp at h) (fun _=>by simpa using h1 (by simp))
  refine gen tail El hn.symm.symm (fun h0=>?_) (fun hne=>?_)
  . rw [h0] at h; exact h
  . obtain ⟨m,hm⟩:∃ m,tail.length = m + 1:=⟨tail.length - 1,by have:=List.length_pos_iff.2 hne; omega⟩
    rw [hm] at h;rw [hm,Nat.add_sub_cancel];exact h
 refine Y1n j0 (Rel0:=Rel0) h0r h0t [] tail (lookup kl .plain) (Rel:=Rel) (D:=fun k=>(lookup Dl .none k).D) (E:=fun c=>(El[c]?).getD fun _ _ _=>True) hm (J3v hok)
  (fun i hi=>by simpa using ((hmem _).1 (List.getElem_mem hi)).1) (fun i k hi hk hik=>by have:=hchain k hk i hik; simpa [hi,hk] using this)
  (fun j hjl hjs k hk'=>?_) (fun j hjl=>?_) (fun j hjl hjw s hs=>?_)
  h01 hrefl htrans (fun k _ v w w' hx hd=>(lookup Dl .none k).mono v w w' hx hd) (fun j o ho hjs hj0 v w1 hx hf=>?_) (fun o ho hjs v w1 hx hf=>?_) (fun c hc o ho v w1 hx hf=>?_) (fun _ h=>(nomatch h)) hrsz (fun v w1 w' hx _ hf hE=>?_)
 . rcases hlate j (by simpa using hjl) with h | h
   . exact absurd ((hmem j).2 ⟨by simpa using hjl,h⟩) hjs
   . exact h k hk'
 . rw [hmem,hk]; simp at hjl; simp [hjl]
 . rcases hearly j (by simpa using hjl) with h | h
   . rw [hjw] at h; simp [X1k] at h
   . exact h s hs
 . have hjl:j < ops.length:=by simpa using (Array.getElem?_eq_some_iff.1 ho).1
   have:=Y5a ops kl El _ 0 _ hlen hvc j o (by simpa using ho) (fun h=>hjs ((hmem j).2 ⟨hjl,(hk j).2 h⟩)) v w1 (by rw [Nat.zero_add,if_neg hj0]; exact hx) (by simpa using hf)
   rw [Nat.zero_add,if_neg hj0] at this;have e:=Q3c v ops 0 j a0;rw [Nat.zero_add] at e
   simpa [e] using this
 . have hjl:j0 < ops.length:=by simpa using (Array.getElem?_eq_some_iff.1 ho).1
   have:=Y5a ops kl El _ 0 _ hlen hvc j0 o (by simpa using ho) (fun h=>hjs ((hmem j0).2 ⟨hjl,(hk j0).2 h⟩)) v w1 (by rw [Nat.zero_add,if_pos rfl]; exact hx) (by simpa using hf)
   rw [Nat.zero_add,if_pos rfl] at this;have e:=Q3c v ops 0 j0 a0;rw [Nat.zero_add] at e
   simpa [e] using this
 . have:=X0t (fun c=>(El[c]?).getD fun _ _ _=>True) ops kl El 0 _ 0 hlen (by rw [hlk]; rfl) hEl hvc c (by rw [hlk]; exact hc) tail[c] o (by simp [hc]) (by simpa using ho) v w1 hx (by simpa using hf)
   rw [Nat.zero_add,Nat.zero_add] at this;have e:=Q3c v ops 0 tail[c] a0;rw [Nat.zero_add] at e
   simpa [e] using this
 . exact (hpost v w1 hx).out (fun k hk hks=>hf k (by simpa using hk) hks) w' (hend v w1 w' hE)
end
end Go.Flow
namespace Go.Proofs
open Go.RowKit Go.Tw Go.Flow
attribute [local go_sem] Oper.semAt_some
def X8k (row:Option Nat) (B:Nat) (v:Value) (ks:List PV) (a b:World):Prop:=a.grownBy b row /\ (Q0u a B 151 4 Q2o v ks -> Q0u b B 151 4 Q2o v ks)
theorem X8k.refl (row:Option Nat) (B:Nat) (v:Value) (ks:List PV) (a:World):X8k row B v ks a a:=⟨Q6g a row,id⟩
theorem X8k.trans {row:Option Nat} {B:Nat} {v:Value} {ks:List PV} {a b c:World} (h:X8k row B v ks a b) (k:X8k row B v ks b c):X8k row B v ks a c:=⟨Q8s h.1 k.1,fun x=>k.2 (h.2 x)⟩
theorem X8k.size {row:Option Nat} {B:Nat} {v:Value} {ks:List PV} {a b:World} (h:X8k row B v ks a b):a.heap.size <= b.heap.size:=h.1.size
theorem X8k.ext {row:Option Nat} {B:Nat} {v:Value} {ks:List PV} {a b:World} (h:Ext a b):X8k row B v ks a b:=⟨Q4u (Q6g a row) h,fun x=>x.below h⟩
theorem X8k.blk {row:Option Nat} {B:Nat} {v:Value} {ks:List PV} {a b:World} (h:X8k row B v ks a b) {g:Nat} {T:TypeId} {cs:Array Value} (hb:Blk a g T cs) (hg:some g ≠ row):Blk b g T cs:=(h.1.block g hb.lt hg).trans hb
theorem Tryz.Y9k:(Tryz.prog.info? 151).map (fun i=>(i.zero,i.size,i.bytes)) = some (some (.agg #[.int .i64 0,.int .i64 0,.int .i64 0,.slice none 0 0]),4,48):=by kernel_rfl
theorem Y0q (w:World) (a b c:Int) (A:Option Addr) (n cp:Nat):(Instr.buildSlice 152 1 #[(0,.agg #[.int .i64 a,.int .i64 b,.int .i64 c,.slice A n cp])]).run Tryz.prog w = .ok (.slice (some ⟨w.heap.size,0,none⟩) 1 1) (w.alloc (.cells #[.int .i64 a,.int .i64 b,.int .i64 c,.slice A n cp] 151)):=by kernel_rfl
theorem Q3r {K:Value -> World -> Prop} {o:Oper} {a:Act} {w:World} (T E:TypeId) (x:Operand) (ho:o.op = .buildSlice T 1 #[(0,x)]) {u:Value} (hx:a.eval x = u) (hr:(Instr.buildSlice T 1 #[(0,u)]).run Tryz.prog w = .ok (.slice (some ⟨w.heap.size,0,none⟩) 1 1) (w.alloc (.cells u.cells E)))
    (h:K (.slice (some ⟨w.heap.size,0,none⟩) 1 1) (w.alloc (.cells u.cells E))):gives Tryz.prog K ((execOp a.eval o).run Tryz.prog w):=by
 unfold execOp;simp only [ho,hx,List.map_toArray,List.map_cons,List.map_nil,Sem.run_bind,hr,Result.andThen_ok,Sem.run_pure];exact h
theorem Z2k {P:Program} {K:Value -> World -> Prop} {o:Oper} {a:Act} {w:World} {f:FuncId} {x y:Operand} {ts:Array TypeId} {u v:Value} {R:Ending -> World -> Prop} (ho:o.op = .call { callee:=.value (.func f),args:=#[x,y],argTypes:=ts })
    (he:Enters P f) (hx:a.eval x = u) (hy:a.eval y = v) (h:Calls P f #[u,v] w R) (hk:∀ e w',R e w' -> ∃ z,e = .returned z /\ K z w'):gives P K ((execOp a.eval o).run P w):=by
 unfold execOp;simp only [ho,resolve,invoke,Sem.run_bind,Result.andThen_ok,List.map_toArray,List.map_cons,List.map_nil,hx,hy];go_simp;rw [he];exact Q0f h hk
theorem Z0c (A:Option Addr) (n m c:Nat):(Value.slice A n c).ownBlock = (Value.slice A m c).ownBlock:=by cases A <;> rfl
theorem OwnP.Q9y {w:World} {B:Nat} {v:Value} {ps:List PV} (h:Q0u w B 151 4 Q2o v ps):∀ b,v.ownBlock = some b -> B <= b /\ b < w.heap.size /\ ∃ cs,Blk w b 151 cs:=by
 intro b hb
 rcases OwnP.cases h with ⟨rfl,_⟩ | ⟨g,cap,cur,rfl,hbg,hg,_⟩
 . cases hb
 . cases hb; exact ⟨hbg,hg.lt,_,hg⟩
theorem Q0o.grown {w w':World} {B:Nat} {v:Value} {ps qs:List PV} (h:Q0o w qs) (ho:Q0u w B 151 4 Q2o v ps) (hg:w.grownBy w' v.ownBlock):Q0o w' qs:=by
 rcases OwnP.cases ho with ⟨rfl,_⟩ | ⟨g,cap,cur,rfl,hbg,hb,_⟩
 . exact fun q hq=>Y3b (E:=151) (us:=([]:List Value)) (enc':=idV) (b2:=0) (h q hq) (Q0i.nil w 0 _ _) (by decide) hg
 . exact h.off hb fun k hk hne=>hg.block k hk (by intro e; cases e; exact hne rfl)
def Q4d (ps:List PV) (k:Nat):List Plan:=((ps.take k).map (·.1)).foldl Q1u []
theorem Z0i {ps:List PV} {k:Nat} {q:PV} (hq:ps[k]? = some q):Q4d ps (k + 1) = Q1u (Q4d ps k) q.1:=by
 obtain ⟨hk,rfl⟩:=List.getElem?_eq_some_iff.1 hq;unfold Q4d;rw [List.take_succ_eq_append_getElem hk,List.map_append,List.foldl_append]; rfl
theorem Z3f (ps:List PV):Q4d ps ps.length = X8r (ps.map (·.1)):=by unfold Q4d X8r; rw [List.take_length]
theorem X0d (w:World) (B:Nat) (v:Value) (ps:List PV) (hv:Q0u w B 151 4 Q2o v ps) (hc:Q0o w ps) (hl:ps.length <= 90000) :
    Calls Tryz.prog 182 #[v] w fun e w'=>∃ v' qs,e = .returned v' /\ Q0u w' w.heap.size 151 4 Q2o v' qs /\ Q0o w' qs /\ qs.map (·.1) = X8r (ps.map (·.1)) /\ Ext w w':=by
 obtain ⟨i0,hi,hz0,hz1,hz2⟩:=info_parts Tryz.Y9k;have HC:=Lib.hid hc;obtain ⟨A,cv,hsh,HCELL⟩:∃ A cv,v = .slice A ps.length cv /\ Hid (∀ j (hj:j < ps.length),∃ gb,A = some ⟨gb,0,none⟩ /\ ∀ i,i < 4 -> w.cell? ⟨gb,j * 4 + i,none⟩ = (Q2o ps[j])[i]?):=by
  rcases OwnP.cases hv with ⟨rfl,h0⟩ | ⟨gb,cap,cur,rfl,_,hb,_,_,_,htk⟩
  . exact ⟨none,0,by rw [h0]; rfl,Lib.hid (fun j hj=>by rw [h0] at hj; simp at hj)⟩
  . exact ⟨_,cap,rfl,Lib.hid (fun j hj=>⟨gb,rfl,fun i hi=>X4h hb htk hj hi⟩)⟩
 subst hsh;obtain ⟨L,hL⟩:∃ L,ps.length = L:=⟨_,rfl⟩;have HL:=Lib.hid hL;rw [hL] at hl ⊢;have HTA:=Lib.hid (Z3f ps);clear hv hc hL;go_enter Tryz.func182,Tryz.ntmps182;go_wp2
 go_loopw [3,8] (fun o i wr=>∃ (k:Nat) (qs:List PV),k <= L /\ qs.length <= k /\ i = .int .i64 k /\ Q0u wr w.heap.size 151 4 Q2o o qs /\ Q0o wr qs /\ qs.map (·.1) = Q4d ps k /\ Ext w wr) (fun _ i _=>L - (intOf i).toNat)
 case atStart=>exact ⟨0,[],Nat.zero_le _,Nat.le_refl _,rfl,Q0u.nil _ _ _ _ _,Q0o.nil _,rfl,Ext.refl _⟩
 case round =>
  obtain ⟨k,qs,hk,hqk,rfl,hown,hcr,hun,hx⟩:=hrel;have HUN:=Lib.hid hun;have HX:=Lib.hid hx;have HOW:=Lib.hid hown;have HCR:=Lib.hid hcr
  by_cases hlt:k < L
  . have hkp:k < ps.length:=by rw [HL.out]; exact hlt
    have hkI:(k:Int) < L:=by omega
    obtain ⟨gb,rfl,hcell⟩:=HCELL.out k hkp;have e0:=hx.cell (hcell 0 (by omega))
    have e1:=hx.cell (hcell 1 (by omega))
    have e2:=hx.cell (hcell 2 (by omega))
    have e3:=hx.cell (hcell 3 (by omega))
    obtain ⟨A4,n4,c4,hsl⟩:=HC.out.shape (List.getElem_mem hkp);have hpk:ps[k]? = some ps[k]:=List.getElem?_eq_getElem hkp;have hst:=Z0i hpk;have hcl:=HC.out ps[k] (List.getElem_mem hkp);obtain ⟨qk,hqke⟩:∃ z,ps[k] = z:=⟨_,rfl⟩;rw [hqke] at e0 e1 e2 e3 hsl hst hcl;obtain ⟨x,xv⟩:=qk;replace hsl:xv = .slice A4 n4 c4:=hsl;subst hsl;rw [Nat.add_zero] at e0;replace hst:Q4d ps (k + 1) = Q1u (Q4d ps k) x:=hst;have HCL:=Lib.hid hcl;have HST:=Lib.hid hst;obtain ⟨x1,hx1⟩:∃ z,x.weight = z:=⟨_,rfl⟩;obtain ⟨x2,hx2⟩:∃ z,x.closings = z:=⟨_,rfl⟩;obtain ⟨x3,hx3⟩:∃ z,x.delay = z:=⟨_,rfl⟩;have hbox:=Ext.box wr (.cells #[.int .i64 x1,.int .i64 x2,.int .i64 x3,.slice A4 n4 c4] 151);have K3:=Blk.made wr 151 #[.int .i64 x1,.int .i64 x2,.int .i64 x3,.slice A4 n4 c4];have HTC:Hid (Y1d 211 #[] #[.pointer (some ⟨wr.heap.size,0,none⟩)] (wr.alloc (.cells #[.int .i64 x1,.int .i64 x2,.int .i64 x3,.slice A4 n4 c4] 151)) (fun o=>o.Q4f x)):=Lib.hid (J9u _ x A4 n4 c4 wr.heap.size (by rw [hx1,hx2,hx3]; exact K3))
    have HTB:Hid (∀ W,Y1d 212 #[.agg #[.int .i64 x1,.int .i64 x2,.int .i64 x3,.slice A4 n4 c4]] #[] W (fun o=>x.Q4f o)):=Lib.hid (fun W=>by
     have h:=J9z W x A4 n4 c4;unfold Z7s at h;rw [hx1,hx2,hx3] at h;exact h)
    have HPX:=Lib.hid (show x.weight = x1 /\ x.closings = x2 /\ x.delay = x3 from ⟨hx1,hx2,hx3⟩)
    rw [hx1] at e0;rw [hx2] at e1;rw [hx3] at e2;have HXB:=Lib.hid hbox;have HK3:=Lib.hid K3;have HCF:=Lib.hid (Y2d _ w.heap.size _ qs _ #[] _ _ (hown.below hbox) (hcr.ext hbox) (by omega) (enters_of Tryz.func211 (by kernel_rfl) rfl) HTC.out)
    obtain ⟨Ao,co,hos,-⟩:=hown.shape;subst hos;obtain ⟨q,hq⟩:∃ q,(qs.any fun z=>z.1.Q4f x) = q:=⟨_,rfl⟩
    have HQ:=Lib.hid hq;rw [hq] at HCF;have hqa:(Q4d ps k).any (fun o=>o.Q4f x) = q:=by rw [<- HUN.out,List.any_map]; exact hq
    have HQA:=Lib.hid hqa;clear hcell hqke hst hx1 hx2 hx3 hbox K3 hq hqa hown hcr hun hx hcl hpk hkp
    go_light
    go_wp2_with (go_at_call 210; refine HCF.out.mono ?_; rintro e w5 ⟨rfl,hx5⟩; refine halted ?_);have HX5:=Lib.hid (HXB.out.trans hx5);have HB5:=Lib.hid (HK3.out.ext hx5);clear hx5 e0 e1 e2 e3;unfold Q1x;cases q with
    | true =>
      have HS2:Hid (Q4d ps (k + 1) = Q4d ps k):=Lib.hid (by rw [HST.out]; unfold Q1u; rw [if_pos HQA.out])
      go_wp2;go_roundw
      case rel=>exact ⟨k + 1,qs,by omega,by omega,by go_num,HOW.out.below HX5.out,HCR.out.ext HX5.out,by rw [HS2.out]; exact HUN.out,HX.out.trans HX5.out⟩
      case measure=>simp [intOf]; omega
    | false =>
      have HS2:Hid (Q4d ps (k + 1) = (Q4d ps k).filter (fun o=>!x.Q4f o) ++ [x]):=Lib.hid (by rw [HST.out]; unfold Q1u; rw [if_neg (by rw [HQA.out]; simp)])
      obtain ⟨ks,hks⟩:∃ z,(qs.filter fun z=>!x.Q4f z.1) = z:=⟨_,rfl⟩
      have HKS:=Lib.hid hks;have hkl:ks.length <= qs.length:=by rw [<- hks]; exact List.length_filter_le _ _
      have HKF:Hid (ks.map (·.1) = (Q4d ps k).filter fun o=>!x.Q4f o):=Lib.hid (by rw [<- HUN.out,<- hks,List.filter_map]; rfl)
      have HO5:=Lib.hid (HOW.out.below HX5.out);have HC5:=Lib.hid (HCR.out.ext HX5.out);have HCK:Hid (Q0o w5 ks):=Lib.hid (HC5.out.sub fun z hz=>by rw [<- hks] at hz; exact (List.mem_filter.1 hz).1)
      have HDL:=Lib.hid (fun (W:World) (h1:Q0u W w.heap.size 151 4 Q2o (.slice Ao qs.length co) qs) (h2:Q0o W qs)=>Z0t W w.heap.size _ qs 212 #[.agg #[.int .i64 x1,.int .i64 x2,.int .i64 x3,.slice A4 n4 c4]] #[] _ h1 h2 (by omega) (enters_of Tryz.func212 (by kernel_rfl) rfl) HTB.out)
      have HCX:=Lib.hid (HCL.out.below (HX.out.trans HX5.out));have HNR:Hid (some wr.heap.size ≠ (Value.slice Ao qs.length co).ownBlock):=Lib.hid (fun e=>by
       have:=(OwnP.Q9y HOW.out _ e.symm).2.1;omega)
      have HROW:Hid (∀ W:World,W.heap.size ≥ w5.heap.size -> some W.heap.size ≠ (Value.slice Ao qs.length co).ownBlock):=Lib.hid (fun (W:World) hW e=>by
       have:=(OwnP.Q9y HO5.out _ e.symm).2.1;omega)
      have HENT:=Lib.hid (enters_of (P:=Tryz.prog) Tryz.func213 (by kernel_rfl) rfl)
      have HNWS:Hid (∀ (W:World) gn,Blk W gn 151 #[.int .i64 x1,.int .i64 x2,.int .i64 x3,.slice A4 n4 c4] -> ∀ j u,(Q2o (x,.slice A4 n4 c4))[j]? = some u -> W.cell? ((⟨gn,0,none⟩:Addr).add j) = some u):=Lib.hid (fun W gn hb=>by unfold Q2o; dsimp only; rw [HPX.out.1,HPX.out.2.1,HPX.out.2.2]; exact Q5k hb)
      have HONE:Hid (∀ u ∈ Q2o (x,.slice A4 n4 c4),u.oneCell' = true):=Lib.hid (by unfold Q2o; simp [Value.oneCell'])
      have HLW:Hid (ks.length + 1 <= 100000):=Lib.hid (by omega)
      have HSW:Hid (w.heap.size <= w5.heap.size):=Lib.hid (by have:=HX.out.size; have:=HX5.out.size; omega)
      obtain ⟨g,hg⟩:∃ z,wr.heap.size = z:=⟨_,rfl⟩;rw [hg] at HB5 HNR ⊢;clear hks hg HTC HK3;have hdr:X8k (Value.slice Ao qs.length co).ownBlock w.heap.size (.slice Ao ks.length co) ks w5 w5.drew:=X8k.ext (Ext.refl w5).drew;go_wp2;refine Flow.J0o (X8k (Value.slice Ao qs.length co).ownBlock w.heap.size (.slice Ao ks.length co) ks) 3 Ext Ext.refl (fun _ _ _=>Ext.trans) (fun _ _=>X8k.ext) (X8k.refl _ _ _ _) (fun _ _ _=>X8k.trans) (fun _ _ h=>h.size) [.p,.w,.p,.w,.w,.w,.last,.last] [0,1,2,3,4,5,6,7] [[],[],[1],[0,1,2],[],[4],[0,1,2,3,4,5],[0,1,2,3,4,5,6]] [6,7]
       [.c 0 (.slice Ao qs.length co),.c 1 (.agg #[.int .i64 x1,.int .i64 x2,.int .i64 x3,.slice A4 n4 c4]),.c 2 (.func (.func 212) #[.agg #[.int .i64 x1,.int .i64 x2,.int .i64 x3,.slice A4 n4 c4]] #[]),⟨fun v wz=>(fun v w'=>v 3 = .slice Ao ks.length co /\ Q0u w' w.heap.size 151 4 Q2o (.slice Ao ks.length co) ks) v wz,by rintro v a b hx ⟨h1,h2⟩; exact ⟨h1,hx.2 h2⟩⟩,.c 4 (.agg #[.int .i64 x1,.int .i64 x2,.int .i64 x3,.slice A4 n4 c4]),⟨fun v wz=>(fun v w'=>∃ gn,v 5 = .slice (some ⟨gn,0,none⟩) 1 1 /\ some gn ≠ (Value.slice Ao qs.length co).ownBlock /\ Blk w' gn 151 #[.int .i64 x1,.int .i64 x2,.int .i64 x3,.slice A4 n4 c4]) v wz,by rintro v a b hx ⟨gn,h1,h2,h3⟩; exact ⟨gn,h1,h2,hx.blk h3 h2⟩⟩,.none,.none]
       [fun v w1 w'=>Q0u w' w.heap.size 151 4 Q2o (v 6) (ks ++ [(x,.slice A4 n4 c4)]) /\ w1.grownBy w' (Value.slice Ao ks.length co).ownBlock,fun v w1 w'=>v 7 = v 6 /\ Q0u w' w.heap.size 151 4 Q2o (v 6) (ks ++ [(x,.slice A4 n4 c4)]) /\ w1.grownBy w' (Value.slice Ao ks.length co).ownBlock] (by kernel_rfl) rfl (by kernel_rfl) ⟨?g0,?g1,?g2,?g3,?g4,?g5,?g6,?g7,trivial⟩ ?post
      case g0=>
       intro v w1 hx;replace hx:(X8k (Value.slice Ao qs.length co).ownBlock w.heap.size (.slice Ao ks.length co) ks) _ w1:=hx;intro bb hbb;subst hbb;refine ⟨_,fun w=>?_,rfl⟩;go_simp
      case g1 | g4=>
       intro v w1 hx;replace hx:(X8k (Value.slice Ao qs.length co).ownBlock w.heap.size (.slice Ao ks.length co) ks) _ w1:=hx;intro bb hbb;intro K hK;have o1:bb.eval (.tmp 5) = .pointer (some ⟨g,0,none⟩):=by rw [hbb]; dsimp only; (try simp (discharger:=decide) only [eval_put_ne]); rfl
       exact Q0x (.tmp 5) _ rfl Tryz.J8x Tryz.X9r o1 ((hdr.trans hx).blk HB5.out HNR.out) rfl (hK _ _ (Ext.refl w1) rfl)
      case g2=>
       intro v w1 hx;(repeat intro (zq:v _ = _));replace hx:(X8k (Value.slice Ao qs.length co).ownBlock w.heap.size (.slice Ao ks.length co) ks) _ w1:=hx;intro bb hbb;subst hbb;refine ⟨_,fun w=>?_,rfl⟩;go_simp
      case g3=>
       intro v w1 hx;(repeat intro (zq:v _ = _));replace hx:Ext _ w1:=hx;intro bb hbb;intro K hK;have o1:bb.eval (.tmp 15) = .slice Ao qs.length co:=by rw [hbb]; dsimp only; (try simp (discharger:=decide) only [eval_put_ne]); rw [Q0a (by exact (by decide:15 < 24))]; assumption
       have o2:bb.eval (.tmp 17) = .func (.func 212) #[.agg #[.int .i64 x1,.int .i64 x2,.int .i64 x3,.slice A4 n4 c4]] #[]:=by rw [hbb]; dsimp only; (try simp (discharger:=decide) only [eval_put_ne]); rw [Q0a (by exact (by decide:17 < 24))]; assumption
       have hxx:=(Ext.refl w5).drew.trans hx;refine Z2k rfl HENT.out o1 o2 (HDL.out w1 (HO5.out.below hxx) (HC5.out.ext hxx)) ?_;rintro e w2 ⟨v',rfl,h1,h2,h3,h4⟩;rw [HKS.out] at h1 h4;obtain rfl:v' = .slice Ao ks.length co:=h4 Ao qs.length co rfl;exact ⟨_,rfl,hK _ _ (show X8k _ _ _ _ _ _ from ⟨h3,fun _=>h1⟩) ⟨rfl,h1⟩⟩
      case g5=>
       intro v w1 hx;(repeat intro (zq:v _ = _));replace hx:(X8k (Value.slice Ao qs.length co).ownBlock w.heap.size (.slice Ao ks.length co) ks) _ w1:=hx;intro bb hbb;intro K hK;have o1:bb.eval (.tmp 19) = .agg #[.int .i64 x1,.int .i64 x2,.int .i64 x3,.slice A4 n4 c4]:=by rw [hbb]; dsimp only; (try simp (discharger:=decide) only [eval_put_ne]); rw [Q0a (by exact (by decide:19 < 24))]; assumption
       exact Q3r 152 151 (.tmp 19) rfl o1 (Y0q w1 _ _ _ _ _ _) (hK _ _ (Ext.box _ _) ⟨_,rfl,HROW.out w1 (hdr.trans hx).size,Blk.made _ _ _⟩)
      case g6=>
       intro v w1 hx (q0:v 0 = _) (q1:v 1 = _) (q2:v 2 = _) (q3:(fun v w'=>v 3 = .slice Ao ks.length co /\ Q0u w' w.heap.size 151 4 Q2o (.slice Ao ks.length co) ks) v w1) (q4:v 4 = _) (q5:(fun v w'=>∃ gn,v 5 = .slice (some ⟨gn,0,none⟩) 1 1 /\ some gn ≠ (Value.slice Ao qs.length co).ownBlock /\ Blk w' gn 151 #[.int .i64 x1,.int .i64 x2,.int .i64 x3,.slice A4 n4 c4]) v w1);intro wl hT;obtain rfl:wl = w1:=hT;intro bb hbb;intro K hK;obtain ⟨e3,HO⟩:=q3;obtain ⟨gn,e5,hgn,hb5⟩:=q5;have o1:bb.eval (.tmp 18) = .slice Ao ks.length co:=by rw [hbb]; dsimp only; (try simp (discharger:=decide) only [eval_put_ne]); rw [Q0a (by simp only [size_put]; exact (by decide:18 < 24))]; exact e3
       have o2:bb.eval (.tmp 20) = .slice (some ⟨gn,0,none⟩) 1 1:=by rw [hbb]; dsimp only; (try simp (discharger:=decide) only [eval_put_ne]); rw [Q0a (by simp only [size_put]; exact (by decide:20 < 24))]; exact e5
       exact Q2t _ _ 152 rfl w.heap.size 151 i0 (.agg #[.int .i64 0,.int .i64 0,.int .i64 0,.slice none 0 0]) 4 48 Tryz.underlying152 hi hz0 hz1 hz2 rfl (by decide) Q2o Q3s _ ks (x,.slice A4 n4 c4) o1 HO ⟨gn,0,none⟩ 1 o2 (HNWS.out wl gn hb5) HONE.out HLW.out (by decide) (by have:=(hdr.trans hx).size; have:=HSW.out; omega) (fun v' w' h1 h2=>hK _ _ ⟨h1,h2⟩)
      case g7=>
       intro v w1 hx (q0:v 0 = _) (q1:v 1 = _) (q2:v 2 = _) _ (q4:v 4 = _) _;intro wl hT;replace hT:(fun v w1 w'=>Q0u w' w.heap.size 151 4 Q2o (v 6) (ks ++ [(x,.slice A4 n4 c4)]) /\ w1.grownBy w' (Value.slice Ao ks.length co).ownBlock) v w1 wl:=hT;intro bb hbb;subst hbb;intro K hK;go_simp;exact hK _ _ ⟨rfl,hT⟩
      case post =>
       intro v w1 hx;(iterate 3 intro (zq:v _ = _));intro (q3:(fun v w'=>v 3 = .slice Ao ks.length co /\ Q0u w' w.heap.size 151 4 Q2o (.slice Ao ks.length co) ks) v w1);(iterate 1 intro (zq:v _ = _));intro (q5:(fun v w'=>∃ gn,v 5 = .slice (some ⟨gn,0,none⟩) 1 1 /\ some gn ≠ (Value.slice Ao qs.length co).ownBlock /\ Blk w' gn 151 #[.int .i64 x1,.int .i64 x2,.int .i64 x3,.slice A4 n4 c4]) v w1);intro w2 hE;replace hE:(fun v w1 w'=>v 7 = v 6 /\ Q0u w' w.heap.size 151 4 Q2o (v 6) (ks ++ [(x,.slice A4 n4 c4)]) /\ w1.grownBy w' (Value.slice Ao ks.length co).ownBlock) v w1 w2:=hE;simp only [Flow.acts,Act.put];go_simp;obtain ⟨-,hO2,hg2⟩:=hE;have hg5:w5.grownBy w2 (Value.slice Ao qs.length co).ownBlock:=Q8s (hdr.trans hx).1 (by rw [Z0c Ao qs.length ks.length co]; exact hg2)
       have HO2:=Lib.hid hO2;have HX2:Hid (Ext w w2):=Lib.hid (Below.grown (HX.out.trans HX5.out) hg5 HSW.out (fun b hb=>(OwnP.Q9y HO5.out b hb).1));have HC2:Hid (Q0o w2 (ks ++ [((x,Value.slice A4 n4 c4):PV)])):=Lib.hid (Q0o.grown (fun z hz=>by
        rcases List.mem_append.1 hz with hz | hz
        . exact HCK.out z hz
        . obtain rfl:=List.mem_singleton.1 hz
          exact HCX.out) HO5.out hg5)
       have HM2:Hid ((ks ++ [((x,Value.slice A4 n4 c4):PV)]).map (·.1) = Q4d ps (k + 1)):=Lib.hid (by rw [HS2.out,<- HKF.out,List.map_append]; rfl)
       have hkk:(ks ++ [((x,Value.slice A4 n4 c4):PV)]).length <= k + 1:=by rw [List.length_append]; simp only [List.length_singleton]; omega
       obtain ⟨vr,hvr⟩:∃ z,v 6 = z:=⟨_,rfl⟩;rw [hvr] at HO2 ⊢;clear hx hdr q3 q5 hO2 hg2 hg5 hvr;(repeat clear zq);go_wp2;go_roundw
       case rel=>exact ⟨k + 1,ks ++ [((x,Value.slice A4 n4 c4):PV)],by omega,hkk,by go_num,HO2.out,HC2.out,HM2.out,HX2.out⟩
       case measure=>simp [intOf]; omega
  . have hke:k = L:=by omega
    subst hke;go_wp2;go_ret;exact ⟨_,qs,rfl,HOW.out,HCR.out,by rw [HUN.out,<- HTA.out,HL.out],HX.out⟩
end Go.Proofs
namespace Go.Tw
open Go.RowKit Go.Flow
def emp:ByteArray:=⟨#[]⟩
theorem Q7k {α:Type} {P:Program} {K:Value -> World -> Prop} {o:Oper} {a:Act} {w:World} (s x:Operand) (t:TypeId) (ho:o.op = .call { callee:=.builtin .append,args:=#[s,x],argTypes:=#[t,t] })
    (base:Nat) (e:TypeId) (i:TypeInfo) (z:Value) (k bytes:Nat) (ht:P.underlying t = some (.slice e)) (hi:P.info? e = some i) (hz:i.zero = some z) (hsize:i.size = k) (hby:i.bytes = bytes) (hzs:z.cells.size = k) (hk0:0 < k)
    (enc:α -> List Value) (hk:∀ x,(enc x).length = k) (v:Value) (xs ys:List α) (hs:a.eval s = v) (hown:Q0u w base e k enc v xs) (A:Option Addr) (c:Nat) (hx:a.eval x = .slice A ys.length c)
    (hA:0 < ys.length -> ∃ ad,A = some ad /\ ∀ j u,(ys.flatMap enc)[j]? = some u -> w.cell? (ad.add j) = some u) (h1:∀ u ∈ ys.flatMap enc,u.oneCell' = true)
    (h63:xs.length + ys.length <= 100000) (hb:bytes <= 1000) (hbase:base <= w.heap.size)
    (h:∀ v' w',Q0u w' base e k enc v' (xs ++ ys) -> w.grownBy w' v.ownBlock -> K v' w'):gives P K ((execOp a.eval o).run P w):=by
 rcases Nat.eq_zero_or_pos ys.length with h0 | h0
 . have e0:ys = []:=List.eq_nil_of_length_eq_zero h0
   subst e0;obtain ⟨b,c',rfl,hcap⟩:=hown.shape;unfold execOp;simp only [ho,resolve,invoke,builtin,Sem.run_bind,Sem.run_pure,Result.andThen_ok,List.map_toArray,List.map_cons,List.map_nil,hs,hx];rw [List.length_nil,Q6o (P:=P) w t o.type e i ht hi b A xs.length c' c hcap];exact h _ _ (by simpa using hown) ⟨rfl,rfl,rfl,Nat.le_refl _,fun _ _ _=>rfl⟩
 . obtain ⟨ad,rfl,hnews⟩:=hA h0
   have hbytes:(xs.length + ys.length) * bytes <= 140737488355328:=by
    have:(xs.length + ys.length) * bytes <= 100000 * 1000:=Nat.mul_le_mul h63 hb;omega
   obtain ⟨v',w',hr,h2,h3,h4⟩:=run_append_own (P:=P) w base t o.type e i z k bytes ht hi hz hsize hby hzs hk0 v xs.length (xs.flatMap enc) hown ad ys.length c (ys.flatMap enc) (X2u hk ys) hnews h1 (by unfold maxLen; omega) hbytes hbase
   unfold execOp;simp only [ho,resolve,invoke,builtin,Sem.run_bind,Sem.run_pure,Result.andThen_ok,List.map_toArray,List.map_cons,List.map_nil,hs,hx,hr];refine h v' w' ?_ h3;unfold Q0u;rw [List.length_append,List.flatMap_append];exact h2
end Go.Tw
namespace Go.Proofs
open Go.RowKit Go.Tw Go.Flow
attribute [local go_sem] Oper.semAt_some
theorem X4a (z:Array Value) (n:Nat):(Builtin.zeroCells z n).size = n * z.size:=by simp [Builtin.zeroCells]
theorem Y3d (w:World) (e:TypeId) (z:Array Value) (k n:Nat) (hz:z.size = k) (hn:n <= 100000) :
    (w.drew.alloc (.cells (Builtin.zeroCells z n ++ Builtin.zeroCells z (grownCap w n 0 e - n)) e)).ownsRow w.heap.size e k (.slice (some ⟨w.heap.size,0,none⟩) 0 (grownCap w n 0 e)) 0 []:=by
 have h1:=grownCap_ge w n 0 e;have h2:=grownCap_le_maxLen w n 0 e (by unfold maxLen; omega)
 refine ⟨by simp,.inr ⟨w.heap.size,grownCap w n 0 e,_,rfl,Nat.le_refl _,heap_alloc_new w.drew _,Nat.zero_le _,h2,?_,by simp⟩⟩
 rw [Array.size_append,X4a,X4a,hz,<- Nat.add_mul]
 congr 1
 omega
theorem Tryz.J0s:(Tryz.prog.info? 9).map (fun i=>(i.zero,i.size,i.bytes)) = some (some (.string emp),1,16):=by kernel_rfl
theorem Z8f (w:World) (n:Nat) (hn:n <= 100000) :
    Calls Tryz.prog 209 #[.slice none 0 0,.int .i64 n] w fun e w'=>∃ b c,e = .returned (.slice b 0 c) /\ w'.ownsRow w.heap.size 9 1 (.slice b 0 c) 0 [] /\ Ext w w':=by
 rcases Nat.eq_zero_or_pos n with h0 | h0
 . subst h0
   have HO:Hid (w.ownsRow w.heap.size 9 1 (.slice none 0 0) 0 []):=Lib.hid (World.ownsRow_nil w w.heap.size 9 1);go_enter Tryz.func209,Tryz.ntmps209;go_wp2;go_ret;exact ⟨_,_,rfl,HO.out,Ext.refl _⟩
 obtain ⟨i0,hi,hz0,hz1,hz2⟩:=info_parts Tryz.J0s;have hrun:=Lib.run_append_nil_zeros (P:=Tryz.prog) w 149 3 149 9 i0 (.string emp) .i64 .i64 Tryz.underlying149 Tryz.underlying3 hi hz0 n h0 (by rw [hz1]; decide) (by omega) (by rw [hz2]; omega)
 have HR:=Lib.hid hrun;have HO:=Lib.hid (Y3d w 9 (.string emp:Value).cells 1 n rfl hn);have HX:Hid (Ext w (w.drew.alloc (.cells (Builtin.zeroCells (.string emp:Value).cells n ++ Builtin.zeroCells (.string emp:Value).cells (grownCap w n 0 9 - n)) 9))):=Lib.hid ((Ext.refl w).drew.alloc _);obtain ⟨gc,hgc⟩:∃ c,grownCap w n 0 9 = c:=⟨_,rfl⟩;rw [hgc] at HR HO HX;obtain ⟨wz,hwz⟩:∃ x,w.drew.alloc (.cells (Builtin.zeroCells (.string emp:Value).cells n ++ Builtin.zeroCells (.string emp:Value).cells (gc - n)) 9) = x:=⟨_,rfl⟩;rw [hwz] at HR HO HX;clear hrun hgc hwz hi hz0 hz1 hz2;have hnI:(0:Int) < n:=by omega
 have g1:¬ (n:Int) < 0:=by omega
 go_enter Tryz.func209,Tryz.ntmps209;go_wp2_with (at_builtin; refine Lib.wpList_append_run _ rfl _ _ _ _ rfl _ _ rfl rfl _ _ HR.out ?_);go_ret;exact ⟨_,_,rfl,HO.out,HX.out⟩
theorem J1x (w:World) (n:Nat) (hn:n <= 100000) :
    Calls Tryz.prog 216 #[.slice none 0 0,.int .i64 n] w fun e w'=>∃ b c,e = .returned (.slice b 0 c) /\ w'.ownsRow w.heap.size 151 4 (.slice b 0 c) 0 [] /\ Ext w w':=by
 rcases Nat.eq_zero_or_pos n with h0 | h0
 . subst h0
   have HO:Hid (w.ownsRow w.heap.size 151 4 (.slice none 0 0) 0 []):=Lib.hid (World.ownsRow_nil w w.heap.size 151 4);go_enter Tryz.func216,Tryz.ntmps216;go_wp2;go_ret;exact ⟨_,_,rfl,HO.out,Ext.refl _⟩
 obtain ⟨i0,hi,hz0,hz1,hz2⟩:=info_parts Tryz.Y9k;have hrun:=Lib.run_append_nil_zeros (P:=Tryz.prog) w 152 3 152 151 i0 (.agg #[.int .i64 0,.int .i64 0,.int .i64 0,.slice none 0 0]) .i64 .i64 Tryz.underlying152 Tryz.underlying3 hi hz0 n h0 (by rw [hz1]; decide) (by omega) (by rw [hz2]; omega)
 have HR:=Lib.hid hrun;have HO:=Lib.hid (Y3d w 151 (.agg #[.int .i64 0,.int .i64 0,.int .i64 0,.slice none 0 0]:Value).cells 4 n rfl hn);have HX:Hid (Ext w (w.drew.alloc (.cells (Builtin.zeroCells (.agg #[.int .i64 0,.int .i64 0,.int .i64 0,.slice none 0 0]:Value).cells n ++ Builtin.zeroCells (.agg #[.int .i64 0,.int .i64 0,.int .i64 0,.slice none 0 0]:Value).cells (grownCap w n 0 151 - n)) 151))):=Lib.hid ((Ext.refl w).drew.alloc _);obtain ⟨gc,hgc⟩:∃ c,grownCap w n 0 151 = c:=⟨_,rfl⟩;rw [hgc] at HR HO HX;obtain ⟨wz,hwz⟩:∃ x,w.drew.alloc (.cells (Builtin.zeroCells (.agg #[.int .i64 0,.int .i64 0,.int .i64 0,.slice none 0 0]:Value).cells n ++ Builtin.zeroCells (.agg #[.int .i64 0,.int .i64 0,.int .i64 0,.slice none 0 0]:Value).cells (gc - n)) 151) = x:=⟨_,rfl⟩;rw [hwz] at HR HO HX;clear hrun hgc hwz hi hz0 hz1 hz2;have hnI:(0:Int) < n:=by omega
 have g1:¬ (n:Int) < 0:=by omega
 go_enter Tryz.func216,Tryz.ntmps216;go_wp2_with (at_builtin; refine Lib.wpList_append_run _ rfl _ _ _ _ rfl _ _ rfl rfl _ _ HR.out ?_);go_ret;exact ⟨_,_,rfl,HO.out,HX.out⟩
def X7a {α:Type} (l1 l2:List α) (k:Nat):List α:=if k = 0 then [] else if k = 1 then l1 else l1 ++ l2
theorem Q3z {α:Type} (l1 l2:List α):X7a l1 l2 1 = l1:=rfl
theorem Q5v {α:Type} (l1 l2:List α):X7a l1 l2 2 = l1 ++ l2:=rfl
theorem Z4j {α:Type} {w:World} {B:Nat} {e:TypeId} {enc:α -> Value} {v:Value} {l:List α} (h:Q0i w B e enc v l):Src w enc v l:=by
 obtain ⟨A,c,rfl,_,hc⟩:=h.cells;refine ⟨A,c,rfl,fun j hj=>?_⟩;obtain ⟨g,hA,_,_,hcell⟩:=hc j hj;exact ⟨g,0,hA,hcell⟩
theorem Y6p {w:World} {B n c:Nat} {A:Option Addr} {ps:List PV} (h:Q0u w B 151 4 Q2o (.slice A n c) ps):0 < ps.length -> ∃ ad,A = some ad /\ ∀ j u,(ps.flatMap Q2o)[j]? = some u -> w.cell? (ad.add j) = some u:=by
 intro h0
 rcases OwnP.cases h with ⟨_,h1⟩ | ⟨g,cap,cur,he,_,hb,_,_,_,ht⟩
 . rw [h1] at h0; simp at h0
 . cases he
   refine ⟨_,rfl,fun j u hu=>?_⟩;rw [<- ht,List.getElem?_take] at hu
   split at hu
   . rw [addr_add,Nat.zero_add,hb.cell]
     simpa using hu
   . cases hu
theorem Z0k {w:World} {ps:List PV} (h:Q0o w ps):∀ u ∈ ps.flatMap Q2o,u.oneCell' = true:=by
 intro u hu;obtain ⟨q,hq,hu⟩:=List.mem_flatMap.1 hu;exact Z3u h hq u hu
theorem Y0d (w:World) (g:Nat) (TS:TypeId) (a b:Value) (B1 B2:Nat) (l1 l2:List ByteArray) (hB:Blk w g TS #[a,b]) (ha:Q0i w B1 9 .string a l1) (hb:Q0i w B2 9 .string b l2) (hl:l1.length + l2.length <= 90000) :
    Calls Tryz.prog 181 #[.slice (some ⟨g,0,none⟩) 2 2] w fun e w'=>∃ x,e = .returned x /\ Q0i w' w.heap.size 9 .string x (l1 ++ l2) /\ Ext w w':=by
 have c0:=hB.cell 0;have c1:=hB.cell 1;simp only [Go.Tw.gA,Go.Tw.gB,Go.Tw.gC] at c0 c1;have HA:=Lib.hid ha;have HB:=Lib.hid hb;obtain ⟨A,ca,hA,-⟩:=ha.shape;obtain ⟨B,cb,hB',-⟩:=hb.shape;subst hA;subst hB';have hl1:l1.length <= 1000000:=by omega
 have hl2:l2.length <= 1000000:=by omega
 have HBB:=Lib.hid hB;clear ha hb hB;go_enter Tryz.func181,Tryz.ntmps181;go_wp2
 go_loopw [3,11] (fun n i wr=>∃ (k:Nat),k <= 2 /\ i = .int .i64 k /\ n = .int .i64 (((X7a l1 l2 k).length:Nat):Int) /\ wr = w) (fun _ i _=>2 - (intOf i).toNat)
 case atStart=>exact ⟨0,Nat.zero_le _,rfl,rfl,rfl⟩
 case round =>
  obtain ⟨k,hk,rfl,rfl,rfl⟩:=hrel;obtain rfl | rfl | rfl:k = 0 ∨ k = 1 ∨ k = 2:=by omega
  . have e0:(((X7a l1 l2 0).length:Nat):Int) = 0:=rfl
    rw [e0];go_wp2;go_roundw
    case rel=>exact ⟨1,by omega,rfl,by rw [Q3z]; try simp,trivial⟩
    case measure=>simp [intOf]
  . rw [Q3z]
    go_wp2;go_roundw
    case rel=>exact ⟨2,by omega,rfl,by rw [Q5v,List.length_append]; try go_num,trivial⟩
    case measure=>simp [intOf]
  . rw [Q5v,List.length_append]
    obtain ⟨W0,rfl⟩:∃ X,X = wr:=⟨_,rfl⟩;have e2:(((l1.length + l2.length:Nat)):Int) = (l1.length:Int) + l2.length:=by omega
    go_wp2_with fail;refine (Z8f _ (l1.length + l2.length) (by omega)).mono ?_
    rintro e w1 ⟨bg,cg,rfl,hg,hx1⟩;have HG:Hid (Q0i w1 W0.heap.size 9 .string (.slice bg 0 cg) ([]:List ByteArray)):=Lib.hid hg;have HX1:=Lib.hid hx1;replace c0:=hx1.cell c0;replace c1:=hx1.cell c1;obtain ⟨i0,hi,hz0,hz1,hz2⟩:=info_parts Tryz.J0s;clear hg hx1 e2;go_wp2
    go_loopw [6,27] (fun o i wq=>∃ (k:Nat),k <= 2 /\ i = .int .i64 k /\ Q0i wq W0.heap.size 9 .string o (X7a l1 l2 k) /\ Ext W0 wq) (fun _ i _=>2 - (intOf i).toNat)
    case atStart=>exact ⟨0,Nat.zero_le _,rfl,HG.out,HX1.out⟩
    case round =>
     clear HG HX1 c0 c1;obtain ⟨k,hk,rfl,hown,hx⟩:=hrel;have HX:=Lib.hid hx;have HOW:=Lib.hid hown;have c0:=(HBB.out.ext hx).cell 0;have c1:=(HBB.out.ext hx).cell 1;simp only [Go.Tw.gA,Go.Tw.gB,Go.Tw.gC] at c0 c1;clear hown hx;obtain rfl | rfl | rfl:k = 0 ∨ k = 1 ∨ k = 2:=by omega
     . go_wp2_with (refine Q1g (o:=⟨some 33,_,_,_,_,_⟩) rfl ?_; refine Q6a (.tmp 31) (.tmp 32) 149 rfl W0.heap.size 9 i0 (.string emp) 16 Tryz.underlying149 hi hz0 hz1 hz2 rfl .string _ _ (X7a l1 l2 0) l1 rfl HOW.out rfl (Z4j (HA.out.below HX.out)) (fun _ _=>rfl) (by first | (rw [Q3z]; omega) | (show 0 + _ <= _; omega)) (by decide) HX.out.size ?_; intro v' w9 hown' hgrow)
       have hx':Ext W0 w9:=Below.grown HX.out hgrow (by have:=HX.out.size; omega) (fun j hj=>(HOW.out.lt j hj).1)
       have HX':=Lib.hid hx';have HOW':=Lib.hid hown';clear hx' hown' hgrow;go_wp2;go_roundw
       case rel=>exact ⟨1,by omega,rfl,by rw [Q3z]; exact HOW'.out,HX'.out⟩
       case measure=>simp [intOf]
     . go_wp2_with (refine Q1g (o:=⟨some 33,_,_,_,_,_⟩) rfl ?_; refine Q6a (.tmp 31) (.tmp 32) 149 rfl W0.heap.size 9 i0 (.string emp) 16 Tryz.underlying149 hi hz0 hz1 hz2 rfl .string _ _ (X7a l1 l2 1) l2 rfl HOW.out rfl (Z4j (HB.out.below HX.out)) (fun _ _=>rfl) (by first | (rw [Q3z]; omega) | (show 0 + _ <= _; omega)) (by decide) HX.out.size ?_; intro v' w9 hown' hgrow)
       have hx':Ext W0 w9:=Below.grown HX.out hgrow (by have:=HX.out.size; omega) (fun j hj=>(HOW.out.lt j hj).1)
       have HX':=Lib.hid hx';have HOW':=Lib.hid hown';clear hx' hown' hgrow;go_wp2;go_roundw
       case rel=>exact ⟨2,by omega,rfl,by rw [Q5v]; exact HOW'.out,HX'.out⟩
       case measure=>simp [intOf]
     . go_wp2
       go_ret;exact ⟨_,rfl,by rw [<- Q5v]; exact HOW.out,HX.out⟩
theorem Z1l (w:World) (g:Nat) (TS:TypeId) (a b:Value) (B1 B2:Nat) (l1 l2:List PV) (hB:Blk w g TS #[a,b]) (ha:Q0u w B1 151 4 Q2o a l1) (hb:Q0u w B2 151 4 Q2o b l2) (h1:∀ u ∈ l1.flatMap Q2o,u.oneCell' = true) (h2:∀ u ∈ l2.flatMap Q2o,u.oneCell' = true) (hl:l1.length + l2.length <= 90000) :
    Calls Tryz.prog 184 #[.slice (some ⟨g,0,none⟩) 2 2] w fun e w'=>∃ x,e = .returned x /\ Q0u w' w.heap.size 151 4 Q2o x (l1 ++ l2) /\ Ext w w':=by
 have c0:=hB.cell 0;have c1:=hB.cell 1;simp only [Go.Tw.gA,Go.Tw.gB,Go.Tw.gC] at c0 c1;have HA:=Lib.hid ha;have HB:=Lib.hid hb;obtain ⟨A,ca,hA,-⟩:=ha.shape;obtain ⟨B,cb,hB',-⟩:=hb.shape;subst hA;subst hB';have hl1:l1.length <= 1000000:=by omega
 have hl2:l2.length <= 1000000:=by omega
 have HBB:=Lib.hid hB;have HC1:=Lib.hid h1;have HC2:=Lib.hid h2;clear h1 h2;clear ha hb hB;go_enter Tryz.func184,Tryz.ntmps184;go_wp2
 go_loopw [3,11] (fun n i wr=>∃ (k:Nat),k <= 2 /\ i = .int .i64 k /\ n = .int .i64 (((X7a l1 l2 k).length:Nat):Int) /\ wr = w) (fun _ i _=>2 - (intOf i).toNat)
 case atStart=>exact ⟨0,Nat.zero_le _,rfl,rfl,rfl⟩
 case round =>
  obtain ⟨k,hk,rfl,rfl,rfl⟩:=hrel;obtain rfl | rfl | rfl:k = 0 ∨ k = 1 ∨ k = 2:=by omega
  . have e0:(((X7a l1 l2 0).length:Nat):Int) = 0:=rfl
    rw [e0];go_wp2;go_roundw
    case rel=>exact ⟨1,by omega,rfl,by rw [Q3z]; try simp,trivial⟩
    case measure=>simp [intOf]
  . rw [Q3z]
    go_wp2;go_roundw
    case rel=>exact ⟨2,by omega,rfl,by rw [Q5v,List.length_append]; try go_num,trivial⟩
    case measure=>simp [intOf]
  . rw [Q5v,List.length_append]
    obtain ⟨W0,rfl⟩:∃ X,X = wr:=⟨_,rfl⟩;have e2:(((l1.length + l2.length:Nat)):Int) = (l1.length:Int) + l2.length:=by omega
    go_wp2_with fail;refine (J1x _ (l1.length + l2.length) (by omega)).mono ?_
    rintro e w1 ⟨bg,cg,rfl,hg,hx1⟩;have HG:Hid (Q0u w1 W0.heap.size 151 4 Q2o (.slice bg 0 cg) ([]:List PV)):=Lib.hid hg;have HX1:=Lib.hid hx1;replace c0:=hx1.cell c0;replace c1:=hx1.cell c1;obtain ⟨i0,hi,hz0,hz1,hz2⟩:=info_parts Tryz.Y9k;clear hg hx1 e2;go_wp2
    go_loopw [6,27] (fun o i wq=>∃ (k:Nat),k <= 2 /\ i = .int .i64 k /\ Q0u wq W0.heap.size 151 4 Q2o o (X7a l1 l2 k) /\ Ext W0 wq) (fun _ i _=>2 - (intOf i).toNat)
    case atStart=>exact ⟨0,Nat.zero_le _,rfl,HG.out,HX1.out⟩
    case round =>
     clear HG HX1 c0 c1;obtain ⟨k,hk,rfl,hown,hx⟩:=hrel;have HX:=Lib.hid hx;have HOW:=Lib.hid hown;have c0:=(HBB.out.ext hx).cell 0;have c1:=(HBB.out.ext hx).cell 1;simp only [Go.Tw.gA,Go.Tw.gB,Go.Tw.gC] at c0 c1;clear hown hx;obtain rfl | rfl | rfl:k = 0 ∨ k = 1 ∨ k = 2:=by omega
     . go_wp2_with (refine Q1g (o:=⟨some 33,_,_,_,_,_⟩) rfl ?_; refine Q7k (.tmp 31) (.tmp 32) 152 rfl W0.heap.size 151 i0 (.agg #[.int .i64 0,.int .i64 0,.int .i64 0,.slice none 0 0]) 4 48 Tryz.underlying152 hi hz0 hz1 hz2 rfl (by decide) Q2o Q3s _ (X7a l1 l2 0) l1 rfl HOW.out A ca rfl (Y6p (HA.out.below HX.out)) HC1.out (by first | (rw [Q3z]; omega) | (show 0 + _ <= _; omega)) (by decide) HX.out.size ?_; intro v' w9 hown' hgrow)
       have hx':Ext W0 w9:=Below.grown HX.out hgrow (by have:=HX.out.size; omega) (fun j hj=>(HOW.out.lt j hj).1)
       have HX':=Lib.hid hx';have HOW':=Lib.hid hown';clear hx' hown' hgrow;go_wp2;go_roundw
       case rel=>exact ⟨1,by omega,rfl,by rw [Q3z]; exact HOW'.out,HX'.out⟩
       case measure=>simp [intOf]
     . go_wp2_with (refine Q1g (o:=⟨some 33,_,_,_,_,_⟩) rfl ?_; refine Q7k (.tmp 31) (.tmp 32) 152 rfl W0.heap.size 151 i0 (.agg #[.int .i64 0,.int .i64 0,.int .i64 0,.slice none 0 0]) 4 48 Tryz.underlying152 hi hz0 hz1 hz2 rfl (by decide) Q2o Q3s _ (X7a l1 l2 1) l2 rfl HOW.out B cb rfl (Y6p (HB.out.below HX.out)) HC2.out (by first | (rw [Q3z]; omega) | (show 0 + _ <= _; omega)) (by decide) HX.out.size ?_; intro v' w9 hown' hgrow)
       have hx':Ext W0 w9:=Below.grown HX.out hgrow (by have:=HX.out.size; omega) (fun j hj=>(HOW.out.lt j hj).1)
       have HX':=Lib.hid hx';have HOW':=Lib.hid hown';clear hx' hown' hgrow;go_wp2;go_roundw
       case rel=>exact ⟨2,by omega,rfl,by rw [Q5v]; exact HOW'.out,HX'.out⟩
       case measure=>simp [intOf]
     . go_wp2
       go_ret;exact ⟨_,rfl,by rw [<- Q5v]; exact HOW.out,HX.out⟩
end Go.Proofs
namespace Go.Proofs
open Go.RowKit Go.Tw Go.Flow
attribute [local go_sem] Oper.semAt_some
def Z1t (s:Q0b) (n:Int):Bool:=decide (n < 0) || decide ((s.members.length:Int) <= n)
theorem Y0h (w:World) (v:Value) (s:Q0b) (n:Int) (hv:Q0p w v s) :
    Calls Tryz.prog 47 #[v,.int .i64 n] w fun e w'=>e = .returned (.int .i64 (Q1f (Z1t s n) 10)) /\ Ext w w':=by
 obtain ⟨a,b,rfl,h2⟩:=hv;obtain ⟨A,capa,rfl,-,-,-⟩:=h2.ships.opened;obtain ⟨B,capb,rfl,-,-,-⟩:=h2.members.opened;have k0:=Blk.made w 74 #[.int .i64 s.limit,.slice A s.ships.length capa,.slice B s.members.length capb];have HX:=Lib.hid (Ext.box w (.cells #[.int .i64 s.limit,.slice A s.ships.length capa,.slice B s.members.length capb] 74));have c2:=k0.cell 2;simp only [Go.Tw.gA,Go.Tw.gB,Go.Tw.gC] at c2;clear h2 k0;go_enter Tryz.func47,Tryz.ntmps47
 by_cases h0:n < 0
 . have HQ:Hid (Z1t s n = true):=Lib.hid (by unfold Z1t; simp [h0])
   go_wp2_with (refine (X3o _ _ _).mono ?_; rintro e w5 ⟨rfl,rfl⟩);go_ret;exact ⟨Q1c (by rw [HQ.out]),HX.out⟩
 . obtain ⟨q,hq⟩:∃ q,decide ((s.members.length:Int) <= n) = q:=⟨_,rfl⟩
   have HQ:Hid (Z1t s n = q):=Lib.hid (by unfold Z1t; rw [hq]; simp [h0])
   go_wp2_with (refine (X3o _ _ _).mono ?_; rintro e w5 ⟨rfl,rfl⟩);go_ret;exact ⟨Q1c (by rw [HQ.out]),HX.out⟩
theorem Tryz.Z6x (w:World):(isAgg 74).run Tryz.prog w = .ok true w:=by kernel_rfl
theorem Tryz.Y2t (w:World):(sizeOf 74).run Tryz.prog w = .ok 3 w:=by kernel_rfl
end Go.Proofs
namespace Go.Proofs
open Go.RowKit Go.Tw Go.Flow
attribute [local go_sem] Oper.semAt_some
theorem Y5e {α:Type} {k n:Nat} {R:World -> (Nat -> Value) -> α -> Prop} {w:World} {g:Nat} {T:TypeId} {cs:Array Value} {l:List α} (h:Blk w g T cs) (hl:l.length = n) (hn:n <= 1000) (hsz:cs.size = n * k)
    (hR:∀ i (hi:i < l.length),R w (fun j=>cs.getD (i * k + j) undef) l[i]):Go.Tw.Rows k R w (.slice (some ⟨g,0,none⟩) n n) l:=by
 subst hl;refine ⟨fun j=>cs.getD j undef,⟨some ⟨g,0,none⟩,l.length,rfl,by omega,Nat.le_refl _,fun j hj=>⟨g,0,rfl,?_⟩⟩,hR⟩
 have hj':j < cs.size:=by omega
 rw [Nat.zero_add,h.cell];show cs[j]? = some (cs.getD j undef);rw [Array.getD_eq_getD_getElem?,Array.getElem?_eq_getElem hj'];rfl
theorem Q3l {w:World} {g:Nat} {T:TypeId} {cs:Array Value} {l:List Int} {n:Nat} (h:Blk w g T cs) (hc:cs = (l.map (Value.int .i64)).toArray) (hl:l.length = n) (hn:n <= 1000):Q0e w (.slice (some ⟨g,0,none⟩) n n) l:=by
 subst hc;refine Y5e (k:=1) h hl hn (by simp [hl]) fun i hi=>?_
 show (List.map (Value.int .i64) l).toArray.getD (i * 1 + 0) undef = _;simp [hi]
theorem J7s (b:UInt8):Short ⟨#[b]⟩:=by show (1:Nat) <= _; omega
end Go.Proofs
namespace Go.Proofs
open Go.RowKit Go.Tw Go.Flow
def Y5f (l:List Int) (k:Nat):List (List Int):=(List.range k).map fun t=>l.take (t + 1)
theorem Z6j (l:List Int) (k:Nat):Y5f l (k + 1) = Y5f l k ++ [l.take (k + 1)]:=by unfold Y5f; rw [List.range_succ,List.map_append]; rfl
theorem Y9z (l:List Int) (k:Nat):(Y5f l k).length = k:=by unfold Y5f; simp
def Y5b (s:Q0b) (i:Nat):List (List Int):=(s.members.take i).flatMap fun m=>Y5f m.classes m.classes.length
theorem Y3h (s:Q0b) {i:Nat} (hi:i < s.members.length):Y5b s (i + 1) = Y5b s i ++ Y5f (Q0d s.members i) (Q0d s.members i).length:=by
 unfold Y5b Q0d;rw [List.take_succ_eq_append_getElem hi,List.flatMap_append,Q0y _ hi]; simp
theorem J0i (s:Q0b):Y5b s s.members.length = s.X7u:=by unfold Y5b; rw [List.take_length]; rfl
theorem Y0v {s:Q0b} (hS:Q0m s):∀ i,i <= s.members.length -> (Y5b s i).length = i * s.ships.length
 | 0,_=>by simp [Y5b]
 | i + 1,h=>by
   rw [Y3h s (by omega),List.length_append,Y0v hS i (by omega),Y9z,(hS.shaped i (by omega)).1,Nat.add_mul,Nat.one_mul]
theorem Z0a (w:World) (a:Addr) (n cap:Nat):(binOp .eql 157 (.slice (some a) n cap) (.slice none 0 0)).run Tryz.prog w = .ok (.bool false) w:=by kernel_rfl
attribute [local go_sem ↓] Z0a
theorem Z6z (w:World) (a:Addr) (n cap:Nat) (l:List Int) (hv:Q0e w (.slice (some a) n cap) l) (hn:n = l.length) (hle:l.length <= 4096) :
    Calls Tryz.prog 109 #[.slice (some a) n cap] w fun e w'=>∃ u,e = .returned u /\ Q0i w' w.heap.size 3 (.int .i64) u l /\ Ext w w':=by
 obtain ⟨i0,hi,hz0,hz1,hz2⟩:=info_parts Tryz.info3;subst hn;obtain ⟨A,cap',he,hl,hcap,hc⟩:=hv.opened;injection he with e1 _ e3;subst e1 e3;have hx:=Ext.box w (.cells #[] 3);have hown:Q0i (w.alloc (.cells #[] 3)) w.heap.size 3 (Value.int .i64) (.slice (some ⟨w.heap.size,0,none⟩) 0 0) []:=World.ownsRow_made w #[] 0 (Nat.le_refl _) (by unfold maxLen; omega) rfl
 have HSRC:Hid (∀ j u,(l.map (Value.int .i64))[j]? = some u -> (w.alloc (.cells #[] 3)).cell? (a.add j) = some u):=Lib.hid (by
  intro j u hj;rw [List.getElem?_map] at hj;obtain ⟨y,hy,rfl⟩:=Option.map_eq_some_iff.1 hj;obtain ⟨hjl,rfl⟩:=List.getElem?_eq_some_iff.1 hy;obtain ⟨b,off,he,hcell⟩:=hc j hjl;cases he;rw [addr_add,hx.cell hcell,Q5p hjl])
 have HONE:Hid (∀ u ∈ l.map (Value.int .i64),u.oneCell' = true):=Lib.hid (by intro u hu; obtain ⟨y,_,rfl⟩:=List.mem_map.1 hu; rfl)
 have HL2:Hid ((l.map (Value.int .i64)).length = l.length * 1):=Lib.hid (by simp)
 clear hv hc;go_enter Tryz.func109,Tryz.ntmps109;go_wp2_with (at_builtin; refine wpList_append_own _ rfl _ _ 157 rfl (w.heap.size) 3 i0 (.int .i64 0) 1 8 Tryz.underlying157 hi hz0 hz1 hz2 rfl (by decide) _ _ _ rfl hown a l.length cap (l.map (Value.int .i64)) rfl HL2.out HSRC.out HONE.out ?_ ?_ ?_ ?_; (focus (unfold maxLen; simp; omega)); (focus (simp; omega)); (focus (simp)); intro v' w4 hown' hgrow _; refine halted ?_)
 have hx4:Ext w w4:=Below.trans hx (below_grown hown hgrow (Nat.le_refl _) hx.size);have hown2:Q0i w4 w.heap.size 3 (.int .i64) v' l:=by
  unfold Q0i;rw [show l.length = 0 + l.length from (Nat.zero_add _).symm]
  exact hown'
 clear hown' hgrow hown hx;unfold Q1x;go_wp2;go_ret;exact ⟨_,rfl,hown2,hx4⟩
theorem Tryz.J2m:(Tryz.prog.info? 157).map (fun i=>(i.zero,i.size,i.bytes)) = some (some (.slice none 0 0),1,24):=by kernel_rfl
theorem Z3q {W W':World} {base:Nat} {v:Value} {vs us:List Value} {ll:List (List Int)} (h:Q0i W base 157 idV v us) (hs:Sets W vs ll) (hg:W.grownBy W' v.ownBlock):Sets W' vs ll:=by
 refine hs.at fun u l hu b hb hbl=>hg.block b hbl fun e=>?_;obtain ⟨h1,h2⟩:=h
 rcases h2 with ⟨rfl,_⟩ | ⟨g,cap,cur,rfl,hbg,hgc,r⟩
 . cases e
 . have:b = g:=by simpa [Value.ownBlock] using e
   subst this;exact Y4t hu hgc hb
theorem Q6f {α:Type} {W W':World} {base:Nat} {e:TypeId} {enc:α -> Value} {v:Value} {l:List α} {g:Nat} {T:TypeId} {cs:Array Value} (hb:Blk W g T cs) (h:Q0i W base e enc v l) (hT:T ≠ e) (hg:W.grownBy W' v.ownBlock):Blk W' g T cs:=by
 have hb2:=hb;unfold Blk at hb ⊢;refine (hg.block g (Array.getElem?_eq_some_iff.1 hb).1 fun e'=>?_).trans hb;obtain ⟨h1,h2⟩:=h
 rcases h2 with ⟨rfl,_⟩ | ⟨g',cap,cur,rfl,hbg,hgc,r⟩
 . cases e'
 . have:g = g':=by simpa [Value.ownBlock] using e'
   subst this;rw [hb] at hgc;injection hgc with h;injection h with _ h;exact hT h
theorem Y4x (w:World) (v:Value) (s:Q0b) (hv:Q0p w v s) (hS:Q0m s) :
    Calls Tryz.prog 58 #[v] w fun e w'=>∃ x,e = .returned x /\ Q4z w' x s.hist /\ Ext w w':=by
 obtain ⟨i0,hi,hz0,hz1,hz2⟩:=info_parts Tryz.J2m;have h8:=hS.some;have h6:=hS.tides;have HS:=Lib.hid hS;obtain ⟨a,b,rfl,h2⟩:=hv;obtain ⟨A,capa,rfl,-,-,-⟩:=h2.ships.opened;obtain ⟨B,capb,rfl,-,-,-⟩:=h2.members.opened;have H2:=Lib.hid h2;clear h2 hS;go_enter Tryz.func58,Tryz.ntmps58;go_wp2_with fail;change Code.wp _ _ _ _ (w.alloc (.cells #[.int .i64 s.limit,.slice A s.ships.length capa,.slice B s.members.length capb] 74));obtain ⟨W,hWW,k0,HXW,eW⟩:=Q2y w 74 #[.int .i64 s.limit,.slice A s.ships.length capa,.slice B s.members.length capb];rw [hWW];clear hWW;have K0:=Lib.hid k0;have c0_2:=k0.cell 2;simp only [Go.Tw.gA,Go.Tw.gB,Go.Tw.gC] at c0_2;clear k0;go_wp2;clear c0_2
 go_loopw [3,10] (fun o iv wr=>∃ (i:Nat) (vs:List Value),i <= s.members.length /\ iv = .int .i64 i /\ Q0i wr W.heap.size 157 idV o vs /\ Sets wr vs (Y5b s i) /\ Ext W wr) (fun _ i _=>s.members.length - (intOf i).toNat)
 case atStart=>exact ⟨0,[],Nat.zero_le _,rfl,Q0i.nil _ _ _ _,Sets.nil _,Ext.refl _⟩
 case round =>
  obtain ⟨i,vs,him,rfl,hown,hsets,hxr⟩:=hrel;have HXR:=Lib.hid hxr;have HOW:=Lib.hid hown;have HSE:=Lib.hid hsets;clear hown hsets
  by_cases hlt:i < s.members.length
  . have H3:=H2.out.ext (HXW.out.trans hxr)
    have H4:=H2.out.ext HXW.out;obtain ⟨_,_,hB,_,_,hc⟩:=H3.members.opened;cases hB;obtain ⟨bm,off,x,y,z,rfl,hbm,e0,e1,e2,e3,e4,hx,hy,hz,hsh⟩:=hc i hlt;have hIW:Q0e W x (Q0d s.members i):=by
     obtain ⟨_,_,hB',_,_,hc'⟩:=H4.members.opened;cases hB';obtain ⟨bm',off',x',y',z',hA',_,f0,f1,f2,f3,f4,hx',_⟩:=hc' i hlt;cases hA';have:=hxr.cell f2;rw [e2] at this;cases this;exact hx'
    have HIW:=Lib.hid hIW;obtain ⟨X,capx,rfl,-,hcapx,hcx⟩:=hx.opened;obtain ⟨Y,capy,rfl,-,-,-⟩:=hy.opened;obtain ⟨Z,capz,rfl,-,-,-⟩:=hz.opened;have hT:=(HS.out.shaped i hlt).1;have HRT:=Lib.hid (Y3h s hlt);have HRL:=Lib.hid (Y0v HS.out i him);obtain ⟨nm,hnm⟩:∃ x,Q1d s.members i = x:=⟨_,rfl⟩;obtain ⟨wt,hwt⟩:∃ x,Q0h s.members i = x:=⟨_,rfl⟩;obtain ⟨lc,hlc⟩:∃ x,Q0d s.members i = x:=⟨_,rfl⟩;obtain ⟨lo,hlo⟩:∃ x,Q0n s.members i = x:=⟨_,rfl⟩;obtain ⟨li,hli⟩:∃ x,Q0s s.members i = x:=⟨_,rfl⟩;rw [hnm] at e0;rw [hwt] at e1;rw [hlc] at e2 HIW HRT hT hcapx hcx;rw [hlo] at e3;rw [hli] at e4;have hiI:(i:Int) < s.members.length:=by omega
    have hlc0:0 < lc.length:=by omega
    obtain ⟨bX,oX,hX,-⟩:=hcx 0 hlc0;subst hX;have hbox:=Ext.box wr (.cells #[.string nm,.int .i64 wt,.slice (some ⟨bX,oX,none⟩) lc.length capx,.slice Y lo.length capy,.slice Z li.length capz] 90);have K3:=Blk.made wr 90 #[.string nm,.int .i64 wt,.slice (some ⟨bX,oX,none⟩) lc.length capx,.slice Y lo.length capy,.slice Z li.length capz];have d2:=K3.cell 2;simp only [Go.Tw.gA,Go.Tw.gB,Go.Tw.gC] at d2;obtain ⟨T,hTT⟩:∃ T,s.ships.length = T:=⟨_,rfl⟩;have HTT:=Lib.hid hTT;have HXB:=Lib.hid hbox;have HOB:=Lib.hid (HOW.out.below hbox);have HSB:=Lib.hid (HSE.out.ext hbox);have HK3:=Lib.hid K3;rw [hTT] at hT HRL;have HT:=Lib.hid hT;clear hc H3 H4 hIW hx hy hz hsh hnm hwt hlc hlo hli hbm hbox K3 hcx hT hTT
    go_light
    go_wp2;obtain ⟨V,hV⟩:∃ V,wr.alloc (.cells #[.string nm,.int .i64 wt,.slice (some ⟨bX,oX,none⟩) lc.length capx,.slice Y lo.length capy,.slice Z li.length capz] 90) = V:=⟨_,rfl⟩;obtain ⟨gb,hgb⟩:∃ x,wr.heap.size = x:=⟨_,rfl⟩;rw [hV] at HXB HOB HSB HK3 ⊢;rw [hgb] at HK3 ⊢;clear hV hgb d2 e0 e1 e2 e3 e4;have HXV:=Lib.hid (hxr.trans HXB.out);clear hxr
    go_loopw [3,17] (fun o tv wr=>∃ (t:Nat) (vs:List Value),t <= lc.length /\ tv = .int .i64 t /\ Q0i wr W.heap.size 157 idV o vs /\ Sets wr vs (Y5b s i ++ Y5f lc t) /\ Blk wr gb 90 #[.string nm,.int .i64 wt,.slice (some ⟨bX,oX,none⟩) lc.length capx,.slice Y lo.length capy,.slice Z li.length capz] /\ Ext W wr) (fun _ t _=>lc.length - (intOf t).toNat)
    case atStart=>exact ⟨0,vs,Nat.zero_le _,rfl,HOB.out,by rw [show Y5f lc 0 = [] from rfl,List.append_nil]; exact HSB.out,HK3.out,HXV.out⟩
    case round =>
     obtain ⟨t,vs,htl,rfl,hown,hsets,hbk,hxw⟩:=hrel;have hvl:vs.length <= 4096:=by
      have h1:=hsets.1;have h2:=HRL.out;rw [List.length_append,Y9z,h2] at h1;have h3:i * T <= 8 * 6:=Nat.mul_le_mul (by omega) (by have:=HTT.out; omega)
      have:=HT.out;have:=HTT.out;omega
     by_cases htl2:t < lc.length
     . have hlc6:lc.length <= 6:=by have:=HT.out; have:=HTT.out; omega
       have d2:=hbk.cell 2;simp only [Go.Tw.gA,Go.Tw.gB,Go.Tw.gC] at d2;have HSUC:=Lib.hid (Z6j lc t);have HPRE:=Lib.hid (X8m (HIW.out.ext hxw) (show t + 1 <= lc.length by omega))
       have HPL:Hid ((lc.take (t + 1)).length = t + 1):=Lib.hid (by rw [List.length_take]; omega)
       obtain ⟨lp,hlp⟩:∃ x,lc.take (t + 1) = x:=⟨_,rfl⟩;rw [hlp] at HSUC HPRE HPL;have hkcI:(t:Int) + 1 <= (capx:Int):=by omega
       have hkc1:¬ ((0:Int) <= (t:Int) + 1 -> (capx:Int) < (t:Int) + 1):=by omega
       have hkc2:¬ capx = 0:=by omega
       have hkc4:¬ (t:Int) + 1 < 0:=by omega
       have hkc3:((t:Int) + 1).toNat = t + 1:=by omega
       have hwk:IntKind.i64.wrap ((t:Int) + 1) = (t:Int) + 1:=Q2q _ (by omega) (by omega)
       have htI:(t:Int) < lc.length:=by omega
       have HO:=Lib.hid hown;have HSE2:=Lib.hid hsets;have HBK:=Lib.hid hbk;clear hown hsets hbk hlp
       go_light
       go_wp2_with (first | (go_at_call 109; refine (Z6z _ _ _ _ lp HPRE.out HPL.out.symm (by rw [HPL.out]; omega)).mono ?_; rintro e w5 ⟨u,rfl,hu,hx5⟩; obtain ⟨bu,cu,hue,-⟩:=hu.shape; rw [HPL.out] at hue; subst hue; have HU:=Lib.hid hu; have hown:=HO.out.below hx5; have hx6:=hxw.trans hx5; have HX5:=Lib.hid hx5; clear hu) | (at_builtin; refine wpList_append_own _ rfl _ _ 158 rfl (W.heap.size) 157 i0 (.slice none 0 0) 1 24 Tryz.underlying158 hi hz0 hz1 hz2 rfl (by decide) _ _ _ rfl (World.ownsRow.alloc hown _) ⟨w5.heap.size,0,none⟩ 1 1 [.slice bu (t + 1) cu] rfl rfl ?_ ?_ ?_ ?_ ?_ ?_; exact Q4p _ _ _; (focus (simp [Value.oneCell'])); (focus (unfold maxLen; omega)); (focus omega); (focus (have:=hx6.size; simp at this ⊢; omega)); intro v' w1 hown' hgrow _))
       have hx':=Q3b hx6 hown (Nat.le_refl _) hgrow;have hbx:=Ext.box w5 (.cells #[.slice bu (t + 1) cu] 157);have hs5:=Z3q (hown.below hbx) (((HSE2.out.ext HX5.out).snoc (HU.out.weaken (Nat.zero_le _)) (by rw [HPL.out]; omega)).ext hbx) hgrow
       have hb5:=Q6f ((HBK.out.ext HX5.out).ext hbx) (hown.below hbx) (by decide) hgrow
       have HS5:=Lib.hid hs5;have HB5:=Lib.hid hb5;clear hs5 hb5;go_roundw
       case rel=>exact ⟨t + 1,vs ++ [.slice bu (t + 1) cu],by omega,by go_num,Q0i.snoc (x:=Value.slice bu (t + 1) cu) hown',by rw [HSUC.out,<- List.append_assoc]; exact HS5.out,HB5.out,hx'⟩
       case measure=>simp [intOf]; omega
     . have hte:t = lc.length:=by omega
       subst hte;have HO:=Lib.hid hown;have HSE2:=Lib.hid hsets;clear hown hsets hbk;go_wp2;go_roundw
       case rel=>exact ⟨i + 1,vs,by omega,by go_num,HO.out,by rw [HRT.out]; exact HSE2.out,hxw⟩
       case measure=>simp [intOf]; omega
  . have hie:i = s.members.length:=by omega
    subst hie;have HRA:=Lib.hid (J0i s);have hln:=Y0v HS.out _ (Nat.le_refl _);have hvl:vs.length = s.members.length * s.ships.length:=by rw [HSE.out.1,hln]
    have hv1:1 <= s.members.length * s.ships.length:=Nat.mul_le_mul h8.1 h6.1;have hv2:s.members.length * s.ships.length <= 8 * 6:=Nat.mul_le_mul h8.2 h6.2;obtain ⟨N,hN⟩:∃ N,s.members.length * s.ships.length = N:=⟨_,rfl⟩;rw [hN] at hln hvl hv1 hv2;obtain ⟨h1,h2⟩:=HOW.out
    rcases h2 with ⟨_,h2⟩ | ⟨g,cap,cur0,hv,hbg,hg,hcapN,-⟩
    . exfalso; omega
    subst hv;clear h1 hg;rw [HRA.out] at HSE hln;have HLN:=Lib.hid hln;have HSORT:=Lib.hid (J3n wr g cap W.heap.size vs s.X7u HOW.out HSE.out (by omega))
    have hvn:vs.length = N:=hvl;rw [hvn];rw [hln] at HSORT;clear hN hvl;go_wp2_with (go_at_call 110; refine HSORT.out.mono ?_; rintro e w5 ⟨rfl,ll',cur,vs',hp,hso,hr5,hg5⟩; refine halted ?_);have hll:ll'.length = N:=by rw [hp.length_eq]; exact HLN.out
    have hcur:ll'.length <= cur.length:=by
     have h1:=congrArg List.length hr5.2.1;rw [List.length_take] at h1;have h2:=hr5.2.2.1;omega
    have hcmp:=Z3e w5 g cap cur vs' ll' (by omega) (by omega) (by omega) hcur hso hr5
    rw [hll] at hcmp;have HCMP:=Lib.hid hcmp;have HP:=Lib.hid hp;have HG5:=Lib.hid hg5;have HXR1:=Lib.hid hxr;clear hcmp hp hso hr5 hg5 hxr hcur hll HOW HSE HSORT;unfold Q1x;go_wp2_with (go_at_call 112; refine HCMP.out.mono ?_; rintro e w6 ⟨r,rfl,hir,ha,hm,-,hg6⟩);go_ret;have hr:r = s.hist:=Q0b.J6t (fun k hk=>HS.out.shaped k hk) ha (fun x=>by rw [hm x]; exact HP.out.mem_iff)
    subst hr;have hg:=Q8s HG5.out hg6;exact ⟨_,rfl,hir,HXW.out.trans (Below.grown HXR1.out hg HXR1.out.size (fun k hk=>by cases hk; exact hbg))⟩
end Go.Proofs
namespace Go.Proofs
open Go.RowKit Go.Tw Go.Flow
attribute [local go_sem] Oper.semAt_some
theorem Z7c (w:World) (u v:Value) (a b:List Int) (hu:Q0e w u a) (hv:Q0e w v b) :
    Calls Tryz.prog 119 #[u,v] w fun e w'=>e = .returned (.bool (decide (a = b))) /\ Ext w w':=by
 obtain ⟨A,capa,rfl,hla,hcapa,hca⟩:=hu.opened;obtain ⟨B,capb,rfl,hlb,hcapb,hcb⟩:=hv.opened;clear hu hv;go_enter Tryz.func119,Tryz.ntmps119
 by_cases hl:a.length = b.length
 . have hne:((a.length:Int) != (b.length:Int)) = false:=by simp [hl]
   go_wp2
   go_loopw [13] (fun i wr=>∃ k:Nat,k <= a.length /\ i = .int .i64 k /\ decide (a.drop k = b.drop k) = decide (a = b) /\ Ext w wr) (fun i _=>a.length - (intOf i).toNat)
   case atStart=>exact ⟨0,Nat.zero_le _,rfl,rfl,Ext.refl _⟩
   case round =>
    obtain ⟨k,hk,rfl,hr,hx⟩:=hrel;have HR:=Lib.hid hr; clear hr
    by_cases hlt:k < a.length
    . have hlt2:k < b.length:=by omega
      obtain ⟨b1,off1,rfl,hc1⟩:=hca k hlt;obtain ⟨b2,off2,rfl,hc2⟩:=hcb k hlt2;replace hc1:=hx.cell hc1;replace hc2:=hx.cell hc2;have HD1:=Lib.hid (Q3q hlt);have HD2:=Lib.hid (Q3q hlt2);clear hca hcb
      by_cases h0:ix a k = ix b k
      . have hx1:(ix a k != ix b k) = false:=by simp [h0]
        have H0:=Lib.hid h0; clear h0;go_wp2
        go_quiet (fail)
        all_goals go_wp2
        go_roundw
        case rel=>exact ⟨k + 1,by omega,by go_num,by rw [<- HR.out,HD1.out,HD2.out,Y8z H0.out],hx.drewN _⟩
        case measure=>simp [intOf]; omega
      . have hx1:(ix a k != ix b k) = true:=by simp [h0]
        have H0:=Lib.hid h0; clear h0;go_wp2
        go_quiet (fail)
        all_goals go_wp2
        go_ret;exact ⟨Q0z (by rw [<- HR.out,HD1.out,HD2.out,Y7y H0.out]),hx.drewN _⟩
    . clear hca hcb
      go_wp2;go_ret;exact ⟨Q0z (by rw [<- HR.out,List.drop_eq_nil_of_le (by omega),List.drop_eq_nil_of_le (by omega)]; rfl),hx⟩
 . have hne:((a.length:Int) != (b.length:Int)) = true:=by simp; omega
   have HL:Hid (decide (a = b) = false):=Lib.hid (decide_eq_false (fun h=>hl (by rw [h])))
   clear hl hca hcb;go_wp2;go_ret;exact ⟨Q0z (by rw [HL.out]),Ext.refl _⟩
end Go.Proofs
namespace Go.Proofs
open Go.RowKit Go.Tw Go.Flow
attribute [local go_sem] Oper.semAt_some
theorem Tryz.X8g (w:World):(isAgg 64).run Tryz.prog w = .ok true w:=by kernel_rfl
theorem Tryz.Q7e (w:World):(sizeOf 64).run Tryz.prog w = .ok 1 w:=by kernel_rfl
end Go.Proofs
namespace Go.Proofs
open Go.RowKit Go.Tw Go.Flow
attribute [local go_sem] Oper.semAt_some
def J9j (q:Value × Rul):List Value:=[q.1,.bool q.2.close]
theorem J3l (q:Value × Rul):(J9j q).length = 2:=rfl
theorem Z6a {w w0:World} {B:Nat} {T:TypeId} {v:Value} {qs:List (Value × Rul)} (h:Q0u w B T 2 J9j v qs) (hl:qs.length <= 100000) (hr:∀ q ∈ qs,Q0e w0 q.1 q.2.classes) (hx:Ext w0 w):Q5d w v (qs.map (·.2)):=by
 refine h.rowsOf (by simp) (by simp; omega) J3l (fun j h1 h2=>?_) (fun c c' x hc h=>?_)
 . have hq:=List.getElem_mem h1
   simp only [List.getElem_map];exact ⟨(hr _ hq).ext hx,rfl⟩
 . exact ⟨by rw [<- hc 0 (by omega)]; exact h.1,by rw [<- hc 1 (by omega)]; exact h.2⟩
theorem _root_.Go.Tw.Q0u.Z5f {α:Type} {w:World} {base k:Nat} {e:TypeId} {enc:α -> List Value} {v:Value} {l:List α} (h:Q0u w base e k enc v l) {p:Addr} (hp:p.block < base) (u:Value):Q0u (w.setCell p u) base e k enc v l:=h.only hp (Q9z _ _ _)
end Go.Proofs
namespace Go.Proofs
open Go.RowKit Go.Tw Go.Flow
attribute [local go_sem] Oper.semAt_some
abbrev MV:=Mem × Value × Value × Value
def Q9j (q:MV):List Value:=[.string q.1.name,.int .i64 q.1.weight,q.2.1,q.2.2.1,q.2.2.2]
theorem X3s (q:MV):(Q9j q).length = 5:=rfl
structure Y5m (w:World) (q:MV):Prop where
 c:Q0i w 0 3 (.int .i64) q.2.1 q.1.classes
 o:Q0i w 0 3 (.int .i64) q.2.2.1 q.1.outside
 i:Q0i w 0 3 (.int .i64) q.2.2.2 q.1.inflow
def J2c (w:World) (qs:List MV):Prop:=∀ q ∈ qs,Y5m w q
theorem Y5m.ext {w w':World} {q:MV} (h:Y5m w q) (hx:Ext w w'):Y5m w' q:=⟨h.c.below hx,h.o.below hx,h.i.below hx⟩
theorem Y5m.one {w:World} {q:MV} (h:Y5m w q):∀ u ∈ Q9j q,u.oneCell' = true:=by
 obtain ⟨_,_,e1,_⟩:=h.c.shape;obtain ⟨_,_,e2,_⟩:=h.o.shape;obtain ⟨_,_,e3,_⟩:=h.i.shape;intro u hu;simp only [Q9j,List.mem_cons,List.not_mem_nil,or_false] at hu
 rcases hu with rfl | rfl | rfl | rfl | rfl
 . rfl
 . rfl
 . rw [e1]; rfl
 . rw [e2]; rfl
 . rw [e3]; rfl
theorem Y5m.grown {w w':World} {q:MV} {base n size:Nat} {e:TypeId} {cv:Value} {xs:List Value} (h:Y5m w q) (hown:w.ownsRow base e size cv n xs) (he:e ≠ 3) (hg:w.grownBy w' cv.ownBlock):Y5m w' q:=⟨Q2j h.c hown he hg,Q2j h.o hown he hg,Q2j h.i hown he hg⟩
theorem Y5m.set {w:World} {q:MV} {O k:Nat} {u:Value} {S:TypeId} {cs:Array Value} (h:Y5m w q) (hb:Blk w O S cs) (hT:S ≠ 3):Y5m (w.setCell ⟨O,k,none⟩ u) q:=⟨Q4y h.c hb hT,Q4y h.o hb hT,Q4y h.i hb hT⟩
theorem Q5e {w w':World} {v:Value} {l:List Int} {g:Nat} {T S:TypeId} {cs:Array Value} (h:Q0i w 0 T (Value.int .i64) v l) (hb:Blk w g S cs) (hT:S ≠ T) (ho:∀ k,k ≠ g -> w'.heap[k]? = w.heap[k]?):Q0i w' 0 T (Value.int .i64) v l:=by
 obtain ⟨h1,h2⟩:=h;refine ⟨h1,?_⟩
 rcases h2 with h2 | ⟨g',cap,cur,hv,hbb,hgl,r⟩
 . exact .inl h2
 . refine .inr ⟨g',cap,cur,hv,hbb,?_,r⟩
   rw [ho g' ?_]; exact hgl;rintro rfl;unfold Blk at hb;rw [hb] at hgl;injection hgl with hgl;injection hgl with _ h3 _;exact hT h3
theorem Y5m.only {w w':World} {q:MV} {g:Nat} {S:TypeId} {cs:Array Value} (h:Y5m w q) (hb:Blk w g S cs) (hT:S ≠ 3) (ho:∀ k,k ≠ g -> w'.heap[k]? = w.heap[k]?):Y5m w' q:=⟨Q5e h.c hb hT ho,Q5e h.o hb hT ho,Q5e h.i hb hT ho⟩
theorem Y9l {w:World} {B:Nat} {T:TypeId} {v:Value} {qs:List MV} (h:Q0u w B T 5 Q9j v qs) (hl:qs.length <= 100000) (hr:J2c w qs) (hs:∀ q ∈ qs,Short q.1.name /\ q.1.classes.length <= 1000 /\ q.1.outside.length <= 1000 /\ q.1.inflow.length <= 1000):X1g w v (qs.map (·.1)):=by
 refine h.rowsOf (by simp) (by simp; omega) X3s (fun j h1 h2=>?_) (fun c c' x hc h=>?_)
 . have hq:=List.getElem_mem h1
   have hm:=hr _ hq;obtain ⟨s1,s2,s3,s4⟩:=hs _ hq;simp only [List.getElem_map];exact ⟨rfl,rfl,hm.c.ints (by omega),hm.o.ints (by omega),hm.i.ints (by omega),s1⟩
 . exact ⟨by rw [<- hc 0 (by omega)]; exact h.1,by rw [<- hc 1 (by omega)]; exact h.2.1,by rw [<- hc 2 (by omega)]; exact h.2.2.1,by rw [<- hc 3 (by omega)]; exact h.2.2.2.1,by rw [<- hc 4 (by omega)]; exact h.2.2.2.2.1,h.2.2.2.2.2⟩
theorem Tryz.J5e:(Tryz.prog.info? 90).map (fun i=>(i.zero,i.size,i.bytes)) = some (some (.agg #[.string ⟨#[]⟩,.int .i64 0,.slice none 0 0,.slice none 0 0,.slice none 0 0]),5,96):=by kernel_rfl
theorem Tryz.J1q (w:World):(sizeOf 77).run Tryz.prog w = .ok 5 w:=by kernel_rfl
theorem Tryz.J0n (w:World):(sizeOf 72).run Tryz.prog w = .ok 1 w:=by kernel_rfl
theorem Tryz.Q4t (w:World):(sizeOf 74).run Tryz.prog w = .ok 3 w:=by kernel_rfl
theorem Tryz.X1v (w:World):(isAgg 74).run Tryz.prog w = .ok true w:=by kernel_rfl
theorem X2n (w:World) (i:Int) (a:Option Addr) (n c:Nat):(Instr.build 74 #[(0,.int .i64 i),(1,.slice a n c)]).run Tryz.prog w = .ok (.agg #[.int .i64 i,.slice a n c,.slice none 0 0]) w:=by kernel_rfl
theorem X5s (w:World) (s:ByteArray) (i:Int) (a b d:Option Addr) (n1 c1 n2 c2 n3 c3:Nat):(Instr.build 90 #[(0,.string s),(1,.int .i64 i),(2,.slice a n1 c1),(3,.slice b n2 c2),(4,.slice d n3 c3)]).run Tryz.prog w = .ok (.agg #[.string s,.int .i64 i,.slice a n1 c1,.slice b n2 c2,.slice d n3 c3]) w:=by kernel_rfl
theorem Y9p (w:World) (s:ByteArray) (i:Int) (a b d:Option Addr) (n1 c1 n2 c2 n3 c3:Nat):(Instr.buildSlice 72 1 #[(0,.agg #[.string s,.int .i64 i,.slice a n1 c1,.slice b n2 c2,.slice d n3 c3])]).run Tryz.prog w = .ok (.slice (some ⟨w.heap.size,0,none⟩) 1 1) (w.alloc (.cells #[.string s,.int .i64 i,.slice a n1 c1,.slice b n2 c2,.slice d n3 c3] 90)):=by kernel_rfl
theorem Y2i {w:World} {o:Oper} {a:Act} (T:TypeId) (x y:Operand) (hop:o.op = .build T #[(0,x),(1,y)]) {u1 u2 r:Value} (h1:a.eval x = u1) (h2:a.eval y = u2) (hr:∀ w,(Instr.build T #[(0,u1),(1,u2)]).run Tryz.prog w = .ok r w):(execOp a.eval o).run Tryz.prog w = .ok (.value r) w:=by
 unfold execOp;simp only [hop,List.map_toArray,List.map_cons,List.map_nil,h1,h2,Sem.run_bind,hr,Result.andThen_ok,Sem.run_pure]
theorem Y2l {w:World} {o:Oper} {a:Act} (T:TypeId) (x y z p q:Operand) (hop:o.op = .build T #[(0,x),(1,y),(2,z),(3,p),(4,q)]) {u1 u2 u3 u4 u5 r:Value} (h1:a.eval x = u1) (h2:a.eval y = u2) (h3:a.eval z = u3) (h4:a.eval p = u4) (h5:a.eval q = u5) (hr:∀ w,(Instr.build T #[(0,u1),(1,u2),(2,u3),(3,u4),(4,u5)]).run Tryz.prog w = .ok r w):(execOp a.eval o).run Tryz.prog w = .ok (.value r) w:=by
 unfold execOp;simp only [hop,List.map_toArray,List.map_cons,List.map_nil,h1,h2,h3,h4,h5,Sem.run_bind,hr,Result.andThen_ok,Sem.run_pure]
theorem Y7o {P:Program} {ops:Array Oper} {Q:Exit -> Act -> World -> Prop} {rest:List Oper} {a:Act} {w:World} {T ty:TypeId} {p x:Operand} {pos} {after} (h:wpList P ops Q (⟨none,.store T p x,ty,pos,after,none⟩ :: rest) a w):wpList P ops Q (⟨none,.store T p x,ty,pos,after,none⟩ :: rest) a w:=h
theorem K0f {a:ByteArray} {b:Int} {X Y Z:Option Addr} {l m n c d e:Nat}:∀ u ∈ (#[Value.string a,.int .i64 b,.slice X l c,.slice Y m d,.slice Z n e]:Array Value).toList,u.oneCell' = true:=by
 intro u hu;simp only [List.mem_cons,List.not_mem_nil,or_false] at hu
 rcases hu with rfl | rfl | rfl | rfl | rfl <;> rfl
end Go.Proofs
namespace Go.Proofs
open Go.RowKit Go.Tw Go.Flow
def RL (w:World) (vs:List Value) (ll:List (List Int)):Prop:=vs.length = ll.length /\ ∀ j,j < ll.length -> Q0i w 0 3 (.int .i64) (vs.getD j undef) (ll.getD j [])
def LL (w:World) (B:Nat) (v:Value) (ll:List (List Int)):Prop:=∃ vs,Q0i w B 44 idV v vs /\ RL w vs ll
theorem RL.ext {w w':World} {vs:List Value} {ll:List (List Int)} (h:RL w vs ll) (hx:Ext w w'):RL w' vs ll:=⟨h.1,fun j hj=>(h.2 j hj).below hx⟩
theorem LL.ext {w w':World} {B:Nat} {v:Value} {ll:List (List Int)} (h:LL w B v ll) (hx:Ext w w'):LL w' B v ll:=let ⟨vs,h1,h2⟩:=h; ⟨vs,h1.below hx,h2.ext hx⟩
theorem LL.weaken {w:World} {B B':Nat} {v:Value} {ll:List (List Int)} (h:LL w B v ll) (hb:B' <= B):LL w B' v ll:=let ⟨vs,h1,h2⟩:=h; ⟨vs,h1.weaken hb,h2⟩
theorem LL.nil (w:World) (B:Nat):LL w B (.slice none 0 0) []:=⟨[],Q0i.nil _ _ _ _,rfl,fun j hj=>by simp at hj⟩
theorem J3o {w:World} {v:Value} {l:List Int} (h:Q0i w 0 3 (.int .i64) v l):(idV v).oneCell' = true:=by
 obtain ⟨b,c,rfl,_⟩:=h.shape;rfl
theorem RL.one {w:World} {vs:List Value} {ll:List (List Int)} (h:RL w vs ll):∀ y ∈ vs,(idV y).oneCell' = true:=by
 intro y hy;obtain ⟨i,hi,rfl⟩:=List.getElem_of_mem hy;have h2:=h.2 i (by rw [<- h.1]; exact hi)
 rw [Q0y _ hi] at h2;exact J3o h2
theorem RL.grown {w w':World} {vs:List Value} {ll:List (List Int)} {base n size:Nat} {cv:Value} {xs:List Value} {e:TypeId} (h:RL w vs ll) (hown:w.ownsRow base e size cv n xs) (he:e ≠ 3) (hg:w.grownBy w' cv.ownBlock):RL w' vs ll :=
 ⟨h.1,fun j hj=>Q2j (h.2 j hj) hown he hg⟩
theorem RL.reads {w:World} {vs:List Value} {ll:List (List Int)} (h:RL w vs ll) (hs:∀ j,j < ll.length -> (ll.getD j []).length <= 1000):Reads w vs ll:=⟨h.1,fun j hj=>(h.2 j hj).ints (by have:=hs j hj; omega)⟩
theorem LL.read {w:World} {B:Nat} {v:Value} {ll:List (List Int)} (h:LL w B v ll) (hl:ll.length <= 2000) (hs:∀ j,j < ll.length -> (ll.getD j []).length <= 1000):Q4z w v ll :=
 let ⟨_,h1,h2⟩:=h; h1.J8o (h2.reads hs) (by omega)
def RuR (w:World) (qs:List (Value × Rul)):Prop:=∀ q ∈ qs,Q0i w 0 3 (.int .i64) q.1 q.2.classes
theorem RuR.ext {w w':World} {qs:List (Value × Rul)} (h:RuR w qs) (hx:Ext w w'):RuR w' qs:=fun q hq=>(h q hq).below hx
theorem RuR.set {w:World} {qs:List (Value × Rul)} {O k:Nat} {u:Value} {S:TypeId} {cs:Array Value} (h:RuR w qs) (hb:Blk w O S cs) (hT:S ≠ 3):RuR (w.setCell ⟨O,k,none⟩ u) qs:=fun q hq=>Q4y (h q hq) hb hT
theorem RuR.grown {w w':World} {qs:List (Value × Rul)} {base n size:Nat} {e:TypeId} {cv:Value} {xs:List Value} (h:RuR w qs) (hown:w.ownsRow base e size cv n xs) (he:e ≠ 3) (hg:w.grownBy w' cv.ownBlock):RuR w' qs:=fun q hq=>Q2j (h q hq) hown he hg
theorem RuR.snoc {w:World} {qs:List (Value × Rul)} {q:Value × Rul} (h:RuR w qs) (hq:Q0i w 0 3 (.int .i64) q.1 q.2.classes):RuR w (qs ++ [q]):=fun x hx=>by
 rcases List.mem_append.1 hx with hx | hx
 . exact h x hx
 . rw [List.mem_singleton.1 hx]; exact hq
theorem Z7n {w:World} {B:Nat} {T:TypeId} {v:Value} {qs:List (Value × Rul)} (h:Q0u w B T 2 J9j v qs) (hl:qs.length <= 100000) (hr:RuR w qs) (hs:∀ q ∈ qs,q.2.classes.length <= 4096):Q5d w v (qs.map (·.2)) :=
 Z6a h hl (fun q hq=>(hr q hq).ints (by have:=hs q hq; omega)) (Ext.refl _)
def J7m (T:TypeId) (w w':World) (x:Value) (p:List Rul):Prop:=∃ vo qs,x = .agg #[vo] /\ Q0u w' w.heap.size T 2 J9j vo qs /\ qs.map (·.2) = p /\ RuR w' qs
theorem J7m.is {T:TypeId} {w w':World} {x:Value} {p:List Rul} (h:J7m T w w' x p) (hl:p.length <= 4096) (hs:∀ r ∈ p,r.classes.length <= 4096):Q6d w' x p:=by
 obtain ⟨vo,qs,rfl,ho,rfl,hr⟩:=h;exact ⟨vo,rfl,Z7n ho (by rw [List.length_map] at hl; omega) hr fun q hq=>hs _ (List.mem_map_of_mem hq)⟩
theorem X3f {α:Type} {w:World} {base k:Nat} {e:TypeId} {enc:α -> List Value} {v:Value} {l:List α} (h:Q0u w base e k enc v l) (h0:0 < l.length) :
    ∃ g cap cur,v = .slice (some ⟨g,0,none⟩) l.length cap /\ base <= g /\ Blk w g e cur /\ l.length <= cap /\ cap <= maxLen /\ cur.size = cap * k /\ cur.toList.take (l.length * k) = l.flatMap enc:=by
 rcases h.2 with ⟨_,hn⟩ | ⟨g,cap,cur,hv,hb,hg,hc,hm,hs,ht⟩
 . omega
 . exact ⟨g,cap,cur,hv,hb,hg,hc,hm,hs,ht⟩
theorem Y8a {α:Type} {w:World} {g k:Nat} {e:TypeId} {enc:α -> List Value} {cur:Array Value} {l:List α} (hk:∀ x,(enc x).length = k) (hb:Blk w g e cur) (ht:cur.toList.take (l.length * k) = l.flatMap enc) {i j:Nat} (hi:i < l.length) (hj:j < k):w.cell? ⟨g,i * k + j,none⟩ = (enc l[i])[j]?:=by
 rw [hb.cell,<- flat_get hk l i j hi hj,<- ht,List.getElem?_take,if_pos,Array.getElem?_toList];have:(i + 1) * k <= l.length * k:=Nat.mul_le_mul_right k hi;rw [Nat.add_mul] at this;omega
end Go.Proofs
namespace Go.Proofs
open Go.RowKit Go.Tw Go.Flow
attribute [local go_sem] Oper.semAt_some
theorem J1f (s:Q0b) (n:Nat):(X9n s n).length = s.hist.length:=by unfold X9n; simp
end Go.Proofs
namespace Go.Proofs
open Go.RowKit Go.Tw Go.Flow
attribute [local go_sem] Oper.semAt_some
theorem Q4v {w:World} {v:Value} {l:List Int} (h:Q0e w v l):Src w (Value.int .i64) v l:=by
 obtain ⟨A,cap,rfl,hl,hcap,hc⟩:=h.opened;exact ⟨A,cap,rfl,fun j hj=>by
  obtain ⟨b,off,he,hcell⟩:=hc j hj;exact ⟨b,off,he,by rw [hcell,Q5p hj]⟩⟩
end Go.Proofs
namespace Go.Tw
open Go.RowKit Go.Flow Go.Ba
def Q1i (o i:List Int) (cl:List Bool):Nat -> List Cond
 | 0=>[]
 | k + 1=>Q1i o i cl k ++ [⟨ix o k,!(bx cl k),[ix i k]⟩,⟨0,!(bx cl k),[0]⟩]
theorem Q3g (o i:List Int) (cl:List Bool):∀ k,(Q1i o i cl k).length = 2 * k
 | 0=>rfl
 | k + 1=>by unfold Q1i; rw [List.length_append,Q3g o i cl k]; simp; omega
structure CV where
 td:Int
 op:Bool
 a:Value
def X0w (p:CV):List Value:=[.int .i64 p.td,.bool p.op,p.a]
def CdR (w:World) (qs:List CV) (l:List Cond):Prop:=qs.length = l.length /\ ∀ k (h:k < qs.length),qs[k].td = (cd l k).tide /\ qs[k].op = (cd l k).opn /\ Q0i w 0 3 (.int .i64) qs[k].a (cd l k).inflow
theorem Z2f {l m:List Cond} {k:Nat} (h:k < l.length):cd (l ++ m) k = cd l k:=by unfold cd; simp [List.getElem?_append_left h]
theorem Y6b {l m:List Cond} (j:Nat):cd (l ++ m) (l.length + j) = cd m j:=by unfold cd; simp [List.getElem?_append_right]
theorem X3r (o i:List Int) (cl:List Bool):∀ n t,t < n -> cd (Q1i o i cl n) (2 * t) = ⟨ix o t,!(bx cl t),[ix i t]⟩ /\ cd (Q1i o i cl n) (2 * t + 1) = ⟨0,!(bx cl t),[0]⟩
 | 0,_,h=>absurd h (Nat.not_lt_zero _)
 | n + 1,t,h=>by
   have hl:=Q3g o i cl n;unfold Q1i
   by_cases e:t < n
   . rw [Z2f (by omega),Z2f (by omega)]; exact X3r o i cl n t e
   . have:t = n:=by omega
     subst this;have h1:=Y6b (l:=Q1i o i cl t) (m:=[⟨ix o t,!(bx cl t),[ix i t]⟩,⟨0,!(bx cl t),[0]⟩]) 0;have h2:=Y6b (l:=Q1i o i cl t) (m:=[⟨ix o t,!(bx cl t),[ix i t]⟩,⟨0,!(bx cl t),[0]⟩]) 1;rw [hl] at h1 h2;exact ⟨h1,h2⟩
theorem Z8g (o i:List Int) (cl:List Bool) (n k:Nat) (hk:k < 2 * n):(cd (Q1i o i cl n) k).inflow.length = 1:=by
 have h:=X3r o i cl n (k / 2) (by omega)
 rcases Nat.mod_two_eq_zero_or_one k with e | e
 . rw [show k = 2 * (k / 2) by omega,h.1]; rfl
 . rw [show k = 2 * (k / 2) + 1 by omega,h.2]; rfl
theorem CdR.map {w w':World} {qs:List CV} {l:List Cond} (h:CdR w qs l) (hk:∀ v L,Q0i w 0 3 (.int .i64) v L -> Q0i w' 0 3 (.int .i64) v L):CdR w' qs l:=⟨h.1,fun k hl=>⟨(h.2 k hl).1,(h.2 k hl).2.1,hk _ _ (h.2 k hl).2.2⟩⟩
theorem CdR.add {w:World} {qs:List CV} {l:List Cond} {p r:CV} {c d:Cond} (h:CdR w qs l) (h1:p.td = c.tide /\ p.op = c.opn /\ Q0i w 0 3 (.int .i64) p.a c.inflow) (h2:r.td = d.tide /\ r.op = d.opn /\ Q0i w 0 3 (.int .i64) r.a d.inflow):CdR w (qs ++ [p,r]) (l ++ [c,d]):=by
 refine ⟨by simp [h.1],fun k hk=>?_⟩
 rcases Nat.lt_or_ge k qs.length with hl | hl
 . rw [List.getElem_append_left hl,Z2f (by rw [<- h.1]; exact hl)]; exact h.2 k hl
 . obtain ⟨j,rfl⟩:∃ j,k = qs.length + j:=⟨k - qs.length,by omega⟩
   have hj:j < 2:=by simp at hk; omega
   have hcd:cd (l ++ [c,d]) (qs.length + j) = cd [c,d] j:=by rw [h.1,Y6b]
   have hge:(qs ++ [p,r])[qs.length + j]'hk = [p,r][j]'(by simpa using hj):=by simp [List.getElem_append_right]
   rw [hcd,hge]
   match j,hj with
   | 0,_=>exact h1
   | 1,_=>exact h2
theorem CdR.conds {w:World} {base:Nat} {v:Value} {qs:List CV} {l:List Cond} (h:Q0u w base 49 3 X0w v qs) (hr:CdR w qs l) (hl:qs.length <= 100000) (hs:∀ k,k < l.length -> (cd l k).inflow.length <= 1000):Q2p w v l:=by
 have e:∀ c,Row w v qs.length 3 c ↔ Row w v l.length 3 c:=fun c=>by rw [hr.1]
 have h0:Rows 3 (fun _ c (q:CV)=>c 0 = .int .i64 q.td /\ c 1 = .bool q.op /\ c 2 = q.a) w v qs :=
  Q0u.rows h (by omega) (fun _=>rfl) (fun p _=>⟨rfl,rfl,rfl⟩) (fun c c' p hc h=>⟨by rw [<- hc 0 (by omega)]; exact h.1,by rw [<- hc 1 (by omega)]; exact h.2.1,by rw [<- hc 2 (by omega)]; exact h.2.2⟩)
 obtain ⟨c,h1,h2⟩:=h0;refine ⟨c,(e c).1 h1,fun j hj=>?_⟩;have hq:j < qs.length:=by rw [hr.1]; exact hj
 obtain ⟨e0,e1,e2⟩:=h2 j hq;obtain ⟨f0,f1,f2⟩:=hr.2 j hq;have hd:cd l j = l[j]:=by unfold cd; simp [hj]
 have hsj:=hs j hj;rw [hd] at f0 f1 f2 hsj;exact ⟨by rw [e0,f0],by rw [e1,f1],by rw [e2]; exact f2.ints (by omega)⟩
end Go.Tw
namespace Go.Proofs
open Go.RowKit Go.Tw Go.Flow Go.Ba
attribute [local go_sem] Oper.semAt_some
theorem Tryz.J6e:(Tryz.prog.info? 49).map (fun i=>(i.zero,i.size,i.bytes)) = some (some (.agg #[.int .i64 0,.bool false,.slice none 0 0]),3,40):=by kernel_rfl
theorem Y8m (w:World) (i:Int) (b:Bool) (a:Option Addr) (n c:Nat):(Instr.build 49 #[(0,.int .i64 i),(1,.bool b),(2,.slice a n c)]).run Tryz.prog w = .ok (.agg #[.int .i64 i,.bool b,.slice a n c]) w:=by kernel_rfl
theorem Y3x (w:World) (b:Bool) (a:Option Addr) (n c:Nat):(Instr.build 49 #[(1,.bool b),(2,.slice a n c)]).run Tryz.prog w = .ok (.agg #[.int .i64 0,.bool b,.slice a n c]) w:=by kernel_rfl
theorem Z1a {w:World} {o:Oper} {a:Act} (T:TypeId) (x y z:Operand) (hop:o.op = .build T #[(0,x),(1,y),(2,z)]) {u1 u2 u3 r:Value} (h1:a.eval x = u1) (h2:a.eval y = u2) (h3:a.eval z = u3) (hr:∀ w,(Instr.build T #[(0,u1),(1,u2),(2,u3)]).run Tryz.prog w = .ok r w):(execOp a.eval o).run Tryz.prog w = .ok (.value r) w:=by
 unfold execOp;simp only [hop,List.map_toArray,List.map_cons,List.map_nil,h1,h2,h3,Sem.run_bind,hr,Result.andThen_ok,Sem.run_pure]
theorem Z2t {w:World} {o:Oper} {a:Act} (T:TypeId) (x y:Operand) (hop:o.op = .build T #[(1,x),(2,y)]) {u1 u2 r:Value} (h1:a.eval x = u1) (h2:a.eval y = u2) (hr:∀ w,(Instr.build T #[(1,u1),(2,u2)]).run Tryz.prog w = .ok r w):(execOp a.eval o).run Tryz.prog w = .ok (.value r) w:=by
 unfold execOp;simp only [hop,List.map_toArray,List.map_cons,List.map_nil,h1,h2,Sem.run_bind,hr,Result.andThen_ok,Sem.run_pure]
theorem Z9m (w:World) (i j:Int) (b c:Bool) (a d:Option Addr) (n m p q:Nat):(Instr.buildSlice 45 2 #[(0,.agg #[.int .i64 i,.bool b,.slice a n p]),(1,.agg #[.int .i64 j,.bool c,.slice d m q])]).run Tryz.prog w = .ok (.slice (some ⟨w.heap.size,0,none⟩) 2 2) (w.alloc (.cells #[.int .i64 i,.bool b,.slice a n p,.int .i64 j,.bool c,.slice d m q] 49)):=by kernel_rfl
theorem Z9l {P:Program} {K:Value -> World -> Prop} {o:Oper} {A:Act} {w w':World} (t:TypeId) (n:Nat) (x y:Operand) (ho:o.op = .buildSlice t n #[(0,x),(1,y)]) {u v r:Value} (hx:A.eval x = u) (hy:A.eval y = v) (hr:(Instr.buildSlice t n #[(0,u),(1,v)]).run P w = .ok r w') (h:K r w'):gives P K ((execOp A.eval o).run P w):=by
 unfold execOp;simp only [ho,List.map_toArray,List.map_cons,List.map_nil,hx,hy,Sem.run_bind,hr,Result.andThen_ok,Sem.run_pure];exact h
theorem Y5y (w:World) (vc:Value) (nm:ByteArray) (wt:Int) (X Y Z:Option Addr) (nx capx capy capz:Nat) (lo li:List Int) (cl:List Bool) (ho:Q0e w (.slice Y lo.length capy) lo) (hi:Q0e w (.slice Z li.length capz) li) (hc:Q2k w vc cl) (hlo:cl.length <= lo.length) (hli:cl.length <= li.length) (h48:cl.length <= 48) :
    Calls Tryz.prog 20 #[.agg #[.string nm,.int .i64 wt,.slice X nx capx,.slice Y lo.length capy,.slice Z li.length capz],vc] w fun e w'=>∃ r,e = .returned r /\ Q2p w' r (Q1i lo li cl cl.length) /\ Ext w w':=by
 obtain ⟨i0,hi0,hz0,hz1,hz2⟩:=info_parts Tryz.J6e;obtain ⟨C,capc,rfl,-,-,hcc⟩:=hc.opened;obtain ⟨_,_,e1,-,-,hyc⟩:=ho.opened;injection e1 with e1 _ e2; subst e1 e2;obtain ⟨_,_,e1,-,-,hzc⟩:=hi.opened;injection e1 with e1 _ e2; subst e1 e2;have HCC:=Lib.hid hcc;have HYC:=Lib.hid hyc;have HZC:=Lib.hid hzc;obtain ⟨n,hn⟩:∃ z,cl.length = z:=⟨_,rfl⟩;obtain ⟨no,hno⟩:∃ z,lo.length = z:=⟨_,rfl⟩;obtain ⟨ni,hni⟩:∃ z,li.length = z:=⟨_,rfl⟩;have HN:=Lib.hid hn;have HNO:Hid (n <= no /\ n <= ni /\ n <= 48 /\ lo.length = no /\ li.length = ni):=Lib.hid (by omega)
 rw [hn,hno,hni];clear ho hi hc hcc hyc hzc hlo hli h48 hn hno hni;go_enter Tryz.func20,Tryz.ntmps20;go_upto_region 1 with fail;obtain ⟨W,hWW,k0,HXW,eW⟩:=Q2y w 77 #[.string nm,.int .i64 wt,.slice X nx capx,.slice Y no capy,.slice Z ni capz];rw [hWW];clear hWW;obtain ⟨g,hg⟩:∃ z,w.heap.size = z:=⟨_,rfl⟩;rw [hg] at k0 eW ⊢;have K0:=Lib.hid k0;clear k0 eW hg;go_wp2
 go_loopw [5,10] (fun o iv wr=>∃ (k:Nat) (qs:List CV),k <= n /\ iv = .int .i64 k /\ Q0u wr W.heap.size 49 3 X0w o qs /\ CdR wr qs (Q1i lo li cl k) /\ Ext W wr) (fun _ iv _=>n - (intOf iv).toNat)
 case atStart=>exact ⟨0,[],Nat.zero_le _,rfl,Q0u.nil _ _ _ _ _,⟨rfl,fun k hk=>absurd hk (Nat.not_lt_zero _)⟩,Ext.refl _⟩
 case round =>
  obtain ⟨k,qs,hk,rfl,hown,hcd,hx⟩:=hrel;have HOWN:=Lib.hid hown;have HCD:=Lib.hid hcd;have HXR:=Lib.hid hx
  by_cases hlt:k < n
  . have hkI:(k:Int) < (n:Int):=by omega
    have HK:=Lib.hid hlt;have HWK:Hid (wrap64 ((k:Int) + 1) = (k:Int) + 1):=Lib.hid (by have:=HNO.out; unfold wrap64; omega)
    have hko:(k:Int) < (no:Int):=by have:=HNO.out; omega
    have hki:(k:Int) < (ni:Int):=by have:=HNO.out; omega
    obtain ⟨bc,oc,rfl,-,d0⟩:=HCC.out k (by rw [HN.out]; exact hlt)
    obtain ⟨by_,oy,rfl,d1⟩:=HYC.out k (by have:=HNO.out; omega)
    obtain ⟨bz,oz,rfl,d2⟩:=HZC.out k (by have:=HNO.out; omega)
    replace d0:=(HXW.out.trans hx).cell d0;have D1:=Lib.hid ((HXW.out.trans hx).cell d1);have D2:=Lib.hid ((HXW.out.trans hx).cell d2);have KR:=Lib.hid (K0.out.ext hx);have htn:Q1i lo li cl (k + 1) = Q1i lo li cl k ++ [⟨ix lo k,!(bx cl k),[ix li k]⟩,⟨0,!(bx cl k),[0]⟩]:=rfl;obtain ⟨q,hq⟩:∃ z,bx cl k = z:=⟨_,rfl⟩;obtain ⟨io,hio⟩:∃ z,ix lo k = z:=⟨_,rfl⟩;obtain ⟨ii,hii⟩:∃ z,ix li k = z:=⟨_,rfl⟩;rw [hq] at d0 htn;rw [hio] at D1 htn;rw [hii] at D2 htn;have HTN:=Lib.hid htn;have hlen:qs.length <= 1000:=by have:=hcd.1; rw [Q3g] at this; have:=HNO.out; omega
    have hsz:W.heap.size <= wr.heap.size:=hx.size;have hdr:=(Ext.refl wr).drew;clear d1 d2 htn hq hio hii hown hcd hx hk hlt;go_upto_region 5 with fail;clear d0;refine Flow.Q4c [.p,.p,.w,.p,.p,.w,.p,.p,.p,.w,.p,.p,.w,.w,.p,.p,.p,.w,.p,.w,.last,.last] [0,1,2,3,4,5,6,7,8,9,10,11,12,13,14,15,16,17,18,19,20,21] [[],[],[1],[],[1,2,3],[1,2,3,4],[],[6],[],[8],[],[8,9,10],[8,9,10,11],[8,9,10,11,12],[1,2,3,4,5,6,7,8,9,10,11,12,13],[],[15],[],[15,16,17],[1,2,3,4,5,6,7,8,9,10,11,12,13,14,15,16,17,18],[0,1,2,3,4,5,6,7,8,9,10,11,12,13,14,15,16,17,18,19],[0,1,2,3,4,5,6,7,8,9,10,11,12,13,14,15,16,17,18,19,20]] [20,21]
     [.c 0 (u5),.c 1 (.pointer (some ⟨g,3,none⟩)),.c 2 (.slice (some ⟨by_,oy,none⟩) no capy),.c 3 (.int .i64 k),.c 4 (.pointer (some ⟨by_,oy + k,none⟩)),.c 5 (.int .i64 io),.c 6 (.bool q),.c 7 (.bool (!q)),.c 8 (.pointer (some ⟨g,4,none⟩)),.c 9 (.slice (some ⟨bz,oz,none⟩) ni capz),.c 10 (.int .i64 k),.c 11 (.pointer (some ⟨bz,oz + k,none⟩)),.c 12 (.int .i64 ii),⟨fun v wz=>(fun v w'=>∃ g,v 13 = .slice (some ⟨g,0,none⟩) 1 1 /\ Blk w' g 3 #[.int .i64 ii]) v wz,by rintro v a b hx ⟨g,h1,h2⟩; exact ⟨g,h1,h2.ext hx⟩⟩,⟨fun v wz=>(fun v w'=>v 14 = .agg #[.int .i64 io,.bool (!q),v 13]) v wz,by intro _ _ _ _ h; exact h⟩,.c 15 (.bool q),.c 16 (.bool (!q)),⟨fun v wz=>(fun v w'=>∃ g,v 17 = .slice (some ⟨g,0,none⟩) 1 1 /\ Blk w' g 3 #[.int .i64 0]) v wz,by rintro v a b hx ⟨g,h1,h2⟩; exact ⟨g,h1,h2.ext hx⟩⟩,⟨fun v wz=>(fun v w'=>v 18 = .agg #[.int .i64 0,.bool (!q),v 17]) v wz,by intro _ _ _ _ h; exact h⟩,⟨fun v wz=>(fun v w'=>∃ g,v 19 = .slice (some ⟨g,0,none⟩) 2 2 /\ Blk w' g 49 (X0w ⟨io,!q,v 13⟩ ++ X0w ⟨0,!q,v 17⟩).toArray) v wz,by rintro v a b hx ⟨g,h1,h2⟩; exact ⟨g,h1,h2.ext hx⟩⟩,.none,.none]
     [fun v w1 w'=>Q0u w' W.heap.size 49 3 X0w (v 20) (qs ++ [⟨io,!q,v 13⟩,⟨0,!q,v 17⟩]) /\ w1.grownBy w' u5.ownBlock,fun v w1 w'=>v 21 = v 20 /\ Q0u w' W.heap.size 49 3 X0w (v 20) (qs ++ [⟨io,!q,v 13⟩,⟨0,!q,v 17⟩]) /\ w1.grownBy w' u5.ownBlock] (by kernel_rfl) rfl (by kernel_rfl) ⟨?g0,?g1,?g2,?g3,?g4,?g5,?g6,?g7,?g8,?g9,?g10,?g11,?g12,?g13,?g14,?g15,?g16,?g17,?g18,?g19,?g20,?g21,trivial⟩ ?post
    case g0 | g1 | g3 | g6 | g8 | g10 | g15=>
     intro v w1 hx;intro bb hbb;subst hbb;refine ⟨_,fun w=>?_,rfl⟩;go_simp
    case g2 | g9=>
     intro v w1 hx;(repeat intro (zq:v _ = _));intro bb hbb;subst hbb;have n0:w1.cell? ⟨g,3,none⟩ = some (.slice (some ⟨by_,oy,none⟩) no capy):=(KR.out.ext (hdr.trans hx)).cell 3;have n1:w1.cell? ⟨g,4,none⟩ = some (.slice (some ⟨bz,oz,none⟩) ni capz):=(KR.out.ext (hdr.trans hx)).cell 4;intro K hK;go_simp;exact hK _ _ (Ext.refl _) rfl
    case g4=>
     intro v w1 hx;(repeat intro (zq:v _ = _));intro bb hbb;subst hbb;have hkI2:=hko;refine ⟨_,fun w=>?_,rfl⟩;go_simp
    case g5=>
     intro v w1 hx;(repeat intro (zq:v _ = _));intro bb hbb;subst hbb;have n0:=(hdr.trans hx).cell D1.out;intro K hK;go_simp;exact hK _ _ (Ext.refl _) rfl
    case g7 | g16=>
     intro v w1 hx;(repeat intro (zq:v _ = _));intro bb hbb;subst hbb;refine ⟨_,fun w=>?_,rfl⟩;go_simp
    case g11=>
     intro v w1 hx;(repeat intro (zq:v _ = _));intro bb hbb;subst hbb;have hkI2:=hki;refine ⟨_,fun w=>?_,rfl⟩;go_simp
    case g12=>
     intro v w1 hx;(repeat intro (zq:v _ = _));intro bb hbb;subst hbb;have n0:=(hdr.trans hx).cell D2.out;intro K hK;go_simp;exact hK _ _ (Ext.refl _) rfl
    case g13=>
     intro v w1 hx;(repeat intro (zq:v _ = _));intro bb hbb;subst hbb;intro K hK;go_simp;exact hK _ _ (Ext.box _ _) ⟨_,rfl,Blk.made _ _ _⟩
    case g14=>
     intro v w1 hx (q1:v 1 = _) (q2:v 2 = _) (q3:v 3 = _) (q4:v 4 = _) (q5:v 5 = _) (q6:v 6 = _) (q7:v 7 = _) (q8:v 8 = _) (q9:v 9 = _) (q10:v 10 = _) (q11:v 11 = _) (q12:v 12 = _) (q13:(fun v w'=>∃ g,v 13 = .slice (some ⟨g,0,none⟩) 1 1 /\ Blk w' g 3 #[.int .i64 ii]) v w1);intro bb hbb;obtain ⟨g3,e3,_⟩:=q13;have o1:bb.eval (.tmp 20) = .int .i64 io:=by rw [hbb]; dsimp only; (try simp (discharger:=decide) only [eval_put_ne]); rw [Q0a (by simp only [size_put]; exact (by decide:20 < 38))]; exact q5
     have o2:bb.eval (.tmp 22) = .bool (!q):=by rw [hbb]; dsimp only; (try simp (discharger:=decide) only [eval_put_ne]); rw [Q0a (by simp only [size_put]; exact (by decide:22 < 38))]; exact q7
     have o3:bb.eval (.tmp 28) = v 13:=by rw [hbb]; dsimp only; (try simp (discharger:=decide) only [eval_put_ne]); rw [Q0a (by simp only [size_put]; exact (by decide:28 < 38))]
     rw [e3] at o3;exact ⟨_,fun w=>Z1a _ (.tmp 20) (.tmp 22) (.tmp 28) rfl o1 o2 o3 (fun w=>Y8m w _ _ _ _ _),by show Value.agg #[.int .i64 io,.bool (!q),.slice (some ⟨g3,0,none⟩) 1 1] = Value.agg #[.int .i64 io,.bool (!q),v 13]; rw [e3]⟩
    case g17=>
     intro v w1 hx;intro bb hbb;subst hbb;intro K hK;go_simp;exact hK _ _ (Ext.box _ _) ⟨_,rfl,Blk.made _ _ _⟩
    case g18=>
     intro v w1 hx (q15:v 15 = _) (q16:v 16 = _) (q17:(fun v w'=>∃ g,v 17 = .slice (some ⟨g,0,none⟩) 1 1 /\ Blk w' g 3 #[.int .i64 0]) v w1);intro bb hbb;obtain ⟨g3,e3,_⟩:=q17;have o2:bb.eval (.tmp 31) = .bool (!q):=by rw [hbb]; dsimp only; (try simp (discharger:=decide) only [eval_put_ne]); rw [Q0a (by simp only [size_put]; exact (by decide:31 < 38))]; exact q16
     have o3:bb.eval (.tmp 32) = v 17:=by rw [hbb]; dsimp only; (try simp (discharger:=decide) only [eval_put_ne]); rw [Q0a (by simp only [size_put]; exact (by decide:32 < 38))]
     rw [e3] at o3;exact ⟨_,fun w=>Z2t _ (.tmp 31) (.tmp 32) rfl o2 o3 (fun w=>Y3x w _ _ _ _),by show Value.agg #[.int .i64 0,.bool (!q),.slice (some ⟨g3,0,none⟩) 1 1] = Value.agg #[.int .i64 0,.bool (!q),v 17]; rw [e3]⟩
    case g19=>
     intro v w1 hx (q1:v 1 = _) (q2:v 2 = _) (q3:v 3 = _) (q4:v 4 = _) (q5:v 5 = _) (q6:v 6 = _) (q7:v 7 = _) (q8:v 8 = _) (q9:v 9 = _) (q10:v 10 = _) (q11:v 11 = _) (q12:v 12 = _) (q13:(fun v w'=>∃ g,v 13 = .slice (some ⟨g,0,none⟩) 1 1 /\ Blk w' g 3 #[.int .i64 ii]) v w1) (q14:(fun v w'=>v 14 = .agg #[.int .i64 io,.bool (!q),v 13]) v w1) (q15:v 15 = _) (q16:v 16 = _) (q17:(fun v w'=>∃ g,v 17 = .slice (some ⟨g,0,none⟩) 1 1 /\ Blk w' g 3 #[.int .i64 0]) v w1) (q18:(fun v w'=>v 18 = .agg #[.int .i64 0,.bool (!q),v 17]) v w1);intro bb hbb;intro K hK;obtain ⟨g3,e3,_⟩:=q13;obtain ⟨g4,e4,_⟩:=q17;have o1:bb.eval (.tmp 29) = .agg #[.int .i64 io,.bool (!q),v 13]:=by rw [hbb]; dsimp only; (try simp (discharger:=decide) only [eval_put_ne]); rw [Q0a (by simp only [size_put]; exact (by decide:29 < 38))]; exact q14
     have o2:bb.eval (.tmp 33) = .agg #[.int .i64 0,.bool (!q),v 17]:=by rw [hbb]; dsimp only; (try simp (discharger:=decide) only [eval_put_ne]); rw [Q0a (by simp only [size_put]; exact (by decide:33 < 38))]; exact q18
     rw [e3] at o1;rw [e4] at o2;have hbl:Blk (w1.alloc (.cells #[.int .i64 io,.bool (!q),.slice (some ⟨g3,0,none⟩) 1 1,.int .i64 0,.bool (!q),.slice (some ⟨g4,0,none⟩) 1 1] 49)) w1.heap.size 49 (X0w ⟨io,!q,v 13⟩ ++ X0w ⟨0,!q,v 17⟩).toArray:=by rw [e3,e4]; exact Blk.made _ _ _
     exact Z9l 45 2 (.tmp 29) (.tmp 33) rfl o1 o2 (Z9m w1 _ _ _ _ _ _ _ _ _ _) (hK _ _ (Ext.box _ _) ⟨_,rfl,hbl⟩)
    case g20=>
     intro v w1 hx (q0:v 0 = _) (q1:v 1 = _) (q2:v 2 = _) (q3:v 3 = _) (q4:v 4 = _) (q5:v 5 = _) (q6:v 6 = _) (q7:v 7 = _) (q8:v 8 = _) (q9:v 9 = _) (q10:v 10 = _) (q11:v 11 = _) (q12:v 12 = _) (q13:(fun v w'=>∃ g,v 13 = .slice (some ⟨g,0,none⟩) 1 1 /\ Blk w' g 3 #[.int .i64 ii]) v w1) _ (q15:v 15 = _) (q16:v 16 = _) (q17:(fun v w'=>∃ g,v 17 = .slice (some ⟨g,0,none⟩) 1 1 /\ Blk w' g 3 #[.int .i64 0]) v w1) _ (q19:(fun v w'=>∃ g,v 19 = .slice (some ⟨g,0,none⟩) 2 2 /\ Blk w' g 49 (X0w ⟨io,!q,v 13⟩ ++ X0w ⟨0,!q,v 17⟩).toArray) v w1);intro wl hT;obtain rfl:wl = w1:=hT;intro bb hbb;intro K hK;obtain ⟨g,hg10,hb10⟩:=q19;obtain ⟨g3,e3,_⟩:=q13;obtain ⟨g4,e4,_⟩:=q17;have o1:bb.eval (.tmp 15) = u5:=by rw [hbb]; dsimp only; (try simp (discharger:=decide) only [eval_put_ne]); rw [Q0a (by simp only [size_put]; exact (by decide:15 < 38))]; exact q0
     have o2:bb.eval (.tmp 34) = .slice (some ⟨g,0,none⟩) 2 2:=by rw [hbb]; dsimp only; (try simp (discharger:=decide) only [eval_put_ne]); rw [Q0a (by simp only [size_put]; exact (by decide:34 < 38))]; exact hg10
     have hxx:=hdr.trans hx;exact Q7k _ _ 45 rfl W.heap.size 49 i0 (.agg #[.int .i64 0,.bool false,.slice none 0 0]) 3 40 Tryz.underlying45 hi0 hz0 hz1 hz2 rfl (by decide) X0w (fun _=>rfl) u5 qs [⟨io,!q,v 13⟩,⟨0,!q,v 17⟩] o1 (HOWN.out.below hxx) (some ⟨g,0,none⟩) 2 o2 (fun _=>⟨_,rfl,fun j u hu=>Q5k hb10 j u (by simpa using hu)⟩) (by rw [e3,e4]; intro u hu; simp [X0w] at hu; rcases hu with rfl | rfl | rfl | rfl | rfl | rfl <;> rfl) (by simp; omega) (by decide) (by have:=hxx.size; omega) (fun v' w' h1 h2=>hK _ _ ⟨h1,h2⟩)
    case g21=>
     intro v w1 hx (q0:v 0 = _) (q1:v 1 = _) (q2:v 2 = _) (q3:v 3 = _) (q4:v 4 = _) (q5:v 5 = _) (q6:v 6 = _) (q7:v 7 = _) (q8:v 8 = _) (q9:v 9 = _) (q10:v 10 = _) (q11:v 11 = _) (q12:v 12 = _) _ _ (q15:v 15 = _) (q16:v 16 = _) _ _ _;intro wl hT;replace hT:(fun v w1 w'=>Q0u w' W.heap.size 49 3 X0w (v 20) (qs ++ [⟨io,!q,v 13⟩,⟨0,!q,v 17⟩]) /\ w1.grownBy w' u5.ownBlock) v w1 wl:=hT;intro bb hbb;intro K hK;obtain ⟨hT0,hT1⟩:=hT;have o1:bb.eval (.tmp 35) = v 20:=by rw [hbb]; dsimp only; (try simp (discharger:=decide) only [eval_put_ne]); rw [Q0a (by simp only [size_put]; exact (by decide:35 < 38))]
     exact Q9d (.tmp 35) rfl o1 (hK _ _ ⟨rfl,hT0,hT1⟩)
    case post =>
     intro v w1 hx;(iterate 13 intro (zq:v _ = _));intro (q13:(fun v w'=>∃ g,v 13 = .slice (some ⟨g,0,none⟩) 1 1 /\ Blk w' g 3 #[.int .i64 ii]) v w1) (q14:(fun v w'=>v 14 = .agg #[.int .i64 io,.bool (!q),v 13]) v w1);(iterate 2 intro (zq:v _ = _));intro (q17:(fun v w'=>∃ g,v 17 = .slice (some ⟨g,0,none⟩) 1 1 /\ Blk w' g 3 #[.int .i64 0]) v w1) (q18:(fun v w'=>v 18 = .agg #[.int .i64 0,.bool (!q),v 17]) v w1) (q19:(fun v w'=>∃ g,v 19 = .slice (some ⟨g,0,none⟩) 2 2 /\ Blk w' g 49 (X0w ⟨io,!q,v 13⟩ ++ X0w ⟨0,!q,v 17⟩).toArray) v w1);intro w2 hE;replace hE:(fun v w1 w'=>v 21 = v 20 /\ Q0u w' W.heap.size 49 3 X0w (v 20) (qs ++ [⟨io,!q,v 13⟩,⟨0,!q,v 17⟩]) /\ w1.grownBy w' u5.ownBlock) v w1 w2:=hE;simp only [Flow.acts,Act.put];go_simp;obtain ⟨h21,hom,hgm⟩:=hE;obtain ⟨g3,e3,hb3⟩:=q13;obtain ⟨g4,e4,hb4⟩:=q17;have hxx:=hdr.trans hx;have howx:=HOWN.out.below hxx;have hx2:Ext W w2:=Below.grown (HXR.out.trans hxx) hgm (by have:=(HXR.out.trans hxx).size; omega) (fun j hj=>by have:=(howx.lt j hj).1; omega)
     have hkeep:∀ v L,Q0i w1 0 3 (.int .i64) v L -> Q0i w2 0 3 (.int .i64) v L:=fun v L h=>Q2j h howx (by decide) hgm
     have o13:Q0i w1 0 3 (.int .i64) (v 13) [ii]:=by rw [e3]; exact Y0e (V:=[ii]) hb3 rfl (by decide)
     have o17:Q0i w1 0 3 (.int .i64) (v 17) [0]:=by rw [e4]; exact Y0e (V:=[0]) hb4 rfl (by decide)
     have hcd2:=((HCD.out.map (fun v L h=>Q0i.below h hxx)).map hkeep).add (p:=⟨io,!q,v 13⟩) (r:=⟨0,!q,v 17⟩) (c:=⟨io,!q,[ii]⟩) (d:=⟨0,!q,[0]⟩) ⟨rfl,rfl,hkeep _ _ o13⟩ ⟨rfl,rfl,hkeep _ _ o17⟩;rw [<- HTN.out] at hcd2;have HCD2:=Lib.hid hcd2;have HOM:=Lib.hid hom;have HX2:=Lib.hid hx2;clear h21 hom hgm hb3 hb4 e3 e4 hxx howx hx2 hkeep o13 o17 hcd2 hx hdr q14 q18 q19;(repeat clear zq);go_wp2;go_roundw
     case rel=>exact ⟨k + 1,_,by have:=HK.out; omega,by (try rw [HWK.out]); go_num,HOM.out,HCD2.out,HX2.out⟩
     case measure=>have:=HK.out; (try rw [HWK.out]); simp [intOf]; omega
  . obtain rfl:k = n:=by omega
    have hkI:¬ (k:Int) < (k:Int):=by omega
    have HQL:Hid (qs.length <= 100000):=Lib.hid (by have:=hcd.1; rw [Q3g] at this; have:=HNO.out; omega)
    clear hown hcd hx;go_wp2;go_ret;exact ⟨_,rfl,CdR.conds HOWN.out HCD.out HQL.out (fun j hj=>by rw [Q3g] at hj; rw [Z8g _ _ _ _ _ hj]; decide),HXW.out.trans HXR.out⟩
end Go.Proofs
namespace Go.Proofs
open Go.Lib
def parts (c:UInt8):List UInt8 -> List (List UInt8)
 | []=>[[]]
 | b :: l=>if b = c then [] :: parts c l else match parts c l with
   | []=>[[b]]
   | x :: r=>(b :: x) :: r
end Go.Proofs
namespace Go.Proofs
open Go.RowKit Go.Tw Go.Flow
attribute [local go_sem] Oper.semAt_some
theorem Tryz.Y2v (w:World):(isAgg 148).run Tryz.prog w = .ok true w:=by kernel_rfl
theorem Tryz.Q8t (w:World):(sizeOf 148).run Tryz.prog w = .ok 2 w:=by kernel_rfl
theorem Z2w {a b:Int}:∀ u ∈ (#[Value.int .i64 a,.int .i64 b]:Array Value).toList,u.oneCell' = true:=by
 intro u hu;simp only [List.mem_cons,List.not_mem_nil,or_false] at hu
 rcases hu with rfl | rfl <;> rfl
theorem Z5e (w:World) (v:Value) (s:Q0b) (c d:Int) (t:Nat) (wt:Int) (hv:Q0p w v s) (ht:t < s.ships.length) (hc:0 <= c /\ c <= 1000000000000) (hd:0 <= d /\ d <= 1000000000000) (hw:0 <= wt /\ wt <= 1000000) (hs:0 <= ix s.ships t /\ ix s.ships t <= 1000) :
    Calls Tryz.prog 117 #[.agg #[.int .i64 c,.int .i64 d],v,.int .i64 (t:Int),.int .i64 wt] w fun e w'=>e = .returned (.agg #[.int .i64 (c + wt),.int .i64 (d + wt * ix s.ships t)]) /\ Ext w w':=by
 obtain ⟨a,b,rfl,h2⟩:=hv;obtain ⟨A,capa,rfl,-,-,hcA⟩:=h2.ships.opened;obtain ⟨B,capb,rfl,-,-,-⟩:=h2.members.opened;obtain ⟨ba,oa,rfl,hca⟩:=hcA t ht;have htI:(t:Int) < s.ships.length:=by omega
 obtain ⟨dl,hdl⟩:∃ x,ix s.ships t = x:=⟨_,rfl⟩;rw [hdl] at hca hs ⊢;have m1:0 <= wt * dl:=Int.mul_nonneg hw.1 hs.1;have m2:wt * dl <= 1000000 * 1000:=Int.mul_le_mul hw.2 hs.2 hs.1 (by omega)
 obtain ⟨pr,hpr⟩:∃ x,wt * dl = x:=⟨_,rfl⟩;rw [hpr] at m1 m2 ⊢;have hw1:IntKind.i64.wrap (c + wt) = c + wt:=Q2q _ (by omega) (by omega)
 have hw2:IntKind.i64.wrap pr = pr:=Q2q _ (by omega) (by omega)
 have hw3:IntKind.i64.wrap (d + pr) = d + pr:=Q2q _ (by omega) (by omega)
 have HCA:=Lib.hid hca;clear h2 hcA hca hdl m1 m2 hc hd hw hs;go_enter Tryz.func117,Tryz.ntmps117;go_wp2;change Code.wp _ _ _ _ (((w.alloc (.cells #[.int .i64 c,.int .i64 d] 148)).alloc (.cells #[.int .i64 s.limit,.slice (some ⟨ba,oa,none⟩) s.ships.length capa,.slice B s.members.length capb] 74)).alloc (.cells #[.int .i64 0,.int .i64 0] 148));obtain ⟨W,hWW,k0,k1,k2,HXW,eW⟩:=Y3i w 148 #[.int .i64 c,.int .i64 d] 74 #[.int .i64 s.limit,.slice (some ⟨ba,oa,none⟩) s.ships.length capa,.slice B s.members.length capb] 148 #[.int .i64 0,.int .i64 0];rw [hWW];clear hWW;have K0:=Lib.hid k0;have K1:=Lib.hid k1;have K2:=Lib.hid k2;obtain ⟨gc,hgc⟩:∃ x,w.heap.size = x:=⟨_,rfl⟩;have HGC:=Lib.hid hgc;rw [hgc] at K0 K1 K2 eW ⊢;clear k0 k1 k2 hgc;have hdr:=(Ext.refl W).drew;refine Flow.Q4c [.p,.w,.p,.p,.p,.w,.p,.p,.w,.p,.p,.w,.p,.p,.p,.last] [0,1,2,3,4,5,6,7,8,9,10,11,12,13,14,15] [[],[0],[],[0,1,2],[],[4],[],[],[7],[],[7,8,9],[7,8,9,10],[6,7,8,9,10,11],[4,5,6,7,8,9,10,11,12],[0,1,2,3,4,5,6,7,8,9,10,11,12,13],[0,1,2,3,4,5,6,7,8,9,10,11,12,13,14]] [15]
  [.c 0 (.pointer (some ⟨gc,0,none⟩)),.c 1 (.int .i64 c),.c 2 (.int .i64 wt),.c 3 (.int .i64 (c + wt)),.c 4 (.pointer (some ⟨gc,1,none⟩)),.c 5 (.int .i64 d),.c 6 (.int .i64 wt),.c 7 (.pointer (some ⟨gc + 1,1,none⟩)),.c 8 (.slice (some ⟨ba,oa,none⟩) s.ships.length capa),.c 9 (.int .i64 (t:Int)),.c 10 (.pointer (some ⟨ba,oa + t,none⟩)),.c 11 (.int .i64 dl),.c 12 (.int .i64 pr),.c 13 (.int .i64 (d + pr)),.c 14 (.agg #[.int .i64 (c + wt),.int .i64 (d + pr)]),.none]
  [fun v w1 w'=>Blk w' (gc + 1 + 1) 148 #[.int .i64 (c + wt),.int .i64 (d + pr)] /\ (∀ n,n <= gc + 1 + 1 -> Below n w1 w')] (by kernel_rfl) rfl (by kernel_rfl) ⟨?g0,?g1,?g2,?g3,?g4,?g5,?g6,?g7,?g8,?g9,?g10,?g11,?g12,?g13,?g14,?g15,trivial⟩ ?post
 case g0 | g2 | g4 | g6 | g7 | g9=>
  intro v w1 hx;intro bb hbb;subst hbb;refine ⟨_,fun w=>?_,rfl⟩;go_simp
 case g1 | g5 | g8 | g11=>
  intro v w1 hx;(repeat intro (zq:v _ = _));intro bb hbb;subst hbb;have n0:w1.cell? ⟨gc,0,none⟩ = some (.int .i64 c):=(K0.out.ext (hdr.trans hx)).cell 0;have n1:w1.cell? ⟨gc,1,none⟩ = some (.int .i64 d):=(K0.out.ext (hdr.trans hx)).cell 1;have n2:w1.cell? ⟨gc + 1,1,none⟩ = some (.slice (some ⟨ba,oa,none⟩) s.ships.length capa):=(K1.out.ext (hdr.trans hx)).cell 1;have n3:w1.cell? ⟨ba,oa + t,none⟩ = some (.int .i64 dl):=(HXW.out.trans (hdr.trans hx)).cell HCA.out;intro K hK;go_simp;exact hK _ _ (Ext.refl _) rfl
 case g3 | g10 | g12 | g13 | g14=>
  intro v w1 hx;(repeat intro (zq:v _ = _));intro bb hbb;subst hbb;refine ⟨_,fun w=>?_,rfl⟩;go_simp
 case g15=>
  intro v w1 hx;(repeat intro (zq:v _ = _));intro wl hT;obtain rfl:wl = w1:=hT;intro bb hbb;intro K hK;have o1:bb.eval (.tmp 8) = .pointer (some ⟨gc + 1 + 1,0,none⟩):=by rw [hbb]; dsimp only; (try simp (discharger:=decide) only [eval_put_ne]); rfl
  have o2:bb.eval (.tmp 23) = .agg #[.int .i64 (c + wt),.int .i64 (d + pr)]:=by rw [hbb]; dsimp only; (try simp (discharger:=decide) only [eval_put_ne]); rw [Q0a (by simp only [size_put]; exact (by decide:23 < 24))]; assumption
  exact Q1y (.tmp 8) (.tmp 23) _ rfl Tryz.Q8t o1 o2 (K2.out.ext (hdr.trans hx)) rfl rfl Z2w (fun vv w' hb hl ho=>hK _ _ ⟨hb,hl⟩)
 case post =>
  intro v w1 hx;(iterate 15 intro (zq:v _ = _));intro w2 hE;replace hE:(fun v w1 w'=>Blk w' (gc + 1 + 1) 148 #[.int .i64 (c + wt),.int .i64 (d + pr)] /\ (∀ n,n <= gc + 1 + 1 -> Below n w1 w')) v w1 w2:=hE;simp only [Flow.acts,Act.put];go_simp;obtain ⟨hb9,hl9⟩:=hE;have HX9:Hid (Below w.heap.size W w2):=Lib.hid (Below.trans ((hdr.trans hx).mono (by have:=HGC.out; omega)) (hl9 _ (by have:=HGC.out; omega)))
  clear hx hdr hl9;(repeat clear zq);go_wp2;refine bodyPost_ret (Q2v Tryz.results117 rfl hb9 Tryz.Y2v Tryz.Q8t) rfl ?_;exact ⟨rfl,Below.trans HXW.out HX9.out⟩
theorem Z3b (l:List Bool) {k:Nat} (hk:k < l.length):countB (l.take (k + 1)) = countB (l.take k) + if bx l k then 1 else 0:=by
 have h:l.take (k + 1) = l.take k ++ [bx l k]:=by rw [List.take_succ_eq_append_getElem hk]; simp [bx,hk]
 rw [h];unfold countB;rw [List.countP_append];cases bx l k <;> simp
def Q9f (s:Q0b) (l:List Bool) (k:Nat):Int:=((List.range k).map fun t=>if bx l t then ix s.ships t else 0).sum
theorem Y3t (s:Q0b) (l:List Bool) (k:Nat):Q9f s l (k + 1) = Q9f s l k + if bx l k then ix s.ships k else 0:=by
 unfold Q9f; rw [List.range_succ,List.map_append,List.sum_append]; simp
theorem Z8y (s:Q0b) (l:List Bool):Q9f s l l.length = Q2s s l:=rfl
theorem Z5g {s:Q0b} (hS:Q0m s) (l:List Bool):∀ k,k <= s.ships.length -> 0 <= Q9f s l k /\ Q9f s l k <= 1000 * k
 | 0,_=>by simp [Q9f]
 | k + 1,h=>by
   have ih:=Z5g hS l k (by omega)
   have hd:=hS.delays (ix s.ships k) (by rw [Q5p (show k < s.ships.length by omega)]; exact List.getElem_mem _)
   rw [Y3t]
   split <;> omega
theorem J5c {a b A B:Int} (ha:0 <= a /\ a <= A) (hb:0 <= b /\ b <= B):0 <= a * b /\ a * b <= A * B :=
 ⟨Int.mul_nonneg ha.1 hb.1,Int.mul_le_mul ha.2 hb.2 hb.1 (by omega)⟩
theorem Z4a {w w':World} {O b k:Nat} {T:TypeId} {x y:Int} {v:Value} (hO:Blk w O T #[.int .i64 x,.int .i64 y]) (h:Off O w w') (hc:w.cell? ⟨b,k,none⟩ = some v) (hv:∀ n,v ≠ .int .i64 n):w'.cell? ⟨b,k,none⟩ = some v:=by
 have hb:=World.block_lt_of_cell? w _ hc;have hne:b ≠ O:=by
  rintro rfl;rw [hO.cell k] at hc
  rcases k with _ | _ | k
  . cases hc; exact hv _ rfl
  . cases hc; exact hv _ rfl
  . simp at hc
 have he:=h.2.2 b hb hne;unfold World.cell? at hc ⊢;rw [he]; exact hc
theorem Z9k (w:World) (v u:Value) (s:Q0b) (p:List Rul) (hv:Q0p w v s) (hu:Q6d w u p) (hS:Q0m s) (hp:Q4l s.hist p = 0) :
    Calls Tryz.prog 62 #[v,u] w fun e w'=>e = .returned (.agg #[.int .i64 (Q3j s p),.int .i64 (X1f s p)]) /\ Ext w w':=by
 have h8:=hS.some;have h6:=hS.tides;have HS:=Lib.hid hS;have HALL:Hid (Q4s s p countB s.members.length = Q3j s p):=Lib.hid (Y3o s p countB);have HALD:Hid (Q4s s p (Q2s s) s.members.length = X1f s p):=Lib.hid (Y3o s p (Q2s s));have HBC:=Lib.hid (fun k hk=>X8x hS p (f:=countB) (M:=6) (by omega) (Y8h hS) k hk)
 have HBD:=Lib.hid (fun k hk=>X8x hS p (f:=Q2s s) (M:=6000) (by omega) (J1l hS) k hk)
 have HCL:Hid (∀ (W:World) (v u:Value),Q0p W v s -> Q6d W u p -> Calls Tryz.prog 48 #[v,u] W fun e w'=>∃ x,e = .returned x /\ Q7d w' x (Q4e s p) /\ Ext W w'):=Lib.hid (fun W v u h1 h2=>Y9y W v u s p h1 h2 hS hp);obtain ⟨a,b,rfl,h2⟩:=hv;obtain ⟨rv,rfl,hr⟩:=hu;obtain ⟨A,capa,rfl,-,-,-⟩:=h2.ships.opened;obtain ⟨M,capb,rfl,-,-,-⟩:=h2.members.opened;obtain ⟨R,capr,rfl,-,-,-⟩:=hr.opened;have H2:=Lib.hid h2;have HR:=Lib.hid hr;clear h2 hr hS hp;go_enter Tryz.func62,Tryz.ntmps62;go_wp2_with fail;change Calls _ _ _ ((((w.alloc (.cells #[.int .i64 s.limit,.slice A s.ships.length capa,.slice M s.members.length capb] 74)).alloc (.cells #[.slice R p.length capr] 64)).alloc (.cells #[.int .i64 0,.int .i64 0] 148)).alloc (.cells #[.int .i64 0,.int .i64 0] 148)) _;have k0:=Blk.made w 74 #[.int .i64 s.limit,.slice A s.ships.length capa,.slice M s.members.length capb];have x0:=Ext.box w (.cells #[.int .i64 s.limit,.slice A s.ships.length capa,.slice M s.members.length capb] 74);have es0:(w.alloc (.cells #[.int .i64 s.limit,.slice A s.ships.length capa,.slice M s.members.length capb] 74)).heap.size = w.heap.size + 1:=by simp
 obtain ⟨X0,hX0⟩:∃ X,w.alloc (.cells #[.int .i64 s.limit,.slice A s.ships.length capa,.slice M s.members.length capb] 74) = X:=⟨_,rfl⟩;rw [hX0] at k0 x0 es0 ⊢;clear hX0;have k1:=Blk.made X0 64 #[.slice R p.length capr];have x1:=Ext.box X0 (.cells #[.slice R p.length capr] 64);have es1:(X0.alloc (.cells #[.slice R p.length capr] 64)).heap.size = X0.heap.size + 1:=by simp
 obtain ⟨X1,hX1⟩:∃ X,X0.alloc (.cells #[.slice R p.length capr] 64) = X:=⟨_,rfl⟩;rw [hX1] at k1 x1 es1 ⊢;clear hX1;have k2:=Blk.made X1 148 #[.int .i64 0,.int .i64 0];have x2:=Ext.box X1 (.cells #[.int .i64 0,.int .i64 0] 148);have es2:(X1.alloc (.cells #[.int .i64 0,.int .i64 0] 148)).heap.size = X1.heap.size + 1:=by simp
 obtain ⟨X2,hX2⟩:∃ X,X1.alloc (.cells #[.int .i64 0,.int .i64 0] 148) = X:=⟨_,rfl⟩;rw [hX2] at k2 x2 es2 ⊢;clear hX2;have k3:=Blk.made X2 148 #[.int .i64 0,.int .i64 0];have x3:=Ext.box X2 (.cells #[.int .i64 0,.int .i64 0] 148);have es3:(X2.alloc (.cells #[.int .i64 0,.int .i64 0] 148)).heap.size = X2.heap.size + 1:=by simp
 obtain ⟨X3,hX3⟩:∃ X,X2.alloc (.cells #[.int .i64 0,.int .i64 0] 148) = X:=⟨_,rfl⟩;rw [hX3] at k3 x3 es3 ⊢;clear hX3;replace k0:=((k0.ext x1).ext x2).ext x3;replace k1:=(k1.ext x2).ext x3;replace k2:=k2.ext x3;have e0:X0.heap.size = w.heap.size + 1:=by omega
 have e1:X1.heap.size = w.heap.size + 1 + 1:=by omega
 have e2:X2.heap.size = w.heap.size + 1 + 1 + 1:=by omega
 have e3:X3.heap.size = w.heap.size + 1 + 1 + 1 + 1:=by omega
 rw [e0] at k1;rw [e1] at k2;rw [e2] at k3;have HXW:Hid (Ext w X3):=Lib.hid (Ext.trans (Ext.trans (Ext.trans (x0) x1) x2) x3);have eW:X3.heap.size = w.heap.size + 1 + 1 + 1 + 1:=e3;clear x0 es0 e0 x1 es1 e1 x2 es2 e2 x3 es3 e3;obtain ⟨W,hWW⟩:∃ W,X3 = W:=⟨_,rfl⟩;rw [hWW] at HXW eW ⊢ k0 k1 k2 k3;clear hWW;refine (HCL.out _ _ _ ⟨_,_,rfl,H2.out.ext HXW.out⟩ ⟨_,rfl,HR.out.ext HXW.out⟩).mono ?_;rintro e w5 ⟨x,rfl,hxb,hx5⟩;have K0:=Lib.hid (k0.ext hx5);have KR:=Lib.hid (k2.ext hx5);have KO:=Lib.hid (k3.ext hx5);have HX5:=Lib.hid (HXW.out.trans hx5);have HSZ5:Hid (w.heap.size + 1 + 1 + 1 + 1 <= w5.heap.size):=Lib.hid (by have:=hx5.size; omega)
 obtain ⟨U,capu,rfl,-,-,hcu⟩:=hxb.opened;rw [Q5g] at hcu ⊢;have HCU:=Lib.hid hcu;obtain ⟨gs,hgs⟩:∃ x,w.heap.size = x:=⟨_,rfl⟩;have HGS:=Lib.hid hgs;rw [hgs] at K0 KR KO HSZ5 ⊢;clear k0 k1 k2 k3 hx5 hxb hcu hgs eW HXW;go_wp2
 go_loopw [14] (fun iv wr=>∃ i:Nat,i <= s.members.length /\ iv = .int .i64 i /\ Blk wr (gs + 1 + 1 + 1) 148 #[.int .i64 (Q4s s p countB i),.int .i64 (Q4s s p (Q2s s) i)] /\ Off (gs + 1 + 1 + 1) w5 wr) (fun iv _=>s.members.length - (intOf iv).toNat)
 case atStart=>exact ⟨0,Nat.zero_le _,rfl,KO.out,Off.refl _ _⟩
 case round =>
  obtain ⟨i,him,rfl,hblk,hbel⟩:=hrel;have HBL:=Lib.hid hblk;have HBE:=Lib.hid hbel;clear hblk hbel
  by_cases hlt:i < s.members.length
  . obtain ⟨bu,ou,xk,rfl,-,hxk,hbk⟩:=HCU.out i hlt
    rw [X9f p hlt] at hbk;have hlen:(Q0w p (Q0d s.members i)).length = s.ships.length:=by rw [Q6z,(HS.out.shaped i hlt).1]
    have HNC:Hid (Q4s s p countB (i + 1) = Q4s s p countB i + Q0h s.members i * countB (Q0w p (Q0d s.members i))):=Lib.hid rfl;have HND:Hid (Q4s s p (Q2s s) (i + 1) = Q4s s p (Q2s s) i + Q0h s.members i * Q2s s (Q0w p (Q0d s.members i))):=Lib.hid rfl;have hbc:=HBC.out i him;have hbd:=HBD.out i him;have hwt:=HS.out.weights i hlt;obtain ⟨bm,off,capx,capy,capz,X,Y,Z,hme⟩:=Q4r (H2.out.members.ext HX5.out) hlt;obtain ⟨bm',off',_,_,_,_,_,_,hme'⟩:=Q4r H2.out.members hlt;have hbm:bm < gs:=by
     have h1:=hme.addr;have h2:=hme'.addr;rw [h1] at h2;cases h2;have:=hme'.lt;have:=HGS.out;omega
    have hA:=hme.addr;subst hA;have HE1:=Lib.hid hme.e1;obtain ⟨cl,hcl⟩:∃ x,Q0w p (Q0d s.members i) = x:=⟨_,rfl⟩;rw [hcl] at hbk hlen HNC HND;obtain ⟨wt,hwte⟩:∃ x,Q0h s.members i = x:=⟨_,rfl⟩;rw [hwte] at HE1 HNC HND hwt;obtain ⟨Ci,hCi⟩:∃ x,Q4s s p countB i = x:=⟨_,rfl⟩;rw [hCi] at hbc HNC HBL;obtain ⟨Di,hDi⟩:∃ x,Q4s s p (Q2s s) i = x:=⟨_,rfl⟩;rw [hDi] at hbd HND HBL;obtain ⟨Uk,capk,rfl,-,-,hck⟩:=hbk.opened;have HCK:=Lib.hid hck;have hxr:=Z4a KO.out HBE.out hxk (by intro n h; cases h)
    have hiI:(i:Int) < s.members.length:=by omega
    have HLEN:=Lib.hid hlen;have HBC2:Hid (0 <= Ci /\ Ci <= 48000):=Lib.hid (by
     have:(i:Int) * (1000 * 6) <= 8 * (1000 * 6):=Int.mul_le_mul_of_nonneg_right (by omega) (by omega)
     omega)
    have HBD2:Hid (0 <= Di /\ Di <= 48000000):=Lib.hid (by
     have:(i:Int) * (1000 * 6000) <= 8 * (1000 * 6000):=Int.mul_le_mul_of_nonneg_right (by omega) (by omega)
     omega)
    have HWT:=Lib.hid hwt;clear hme hme' hxk hbk hcl hwte hCi hDi hck hbc hbd hlen hwt
    go_light
    go_wp2;clear hxr
    go_loopw [21] (fun tv wr=>∃ t:Nat,t <= cl.length /\ tv = .int .i64 t /\ Blk wr (gs + 1 + 1 + 1) 148 #[.int .i64 (Ci + wt * countB (cl.take t)),.int .i64 (Di + wt * Q9f s cl t)] /\ Off (gs + 1 + 1 + 1) w5 wr) (fun tv _=>cl.length - (intOf tv).toNat)
    case atStart=>exact ⟨0,Nat.zero_le _,rfl,by simpa [countB,Q9f] using HBL.out,HBE.out⟩
    case round =>
     obtain ⟨t,htl,rfl,hblk,hoff⟩:=hrel;have HB2:=Lib.hid hblk;have HO2:=Lib.hid hoff;clear hblk hoff
     by_cases hlt2:t < cl.length
     . obtain ⟨bk,ok,rfl,-,hcc⟩:=HCK.out t hlt2
       replace hcc:=Z4a KO.out HO2.out hcc (by intro n h; cases h)
       have htI:(t:Int) < cl.length:=by omega
       have hts:t < s.ships.length:=by have:=HLEN.out; omega
       have HSC:=Lib.hid (Z3b cl hlt2);have HSD:=Lib.hid (Y3t s cl t);cases hq:bx cl t with
       | false =>
         rw [hq] at hcc HSC HSD;have HQ:Hid (countB (cl.take (t + 1)) = countB (cl.take t) /\ Q9f s cl (t + 1) = Q9f s cl t):=Lib.hid ⟨by rw [HSC.out]; simp,by rw [HSD.out]; simp⟩
         clear hq;go_wp2;go_roundw
         case rel=>exact ⟨t + 1,by omega,by go_num,by rw [HQ.out.1,HQ.out.2]; exact HB2.out,HO2.out⟩
         case measure=>simp [intOf]; omega
       | true =>
         rw [hq] at hcc HSC HSD;have HQ:Hid (countB (cl.take (t + 1)) = countB (cl.take t) + 1 /\ Q9f s cl (t + 1) = Q9f s cl t + ix s.ships t):=Lib.hid ⟨by rw [HSC.out]; simp,by rw [HSD.out]; simp⟩
         have hdt:=HS.out.delays (ix s.ships t) (by rw [Q5p hts]; exact List.getElem_mem _)
         have h1:=J5c (b:=countB (cl.take t)) (B:=6) (show 0 <= wt /\ wt <= 1000 by have:=HWT.out; omega) (Y8h HS.out _ (by rw [List.length_take]; omega))
         have h2:=Z5g HS.out cl t (by omega)
         have h3:=J5c (b:=Q9f s cl t) (B:=6000) (show 0 <= wt /\ wt <= 1000 by have:=HWT.out; omega) (by omega)
         have HADD:=Lib.hid (fun (W:World) (u:Value) (hu:Q0p W u s)=>Z5e W u s (Ci + wt * countB (cl.take t)) (Di + wt * Q9f s cl t) t wt hu hts (by have:=HBC2.out; omega) (by have:=HBD2.out; omega) (by have:=HWT.out; omega) hdt)
         have HFC:Hid (Ci + wt * countB (cl.take (t + 1)) = Ci + wt * countB (cl.take t) + wt):=Lib.hid (by rw [HQ.out.1,Int.mul_add]; omega)
         have HFD:Hid (Di + wt * Q9f s cl (t + 1) = Di + wt * Q9f s cl t + wt * ix s.ships t):=Lib.hid (by rw [HQ.out.2,Int.mul_add]; omega)
         obtain ⟨C,hC⟩:∃ x,Ci + wt * countB (cl.take t) = x:=⟨_,rfl⟩;obtain ⟨D,hD⟩:∃ x,Di + wt * Q9f s cl t = x:=⟨_,rfl⟩;rw [hC] at HADD HFC HB2;rw [hD] at HADD HFD HB2;obtain ⟨dl,hdl⟩:∃ x,wt * ix s.ships t = x:=⟨_,rfl⟩;rw [hdl] at HADD HFD;have hwr:=HO2.out.2.1;have HHE:Hid (wr.cell? ⟨bm,off + i * 5 + 1,none⟩ = some (.int .i64 wt)):=Lib.hid ((HO2.out.1.cell (p:=⟨bm,off + i * 5 + 1,none⟩) (show bm < gs + 1 + 1 + 1 by omega)).trans HE1.out)
         have HK0:=Lib.hid (K0.out.below HO2.out.1 (by omega))
         have HSEA:Hid (∀ W,Ext wr W -> Q0p W (.agg #[.int .i64 s.limit,.slice A s.ships.length capa,.slice (some ⟨bm,off,none⟩) s.members.length capb]) s) :=
          Lib.hid (fun W hW=>⟨_,_,rfl,H2.out.ext (Below.trans HX5.out (Below.trans (HO2.out.1.mono (by have:=HGS.out; omega)) (hW.mono (by have:=HGS.out; have:=HSZ5.out; omega))))⟩)
         have hdr:=(Ext.refl wr).drew;have HSZR:Hid (gs + 1 + 1 + 1 + 1 <= wr.heap.size):=Lib.hid (by have:=HSZ5.out; omega)
         clear hq hdt h1 h2 h3 hC hD hdl hwr
         go_light
         go_wp2;refine Flow.Q4c [.w,.w,.p,.p,.w,.p,.p,.p,.w,.w,.last] [0,1,2,3,4,5,6,7,8,9,10] [[],[],[],[],[3],[],[3,4,5],[3,4,5,6],[3,4,5,6,7],[0,1,2,3,4,5,6,7,8],[0,1,2,3,4,5,6,7,8,9]] [10]
          [.c 0 (.agg #[.int .i64 C,.int .i64 D]),.c 1 (.agg #[.int .i64 s.limit,.slice A s.ships.length capa,.slice (some ⟨bm,off,none⟩) s.members.length capb]),.c 2 (.int .i64 (t:Int)),.c 3 (.pointer (some ⟨gs,2,none⟩)),.c 4 (.slice (some ⟨bm,off,none⟩) s.members.length capb),.c 5 (.int .i64 (i:Int)),.c 6 (.pointer (some ⟨bm,off + i * 5,none⟩)),.c 7 (.pointer (some ⟨bm,off + i * 5 + 1,none⟩)),.c 8 (.int .i64 wt),.c 9 (.agg #[.int .i64 (C + wt),.int .i64 (D + dl)]),.none]
          [fun v w1 w'=>Blk w' (gs + 1 + 1 + 1) 148 #[.int .i64 (C + wt),.int .i64 (D + dl)] /\ (∀ n,n <= gs + 1 + 1 + 1 -> Below n w1 w') /\ (∀ k,k ≠ gs + 1 + 1 + 1 -> w'.heap[k]? = w1.heap[k]?)] (by kernel_rfl) rfl (by kernel_rfl) ⟨?g0,?g1,?g2,?g3,?g4,?g5,?g6,?g7,?g8,?g9,?g10,trivial⟩ ?post
         case g0=>
          intro v w1 hx;intro bb hbb;intro K hK;have o1:bb.eval (.tmp 5) = .pointer (some ⟨gs + 1 + 1 + 1,0,none⟩):=by rw [hbb]; dsimp only; (try simp (discharger:=decide) only [eval_put_ne]); rfl
          exact Q0x (.tmp 5) _ rfl Tryz.Y2v Tryz.Q8t o1 (HB2.out.ext (hdr.trans hx)) rfl (hK _ _ (Ext.refl _) rfl)
         case g1=>
          intro v w1 hx;intro bb hbb;intro K hK;have o1:bb.eval (.tmp 2) = .pointer (some ⟨gs,0,none⟩):=by rw [hbb]; dsimp only; (try simp (discharger:=decide) only [eval_put_ne]); rfl
          exact Q0x (.tmp 2) _ rfl Tryz.Z6x Tryz.Y2t o1 (HK0.out.ext (hdr.trans hx)) rfl (hK _ _ (Ext.refl _) rfl)
         case g2 | g3 | g5=>
          intro v w1 hx;intro bb hbb;subst hbb;refine ⟨_,fun w=>?_,rfl⟩;go_simp
         case g4 | g8=>
          intro v w1 hx;(repeat intro (zq:v _ = _));intro bb hbb;subst hbb;have n0:w1.cell? ⟨gs,2,none⟩ = some (.slice (some ⟨bm,off,none⟩) s.members.length capb):=(HK0.out.ext (hdr.trans hx)).cell 2;have n1:w1.cell? ⟨bm,off + i * 5 + 1,none⟩ = some (.int .i64 wt):=(hdr.trans hx).cell HHE.out;intro K hK;go_simp;exact hK _ _ (Ext.refl _) rfl
         case g6 | g7=>
          intro v w1 hx;(repeat intro (zq:v _ = _));intro bb hbb;subst hbb;refine ⟨_,fun w=>?_,rfl⟩;go_simp
         case g9=>
          intro v w1 hx;(repeat intro (zq:v _ = _));intro bb hbb;subst hbb;intro K hK;go_simp;refine Q0f (HADD.out w1 _ (HSEA.out w1 (hdr.trans hx))) ?_;rintro e w2 ⟨rfl,hx2⟩;exact ⟨_,rfl,hK _ _ hx2 rfl⟩
         case g10=>
          intro v w1 hx;(repeat intro (zq:v _ = _));intro wl hT;obtain rfl:wl = w1:=hT;intro bb hbb;intro K hK;have o1:bb.eval (.tmp 5) = .pointer (some ⟨gs + 1 + 1 + 1,0,none⟩):=by rw [hbb]; dsimp only; (try simp (discharger:=decide) only [eval_put_ne]); rfl
          have o2:bb.eval (.tmp 36) = .agg #[.int .i64 (C + wt),.int .i64 (D + dl)]:=by rw [hbb]; dsimp only; (try simp (discharger:=decide) only [eval_put_ne]); rw [Q0a (by simp only [size_put]; exact (by decide:36 < 40))]; assumption
          exact Q1y (.tmp 5) (.tmp 36) _ rfl Tryz.Q8t o1 o2 (HB2.out.ext (hdr.trans hx)) rfl rfl Z2w (fun vv w' hb hl ho=>hK _ _ ⟨hb,hl,ho⟩)
         case post =>
          intro v w1 hx;(iterate 10 intro (zq:v _ = _));intro w2 hE;replace hE:(fun v w1 w'=>Blk w' (gs + 1 + 1 + 1) 148 #[.int .i64 (C + wt),.int .i64 (D + dl)] /\ (∀ n,n <= gs + 1 + 1 + 1 -> Below n w1 w') /\ (∀ k,k ≠ gs + 1 + 1 + 1 -> w'.heap[k]? = w1.heap[k]?)) v w1 w2:=hE;simp only [Flow.acts,Act.put];go_simp;obtain ⟨hb9,hl9,ho9⟩:=hE;have hxx:=hdr.trans hx;have hof:Off (gs + 1 + 1 + 1) w5 w2:=⟨Below.trans HO2.out.1 (Below.trans (hxx.mono (by have:=HSZR.out; omega)) (hl9 _ (Nat.le_refl _))),Nat.le_trans HO2.out.2.1 (Nat.le_trans hxx.size (hl9 _ (Nat.le_refl _)).size),fun b hb hne=>by
           rw [ho9 b hne,Below.block hxx b (by have:=HO2.out.2.1; omega)]; exact HO2.out.2.2 b hb hne⟩
          have HB9:=Lib.hid hb9;have HOF:=Lib.hid hof;clear hx hdr hb9 hl9 ho9 hof hxx;(repeat clear zq);go_wp2;go_roundw
          case rel=>exact ⟨t + 1,by omega,by go_num,by rw [HFC.out,HFD.out]; exact HB9.out,HOF.out⟩
          case measure=>simp [intOf]; omega
     . have hte:t = cl.length:=by omega
       subst hte;have hb3:=HB2.out;rw [List.take_length,Z8y,<- HNC.out,<- HND.out] at hb3;have HB3:=Lib.hid hb3;clear hb3;go_wp2;go_roundw
       case rel=>exact ⟨i + 1,by omega,by go_num,HB3.out,HO2.out⟩
       case measure=>simp [intOf]; omega
  . have hie:i = s.members.length:=by omega
    subst hie;have hb1:=HBL.out;have hbr:=KR.out.below HBE.out.1 (by omega)
    rw [HALL.out,HALD.out] at hb1;go_wp2_with (first | (refine Q0j rfl _ _ rfl Tryz.Y2v Tryz.Q8t rfl hb1 rfl ?_) | (refine Q0t rfl _ _ _ rfl Tryz.Q8t rfl rfl hbr rfl rfl Z2w ?_; intro w9 hb9 hl9 ho9))
    refine bodyPost_ret (Q2v Tryz.results62 rfl hb9 Tryz.Y2v Tryz.Q8t) rfl ?_;exact ⟨rfl,Below.trans HX5.out (Below.trans (HBE.out.1.mono (by have:=HGS.out; omega)) (hl9 w.heap.size (by have:=HGS.out; omega)))⟩
end Go.Proofs
namespace Go.Proofs
open Go.RowKit Go.Tw Go.Flow
attribute [local go_sem] Oper.semAt_some
theorem Y1c (w:World) (x y:Value):(Instr.field 148 (.agg #[x,y]) 0).run Tryz.prog w = .ok x w:=by kernel_rfl
theorem Y1b (w:World) (x y:Value):(Instr.field 148 (.agg #[x,y]) 1).run Tryz.prog w = .ok y w:=by kernel_rfl
attribute [local go_sem ↓] Y1c Y1b
end Go.Proofs
namespace Go.Proofs
open Go.RowKit Go.Tw Go.Flow
def J3e (s:Q0b) (n:Int):Int:=Q0k [s.err,Q1f (Z1t s n) 10]
theorem Z7a {s:Q0b} {n:Int} (h:J3e s n = 0):Q0m s /\ 0 <= n /\ n < s.members.length:=by
 unfold J3e Q0k at h
 by_cases he:s.err = 0
 . rw [if_pos he] at h
   refine ⟨Q0m.of he,?_⟩;unfold Q0k Z1t Q1f at h
   by_cases h0:n < 0 <;> by_cases h1:(s.members.length:Int) <= n <;> simp [h0,h1] at h ⊢ <;> omega
 . rw [if_neg he] at h; exact absurd h he
end Go.Proofs
namespace Go.Proofs
open Go.RowKit Go.Tw Go.Flow
attribute [local go_sem] Oper.semAt_some
attribute [local go_sem ↓] X6n X3j
theorem Z7j (w:World):Q2k w (.slice none 0 0) []:=Go.Tw.Rows.nil _ _ _
end Go.Proofs
namespace Go.Proofs
open Go.Tw
def Q7f (n t:Nat):List Bool:=(List.range t).map fun i=>n.testBit i
theorem Y0c (n t:Nat):(Q7f n t).length = t:=by simp [Q7f]
theorem Z1r (l:List Bool) (b:Bool):countB (l ++ [b]) = countB l + if b then 1 else 0:=by
 unfold countB;rw [List.countP_append];cases b <;> simp
end Go.Proofs
