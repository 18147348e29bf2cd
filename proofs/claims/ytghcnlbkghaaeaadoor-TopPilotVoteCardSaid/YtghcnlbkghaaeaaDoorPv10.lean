/- The region theorem in a round of a range over a function: the body of such a loop is walked in the fence of a round; all else as in Flow and FlowL. The iterator over all sets of events. Contracts: the product of chances of a set; chances with others in their place. Contract: quotients in lowest terms. Whole loads and stores of blocks inside a fence; the worlds of a round. -/
import Derived.Test.YtghcnlbkghaaeaaDoorPv06
import Derived.OrdersIn
import Derived.RangeFuncCalls
import Derived.TacticsIn
import Derived.Test.YtghcnlbkghaaeaaDoorPv09
import Derived.RangeFuncNested
import Derived.RangeFuncBound
import Derived.RangeFuncLeaves
import Derived.RangeFuncFrom
import Derived.Shelf.Abstract
import Derived.Shelf.RegionOpen
import Derived.OwnWalkIn
import Derived.TacticsInMore
import Derived.LoopNIn
import Derived.LoopIn
set_option maxRecDepth 1000000
set_option maxHeartbeats 64000000
set_option linter.unusedVariables false
set_option linter.unusedSimpArgs false
set_option linter.constructorNameAsVariable false
namespace Go.Flow
open Go.RowKit Go.Tw
abbrev rnd (l:Nat):Fence:=Fence.wide.inRound l
section
variable {P:Program} {ops:Array Oper} {pre:Nat -> List Nat}
theorem Q3s {l n:Nat} {o:Oper} {a:Act} {K:Act -> World -> Prop} {Q:Exit -> Act -> World -> Prop} {r:Result Next} (h:gives P (fun v w=>K (a.put o.dst v) w) r):o.uponIn (rnd l) n P a K Q r:=by
 cases r with
 | ok n' w =>
   cases n' <;> simp only [gives,Oper.uponIn] at h ⊢
   case value=>exact h
   case skip=>exact h
   case enter =>
    refine ⟨fun hd=>by simp [rnd,Fence.inRound,Fence.wide] at hd,CallsIn.inRound l (callsIn_wide.2 (h.mono fun e w ⟨u,he,hu⟩=>?_))⟩
    subst he; exact hu
   case row =>
    exact ⟨fun hd=>by simp [rnd,Fence.inRound,Fence.wide] at hd,fun c cs _=>let ⟨v,w',hr,hs⟩:=h c cs; ⟨v,w',hr,stepsIn_wide.2 hs⟩⟩
 | halt x w=>exact h.elim
theorem Q6k (tail:List Nat) (kind:Nat -> Kind) {Rel:World -> World -> Prop} {D:Nat -> (Nat -> Value) -> World -> Prop} {E:Nat -> (Nat -> Value) -> World -> World -> Prop}
    {id:Nat} {Q:Exit -> Act -> World -> Prop} {a0:Act} {w:World} {l n:Nat} (hm:P.follows .mixedOrders = true) (hnd:∀ (j:Nat) (o:Oper),ops[j]? = some o -> ∀ c,o.op ≠ .defer c) (hok:Ok ops pre)
    (htail:∀ i (h:i < tail.length),tail[i] < ops.size) (hchain:∀ i k (hi:i < tail.length) (hk:k < tail.length),i < k -> tail[i] ∈ pre tail[k])
    (hlate:∀ j,j < ops.size -> j ∉ tail -> ∀ k ∈ pre j,k ∉ tail) (hkind:∀ j,j < ops.size -> (kind j = .last ↔ j ∈ tail)) (hearly:∀ j,j < ops.size -> kind j = .world -> ∀ s ∈ tail,j ∈ pre s)
    (hrefl:∀ w,Rel w w) (htrans:∀ a b c,Rel a b -> Rel b c -> Rel a c) (hmono:∀ k,k < ops.size -> ∀ v w w',Rel w w' -> D k v w -> D k v w')
    (hvc:∀ j o,ops[j]? = some o -> j ∉ tail -> ∀ v w1,Rel w.drew w1 -> (∀ k ∈ pre j,D k (mask pre k v) w1) -> vc P ops pre Rel D (fun _ _ _=>False) (fun _ _ _=>False) (kind j) o j (act (fun k=>decide (k < j)) v ops.toList 0 a0) v w1)
    (hvl:∀ c (hc:c < tail.length) o,ops[tail[c]]? = some o -> ∀ v w1,Rel w.drew w1 -> (∀ k ∈ pre tail[c],k ∉ tail -> D k (mask pre k v) w1) -> vc P ops pre Rel D (Tail pre tail E c) (E c) .last o tail[c] (act (fun k=>decide (k < tail[c])) v ops.toList 0 a0) v w1)
    (hpost:∀ v w1 w',Rel w.drew w1 -> (∀ k,k < ops.size -> k ∉ tail -> D k (mask pre k v) w1) -> Tail pre tail E tail.length v w1 w' -> Q .normal (act (fun _=>true) v ops.toList 0 a0) w') :
    (Code.region id ops true).wpIn (rnd l) n P Q a0 w:=by
 refine wpIn_region_any hm ?_;have hclosed:∀ (X:Nat -> Bool),(∀ j o,ops[j]? = some o -> X j = true -> ∀ e ∈ o.after,Region.binds .any e = true -> X e.on = true) ->
     ∀ j o,ops[j]? = some o -> (∀ e ∈ o.after,Region.binds .any e = true -> X e.on = true) -> ∀ i ∈ pre j,X i = true:=by
  intro X hX j
  induction j using Nat.strongRecOn with
  | _ j ih =>
    intro o ho hall i hi;obtain ⟨e,he,hb,hc⟩:=hok.pre j o ho i hi
    rcases hc with rfl | hc
    . exact hall e he hb
    . have hlt:=hok.edge j o ho e he hb
      have hj:j < ops.size:=(Array.getElem?_eq_some_iff.1 ho).1;have ho':ops[e.on]? = some ops[e.on]:=Array.getElem?_eq_getElem (by omega)
      exact ih e.on hlt _ ho' (hX e.on _ ho' (hall e he hb)) i hc
 have main:∀ (fuel:Nat) (listed:Array Bool) (a:Act) (wc:World),listed.size = ops.size -> left ops.size listed <= fuel ->
     (∀ j o,ops[j]? = some o -> listed.getD j false = true -> ∀ e ∈ o.after,Region.binds .any e = true -> listed.getD e.on false = true) ->
     (∃ v w1 c,Inv ops pre Rel D E tail [] a0 w.drew (fun k=>listed.getD k false) v w1 c a wc) -> wpAnyIn (rnd l) n P .any ops Q fuel listed a wc:=by
  intro fuel;have hdone:∀ (listed:Array Bool) (a:Act) (wc:World),listed.size = ops.size ->
      (∃ v w1 c,Inv ops pre Rel D E tail [] a0 w.drew (fun k=>listed.getD k false) v w1 c a wc) -> Region.ready .any ops listed = [] -> Q .normal a wc:=by
   rintro listed a wc hsz ⟨v,w1,c,hI⟩ hr;have hall:∀ j,j < ops.size -> listed.getD j false = true:=by
    intro j
    induction j using Nat.strongRecOn with
    | _ j ih =>
      intro hj;cases hx:listed.getD j false with
      | true=>rfl
      | false =>
        have hmem:j ∈ Region.ready .any ops listed:=mem_ready.2 ⟨by rw [Q1p (by omega)]; exact hx,ops[j],Array.getElem?_eq_getElem hj,fun e he hb =>
         have hlt:=hok.edge j _ (Array.getElem?_eq_getElem hj) e he hb
         ih e.on hlt (by omega)⟩
        rw [hr] at hmem;cases hmem
   have hact:a = act (fun _=>true) v ops.toList 0 a0:=by
    rw [hI.act];refine Q7n (by rw [Q1k,Q1k]) fun t=>Q3j _ _ _ _ t _ 0 _ _ rfl rfl fun k o ho _=>⟨?_,fun _=>rfl⟩
    rw [Nat.zero_add];exact hall k (by simpa using (List.getElem?_eq_some_iff.1 ho).1)
   rw [hact];refine hpost v w1 wc hI.rel (fun k hk hks=>hI.facts k (hall k hk) hks) ?_;have hl:=hI.last;have hc:c = tail.length:=by
    rcases Nat.lt_or_ge c tail.length with h | h
    . have h1:listed.getD tail[c] false = false:=hI.after c h (Nat.le_refl _)
      have h2:=hall _ (htail c h);rw [h2] at h1; cases h1
    . have:=hI.count; omega
   rw [hc] at hl;exact hl
  induction fuel with
  | zero =>
    intro listed a wc hsz hleft _ hI;have hr:Region.ready .any ops listed = []:=by
     refine List.eq_nil_iff_forall_not_mem.2 fun j hj=>?_;obtain ⟨hun,o,ho,_⟩:=mem_ready.1 hj;have hlt:j < ops.size:=(Array.getElem?_eq_some_iff.1 ho).1;have:=Q6q hsz hlt hun;omega
    exact ⟨hr,hdone listed a wc hsz hI hr⟩
  | succ fuel ih =>
    intro listed a wc hsz hleft hcl hI;refine ⟨hdone listed a wc hsz hI,fun j hj=>?_⟩;obtain ⟨v,w1,c,hI⟩:=hI;obtain ⟨hun,o,ho,hall⟩:=mem_ready.1 hj;have hlt:j < ops.size:=(Array.getElem?_eq_some_iff.1 ho).1;have hunf:listed.getD j false = false:=by rw [<- Q1p (by omega)]; exact hun
    have hpre:=hclosed (fun k=>listed.getD k false) hcl j o ho hall;have hol:ops.toList[j]? = some o:=by simpa using ho
    have hfree:∀ k,k < ops.size -> listed.getD k false = true -> j ∉ pre k:=by
     intro k hk hx hmem;have ho':ops[k]? = some ops[k]:=Array.getElem?_eq_getElem hk;have h2:listed.getD j false = true:=hclosed (fun k=>listed.getD k false) hcl k _ ho' (hcl k _ ho' hx) j hmem;rw [hunf] at h2; cases h2
    have hlater:∀ k o',j < k -> ops[k]? = some o' -> listed.getD k false = true -> o.apart ops o' = true:=by
     intro k o' hk ho' hx
     rcases hok.apart j k o o' hk ho ho' with h | h
     . exact h
     . exact absurd h (hfree k (Array.getElem?_eq_some_iff.1 ho').1 hx)
    have hlooks:∀ t ∈ o.looksAt ops,a.tmps[t]? = (act (fun k=>decide (k < j)) v ops.toList 0 a0).tmps[t]?:=by
     intro t ht;rw [hI.act];refine Q3j _ _ _ _ t _ 0 _ _ rfl rfl fun k o' ho' hd=>?_;rw [Nat.zero_add];refine ⟨?_,fun _=>rfl⟩;have ho'':ops[k]? = some o':=by simpa using ho'
     rcases Nat.lt_trichotomy k j with hk | hk | hk
     . simp only [hk,decide_true]
       rcases hok.apart k j o' o hk ho'' ho with h | h
       . exact absurd ht ((Oper.apart_spec h).1 t hd)
       . exact hpre k h
     . subst hk
       simp [hunf]
     . have hnlt:¬ k < j:=by omega
       simp only [hnlt,decide_false];cases hx:listed.getD k false with
       | false=>rfl
       | true=>exact absurd ht ((Oper.apart_spec (hlater k o' hk ho'' hx)).2.2 t hd)
    have hexec:execOp a.eval o = execOp (act (fun k=>decide (k < j)) v ops.toList 0 a0).eval o:=execOp_congr o (fun cs b=>hok.sel j o cs b ho) (eval_congr o hlooks);have hwant:Region.wanted o (yielded ops a.tmps) = Region.wanted o (yielded ops (act (fun k=>decide (k < j)) v ops.toList 0 a0).tmps):=Q5x o hlooks;have hput:∀ u,a.put o.dst u = act (fun k=>if k = j then true else listed.getD k false) (upd v j u) ops.toList 0 a0:=by
     intro u;rw [hI.act];refine X4c hol hunf fun k o' hk ho' hx=>?_;cases hd:o.dst with
     | none=>exact .inr rfl
     | some d=>exact .inl ((Oper.apart_spec (hlater k o' hk (by simpa using ho') hx)).2.1 d hd)
    have hX:(fun k=>(listed.setIfInBounds j true).getD k false) = fun k=>if k = j then true else listed.getD k false:=by
     funext k
     split
     . rename_i hk; subst hk; simp [hsz,hlt]
     . rename_i hk; exact getD_set_ne false (Ne.symm hk)
    have hwhich:j ∈ tail -> ∃ h:c < tail.length,tail[c] = j:=by
     intro hmem;obtain ⟨i,hi,he⟩:=List.getElem_of_mem hmem;have hci:c <= i:=by
      rcases Nat.lt_or_ge i c with h | h
      . have:=hI.before i hi h
        simp only [he] at this;rw [hunf] at this; cases this
      . exact h
     have:c = i:=by
      rcases Nat.lt_or_ge c i with h | h
      . have hx:=hpre tail[c] (by rw [<- he]; exact hchain c i (by omega) hi h)
        have h1:=hI.after c (by omega) (Nat.le_refl _)
        rw [hx] at h1; cases h1
      . omega
     subst this;exact ⟨hi,he⟩
    have hnext:∀ (u:Value) (w1' wc':World) (c':Nat),Rel w1 w1' -> (j ∉ tail -> D j (mask pre j (upd v j u)) w1') -> (j ∉ tail -> c' = c) -> (j ∈ tail -> c' = c + 1) ->
        Tail pre tail E c' (upd v j u) w1' wc' -> wpAnyIn (rnd l) n P .any ops Q fuel (listed.setIfInBounds j true) (a.put o.dst u) wc':=by
     intro u w1' wc' c' hrel hD hc1 hc2 hE;refine ih _ _ _ (by simpa using hsz) (by have:=Q6q hsz hlt hun; omega) (fun k ok hok' hx e he hb=>?_) ⟨upd v j u,w1',c',⟨by rw [hX]; exact hput u,htrans _ _ _ hI.rel hrel,fun k hx hks=>?_,?_,fun i hi hic=>?_,fun i hi hic=>?_,hE,fun _ h=>(nomatch h),fun _ h=>(nomatch h)⟩⟩
     . by_cases hkj:k = j
       . subst hkj
         rw [ho] at hok';cases hok';exact getD_set_true (hall e he hb)
       . rw [getD_set_ne false (Ne.symm hkj)] at hx
         exact getD_set_true (hcl k ok hok' hx e he hb)
     . rw [congrFun hX k] at hx
       by_cases hkj:k = j
       . subst hkj; exact hD hks
       . rw [if_neg hkj] at hx
         have hksz:k < ops.size:=by
          rcases Nat.lt_or_ge k ops.size with h | h
          . exact h
          . rw [<- hsz] at h; simp [Array.getElem?_eq_none h] at hx
         rw [Q6r (Ne.symm hkj) (hfree k hksz hx)];exact hmono k hksz _ _ _ hrel (hI.facts k hx hks)
     . by_cases hjt:j ∈ tail
       . obtain ⟨h,_⟩:=hwhich hjt
         rw [hc2 hjt]; omega
       . rw [hc1 hjt]; exact hI.count
     . rw [congrFun hX]
       by_cases hij:tail[i] = j
       . rw [if_pos hij]
       . rw [if_neg hij]
         by_cases hjt:j ∈ tail
         . obtain ⟨h,he⟩:=hwhich hjt
           rw [hc2 hjt] at hic;have:i ≠ c:=fun e=>hij (by subst e; exact he)
           exact hI.before i hi (by omega)
         . rw [hc1 hjt] at hic; exact hI.before i hi hic
     . rw [congrFun hX]
       by_cases hjt:j ∈ tail
       . obtain ⟨h,he⟩:=hwhich hjt
         rw [hc2 hjt] at hic;rw [if_neg (fun e=>by
          have h1:=hchain c i h hi (by omega)
          rw [e,he] at h1;obtain ⟨e',he',hb',hcc⟩:=hok.pre j o ho j h1;have hl:=hok.edge j o ho e' he' hb';have h2:listed.getD j false = true:=hpre j h1;rw [hunf] at h2; cases h2)]
         exact hI.after i hi (by omega)
       . rw [hc1 hjt] at hic
         rw [if_neg (fun e=>hjt (by rw [<- e]; exact List.getElem_mem hi))]
         exact hI.after i hi hic
    have htailkeep:j ∉ tail -> ∀ u,Tail pre tail E c (upd v j u) w1 wc:=by
     intro hjt u;have hl:=hI.last;cases c with
     | zero=>exact hl
     | succ c =>
       have hct:c < tail.length:=by have:=hI.count; omega
       change E c (mask pre (tail.getD c 0) v) w1 wc at hl;show E c (mask pre (tail.getD c 0) (upd v j u)) w1 wc;have e:tail.getD c 0 = tail[c]:=by simp [hct]
       rw [e] at hl ⊢;rw [Q6r (fun h=>hjt (by rw [h]; exact List.getElem_mem hct)) (hfree _ (htail c hct) (hI.before c hct (by omega)))]
       exact hl
    unfold wpOpIn;simp only [ho];rw [hwant]
    by_cases hjt:j ∈ tail
    . obtain ⟨hc,he⟩:=hwhich hjt
      have hv:=hvl c hc o (by rw [he]; exact ho) v w1 hI.rel (fun k hk hkt=>hI.facts k (hpre k (by rw [<- he]; exact hk)) hkt) wc hI.last
      rw [he] at hv;have hT:∀ u w',E c (mask pre j (upd v j u)) w1 w' -> Tail pre tail E (c + 1) (upd v j u) w1 w':=by
       intro u w' h;show E c (mask pre (tail.getD c 0) (upd v j u)) w1 w';have e:tail.getD c 0 = j:=by simp [hc,he]
       rw [e]; exact h
      rcases hv with ⟨hwt,hg⟩ | ⟨hwf,hD⟩
      . rw [if_pos hwt]
        refine ⟨fun _ _=>trivial,?_⟩;rw [show (rnd l).round = some l from rfl,Oper.semAt_some l _ _ (hnd j o ho)]
        rw [hexec];exact Q3s (Q4d (fun u w' h=>hnext u w1 w' (c + 1) (hrefl _) (fun h=>absurd hjt h) (fun h=>absurd hjt h) (fun _=>rfl) (hT u w' h)) hg)
      . rw [if_neg (by rw [hwf]; simp)]
        refine ⟨fun _ _=>trivial,?_⟩;exact hnext undef w1 wc (c + 1) (hrefl _) (fun h=>absurd hjt h) (fun h=>absurd hjt h) (fun _=>rfl) (hT _ _ hD)
    . have hfacts:∀ k ∈ pre j,D k (mask pre k v) w1:=fun k hk=>hI.facts k (hpre k hk) (hlate j hlt hjt k hk)
      have hv:=hvc j o ho hjt v w1 hI.rel hfacts;cases hk:kind j with
      | plain =>
        rw [hk] at hv
        rcases hv with ⟨hwt,u,hrun,hD⟩ | ⟨hwf,hD⟩
        . rw [if_pos hwt]
          refine ⟨fun _ _=>trivial,?_⟩;rw [show (rnd l).round = some l from rfl,Oper.semAt_some l _ _ (hnd j o ho)]
          rw [hexec,hrun wc];exact hnext u w1 wc c (hrefl _) (fun _=>hD) (fun _=>rfl) (fun h=>absurd h hjt) (htailkeep hjt u)
        . rw [if_neg (by rw [hwf]; simp)]
          refine ⟨fun _ _=>trivial,?_⟩;exact hnext undef w1 wc c (hrefl _) (fun _=>hD) (fun _=>rfl) (fun h=>absurd h hjt) (htailkeep hjt undef)
      | world =>
        have hc0:c = 0:=by
         rcases Nat.eq_zero_or_pos c with h | h
         . exact h
         . have h0:0 < tail.length:=by have:=hI.count; omega
           have hx:=hI.before 0 h0 h;exact absurd (hearly j hlt hk tail[0] (List.getElem_mem h0)) (hfree _ (htail 0 h0) hx)
        subst hc0;have hwc:wc = w1:=hI.last;subst hwc;rw [hk] at hv
        rcases hv with ⟨hwt,hg⟩ | ⟨hwf,hD⟩
        . rw [if_pos hwt]
          refine ⟨fun _ _=>trivial,?_⟩;rw [show (rnd l).round = some l from rfl,Oper.semAt_some l _ _ (hnd j o ho)]
          rw [hexec];exact Q3s (Q4d (fun u w' h=>hnext u w' w' 0 h.1 (fun _=>h.2) (fun _=>rfl) (fun h=>absurd h hjt) rfl) hg)
        . rw [if_neg (by rw [hwf]; simp)]
          refine ⟨fun _ _=>trivial,?_⟩;exact hnext undef wc wc 0 (hrefl _) (fun _=>hD) (fun _=>rfl) (fun h=>absurd h hjt) rfl
      | last=>exact absurd ((hkind j hlt).1 hk) hjt
 refine main ops.size _ a0 _ (by simp) ?_ (fun j o _ hx=>?_) ⟨fun _=>undef,w.drew,0,?_,hrefl _,fun k hx=>?_,Nat.zero_le _,fun i _ h=>absurd h (Nat.not_lt_zero _),fun i _ _=>?_,rfl,fun _ h=>(nomatch h),fun _ h=>(nomatch h)⟩
 . exact Nat.le_trans (List.countP_le_length) (by simp)
 . have:=Q1u ops.size j
   rw [this] at hx; cases hx
 . refine (Q7n (by rw [Q1k]) fun t=>?_)
   have:∀ (l:List Oper) (i:Nat) (a:Act),act (fun k=>(Array.replicate ops.size false).getD k false) (fun _=>undef) l i a = a:=by
    intro l; induction l with
    | nil=>intro i a; rfl
    | cons o l ih=>intro i a; rw [act,ih,Q1u]; rfl
   rw [this]
 . have:=Q1u ops.size k
   rw [this] at hx; cases hx
 . exact Q1u ops.size _
end
def X2n (l:List Oper):Bool:=l.all fun o=>match o.op with | .defer _=>false | _=>true
theorem X0n {l:List Oper} (h:X2n l = true):∀ (j:Nat) (o:Oper),l.toArray[j]? = some o -> ∀ c,o.op ≠ .defer c:=by
 intro j o ho c hc;have hm:o ∈ l:=List.mem_of_getElem? (by simpa using ho)
 have:=List.all_eq_true.1 h o hm;simp [hc] at this
section
variable {P:Program} {id:Nat} {Q:Exit -> Act -> World -> Prop} {a0:Act} {w:World} {ops:List Oper}
theorem X2f {l n:Nat} (kl:List Kind) (jl:List Nat) (pl:List (List Nat)) (tail:List Nat) (Dl:List Spec) (El:List ((Nat -> Value) -> World -> World -> Prop))
    (hm:P.follows .mixedOrders = true) (hnd:X2n ops = true) (hjl:jl = List.range' 0 ops.length) (hok:okL ops pl kl tail El.length = true)
    (hvc:Q6n P ops.toArray (lookup pl []) tail w.drew (fun k=>(lookup Dl .none k).D) El (fun _ w1 w=>w = w1) ops kl jl (fun _=>a0))
    (hpost:∀ v w1,Ext w.drew w1 -> All (lookup pl []) (fun k=>(lookup Dl .none k).D) v w1 tail jl (∀ w',endOf (lookup pl []) v w1 w' tail El -> Q .normal (acts v ops jl a0) w')) :
    (Code.region id ops.toArray true).wpIn (rnd l) n P Q a0 w:=by
 subst hjl;simp only [X2p] at hpost;simp only [okL,Bool.and_eq_true,List.all_eq_true,List.mem_range,beq_iff_eq,Bool.or_eq_true,Bool.not_eq_true',List.contains_eq_mem,decide_eq_true_eq,decide_eq_false_iff_not] at hok;obtain ⟨⟨⟨⟨⟨⟨hok,hlen⟩,htail⟩,hn⟩,hchain⟩,hlate⟩,hearly⟩:=hok;have hmem:∀ j,j ∈ tail ↔ j < ops.length /\ isLast (lookup kl .plain j) = true:=by intro j; rw [htail,List.mem_filter,List.mem_range]
 have hk:∀ j,isLast (lookup kl .plain j) = true ↔ lookup kl .plain j = .last:=by intro j; cases lookup kl .plain j <;> simp [isLast]
 have hlk:lasts kl 0 = tail:=by
  rw [Q9l,htail,hlen,List.range_eq_range'];rfl
 have hEl:∀ n,n < (lasts kl 0).length -> El[n]? = some ((fun c=>(El[c]?).getD fun _ _ _=>True) (0 + n)):=by
  intro n hn';rw [hlk,<- hn] at hn';simp [hn']
 have hend:∀ v w1 w',Tail (lookup pl []) tail (fun c=>(El[c]?).getD fun _ _ _=>True) tail.length v w1 w' -> endOf (lookup pl []) v w1 w' tail El:=by
  intro v w1 w' h;have gen:∀ (tl:List Nat) (el:List ((Nat -> Value) -> World -> World -> Prop)),el.length = tl.length -> (tl = [] -> w' = w1) -> (∀ (hne:tl ≠ []),((el[tl.length - 1]?).getD fun _ _ _=>True) (mask (lookup pl []) (tl.getD (tl.length - 1) 0) v) w1 w') -> endOf (lookup pl []) v w1 w' tl el:=by
   intro tl
   induction tl with
   | nil=>intro el _ h0 _; cases el <;> exact h0 rfl
   | cons j tl ih =>
     intro el hl _ h1;cases el with
     | nil=>simp at hl
     | cons E el =>
       cases tl with
       | nil=>cases el with
         | nil=>simpa [endOf] using h1 (by simp)
         | cons _ _=>simp at hl
       | cons j' tl=>cases el with
         | nil=>simp at hl
         | cons E' el =>
           show endOf _ v w1 w' (j' :: tl) (E' :: el);exact ih _ (by simpa using hl) (fun h=>by simp at h) (fun _=>by simpa using h1 (by simp))
  refine gen tail El hn.symm.symm (fun h0=>?_) (fun hne=>?_)
  . rw [h0] at h; exact h
  . obtain ⟨m,hm⟩:∃ m,tail.length = m + 1:=⟨tail.length - 1,by have:=List.length_pos_iff.2 hne; omega⟩
    rw [hm] at h;rw [hm,Nat.add_sub_cancel];exact h
 refine Q6k tail (lookup kl .plain) (Rel:=Ext) (D:=fun k=>(lookup Dl .none k).D) (E:=fun c=>(El[c]?).getD fun _ _ _=>True) hm (X0n hnd) (Y1z hok)
  (fun i hi=>by simpa using ((hmem _).1 (List.getElem_mem hi)).1) (fun i k hi hk hik=>by have:=hchain k hk i hik; simpa [hi,hk] using this)
  (fun j hjl hjs k hk'=>?_) (fun j hjl=>?_) (fun j hjl hjw s hs=>?_)
  Ext.refl (fun _ _ _=>Ext.trans) (fun k _ v w w' hx hd=>(lookup Dl .none k).mono v w w' hx hd) (fun j o ho hjs v w1 hx hf=>?_) (fun c hc o ho v w1 hx hf=>?_) (fun v w1 w' hx hf hE=>?_)
 . rcases hlate j (by simpa using hjl) with h | h
   . exact absurd ((hmem j).2 ⟨by simpa using hjl,h⟩) hjs
   . exact h k hk'
 . rw [hmem,hk]; simp at hjl; simp [hjl]
 . rcases hearly j (by simpa using hjl) with h | h
   . rw [hjw] at h; simp [Q9m] at h
   . exact h s hs
 . have hjl:j < ops.length:=by simpa using (Array.getElem?_eq_some_iff.1 ho).1
   have:=X2s ops kl El _ 0 _ hlen hvc j o (by simpa using ho) (fun h=>hjs ((hmem j).2 ⟨hjl,(hk j).2 h⟩)) v w1 hx (by simpa using hf)
   rw [Nat.zero_add] at this;have e:=Q2w v ops 0 j a0;rw [Nat.zero_add] at e
   simpa [e] using this
 . have:=Q3u (fun c=>(El[c]?).getD fun _ _ _=>True) ops kl El 0 _ 0 hlen (by rw [hlk]; rfl) hEl hvc c (by rw [hlk]; exact hc) tail[c] o (by simp [hc]) (by simpa using ho) v w1 hx (by simpa using hf)
   rw [Nat.zero_add,Nat.zero_add] at this;have e:=Q2w v ops 0 tail[c] a0;rw [Nat.zero_add] at e
   simpa [e] using this
 . exact (hpost v w1 hx).out (fun k hk hks=>hf k (by simpa using hk) hks) w' (hend v w1 w' hE)
theorem X9j {l n:Nat} (kl:List Kind) (jl:List Nat) (pl:List (List Nat)) (Dl:List Spec)
    (hm:P.follows .mixedOrders = true) (hnd:X2n ops = true) (hjl:jl = List.range' 0 ops.length) (hok:okL ops pl kl [] 0 = true)
    (hvc:Q6n P ops.toArray (lookup pl []) [] w.drew (fun k=>(lookup Dl .none k).D) [] (fun _ w1 w=>w = w1) ops kl jl (fun _=>a0))
    (hpost:∀ v w1,Ext w.drew w1 -> All (lookup pl []) (fun k=>(lookup Dl .none k).D) v w1 [] jl (Q .normal (acts v ops jl a0) w1)) :
    (Code.region id ops.toArray true).wpIn (rnd l) n P Q a0 w :=
 X2f kl jl pl [] Dl [] hm hnd hjl hok hvc (fun v w1 hx=>by
  have:=hpost v w1 hx;have gen:∀ (jl:List Nat) (G G':Prop),(G -> G') -> All (lookup pl []) (fun k=>(lookup Dl .none k).D) v w1 [] jl G -> All (lookup pl []) (fun k=>(lookup Dl .none k).D) v w1 [] jl G':=by
   intro jl
   induction jl with
   | nil=>intro G G' h hG; exact h hG
   | cons j jl ih =>
     intro G G' h hG;simp only [All,List.contains_nil,Bool.false_eq_true,if_false] at hG ⊢;exact fun hd=>ih G G' h (hG hd)
  exact gen _ _ _ (fun h w' (hE:w' = w1)=>hE ▸ h) this)
end
end Go.Flow
namespace Go.Proofs
open Go.RowKit Go.Tw Go.Flow
attribute [local go_sem] Oper.semAt_some
theorem X0o (w:World) (t:Tree) (c:List Int) (A:Option Addr) (n cap:Nat) :
    Calls Tryd.prog 106 #[evV t c (.slice A n cap)] w fun e w'=>e = .returned (.func (.func 127) #[] #[.pointer (some ⟨w.heap.size,0,none⟩)]) /\ w'.cell? ⟨w.heap.size,0,none⟩ = some (.int .i64 t.size) /\ w'.heap.size = w.heap.size + 1 /\ Ext w w':=by
 unfold evV;go_enter Tryd.func106,Tryd.ntmps106;go_wp2;go_ret;exact ⟨rfl,Q0d _ _ _ 0,by simp,Ext.box _ _⟩
def Q4l (N k:Nat):List (Fin N):=(List.finRange N).take k
theorem X5n {N k:Nat} (h:k <= N):(Q4l N k).length = k:=by simp [Q4l,h]
theorem X2a {N k:Nat} (h:k < N):Q4l N (k + 1) = Q4l N k ++ [⟨k,h⟩]:=by
 unfold Q4l;rw [List.take_succ_eq_append_getElem (by simpa using h)]
 simp
theorem X6b {N:Nat}:Q4l N N = List.finRange N:=by unfold Q4l; exact List.take_of_length_le (by simp)
theorem Q8p (m:Nat) (Be N:Nat) (w:World) (t:Tree) (hN:2 ^ t.size = N) (hs:t.size <= 12) (hc:w.cell? ⟨Be,0,none⟩ = some (.int .i64 t.size)) :
    SeqStopsK Fence.wide m Tryd.prog 127 #[.pointer (some ⟨Be,0,none⟩)] (fun x:Fin N=>#[.int .i64 x.1]) (fun _ _=>True) (fun xs=>xs = List.finRange N) (fun _=>True) N w:=by
 intro l J Jx W hW _ _ hY h0;have hbe:=World.block_lt_of_cell? w _ hc;have hcell:W.cell? ⟨Be,0,none⟩ = some (.int .i64 t.size):=(hW.cell (p:=⟨Be,0,none⟩) hbe).trans hc;have p1:=X6k (n:=t.size) (by omega)
 rw [hN] at p1;have hN2:N <= 4096:=by rw [<- hN]; exact Nat.pow_le_pow_right (n:=2) (by omega) hs
 have HNN:=Lib.hid hN;clear hc hN hW;refine callsIn_of_wp Tryd.func127 rfl trivial ?_ rfl;simp only [Tryd.ntmps127,List.size_toArray,List.length_cons,List.length_nil,Nat.reduceAdd,Nat.reduceSub,Array.replicate_succ,Array.replicate_zero,List.push_toArray,List.append_toArray,List.nil_append,List.cons_append]
 gi_wp2
 gi_loopw [7] (fun p wr=>∃ k:Nat,k <= N /\ p = .int .i64 k /\ J (Q4l N k) wr) (fun p _=>N - (intOf p).toNat)
 case atStart=>exact ⟨0,Nat.zero_le _,rfl,by simpa [Q4l] using h0⟩
 case round =>
  obtain ⟨k,hk,rfl,hJ⟩:=hrel
  by_cases hlt:k < N
  . obtain ⟨fn,tmps,assign,body,hy,hR⟩:=hY (Q4l N k) ⟨k,hlt⟩ wr hJ (by rw [X5n hk]; exact hlt)
    dsimp only at hy
    gi_wp2
    refine ⟨fun h=>by simp [Fence.wide] at h,hR.mono ?_⟩
    rintro e W3 (⟨rfl,hJ3,_⟩ | ⟨rfl,hJx3⟩)
    . gi_wp2
      go_roundw
      case rel=>exact ⟨k + 1,by omega,by go_num,by rw [X2a hlt]; exact hJ3⟩
      case measure=>simp [intOf]; omega
    . gi_wp2
      refine bodyPost_ret (results_none rfl _ _ _) rfl ?_;exact ⟨⟨_,rfl⟩,.inr ⟨_,trivial,hJx3⟩⟩
  . have e:k = N:=by omega
    have HJ:Hid (J (List.finRange N) wr):=Lib.hid (by subst e; rw [<- X6b]; exact hJ)
    clear hJ e
    gi_wp2
    go_end0
    exact ⟨⟨_,rfl⟩,.inl ⟨_,rfl,HJ.out⟩⟩
end Go.Proofs
namespace Go.Proofs
open Go.RowKit Go.Tw Go.Flow
def chA (c:List Int):Array Value:=#[.int .i64 (ix c 0),.int .i64 (ix c 1),.int .i64 (ix c 2),.int .i64 (ix c 3),.int .i64 (ix c 4),.int .i64 (ix c 5),.int .i64 (ix c 6),.int .i64 (ix c 7),.int .i64 (ix c 8),.int .i64 (ix c 9),.int .i64 (ix c 10),.int .i64 (ix c 11)]
theorem X7z (c:List Int):chV c = .agg (chA c):=rfl
theorem Y0n (c:List Int) {j:Nat} (hj:j < 12):(chA c)[j]? = some (.int .i64 (ix c j)):=by
 have:j = 0 ∨ j = 1 ∨ j = 2 ∨ j = 3 ∨ j = 4 ∨ j = 5 ∨ j = 6 ∨ j = 7 ∨ j = 8 ∨ j = 9 ∨ j = 10 ∨ j = 11:=by omega
 rcases this with rfl | rfl | rfl | rfl | rfl | rfl | rfl | rfl | rfl | rfl | rfl | rfl <;> rfl
theorem Tryd.Y1e (w:World):(isAgg 126).run Tryd.prog w = .ok true w:=by kernel_rfl
theorem Tryd.X6h (w:World):(sizeOf 126).run Tryd.prog w = .ok 12 w:=by kernel_rfl
theorem X8z (w:World) (t:Tree) (c c0:List Int) (A G:Option Addr) (n cap m capg s:Nat) (hc:Small c) (hlen:c.length = t.size) (hs:s < 2 ^ 62) :
    Calls Tryd.prog 126 #[noV t c0 (.slice A n cap) (.slice G m capg),.int .i64 s,chV c] w fun e w'=>e = .returned (.int .i64 (partOf c s)) /\ Ext w w':=by
 have HC:=Lib.hid hc;have HS:=Lib.hid hs;have hc12:=hc.len;have HLEN:=Lib.hid hlen;rw [hlen] at hc12;rw [X7z];unfold noV;have k0:=Blk.made (w.alloc (.cells #[.int .i64 t.size,.slice A n cap,.int .i64 (ix c0 0),.int .i64 (ix c0 1),.int .i64 (ix c0 2),.int .i64 (ix c0 3),.int .i64 (ix c0 4),.int .i64 (ix c0 5),.int .i64 (ix c0 6),.int .i64 (ix c0 7),.int .i64 (ix c0 8),.int .i64 (ix c0 9),.int .i64 (ix c0 10),.int .i64 (ix c0 11),.int .i64 t.basics.length,.slice G m capg] 131)) 126 (chA c);have es:(w.alloc (.cells #[.int .i64 t.size,.slice A n cap,.int .i64 (ix c0 0),.int .i64 (ix c0 1),.int .i64 (ix c0 2),.int .i64 (ix c0 3),.int .i64 (ix c0 4),.int .i64 (ix c0 5),.int .i64 (ix c0 6),.int .i64 (ix c0 7),.int .i64 (ix c0 8),.int .i64 (ix c0 9),.int .i64 (ix c0 10),.int .i64 (ix c0 11),.int .i64 t.basics.length,.slice G m capg] 131)).heap.size = w.heap.size + 1:=by simp
 have hx:=(Ext.box w (.cells #[.int .i64 t.size,.slice A n cap,.int .i64 (ix c0 0),.int .i64 (ix c0 1),.int .i64 (ix c0 2),.int .i64 (ix c0 3),.int .i64 (ix c0 4),.int .i64 (ix c0 5),.int .i64 (ix c0 6),.int .i64 (ix c0 7),.int .i64 (ix c0 8),.int .i64 (ix c0 9),.int .i64 (ix c0 10),.int .i64 (ix c0 11),.int .i64 t.basics.length,.slice G m capg] 131)).trans (Ext.box (w.alloc (.cells #[.int .i64 t.size,.slice A n cap,.int .i64 (ix c0 0),.int .i64 (ix c0 1),.int .i64 (ix c0 2),.int .i64 (ix c0 3),.int .i64 (ix c0 4),.int .i64 (ix c0 5),.int .i64 (ix c0 6),.int .i64 (ix c0 7),.int .i64 (ix c0 8),.int .i64 (ix c0 9),.int .i64 (ix c0 10),.int .i64 (ix c0 11),.int .i64 t.basics.length,.slice G m capg] 131)) (.cells (chA c) 126));rw [es] at k0;clear hc hs hlen es;go_enter Tryd.func126,Tryd.ntmps126;go_wp2;change Code.wp _ _ _ _ ((w.alloc (.cells #[.int .i64 t.size,.slice A n cap,.int .i64 (ix c0 0),.int .i64 (ix c0 1),.int .i64 (ix c0 2),.int .i64 (ix c0 3),.int .i64 (ix c0 4),.int .i64 (ix c0 5),.int .i64 (ix c0 6),.int .i64 (ix c0 7),.int .i64 (ix c0 8),.int .i64 (ix c0 9),.int .i64 (ix c0 10),.int .i64 (ix c0 11),.int .i64 t.basics.length,.slice G m capg] 131)).alloc (.cells (chA c) 126));obtain ⟨W,hW⟩:∃ W,(w.alloc (.cells #[.int .i64 t.size,.slice A n cap,.int .i64 (ix c0 0),.int .i64 (ix c0 1),.int .i64 (ix c0 2),.int .i64 (ix c0 3),.int .i64 (ix c0 4),.int .i64 (ix c0 5),.int .i64 (ix c0 6),.int .i64 (ix c0 7),.int .i64 (ix c0 8),.int .i64 (ix c0 9),.int .i64 (ix c0 10),.int .i64 (ix c0 11),.int .i64 t.basics.length,.slice G m capg] 131)).alloc (.cells (chA c) 126) = W:=⟨_,rfl⟩;rw [hW] at k0 hx ⊢;have K0:=Lib.hid k0;have HX:=Lib.hid hx;clear hW k0 hx
 go_loop [7,12] (fun o i=>∃ (k:Nat),k <= t.size /\ i = .int .i64 k /\ o = .int .i64 (partTo c s k)) (fun _ i=>t.size - (intOf i).toNat)
 case atStart=>exact ⟨0,Nat.zero_le _,rfl,rfl⟩
 case round =>
  obtain ⟨k,hk,rfl,rfl⟩:=hrel
  by_cases hlt:k < t.size
  . have n0:=K0.out.cell k
    rw [Y0n _ (by omega)] at n0
    have hp:=Q4x HC.out s (j:=k) (by rw [HLEN.out]; exact hk)
    have hp1:=Q4x HC.out s (j:=k + 1) (by rw [HLEN.out]; omega)
    have hix:=HC.out.ix (j:=k) (by rw [HLEN.out]; exact hlt)
    have hb1:=Q4y HS.out k;have HST:Hid (partTo c s (k + 1) = partTo c s k * (if s.testBit k then ix c k else 16 - ix c k)):=by exact (rfl:partTo c s (k + 1) = _)
    obtain ⟨p,hpe⟩:∃ p,partTo c s k = p:=⟨_,rfl⟩;obtain ⟨x,hxe⟩:∃ x,ix c k = x:=⟨_,rfl⟩;rw [hpe,hxe] at HST;rw [hxe] at n0 hix;rw [HST.out] at hp1;rw [hpe] at hp ⊢;have hk12:k < 12:=by omega
    have hkI:(k:Int) < 12:=by omega
    clear hpe hxe;cases hb:s.testBit k with
    | true =>
      rw [hb] at HST hb1 hp1;simp only [if_true] at HST hp1;have HP1:=Lib.hid hp1;have hw:IntKind.i64.wrap (p * x) = p * x:=Q2x _ HP1.out.1 (by have:=HP1.out.2; omega)
      clear hp1 hb;go_wp2;go_round
      case rel=>exact ⟨k + 1,by omega,by go_num,by rw [HST.out]⟩
      case measure=>simp [intOf]; omega
    | false =>
      rw [hb] at HST hb1 hp1;simp only [Bool.false_eq_true,if_false] at HST hp1;have HP1:=Lib.hid hp1;have hw0:IntKind.i64.wrap (16 - x) = 16 - x:=Q2x _ (by omega) (by omega)
      have hw:IntKind.i64.wrap (p * (16 - x)) = p * (16 - x):=Q2x _ HP1.out.1 (by have:=HP1.out.2; omega)
      clear hp1 hb;go_wp2;go_round
      case rel=>exact ⟨k + 1,by omega,by go_num,by rw [HST.out]⟩
      case measure=>simp [intOf]; omega
  . go_wp2
    go_ret;exact ⟨ret_int (by unfold partOf; rw [HLEN.out,show k = t.size from by omega]),HX.out⟩
end Go.Proofs
namespace Go.Proofs
open Go.RowKit Go.Tw Go.Flow
theorem X7d (w:World) (a b:Int) (ha:0 <= a) (ha2:a <= 4611686018427387904) (hb:1 <= b) (hb2:b <= 4611686018427387904) :
    Calls Tryd.prog 103 #[.int .i64 a,.int .i64 b] w fun e w'=>e = .returned (.agg #[.int .i64 (lowest a b).num,.int .i64 (lowest a b).den]) /\ Ext w w':=by
 have hw:=Ext.box w (.cells #[.int .i64 0,.int .i64 0] 74);have c0:=Q0d w #[.int .i64 0,.int .i64 0] 74 0;have c1:=Q0d w #[.int .i64 0,.int .i64 0] 74 1;have f0:=Q2f w #[.int .i64 0,.int .i64 0] 74 0;have f1:=Q2f w #[.int .i64 0,.int .i64 0] 74 1;have hsW:w.heap.size < (w.alloc (.cells #[.int .i64 0,.int .i64 0] 74)).heap.size:=by show _ < (w.heap.push _).size; rw [Array.size_push]; omega
 go_enter Tryd.func103,Tryd.ntmps103;go_wp2;obtain ⟨W,hW⟩:∃ W,w.alloc (.cells #[.int .i64 0,.int .i64 0] 74) = W:=⟨_,rfl⟩;rw [hW] at c0 c1 f0 f1 hsW hw ⊢;simp only [Go.Tw.gA,Go.Tw.gB,Go.Tw.gC] at c0 c1;clear hW
 go_loopw [5,6] (fun x y wr=>∃ (p q:Int),x = .int .i64 p /\ y = .int .i64 q /\ 0 <= p /\ 0 <= q /\ p <= 4611686018427387904 /\ q <= 4611686018427387904 /\ (0 < p ∨ 0 < q) /\ Int.gcd p q = Int.gcd a b /\ Ext W wr) (fun _ y _=>(intOf y).toNat)
 case atStart=>exact ⟨a,b,by first | rfl | rw [show max a (-a) = a by omega],by first | rfl | rw [show max b (-b) = b by omega],ha,by omega,ha2,hb2,by omega,rfl,Ext.refl _⟩
 case round =>
  obtain ⟨p,q,rfl,rfl,hp,hq,hp2,hq2,hpq,hg,hx0⟩:=hrel
  by_cases hz:q = 0
  . subst hz
    have hpg:p = (Int.gcd a b:Int):=by rw [<- hg,Int.gcd_zero]; omega
    have hdz:¬ p = 0:=by omega
    replace c0:=hx0.cell c0;replace c1:=hx0.cell c1;have HPG:=Lib.hid hpg;clear hg hpg;have hq1:a / p <= a:=Int.ediv_le_self _ ha;have hq2:b / p <= b:=Int.ediv_le_self _ (by omega)
    have hq3:0 <= a / p:=Int.ediv_nonneg ha hp;have hq4:0 <= b / p:=Int.ediv_nonneg (by omega) hp
    have hq5:a.tdiv p = a / p:=Int.tdiv_eq_ediv_of_nonneg ha;have hq6:b.tdiv p = b / p:=Int.tdiv_eq_ediv_of_nonneg (by omega)
    have hq7:IntKind.i64.wrap (a / p) = a / p:=wrap_in (by omega) (by omega)
    have hq8:IntKind.i64.wrap (b / p) = b / p:=wrap_in (by omega) (by omega)
    have hwr:=Nat.lt_of_lt_of_le hsW hx0.size;replace f0:=(hx0.frozen hsW).trans f0;replace f1:=(hx0.frozen hsW).trans f1;go_wp2;refine Flow.region [.p,.p,.p,.p,.p,.p,.p,.last] [0,1,2,3,4,5,6,7] [[],[],[0,1],[],[],[3,4],[0,1,2,3,4,5],[0,1,2,3,4,5,6]] [7]
     [.c 0 (.int .i64 a),.c 1 (.int .i64 p),.c 2 (.int .i64 (a / p)),.c 3 (.int .i64 b),.c 4 (.int .i64 p),.c 5 (.int .i64 (b / p)),.c 6 (.agg #[.int .i64 (a / p),.int .i64 (b / p)]),.none]
     [fun v w1 w'=>w'.cell? ⟨w.heap.size,0,none⟩ = some (.int .i64 (a / p)) /\ w'.cell? ⟨w.heap.size,1,none⟩ = some (.int .i64 (b / p)) /\ Below w.heap.size w1 w'] (by kernel_rfl) rfl (by kernel_rfl) ⟨?g0,?g1,?g2,?g3,?g4,?g5,?g6,?g7,trivial⟩ ?post
    case g0 | g1 | g3 | g4=>
     intro v w1 hx;refine ⟨_,fun w=>?_,rfl⟩;go_simp
    case g2 | g5 | g6=>
     intro v w1 hx;(repeat intro (zq:v _ = _));refine ⟨_,fun w=>?_,rfl⟩;go_simp
    case g7=>
     intro v w1 hx;(repeat intro (zq:v _ = _));intro wl hT;obtain rfl:wl = w1:=hT;intro bb hbb;subst hbb;have c0:=hx.cell c0;have c1:=hx.cell c1;intro K hK;have g0:=(hx.frozen (p:=⟨w.heap.size,0,none⟩) hwr).trans f0;have g1:=(hx.frozen (p:=⟨w.heap.size,1,none⟩) hwr).trans f1;go_simp;refine hK _ _ ⟨?_,?_,((Below.refl w.heap.size wl).setCell (p:=⟨w.heap.size,0,none⟩) (Nat.le_refl _) _).setCell (p:=⟨w.heap.size,1,none⟩) (Nat.le_refl _) _⟩
     . refine Eq.trans (World.cell?_setCell_other _ _ _ _ ?_) (World.cell?_setCell_same _ _ _ c0); intro h; cases h
     . refine World.cell?_setCell_same _ _ _ (Eq.trans (World.cell?_setCell_other _ _ _ _ ?_) c1); intro h; cases h
    case post =>
     intro v w1 hx;(iterate 7 intro (zq:v _ = _));intro w2 hE;replace hE:(fun v w1 w'=>w'.cell? ⟨w.heap.size,0,none⟩ = some (.int .i64 (a / p)) /\ w'.cell? ⟨w.heap.size,1,none⟩ = some (.int .i64 (b / p)) /\ Below w.heap.size w1 w') v w1 w2:=hE;simp only [Flow.acts,Act.put];go_simp;obtain ⟨e0,e1,e2⟩:=hE;go_wp2;refine bodyPost_ret (v:=.agg #[.int .i64 (a / p),.int .i64 (b / p)]) (by simp [results,Tryd.results103,go_sem,e0,e1]) rfl ?_
     exact ⟨by rw [HPG.out]; rfl,Below.trans ((hw.trans hx0.drew).trans hx) e2⟩
  . have hq0:0 < q:=by omega
    have hst:=X3o p q hp hq0;have htm:p % q < q:=Int.emod_lt_of_pos p hq0;have htn:=Int.emod_nonneg p (show q ≠ 0 by omega)
    rw [Int.tmod_eq_emod_of_nonneg hp] at hst;go_wp2
    go_quiet (fail)
    all_goals go_wp2
    go_roundw
    case rel=>exact ⟨q,p % q,rfl,by go_num,by omega,htn,hq2,by omega,Or.inl hq0,by rw [hst,hg],hx0.drewN _⟩
    case measure=>exact (Int.toNat_lt_toNat hq0).2 htm
end Go.Proofs
namespace Go.Proofs
open Go.RowKit Go.Tw Go.Flow
theorem Q2t {F:Fence} {n0:Nat} {P:Program} {w:World} {ops:Array Oper} {rest:List Oper} {o:Oper} {a:Act} {Q:Exit -> Act -> World -> Prop} (hw:Region.wanted o (yielded ops a.tmps) = true) (p:Operand) (T:TypeId) (hop:o.op = .load T p)
    (hA:∀ w,(isAgg T).run P w = .ok true w) {n:Nat} (hS:∀ w,(sizeOf T).run P w = .ok n w) {g:Nat} (hp:a.eval p = .pointer (some ⟨g,0,none⟩)) {BT:TypeId} {cs:Array Value} (hb:Blk w g BT cs) (hn:cs.size = n)
    (hK:wpListIn F n0 P ops Q rest (a.put o.dst (.agg cs)) w):wpListIn F n0 P ops Q (o :: rest) a w:=by
 subst hn;refine BigFrame.wpListIn_want hw fun K' hK'=>?_;unfold Oper.wpIn;refine ⟨?_,?_⟩
 . simp [Oper.about,hop]
 . rw [Oper.semAt_plain F _ _ (by rw [hop]; intro c hc'; cases hc')]
   have hr:(execOp a.eval o).run P w = .ok (.value (.agg cs)) w:=by
    unfold execOp;simp only [hop,hp,Instr.loadAt,Instr.sureAddr,Sem.run_bind,Sem.run_pure,Result.andThen_ok,Q1j hb hA hS]
   rw [hr];exact hK' _ _ hK
theorem Q1c {P:Program} {K:Value -> World -> Prop} {o:Oper} {a:Act} {w:World} (p:Operand) (T:TypeId) (ho:o.op = .load T p) (hA:∀ w,(isAgg T).run P w = .ok true w) {n:Nat} (hS:∀ w,(sizeOf T).run P w = .ok n w)
    {g:Nat} (hp:a.eval p = .pointer (some ⟨g,0,none⟩)) {BT:TypeId} {cs:Array Value} (hb:Blk w g BT cs) (hn:cs.size = n) (h:K (.agg cs) w):gives P K ((execOp a.eval o).run P w):=by
 subst hn;unfold execOp;simp only [ho,hp,Instr.loadAt,Instr.sureAddr,Sem.run_bind,Sem.run_pure,Result.andThen_ok,Q1j hb hA hS];exact h
theorem Blk.own {β:Type} (g:Nat) (T:TypeId) (cs:β -> Array Value):Own (fun s W=>Blk W g T (cs s)):=fun s _ _ _ hs hg hr=>(grownBy_keeps_cells (o:=.cells (cs s) T) hg hr hs rfl).trans hs
theorem Q2i {W W':World} (h:Ext W W'):KeepsOthers W W':=⟨h.size,fun k o hk _=>by rw [h.block k (Array.getElem?_eq_some_iff.1 hk).1]; exact hk⟩
end Go.Proofs
