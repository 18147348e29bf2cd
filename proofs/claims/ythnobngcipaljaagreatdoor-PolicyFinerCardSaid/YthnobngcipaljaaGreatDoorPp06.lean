/- The region theorem in a round of a range over a function: the body of such a loop is walked in the fence of a round; all else as in Flow and FlowL. The region theorems with the frame under a name at every operation. Guarded operations of a region: the guard looked up in the frame under a name. Contract of the reference: checkMember. -/
import Derived.Test.YthnobngcipaljaaGreatDoorPp05
import Derived.OrdersIn
import Derived.RangeFuncCalls
import Derived.TacticsIn
set_option maxRecDepth 1000000
set_option maxHeartbeats 64000000
set_option linter.unusedVariables false
set_option linter.unusedSimpArgs false
set_option linter.constructorNameAsVariable false
open Go.Lib (hid)
namespace Go.Flow
open Go.RowKit Go.Tw
abbrev rnd (l:Nat):Fence:=Fence.wide.inRound l
section
variable {P:Program} {ops:Array Oper} {pre:Nat -> List Nat}
theorem Q7x {l n:Nat} {o:Oper} {a:Act} {K:Act -> World -> Prop} {Q:Exit -> Act -> World -> Prop} {r:Result Next} (h:gives P (fun v w=>K (a.put o.dst v) w) r):o.uponIn (rnd l) n P a K Q r:=by
 cases r with
 | ok n' w =>
   cases n' <;> simp only [gives,Oper.uponIn] at h ⊢
   case value=>exact h
   case skip=>exact h
   case enter =>
    refine ⟨fun hd=>by simp [rnd,Fence.inRound,Fence.wide] at hd,CallsIn.inRound l (callsIn_wide.2 (h.mono fun e w ⟨u,he,hu⟩=>?_))⟩
    subst he; exact hu
   case row =>
    exact ⟨fun hd=>by simp [rnd,Fence.inRound,Fence.wide] at hd,fun c cs _=>let ⟨v,w',hr,hs⟩:=h c cs; ⟨v,w',hr,stepsIn_wide.2 hs⟩⟩
 | halt x w=>exact h.elim
theorem X3h (tail:List Nat) (kind:Nat -> Kind) {Rel:World -> World -> Prop} {D:Nat -> (Nat -> Value) -> World -> Prop} {E:Nat -> (Nat -> Value) -> World -> World -> Prop}
    {id:Nat} {Q:Exit -> Act -> World -> Prop} {a0:Act} {w:World} {l n:Nat} (hm:P.follows .mixedOrders=true) (hnd:∀ (j:Nat) (o:Oper),ops[j]?=some o -> ∀ c,o.op ≠ .defer c) (hok:Ok ops pre)
    (htail:∀ i (h:i < tail.length),tail[i] < ops.size) (hchain:∀ i k (hi:i < tail.length) (hk:k < tail.length),i < k -> tail[i] ∈ pre tail[k])
    (hlate:∀ j,j < ops.size -> j ∉ tail -> ∀ k ∈ pre j,k ∉ tail) (hkind:∀ j,j < ops.size -> (kind j=.last ↔ j ∈ tail)) (hearly:∀ j,j < ops.size -> kind j=.world -> ∀ s ∈ tail,j ∈ pre s)
    (hrefl:∀ w,Rel w w) (htrans:∀ a b c,Rel a b -> Rel b c -> Rel a c) (hmono:∀ k,k < ops.size -> ∀ v w w',Rel w w' -> D k v w -> D k v w')
    (hvc:∀ j o,ops[j]?=some o -> j ∉ tail -> ∀ v w1,Rel w.drew w1 -> (∀ k ∈ pre j,D k (mask pre k v) w1) -> vc P ops pre Rel D (fun _ _ _=>False) (fun _ _ _=>False) (kind j) o j (act (fun k=>decide (k < j)) v ops.toList 0 a0) v w1)
    (hvl:∀ c (hc:c < tail.length) o,ops[tail[c]]?=some o -> ∀ v w1,Rel w.drew w1 -> (∀ k ∈ pre tail[c],k ∉ tail -> D k (mask pre k v) w1) -> vc P ops pre Rel D (Tail pre tail E c) (E c) .last o tail[c] (act (fun k=>decide (k < tail[c])) v ops.toList 0 a0) v w1)
    (hpost:∀ v w1 w',Rel w.drew w1 -> (∀ k,k < ops.size -> k ∉ tail -> D k (mask pre k v) w1) -> Tail pre tail E tail.length v w1 w' -> Q .normal (act (fun _=>true) v ops.toList 0 a0) w') :
    (Code.region id ops true).wpIn (rnd l) n P Q a0 w:=by
 refine wpIn_region_any hm ?_;have hclosed:∀ (X:Nat -> Bool),(∀ j o,ops[j]?=some o -> X j=true -> ∀ e ∈ o.after,Region.binds .any e=true -> X e.on=true) ->
     ∀ j o,ops[j]?=some o -> (∀ e ∈ o.after,Region.binds .any e=true -> X e.on=true) -> ∀ i ∈ pre j,X i=true:=by
  intro X hX j
  induction j using Nat.strongRecOn with
  | _ j ih =>
    intro o ho hall i hi;obtain ⟨e,he,hb,hc⟩:=hok.pre j o ho i hi
    rcases hc with rfl | hc
    . exact hall e he hb
    . have hlt:=hok.edge j o ho e he hb
      have hj:j < ops.size:=(Array.getElem?_eq_some_iff.1 ho).1;have ho':ops[e.on]?=some ops[e.on]:=Array.getElem?_eq_getElem (by omega)
      exact ih e.on hlt _ ho' (hX e.on _ ho' (hall e he hb)) i hc
 have main:∀ (fuel:Nat) (listed:Array Bool) (a:Act) (wc:World),listed.size=ops.size -> left ops.size listed <= fuel ->
     (∀ j o,ops[j]?=some o -> listed.getD j false=true -> ∀ e ∈ o.after,Region.binds .any e=true -> listed.getD e.on false=true) ->
     (∃ v w1 c,Inv ops pre Rel D E tail [] a0 w.drew (fun k=>listed.getD k false) v w1 c a wc) -> wpAnyIn (rnd l) n P .any ops Q fuel listed a wc:=by
  intro fuel;have hdone:∀ (listed:Array Bool) (a:Act) (wc:World),listed.size=ops.size ->
      (∃ v w1 c,Inv ops pre Rel D E tail [] a0 w.drew (fun k=>listed.getD k false) v w1 c a wc) -> Region.ready .any ops listed=[] -> Q .normal a wc:=by
   rintro listed a wc hsz ⟨v,w1,c,hI⟩ hr;have hall:∀ j,j < ops.size -> listed.getD j false=true:=by
    intro j
    induction j using Nat.strongRecOn with
    | _ j ih =>
      intro hj;cases hx:listed.getD j false with
      | true=>rfl
      | false =>
        have hmem:j ∈ Region.ready .any ops listed:=mem_ready.2 ⟨by rw [Q2m (by omega)]; exact hx,ops[j],Array.getElem?_eq_getElem hj,fun e he hb =>
         have hlt:=hok.edge j _ (Array.getElem?_eq_getElem hj) e he hb
         ih e.on hlt (by omega)⟩
        rw [hr] at hmem;cases hmem
   have hact:a=act (fun _=>true) v ops.toList 0 a0:=by
    rw [hI.act];refine X0b (by rw [Q2h,Q2h]) fun t=>Q5k _ _ _ _ t _ 0 _ _ rfl rfl fun k o ho _=>⟨?_,fun _=>rfl⟩
    rw [Nat.zero_add];exact hall k (by simpa using (List.getElem?_eq_some_iff.1 ho).1)
   rw [hact];refine hpost v w1 wc hI.rel (fun k hk hks=>hI.facts k (hall k hk) hks) ?_;have hl:=hI.last;have hc:c=tail.length:=by
    rcases Nat.lt_or_ge c tail.length with h | h
    . have h1:listed.getD tail[c] false=false:=hI.after c h (Nat.le_refl _)
      have h2:=hall _ (htail c h);rw [h2] at h1; cases h1
    . have:=hI.count; omega
   rw [hc] at hl;exact hl
  induction fuel with
  | zero =>
    intro listed a wc hsz hleft _ hI;have hr:Region.ready .any ops listed=[]:=by
     refine List.eq_nil_iff_forall_not_mem.2 fun j hj=>?_;obtain ⟨hun,o,ho,_⟩:=mem_ready.1 hj;have hlt:j < ops.size:=(Array.getElem?_eq_some_iff.1 ho).1;have:=Q8u hsz hlt hun;omega
    exact ⟨hr,hdone listed a wc hsz hI hr⟩
  | succ fuel ih =>
    intro listed a wc hsz hleft hcl hI;refine ⟨hdone listed a wc hsz hI,fun j hj=>?_⟩;obtain ⟨v,w1,c,hI⟩:=hI;obtain ⟨hun,o,ho,hall⟩:=mem_ready.1 hj;have hlt:j < ops.size:=(Array.getElem?_eq_some_iff.1 ho).1;have hunf:listed.getD j false=false:=by rw [<- Q2m (by omega)]; exact hun
    have hpre:=hclosed (fun k=>listed.getD k false) hcl j o ho hall;have hol:ops.toList[j]?=some o:=by simpa using ho
    have hfree:∀ k,k < ops.size -> listed.getD k false=true -> j ∉ pre k:=by
     intro k hk hx hmem;have ho':ops[k]?=some ops[k]:=Array.getElem?_eq_getElem hk;have h2:listed.getD j false=true:=hclosed (fun k=>listed.getD k false) hcl k _ ho' (hcl k _ ho' hx) j hmem;rw [hunf] at h2; cases h2
    have hlater:∀ k o',j < k -> ops[k]?=some o' -> listed.getD k false=true -> o.apart ops o'=true:=by
     intro k o' hk ho' hx
     rcases hok.apart j k o o' hk ho ho' with h | h
     . exact h
     . exact absurd h (hfree k (Array.getElem?_eq_some_iff.1 ho').1 hx)
    have hlooks:∀ t ∈ o.looksAt ops,a.tmps[t]?=(act (fun k=>decide (k < j)) v ops.toList 0 a0).tmps[t]?:=by
     intro t ht;rw [hI.act];refine Q5k _ _ _ _ t _ 0 _ _ rfl rfl fun k o' ho' hd=>?_;rw [Nat.zero_add];refine ⟨?_,fun _=>rfl⟩;have ho'':ops[k]?=some o':=by simpa using ho'
     rcases Nat.lt_trichotomy k j with hk | hk | hk
     . simp only [hk,decide_true]
       rcases hok.apart k j o' o hk ho'' ho with h | h
       . exact absurd ht ((Oper.apart_spec h).1 t hd)
       . exact hpre k h
     . subst hk
       simp [hunf]
     . have hnlt:¬ k < j:=by omega
       simp only [hnlt,decide_false];cases hx:listed.getD k false with
       | false=>rfl
       | true=>exact absurd ht ((Oper.apart_spec (hlater k o' hk ho'' hx)).2.2 t hd)
    have hexec:execOp a.eval o=execOp (act (fun k=>decide (k < j)) v ops.toList 0 a0).eval o:=execOp_congr o (fun cs b=>hok.sel j o cs b ho) (eval_congr o hlooks);have hwant:Region.wanted o (yielded ops a.tmps)=Region.wanted o (yielded ops (act (fun k=>decide (k < j)) v ops.toList 0 a0).tmps):=Q7s o hlooks;have hput:∀ u,a.put o.dst u=act (fun k=>if k=j then true else listed.getD k false) (upd v j u) ops.toList 0 a0:=by
     intro u;rw [hI.act];refine X9h hol hunf fun k o' hk ho' hx=>?_;cases hd:o.dst with
     | none=>exact .inr rfl
     | some d=>exact .inl ((Oper.apart_spec (hlater k o' hk (by simpa using ho') hx)).2.1 d hd)
    have hX:(fun k=>(listed.setIfInBounds j true).getD k false)=fun k=>if k=j then true else listed.getD k false:=by
     funext k
     split
     . rename_i hk; subst hk; simp [hsz,hlt]
     . rename_i hk; exact getD_set_ne false (Ne.symm hk)
    have hwhich:j ∈ tail -> ∃ h:c < tail.length,tail[c]=j:=by
     intro hmem;obtain ⟨i,hi,he⟩:=List.getElem_of_mem hmem;have hci:c <= i:=by
      rcases Nat.lt_or_ge i c with h | h
      . have:=hI.before i hi h
        simp only [he] at this;rw [hunf] at this; cases this
      . exact h
     have:c=i:=by
      rcases Nat.lt_or_ge c i with h | h
      . have hx:=hpre tail[c] (by rw [<- he]; exact hchain c i (by omega) hi h)
        have h1:=hI.after c (by omega) (Nat.le_refl _)
        rw [hx] at h1; cases h1
      . omega
     subst this;exact ⟨hi,he⟩
    have hnext:∀ (u:Value) (w1' wc':World) (c':Nat),Rel w1 w1' -> (j ∉ tail -> D j (mask pre j (upd v j u)) w1') -> (j ∉ tail -> c'=c) -> (j ∈ tail -> c'=c + 1) ->
        Tail pre tail E c' (upd v j u) w1' wc' -> wpAnyIn (rnd l) n P .any ops Q fuel (listed.setIfInBounds j true) (a.put o.dst u) wc':=by
     intro u w1' wc' c' hrel hD hc1 hc2 hE;refine ih _ _ _ (by simpa using hsz) (by have:=Q8u hsz hlt hun; omega) (fun k ok hok' hx e he hb=>?_) ⟨upd v j u,w1',c',⟨by rw [hX]; exact hput u,htrans _ _ _ hI.rel hrel,fun k hx hks=>?_,?_,fun i hi hic=>?_,fun i hi hic=>?_,hE,fun _ h=>(nomatch h),fun _ h=>(nomatch h)⟩⟩
     . by_cases hkj:k=j
       . subst hkj
         rw [ho] at hok';cases hok';exact getD_set_true (hall e he hb)
       . rw [getD_set_ne false (Ne.symm hkj)] at hx
         exact getD_set_true (hcl k ok hok' hx e he hb)
     . rw [congrFun hX k] at hx
       by_cases hkj:k=j
       . subst hkj; exact hD hks
       . rw [if_neg hkj] at hx
         have hksz:k < ops.size:=by
          rcases Nat.lt_or_ge k ops.size with h | h
          . exact h
          . rw [<- hsz] at h; simp [Array.getElem?_eq_none h] at hx
         rw [Q9d (Ne.symm hkj) (hfree k hksz hx)];exact hmono k hksz _ _ _ hrel (hI.facts k hx hks)
     . by_cases hjt:j ∈ tail
       . obtain ⟨h,_⟩:=hwhich hjt
         rw [hc2 hjt]; omega
       . rw [hc1 hjt]; exact hI.count
     . rw [congrFun hX]
       by_cases hij:tail[i]=j
       . rw [if_pos hij]
       . rw [if_neg hij]
         by_cases hjt:j ∈ tail
         . obtain ⟨h,he⟩:=hwhich hjt
           rw [hc2 hjt] at hic;have:i ≠ c:=fun e=>hij (by subst e; exact he)
           exact hI.before i hi (by omega)
         . rw [hc1 hjt] at hic; exact hI.before i hi hic
     . rw [congrFun hX]
       by_cases hjt:j ∈ tail
       . obtain ⟨h,he⟩:=hwhich hjt
         rw [hc2 hjt] at hic;rw [if_neg (fun e=>by
          have h1:=hchain c i h hi (by omega)
          rw [e,he] at h1;obtain ⟨e',he',hb',hcc⟩:=hok.pre j o ho j h1;have hl:=hok.edge j o ho e' he' hb';have h2:listed.getD j false=true:=hpre j h1;rw [hunf] at h2; cases h2)]
         exact hI.after i hi (by omega)
       . rw [hc1 hjt] at hic
         rw [if_neg (fun e=>hjt (by rw [<- e]; exact List.getElem_mem hi))]
         exact hI.after i hi hic
    have htailkeep:j ∉ tail -> ∀ u,Tail pre tail E c (upd v j u) w1 wc:=by
     intro hjt u;have hl:=hI.last;cases c with
     | zero=>exact hl
     | succ c =>
       have hct:c < tail.length:=by have:=hI.count; omega
       change E c (mask pre (tail.getD c 0) v) w1 wc at hl;show E c (mask pre (tail.getD c 0) (upd v j u)) w1 wc;have e:tail.getD c 0=tail[c]:=by simp [hct]
       rw [e] at hl ⊢;rw [Q9d (fun h=>hjt (by rw [h]; exact List.getElem_mem hct)) (hfree _ (htail c hct) (hI.before c hct (by omega)))]
       exact hl
    unfold wpOpIn;simp only [ho];rw [hwant]
    by_cases hjt:j ∈ tail
    . obtain ⟨hc,he⟩:=hwhich hjt
      have hv:=hvl c hc o (by rw [he]; exact ho) v w1 hI.rel (fun k hk hkt=>hI.facts k (hpre k (by rw [<- he]; exact hk)) hkt) wc hI.last
      rw [he] at hv;have hT:∀ u w',E c (mask pre j (upd v j u)) w1 w' -> Tail pre tail E (c + 1) (upd v j u) w1 w':=by
       intro u w' h;show E c (mask pre (tail.getD c 0) (upd v j u)) w1 w';have e:tail.getD c 0=j:=by simp [hc,he]
       rw [e]; exact h
      rcases hv with ⟨hwt,hg⟩ | ⟨hwf,hD⟩
      . rw [if_pos hwt]
        refine ⟨fun _ _=>trivial,?_⟩;rw [show (rnd l).round=some l from rfl,Oper.semAt_some l _ _ (hnd j o ho)]
        rw [hexec];exact Q7x (Q4a (fun u w' h=>hnext u w1 w' (c + 1) (hrefl _) (fun h=>absurd hjt h) (fun h=>absurd hjt h) (fun _=>rfl) (hT u w' h)) hg)
      . rw [if_neg (by rw [hwf]; simp)]
        refine ⟨fun _ _=>trivial,?_⟩;exact hnext undef w1 wc (c + 1) (hrefl _) (fun h=>absurd hjt h) (fun h=>absurd hjt h) (fun _=>rfl) (hT _ _ hD)
    . have hfacts:∀ k ∈ pre j,D k (mask pre k v) w1:=fun k hk=>hI.facts k (hpre k hk) (hlate j hlt hjt k hk)
      have hv:=hvc j o ho hjt v w1 hI.rel hfacts;cases hk:kind j with
      | plain =>
        rw [hk] at hv
        rcases hv with ⟨hwt,u,hrun,hD⟩ | ⟨hwf,hD⟩
        . rw [if_pos hwt]
          refine ⟨fun _ _=>trivial,?_⟩;rw [show (rnd l).round=some l from rfl,Oper.semAt_some l _ _ (hnd j o ho)]
          rw [hexec,hrun wc];exact hnext u w1 wc c (hrefl _) (fun _=>hD) (fun _=>rfl) (fun h=>absurd h hjt) (htailkeep hjt u)
        . rw [if_neg (by rw [hwf]; simp)]
          refine ⟨fun _ _=>trivial,?_⟩;exact hnext undef w1 wc c (hrefl _) (fun _=>hD) (fun _=>rfl) (fun h=>absurd h hjt) (htailkeep hjt undef)
      | world =>
        have hc0:c=0:=by
         rcases Nat.eq_zero_or_pos c with h | h
         . exact h
         . have h0:0 < tail.length:=by have:=hI.count; omega
           have hx:=hI.before 0 h0 h;exact absurd (hearly j hlt hk tail[0] (List.getElem_mem h0)) (hfree _ (htail 0 h0) hx)
        subst hc0;have hwc:wc=w1:=hI.last;subst hwc;rw [hk] at hv
        rcases hv with ⟨hwt,hg⟩ | ⟨hwf,hD⟩
        . rw [if_pos hwt]
          refine ⟨fun _ _=>trivial,?_⟩;rw [show (rnd l).round=some l from rfl,Oper.semAt_some l _ _ (hnd j o ho)]
          rw [hexec];exact Q7x (Q4a (fun u w' h=>hnext u w' w' 0 h.1 (fun _=>h.2) (fun _=>rfl) (fun h=>absurd h hjt) rfl) hg)
        . rw [if_neg (by rw [hwf]; simp)]
          refine ⟨fun _ _=>trivial,?_⟩;exact hnext undef wc wc 0 (hrefl _) (fun _=>hD) (fun _=>rfl) (fun h=>absurd h hjt) rfl
      | last=>exact absurd ((hkind j hlt).1 hk) hjt
 refine main ops.size _ a0 _ (by simp) ?_ (fun j o _ hx=>?_) ⟨fun _=>undef,w.drew,0,?_,hrefl _,fun k hx=>?_,Nat.zero_le _,fun i _ h=>absurd h (Nat.not_lt_zero _),fun i _ _=>?_,rfl,fun _ h=>(nomatch h),fun _ h=>(nomatch h)⟩
 . exact Nat.le_trans (List.countP_le_length) (by simp)
 . have:=Q2k ops.size j
   rw [this] at hx; cases hx
 . refine (X0b (by rw [Q2h]) fun t=>?_)
   have:∀ (l:List Oper) (i:Nat) (a:Act),act (fun k=>(Array.replicate ops.size false).getD k false) (fun _=>undef) l i a=a:=by
    intro l; induction l with
    | nil=>intro i a; rfl
    | cons o l ih=>intro i a; rw [act,ih,Q2k]; rfl
   rw [this]
 . have:=Q2k ops.size k
   rw [this] at hx; cases hx
 . exact Q2k ops.size _
end
def X5c (l:List Oper):Bool:=l.all fun o=>match o.op with | .defer _=>false | _=>true
theorem Y2k {l:List Oper} (h:X5c l=true):∀ (j:Nat) (o:Oper),l.toArray[j]?=some o -> ∀ c,o.op ≠ .defer c:=by
 intro j o ho c hc;have hm:o ∈ l:=List.mem_of_getElem? (by simpa using ho)
 have:=List.all_eq_true.1 h o hm;simp [hc] at this
section
variable {P:Program} {id:Nat} {Q:Exit -> Act -> World -> Prop} {a0:Act} {w:World} {ops:List Oper}
theorem Z1t {l n:Nat} (kl:List Kind) (jl:List Nat) (pl:List (List Nat)) (tail:List Nat) (Dl:List Spec) (El:List ((Nat -> Value) -> World -> World -> Prop))
    (hm:P.follows .mixedOrders=true) (hnd:X5c ops=true) (hjl:jl=List.range' 0 ops.length) (hok:okL ops pl kl tail El.length=true)
    (hvc:X3t P ops.toArray (lookup pl []) tail w.drew (fun k=>(lookup Dl .none k).D) El (fun _ w1 w=>w=w1) ops kl jl (fun _=>a0))
    (hpost:∀ v w1,Ext w.drew w1 -> All (lookup pl []) (fun k=>(lookup Dl .none k).D) v w1 tail jl (∀ w',endOf (lookup pl []) v w1 w' tail El -> Q .normal (acts v ops jl a0) w')) :
    (Code.region id ops.toArray true).wpIn (rnd l) n P Q a0 w:=by
 subst hjl;simp only [X9k] at hpost;simp only [okL,Bool.and_eq_true,List.all_eq_true,List.mem_range,beq_iff_eq,Bool.or_eq_true,Bool.not_eq_true',List.contains_eq_mem,decide_eq_true_eq,decide_eq_false_iff_not] at hok;obtain ⟨⟨⟨⟨⟨⟨hok,hlen⟩,htail⟩,hn⟩,hchain⟩,hlate⟩,hearly⟩:=hok;have hmem:∀ j,j ∈ tail ↔ j < ops.length /\ isLast (lookup kl .plain j)=true:=by intro j; rw [htail,List.mem_filter,List.mem_range]
 have hk:∀ j,isLast (lookup kl .plain j)=true ↔ lookup kl .plain j=.last:=by intro j; cases lookup kl .plain j <;> simp [isLast]
 have hlk:lasts kl 0=tail:=by
  rw [X3u,htail,hlen,List.range_eq_range'];rfl
 have hEl:∀ n,n < (lasts kl 0).length -> El[n]?=some ((fun c=>(El[c]?).getD fun _ _ _=>True) (0 + n)):=by
  intro n hn';rw [hlk,<- hn] at hn';simp [hn']
 have hend:∀ v w1 w',Tail (lookup pl []) tail (fun c=>(El[c]?).getD fun _ _ _=>True) tail.length v w1 w' -> endOf (lookup pl []) v w1 w' tail El:=by
  intro v w1 w' h;have gen:∀ (tl:List Nat) (el:List ((Nat -> Value) -> World -> World -> Prop)),el.length=tl.length -> (tl=[] -> w'=w1) -> (∀ (hne:tl ≠ []),((el[tl.length - 1]?).getD fun _ _ _=>True) (mask (lookup pl []) (tl.getD (tl.length - 1) 0) v) w1 w') -> endOf (lookup pl []) v w1 w' tl el:=by
   intro tl
   induction tl with
   | nil=>intro el _ h0 _; cases el <;> exact h0 rfl
   | cons j tl ih =>
     intro el hl _ h1;cases el with
     | nil=>simp at hl
     | cons E el =>
       cases tl with
       | nil=>cases el with
         | nil=>simpa [endOf] using h1 (by simp)
         | cons _ _=>simp at hl
       | cons j' tl=>cases el with
         | nil=>simp at hl
         | cons E' el =>
           show endOf _ v w1 w' (j' :: tl) (E' :: el);exact ih _ (by simpa using hl) (fun h=>by simp at h) (fun _=>by simpa using h1 (by simp))
  refine gen tail El hn.symm.symm (fun h0=>?_) (fun hne=>?_)
  . rw [h0] at h; exact h
  . obtain ⟨m,hm⟩:∃ m,tail.length=m + 1:=⟨tail.length - 1,by have:=List.length_pos_iff.2 hne; omega⟩
    rw [hm] at h;rw [hm,Nat.add_sub_cancel];exact h
 refine X3h tail (lookup kl .plain) (Rel:=Ext) (D:=fun k=>(lookup Dl .none k).D) (E:=fun c=>(El[c]?).getD fun _ _ _=>True) hm (Y2k hnd) (Z7g hok)
  (fun i hi=>by simpa using ((hmem _).1 (List.getElem_mem hi)).1) (fun i k hi hk hik=>by have:=hchain k hk i hik; simpa [hi,hk] using this)
  (fun j hjl hjs k hk'=>?_) (fun j hjl=>?_) (fun j hjl hjw s hs=>?_)
  Ext.refl (fun _ _ _=>Ext.trans) (fun k _ v w w' hx hd=>(lookup Dl .none k).mono v w w' hx hd) (fun j o ho hjs v w1 hx hf=>?_) (fun c hc o ho v w1 hx hf=>?_) (fun v w1 w' hx hf hE=>?_)
 . rcases hlate j (by simpa using hjl) with h | h
   . exact absurd ((hmem j).2 ⟨by simpa using hjl,h⟩) hjs
   . exact h k hk'
 . rw [hmem,hk]; simp at hjl; simp [hjl]
 . rcases hearly j (by simpa using hjl) with h | h
   . rw [hjw] at h; simp [X4q] at h
   . exact h s hs
 . have hjl:j < ops.length:=by simpa using (Array.getElem?_eq_some_iff.1 ho).1
   have:=Y6s ops kl El _ 0 _ hlen hvc j o (by simpa using ho) (fun h=>hjs ((hmem j).2 ⟨hjl,(hk j).2 h⟩)) v w1 hx (by simpa using hf)
   rw [Nat.zero_add] at this;have e:=Q3z v ops 0 j a0;rw [Nat.zero_add] at e
   simpa [e] using this
 . have:=Q8e (fun c=>(El[c]?).getD fun _ _ _=>True) ops kl El 0 _ 0 hlen (by rw [hlk]; rfl) hEl hvc c (by rw [hlk]; exact hc) tail[c] o (by simp [hc]) (by simpa using ho) v w1 hx (by simpa using hf)
   rw [Nat.zero_add,Nat.zero_add] at this;have e:=Q3z v ops 0 tail[c] a0;rw [Nat.zero_add] at e
   simpa [e] using this
 . exact (hpost v w1 hx).out (fun k hk hks=>hf k (by simpa using hk) hks) w' (hend v w1 w' hE)
theorem Z5j {l n:Nat} (kl:List Kind) (jl:List Nat) (pl:List (List Nat)) (Dl:List Spec)
    (hm:P.follows .mixedOrders=true) (hnd:X5c ops=true) (hjl:jl=List.range' 0 ops.length) (hok:okL ops pl kl [] 0=true)
    (hvc:X3t P ops.toArray (lookup pl []) [] w.drew (fun k=>(lookup Dl .none k).D) [] (fun _ w1 w=>w=w1) ops kl jl (fun _=>a0))
    (hpost:∀ v w1,Ext w.drew w1 -> All (lookup pl []) (fun k=>(lookup Dl .none k).D) v w1 [] jl (Q .normal (acts v ops jl a0) w1)) :
    (Code.region id ops.toArray true).wpIn (rnd l) n P Q a0 w :=
 Z1t kl jl pl [] Dl [] hm hnd hjl hok hvc (fun v w1 hx=>by
  have:=hpost v w1 hx;have gen:∀ (jl:List Nat) (G G':Prop),(G -> G') -> All (lookup pl []) (fun k=>(lookup Dl .none k).D) v w1 [] jl G -> All (lookup pl []) (fun k=>(lookup Dl .none k).D) v w1 [] jl G':=by
   intro jl
   induction jl with
   | nil=>intro G G' h hG; exact h hG
   | cons j jl ih =>
     intro G G' h hG;simp only [All,List.contains_nil,Bool.false_eq_true,if_false] at hG ⊢;exact fun hd=>ih G G' h (hG hd)
  exact gen _ _ _ (fun h w' (hE:w'=w1)=>hE ▸ h) this)
end
end Go.Flow
namespace Go.Flow
open Go.RowKit Go.Tw
def Y5a (P:Program) (ops:Array Oper) (pre:Nat -> List Nat) (tail:List Nat) (w0:World) (D:Nat -> (Nat -> Value) -> World -> Prop):List ((Nat -> Value) -> World -> World -> Prop) -> ((Nat -> Value) -> World -> World -> Prop) -> List Oper -> List Kind -> List Nat -> ((Nat -> Value) -> Act) -> Prop
 | El,T,o :: l,k :: kl,j :: jl,b =>
   match k,El with
   | .last,E :: El=>(∀ v w1,Ext w0 w1 -> Facts pre D v w1 ((pre j).filter fun i=>!tail.contains i) (∀ w,T v w1 w -> ∀ bb,bb=b v -> Guarded ops o bb (Due P pre D E .last o j bb v w1 w) (Pass pre D E .last j v w1 w))) /\
      Y5a P ops pre tail w0 D El (fun v w1 w=>E (mask pre j v) w1 w) l kl jl (fun v=>(b v).put o.dst (v j))
   | .last,[]=>False
   | k,El=>(∀ v w1,Ext w0 w1 -> Facts pre D v w1 (pre j) (∀ bb,bb=b v -> Guarded ops o bb (Due P pre D (fun _ _ _=>False) k o j bb v w1 w1) (Pass pre D (fun _ _ _=>False) k j v w1 w1))) /\ Y5a P ops pre tail w0 D El T l kl jl (fun v=>(b v).put o.dst (v j))
 | _,_,_,_,_,_=>True
theorem X1w {pre:Nat -> List Nat} {D:Nat -> (Nat -> Value) -> World -> Prop} {v:Nat -> Value} {w:World} {G G':Prop} (h:G -> G'):∀ {l:List Nat},Facts pre D v w l G -> Facts pre D v w l G'
 | [],hg=>h hg
 | _ :: _,hg=>fun hd=>X1w h (hg hd)
theorem Q9w {P:Program} {ops:Array Oper} {pre:Nat -> List Nat} {tail:List Nat} {w0:World} {D:Nat -> (Nat -> Value) -> World -> Prop}:∀ (l:List Oper) (kl:List Kind) (jl:List Nat) (El:List ((Nat -> Value) -> World -> World -> Prop)) (T:(Nat -> Value) -> World -> World -> Prop) (b:(Nat -> Value) -> Act),
    Y5a P ops pre tail w0 D El T l kl jl b -> X3t P ops pre tail w0 D El T l kl jl b
 | [],_,_,_,_,_,_=>by simp [X3t]
 | _ :: _,[],_,_,_,_,_=>by simp [X3t]
 | _ :: _,_ :: _,[],_,_,_,_=>by simp [X3t]
 | o :: l,.last :: kl,j :: jl,E :: El,T,b,h=>⟨h.1,Q9w l kl jl El _ _ h.2⟩
 | o :: l,.last :: kl,j :: jl,[],T,b,h=>h
 | o :: l,.plain :: kl,j :: jl,El,T,b,h=>⟨fun v w1 hx=>X1w (fun hg=>hg _ rfl) (h.1 v w1 hx),Q9w l kl jl El _ _ h.2⟩
 | o :: l,.world :: kl,j :: jl,El,T,b,h=>⟨fun v w1 hx=>X1w (fun hg=>hg _ rfl) (h.1 v w1 hx),Q9w l kl jl El _ _ h.2⟩
section
variable {P:Program} {ops:List Oper} {id:Nat} {Q:Exit -> Act -> World -> Prop} {a0:Act} {w:World}
theorem Q4m (kl:List Kind) (jl:List Nat) (pl:List (List Nat)) (tail:List Nat) (Dl:List Spec) (El:List ((Nat -> Value) -> World -> World -> Prop))
    (hm:P.follows .mixedOrders=true) (hjl:jl=List.range' 0 ops.length) (hok:okL ops pl kl tail El.length=true)
    (hvc:Y5a P ops.toArray (lookup pl []) tail w.drew (fun k=>(lookup Dl .none k).D) El (fun _ w1 w=>w=w1) ops kl jl (fun _=>a0))
    (hpost:∀ v w1,Ext w.drew w1 -> All (lookup pl []) (fun k=>(lookup Dl .none k).D) v w1 tail jl (∀ w',endOf (lookup pl []) v w1 w' tail El -> Q .normal (acts v ops jl a0) w')) :
    (Code.region id ops.toArray true).wp P Q a0 w:=region kl jl pl tail Dl El hm hjl hok (Q9w _ _ _ _ _ _ hvc) hpost
theorem Q1o (kl:List Kind) (jl:List Nat) (pl:List (List Nat)) (Dl:List Spec)
    (hm:P.follows .mixedOrders=true) (hjl:jl=List.range' 0 ops.length) (hok:okL ops pl kl [] 0=true)
    (hvc:Y5a P ops.toArray (lookup pl []) [] w.drew (fun k=>(lookup Dl .none k).D) [] (fun _ w1 w=>w=w1) ops kl jl (fun _=>a0))
    (hpost:∀ v w1,Ext w.drew w1 -> All (lookup pl []) (fun k=>(lookup Dl .none k).D) v w1 [] jl (Q .normal (acts v ops jl a0) w1)) :
    (Code.region id ops.toArray true).wp P Q a0 w:=Z7r kl jl pl Dl hm hjl hok (Q9w _ _ _ _ _ _ hvc) hpost
theorem Y7w {l n:Nat} (kl:List Kind) (jl:List Nat) (pl:List (List Nat)) (tail:List Nat) (Dl:List Spec) (El:List ((Nat -> Value) -> World -> World -> Prop))
    (hm:P.follows .mixedOrders=true) (hnd:X5c ops=true) (hjl:jl=List.range' 0 ops.length) (hok:okL ops pl kl tail El.length=true)
    (hvc:Y5a P ops.toArray (lookup pl []) tail w.drew (fun k=>(lookup Dl .none k).D) El (fun _ w1 w=>w=w1) ops kl jl (fun _=>a0))
    (hpost:∀ v w1,Ext w.drew w1 -> All (lookup pl []) (fun k=>(lookup Dl .none k).D) v w1 tail jl (∀ w',endOf (lookup pl []) v w1 w' tail El -> Q .normal (acts v ops jl a0) w')) :
    (Code.region id ops.toArray true).wpIn (rnd l) n P Q a0 w:=Z1t kl jl pl tail Dl El hm hnd hjl hok (Q9w _ _ _ _ _ _ hvc) hpost
theorem X1e {l n:Nat} (kl:List Kind) (jl:List Nat) (pl:List (List Nat)) (Dl:List Spec)
    (hm:P.follows .mixedOrders=true) (hnd:X5c ops=true) (hjl:jl=List.range' 0 ops.length) (hok:okL ops pl kl [] 0=true)
    (hvc:Y5a P ops.toArray (lookup pl []) [] w.drew (fun k=>(lookup Dl .none k).D) [] (fun _ w1 w=>w=w1) ops kl jl (fun _=>a0))
    (hpost:∀ v w1,Ext w.drew w1 -> All (lookup pl []) (fun k=>(lookup Dl .none k).D) v w1 [] jl (Q .normal (acts v ops jl a0) w1)) :
    (Code.region id ops.toArray true).wpIn (rnd l) n P Q a0 w:=Z5j kl jl pl Dl hm hnd hjl hok (Q9w _ _ _ _ _ _ hvc) hpost
end
end Go.Flow
namespace Go.Flow
open Go.RowKit Go.Tw
theorem Y3s {ops:Array Oper} {b:Act} {o:Oper} {j:Nat} {want x:Bool} {d:Tmp} (hg:o.guard=some (j,want)) (hd:(ops[j]?).bind (·.dst)=some d) (hsz:d < b.tmps.size) (hv:b.eval (.tmp d)=.bool x):Region.wanted o (yielded ops b.tmps)=(x == want):=by
 have h2:b.tmps[d]?=some (.bool x):=by
  have:b.tmps.getD d undef=.bool x:=hv;rw [Array.getD_eq_getD_getElem?,Array.getElem?_eq_getElem hsz] at this;rw [Array.getElem?_eq_getElem hsz];exact congrArg some this
 unfold Region.wanted;rw [hg];show (yielded ops b.tmps j == some want)=_;have:yielded ops b.tmps j=some x:=by
  unfold yielded;rw [hd];show (match b.tmps[d]? with | some (.bool b)=>some b | _=>none)=_
  rw [h2]
 rw [this];cases x <;> cases want <;> rfl
theorem Q0l {ops:Array Oper} {b:Act} {o:Oper} {j:Nat} {want:Bool} {d:Tmp} {T F:Prop} (hg:o.guard=some (j,want)) (hd:(ops[j]?).bind (·.dst)=some d) (hsz:d < b.tmps.size) (hv:b.eval (.tmp d)=.bool want) (h:T):Guarded ops o b T F:=by
 have:=Y3s hg hd hsz hv;unfold Guarded;rw [hg];exact .inl ⟨by rw [this]; cases want <;> rfl,h⟩
theorem Q1c {ops:Array Oper} {b:Act} {o:Oper} {j:Nat} {want:Bool} {d:Tmp} {T F:Prop} (hg:o.guard=some (j,want)) (hd:(ops[j]?).bind (·.dst)=some d) (hsz:d < b.tmps.size) (hv:b.eval (.tmp d)=.bool (!want)) (h:F):Guarded ops o b T F:=by
 have:=Y3s hg hd hsz hv;unfold Guarded;rw [hg];exact .inr ⟨by rw [this]; cases want <;> rfl,h⟩
end Go.Flow
namespace Go.Proofs
open Go.RowKit Go.Tw Go.Flow
attribute [local go_sem] Oper.semAt_some
theorem Q3q {w:World} {T:TypeId} {l:List Int} (hl:l.length <= 1000):Q0d (w.alloc (.cells (l.map (Value.int .i64)).toArray T)) (.slice (some ⟨w.heap.size,0,none⟩) l.length l.length) l:=by
 refine ⟨fun j=>.int .i64 (l.getD j 0),⟨some ⟨w.heap.size,0,none⟩,l.length,rfl,by omega,Nat.le_refl _,fun j hj=>⟨w.heap.size,0,rfl,?_⟩⟩,fun j hj=>?_⟩
 . have hj':j < l.length:=by omega
   rw [X9z]; simp [hj']
 . simp [hj]
def Q6w (l:List Mem) (i m:Nat):Bool:=(List.range m).any fun k=>Q1h l k == Q1h l i
theorem X9w (l:List Mem) (i m:Nat):Q6w l i (m + 1)=(Q6w l i m || Q1h l m == Q1h l i):=by
 unfold Q6w;rw [List.range_succ,List.any_append]; simp
theorem Y4f {l:List Mem} {i m:Nat} (hm:m < i) (h:(Q1h l m == Q1h l i)=true):Q2y l i=true:=by
 unfold Q2y;rw [List.any_eq_true];exact ⟨m,List.mem_range.2 hm,h⟩
theorem X5k {s:Q0b} {i:Nat} (h:nameB (Q1h s.members i)=false):s.Q2o i=8:=if_pos h
theorem X3f {s:Q0b} {i:Nat} (h:nameB (Q1h s.members i)=true) (h2:Q2y s.members i=true):s.Q2o i=9:=(if_neg (by rw [h]; simp)).trans (if_pos h2)
theorem X0t {s:Q0b} {i:Nat} (h:nameB (Q1h s.members i)=true) (h2:Q2y s.members i=false) (h3:Q0f (Q0i s.members i) 1 1000 ≠ 0):s.Q2o i=3:=(if_neg (by rw [h]; simp)).trans ((if_neg (by rw [h2]; simp)).trans (if_pos h3))
theorem X2r {s:Q0b} {i:Nat} (h:nameB (Q1h s.members i)=true) (h2:Q2y s.members i=false) (h3:Q0f (Q0i s.members i) 1 1000=0) (h4:¬ ((Q0c s.members i).length=s.ships.length /\ (Q0t s.members i).length=s.ships.length /\ (Q0y s.members i).length=s.ships.length)):s.Q2o i=2 :=
 (if_neg (by rw [h]; simp)).trans ((if_neg (by rw [h2]; simp)).trans ((if_neg (fun hn=>hn h3)).trans (if_pos h4)))
theorem X4w {s:Q0b} {i:Nat} (h:nameB (Q1h s.members i)=true) (h2:Q2y s.members i=false) (h3:Q0f (Q0i s.members i) 1 1000=0) (h4:(Q0c s.members i).length=s.ships.length /\ (Q0t s.members i).length=s.ships.length /\ (Q0y s.members i).length=s.ships.length):s.Q2o i=Q0g [Q0o (Q0c s.members i) 9,Q0o (Q0t s.members i) 1024,Q0o (Q0y s.members i) 1024] :=
 (if_neg (by rw [h]; simp)).trans ((if_neg (by rw [h2]; simp)).trans ((if_neg (fun hn=>hn h3)).trans (if_neg (fun hn=>hn h4))))
theorem Q5v {x a b:Int} (h:Q0f x a b ≠ 0):Q0f x a b=3:=by unfold Q0f at h ⊢; split at h <;> simp_all
theorem X3j (w:World) (v:Value) (s:Q0b) (i:Nat) (hv:Q0h w v s) (hi:i < s.members.length) :
    Calls Tryz.prog 89 #[v,.int .i64 (i:Int)] w fun e w'=>e=.returned (.int .i64 (s.Q2o i)) /\ Ext w w':=by
 obtain ⟨a,b,rfl,h2⟩:=hv;obtain ⟨A,capa,rfl,hla,-,-⟩:=h2.ships.opened;obtain ⟨B,capb,rfl,hlb,-,hc⟩:=h2.members.opened;obtain ⟨bm,off,x,y,z,rfl,hbm,e0,e1,e2,e3,e4,hx,hy,hz,hsh⟩:=hc i hi;obtain ⟨X,capx,rfl,hlx,-,-⟩:=hx.opened;obtain ⟨Y,capy,rfl,hly,-,-⟩:=hy.opened;obtain ⟨Z,capz,rfl,hlz,-,-⟩:=hz.opened;have HCC:Hid (∀ k,k < s.members.length -> w.cell? ⟨bm,off + k * 5,none⟩=some (.string (Q1h s.members k))):=hid (fun k hk=>by
  obtain ⟨b',off',_,_,_,hA,_,h0,_⟩:=hc k hk;cases hA;exact h0)
 have hiI:(i:Int) < s.members.length:=by omega
 have HSH:=hid hsh;have HXI:=hid hx;have HYI:=hid hy;have HZI:=hid hz;clear hc hsh h2 hx hy hz;have HMN:=hid (X5k (s:=s) (i:=i));have HMT:=hid (X3f (s:=s) (i:=i));have HMW:=hid (X0t (s:=s) (i:=i));have HMS:=hid (X2r (s:=s) (i:=i));have HMR:=hid (X4w (s:=s) (i:=i));have HYES:Hid (∀ m,m < i -> (Q1h s.members m == Q1h s.members i)=true -> Q2y s.members i=true):=hid (fun m hm h=>Y4f hm h);have HSUC:Hid (∀ m,Q6w s.members i (m + 1)=(Q6w s.members i m || Q1h s.members m == Q1h s.members i)):=hid (fun m=>X9w _ _ m)
 have HEND:Hid (Q6w s.members i i=Q2y s.members i):=hid rfl;obtain ⟨nm,hnm⟩:∃ x,Q1h s.members i=x:=⟨_,rfl⟩;obtain ⟨wt,hwt⟩:∃ x,Q0i s.members i=x:=⟨_,rfl⟩;obtain ⟨lc,hlc⟩:∃ x,Q0c s.members i=x:=⟨_,rfl⟩;obtain ⟨lo,hlo⟩:∃ x,Q0t s.members i=x:=⟨_,rfl⟩;obtain ⟨li,hli⟩:∃ x,Q0y s.members i=x:=⟨_,rfl⟩;have HCI:=hid (HCC.out i hi);rw [hnm] at e0 HSH HMN HMT HMW HMS HMR HYES HSUC HCI;rw [hwt] at e1 HMW HMS HMR;rw [hlc] at e2 hlx HXI HMS HMR;rw [hlo] at e3 hly HYI HMS HMR;rw [hli] at e4 hlz HZI HMS HMR;clear hnm hwt hlc hlo hli;go_enter Tryz.func89,Tryz.ntmps89;go_wp2_with fail;change Calls _ _ _ ((w.alloc (.cells #[.int .i64 s.limit,.slice A s.ships.length capa,.slice (some ⟨bm,off,none⟩) s.members.length capb] 25)).alloc (.cells #[.string nm,.int .i64 wt,.slice X lc.length capx,.slice Y lo.length capy,.slice Z li.length capz] 68)) _;obtain ⟨W,hWW,k0,k1,HXW,eW⟩:=Q4e w 25 #[.int .i64 s.limit,.slice A s.ships.length capa,.slice (some ⟨bm,off,none⟩) s.members.length capb] 68 #[.string nm,.int .i64 wt,.slice X lc.length capx,.slice Y lo.length capy,.slice Z li.length capz];rw [hWW];clear hWW;have K0:=hid k0;have K1:=hid k1;clear k0 k1 e0 e1 e2 e3 e4;refine (Z0o _ _ HSH.out).mono ?_;rintro e w1 ⟨rfl,rfl⟩;cases hnb:nameB nm with
 | false =>
   have HR:=hid (HMN.out hnb);clear hnb;go_wp2;go_ret;exact ⟨Q1d HR.out.symm,HXW.out⟩
 | true =>
   have HNB:=hid hnb;clear hnb;have k0:=K0.out;have c0_2:=k0.cell 2;have c1_0:=K1.out.cell 0;simp only [Go.Tw.gA,Go.Tw.gB,Go.Tw.gC] at c0_2 c1_0;clear k0;go_wp2_with fail
   go_loopw [6] (fun j wr=>∃ m:Nat,m <= i /\ j=.int .i64 m /\ Q6w s.members i m=false /\ Ext W wr) (fun j _=>i - (intOf j).toNat)
   case atStart=>exact ⟨0,Nat.zero_le _,rfl,rfl,Ext.refl _⟩
   case round =>
    obtain ⟨m,hm,rfl,htw,hxr⟩:=hrel;have HTW:=hid htw;have HXR:=hid hxr;replace c0_2:=hxr.cell c0_2;replace c1_0:=hxr.cell c1_0;clear htw
    by_cases hmi:m < i
    . have hck:=(HXW.out.trans hxr).cell (HCC.out m (by omega))
      have hy1:=HYES.out m hmi;have hy2:=HSUC.out m;obtain ⟨x,hx⟩:∃ x,Q1h s.members m=x:=⟨_,rfl⟩;rw [hx] at hck hy1 hy2;obtain ⟨q,hq⟩:∃ q,(x.toList == nm.toList)=q:=⟨_,rfl⟩;have HQ:Hid ((x == nm)=q):=hid (by rw [Go.beq_toListBytes]; exact hq)
      rw [HQ.out] at hy1 hy2;have HY1:=hid hy1;have HY2:=hid hy2;have hmI:(m:Int) < (s.members.length:Int):=by omega
      have hmiI:(m:Int) < (i:Int):=by omega
      clear hx hy1 hy2 hxr;cases q with
      | true =>
        go_light
        go_wp2
        go_quiet (fail)
        all_goals go_wp2
        go_ret;exact ⟨Q1d (HMT.out HNB.out (HY1.out (by trivial))).symm,HXW.out.trans (HXR.out.drewN _)⟩
      | false =>
        go_light
        go_wp2
        go_quiet (fail)
        all_goals go_wp2
        go_roundw
        case rel=>exact ⟨m + 1,by omega,by go_num,by rw [HY2.out,HTW.out]; rfl,HXR.out.drewN _⟩
        case measure=>simp [intOf]; omega
    . have hme:m=i:=by omega
      subst hme;have HTF:Hid (Q2y s.members m=false):=hid (HTW.out);have hmiI:¬ (m:Int) < (m:Int):=by omega
      have c0_1:=hxr.cell (K0.out.cell 1);have k1:=K1.out.ext hxr;have c1_1:=k1.cell 1;have c1_2:=k1.cell 2;have c1_3:=k1.cell 3;have c1_4:=k1.cell 4;simp only [Go.Tw.gA,Go.Tw.gB,Go.Tw.gC] at c0_1 c1_1 c1_2 c1_3 c1_4;have HXX:=hid (HXW.out.trans hxr);have HKR:=hid k1;clear k1 hxr hmi
      by_cases hw:Q0f wt 1 1000=0
      . have hwn:(Q0f wt 1 1000 != 0)=false:=by simp [hw]
        have HWZ:=hid hw;clear hw
        by_cases h1:lc.length=s.ships.length
        . have h1b:((lc.length:Int) != (s.ships.length:Int))=false:=by rw [h1]; simp
          by_cases h2:lo.length=s.ships.length
          . have h2b:((lo.length:Int) != (s.ships.length:Int))=false:=by rw [h2]; simp
            by_cases h3:li.length=s.ships.length
            . have h3b:((li.length:Int) != (s.ships.length:Int))=false:=by rw [h3]; simp
              have hrest:=HMR.out HNB.out HTF.out HWZ.out ⟨h1,h2,h3⟩;obtain ⟨E,hE⟩:∃ E,Q0g [Q0o lc 9,Q0o lo 1024,Q0o li 1024]=E:=⟨_,rfl⟩;rw [hE] at hrest;have HE:Hid (∀ (w':World) (u:Value),Q0d w' u [Q0o lc 9,Q0o lo 1024,Q0o li 1024] -> Calls Tryz.prog 22 #[u] w' fun e w''=>e=.returned (.int .i64 E) /\ w'=w''):=hid (by intro w' u h; rw [<- hE]; exact Z3g _ _ _ h)
              have HRE:=hid hrest;have hdr:=(Ext.refl wr).drew;clear h1 h2 h3 hE hrest;go_wp2_with (go_at_call 87; refine (Q2a _ wt 1 1000).mono ?_; rintro e w' ⟨rfl,rfl⟩);refine Flow.Q1o [.p,.w,.w,.p,.w,.w,.p,.w,.w,.w,.w,.p] [0,1,2,3,4,5,6,7,8,9,10,11] [[],[0],[1],[],[3],[2,4],[],[6],[5,7],[2,5,8],[8,9],[0,1,2,3,4,5,6,7,8,9,10]]
               [.c 0 (.pointer (some ⟨w.heap.size + 1,2,none⟩)),.c 1 (.slice X lc.length capx),.c 2 (.int .i64 (Q0o lc 9)),.c 3 (.pointer (some ⟨w.heap.size + 1,3,none⟩)),.c 4 (.slice Y lo.length capy),.c 5 (.int .i64 (Q0o lo 1024)),.c 6 (.pointer (some ⟨w.heap.size + 1,4,none⟩)),.c 7 (.slice Z li.length capz),.c 8 (.int .i64 (Q0o li 1024)),⟨fun v wz=>Q0d wz (v 9) [Q0o lc 9,Q0o lo 1024,Q0o li 1024],fun _ _ _ hx h=>h.ext hx⟩,.c 10 (.int .i64 E),.c 11 (.int .i64 E)]
               (by kernel_rfl) rfl (by kernel_rfl) ⟨?g0,?g1,?g2,?g3,?g4,?g5,?g6,?g7,?g8,?g9,?g10,?g11,trivial⟩ ?post
              case g0 | g3 | g6=>
               intro v w1 hx;intro bb hbb;subst hbb;refine ⟨_,fun w=>?_,rfl⟩;go_simp
              case g1 | g4 | g7=>
               intro v w1 hx;(repeat intro (zq:v _=_));intro bb hbb;subst hbb;have n0:w1.cell? ⟨w.heap.size + 1,2,none⟩=some (.slice X lc.length capx):=(HKR.out.ext (hdr.trans hx)).cell 2;have n1:w1.cell? ⟨w.heap.size + 1,3,none⟩=some (.slice Y lo.length capy):=(HKR.out.ext (hdr.trans hx)).cell 3;have n2:w1.cell? ⟨w.heap.size + 1,4,none⟩=some (.slice Z li.length capz):=(HKR.out.ext (hdr.trans hx)).cell 4;intro K hK;go_simp;exact hK _ _ (Ext.refl _) rfl
              case g2=>
               intro v w1 hx;(repeat intro (zq:v _=_));intro bb hbb;subst hbb;intro K hK;go_simp;refine Q0e (Q6c w1 _ lc 9 (HXI.out.ext (HXX.out.trans (hdr.trans hx)))) ?_;rintro e w2 ⟨rfl,hx2⟩;exact ⟨_,rfl,hK _ _ hx2 rfl⟩
              case g5=>
               intro v w1 hx;(repeat intro (zq:v _=_));intro bb hbb;subst hbb;intro K hK;go_simp;refine Q0e (Q6c w1 _ lo 1024 (HYI.out.ext (HXX.out.trans (hdr.trans hx)))) ?_;rintro e w2 ⟨rfl,hx2⟩;exact ⟨_,rfl,hK _ _ hx2 rfl⟩
              case g8=>
               intro v w1 hx;(repeat intro (zq:v _=_));intro bb hbb;subst hbb;intro K hK;go_simp;refine Q0e (Q6c w1 _ li 1024 (HZI.out.ext (HXX.out.trans (hdr.trans hx)))) ?_;rintro e w2 ⟨rfl,hx2⟩;exact ⟨_,rfl,hK _ _ hx2 rfl⟩
              case g9=>
               intro v w1 hx;(repeat intro (zq:v _=_));intro bb hbb;subst hbb;intro K hK;go_simp;exact hK _ _ (Ext.box _ _) (Q3q (l:=[Q0o lc 9,Q0o lo 1024,Q0o li 1024]) (by simp))
              case g10=>
               intro v w1 hx (q8:v 8=_) (q9:Q0d w1 (v 9) [Q0o lc 9,Q0o lo 1024,Q0o li 1024]);intro bb hbb;subst hbb;intro K hK;go_simp;refine Q0e (HE.out _ _ q9) ?_;rintro e w2 ⟨rfl,rfl⟩;exact ⟨_,rfl,hK _ _ (Ext.refl _) rfl⟩
              case g11=>
               intro v w1 hx (q0:v 0=_) (q1:v 1=_) (q2:v 2=_) (q3:v 3=_) (q4:v 4=_) (q5:v 5=_) (q6:v 6=_) (q7:v 7=_) (q8:v 8=_) _ (q10:v 10=_);intro bb hbb;subst hbb;refine ⟨_,fun w=>?_,rfl⟩;go_simp
              case post =>
               intro v w1 hx;(iterate 9 intro (zq:v _=_));intro (q9:Q0d w1 (v 9) [Q0o lc 9,Q0o lo 1024,Q0o li 1024]);(iterate 2 intro (zq:v _=_));simp only [Flow.All,Flow.acts,Act.put];go_simp;have HX9:=hid (HXX.out.trans (hdr.trans hx));clear hx hdr q9;(repeat clear zq);go_wp2;go_ret;exact ⟨Q1d HRE.out.symm,HX9.out⟩
            . have h3b:((li.length:Int) != (s.ships.length:Int))=true:=by rw [bne_iff_ne]; omega
              have HR:=hid (HMS.out HNB.out HTF.out HWZ.out fun h=>h3 h.2.2);clear h1 h2 h3;go_wp2_with (go_at_call 87; refine (Q2a _ wt 1 1000).mono ?_; rintro e w' ⟨rfl,rfl⟩);go_ret;exact ⟨Q1d HR.out.symm,HXX.out⟩
          . have h2b:((lo.length:Int) != (s.ships.length:Int))=true:=by rw [bne_iff_ne]; omega
            have HR:=hid (HMS.out HNB.out HTF.out HWZ.out fun h=>h2 h.2.1);clear h1 h2;go_wp2_with (go_at_call 87; refine (Q2a _ wt 1 1000).mono ?_; rintro e w' ⟨rfl,rfl⟩);go_ret;exact ⟨Q1d HR.out.symm,HXX.out⟩
        . have h1b:((lc.length:Int) != (s.ships.length:Int))=true:=by rw [bne_iff_ne]; omega
          have HR:=hid (HMS.out HNB.out HTF.out HWZ.out fun h=>h1 h.1);clear h1;go_wp2_with (go_at_call 87; refine (Q2a _ wt 1 1000).mono ?_; rintro e w' ⟨rfl,rfl⟩);go_ret;exact ⟨Q1d HR.out.symm,HXX.out⟩
      . have hwn:(Q0f wt 1 1000 != 0)=true:=by simp [hw]
        have HR:Hid (s.Q2o m=Q0f wt 1 1000):=hid (by rw [HMW.out HNB.out HTF.out hw,Q5v hw])
        clear hw;go_wp2_with (go_at_call 87; refine (Q2a _ wt 1 1000).mono ?_; rintro e w' ⟨rfl,rfl⟩);go_ret;exact ⟨Q1d HR.out.symm,HXX.out⟩
end Go.Proofs
