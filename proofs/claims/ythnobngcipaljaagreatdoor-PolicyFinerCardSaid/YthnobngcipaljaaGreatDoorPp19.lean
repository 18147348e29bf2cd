/- The region theorem where one operation turns what others only extend: it is carried out once, and ahead of it the stronger relation holds. -/
import Derived.Test.YthnobngcipaljaaGreatDoorPp18
set_option maxRecDepth 1000000
set_option maxHeartbeats 64000000
set_option linter.unusedVariables false
set_option linter.unusedSimpArgs false
set_option linter.constructorNameAsVariable false
namespace Go.Flow
open Go.RowKit Go.Tw
section
variable {P:Program} {ops:Array Oper} {pre:Nat -> List Nat}
theorem X7f (j0:Nat) {Rel0:World -> World -> Prop} (h0r:∀ w,Rel0 w w) (h0t:∀ a b c,Rel0 a b -> Rel0 b c -> Rel0 a c) (news:List Nat) (tail:List Nat) (kind:Nat -> Kind) {Rel:World -> World -> Prop} {D:Nat -> (Nat -> Value) -> World -> Prop} {E:Nat -> (Nat -> Value) -> World -> World -> Prop}
    {id:Nat} {Q:Exit -> Act -> World -> Prop} {a0:Act} {w:World} (hm:P.follows .mixedOrders=true) (hok:Ok ops pre)
    (htail:∀ i (h:i < tail.length),tail[i] < ops.size) (hchain:∀ i k (hi:i < tail.length) (hk:k < tail.length),i < k -> tail[i] ∈ pre tail[k])
    (hlate:∀ j,j < ops.size -> j ∉ tail -> ∀ k ∈ pre j,k ∉ tail) (hkind:∀ j,j < ops.size -> (kind j=.last ↔ j ∈ tail)) (hearly:∀ j,j < ops.size -> kind j=.world -> ∀ s ∈ tail,j ∈ pre s)
    (h01:∀ a b,Rel0 a b -> Rel a b) (hrefl:∀ w,Rel w w) (htrans:∀ a b c,Rel a b -> Rel b c -> Rel a c) (hmono:∀ k,k < ops.size -> ∀ v w w',Rel w w' -> D k v w -> D k v w')
    (hvc:∀ j o,ops[j]?=some o -> j ∉ tail -> j ≠ j0 -> ∀ v w1,Rel w.drew w1 -> (∀ k ∈ pre j,D k (mask pre k v) w1) -> vc P ops pre Rel0 D (fun _ _ _=>False) (fun _ _ _=>False) (kind j) o j (act (fun k=>decide (k < j)) v ops.toList 0 a0) v w1)
    (hvc0:∀ o,ops[j0]?=some o -> j0 ∉ tail -> ∀ v w1,Rel0 w.drew w1 -> (∀ k ∈ pre j0,D k (mask pre k v) w1) -> vc P ops pre Rel D (fun _ _ _=>False) (fun _ _ _=>False) (kind j0) o j0 (act (fun k=>decide (k < j0)) v ops.toList 0 a0) v w1)
    (hvl:∀ c (hc:c < tail.length) o,ops[tail[c]]?=some o -> ∀ v w1,Rel w.drew w1 -> (∀ k ∈ pre tail[c],k ∉ tail -> D k (mask pre k v) w1) -> vc P ops pre Rel D (Tail pre tail E c) (E c) .last o tail[c] (act (fun k=>decide (k < tail[c])) v ops.toList 0 a0) v w1)
    (hnews:∀ j ∈ news,j < ops.size /\ kind j=.world /\ ∀ o,ops[j]?=some o -> Made P o) (hrsz:∀ a b,Rel a b -> a.heap.size <= b.heap.size)
    (hpost:∀ v w1 w',Rel w.drew w1 -> J1b news v -> (∀ k,k < ops.size -> k ∉ tail -> D k (mask pre k v) w1) -> Tail pre tail E tail.length v w1 w' -> Q .normal (act (fun _=>true) v ops.toList 0 a0) w') :
    (Code.region id ops true).wp P Q a0 w:=by
 refine wp_region_any hm ?_;have hclosed:∀ (X:Nat -> Bool),(∀ j o,ops[j]?=some o -> X j=true -> ∀ e ∈ o.after,Region.binds .any e=true -> X e.on=true) ->
     ∀ j o,ops[j]?=some o -> (∀ e ∈ o.after,Region.binds .any e=true -> X e.on=true) -> ∀ i ∈ pre j,X i=true:=by
  intro X hX j
  induction j using Nat.strongRecOn with
  | _ j ih =>
    intro o ho hall i hi;obtain ⟨e,he,hb,hc⟩:=hok.pre j o ho i hi
    rcases hc with rfl | hc
    . exact hall e he hb
    . have hlt:=hok.edge j o ho e he hb
      have hj:j < ops.size:=(Array.getElem?_eq_some_iff.1 ho).1;have ho':ops[e.on]?=some ops[e.on]:=Array.getElem?_eq_getElem (by omega)
      exact ih e.on hlt _ ho' (hX e.on _ ho' (hall e he hb)) i hc
 have main:∀ (fuel:Nat) (listed:Array Bool) (a:Act) (wc:World),listed.size=ops.size -> left ops.size listed <= fuel ->
     (∀ j o,ops[j]?=some o -> listed.getD j false=true -> ∀ e ∈ o.after,Region.binds .any e=true -> listed.getD e.on false=true) ->
     (∃ v w1 c,Inv ops pre Rel D E tail news a0 w.drew (fun k=>listed.getD k false) v w1 c a wc /\ (listed.getD j0 false=false -> Rel0 w.drew w1)) -> wpAny P .any ops Q fuel listed a wc:=by
  intro fuel;have hdone:∀ (listed:Array Bool) (a:Act) (wc:World),listed.size=ops.size ->
      (∃ v w1 c,Inv ops pre Rel D E tail news a0 w.drew (fun k=>listed.getD k false) v w1 c a wc /\ (listed.getD j0 false=false -> Rel0 w.drew w1)) -> Region.ready .any ops listed=[] -> Q .normal a wc:=by
   rintro listed a wc hsz ⟨v,w1,c,hI,_⟩ hr;have hall:∀ j,j < ops.size -> listed.getD j false=true:=by
    intro j
    induction j using Nat.strongRecOn with
    | _ j ih =>
      intro hj;cases hx:listed.getD j false with
      | true=>rfl
      | false =>
        have hmem:j ∈ Region.ready .any ops listed:=mem_ready.2 ⟨by rw [Q2m (by omega)]; exact hx,ops[j],Array.getElem?_eq_getElem hj,fun e he hb =>
         have hlt:=hok.edge j _ (Array.getElem?_eq_getElem hj) e he hb
         ih e.on hlt (by omega)⟩
        rw [hr] at hmem;cases hmem
   have hact:a=act (fun _=>true) v ops.toList 0 a0:=by
    rw [hI.act];refine X0b (by rw [Q2h,Q2h]) fun t=>Q5k _ _ _ _ t _ 0 _ _ rfl rfl fun k o ho _=>⟨?_,fun _=>rfl⟩
    rw [Nat.zero_add];exact hall k (by simpa using (List.getElem?_eq_some_iff.1 ho).1)
   rw [hact];refine hpost v w1 wc hI.rel (fun i hi k hk hne=>hI.newNe i hi k hk hne (hall i (hnews i hi).1) (hall k (hnews k hk).1)) (fun k hk hks=>hI.facts k (hall k hk) hks) ?_;have hl:=hI.last;have hc:c=tail.length:=by
    rcases Nat.lt_or_ge c tail.length with h | h
    . have h1:listed.getD tail[c] false=false:=hI.after c h (Nat.le_refl _)
      have h2:=hall _ (htail c h);rw [h2] at h1; cases h1
    . have:=hI.count; omega
   rw [hc] at hl;exact hl
  induction fuel with
  | zero =>
    intro listed a wc hsz hleft _ hI;have hr:Region.ready .any ops listed=[]:=by
     refine List.eq_nil_iff_forall_not_mem.2 fun j hj=>?_;obtain ⟨hun,o,ho,_⟩:=mem_ready.1 hj;have hlt:j < ops.size:=(Array.getElem?_eq_some_iff.1 ho).1;have:=Q8u hsz hlt hun;omega
    exact ⟨hr,hdone listed a wc hsz hI hr⟩
  | succ fuel ih =>
    intro listed a wc hsz hleft hcl hI;refine ⟨hdone listed a wc hsz hI,fun j hj=>?_⟩;obtain ⟨v,w1,c,hI,hO⟩:=hI;obtain ⟨hun,o,ho,hall⟩:=mem_ready.1 hj;have hlt:j < ops.size:=(Array.getElem?_eq_some_iff.1 ho).1;have hunf:listed.getD j false=false:=by rw [<- Q2m (by omega)]; exact hun
    have hpre:=hclosed (fun k=>listed.getD k false) hcl j o ho hall;have hol:ops.toList[j]?=some o:=by simpa using ho
    have hfree:∀ k,k < ops.size -> listed.getD k false=true -> j ∉ pre k:=by
     intro k hk hx hmem;have ho':ops[k]?=some ops[k]:=Array.getElem?_eq_getElem hk;have h2:listed.getD j false=true:=hclosed (fun k=>listed.getD k false) hcl k _ ho' (hcl k _ ho' hx) j hmem;rw [hunf] at h2; cases h2
    have hlater:∀ k o',j < k -> ops[k]?=some o' -> listed.getD k false=true -> o.apart ops o'=true:=by
     intro k o' hk ho' hx
     rcases hok.apart j k o o' hk ho ho' with h | h
     . exact h
     . exact absurd h (hfree k (Array.getElem?_eq_some_iff.1 ho').1 hx)
    have hlooks:∀ t ∈ o.looksAt ops,a.tmps[t]?=(act (fun k=>decide (k < j)) v ops.toList 0 a0).tmps[t]?:=by
     intro t ht;rw [hI.act];refine Q5k _ _ _ _ t _ 0 _ _ rfl rfl fun k o' ho' hd=>?_;rw [Nat.zero_add];refine ⟨?_,fun _=>rfl⟩;have ho'':ops[k]?=some o':=by simpa using ho'
     rcases Nat.lt_trichotomy k j with hk | hk | hk
     . simp only [hk,decide_true]
       rcases hok.apart k j o' o hk ho'' ho with h | h
       . exact absurd ht ((Oper.apart_spec h).1 t hd)
       . exact hpre k h
     . subst hk
       simp [hunf]
     . have hnlt:¬ k < j:=by omega
       simp only [hnlt,decide_false];cases hx:listed.getD k false with
       | false=>rfl
       | true=>exact absurd ht ((Oper.apart_spec (hlater k o' hk ho'' hx)).2.2 t hd)
    have hexec:execOp a.eval o=execOp (act (fun k=>decide (k < j)) v ops.toList 0 a0).eval o:=execOp_congr o (fun cs b=>hok.sel j o cs b ho) (eval_congr o hlooks);have hwant:Region.wanted o (yielded ops a.tmps)=Region.wanted o (yielded ops (act (fun k=>decide (k < j)) v ops.toList 0 a0).tmps):=Q7s o hlooks;have hput:∀ u,a.put o.dst u=act (fun k=>if k=j then true else listed.getD k false) (upd v j u) ops.toList 0 a0:=by
     intro u;rw [hI.act];refine X9h hol hunf fun k o' hk ho' hx=>?_;cases hd:o.dst with
     | none=>exact .inr rfl
     | some d=>exact .inl ((Oper.apart_spec (hlater k o' hk (by simpa using ho') hx)).2.1 d hd)
    have hX:(fun k=>(listed.setIfInBounds j true).getD k false)=fun k=>if k=j then true else listed.getD k false:=by
     funext k
     split
     . rename_i hk; subst hk; simp [hsz,hlt]
     . rename_i hk; exact getD_set_ne false (Ne.symm hk)
    have hwhich:j ∈ tail -> ∃ h:c < tail.length,tail[c]=j:=by
     intro hmem;obtain ⟨i,hi,he⟩:=List.getElem_of_mem hmem;have hci:c <= i:=by
      rcases Nat.lt_or_ge i c with h | h
      . have:=hI.before i hi h
        simp only [he] at this;rw [hunf] at this; cases this
      . exact h
     have:c=i:=by
      rcases Nat.lt_or_ge c i with h | h
      . have hx:=hpre tail[c] (by rw [<- he]; exact hchain c i (by omega) hi h)
        have h1:=hI.after c (by omega) (Nat.le_refl _)
        rw [hx] at h1; cases h1
      . omega
     subst this;exact ⟨hi,he⟩
    have hnext:∀ (u:Value) (w1' wc':World) (c':Nat),Rel w1 w1' -> (j ≠ j0 -> Rel0 w1 w1') -> (j ∉ tail -> D j (mask pre j (upd v j u)) w1') -> (j ∉ tail -> c'=c) -> (j ∈ tail -> c'=c + 1) -> (j ∈ news -> ∃ g,u=.pointer (some ⟨g,0,none⟩) /\ w1.heap.size <= g /\ g < w1'.heap.size) ->
        Tail pre tail E c' (upd v j u) w1' wc' -> wpAny P .any ops Q fuel (listed.setIfInBounds j true) (a.put o.dst u) wc':=by
     intro u w1' wc' c' hrel hrel0 hD hc1 hc2 hN hE;refine ih _ _ _ (by simpa using hsz) (by have:=Q8u hsz hlt hun; omega) (fun k ok hok' hx e he hb=>?_) ⟨upd v j u,w1',c',⟨by rw [hX]; exact hput u,htrans _ _ _ hI.rel hrel,fun k hx hks=>?_,?_,fun i hi hic=>?_,fun i hi hic=>?_,hE,fun i hi hx=>?_,fun i hi k hk hne hx hy=>?_⟩,fun hx=>?_⟩
     . by_cases hkj:k=j
       . subst hkj
         rw [ho] at hok';cases hok';exact getD_set_true (hall e he hb)
       . rw [getD_set_ne false (Ne.symm hkj)] at hx
         exact getD_set_true (hcl k ok hok' hx e he hb)
     . rw [congrFun hX k] at hx
       by_cases hkj:k=j
       . subst hkj; exact hD hks
       . rw [if_neg hkj] at hx
         have hksz:k < ops.size:=by
          rcases Nat.lt_or_ge k ops.size with h | h
          . exact h
          . rw [<- hsz] at h; simp [Array.getElem?_eq_none h] at hx
         rw [Q9d (Ne.symm hkj) (hfree k hksz hx)];exact hmono k hksz _ _ _ hrel (hI.facts k hx hks)
     . by_cases hjt:j ∈ tail
       . obtain ⟨h,_⟩:=hwhich hjt
         rw [hc2 hjt]; omega
       . rw [hc1 hjt]; exact hI.count
     . rw [congrFun hX]
       by_cases hij:tail[i]=j
       . rw [if_pos hij]
       . rw [if_neg hij]
         by_cases hjt:j ∈ tail
         . obtain ⟨h,he⟩:=hwhich hjt
           rw [hc2 hjt] at hic;have:i ≠ c:=fun e=>hij (by subst e; exact he)
           exact hI.before i hi (by omega)
         . rw [hc1 hjt] at hic; exact hI.before i hi hic
     . rw [congrFun hX]
       by_cases hjt:j ∈ tail
       . obtain ⟨h,he⟩:=hwhich hjt
         rw [hc2 hjt] at hic;rw [if_neg (fun e=>by
          have h1:=hchain c i h hi (by omega)
          rw [e,he] at h1;obtain ⟨e',he',hb',hcc⟩:=hok.pre j o ho j h1;have hl:=hok.edge j o ho e' he' hb';have h2:listed.getD j false=true:=hpre j h1;rw [hunf] at h2; cases h2)]
         exact hI.after i hi (by omega)
       . rw [hc1 hjt] at hic
         rw [if_neg (fun e=>hjt (by rw [<- e]; exact List.getElem_mem hi))]
         exact hI.after i hi hic
     . rw [congrFun hX i] at hx
       by_cases hij:i=j
       . subst hij
         obtain ⟨g,hg,_,h2⟩:=hN hi;exact ⟨g,by simp [upd,hg],h2⟩
       . rw [if_neg hij] at hx
         obtain ⟨g,hg,h2⟩:=hI.newIn i hi hx;exact ⟨g,by simp [upd,hij,hg],Nat.lt_of_lt_of_le h2 (hrsz _ _ hrel)⟩
     . rw [congrFun hX i] at hx
       rw [congrFun hX k] at hy
       by_cases hij:i=j
       . subst hij
         rw [if_neg (Ne.symm hne)] at hy;obtain ⟨g,hg,h1,_⟩:=hN hi;obtain ⟨g',hg',h2⟩:=hI.newIn k hk hy;have e1:upd v i u i=u:=by simp [upd]
         have e2:upd v i u k=v k:=by simp [upd,Ne.symm hne]
         rw [e1,e2,hg,hg'];intro he;injection he with he;injection he with he;injection he with he;omega
       . rw [if_neg hij] at hx
         by_cases hkj:k=j
         . subst hkj
           obtain ⟨g,hg,h1,_⟩:=hN hk;obtain ⟨g',hg',h2⟩:=hI.newIn i hi hx;have e1:upd v k u k=u:=by simp [upd]
           have e2:upd v k u i=v i:=by simp [upd,hij]
           rw [e1,e2,hg,hg'];intro he;injection he with he;injection he with he;injection he with he;omega
         . rw [if_neg hkj] at hy
           have e1:upd v j u i=v i:=by simp [upd,hij]
           have e2:upd v j u k=v k:=by simp [upd,hkj]
           rw [e1,e2];exact hI.newNe i hi k hk hne hx hy
     . rw [congrFun hX j0] at hx
       by_cases hj0:j0=j
       . rw [if_pos hj0] at hx; cases hx
       . rw [if_neg hj0] at hx
         exact h0t _ _ _ (hO hx) (hrel0 (Ne.symm hj0))
    have htailkeep:j ∉ tail -> ∀ u,Tail pre tail E c (upd v j u) w1 wc:=by
     intro hjt u;have hl:=hI.last;cases c with
     | zero=>exact hl
     | succ c =>
       have hct:c < tail.length:=by have:=hI.count; omega
       change E c (mask pre (tail.getD c 0) v) w1 wc at hl;show E c (mask pre (tail.getD c 0) (upd v j u)) w1 wc;have e:tail.getD c 0=tail[c]:=by simp [hct]
       rw [e] at hl ⊢;rw [Q9d (fun h=>hjt (by rw [h]; exact List.getElem_mem hct)) (hfree _ (htail c hct) (hI.before c hct (by omega)))]
       exact hl
    have hnone:kind j ≠ .world -> j ∉ news:=fun h1 h2=>h1 (hnews j h2).2.1;have hpass:Region.wanted o (yielded ops (act (fun k=>decide (k < j)) v ops.toList 0 a0).tmps)=false -> j ∉ news:=fun h1 h2=>by
     have h3:=((hnews j h2).2.2 o ho).1;simp [Region.wanted,h3] at h1
    unfold wpOp;simp only [ho];rw [hwant]
    by_cases hjt:j ∈ tail
    . obtain ⟨hc,he⟩:=hwhich hjt
      have hv:=hvl c hc o (by rw [he]; exact ho) v w1 hI.rel (fun k hk hkt=>hI.facts k (hpre k (by rw [<- he]; exact hk)) hkt) wc hI.last
      rw [he] at hv;have hT:∀ u w',E c (mask pre j (upd v j u)) w1 w' -> Tail pre tail E (c + 1) (upd v j u) w1 w':=by
       intro u w' h;show E c (mask pre (tail.getD c 0) (upd v j u)) w1 w';have e:tail.getD c 0=j:=by simp [hc,he]
       rw [e]; exact h
      rcases hv with ⟨hwt,hg⟩ | ⟨hwf,hD⟩
      . rw [if_pos hwt]
        refine .inl ?_;unfold Oper.wp;rw [hexec];exact Q1y (Q4a (fun u w' h=>hnext u w1 w' (c + 1) (hrefl _) (fun _=>h0r _) (fun h=>absurd hjt h) (fun h=>absurd hjt h) (fun _=>rfl) (fun hn=>absurd hn (hnone (by rw [(hkind j hlt).2 hjt]; simp))) (hT u w' h)) hg)
      . rw [if_neg (by rw [hwf]; simp)]
        exact hnext undef w1 wc (c + 1) (hrefl _) (fun _=>h0r _) (fun h=>absurd hjt h) (fun h=>absurd hjt h) (fun _=>rfl) (fun hn=>absurd hn (hpass hwf)) (hT _ _ hD)
    . have hfacts:∀ k ∈ pre j,D k (mask pre k v) w1:=fun k hk=>hI.facts k (hpre k hk) (hlate j hlt hjt k hk)
      by_cases hj0:j=j0
      . subst hj0
        have hv:=hvc0 o ho hjt v w1 (hO hunf) hfacts;cases hk:kind j with
        | plain =>
          rw [hk] at hv
          rcases hv with ⟨hwt,u,hrun,hD⟩ | ⟨hwf,hD⟩
          . rw [if_pos hwt]
            refine .inl ?_;unfold Oper.wp;rw [hexec,hrun wc];exact hnext u w1 wc c (hrefl _) (fun _=>h0r _) (fun _=>hD) (fun _=>rfl) (fun h=>absurd h hjt) (fun hn=>absurd hn (hnone (by rw [hk]; simp))) (htailkeep hjt u)
          . rw [if_neg (by rw [hwf]; simp)]
            exact hnext undef w1 wc c (hrefl _) (fun _=>h0r _) (fun _=>hD) (fun _=>rfl) (fun h=>absurd h hjt) (fun hn=>absurd hn (hpass hwf)) (htailkeep hjt undef)
        | world =>
          have hc0:c=0:=by
           rcases Nat.eq_zero_or_pos c with h | h
           . exact h
           . have h0:0 < tail.length:=by have:=hI.count; omega
             have hx:=hI.before 0 h0 h;exact absurd (hearly j hlt hk tail[0] (List.getElem_mem h0)) (hfree _ (htail 0 h0) hx)
          subst hc0;have hwc:wc=w1:=hI.last;subst hwc;rw [hk] at hv
          rcases hv with ⟨hwt,hg⟩ | ⟨hwf,hD⟩
          . rw [if_pos hwt]
            refine .inl ?_;unfold Oper.wp;rw [hexec]
            by_cases hn:j ∈ news
            . obtain ⟨cc,hrun⟩:=((hnews j hn).2.2 o ho).2 (act (fun k=>decide (k < j)) v ops.toList 0 a0).eval wc
              rw [hrun] at hg ⊢;exact Q1y (hnext _ _ _ 0 hg.1 (fun h=>absurd rfl h) (fun _=>hg.2) (fun _=>rfl) (fun h=>absurd h hjt) (fun _=>⟨_,rfl,Nat.le_refl _,by rw [World.size_alloc]; exact Nat.lt_succ_self _⟩) rfl)
            . exact Q1y (Q4a (fun u w' h=>hnext u w' w' 0 h.1 (fun h'=>absurd rfl h') (fun _=>h.2) (fun _=>rfl) (fun h=>absurd h hjt) (fun h=>absurd h hn) rfl) hg)
          . rw [if_neg (by rw [hwf]; simp)]
            exact hnext undef wc wc 0 (hrefl _) (fun _=>h0r _) (fun _=>hD) (fun _=>rfl) (fun h=>absurd h hjt) (fun hn=>absurd hn (hpass hwf)) rfl
        | last=>exact absurd ((hkind j hlt).1 hk) hjt
      . skip
        have hv:=hvc j o ho hjt hj0 v w1 hI.rel hfacts;cases hk:kind j with
        | plain =>
          rw [hk] at hv
          rcases hv with ⟨hwt,u,hrun,hD⟩ | ⟨hwf,hD⟩
          . rw [if_pos hwt]
            refine .inl ?_;unfold Oper.wp;rw [hexec,hrun wc];exact hnext u w1 wc c (hrefl _) (fun _=>h0r _) (fun _=>hD) (fun _=>rfl) (fun h=>absurd h hjt) (fun hn=>absurd hn (hnone (by rw [hk]; simp))) (htailkeep hjt u)
          . rw [if_neg (by rw [hwf]; simp)]
            exact hnext undef w1 wc c (hrefl _) (fun _=>h0r _) (fun _=>hD) (fun _=>rfl) (fun h=>absurd h hjt) (fun hn=>absurd hn (hpass hwf)) (htailkeep hjt undef)
        | world =>
          have hc0:c=0:=by
           rcases Nat.eq_zero_or_pos c with h | h
           . exact h
           . have h0:0 < tail.length:=by have:=hI.count; omega
             have hx:=hI.before 0 h0 h;exact absurd (hearly j hlt hk tail[0] (List.getElem_mem h0)) (hfree _ (htail 0 h0) hx)
          subst hc0;have hwc:wc=w1:=hI.last;subst hwc;rw [hk] at hv
          rcases hv with ⟨hwt,hg⟩ | ⟨hwf,hD⟩
          . rw [if_pos hwt]
            refine .inl ?_;unfold Oper.wp;rw [hexec]
            by_cases hn:j ∈ news
            . obtain ⟨cc,hrun⟩:=((hnews j hn).2.2 o ho).2 (act (fun k=>decide (k < j)) v ops.toList 0 a0).eval wc
              rw [hrun] at hg ⊢;exact Q1y (hnext _ _ _ 0 (h01 _ _ hg.1) (fun _=>hg.1) (fun _=>hg.2) (fun _=>rfl) (fun h=>absurd h hjt) (fun _=>⟨_,rfl,Nat.le_refl _,by rw [World.size_alloc]; exact Nat.lt_succ_self _⟩) rfl)
            . exact Q1y (Q4a (fun u w' h=>hnext u w' w' 0 (h01 _ _ h.1) (fun _=>h.1) (fun _=>h.2) (fun _=>rfl) (fun h=>absurd h hjt) (fun h=>absurd h hn) rfl) hg)
          . rw [if_neg (by rw [hwf]; simp)]
            exact hnext undef wc wc 0 (hrefl _) (fun _=>h0r _) (fun _=>hD) (fun _=>rfl) (fun h=>absurd h hjt) (fun hn=>absurd hn (hpass hwf)) rfl
        | last=>exact absurd ((hkind j hlt).1 hk) hjt
 refine main ops.size _ a0 _ (by simp) ?_ (fun j o _ hx=>?_) ⟨fun _=>undef,w.drew,0,⟨?_,hrefl _,fun k hx=>?_,Nat.zero_le _,fun i _ h=>absurd h (Nat.not_lt_zero _),fun i _ _=>?_,rfl,fun i _ hx=>?_,fun i _ _ _ _ hx=>?_⟩,fun _=>h0r _⟩
 . exact Nat.le_trans (List.countP_le_length) (by simp)
 . have:=Q2k ops.size j
   rw [this] at hx; cases hx
 . refine (X0b (by rw [Q2h]) fun t=>?_)
   have:∀ (l:List Oper) (i:Nat) (a:Act),act (fun k=>(Array.replicate ops.size false).getD k false) (fun _=>undef) l i a=a:=by
    intro l; induction l with
    | nil=>intro i a; rfl
    | cons o l ih=>intro i a; rw [act,ih,Q2k]; rfl
   rw [this]
 . have:=Q2k ops.size k
   rw [this] at hx; cases hx
 . exact Q2k ops.size _
 . have:=Q2k ops.size i
   rw [this] at hx; cases hx
 . have:=Q2k ops.size i
   rw [this] at hx; cases hx
end
def Q9g (j0:Nat) (Rel0 Rel:World -> World -> Prop) (P:Program) (ops:Array Oper) (pre:Nat -> List Nat) (tail:List Nat) (w0:World) (D:Nat -> (Nat -> Value) -> World -> Prop):List ((Nat -> Value) -> World -> World -> Prop) -> ((Nat -> Value) -> World -> World -> Prop) -> List Oper -> List Kind -> List Nat -> ((Nat -> Value) -> Act) -> Prop
 | El,T,o :: l,k :: kl,j :: jl,b =>
   match k,El with
   | .last,E :: El=>(∀ v w1,Rel w0 w1 -> Facts pre D v w1 ((pre j).filter fun i=>!tail.contains i) (∀ w,T v w1 w -> ∀ bb,bb=b v -> Guarded ops o bb (Z8v Rel P pre D E .last o j bb v w1 w) (Pass pre D E .last j v w1 w))) /\
      Q9g j0 Rel0 Rel P ops pre tail w0 D El (fun v w1 w=>E (mask pre j v) w1 w) l kl jl (fun v=>(b v).put o.dst (v j))
   | .last,[]=>False
   | k,El=>(∀ v w1,(if j=j0 then Rel0 else Rel) w0 w1 -> Facts pre D v w1 (pre j) (∀ bb,bb=b v -> Guarded ops o bb (Z8v (if j=j0 then Rel else Rel0) P pre D (fun _ _ _=>False) k o j bb v w1 w1) (Pass pre D (fun _ _ _=>False) k j v w1 w1))) /\ Q9g j0 Rel0 Rel P ops pre tail w0 D El T l kl jl (fun v=>(b v).put o.dst (v j))
 | _,_,_,_,_,_=>True
theorem Y0d {j0:Nat} {Rel0 Rel:World -> World -> Prop} {P:Program} {ops:Array Oper} {pre:Nat -> List Nat} {tail:List Nat} {w0:World} {D:Nat -> (Nat -> Value) -> World -> Prop} :
    ∀ (l:List Oper) (kl:List Kind) (El:List ((Nat -> Value) -> World -> World -> Prop)) (T:(Nat -> Value) -> World -> World -> Prop) (i:Nat) (b:(Nat -> Value) -> Act),kl.length=l.length ->
     Q9g j0 Rel0 Rel P ops pre tail w0 D El T l kl (List.range' i l.length) b -> ∀ j o,l[j]?=some o -> lookup kl .plain j ≠ .last -> ∀ v w1,(if i + j=j0 then Rel0 else Rel) w0 w1 ->
     (∀ n ∈ pre (i + j),D n (mask pre n v) w1) -> vc P ops pre (if i + j=j0 then Rel else Rel0) D (fun _ _ _=>False) (fun _ _ _=>False) (lookup kl .plain j) o (i + j) (act (fun _=>true) v (l.take j) i (b v)) v w1
 | [],_,_,_,_,_,_,_,j,_,h,_,_,_,_,_=>by simp at h
 | o :: l,[],_,_,_,_,hk,_,_,_,_,_,_,_,_,_=>by simp at hk
 | o :: l,k :: kl,El,T,i,b,hk,h,j,o',hj,hne,v,w1,hx,hf=>by
   rw [List.length_cons,List.range'_succ] at h;cases j with
   | zero =>
     simp only [List.getElem?_cons_zero,Option.some.injEq] at hj;subst hj;simp only [lookup] at hne ⊢;cases k with
     | last=>exact absurd rfl hne
     | plain=>simp only [Q9g] at h; simpa [act] using Z6m hne ((h.1 v w1 (by simpa using hx)).out (by simpa using hf) _ rfl)
     | world=>simp only [Q9g] at h; simpa [act] using Z6m hne ((h.1 v w1 (by simpa using hx)).out (by simpa using hf) _ rfl)
   | succ j =>
     have hrest:∃ El T,Q9g j0 Rel0 Rel P ops pre tail w0 D El T l kl (List.range' (i + 1) l.length) (fun v=>(b v).put o.dst (v i)):=by
      cases k with
      | last=>cases El with
        | nil=>simp only [Q9g] at h
        | cons E El=>simp only [Q9g] at h; exact ⟨_,_,h.2⟩
      | plain=>simp only [Q9g] at h; exact ⟨_,_,h.2⟩
      | world=>simp only [Q9g] at h; exact ⟨_,_,h.2⟩
     obtain ⟨El',T',h'⟩:=hrest;have:=Y0d l kl El' T' (i + 1) _ (by simpa using hk) h' j o' (by simpa using hj) (by simpa [lookup] using hne) v w1 (by rwa [show i + 1 + j=i + (j + 1) from by omega]) (by rwa [show i + 1 + j=i + (j + 1) from by omega])
     rw [show i + 1 + j=i + (j + 1) from by omega] at this
     simpa [act,lookup] using this
theorem Q9b {j0:Nat} {Rel0 Rel:World -> World -> Prop} {P:Program} {ops:Array Oper} {pre:Nat -> List Nat} {tail:List Nat} {w0:World} {D:Nat -> (Nat -> Value) -> World -> Prop} (E:Nat -> (Nat -> Value) -> World -> World -> Prop) :
    ∀ (l:List Oper) (kl:List Kind) (El:List ((Nat -> Value) -> World -> World -> Prop)) (i:Nat) (b:(Nat -> Value) -> Act) (c0:Nat),kl.length=l.length -> tail.drop c0=lasts kl i -> (∀ n,n < (lasts kl i).length -> El[n]?=some (E (c0 + n))) ->
     Q9g j0 Rel0 Rel P ops pre tail w0 D El (Tail pre tail E c0) l kl (List.range' i l.length) b -> ∀ n,n < (lasts kl i).length -> ∀ j o,tail[c0 + n]?=some (i + j) -> l[j]?=some o -> ∀ v w1,Rel w0 w1 ->
     (∀ m ∈ pre (i + j),m ∉ tail -> D m (mask pre m v) w1) -> vc P ops pre Rel D (Tail pre tail E (c0 + n)) (E (c0 + n)) .last o (i + j) (act (fun _=>true) v (l.take j) i (b v)) v w1
 | [],[],_,_,_,_,_,_,_,_,n,h,_,_,_,_,_,_,_,_=>by simp [lasts] at h
 | [],_ :: _,_,_,_,_,hk,_,_,_,_,_,_,_,_,_,_,_,_,_=>by simp at hk
 | o :: l,[],_,_,_,_,hk,_,_,_,_,_,_,_,_,_,_,_,_,_=>by simp at hk
 | o :: l,k :: kl,El,i,b,c0,hk,htl,hE,h,n,hn,j,o',ht,hj,v,w1,hx,hf=>by
   rw [List.length_cons,List.range'_succ] at h;have hlow:∀ (kl:List Kind) (i:Nat),∀ x ∈ lasts kl i,i <= x:=by
    intro kl
    induction kl with
    | nil=>intro i x hx; simp [lasts] at hx
    | cons k kl ih => intro i x hx; cases k <;> simp only [lasts, List.mem_cons] at hx
                      . have:=ih _ _ hx; omega
                      . have:=ih _ _ hx; omega
                      . rcases hx with rfl | hx
                        . exact Nat.le_refl _
                        . have:=ih _ _ hx; omega
   have ht':(lasts (k :: kl) i)[n]?=some (i + j):=by rw [<- htl,List.getElem?_drop]; exact ht
   have hsk:k ≠ .last -> ∃ j',j=j' + 1 /\ (lasts kl (i + 1))[n]?=some (i + 1 + j'):=by
    intro hne;have e:lasts (k :: kl) i=lasts kl (i + 1):=by cases k <;> first | rfl | exact absurd rfl hne
    rw [e] at ht';have:=hlow kl (i + 1) _ (List.mem_of_getElem? ht');exact ⟨j - 1,by omega,by rw [ht']; congr 1; omega⟩
   cases k with
   | plain =>
     obtain ⟨j',rfl,ht2⟩:=hsk (by simp)
     simp only [Q9g] at h;have:=Q9b E l kl El (i + 1) _ c0 (by simpa using hk) (by simpa [lasts] using htl) (by simpa [lasts] using hE) h.2 n (by simpa [lasts] using hn) j' o' (by rw [ht]; congr 1; omega) (by simpa using hj) v w1 hx (by rwa [show i + 1 + j'=i + (j' + 1) from by omega])
     rw [show i + 1 + j'=i + (j' + 1) from by omega] at this
     simpa [act] using this
   | world =>
     obtain ⟨j',rfl,ht2⟩:=hsk (by simp)
     simp only [Q9g] at h;have:=Q9b E l kl El (i + 1) _ c0 (by simpa using hk) (by simpa [lasts] using htl) (by simpa [lasts] using hE) h.2 n (by simpa [lasts] using hn) j' o' (by rw [ht]; congr 1; omega) (by simpa using hj) v w1 hx (by rwa [show i + 1 + j'=i + (j' + 1) from by omega])
     rw [show i + 1 + j'=i + (j' + 1) from by omega] at this
     simpa [act] using this
   | last =>
     cases El with
     | nil=>simp only [Q9g] at h
     | cons E0 El =>
       have e0:E0=E c0:=by have:=hE 0 (by simp [lasts]); simpa using this
       subst e0;simp only [Q9g] at h;have htc:tail.getD c0 0=i:=by
        have:(tail.drop c0)[0]?=some i:=by rw [htl]; rfl
        rw [List.getElem?_drop] at this
        simpa using congrArg (fun x=>x.getD 0) this
       cases n with
       | zero =>
         have hj0:j=0:=by
          have:(lasts (.last :: kl) i)[0]?=some i:=rfl;rw [this] at ht'; simp at ht'; omega
         subst hj0;simp only [List.getElem?_cons_zero,Option.some.injEq] at hj;subst hj;have:=Z5u (h:=fun w hT=>(h.1 v w1 hx).out (fun m hm=>by
          simp only [List.mem_filter,Bool.not_eq_true',List.contains_eq_mem,decide_eq_false_iff_not] at hm;exact hf m (by simpa using hm.1) hm.2) w hT _ rfl)
         simpa [act] using this
       | succ n =>
         have hmem:(lasts kl (i + 1))[n]?=some (i + j):=by simpa [lasts] using ht'
         have hge:=hlow kl (i + 1) _ (List.mem_of_getElem? hmem);obtain ⟨j',rfl⟩:∃ j',j=j' + 1:=⟨j - 1,by omega⟩
         have hT:(fun v w1 w=>E c0 (mask pre i v) w1 w)=Tail pre tail E (c0 + 1):=by
          funext v w1 w
          show _=E c0 (mask pre (tail.getD c0 0) v) w1 w;rw [htc]
         have h2:=h.2;rw [hT] at h2;have:=Q9b E l kl El (i + 1) _ (c0 + 1) (by simpa using hk) (by
             have e:tail.drop (c0 + 1)=(tail.drop c0).drop 1:=by rw [List.drop_drop]
             rw [e,htl]; rfl) (fun m hm=>by
             have:=hE (m + 1) (by simpa [lasts] using hm)
             rw [show c0 + 1 + m=c0 + (m + 1) from by omega]
             simpa using this) h2 n (by simpa [lasts] using hn) j' o' (by rw [show c0 + 1 + n=c0 + (n + 1) from by omega,ht]; congr 1; omega) (by simpa using hj) v w1 hx (by rwa [show i + 1 + j'=i + (j' + 1) from by omega])
         rw [show i + 1 + j'=i + (j' + 1) from by omega,show c0 + 1 + n=c0 + (n + 1) from by omega] at this
         simpa [act] using this
section
variable {P:Program} {id:Nat} {Q:Exit -> Act -> World -> Prop} {a0:Act} {w:World} {ops:List Oper}
theorem Z3s (Rel:World -> World -> Prop) (j0:Nat) (Rel0:World -> World -> Prop) (h0r:∀ w,Rel0 w w) (h0t:∀ a b c,Rel0 a b -> Rel0 b c -> Rel0 a c) (h01:∀ a b,Rel0 a b -> Rel a b) (hrefl:∀ w,Rel w w) (htrans:∀ a b c,Rel a b -> Rel b c -> Rel a c) (hrsz:∀ a b,Rel a b -> a.heap.size <= b.heap.size) (kl:List Kind) (jl:List Nat) (pl:List (List Nat)) (tail:List Nat) (Dl:List (Y1j Rel)) (El:List ((Nat -> Value) -> World -> World -> Prop))
    (hm:P.follows .mixedOrders=true) (hjl:jl=List.range' 0 ops.length) (hok:okL ops pl kl tail El.length=true)
    (hvc:Q9g j0 Rel0 Rel P ops.toArray (lookup pl []) tail w.drew (fun k=>(lookup Dl .none k).D) El (fun _ w1 w=>w=w1) ops kl jl (fun _=>a0))
    (hpost:∀ v w1,Rel w.drew w1 -> All (lookup pl []) (fun k=>(lookup Dl .none k).D) v w1 tail jl (∀ w',endOf (lookup pl []) v w1 w' tail El -> Q .normal (acts v ops jl a0) w')) :
    (Code.region id ops.toArray true).wp P Q a0 w:=by
 subst hjl;simp only [X9k] at hpost;simp only [okL,Bool.and_eq_true,List.all_eq_true,List.mem_range,beq_iff_eq,Bool.or_eq_true,Bool.not_eq_true',List.contains_eq_mem,decide_eq_true_eq,decide_eq_false_iff_not] at hok;obtain ⟨⟨⟨⟨⟨⟨hok,hlen⟩,htail⟩,hn⟩,hchain⟩,hlate⟩,hearly⟩:=hok;have hmem:∀ j,j ∈ tail ↔ j < ops.length /\ isLast (lookup kl .plain j)=true:=by intro j; rw [htail,List.mem_filter,List.mem_range]
 have hk:∀ j,isLast (lookup kl .plain j)=true ↔ lookup kl .plain j=.last:=by intro j; cases lookup kl .plain j <;> simp [isLast]
 have hlk:lasts kl 0=tail:=by
  rw [X3u,htail,hlen,List.range_eq_range'];rfl
 have hEl:∀ n,n < (lasts kl 0).length -> El[n]?=some ((fun c=>(El[c]?).getD fun _ _ _=>True) (0 + n)):=by
  intro n hn';rw [hlk,<- hn] at hn';simp [hn']
 have hend:∀ v w1 w',Tail (lookup pl []) tail (fun c=>(El[c]?).getD fun _ _ _=>True) tail.length v w1 w' -> endOf (lookup pl []) v w1 w' tail El:=by
  intro v w1 w' h;have gen:∀ (tl:List Nat) (el:List ((Nat -> Value) -> World -> World -> Prop)),el.length=tl.length -> (tl=[] -> w'=w1) -> (∀ (hne:tl ≠ []),((el[tl.length - 1]?).getD fun _ _ _=>True) (mask (lookup pl []) (tl.getD (tl.length - 1) 0) v) w1 w') -> endOf (lookup pl []) v w1 w' tl el:=by
   intro tl
   induction tl with
   | nil=>intro el _ h0 _; cases el <;> exact h0 rfl
   | cons j tl ih =>
     intro el hl _ h1;cases el with
     | nil=>simp at hl
     | cons E el =>
       cases tl with
       | nil=>cases el with
         | nil=>simpa [endOf] using h1 (by simp)
         | cons _ _=>simp at hl
       | cons j' tl=>cases el with
         | nil=>simp at hl
         | cons E' el =>
           show endOf _ v w1 w' (j' :: tl) (E' :: el);exact ih _ (by simpa using hl) (fun h=>by simp at h) (fun _=>by simpa using h1 (by simp))
  refine gen tail El hn.symm.symm (fun h0=>?_) (fun hne=>?_)
  . rw [h0] at h; exact h
  . obtain ⟨m,hm⟩:∃ m,tail.length=m + 1:=⟨tail.length - 1,by have:=List.length_pos_iff.2 hne; omega⟩
    rw [hm] at h;rw [hm,Nat.add_sub_cancel];exact h
 refine X7f j0 (Rel0:=Rel0) h0r h0t [] tail (lookup kl .plain) (Rel:=Rel) (D:=fun k=>(lookup Dl .none k).D) (E:=fun c=>(El[c]?).getD fun _ _ _=>True) hm (Z7g hok)
  (fun i hi=>by simpa using ((hmem _).1 (List.getElem_mem hi)).1) (fun i k hi hk hik=>by have:=hchain k hk i hik; simpa [hi,hk] using this)
  (fun j hjl hjs k hk'=>?_) (fun j hjl=>?_) (fun j hjl hjw s hs=>?_)
  h01 hrefl htrans (fun k _ v w w' hx hd=>(lookup Dl .none k).mono v w w' hx hd) (fun j o ho hjs hj0 v w1 hx hf=>?_) (fun o ho hjs v w1 hx hf=>?_) (fun c hc o ho v w1 hx hf=>?_) (fun _ h=>(nomatch h)) hrsz (fun v w1 w' hx _ hf hE=>?_)
 . rcases hlate j (by simpa using hjl) with h | h
   . exact absurd ((hmem j).2 ⟨by simpa using hjl,h⟩) hjs
   . exact h k hk'
 . rw [hmem,hk]; simp at hjl; simp [hjl]
 . rcases hearly j (by simpa using hjl) with h | h
   . rw [hjw] at h; simp [X4q] at h
   . exact h s hs
 . have hjl:j < ops.length:=by simpa using (Array.getElem?_eq_some_iff.1 ho).1
   have:=Y0d ops kl El _ 0 _ hlen hvc j o (by simpa using ho) (fun h=>hjs ((hmem j).2 ⟨hjl,(hk j).2 h⟩)) v w1 (by rw [Nat.zero_add,if_neg hj0]; exact hx) (by simpa using hf)
   rw [Nat.zero_add,if_neg hj0] at this;have e:=Q3z v ops 0 j a0;rw [Nat.zero_add] at e
   simpa [e] using this
 . have hjl:j0 < ops.length:=by simpa using (Array.getElem?_eq_some_iff.1 ho).1
   have:=Y0d ops kl El _ 0 _ hlen hvc j0 o (by simpa using ho) (fun h=>hjs ((hmem j0).2 ⟨hjl,(hk j0).2 h⟩)) v w1 (by rw [Nat.zero_add,if_pos rfl]; exact hx) (by simpa using hf)
   rw [Nat.zero_add,if_pos rfl] at this;have e:=Q3z v ops 0 j0 a0;rw [Nat.zero_add] at e
   simpa [e] using this
 . have:=Q9b (fun c=>(El[c]?).getD fun _ _ _=>True) ops kl El 0 _ 0 hlen (by rw [hlk]; rfl) hEl hvc c (by rw [hlk]; exact hc) tail[c] o (by simp [hc]) (by simpa using ho) v w1 hx (by simpa using hf)
   rw [Nat.zero_add,Nat.zero_add] at this;have e:=Q3z v ops 0 tail[c] a0;rw [Nat.zero_add] at e
   simpa [e] using this
 . exact (hpost v w1 hx).out (fun k hk hks=>hf k (by simpa using hk) hks) w' (hend v w1 w' hE)
end
end Go.Flow
