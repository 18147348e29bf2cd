/- Part of the proof of a law. -/
import Derived.Test.YthnobngcipaljaaGreatDoorPk04
import Derived.Lib.AppendZeros
import Derived.Lib.Split
import Derived.Lib.SplitLaws
import Derived.Lib.CutLaws
import Derived.Lib.IndexMore
import Derived.Test.YthnobngcipaljaaGreatDoorRows
import Derived.Test.YthnobngcipaljaaGreatDoorTie
import Derived.Test.YthnobngcipaljaaGreatDoorCards
import Derived.OpenShut
import Derived.LaidMore
import Derived.Lay
import Derived.SevenTiedAt
import Derived.Stop.Joined
set_option maxRecDepth 1000000
set_option maxHeartbeats 64000000
set_option linter.unusedVariables false
set_option linter.unusedSimpArgs false
set_option linter.constructorNameAsVariable false
open Go.Lib (hid)
namespace Go.Flow
open Go.RowKit Go.Tw
theorem fzg05 {u:Type} {a b:u} (h:a=b:=by rw [hbb]; dsimp only; (try simp (discharger:=decide) only [Flow.eval_put_ne]); rw [Flow.Q0a (by (try simp only [Flow.size_put]); exact of_decide_eq_true rfl)]; try assumption):a=b:=h
section
variable {P:Program} {ops:Array Oper} {pre:Nat -> List Nat}
theorem Y1s (j0:Nat) {Rel0:World -> World -> Prop} (F4:∀ w,Rel0 w w) (Ka:∀ a b c,Rel0 a b -> Rel0 b c -> Rel0 a c) (news:List Nat) (tail:List Nat) (kind:Nat -> Kind) {Rel:World -> World -> Prop} {D:Nat -> (Nat -> Value) -> World -> Prop} {E:Nat -> (Nat -> Value) -> World -> World -> Prop}
    {id:Nat} {Q:Exit -> Act -> World -> Prop} {a0:Act} {w:World} (hm:P.follows .mixedOrders=true) (Vj:Ok ops pre)
    (Lj:∀ i (h:i < tail.length),tail[i] < ops.size) (Dj:∀ i k (hi:i < tail.length) (hk:k < tail.length),i < k -> tail[i] ∈ pre tail[k])
    (Cx:∀ j,j < ops.size -> j ∉ tail -> ∀ k ∈ pre j,k ∉ tail) (Nk:∀ j,j < ops.size -> (kind j=.last ↔ j ∈ tail)) (fj:∀ j,j < ops.size -> kind j=.world -> ∀ s ∈ tail,j ∈ pre s)
    (XY:∀ a b,Rel0 a b -> Rel a b) (Uj:∀ w,Rel w w) (tz:∀ a b c,Rel a b -> Rel b c -> Rel a c) (Ay:∀ k,k < ops.size -> ∀ v w w',Rel w w' -> D k v w -> D k v w')
    (Yz:∀ j o,ops[j]?=some o -> j ∉ tail -> j ≠ j0 -> ∀ v w1,Rel w.drew w1 -> (∀ k ∈ pre j,D k (mask pre k v) w1) -> vc P ops pre Rel0 D (fun _ _ _=>False) (fun _ _ _=>False) (kind j) o j (act (fun k=>decide (k < j)) v ops.toList 0 a0) v w1)
    (Ja:∀ o,ops[j0]?=some o -> j0 ∉ tail -> ∀ v w1,Rel0 w.drew w1 -> (∀ k ∈ pre j0,D k (mask pre k v) w1) -> vc P ops pre Rel D (fun _ _ _=>False) (fun _ _ _=>False) (kind j0) o j0 (act (fun k=>decide (k < j0)) v ops.toList 0 a0) v w1)
    (Dv:∀ c (hc:c < tail.length) o,ops[tail[c]]?=some o -> ∀ v w1,Rel w.drew w1 -> (∀ k ∈ pre tail[c],k ∉ tail -> D k (mask pre k v) w1) -> vc P ops pre Rel D (Tail pre tail E c) (E c) .last o tail[c] (act (fun k=>decide (k < tail[c])) v ops.toList 0 a0) v w1)
    (Xj:∀ j ∈ news,j < ops.size /\ kind j=.world /\ ∀ o,ops[j]?=some o -> Made P o) (E3:∀ a b,Rel a b -> a.heap.size <= b.heap.size)
    (iq:∀ v w1 w',Rel w.drew w1 -> K0d news v -> (∀ k,k < ops.size -> k ∉ tail -> D k (mask pre k v) w1) -> Tail pre tail E tail.length v w1 w' -> Q .normal (act (fun _=>true) v ops.toList 0 a0) w') :
    (Code.region id ops true).wp P Q a0 w:=by
 refine wp_region_any hm ?_;have Lx:∀ (X:Nat -> Bool),(∀ j o,ops[j]?=some o -> X j=true -> ∀ e ∈ o.after,Region.binds .any e=true -> X e.on=true) ->
     ∀ j o,ops[j]?=some o -> (∀ e ∈ o.after,Region.binds .any e=true -> X e.on=true) -> ∀ i ∈ pre j,X i=true:=by
  intro X hX j
  induction j using Nat.strongRecOn with
  | _ j ih =>
    intro o ho mq i hi;obtain ⟨e,he,hb,hc⟩:=Vj.pre j o ho i hi
    rcases hc with rfl | hc
    . exact mq e he hb
    . have Uq:=Vj.edge j o ho e he hb
      have hj:j < ops.size:=(Array.getElem?_eq_some_iff.1 ho).1;have Ox:ops[e.on]?=some ops[e.on]:=Array.getElem?_eq_getElem (by omega)
      exact ih e.on Uq _ Ox (hX e.on _ Ox (mq e he hb)) i hc
 have main:∀ (fuel:Nat) (listed:Array Bool) (a:Act) (wc:World),listed.size=ops.size -> left ops.size listed <= fuel ->
     (∀ j o,ops[j]?=some o -> listed.getD j false=true -> ∀ e ∈ o.after,Region.binds .any e=true -> listed.getD e.on false=true) ->
     (∃ v w1 c,Inv ops pre Rel D E tail news a0 w.drew (fun k=>listed.getD k false) v w1 c a wc /\ (listed.getD j0 false=false -> Rel0 w.drew w1)) -> wpAny P .any ops Q fuel listed a wc:=by
  intro fuel;have Bz:∀ (listed:Array Bool) (a:Act) (wc:World),listed.size=ops.size ->
      (∃ v w1 c,Inv ops pre Rel D E tail news a0 w.drew (fun k=>listed.getD k false) v w1 c a wc /\ (listed.getD j0 false=false -> Rel0 w.drew w1)) -> Region.ready .any ops listed=[] -> Q .normal a wc:=by
   rintro listed a wc oq ⟨v,w1,c,hI,_⟩ hr;have mq:∀ j,j < ops.size -> listed.getD j false=true:=by
    intro j
    induction j using Nat.strongRecOn with
    | _ j ih =>
      intro hj;cases hx:listed.getD j false with
      | true=>rfl
      | false =>
        have pq:j ∈ Region.ready .any ops listed:=mem_ready.2 ⟨by rw [Q3p (by omega)]; exact hx,ops[j],Array.getElem?_eq_getElem hj,fun e he hb =>
         have Uq:=Vj.edge j _ (Array.getElem?_eq_getElem hj) e he hb
         ih e.on Uq (by omega)⟩
        rw [hr] at pq;cases pq
   have D3:a=act (fun _=>true) v ops.toList 0 a0:=by
    rw [hI.act];refine X2k (by rw [Q3h,Q3h]) fun t=>Q6y _ _ _ _ t _ 0 _ _ rfl rfl fun k o ho _=>⟨?_,fun _=>rfl⟩
    rw [Nat.zero_add];exact mq k (by simpa using (List.getElem?_eq_some_iff.1 ho).1)
   rw [D3];refine iq v w1 wc hI.rel (fun i hi k hk hne=>hI.newNe i hi k hk hne (mq i (Xj i hi).1) (mq k (Xj k hk).1)) (fun k hk Ax=>hI.facts k (mq k hk) Ax) ?_;have hl:=hI.last;have hc:c=tail.length:=by
    rcases Nat.lt_or_ge c tail.length with h | h
    . have h1:listed.getD tail[c] false=false:=hI.after c h (Nat.le_refl _)
      have h2:=mq _ (Lj c h);rw [h2] at h1; cases h1
    . have:=hI.count; omega
   rw [hc] at hl;exact hl
  induction fuel with
  | zero =>
    intro listed a wc oq zy _ hI;have hr:Region.ready .any ops listed=[]:=by
     refine List.eq_nil_iff_forall_not_mem.2 fun j hj=>?_;obtain ⟨Ez,o,ho,_⟩:=mem_ready.1 hj;have Uq:j < ops.size:=(Array.getElem?_eq_some_iff.1 ho).1;have:=X1h oq Uq Ez;omega
    exact ⟨hr,Bz listed a wc oq hI hr⟩
  | succ fuel ih =>
    intro listed a wc oq zy hcl hI;refine ⟨Bz listed a wc oq hI,fun j hj=>?_⟩;obtain ⟨v,w1,c,hI,hO⟩:=hI;obtain ⟨Ez,o,ho,mq⟩:=mem_ready.1 hj;have Uq:j < ops.size:=(Array.getElem?_eq_some_iff.1 ho).1;have lx:listed.getD j false=false:=by rw [<- Q3p (by omega)]; exact Ez
    have Vz:=Lx (fun k=>listed.getD k false) hcl j o ho mq;have N2:ops.toList[j]?=some o:=by simpa using ho
    have Tx:∀ k,k < ops.size -> listed.getD k false=true -> j ∉ pre k:=by
     intro k hk hx pq;have Ox:ops[k]?=some ops[k]:=Array.getElem?_eq_getElem hk;have h2:listed.getD j false=true:=Lx (fun k=>listed.getD k false) hcl k _ Ox (hcl k _ Ox hx) j pq;rw [lx] at h2; cases h2
    have Uz:∀ k o',j < k -> ops[k]?=some o' -> listed.getD k false=true -> o.apart ops o'=true:=by
     intro k o' hk Ox hx
     rcases Vj.apart j k o o' hk ho Ox with h | h
     . exact h
     . exact absurd h (Tx k (Array.getElem?_eq_some_iff.1 Ox).1 hx)
    have Tz:∀ t ∈ o.looksAt ops,a.tmps[t]?=(act (fun k=>decide (k < j)) v ops.toList 0 a0).tmps[t]?:=by
     intro t ht;rw [hI.act];refine Q6y _ _ _ _ t _ 0 _ _ rfl rfl fun k o' Ox hd=>?_;rw [Nat.zero_add];refine ⟨?_,fun _=>rfl⟩;have yy:ops[k]?=some o':=by simpa using Ox
     rcases Nat.lt_trichotomy k j with hk | hk | hk
     . simp only [hk,decide_true]
       rcases Vj.apart k j o' o hk yy ho with h | h
       . exact absurd ht ((Oper.apart_spec h).1 t hd)
       . exact Vz k h
     . subst hk
       simp [lx]
     . have C3:¬ k < j:=by omega
       simp only [C3,decide_false];cases hx:listed.getD k false with
       | false=>rfl
       | true=>exact absurd ht ((Oper.apart_spec (Uz k o' hk yy hx)).2.2 t hd)
    have zx:execOp a.eval o=execOp (act (fun k=>decide (k < j)) v ops.toList 0 a0).eval o:=execOp_congr o (fun cs b=>Vj.sel j o cs b ho) (eval_congr o Tz);have xy:Region.wanted o (yielded ops a.tmps)=Region.wanted o (yielded ops (act (fun k=>decide (k < j)) v ops.toList 0 a0).tmps):=Q9z o Tz;have Zv:∀ u,a.put o.dst u=act (fun k=>if k=j then true else listed.getD k false) (upd v j u) ops.toList 0 a0:=by
     intro u;rw [hI.act];refine Y5k N2 lx fun k o' hk Ox hx=>?_;cases hd:o.dst with
     | none=>exact .inr rfl
     | some d=>exact .inl ((Oper.apart_spec (Uz k o' hk (by simpa using Ox) hx)).2.1 d hd)
    have hX:(fun k=>(listed.setIfInBounds j true).getD k false)=fun k=>if k=j then true else listed.getD k false:=by
     funext k
     split
     . rename_i hk; subst hk; simp [oq,Uq]
     . rename_i hk; exact getD_set_ne false (Ne.symm hk)
    have Cj:j ∈ tail -> ∃ h:c < tail.length,tail[c]=j:=by
     intro pq;obtain ⟨i,hi,he⟩:=List.getElem_of_mem pq;have Qe:c <= i:=by
      rcases Nat.lt_or_ge i c with h | h
      . have:=hI.before i hi h
        simp only [he] at this;rw [lx] at this; cases this
      . exact h
     have:c=i:=by
      rcases Nat.lt_or_ge c i with h | h
      . have hx:=Vz tail[c] (by rw [<- he]; exact Dj c i (by omega) hi h)
        have h1:=hI.after c (by omega) (Nat.le_refl _)
        rw [hx] at h1; cases h1
      . omega
     subst this;exact ⟨hi,he⟩
    have bq:∀ (u:Value) (w1' wc':World) (c':Nat),Rel w1 w1' -> (j ≠ j0 -> Rel0 w1 w1') -> (j ∉ tail -> D j (mask pre j (upd v j u)) w1') -> (j ∉ tail -> c'=c) -> (j ∈ tail -> c'=c + 1) -> (j ∈ news -> ∃ g,u=.pointer (some ⟨g,0,none⟩) /\ w1.heap.size <= g /\ g < w1'.heap.size) ->
        Tail pre tail E c' (upd v j u) w1' wc' -> wpAny P .any ops Q fuel (listed.setIfInBounds j true) (a.put o.dst u) wc':=by
     intro u w1' wc' c' hrel vZ hD Nx Yx hN hE;refine ih _ _ _ (by simpa using oq) (by have:=X1h oq Uq Ez; omega) (fun k ok Yv hx e he hb=>?_) ⟨upd v j u,w1',c',⟨by rw [hX]; exact Zv u,tz _ _ _ hI.rel hrel,fun k hx Ax=>?_,?_,fun i hi hic=>?_,fun i hi hic=>?_,hE,fun i hi hx=>?_,fun i hi k hk hne hx hy=>?_⟩,fun hx=>?_⟩
     . by_cases Kz:k=j
       . subst Kz
         rw [ho] at Yv;cases Yv;exact getD_set_true (mq e he hb)
       . rw [getD_set_ne false (Ne.symm Kz)] at hx
         exact getD_set_true (hcl k ok Yv hx e he hb)
     . rw [congrFun hX k] at hx
       by_cases Kz:k=j
       . subst Kz; exact hD Ax
       . rw [if_neg Kz] at hx
         have vy:k < ops.size:=by
          rcases Nat.lt_or_ge k ops.size with h | h
          . exact h
          . rw [<- oq] at h; simp [Array.getElem?_eq_none h] at hx
         rw [X0s (Ne.symm Kz) (Tx k vy hx)];exact Ay k vy _ _ _ hrel (hI.facts k hx Ax)
     . by_cases qq:j ∈ tail
       . obtain ⟨h,_⟩:=Cj qq
         rw [Yx qq]; omega
       . rw [Nx qq]; exact hI.count
     . rw [congrFun hX]
       by_cases hij:tail[i]=j
       . rw [if_pos hij]
       . rw [if_neg hij]
         by_cases qq:j ∈ tail
         . obtain ⟨h,he⟩:=Cj qq
           rw [Yx qq] at hic;have:i ≠ c:=fun e=>hij (by subst e; exact he)
           exact hI.before i hi (by omega)
         . rw [Nx qq] at hic; exact hI.before i hi hic
     . rw [congrFun hX]
       by_cases qq:j ∈ tail
       . obtain ⟨h,he⟩:=Cj qq
         rw [Yx qq] at hic;rw [if_neg (fun e=>by
          have h1:=Dj c i h hi (by omega)
          rw [e,he] at h1;obtain ⟨e',kX,Mk,Sw⟩:=Vj.pre j o ho j h1;have hl:=Vj.edge j o ho e' kX Mk;have h2:listed.getD j false=true:=Vz j h1;rw [lx] at h2; cases h2)]
         exact hI.after i hi (by omega)
       . rw [Nx qq] at hic
         rw [if_neg (fun e=>qq (by rw [<- e]; exact List.getElem_mem hi))]
         exact hI.after i hi hic
     . rw [congrFun hX i] at hx
       by_cases hij:i=j
       . subst hij
         obtain ⟨g,hg,_,h2⟩:=hN hi;exact ⟨g,by simp [upd,hg],h2⟩
       . rw [if_neg hij] at hx
         obtain ⟨g,hg,h2⟩:=hI.newIn i hi hx;exact ⟨g,by simp [upd,hij,hg],Nat.lt_of_lt_of_le h2 (E3 _ _ hrel)⟩
     . rw [congrFun hX i] at hx
       rw [congrFun hX k] at hy
       by_cases hij:i=j
       . subst hij
         rw [if_neg (Ne.symm hne)] at hy;obtain ⟨g,hg,h1,_⟩:=hN hi;obtain ⟨g',sk,h2⟩:=hI.newIn k hk hy;have e1:upd v i u i=u:=by simp [upd]
         have e2:upd v i u k=v k:=by simp [upd,Ne.symm hne]
         rw [e1,e2,hg,sk];intro he;injection he with he;injection he with he;injection he with he;omega
       . rw [if_neg hij] at hx
         by_cases Kz:k=j
         . subst Kz
           obtain ⟨g,hg,h1,_⟩:=hN hk;obtain ⟨g',sk,h2⟩:=hI.newIn i hi hx;have e1:upd v k u k=u:=by simp [upd]
           have e2:upd v k u i=v i:=by simp [upd,hij]
           rw [e1,e2,hg,sk];intro he;injection he with he;injection he with he;injection he with he;omega
         . rw [if_neg Kz] at hy
           have e1:upd v j u i=v i:=by simp [upd,hij]
           have e2:upd v j u k=v k:=by simp [upd,Kz]
           rw [e1,e2];exact hI.newNe i hi k hk hne hx hy
     . rw [congrFun hX j0] at hx
       by_cases hj0:j0=j
       . rw [if_pos hj0] at hx; cases hx
       . rw [if_neg hj0] at hx
         exact Ka _ _ _ (hO hx) (vZ (Ne.symm hj0))
    have Tj:j ∉ tail -> ∀ u,Tail pre tail E c (upd v j u) w1 wc:=by
     intro qq u;have hl:=hI.last;cases c with
     | zero=>exact hl
     | succ c =>
       have ig:c < tail.length:=by have:=hI.count; omega
       change E c (mask pre (tail.getD c 0) v) w1 wc at hl;show E c (mask pre (tail.getD c 0) (upd v j u)) w1 wc;have e:tail.getD c 0=tail[c]:=by simp [ig]
       rw [e] at hl ⊢;rw [X0s (fun h=>qq (by rw [h]; exact List.getElem_mem ig)) (Tx _ (Lj c ig) (hI.before c ig (by omega)))]
       exact hl
    have Ew:kind j ≠ .world -> j ∉ news:=fun h1 h2=>h1 (Xj j h2).2.1;have jz:Region.wanted o (yielded ops (act (fun k=>decide (k < j)) v ops.toList 0 a0).tmps)=false -> j ∉ news:=fun h1 h2=>by
     have h3:=((Xj j h2).2.2 o ho).1;simp [Region.wanted,h3] at h1
    unfold wpOp;simp only [ho];rw [xy]
    by_cases qq:j ∈ tail
    . obtain ⟨hc,he⟩:=Cj qq
      have hv:=Dv c hc o (by rw [he]; exact ho) v w1 hI.rel (fun k hk E9=>hI.facts k (Vz k (by rw [<- he]; exact hk)) E9) wc hI.last
      rw [he] at hv;have hT:∀ u w',E c (mask pre j (upd v j u)) w1 w' -> Tail pre tail E (c + 1) (upd v j u) w1 w':=by
       intro u w' h;show E c (mask pre (tail.getD c 0) (upd v j u)) w1 w';have e:tail.getD c 0=j:=by simp [hc,he]
       rw [e]; exact h
      rcases hv with ⟨lq,hg⟩ | ⟨Az,hD⟩
      . rw [if_pos lq]
        refine .inl ?_;unfold Oper.wp;rw [zx];exact Q2z (Q5d (fun u w' h=>bq u w1 w' (c + 1) (Uj _) (fun _=>F4 _) (fun h=>absurd qq h) (fun h=>absurd qq h) (fun _=>rfl) (fun hn=>absurd hn (Ew (by rw [(Nk j Uq).2 qq]; simp))) (hT u w' h)) hg)
      . rw [if_neg (by rw [Az]; simp)]
        exact bq undef w1 wc (c + 1) (Uj _) (fun _=>F4 _) (fun h=>absurd qq h) (fun h=>absurd qq h) (fun _=>rfl) (fun hn=>absurd hn (jz Az)) (hT _ _ hD)
    . have Vk:∀ k ∈ pre j,D k (mask pre k v) w1:=fun k hk=>hI.facts k (Vz k hk) (Cx j Uq qq k hk)
      by_cases hj0:j=j0
      . subst hj0
        have hv:=Ja o ho qq v w1 (hO lx) Vk;cases hk:kind j with
        | plain =>
          rw [hk] at hv
          rcases hv with ⟨lq,u,px,hD⟩ | ⟨Az,hD⟩
          . rw [if_pos lq]
            refine .inl ?_;unfold Oper.wp;rw [zx,px wc];exact bq u w1 wc c (Uj _) (fun _=>F4 _) (fun _=>hD) (fun _=>rfl) (fun h=>absurd h qq) (fun hn=>absurd hn (Ew (by rw [hk]; simp))) (Tj qq u)
          . rw [if_neg (by rw [Az]; simp)]
            exact bq undef w1 wc c (Uj _) (fun _=>F4 _) (fun _=>hD) (fun _=>rfl) (fun h=>absurd h qq) (fun hn=>absurd hn (jz Az)) (Tj qq undef)
        | world =>
          have Rw:c=0:=by
           rcases Nat.eq_zero_or_pos c with h | h
           . exact h
           . have h0:0 < tail.length:=by have:=hI.count; omega
             have hx:=hI.before 0 h0 h;exact absurd (fj j Uq hk tail[0] (List.getElem_mem h0)) (Tx _ (Lj 0 h0) hx)
          subst Rw;have M2:wc=w1:=hI.last;subst M2;rw [hk] at hv
          rcases hv with ⟨lq,hg⟩ | ⟨Az,hD⟩
          . rw [if_pos lq]
            refine .inl ?_;unfold Oper.wp;rw [zx]
            by_cases hn:j ∈ news
            . obtain ⟨cc,px⟩:=((Xj j hn).2.2 o ho).2 (act (fun k=>decide (k < j)) v ops.toList 0 a0).eval wc
              rw [px] at hg ⊢;exact Q2z (bq _ _ _ 0 hg.1 (fun h=>absurd rfl h) (fun _=>hg.2) (fun _=>rfl) (fun h=>absurd h qq) (fun _=>⟨_,rfl,Nat.le_refl _,by rw [World.size_alloc]; exact Nat.lt_succ_self _⟩) rfl)
            . exact Q2z (Q5d (fun u w' h=>bq u w' w' 0 h.1 (fun h'=>absurd rfl h') (fun _=>h.2) (fun _=>rfl) (fun h=>absurd h qq) (fun h=>absurd h hn) rfl) hg)
          . rw [if_neg (by rw [Az]; simp)]
            exact bq undef wc wc 0 (Uj _) (fun _=>F4 _) (fun _=>hD) (fun _=>rfl) (fun h=>absurd h qq) (fun hn=>absurd hn (jz Az)) rfl
        | last=>exact absurd ((Nk j Uq).1 hk) qq
      . skip
        have hv:=Yz j o ho qq hj0 v w1 hI.rel Vk;cases hk:kind j with
        | plain =>
          rw [hk] at hv
          rcases hv with ⟨lq,u,px,hD⟩ | ⟨Az,hD⟩
          . rw [if_pos lq]
            refine .inl ?_;unfold Oper.wp;rw [zx,px wc];exact bq u w1 wc c (Uj _) (fun _=>F4 _) (fun _=>hD) (fun _=>rfl) (fun h=>absurd h qq) (fun hn=>absurd hn (Ew (by rw [hk]; simp))) (Tj qq u)
          . rw [if_neg (by rw [Az]; simp)]
            exact bq undef w1 wc c (Uj _) (fun _=>F4 _) (fun _=>hD) (fun _=>rfl) (fun h=>absurd h qq) (fun hn=>absurd hn (jz Az)) (Tj qq undef)
        | world =>
          have Rw:c=0:=by
           rcases Nat.eq_zero_or_pos c with h | h
           . exact h
           . have h0:0 < tail.length:=by have:=hI.count; omega
             have hx:=hI.before 0 h0 h;exact absurd (fj j Uq hk tail[0] (List.getElem_mem h0)) (Tx _ (Lj 0 h0) hx)
          subst Rw;have M2:wc=w1:=hI.last;subst M2;rw [hk] at hv
          rcases hv with ⟨lq,hg⟩ | ⟨Az,hD⟩
          . rw [if_pos lq]
            refine .inl ?_;unfold Oper.wp;rw [zx]
            by_cases hn:j ∈ news
            . obtain ⟨cc,px⟩:=((Xj j hn).2.2 o ho).2 (act (fun k=>decide (k < j)) v ops.toList 0 a0).eval wc
              rw [px] at hg ⊢;exact Q2z (bq _ _ _ 0 (XY _ _ hg.1) (fun _=>hg.1) (fun _=>hg.2) (fun _=>rfl) (fun h=>absurd h qq) (fun _=>⟨_,rfl,Nat.le_refl _,by rw [World.size_alloc]; exact Nat.lt_succ_self _⟩) rfl)
            . exact Q2z (Q5d (fun u w' h=>bq u w' w' 0 (XY _ _ h.1) (fun _=>h.1) (fun _=>h.2) (fun _=>rfl) (fun h=>absurd h qq) (fun h=>absurd h hn) rfl) hg)
          . rw [if_neg (by rw [Az]; simp)]
            exact bq undef wc wc 0 (Uj _) (fun _=>F4 _) (fun _=>hD) (fun _=>rfl) (fun h=>absurd h qq) (fun hn=>absurd hn (jz Az)) rfl
        | last=>exact absurd ((Nk j Uq).1 hk) qq
 refine main ops.size _ a0 _ (by simp) ?_ (fun j o _ hx=>?_) ⟨fun _=>undef,w.drew,0,⟨?_,Uj _,fun k hx=>?_,Nat.zero_le _,fun i _ h=>absurd h (Nat.not_lt_zero _),fun i _ _=>?_,rfl,fun i _ hx=>?_,fun i _ _ _ _ hx=>?_⟩,fun _=>F4 _⟩
 . exact Nat.le_trans (List.countP_le_length) (by simp)
 . have:=Q3n ops.size j
   rw [this] at hx; cases hx
 . refine (X2k (by rw [Q3h]) fun t=>?_)
   have:∀ (l:List Oper) (i:Nat) (a:Act),act (fun k=>(Array.replicate ops.size false).getD k false) (fun _=>undef) l i a=a:=by
    intro l; induction l with
    | nil=>intro i a; rfl
    | cons o l ih=>intro i a; rw [act,ih,Q3n]; rfl
   rw [this]
 . have:=Q3n ops.size k
   rw [this] at hx; cases hx
 . exact Q3n ops.size _
 . have:=Q3n ops.size i
   rw [this] at hx; cases hx
 . have:=Q3n ops.size i
   rw [this] at hx; cases hx
end
def X1n (j0:Nat) (Rel0 Rel:World -> World -> Prop) (P:Program) (ops:Array Oper) (pre:Nat -> List Nat) (tail:List Nat) (w0:World) (D:Nat -> (Nat -> Value) -> World -> Prop):List ((Nat -> Value) -> World -> World -> Prop) -> ((Nat -> Value) -> World -> World -> Prop) -> List Oper -> List Kind -> List Nat -> ((Nat -> Value) -> Act) -> Prop
 | El,T,o :: l,k :: kl,j :: jl,b =>
   match k,El with
   | .last,E :: El=>(∀ v w1,Rel w0 w1 -> Facts pre D v w1 ((pre j).filter fun i=>!tail.contains i) (∀ w,T v w1 w -> ∀ bb,bb=b v -> Guarded ops o bb (J7n Rel P pre D E .last o j bb v w1 w) (Pass pre D E .last j v w1 w))) /\
      X1n j0 Rel0 Rel P ops pre tail w0 D El (fun v w1 w=>E (mask pre j v) w1 w) l kl jl (fun v=>(b v).put o.dst (v j))
   | .last,[]=>False
   | k,El=>(∀ v w1,(if j=j0 then Rel0 else Rel) w0 w1 -> Facts pre D v w1 (pre j) (∀ bb,bb=b v -> Guarded ops o bb (J7n (if j=j0 then Rel else Rel0) P pre D (fun _ _ _=>False) k o j bb v w1 w1) (Pass pre D (fun _ _ _=>False) k j v w1 w1))) /\ X1n j0 Rel0 Rel P ops pre tail w0 D El T l kl jl (fun v=>(b v).put o.dst (v j))
 | _,_,_,_,_,_=>True
theorem Y4c {j0:Nat} {Rel0 Rel:World -> World -> Prop} {P:Program} {ops:Array Oper} {pre:Nat -> List Nat} {tail:List Nat} {w0:World} {D:Nat -> (Nat -> Value) -> World -> Prop} :
    ∀ (l:List Oper) (kl:List Kind) (El:List ((Nat -> Value) -> World -> World -> Prop)) (T:(Nat -> Value) -> World -> World -> Prop) (i:Nat) (b:(Nat -> Value) -> Act),kl.length=l.length ->
     X1n j0 Rel0 Rel P ops pre tail w0 D El T l kl (List.range' i l.length) b -> ∀ j o,l[j]?=some o -> lookup kl .plain j ≠ .last -> ∀ v w1,(if i + j=j0 then Rel0 else Rel) w0 w1 ->
     (∀ n ∈ pre (i + j),D n (mask pre n v) w1) -> vc P ops pre (if i + j=j0 then Rel else Rel0) D (fun _ _ _=>False) (fun _ _ _=>False) (lookup kl .plain j) o (i + j) (act (fun _=>true) v (l.take j) i (b v)) v w1
 | [],_,_,_,_,_,_,_,j,_,h,_,_,_,_,_=>by simp at h
 | o :: l,[],_,_,_,_,hk,_,_,_,_,_,_,_,_,_=>by simp at hk
 | o :: l,k :: kl,El,T,i,b,hk,h,j,o',hj,hne,v,w1,hx,hf=>by
   rw [List.length_cons,List.range'_succ] at h;cases j with
   | zero =>
     simp only [List.getElem?_cons_zero,Option.some.injEq] at hj;subst hj;simp only [lookup] at hne ⊢;cases k with
     | last=>exact absurd rfl hne
     | plain=>simp only [X1n] at h; simpa [act] using J4n hne ((h.1 v w1 (by simpa using hx)).out (by simpa using hf) _ rfl)
     | world=>simp only [X1n] at h; simpa [act] using J4n hne ((h.1 v w1 (by simpa using hx)).out (by simpa using hf) _ rfl)
   | succ j =>
     have Wv:∃ El T,X1n j0 Rel0 Rel P ops pre tail w0 D El T l kl (List.range' (i + 1) l.length) (fun v=>(b v).put o.dst (v i)):=by
      cases k with
      | last=>cases El with
        | nil=>simp only [X1n] at h
        | cons E El=>simp only [X1n] at h; exact ⟨_,_,h.2⟩
      | plain=>simp only [X1n] at h; exact ⟨_,_,h.2⟩
      | world=>simp only [X1n] at h; exact ⟨_,_,h.2⟩
     obtain ⟨El',T',h'⟩:=Wv;have:=Y4c l kl El' T' (i + 1) _ (by simpa using hk) h' j o' (by simpa using hj) (by simpa [lookup] using hne) v w1 (by rwa [show i + 1 + j=i + (j + 1) from by omega]) (by rwa [show i + 1 + j=i + (j + 1) from by omega])
     rw [show i + 1 + j=i + (j + 1) from by omega] at this
     simpa [act,lookup] using this
theorem X1f {j0:Nat} {Rel0 Rel:World -> World -> Prop} {P:Program} {ops:Array Oper} {pre:Nat -> List Nat} {tail:List Nat} {w0:World} {D:Nat -> (Nat -> Value) -> World -> Prop} (E:Nat -> (Nat -> Value) -> World -> World -> Prop) :
    ∀ (l:List Oper) (kl:List Kind) (El:List ((Nat -> Value) -> World -> World -> Prop)) (i:Nat) (b:(Nat -> Value) -> Act) (c0:Nat),kl.length=l.length -> tail.drop c0=lasts kl i -> (∀ n,n < (lasts kl i).length -> El[n]?=some (E (c0 + n))) ->
     X1n j0 Rel0 Rel P ops pre tail w0 D El (Tail pre tail E c0) l kl (List.range' i l.length) b -> ∀ n,n < (lasts kl i).length -> ∀ j o,tail[c0 + n]?=some (i + j) -> l[j]?=some o -> ∀ v w1,Rel w0 w1 ->
     (∀ m ∈ pre (i + j),m ∉ tail -> D m (mask pre m v) w1) -> vc P ops pre Rel D (Tail pre tail E (c0 + n)) (E (c0 + n)) .last o (i + j) (act (fun _=>true) v (l.take j) i (b v)) v w1
 | [],[],_,_,_,_,_,_,_,_,n,h,_,_,_,_,_,_,_,_=>by simp [lasts] at h
 | [],_ :: _,_,_,_,_,hk,_,_,_,_,_,_,_,_,_,_,_,_,_=>by simp at hk
 | o :: l,[],_,_,_,_,hk,_,_,_,_,_,_,_,_,_,_,_,_,_=>by simp at hk
 | o :: l,k :: kl,El,i,b,c0,hk,pw,hE,h,n,hn,j,o',ht,hj,v,w1,hx,hf=>by
   rw [List.length_cons,List.range'_succ] at h;have Yj:∀ (kl:List Kind) (i:Nat),∀ x ∈ lasts kl i,i <= x:=by
    intro kl
    induction kl with
    | nil=>intro i x hx; simp [lasts] at hx
    | cons k kl ih => intro i x hx; cases k <;> simp only [lasts, List.mem_cons] at hx
                      . have:=ih _ _ hx; omega
                      . have:=ih _ _ hx; omega
                      . rcases hx with rfl | hx
                        . exact Nat.le_refl _
                        . have:=ih _ _ hx; omega
   have Eg:(lasts (k :: kl) i)[n]?=some (i + j):=by rw [<- pw,List.getElem?_drop]; exact ht
   have jX:k ≠ .last -> ∃ j',j=j' + 1 /\ (lasts kl (i + 1))[n]?=some (i + 1 + j'):=by
    intro hne;have e:lasts (k :: kl) i=lasts kl (i + 1):=by cases k <;> first | rfl | exact absurd rfl hne
    rw [e] at Eg;have:=Yj kl (i + 1) _ (List.mem_of_getElem? Eg);exact ⟨j - 1,by omega,by rw [Eg]; congr 1; omega⟩
   cases k with
   | plain =>
     obtain ⟨j',rfl,DW⟩:=jX (by simp)
     simp only [X1n] at h;have:=X1f E l kl El (i + 1) _ c0 (by simpa using hk) (by simpa [lasts] using pw) (by simpa [lasts] using hE) h.2 n (by simpa [lasts] using hn) j' o' (by rw [ht]; congr 1; omega) (by simpa using hj) v w1 hx (by rwa [show i + 1 + j'=i + (j' + 1) from by omega])
     rw [show i + 1 + j'=i + (j' + 1) from by omega] at this
     simpa [act] using this
   | world =>
     obtain ⟨j',rfl,DW⟩:=jX (by simp)
     simp only [X1n] at h;have:=X1f E l kl El (i + 1) _ c0 (by simpa using hk) (by simpa [lasts] using pw) (by simpa [lasts] using hE) h.2 n (by simpa [lasts] using hn) j' o' (by rw [ht]; congr 1; omega) (by simpa using hj) v w1 hx (by rwa [show i + 1 + j'=i + (j' + 1) from by omega])
     rw [show i + 1 + j'=i + (j' + 1) from by omega] at this
     simpa [act] using this
   | last =>
     cases El with
     | nil=>simp only [X1n] at h
     | cons E0 El =>
       have e0:E0=E c0:=by have:=hE 0 (by simp [lasts]); simpa using this
       subst e0;simp only [X1n] at h;have CW:tail.getD c0 0=i:=by
        have:(tail.drop c0)[0]?=some i:=by rw [pw]; rfl
        rw [List.getElem?_drop] at this
        simpa using congrArg (fun x=>x.getD 0) this
       cases n with
       | zero =>
         have hj0:j=0:=by
          have:(lasts (.last :: kl) i)[0]?=some i:=rfl;rw [this] at Eg; simp at Eg; omega
         subst hj0;simp only [List.getElem?_cons_zero,Option.some.injEq] at hj;subst hj;have:=J2j (h:=fun w hT=>(h.1 v w1 hx).out (fun m hm=>by
          simp only [List.mem_filter,Bool.not_eq_true',List.contains_eq_mem,decide_eq_false_iff_not] at hm;exact hf m (by simpa using hm.1) hm.2) w hT _ rfl)
         simpa [act] using this
       | succ n =>
         have pq:(lasts kl (i + 1))[n]?=some (i + j):=by simpa [lasts] using Eg
         have D9:=Yj kl (i + 1) _ (List.mem_of_getElem? pq);obtain ⟨j',rfl⟩:∃ j',j=j' + 1:=⟨j - 1,by omega⟩
         have hT:(fun v w1 w=>E c0 (mask pre i v) w1 w)=Tail pre tail E (c0 + 1):=by
          funext v w1 w
          show _=E c0 (mask pre (tail.getD c0 0) v) w1 w;rw [CW]
         have h2:=h.2;rw [hT] at h2;have:=X1f E l kl El (i + 1) _ (c0 + 1) (by simpa using hk) (by
             have e:tail.drop (c0 + 1)=(tail.drop c0).drop 1:=by rw [List.drop_drop]
             rw [e,pw]; rfl) (fun m hm=>by
             have:=hE (m + 1) (by simpa [lasts] using hm)
             rw [show c0 + 1 + m=c0 + (m + 1) from by omega]
             simpa using this) h2 n (by simpa [lasts] using hn) j' o' (by rw [show c0 + 1 + n=c0 + (n + 1) from by omega,ht]; congr 1; omega) (by simpa using hj) v w1 hx (by rwa [show i + 1 + j'=i + (j' + 1) from by omega])
         rw [show i + 1 + j'=i + (j' + 1) from by omega,show c0 + 1 + n=c0 + (n + 1) from by omega] at this
         simpa [act] using this
section
variable {P:Program} {id:Nat} {Q:Exit -> Act -> World -> Prop} {a0:Act} {w:World} {ops:List Oper}
theorem J0y (Rel:World -> World -> Prop) (j0:Nat) (Rel0:World -> World -> Prop) (F4:∀ w,Rel0 w w) (Ka:∀ a b c,Rel0 a b -> Rel0 b c -> Rel0 a c) (XY:∀ a b,Rel0 a b -> Rel a b) (Uj:∀ w,Rel w w) (tz:∀ a b c,Rel a b -> Rel b c -> Rel a c) (E3:∀ a b,Rel a b -> a.heap.size <= b.heap.size) (kl:List Kind) (jl:List Nat) (pl:List (List Nat)) (tail:List Nat) (Dl:List (Y8m Rel)) (El:List ((Nat -> Value) -> World -> World -> Prop))
    (hm:P.follows .mixedOrders=true) (Qj:jl=List.range' 0 ops.length) (Vj:okL ops pl kl tail El.length=true)
    (Yz:X1n j0 Rel0 Rel P ops.toArray (lookup pl []) tail w.drew (fun k=>(lookup Dl .none k).D) El (fun _ w1 w=>w=w1) ops kl jl (fun _=>a0))
    (iq:∀ v w1,Rel w.drew w1 -> All (lookup pl []) (fun k=>(lookup Dl .none k).D) v w1 tail jl (∀ w',endOf (lookup pl []) v w1 w' tail El -> Q .normal (acts v ops jl a0) w')) :
    (Code.region id ops.toArray true).wp P Q a0 w:=by
 subst Qj;simp only [Y4u] at iq;simp only [okL,Bool.and_eq_true,List.all_eq_true,List.mem_range,beq_iff_eq,Bool.or_eq_true,Bool.not_eq_true',List.contains_eq_mem,decide_eq_true_eq,decide_eq_false_iff_not] at Vj;obtain ⟨⟨⟨⟨⟨⟨Vj,Dq⟩,Lj⟩,hn⟩,Dj⟩,Cx⟩,fj⟩:=Vj;have pq:∀ j,j ∈ tail ↔ j < ops.length /\ isLast (lookup kl .plain j)=true:=by intro j; rw [Lj,List.mem_filter,List.mem_range]
 have hk:∀ j,isLast (lookup kl .plain j)=true ↔ lookup kl .plain j=.last:=by intro j; cases lookup kl .plain j <;> simp [isLast]
 have dg:lasts kl 0=tail:=by
  rw [X8d,Lj,Dq,List.range_eq_range'];rfl
 have gX:∀ n,n < (lasts kl 0).length -> El[n]?=some ((fun c=>(El[c]?).getD fun _ _ _=>True) (0 + n)):=by
  intro n d6;rw [dg,<- hn] at d6;simp [d6]
 have Dg:∀ v w1 w',Tail (lookup pl []) tail (fun c=>(El[c]?).getD fun _ _ _=>True) tail.length v w1 w' -> endOf (lookup pl []) v w1 w' tail El:=by
  intro v w1 w' h;have gen:∀ (tl:List Nat) (el:List ((Nat -> Value) -> World -> World -> Prop)),el.length=tl.length -> (tl=[] -> w'=w1) -> (∀ (hne:tl ≠ []),((el[tl.length - 1]?).getD fun _ _ _=>True) (mask (lookup pl []) (tl.getD (tl.length - 1) 0) v) w1 w') -> endOf (lookup pl []) v w1 w' tl el:=by
   intro tl
   induction tl with
   | nil=>intro el _ h0 _; cases el <;> exact h0 rfl
   | cons j tl ih =>
     intro el hl _ h1;cases el with
     | nil=>simp at hl
     | cons E el =>
       cases tl with
       | nil=>cases el with
         | nil=>simpa [endOf] using h1 (by simp)
         | cons _ _=>simp at hl
       | cons j' tl=>cases el with
         | nil=>simp at hl
         | cons E' el =>
           show endOf _ v w1 w' (j' :: tl) (E' :: el);exact ih _ (by simpa using hl) (fun h=>by simp at h) (fun _=>by simpa using h1 (by simp))
  refine gen tail El hn.symm.symm (fun h0=>?_) (fun hne=>?_)
  . rw [h0] at h; exact h
  . obtain ⟨m,hm⟩:∃ m,tail.length=m + 1:=⟨tail.length - 1,by have:=List.length_pos_iff.2 hne; omega⟩
    rw [hm] at h;rw [hm,Nat.add_sub_cancel];exact h
 refine Y1s j0 (Rel0:=Rel0) F4 Ka [] tail (lookup kl .plain) (Rel:=Rel) (D:=fun k=>(lookup Dl .none k).D) (E:=fun c=>(El[c]?).getD fun _ _ _=>True) hm (J6m Vj)
  (fun i hi=>by simpa using ((pq _).1 (List.getElem_mem hi)).1) (fun i k hi hk hik=>by have:=Dj k hk i hik; simpa [hi,hk] using this)
  (fun j Qj nw k hk'=>?_) (fun j Qj=>?_) (fun j Qj hjw s hs=>?_)
  XY Uj tz (fun k _ v w w' hx hd=>(lookup Dl .none k).mono v w w' hx hd) (fun j o ho nw hj0 v w1 hx hf=>?_) (fun o ho nw v w1 hx hf=>?_) (fun c hc o ho v w1 hx hf=>?_) (fun _ h=>(nomatch h)) E3 (fun v w1 w' hx _ hf hE=>?_)
 . rcases Cx j (by simpa using Qj) with h | h
   . exact absurd ((pq j).2 ⟨by simpa using Qj,h⟩) nw
   . exact h k hk'
 . rw [pq,hk]; simp at Qj; simp [Qj]
 . rcases fj j (by simpa using Qj) with h | h
   . rw [hjw] at h; simp [X9n] at h
   . exact h s hs
 . have Qj:j < ops.length:=by simpa using (Array.getElem?_eq_some_iff.1 ho).1
   have:=Y4c ops kl El _ 0 _ Dq Yz j o (by simpa using ho) (fun h=>nw ((pq j).2 ⟨Qj,(hk j).2 h⟩)) v w1 (by rw [Nat.zero_add,if_neg hj0]; exact hx) (by simpa using hf)
   rw [Nat.zero_add,if_neg hj0] at this;have e:=Q5c v ops 0 j a0;rw [Nat.zero_add] at e
   simpa [e] using this
 . have Qj:j0 < ops.length:=by simpa using (Array.getElem?_eq_some_iff.1 ho).1
   have:=Y4c ops kl El _ 0 _ Dq Yz j0 o (by simpa using ho) (fun h=>nw ((pq j0).2 ⟨Qj,(hk j0).2 h⟩)) v w1 (by rw [Nat.zero_add,if_pos rfl]; exact hx) (by simpa using hf)
   rw [Nat.zero_add,if_pos rfl] at this;have e:=Q5c v ops 0 j0 a0;rw [Nat.zero_add] at e
   simpa [e] using this
 . have:=X1f (fun c=>(El[c]?).getD fun _ _ _=>True) ops kl El 0 _ 0 Dq (by rw [dg]; rfl) gX Yz c (by rw [dg]; exact hc) tail[c] o (by simp [hc]) (by simpa using ho) v w1 hx (by simpa using hf)
   rw [Nat.zero_add,Nat.zero_add] at this;have e:=Q5c v ops 0 tail[c] a0;rw [Nat.zero_add] at e
   simpa [e] using this
 . exact (iq v w1 hx).out (fun k hk Ax=>hf k (by simpa using hk) Ax) w' (Dg v w1 w' hE)
end
end Go.Flow
namespace Go.Proofs
open Go.RowKit Go.Tw Go.Flow Tryz
attribute [local go_sem] Oper.semAt_some
def Y0y (row:Option Nat) (B:Nat) (v:Value) (ks:List PV) (a b:World):Prop:=a.grownBy b row /\ (Q1d a B 159 4 Q3g v ks -> Q1d b B 159 4 Q3g v ks)
theorem Y0y.refl (row:Option Nat) (B:Nat) (v:Value) (ks:List PV) (a:World):Y0y row B v ks a a:=⟨Q7a a row,id⟩
theorem Y0y.trans {row:Option Nat} {B:Nat} {v:Value} {ks:List PV} {a b c:World} (h:Y0y row B v ks a b) (k:Y0y row B v ks b c):Y0y row B v ks a c:=⟨Q8p h.1 k.1,fun x=>k.2 (h.2 x)⟩
theorem Y0y.size {row:Option Nat} {B:Nat} {v:Value} {ks:List PV} {a b:World} (h:Y0y row B v ks a b):a.heap.size <= b.heap.size:=h.1.size
theorem Y0y.ext {row:Option Nat} {B:Nat} {v:Value} {ks:List PV} {a b:World} (h:Ext a b):Y0y row B v ks a b:=⟨Q5i (Q7a a row) h,fun x=>x.below h⟩
theorem Y0y.blk {row:Option Nat} {B:Nat} {v:Value} {ks:List PV} {a b:World} (h:Y0y row B v ks a b) {g:Nat} {T:TypeId} {cs:Array Value} (hb:Blk a g T cs) (hg:some g ≠ row):Blk b g T cs:=(h.1.block g hb.lt hg).trans hb
theorem Tryz.Y8s:(prog.info? 159).map (fun i=>(i.zero,i.size,i.bytes))=some (some (.agg #[.int .i64 0,.int .i64 0,.int .i64 0,.slice none 0 0]),4,48):=by kernel_rfl
theorem X8v (w:World) (a b c:Int) (A:Option Addr) (n cp:Nat):(Instr.buildSlice 160 1 #[(0,.agg #[.int .i64 a,.int .i64 b,.int .i64 c,.slice A n cp])]).run prog w=.ok (.slice (some ⟨w.heap.size,0,none⟩) 1 1) (w.alloc (.cells #[.int .i64 a,.int .i64 b,.int .i64 c,.slice A n cp] 159)):=by kernel_rfl
theorem Q3o {K:Value -> World -> Prop} {o:Oper} {a:Act} {w:World} (T E:TypeId) (x:Operand) (ho:o.op=.buildSlice T 1 #[(0,x)]) {u:Value} (hx:a.eval x=u) (hr:(Instr.buildSlice T 1 #[(0,u)]).run prog w=.ok (.slice (some ⟨w.heap.size,0,none⟩) 1 1) (w.alloc (.cells u.cells E)))
    (h:K (.slice (some ⟨w.heap.size,0,none⟩) 1 1) (w.alloc (.cells u.cells E))):gives prog K ((execOp a.eval o).run prog w):=by
 unfold execOp;simp only [ho,hx,List.map_toArray,List.map_cons,List.map_nil,Sem.run_bind,hr,Result.andThen_ok,Sem.run_pure];exact h
theorem Z2u {P:Program} {K:Value -> World -> Prop} {o:Oper} {a:Act} {w:World} {f:FuncId} {x y:Operand} {ts:Array TypeId} {u v:Value} {R:Ending -> World -> Prop} (ho:o.op=.call { callee:=.value (.func f),args:=#[x,y],argTypes:=ts })
    (he:Enters P f) (hx:a.eval x=u) (hy:a.eval y=v) (h:Calls P f #[u,v] w R) (hk:∀ e w',R e w' -> ∃ z,e=.returned z /\ K z w'):gives P K ((execOp a.eval o).run P w):=by
 unfold execOp;simp only [ho,resolve,invoke,Sem.run_bind,Result.andThen_ok,List.map_toArray,List.map_cons,List.map_nil,hx,hy];go_simp;rw [he];exact Q0e h hk
theorem Y8e (A:Option Addr) (n m c:Nat):(Value.slice A n c).ownBlock=(Value.slice A m c).ownBlock:=by cases A <;> rfl
theorem OwnP.Q9f {w:World} {B:Nat} {v:Value} {ps:List PV} (h:Q1d w B 159 4 Q3g v ps):∀ b,v.ownBlock=some b -> B <= b /\ b < w.heap.size /\ ∃ cs,Blk w b 159 cs:=by
 intro b hb
 rcases OwnP.cases h with ⟨rfl,_⟩ | ⟨g,Qq,cur,rfl,Ux,hg,_⟩
 . cases hb
 . cases hb; exact ⟨Ux,hg.lt,_,hg⟩
theorem Q0v.grown {w w':World} {B:Nat} {v:Value} {ps qs:List PV} (h:Q0v w qs) (ho:Q1d w B 159 4 Q3g v ps) (hg:w.grownBy w' v.ownBlock):Q0v w' qs:=by
 rcases OwnP.cases ho with ⟨rfl,_⟩ | ⟨g,Qq,cur,rfl,Ux,hb,_⟩
 . exact fun q hq=>Y3v (E:=159) (us:=([]:List Value)) (enc':=idV) (b2:=0) (h q hq) (Q0q.nil w 0 _ _) (by decide) hg
 . exact h.off hb fun k hk hne=>hg.block k hk (by intro e; cases e; exact hne rfl)
def Q4x (ps:List PV) (k:Nat):List Plan:=((ps.take k).map (·.1)).foldl Q2n []
theorem Y9p {ps:List PV} {k:Nat} {q:PV} (hq:ps[k]?=some q):Q4x ps (k + 1)=Q2n (Q4x ps k) q.1:=by
 obtain ⟨hk,rfl⟩:=List.getElem?_eq_some_iff.1 hq;unfold Q4x;rw [List.take_succ_eq_append_getElem hk,List.map_append,List.foldl_append]; rfl
theorem Z2w (ps:List PV):Q4x ps ps.length=X8k (ps.map (·.1)):=by unfold Q4x X8k; rw [List.take_length]
theorem Q9p (w:World) (B:Nat) (v:Value) (ps:List PV) (hv:Q1d w B 159 4 Q3g v ps) (hc:Q0v w ps) (hl:ps.length <= 90000) :
    Calls prog 197 #[v] w fun e w'=>∃ v' qs,e=.returned v' /\ Q1d w' w.heap.size 159 4 Q3g v' qs /\ Q0v w' qs /\ qs.map (·.1)=X8k (ps.map (·.1)) /\ Ext w w':=by
 obtain ⟨i0,hi,dq,fq,Zj⟩:=info_parts Y8s;have HC:=hid hc;obtain ⟨A,cv,nj,Gj⟩:∃ A cv,v=.slice A ps.length cv /\ Hid (∀ j (hj:j < ps.length),∃ gb,A=some ⟨gb,0,none⟩ /\ ∀ i,i < 4 -> w.cell? ⟨gb,j * 4 + i,none⟩=(Q3g ps[j])[i]?):=by
  rcases OwnP.cases hv with ⟨rfl,h0⟩ | ⟨gb,Qq,cur,rfl,_,hb,_,_,_,ey⟩
  . exact ⟨none,0,by rw [h0]; rfl,hid (fun j hj=>by rw [h0] at hj; simp at hj)⟩
  . exact ⟨_,Qq,rfl,hid (fun j hj=>⟨gb,rfl,fun i hi=>X3i hb ey hj hi⟩)⟩
 subst nj;obtain ⟨L,hL⟩:∃ L,ps.length=L:=⟨_,rfl⟩;have HL:=hid hL;rw [hL] at hl ⊢;have A8:=hid (Z2w ps);clear hv hc hL;go_enter func197,ntmps197;go_wp2
 go_loopw [3,8] (fun o i wr=>∃ (k:Nat) (qs:List PV),k <= L /\ qs.length <= k /\ i=.int .i64 k /\ Q1d wr w.heap.size 159 4 Q3g o qs /\ Q0v wr qs /\ qs.map (·.1)=Q4x ps k /\ Ext w wr) (fun _ i _=>L - (intOf i).toNat)
 case atStart=>exact ⟨0,[],Nat.zero_le _,Nat.le_refl _,rfl,Q1d.nil _ _ _ _ _,Q0v.nil _,rfl,Ext.refl _⟩
 case round =>
  obtain ⟨k,qs,hk,xz,rfl,Yq,dx,Ez,hx⟩:=hrel;have Ly:=hid Ez;have HX:=hid hx;have kq:=hid Yq;have bw:=hid dx
  by_cases Uq:k < L
  . have Oj:k < ps.length:=by rw [HL.out]; exact Uq
    have zj:(k:Int) < L:=by omega
    obtain ⟨gb,rfl,Wq⟩:=Gj.out k Oj;have e0:=hx.cell (Wq 0 (by omega))
    have e1:=hx.cell (Wq 1 (by omega))
    have e2:=hx.cell (Wq 2 (by omega))
    have e3:=hx.cell (Wq 3 (by omega))
    obtain ⟨A4,n4,c4,ox⟩:=HC.out.shape (List.getElem_mem Oj);have jx:ps[k]?=some ps[k]:=List.getElem?_eq_getElem Oj;have tj:=Y9p jx;have hcl:=HC.out ps[k] (List.getElem_mem Oj);obtain ⟨qk,Jx⟩:∃ z,ps[k]=z:=⟨_,rfl⟩;rw [Jx] at e0 e1 e2 e3 ox tj hcl;obtain ⟨x,xv⟩:=qk;replace ox:xv=.slice A4 n4 c4:=ox;subst ox;rw [Nat.add_zero] at e0;replace tj:Q4x ps (k + 1)=Q2n (Q4x ps k) x:=tj;have pz:=hid hcl;have Sj:=hid tj;obtain ⟨x1,aq⟩:∃ z,x.weight=z:=⟨_,rfl⟩;obtain ⟨x2,Nq⟩:∃ z,x.closings=z:=⟨_,rfl⟩;obtain ⟨x3,yj⟩:∃ z,x.delay=z:=⟨_,rfl⟩;have Bq:=Ext.box wr (.cells #[.int .i64 x1,.int .i64 x2,.int .i64 x3,.slice A4 n4 c4] 159);have K3:=Blk.made wr 159 #[.int .i64 x1,.int .i64 x2,.int .i64 x3,.slice A4 n4 c4];have Qf:Hid (Y1y 227 #[] #[.pointer (some ⟨wr.heap.size,0,none⟩)] (wr.alloc (.cells #[.int .i64 x1,.int .i64 x2,.int .i64 x3,.slice A4 n4 c4] 159)) (fun o=>o.Q4y x)):=hid (K0l _ x A4 n4 c4 wr.heap.size (by rw [aq,Nq,yj]; exact K3))
    have DQ:Hid (∀ W,Y1y 228 #[.agg #[.int .i64 x1,.int .i64 x2,.int .i64 x3,.slice A4 n4 c4]] #[] W (fun o=>x.Q4y o)):=hid (fun W=>by
     have h:=K0m W x A4 n4 c4;unfold Z7k at h;rw [aq,Nq,yj] at h;exact h)
    have Qx:=hid (show x.weight=x1 /\ x.closings=x2 /\ x.delay=x3 from ⟨aq,Nq,yj⟩)
    rw [aq] at e0;rw [Nq] at e1;rw [yj] at e2;have jq:=hid Bq;have My:=hid K3;have ZZ:=hid (Y2f _ w.heap.size _ qs _ #[] _ _ (Yq.below Bq) (dx.ext Bq) (by omega) (enters_of func227 (by kernel_rfl) rfl) Qf.out)
    obtain ⟨Ao,co,ay,-⟩:=Yq.shape;subst ay;obtain ⟨q,hq⟩:∃ q,(qs.any fun z=>z.1.Q4y x)=q:=⟨_,rfl⟩
    have HQ:=hid hq;rw [hq] at ZZ;have bJ:(Q4x ps k).any (fun o=>o.Q4y x)=q:=by rw [<- Ly.out,List.any_map]; exact hq
    have M7:=hid bJ;clear Wq Jx tj aq Nq yj Bq K3 hq bJ Yq dx Ez hx hcl jx Oj
    go_light
    go_wp2_with (go_at_call 226; refine ZZ.out.mono ?_; rintro e w5 ⟨rfl,yq⟩; refine halted ?_);have vq:=hid (jq.out.trans yq);have Z3:=hid (My.out.ext yq);clear yq e0 e1 e2 e3;unfold Q1o;cases q with
    | true =>
      have uZ:Hid (Q4x ps (k + 1)=Q4x ps k):=hid (by rw [Sj.out]; unfold Q2n; rw [if_pos M7.out])
      go_wp2;go_roundw
      case rel=>exact ⟨k + 1,qs,by omega,by omega,by go_num,kq.out.below vq.out,bw.out.ext vq.out,by rw [uZ.out]; exact Ly.out,HX.out.trans vq.out⟩
      case measure=>simp [intOf]; omega
    | false =>
      have uZ:Hid (Q4x ps (k + 1)=(Q4x ps k).filter (fun o=>!x.Q4y o) ++ [x]):=hid (by rw [Sj.out]; unfold Q2n; rw [if_neg (by rw [M7.out]; simp)])
      obtain ⟨ks,Ax⟩:∃ z,(qs.filter fun z=>!x.Q4y z.1)=z:=⟨_,rfl⟩
      have R4:=hid Ax;have Pf:ks.length <= qs.length:=by rw [<- Ax]; exact List.length_filter_le _ _
      have La:Hid (ks.map (·.1)=(Q4x ps k).filter fun o=>!x.Q4y o):=hid (by rw [<- Ly.out,<- Ax,List.filter_map]; rfl)
      have tZ:=hid (kq.out.below vq.out);have WY:=hid (bw.out.ext vq.out);have lk:Hid (Q0v w5 ks):=hid (WY.out.sub fun z hz=>by rw [<- Ax] at hz; exact (List.mem_filter.1 hz).1)
      have aJ:=hid (fun (W:World) (h1:Q1d W w.heap.size 159 4 Q3g (.slice Ao qs.length co) qs) (h2:Q0v W qs)=>Y7r W w.heap.size _ qs 228 #[.agg #[.int .i64 x1,.int .i64 x2,.int .i64 x3,.slice A4 n4 c4]] #[] _ h1 h2 (by omega) (enters_of func228 (by kernel_rfl) rfl) DQ.out)
      have Mx:=hid (pz.out.below (HX.out.trans vq.out));have ZX:Hid (some wr.heap.size ≠ (Value.slice Ao qs.length co).ownBlock):=hid (fun e=>by
       have:=(OwnP.Q9f kq.out _ e.symm).2.1;omega)
      have Ga:Hid (∀ W:World,W.heap.size ≥ w5.heap.size -> some W.heap.size ≠ (Value.slice Ao qs.length co).ownBlock):=hid (fun (W:World) hW e=>by
       have:=(OwnP.Q9f tZ.out _ e.symm).2.1;omega)
      have E4:=hid (enters_of (P:=prog) func229 (by kernel_rfl) rfl)
      have Zy:Hid (∀ (W:World) gn,Blk W gn 159 #[.int .i64 x1,.int .i64 x2,.int .i64 x3,.slice A4 n4 c4] -> ∀ j u,(Q3g (x,.slice A4 n4 c4))[j]?=some u -> W.cell? ((⟨gn,0,none⟩:Addr).add j)=some u):=hid (fun W gn hb=>by unfold Q3g; dsimp only; rw [Qx.out.1,Qx.out.2.1,Qx.out.2.2]; exact Q6d hb)
      have dj:Hid (∀ u ∈ Q3g (x,.slice A4 n4 c4),u.oneCell'=true):=hid (by unfold Q3g; simp [Value.oneCell'])
      have Gg:Hid (ks.length + 1 <= 100000):=hid (by omega)
      have Mv:Hid (w.heap.size <= w5.heap.size):=hid (by have:=HX.out.size; have:=vq.out.size; omega)
      obtain ⟨g,hg⟩:∃ z,wr.heap.size=z:=⟨_,rfl⟩;rw [hg] at Z3 ZX ⊢;clear Ax hg Qf My;have Xq:Y0y (Value.slice Ao qs.length co).ownBlock w.heap.size (.slice Ao ks.length co) ks w5 w5.drew:=Y0y.ext (Ext.refl w5).drew;go_wp2;refine Flow.J0y (Y0y (Value.slice Ao qs.length co).ownBlock w.heap.size (.slice Ao ks.length co) ks) 3 Ext Ext.refl (fun _ _ _=>Ext.trans) (fun _ _=>Y0y.ext) (Y0y.refl _ _ _ _) (fun _ _ _=>Y0y.trans) (fun _ _ h=>h.size) [.p,.w,.p,.w,.w,.w,.last,.last] [0,1,2,3,4,5,6,7] [[],[],[1],[0,1,2],[],[4],[0,1,2,3,4,5],[0,1,2,3,4,5,6]] [6,7]
       [.c 0 (.slice Ao qs.length co),.c 1 (.agg #[.int .i64 x1,.int .i64 x2,.int .i64 x3,.slice A4 n4 c4]),.c 2 (.func (.func 228) #[.agg #[.int .i64 x1,.int .i64 x2,.int .i64 x3,.slice A4 n4 c4]] #[]),⟨fun v wz=>(fun v w'=>v 3=.slice Ao ks.length co /\ Q1d w' w.heap.size 159 4 Q3g (.slice Ao ks.length co) ks) v wz,by rintro v a b hx ⟨h1,h2⟩; exact ⟨h1,hx.2 h2⟩⟩,.c 4 (.agg #[.int .i64 x1,.int .i64 x2,.int .i64 x3,.slice A4 n4 c4]),⟨fun v wz=>(fun v w'=>∃ gn,v 5=.slice (some ⟨gn,0,none⟩) 1 1 /\ some gn ≠ (Value.slice Ao qs.length co).ownBlock /\ Blk w' gn 159 #[.int .i64 x1,.int .i64 x2,.int .i64 x3,.slice A4 n4 c4]) v wz,by rintro v a b hx ⟨gn,h1,h2,h3⟩; exact ⟨gn,h1,h2,hx.blk h3 h2⟩⟩,.none,.none]
       [fun v w1 w'=>Q1d w' w.heap.size 159 4 Q3g (v 6) (ks ++ [(x,.slice A4 n4 c4)]) /\ w1.grownBy w' (Value.slice Ao ks.length co).ownBlock,fun v w1 w'=>v 7=v 6 /\ Q1d w' w.heap.size 159 4 Q3g (v 6) (ks ++ [(x,.slice A4 n4 c4)]) /\ w1.grownBy w' (Value.slice Ao ks.length co).ownBlock] (by kernel_rfl) rfl (by kernel_rfl) ⟨?g0,?g1,?g2,?g3,?g4,?g5,?g6,?g7,trivial⟩ ?post
      case g0=>
       intro v w1 hx;replace hx:(Y0y (Value.slice Ao qs.length co).ownBlock w.heap.size (.slice Ao ks.length co) ks) _ w1:=hx;intro bb hbb;subst hbb;refine ⟨_,fun w=>?_,rfl⟩;go_simp
      case g1 | g4=>
       intro v w1 hx;replace hx:(Y0y (Value.slice Ao qs.length co).ownBlock w.heap.size (.slice Ao ks.length co) ks) _ w1:=hx;intro bb hbb;intro K hK;have o1:bb.eval (.tmp 5)=.pointer (some ⟨g,0,none⟩):=by rw [hbb]; dsimp only; (try simp (discharger:=decide) only [eval_put_ne]); rfl
       exact Q0k (.tmp 5) _ rfl J7x X9k o1 ((Xq.trans hx).blk Z3.out ZX.out) rfl (hK _ _ (Ext.refl w1) rfl)
      case g2=>
       intro v w1 hx;(repeat intro (zq:v _=_));replace hx:(Y0y (Value.slice Ao qs.length co).ownBlock w.heap.size (.slice Ao ks.length co) ks) _ w1:=hx;intro bb hbb;subst hbb;refine ⟨_,fun w=>?_,rfl⟩;go_simp
      case g3=>
       intro v w1 hx;(repeat intro (zq:v _=_));replace hx:Ext _ w1:=hx;intro bb hbb;intro K hK;have o1:bb.eval (.tmp 15)=.slice Ao qs.length co:=fzg05
       have o2:bb.eval (.tmp 17)=.func (.func 228) #[.agg #[.int .i64 x1,.int .i64 x2,.int .i64 x3,.slice A4 n4 c4]] #[]:=fzg05
       have Zq:=(Ext.refl w5).drew.trans hx;refine Z2u rfl E4.out o1 o2 (aJ.out w1 (tZ.out.below Zq) (WY.out.ext Zq)) ?_;rintro e w2 ⟨v',rfl,h1,h2,h3,h4⟩;rw [R4.out] at h1 h4;obtain rfl:v'=.slice Ao ks.length co:=h4 Ao qs.length co rfl;exact ⟨_,rfl,hK _ _ (show Y0y _ _ _ _ _ _ from ⟨h3,fun _=>h1⟩) ⟨rfl,h1⟩⟩
      case g5=>
       intro v w1 hx;(repeat intro (zq:v _=_));replace hx:(Y0y (Value.slice Ao qs.length co).ownBlock w.heap.size (.slice Ao ks.length co) ks) _ w1:=hx;intro bb hbb;intro K hK;have o1:bb.eval (.tmp 19)=.agg #[.int .i64 x1,.int .i64 x2,.int .i64 x3,.slice A4 n4 c4]:=fzg05
       exact Q3o 160 159 (.tmp 19) rfl o1 (X8v w1 _ _ _ _ _ _) (hK _ _ (Ext.box _ _) ⟨_,rfl,Ga.out w1 (Xq.trans hx).size,Blk.made _ _ _⟩)
      case g6=>
       intro v w1 hx (q0:v 0=_) (q1:v 1=_) (q2:v 2=_) (q3:(fun v w'=>v 3=.slice Ao ks.length co /\ Q1d w' w.heap.size 159 4 Q3g (.slice Ao ks.length co) ks) v w1) (q4:v 4=_) (q5:(fun v w'=>∃ gn,v 5=.slice (some ⟨gn,0,none⟩) 1 1 /\ some gn ≠ (Value.slice Ao qs.length co).ownBlock /\ Blk w' gn 159 #[.int .i64 x1,.int .i64 x2,.int .i64 x3,.slice A4 n4 c4]) v w1);intro wl hT;obtain rfl:wl=w1:=hT;intro bb hbb;intro K hK;obtain ⟨e3,HO⟩:=q3;obtain ⟨gn,e5,VY,L7⟩:=q5;have o1:bb.eval (.tmp 18)=.slice Ao ks.length co:=fzg05
       have o2:bb.eval (.tmp 20)=.slice (some ⟨gn,0,none⟩) 1 1:=fzg05
       exact Q2y _ _ 160 rfl w.heap.size 159 i0 (.agg #[.int .i64 0,.int .i64 0,.int .i64 0,.slice none 0 0]) 4 48 underlying160 hi dq fq Zj rfl (by decide) Q3g Q4o _ ks (x,.slice A4 n4 c4) o1 HO ⟨gn,0,none⟩ 1 o2 (Zy.out wl gn L7) dj.out Gg.out (by decide) (by have:=(Xq.trans hx).size; have:=Mv.out; omega) (fun v' w' h1 h2=>hK _ _ ⟨h1,h2⟩)
      case g7=>
       intro v w1 hx (q0:v 0=_) (q1:v 1=_) (q2:v 2=_) _ (q4:v 4=_) _;intro wl hT;replace hT:(fun v w1 w'=>Q1d w' w.heap.size 159 4 Q3g (v 6) (ks ++ [(x,.slice A4 n4 c4)]) /\ w1.grownBy w' (Value.slice Ao ks.length co).ownBlock) v w1 wl:=hT;intro bb hbb;subst hbb;intro K hK;go_simp;exact hK _ _ ⟨rfl,hT⟩
      case post =>
       intro v w1 hx;(iterate 3 intro (zq:v _=_));intro (q3:(fun v w'=>v 3=.slice Ao ks.length co /\ Q1d w' w.heap.size 159 4 Q3g (.slice Ao ks.length co) ks) v w1);(iterate 1 intro (zq:v _=_));intro (q5:(fun v w'=>∃ gn,v 5=.slice (some ⟨gn,0,none⟩) 1 1 /\ some gn ≠ (Value.slice Ao qs.length co).ownBlock /\ Blk w' gn 159 #[.int .i64 x1,.int .i64 x2,.int .i64 x3,.slice A4 n4 c4]) v w1);intro w2 hE;replace hE:(fun v w1 w'=>v 7=v 6 /\ Q1d w' w.heap.size 159 4 Q3g (v 6) (ks ++ [(x,.slice A4 n4 c4)]) /\ w1.grownBy w' (Value.slice Ao ks.length co).ownBlock) v w1 w2:=hE;simp only [Flow.acts,Act.put];go_simp;obtain ⟨-,YX,Ny⟩:=hE;have XX:w5.grownBy w2 (Value.slice Ao qs.length co).ownBlock:=Q8p (Xq.trans hx).1 (by rw [Y8e Ao qs.length ks.length co]; exact Ny)
       have Zg:=hid YX;have Wz:Hid (Ext w w2):=hid (Below.grown (HX.out.trans vq.out) XX Mv.out (fun b hb=>(OwnP.Q9f tZ.out b hb).1));have qj:Hid (Q0v w2 (ks ++ [((x,Value.slice A4 n4 c4):PV)])):=hid (Q0v.grown (fun z hz=>by
        rcases List.mem_append.1 hz with hz | hz
        . exact lk.out z hz
        . obtain rfl:=List.mem_singleton.1 hz
          exact Mx.out) tZ.out XX)
       have Jz:Hid ((ks ++ [((x,Value.slice A4 n4 c4):PV)]).map (·.1)=Q4x ps (k + 1)):=hid (by rw [uZ.out,<- La.out,List.map_append]; rfl)
       have K7:(ks ++ [((x,Value.slice A4 n4 c4):PV)]).length <= k + 1:=by rw [List.length_append]; simp only [List.length_singleton]; omega
       obtain ⟨vr,J6⟩:∃ z,v 6=z:=⟨_,rfl⟩;rw [J6] at Zg ⊢;clear hx Xq q3 q5 YX Ny XX J6;(repeat clear zq);go_wp2;go_roundw
       case rel=>exact ⟨k + 1,ks ++ [((x,Value.slice A4 n4 c4):PV)],by omega,K7,by go_num,Zg.out,qj.out,Jz.out,Wz.out⟩
       case measure=>simp [intOf]; omega
  . have lj:k=L:=by omega
    subst lj;go_wp2;go_ret;exact ⟨_,qs,rfl,kq.out,bw.out,by rw [Ly.out,<- A8.out,HL.out],HX.out⟩
end Go.Proofs
namespace Go.Tw
open Go.RowKit Go.Flow
def emp:ByteArray:=⟨#[]⟩
theorem X1z {α:Type} {P:Program} {K:Value -> World -> Prop} {o:Oper} {a:Act} {w:World} (s x:Operand) (t:TypeId) (ho:o.op=.call { callee:=.builtin .append,args:=#[s,x],argTypes:=#[t,t] })
    (base:Nat) (e:TypeId) (i:TypeInfo) (z:Value) (k bytes:Nat) (ht:P.underlying t=some (.slice e)) (hi:P.info? e=some i) (hz:i.zero=some z) (yx:i.size=k) (Cg:i.bytes=bytes) (Dw:z.cells.size=k) (Ak:0 < k)
    (enc:α -> List Value) (hk:∀ x,(enc x).length=k) (v:Value) (xs ys:List α) (hs:a.eval s=v) (Yq:Q1d w base e k enc v xs) (A:Option Addr) (c:Nat) (hx:a.eval x=.slice A ys.length c)
    (hA:0 < ys.length -> ∃ ad,A=some ad /\ ∀ j u,(ys.flatMap enc)[j]?=some u -> w.cell? (ad.add j)=some u) (h1:∀ u ∈ ys.flatMap enc,u.oneCell'=true)
    (o0:xs.length + ys.length <= 100000) (hb:bytes <= 1000) (Sz:base <= w.heap.size)
    (h:∀ v' w',Q1d w' base e k enc v' (xs ++ ys) -> w.grownBy w' v.ownBlock -> K v' w'):gives P K ((execOp a.eval o).run P w):=by
 rcases Nat.eq_zero_or_pos ys.length with h0 | h0
 . have e0:ys=[]:=List.eq_nil_of_length_eq_zero h0
   subst e0;obtain ⟨b,c',rfl,Kq⟩:=Yq.shape;unfold execOp;simp only [ho,resolve,invoke,builtin,Sem.run_bind,Sem.run_pure,Result.andThen_ok,List.map_toArray,List.map_cons,List.map_nil,hs,hx];rw [List.length_nil,Q5n (P:=P) w t o.type e i ht hi b A xs.length c' c Kq];exact h _ _ (by simpa using Yq) ⟨rfl,rfl,rfl,Nat.le_refl _,fun _ _ _=>rfl⟩
 . obtain ⟨ad,rfl,Xj⟩:=hA h0
   have rz:(xs.length + ys.length) * bytes <= 140737488355328:=by
    have:(xs.length + ys.length) * bytes <= 100000 * 1000:=Nat.mul_le_mul o0 hb;omega
   obtain ⟨v',w',hr,h2,h3,h4⟩:=run_append_own (P:=P) w base t o.type e i z k bytes ht hi hz yx Cg Dw Ak v xs.length (xs.flatMap enc) Yq ad ys.length c (ys.flatMap enc) (Q4c hk ys) Xj h1 (by unfold maxLen; omega) rz Sz
   unfold execOp;simp only [ho,resolve,invoke,builtin,Sem.run_bind,Sem.run_pure,Result.andThen_ok,List.map_toArray,List.map_cons,List.map_nil,hs,hx,hr];refine h v' w' ?_ h3;unfold Q1d;rw [List.length_append,List.flatMap_append];exact h2
end Go.Tw
namespace Go.Proofs
open Go.RowKit Go.Tw Go.Flow Tryz
attribute [local go_sem] Oper.semAt_some
theorem X4p (z:Array Value) (n:Nat):(Builtin.zeroCells z n).size=n * z.size:=by simp [Builtin.zeroCells]
theorem Y3m (w:World) (e:TypeId) (z:Array Value) (k n:Nat) (hz:z.size=k) (hn:n <= 100000) :
    (w.drew.alloc (.cells (Builtin.zeroCells z n ++ Builtin.zeroCells z (grownCap w n 0 e - n)) e)).ownsRow w.heap.size e k (.slice (some ⟨w.heap.size,0,none⟩) 0 (grownCap w n 0 e)) 0 []:=by
 have h1:=grownCap_ge w n 0 e;have h2:=grownCap_le_maxLen w n 0 e (by unfold maxLen; omega)
 refine ⟨by simp,.inr ⟨w.heap.size,grownCap w n 0 e,_,rfl,Nat.le_refl _,heap_alloc_new w.drew _,Nat.zero_le _,h2,?_,by simp⟩⟩
 rw [Array.size_append,X4p,X4p,hz,<- Nat.add_mul]
 congr 1
 omega
theorem Tryz.Y5q:(prog.info? 9).map (fun i=>(i.zero,i.size,i.bytes))=some (some (.string emp),1,16):=by kernel_rfl
theorem J0k (w:World) (n:Nat) (hn:n <= 100000) :
    Calls prog 225 #[.slice none 0 0,.int .i64 n] w fun e w'=>∃ b c,e=.returned (.slice b 0 c) /\ w'.ownsRow w.heap.size 9 1 (.slice b 0 c) 0 [] /\ Ext w w':=by
 rcases Nat.eq_zero_or_pos n with h0 | h0
 . subst h0
   have HO:Hid (w.ownsRow w.heap.size 9 1 (.slice none 0 0) 0 []):=hid (World.ownsRow_nil w w.heap.size 9 1);go_enter func225,ntmps225;go_wp2;go_ret;exact ⟨_,_,rfl,HO.out,Ext.refl _⟩
 obtain ⟨i0,hi,dq,fq,Zj⟩:=info_parts Y5q;have px:=Lib.run_append_nil_zeros (P:=prog) w 157 3 157 9 i0 (.string emp) .i64 .i64 underlying157 underlying3 hi dq n h0 (by rw [fq]; decide) (by omega) (by rw [Zj]; omega)
 have HR:=hid px;have HO:=hid (Y3m w 9 (.string emp:Value).cells 1 n rfl hn);have HX:Hid (Ext w (w.drew.alloc (.cells (Builtin.zeroCells (.string emp:Value).cells n ++ Builtin.zeroCells (.string emp:Value).cells (grownCap w n 0 9 - n)) 9))):=hid ((Ext.refl w).drew.alloc _);obtain ⟨gc,Q0⟩:∃ c,grownCap w n 0 9=c:=⟨_,rfl⟩;rw [Q0] at HR HO HX;obtain ⟨wz,F6⟩:∃ x,w.drew.alloc (.cells (Builtin.zeroCells (.string emp:Value).cells n ++ Builtin.zeroCells (.string emp:Value).cells (gc - n)) 9)=x:=⟨_,rfl⟩;rw [F6] at HR HO HX;clear px Q0 F6 hi dq fq Zj;have Fa:(0:Int) < n:=by omega
 have g1:¬ (n:Int) < 0:=by omega
 go_enter func225,ntmps225;go_wp2_with (at_builtin; refine Lib.wpList_append_run _ rfl _ _ _ _ rfl _ _ rfl rfl _ _ HR.out ?_);go_ret;exact ⟨_,_,rfl,HO.out,HX.out⟩
theorem Z8n (w:World) (n:Nat) (hn:n <= 100000) :
    Calls prog 232 #[.slice none 0 0,.int .i64 n] w fun e w'=>∃ b c,e=.returned (.slice b 0 c) /\ w'.ownsRow w.heap.size 159 4 (.slice b 0 c) 0 [] /\ Ext w w':=by
 rcases Nat.eq_zero_or_pos n with h0 | h0
 . subst h0
   have HO:Hid (w.ownsRow w.heap.size 159 4 (.slice none 0 0) 0 []):=hid (World.ownsRow_nil w w.heap.size 159 4);go_enter func232,ntmps232;go_wp2;go_ret;exact ⟨_,_,rfl,HO.out,Ext.refl _⟩
 obtain ⟨i0,hi,dq,fq,Zj⟩:=info_parts Y8s;have px:=Lib.run_append_nil_zeros (P:=prog) w 160 3 160 159 i0 (.agg #[.int .i64 0,.int .i64 0,.int .i64 0,.slice none 0 0]) .i64 .i64 underlying160 underlying3 hi dq n h0 (by rw [fq]; decide) (by omega) (by rw [Zj]; omega)
 have HR:=hid px;have HO:=hid (Y3m w 159 (.agg #[.int .i64 0,.int .i64 0,.int .i64 0,.slice none 0 0]:Value).cells 4 n rfl hn);have HX:Hid (Ext w (w.drew.alloc (.cells (Builtin.zeroCells (.agg #[.int .i64 0,.int .i64 0,.int .i64 0,.slice none 0 0]:Value).cells n ++ Builtin.zeroCells (.agg #[.int .i64 0,.int .i64 0,.int .i64 0,.slice none 0 0]:Value).cells (grownCap w n 0 159 - n)) 159))):=hid ((Ext.refl w).drew.alloc _);obtain ⟨gc,Q0⟩:∃ c,grownCap w n 0 159=c:=⟨_,rfl⟩;rw [Q0] at HR HO HX;obtain ⟨wz,F6⟩:∃ x,w.drew.alloc (.cells (Builtin.zeroCells (.agg #[.int .i64 0,.int .i64 0,.int .i64 0,.slice none 0 0]:Value).cells n ++ Builtin.zeroCells (.agg #[.int .i64 0,.int .i64 0,.int .i64 0,.slice none 0 0]:Value).cells (gc - n)) 159)=x:=⟨_,rfl⟩;rw [F6] at HR HO HX;clear px Q0 F6 hi dq fq Zj;have Fa:(0:Int) < n:=by omega
 have g1:¬ (n:Int) < 0:=by omega
 go_enter func232,ntmps232;go_wp2_with (at_builtin; refine Lib.wpList_append_run _ rfl _ _ _ _ rfl _ _ rfl rfl _ _ HR.out ?_);go_ret;exact ⟨_,_,rfl,HO.out,HX.out⟩
def X7w {α:Type} (l1 l2:List α) (k:Nat):List α:=if k=0 then [] else if k=1 then l1 else l1 ++ l2
theorem Q4t {α:Type} (l1 l2:List α):X7w l1 l2 1=l1:=rfl
theorem Q6m {α:Type} (l1 l2:List α):X7w l1 l2 2=l1 ++ l2:=rfl
theorem Y4h {α:Type} {w:World} {B:Nat} {e:TypeId} {enc:α -> Value} {v:Value} {l:List α} (h:Q0q w B e enc v l):Src w enc v l:=by
 obtain ⟨A,c,rfl,_,hc⟩:=h.cells;refine ⟨A,c,rfl,fun j hj=>?_⟩;obtain ⟨g,hA,_,_,Wq⟩:=hc j hj;exact ⟨g,0,hA,Wq⟩
theorem Y8v {w:World} {B n c:Nat} {A:Option Addr} {ps:List PV} (h:Q1d w B 159 4 Q3g (.slice A n c) ps):0 < ps.length -> ∃ ad,A=some ad /\ ∀ j u,(ps.flatMap Q3g)[j]?=some u -> w.cell? (ad.add j)=some u:=by
 intro h0
 rcases OwnP.cases h with ⟨_,h1⟩ | ⟨g,Qq,cur,he,_,hb,_,_,_,ht⟩
 . rw [h1] at h0; simp at h0
 . cases he
   refine ⟨_,rfl,fun j u hu=>?_⟩;rw [<- ht,List.getElem?_take] at hu
   split at hu
   . rw [addr_add,Nat.zero_add,hb.cell]
     simpa using hu
   . cases hu
theorem Y6f {w:World} {ps:List PV} (h:Q0v w ps):∀ u ∈ ps.flatMap Q3g,u.oneCell'=true:=by
 intro u hu;obtain ⟨q,hq,hu⟩:=List.mem_flatMap.1 hu;exact Z4h h hq u hu
theorem X8r (w:World) (g:Nat) (TS:TypeId) (a b:Value) (B1 B2:Nat) (l1 l2:List ByteArray) (hB:Blk w g TS #[a,b]) (ha:Q0q w B1 9 .string a l1) (hb:Q0q w B2 9 .string b l2) (hl:l1.length + l2.length <= 90000) :
    Calls prog 196 #[.slice (some ⟨g,0,none⟩) 2 2] w fun e w'=>∃ x,e=.returned x /\ Q0q w' w.heap.size 9 .string x (l1 ++ l2) /\ Ext w w':=by
 have c0:=hB.cell 0;have c1:=hB.cell 1;simp only [Go.Tw.gA,Go.Tw.gB,Go.Tw.gC] at c0 c1;have HA:=hid ha;have HB:=hid hb;obtain ⟨A,ca,hA,-⟩:=ha.shape;obtain ⟨B,cb,sZ,-⟩:=hb.shape;subst hA;subst sZ;have Pw:l1.length <= 1000000:=by omega
 have Qk:l2.length <= 1000000:=by omega
 have ik:=hid hB;clear ha hb hB;go_enter func196,ntmps196;go_wp2
 go_loopw [3,11] (fun n i wr=>∃ (k:Nat),k <= 2 /\ i=.int .i64 k /\ n=.int .i64 (((X7w l1 l2 k).length:Nat):Int) /\ wr=w) (fun _ i _=>2 - (intOf i).toNat)
 case atStart=>exact ⟨0,Nat.zero_le _,rfl,rfl,rfl⟩
 case round =>
  obtain ⟨k,hk,rfl,rfl,rfl⟩:=hrel;obtain rfl | rfl | rfl:k=0 ∨ k=1 ∨ k=2:=by omega
  . have e0:(((X7w l1 l2 0).length:Nat):Int)=0:=rfl
    rw [e0];go_wp2;go_roundw
    case rel=>exact ⟨1,by omega,rfl,by rw [Q4t]; try simp,trivial⟩
    case measure=>simp [intOf]
  . rw [Q4t]
    go_wp2;go_roundw
    case rel=>exact ⟨2,by omega,rfl,by rw [Q6m,List.length_append]; try go_num,trivial⟩
    case measure=>simp [intOf]
  . rw [Q6m,List.length_append]
    obtain ⟨W0,rfl⟩:∃ X,X=wr:=⟨_,rfl⟩;have e2:(((l1.length + l2.length:Nat)):Int)=(l1.length:Int) + l2.length:=by omega
    go_wp2_with fail;refine (J0k _ (l1.length + l2.length) (by omega)).mono ?_
    rintro e w1 ⟨bg,cg,rfl,hg,aq⟩;have HG:Hid (Q0q w1 W0.heap.size 9 .string (.slice bg 0 cg) ([]:List ByteArray)):=hid hg;have rk:=hid aq;replace c0:=aq.cell c0;replace c1:=aq.cell c1;obtain ⟨i0,hi,dq,fq,Zj⟩:=info_parts Y5q;clear hg aq e2;go_wp2
    go_loopw [6,27] (fun o i wq=>∃ (k:Nat),k <= 2 /\ i=.int .i64 k /\ Q0q wq W0.heap.size 9 .string o (X7w l1 l2 k) /\ Ext W0 wq) (fun _ i _=>2 - (intOf i).toNat)
    case atStart=>exact ⟨0,Nat.zero_le _,rfl,HG.out,rk.out⟩
    case round =>
     clear HG rk c0 c1;obtain ⟨k,hk,rfl,Yq,hx⟩:=hrel;have HX:=hid hx;have kq:=hid Yq;have c0:=(ik.out.ext hx).cell 0;have c1:=(ik.out.ext hx).cell 1;simp only [Go.Tw.gA,Go.Tw.gB,Go.Tw.gC] at c0 c1;clear Yq hx;obtain rfl | rfl | rfl:k=0 ∨ k=1 ∨ k=2:=by omega
     . go_wp2_with (refine Q2i (o:=⟨some 33,_,_,_,_,_⟩) rfl ?_; refine Q1r (.tmp 31) (.tmp 32) 157 rfl W0.heap.size 9 i0 (.string emp) 16 underlying157 hi dq fq Zj rfl .string _ _ (X7w l1 l2 0) l1 rfl kq.out rfl (Y4h (HA.out.below HX.out)) (fun _ _=>rfl) (by first | (rw [Q4t]; omega) | (show 0 + _ <= _; omega)) (by decide) HX.out.size ?_; intro v' w9 Oq Pq)
       have hx':Ext W0 w9:=Below.grown HX.out Pq (by have:=HX.out.size; omega) (fun j hj=>(kq.out.lt j hj).1)
       have HX':=hid hx';have HOW':=hid Oq;clear hx' Oq Pq;go_wp2;go_roundw
       case rel=>exact ⟨1,by omega,rfl,by rw [Q4t]; exact HOW'.out,HX'.out⟩
       case measure=>simp [intOf]
     . go_wp2_with (refine Q2i (o:=⟨some 33,_,_,_,_,_⟩) rfl ?_; refine Q1r (.tmp 31) (.tmp 32) 157 rfl W0.heap.size 9 i0 (.string emp) 16 underlying157 hi dq fq Zj rfl .string _ _ (X7w l1 l2 1) l2 rfl kq.out rfl (Y4h (HB.out.below HX.out)) (fun _ _=>rfl) (by first | (rw [Q4t]; omega) | (show 0 + _ <= _; omega)) (by decide) HX.out.size ?_; intro v' w9 Oq Pq)
       have hx':Ext W0 w9:=Below.grown HX.out Pq (by have:=HX.out.size; omega) (fun j hj=>(kq.out.lt j hj).1)
       have HX':=hid hx';have HOW':=hid Oq;clear hx' Oq Pq;go_wp2;go_roundw
       case rel=>exact ⟨2,by omega,rfl,by rw [Q6m]; exact HOW'.out,HX'.out⟩
       case measure=>simp [intOf]
     . go_wp2
       go_ret;exact ⟨_,rfl,by rw [<- Q6m]; exact kq.out,HX.out⟩
theorem Z0l (w:World) (g:Nat) (TS:TypeId) (a b:Value) (B1 B2:Nat) (l1 l2:List PV) (hB:Blk w g TS #[a,b]) (ha:Q1d w B1 159 4 Q3g a l1) (hb:Q1d w B2 159 4 Q3g b l2) (h1:∀ u ∈ l1.flatMap Q3g,u.oneCell'=true) (h2:∀ u ∈ l2.flatMap Q3g,u.oneCell'=true) (hl:l1.length + l2.length <= 90000) :
    Calls prog 199 #[.slice (some ⟨g,0,none⟩) 2 2] w fun e w'=>∃ x,e=.returned x /\ Q1d w' w.heap.size 159 4 Q3g x (l1 ++ l2) /\ Ext w w':=by
 have c0:=hB.cell 0;have c1:=hB.cell 1;simp only [Go.Tw.gA,Go.Tw.gB,Go.Tw.gC] at c0 c1;have HA:=hid ha;have HB:=hid hb;obtain ⟨A,ca,hA,-⟩:=ha.shape;obtain ⟨B,cb,sZ,-⟩:=hb.shape;subst hA;subst sZ;have Pw:l1.length <= 1000000:=by omega
 have Qk:l2.length <= 1000000:=by omega
 have ik:=hid hB;have pj:=hid h1;have qj:=hid h2;clear h1 h2;clear ha hb hB;go_enter func199,ntmps199;go_wp2
 go_loopw [3,11] (fun n i wr=>∃ (k:Nat),k <= 2 /\ i=.int .i64 k /\ n=.int .i64 (((X7w l1 l2 k).length:Nat):Int) /\ wr=w) (fun _ i _=>2 - (intOf i).toNat)
 case atStart=>exact ⟨0,Nat.zero_le _,rfl,rfl,rfl⟩
 case round =>
  obtain ⟨k,hk,rfl,rfl,rfl⟩:=hrel;obtain rfl | rfl | rfl:k=0 ∨ k=1 ∨ k=2:=by omega
  . have e0:(((X7w l1 l2 0).length:Nat):Int)=0:=rfl
    rw [e0];go_wp2;go_roundw
    case rel=>exact ⟨1,by omega,rfl,by rw [Q4t]; try simp,trivial⟩
    case measure=>simp [intOf]
  . rw [Q4t]
    go_wp2;go_roundw
    case rel=>exact ⟨2,by omega,rfl,by rw [Q6m,List.length_append]; try go_num,trivial⟩
    case measure=>simp [intOf]
  . rw [Q6m,List.length_append]
    obtain ⟨W0,rfl⟩:∃ X,X=wr:=⟨_,rfl⟩;have e2:(((l1.length + l2.length:Nat)):Int)=(l1.length:Int) + l2.length:=by omega
    go_wp2_with fail;refine (Z8n _ (l1.length + l2.length) (by omega)).mono ?_
    rintro e w1 ⟨bg,cg,rfl,hg,aq⟩;have HG:Hid (Q1d w1 W0.heap.size 159 4 Q3g (.slice bg 0 cg) ([]:List PV)):=hid hg;have rk:=hid aq;replace c0:=aq.cell c0;replace c1:=aq.cell c1;obtain ⟨i0,hi,dq,fq,Zj⟩:=info_parts Y8s;clear hg aq e2;go_wp2
    go_loopw [6,27] (fun o i wq=>∃ (k:Nat),k <= 2 /\ i=.int .i64 k /\ Q1d wq W0.heap.size 159 4 Q3g o (X7w l1 l2 k) /\ Ext W0 wq) (fun _ i _=>2 - (intOf i).toNat)
    case atStart=>exact ⟨0,Nat.zero_le _,rfl,HG.out,rk.out⟩
    case round =>
     clear HG rk c0 c1;obtain ⟨k,hk,rfl,Yq,hx⟩:=hrel;have HX:=hid hx;have kq:=hid Yq;have c0:=(ik.out.ext hx).cell 0;have c1:=(ik.out.ext hx).cell 1;simp only [Go.Tw.gA,Go.Tw.gB,Go.Tw.gC] at c0 c1;clear Yq hx;obtain rfl | rfl | rfl:k=0 ∨ k=1 ∨ k=2:=by omega
     . go_wp2_with (refine Q2i (o:=⟨some 33,_,_,_,_,_⟩) rfl ?_; refine X1z (.tmp 31) (.tmp 32) 160 rfl W0.heap.size 159 i0 (.agg #[.int .i64 0,.int .i64 0,.int .i64 0,.slice none 0 0]) 4 48 underlying160 hi dq fq Zj rfl (by decide) Q3g Q4o _ (X7w l1 l2 0) l1 rfl kq.out A ca rfl (Y8v (HA.out.below HX.out)) pj.out (by first | (rw [Q4t]; omega) | (show 0 + _ <= _; omega)) (by decide) HX.out.size ?_; intro v' w9 Oq Pq)
       have hx':Ext W0 w9:=Below.grown HX.out Pq (by have:=HX.out.size; omega) (fun j hj=>(kq.out.lt j hj).1)
       have HX':=hid hx';have HOW':=hid Oq;clear hx' Oq Pq;go_wp2;go_roundw
       case rel=>exact ⟨1,by omega,rfl,by rw [Q4t]; exact HOW'.out,HX'.out⟩
       case measure=>simp [intOf]
     . go_wp2_with (refine Q2i (o:=⟨some 33,_,_,_,_,_⟩) rfl ?_; refine X1z (.tmp 31) (.tmp 32) 160 rfl W0.heap.size 159 i0 (.agg #[.int .i64 0,.int .i64 0,.int .i64 0,.slice none 0 0]) 4 48 underlying160 hi dq fq Zj rfl (by decide) Q3g Q4o _ (X7w l1 l2 1) l2 rfl kq.out B cb rfl (Y8v (HB.out.below HX.out)) qj.out (by first | (rw [Q4t]; omega) | (show 0 + _ <= _; omega)) (by decide) HX.out.size ?_; intro v' w9 Oq Pq)
       have hx':Ext W0 w9:=Below.grown HX.out Pq (by have:=HX.out.size; omega) (fun j hj=>(kq.out.lt j hj).1)
       have HX':=hid hx';have HOW':=hid Oq;clear hx' Oq Pq;go_wp2;go_roundw
       case rel=>exact ⟨2,by omega,rfl,by rw [Q6m]; exact HOW'.out,HX'.out⟩
       case measure=>simp [intOf]
     . go_wp2
       go_ret;exact ⟨_,rfl,by rw [<- Q6m]; exact kq.out,HX.out⟩
end Go.Proofs
namespace Go.Proofs
open Go.Lib
def parts (c:UInt8):List UInt8 -> List (List UInt8)
 | []=>[[]]
 | b :: l=>if b=c then [] :: parts c l else match parts c l with
   | []=>[[b]]
   | x :: r=>(b :: x) :: r
def glue (c:UInt8):List (List UInt8) -> List UInt8
 | []=>[]
 | [x]=>x
 | x :: y :: r=>x ++ c :: glue c (y :: r)
end Go.Proofs
namespace Go.Proofs
open Go.Tw
def textOf (ls:List (List UInt8)):List UInt8:=(ls.map (· ++ [10])).flatten
def J9n (x:Int):UInt8:=UInt8.ofNat (48 + x.toNat)
def J9y:List UInt8:=[111,112,101,110]
def J8x:List UInt8:=[99,108,111,115,101]
def J8n (c:Bool):List UInt8:=if c then J8x else J9y
def Y9g (r:Rul):List (List UInt8):=r.classes.map (fun x=>[J9n x]) ++ [J8n r.close]
def X1a (r:Rul):List UInt8:=glue 32 (Y9g r)
def Y4q (p:List Rul):List UInt8:=textOf (p.map X1a)
def Q6p (r:Rul):Int:=if r.classes.length=0 then 12 else if 6 < r.classes.length then 5 else Q0z r.classes 9
def Q7t (p:List Rul):Int:=if 48 < p.length then 5 else Q0o (p.map Q6p)
def J4i (p:List Rul):ByteArray:=⟨(Y4q p).toArray⟩
end Go.Proofs
namespace Go.Proofs
open Go.RowKit Go.Tw Go.Flow Tryz
attribute [local go_sem] Oper.semAt_some
def Q4w (x:Int):ByteArray:=⟨(Lib.decDigits x.toNat).toArray⟩
theorem Z9m (w:World) (x:Int) (h0:0 <= x) (h1:x < 100):Calls prog 147 #[.int .i64 x] w fun e w'=>e=.returned (.string (Q4w x)) /\ w'=w:=by
 obtain ⟨n,rfl⟩:∃ n:Nat,x=n:=⟨x.toNat,by omega⟩
 exact Tryz.strconv_Itoa_small n (by omega) w
theorem Z9e (l:List Int) {k:Nat} (hk:k < l.length):(l.map Q4w).take k ++ [Q4w (ix l k)]=(l.map Q4w).take (k + 1):=by
 rw [List.take_succ_eq_append_getElem (by simpa using hk),Q5g hk]
 simp
theorem Y0t (w:World) (v:Value) (l:List Int) (hv:Q0g w v l) (Uv:l.length <= 4096) (hm:∀ x ∈ l,0 <= x /\ x < 100) :
    Calls prog 146 #[v,.func (.func 147) #[] #[]] w fun e w'=>∃ x,e=.returned x /\ Q0q w' w.heap.size 9 .string x (l.map Q4w) /\ Ext w w':=by
 obtain ⟨i0,hi,dq,fq,Zj⟩:=info_parts Y5q;obtain ⟨A,Qq,rfl,hl,Kq,hc⟩:=hv.opened;have HC:=hid hc;have HM:=hid hm;clear hv hc hm;go_enter func146,ntmps146;go_wp2
 go_loopw [5,10] (fun o i wr=>∃ (k:Nat),k <= l.length /\ i=.int .i64 k /\ Q0q wr w.heap.size 9 .string o ((l.map Q4w).take k) /\ Ext w wr) (fun _ i _=>l.length - (intOf i).toNat)
 case atStart=>exact ⟨0,Nat.zero_le _,rfl,Q0q.nil _ _ _ _,Ext.refl _⟩
 case round =>
  obtain ⟨k,hk,rfl,Yq,hx⟩:=hrel;have Dq:((l.map Q4w).take k).length=k:=by rw [List.length_take,List.length_map]; omega
  by_cases Uq:k < l.length
  . obtain ⟨b,off,rfl,Wq⟩:=HC.out k Uq
    have az:=hid (Z9e l Uq);have iy:=HM.out (ix l k) (by rw [Q5g Uq]; exact List.getElem_mem Uq)
    obtain ⟨s,hs⟩:∃ s,ix l k=s:=⟨_,rfl⟩;rw [hs] at Wq iy az;have E6:=hid iy;replace Wq:=hx.cell Wq;have Bw:((l.map Q4w).take k).length <= 4096:=by omega
    obtain ⟨is,CQ⟩:∃ x,Q4w s=x:=⟨_,rfl⟩;rw [CQ] at az;have Bm:Hid (∀ w,Calls prog 147 #[.int .i64 s] w fun e w'=>e=.returned (.string is) /\ w'=w):=hid (fun w=>by rw [<- CQ]; exact Z9m w s E6.out.1 E6.out.2)
    clear hs iy Dq CQ;go_wp2_with (first | (go_at_call 147; refine (Bm.out _).mono ?_; rintro e w9 ⟨rfl,rfl⟩) | (at_builtin; refine wpList_append_own _ rfl _ _ 157 rfl (w.heap.size) 9 i0 (.string emp) 1 16 underlying157 hi dq fq Zj rfl (by decide) _ _ _ rfl (World.ownsRow.alloc Yq _) ⟨w9.heap.size,0,none⟩ 1 1 [.string is] rfl rfl ?_ ?_ ?_ ?_ ?_ ?_; exact Q5y _ _ _; (focus (simp [Value.oneCell'])); (focus (unfold maxLen; omega)); (focus omega); (focus (have:=hx.size; simp at this ⊢; omega)); intro v' w1 Oq Pq _))
    have hx':=Q3r hx Yq (Nat.le_refl _) Pq;go_wp2;go_roundw
    case rel=>exact ⟨k + 1,by omega,by go_num,by rw [<- az.out]; exact Q0q.snoc Oq,hx'⟩
    case measure=>simp [intOf]; omega
  . have HE:Hid ((l.map Q4w).take k=l.map Q4w):=hid (by rw [List.take_of_length_le (by rw [List.length_map]; omega)])
    rw [HE.out] at Yq;have Rz:=hid Yq;clear Yq Dq;go_wp2;go_ret;exact ⟨_,rfl,Rz.out,hx⟩
def X9o (xs:List ByteArray) (sep:ByteArray):ByteArray:=⟨(Lib.join (xs.map (·.data.toList)) sep.data.toList).toArray⟩
def spS:ByteArray:=⟨#[32]⟩
def nlS:ByteArray:=⟨#[10]⟩
theorem Z2l {B:Nat}:∀ {xs:List ByteArray},(∀ x ∈ xs,x.size <= B) -> Lib.lens (xs.map (·.data.toList)) <= B * xs.length
 | [],_=>by simp [Lib.lens]
 | x :: xs,h=>by
   have h1:=Z2l (xs:=xs) fun y hy=>h y (List.mem_cons_of_mem _ hy);have h2:=h x (List.mem_cons_self ..);have h3:x.data.toList.length=x.size:=Array.length_toList;simp only [Lib.lens,List.map_cons,List.sum_cons,List.length_cons,Nat.mul_succ] at h1 ⊢;omega
theorem X6k {x:Int} (h0:0 <= x) (h1:x < 100):(Q4w x).size <= 2:=by
 have h:(Q4w x).size=(Lib.decDigits x.toNat).length:=by simp [Q4w,ByteArray.size]
 rw [h,Lib.decDigits_length];have h2:x.toNat < 100:=by omega
 rw [Lib.nDigits]
 split
 . omega
 . rw [Lib.nDigits,dif_pos (by omega)]
   omega
theorem Z3z (w:World) (base:Nat) (v:Value) (xs:List ByteArray) (sep:ByteArray) (hv:Q0q w base 9 .string v xs) (hl:xs.length <= 4096) (hne:xs ≠ []) (hs:∀ x ∈ xs,x.size <= 5000000) (BQ:sep.size <= 16) :
    Calls prog 149 #[v,.string sep] w fun e w'=>e=.returned (.string (X9o xs sep)) /\ Ext w w':=by
 rcases hv.cells2 with ⟨_,h⟩ | ⟨g,c,rfl,Kq,hb,hg,hc⟩
 . exact absurd h hne
 . refine Tryz.strings_Join g 0 c xs sep w (fun j x hx=>?_) hg (by omega) Kq ?_
   . obtain ⟨hj,rfl⟩:=List.getElem?_eq_some_iff.1 hx
     exact hc j hj
   . cases xs with
     | nil=>exact absurd rfl hne
     | cons x r =>
       have h1:=Z2l hs;have h2:sep.data.toList.length=sep.size:=Array.length_toList;have h4:sep.size * r.length <= 16 * 4096:=Nat.mul_le_mul BQ (by rw [List.length_cons] at hl; omega)
       have h5:5000000 * (x :: r).length <= 5000000 * 4096:=Nat.mul_le_mul_left _ hl;rw [List.map_cons,Lib.join_length,List.length_map,h2];rw [List.map_cons] at h1;omega
theorem Z5k {xs:List ByteArray} {sep:ByteArray} {B:Nat} (hl:xs.length <= 4096) (hs:∀ x ∈ xs,x.size <= B) (BQ:sep.size <= 16):(X9o xs sep).size <= 65536 + B * 4096:=by
 have h0:(X9o xs sep).size=(Lib.join (xs.map (·.data.toList)) sep.data.toList).length:=by simp [X9o,ByteArray.size]
 rw [h0];cases xs with
 | nil=>simp [Lib.join_nil]
 | cons x r =>
   have h1:=Z2l hs;have h2:sep.data.toList.length=sep.size:=Array.length_toList;have h4:sep.size * r.length <= 16 * 4096:=Nat.mul_le_mul BQ (by rw [List.length_cons] at hl; omega)
   have h5:B * (x :: r).length <= B * 4096:=Nat.mul_le_mul_left _ hl;rw [List.map_cons,Lib.join_length,List.length_map,h2];rw [List.map_cons] at h1;omega
theorem Z5e (r:Rul):Q6p r=Q0o [Q0s (decide (r.classes.length=0)) 12,Q0s (decide (6 < r.classes.length)) 5,Q0o (r.classes.map fun x=>Q0j x 0 9)]:=by
 unfold Q6p Q0s Q0z;simp only [Q0p]
 by_cases h0:r.classes.length=0
 . simp [h0]
 . by_cases h6:6 < r.classes.length
   . simp [h0,h6]
   . obtain ⟨x,hx⟩:∃ x,Q0o (r.classes.map fun x=>Q0j x 0 9)=x:=⟨_,rfl⟩
     rw [hx]
     by_cases he:x=0
     . simp [h0,h6,he,Q0o]
     . simp [h0,h6,he]
def Y8b (p:List Rul) (k:Nat):Int:=Q6p (p.getD k default)
theorem Y9l {p:List Rul} {k:Nat} (hk:k < p.length):Q0o ((p.drop k).map Q6p)=if Y8b p k=0 then Q0o ((p.drop (k + 1)).map Q6p) else Y8b p k:=by
 rw [List.drop_eq_getElem_cons hk,List.map_cons,Q0p,Y8b,Q0u _ hk]
theorem Y1g (w:World) (v:Value) (p:List Rul) (hv:Q0l w v p) (hr:∀ r ∈ p,r.classes.length <= 4096) :
    Calls prog 145 #[v] w fun e w'=>e=.returned (.int .i64 (Q7t p)) /\ Ext w w':=by
 obtain ⟨a,rfl,h2⟩:=hv;obtain ⟨A,Qq,rfl,hl,Kq,hc⟩:=h2.opened;have HC:=hid hc;have HR:=hid hr;clear h2 hc hr;go_enter func145,ntmps145;have rZ:Hid (Q7t p=if 48 < p.length then 5 else Q0o (p.map Q6p)):=hid rfl
 obtain ⟨n,hn⟩:∃ n,p.length=n:=⟨_,rfl⟩;have HN:=hid hn;rw [hn] at rZ hl HC ⊢;clear hn
 by_cases qZ:48 < n
 . rw [if_pos qZ] at rZ
   have hI:(48:Int) < n:=by omega
   rw [rZ.out];go_wp2;go_ret;exact ⟨rfl,Ext.box _ _⟩
 . rw [if_neg qZ] at rZ
   have hI:¬ (48:Int) < n:=by omega
   rw [rZ.out];go_wp2;obtain ⟨W,Mq,k0,Rq,eW⟩:=Q2q w 38 #[.slice A n Qq];rw [Mq];clear Mq;clear k0
   go_loopw [13] (fun i wr=>∃ k:Nat,k <= n /\ i=.int .i64 k /\ Q0o ((p.drop k).map Q6p)=Q0o (p.map Q6p) /\ Ext w wr) (fun i _=>n - (intOf i).toNat)
   case atStart=>exact ⟨0,Nat.zero_le _,rfl,rfl,Rq.out⟩
   case round =>
    obtain ⟨k,hk,rfl,UY,Ej⟩:=hrel
    by_cases Uq:k < n
    . have zj:(k:Int) < n:=by omega
      obtain ⟨b,off,x,rfl,hb,e0,e1,hi⟩:=HC.out k Uq;replace e0:=Ej.cell e0;replace e1:=Ej.cell e1;obtain ⟨X,Sq,rfl,-,-,-⟩:=hi.opened;have hcl:(Q0m p k).length <= 4096:=by
       unfold Q0m; rw [Q0u _ (by rw [HN.out]; exact Uq)]; exact HR.out _ (List.getElem_mem _)
      have D4:=Y9l (p:=p) (k:=k) (by rw [HN.out]; exact Uq)
      have Zz:=Z5e (p.getD k default);change Y8b p k=Q0o [Q0s (decide ((Q0m p k).length=0)) 12,Q0s (decide (6 < (Q0m p k).length)) 5,Q0o ((Q0m p k).map fun x=>Q0j x 0 9)] at Zz;rw [UY] at D4;have HI:=hid (hi.ext Ej);have Jg:=hid Ej;obtain ⟨cs,Dk⟩:∃ c,Q0m p k=c:=⟨_,rfl⟩;obtain ⟨cb,Kj⟩:∃ c,Q2h p k=c:=⟨_,rfl⟩;obtain ⟨re,pZ⟩:∃ c,Y8b p k=c:=⟨_,rfl⟩;obtain ⟨fe,oZ⟩:∃ c,Q0o (p.map Q6p)=c:=⟨_,rfl⟩;rw [Dk] at e0 hcl Zz HI;rw [Kj] at e1;rw [pZ] at Zz D4;rw [oZ] at D4;have Lv:=hid oZ;have sx:=hid Zz;have Of:=hid D4;clear UY Dk Kj pZ hi Zz D4 Ej;obtain ⟨wq,rfl⟩:∃ X,X=wr:=⟨_,rfl⟩;go_wp2_with fail;obtain ⟨W,Mq,k0,Rq,eW⟩:=Q2q wq 167 #[.slice X cs.length Sq,.bool cb];rw [Mq];clear Mq;obtain ⟨gr,Qw⟩:∃ x,wq.heap.size=x:=⟨_,rfl⟩;rw [Qw] at k0 ⊢;obtain ⟨w3,rfl⟩:∃ x,x=W:=⟨_,rfl⟩;have yj:Ext wq w3:=Rq.out;have O1:=hid k0;have TY:=hid (HI.out.ext yj);have Lg:=hid (Jg.out.trans yj);have Xq:=(Ext.refl w3).drew;obtain ⟨L,hL⟩:∃ L,cs.length=L:=⟨_,rfl⟩;have Nv:=TY.out;rw [hL] at Nv;have zm:=hid Nv;obtain ⟨fe9,AQ⟩:∃ x,Q0o (cs.map fun x=>Q0j x 0 9)=x:=⟨_,rfl⟩
      obtain ⟨z0,dq⟩:∃ x,decide (cs.length=0)=x:=⟨_,rfl⟩;obtain ⟨z6,Ea⟩:∃ x,decide (6 < cs.length)=x:=⟨_,rfl⟩;have Zz:=sx.out;rw [dq,Ea,AQ] at Zz;have KG:Hid (((L:Int) == 0)=z0):=hid (by rw [<- dq,hL]; cases L <;> simp; omega)
      have ym:Hid (decide ((6:Int) < L)=z6):=hid (by rw [<- Ea,hL]; simp; omega)
      have xm:=hid AQ;rw [hL] at O1 ⊢;have y8:=hid (fun (W:World) (u:Value) (h:Q0g W u [Q0s z0 12,Q0s z6 5,fe9])=>first_any W u _ h);rw [<- Zz] at y8;clear k0 yj Qw e0 e1 Rq hL Nv AQ dq Ea Zz;refine Flow.Q1h [.p,.w,.p,.p,.w,.p,.w,.p,.p,.w,.p,.w,.w,.w,.w,.w,.p] [0,1,2,3,4,5,6,7,8,9,10,11,12,13,14,15,16] [[],[0],[1],[2],[3],[],[5],[6],[7],[4,8],[],[10],[9,11],[12],[4,9,13],[13,14],[0,1,2,3,4,5,6,7,8,9,10,11,12,13,14,15]]
       [.c 0 (.pointer (some ⟨gr,0,none⟩)),.c 1 (.slice X L Sq),.c 2 (.int .i64 ((L:Nat):Int)),.c 3 (.bool (z0)),.c 4 (.int .i64 (Q0s (z0) 12)),.c 5 (.pointer (some ⟨gr,0,none⟩)),.c 6 (.slice X L Sq),.c 7 (.int .i64 ((L:Nat):Int)),.c 8 (.bool (z6)),.c 9 (.int .i64 (Q0s (z6) 5)),.c 10 (.pointer (some ⟨gr,0,none⟩)),.c 11 (.slice X L Sq),⟨fun v wz=>(fun v w'=>Q0g w' (v 12) (cs.map fun x=>Q0j x 0 9)) v wz,by intro v a b hx h; exact Q0g.ext h hx⟩,.c 13 (.int .i64 (fe9)),⟨fun v wz=>(fun v w'=>Q0g w' (v 14) [Q0s (z0) 12,Q0s (z6) 5,fe9]) v wz,by intro v a b hx h; exact Q0g.ext h hx⟩,.c 15 (.int .i64 re),.c 16 (.int .i64 re)]
       (by kernel_rfl) rfl (by kernel_rfl) ⟨?g0,?g1,?g2,?g3,?g4,?g5,?g6,?g7,?g8,?g9,?g10,?g11,?g12,?g13,?g14,?g15,?g16,trivial⟩ ?post
      case g0 | g5 | g10=>
       intro v w1 hx;intro bb hbb;subst hbb;refine ⟨_,fun w=>?_,rfl⟩;go_simp
      case g1 | g6 | g11=>
       intro v w1 hx;(repeat intro (zq:v _=_));intro bb hbb;subst hbb;have n0:w1.cell? ⟨gr,0,none⟩=some (.slice X L Sq):=(O1.out.ext (Xq.trans hx)).cell 0;intro K hK;go_simp;exact hK _ _ (Ext.refl _) rfl
      case g2 | g7=>
       intro v w1 hx;(repeat intro (zq:v _=_));intro bb hbb;subst hbb;refine ⟨_,fun w=>?_,rfl⟩;go_simp
      case g3=>
       intro v w1 hx;(repeat intro (zq:v _=_));intro bb hbb;subst hbb;refine ⟨.bool z0,fun w=>?_,rfl⟩;go_simp;exact KG.out
      case g4=>
       intro v w1 hx;(repeat intro (zq:v _=_));intro bb hbb;subst hbb;intro K hK;go_simp;refine Q0e (Q4u w1 (z0) 12) ?_;rintro e w2 ⟨rfl,rfl⟩;exact ⟨_,rfl,hK _ _ (Ext.refl _) rfl⟩
      case g8=>
       intro v w1 hx;(repeat intro (zq:v _=_));intro bb hbb;subst hbb;refine ⟨.bool z6,fun w=>?_,rfl⟩;go_simp;exact ym.out
      case g9=>
       intro v w1 hx;(repeat intro (zq:v _=_));intro bb hbb;subst hbb;intro K hK;go_simp;refine Q0e (Q4u w1 (z6) 5) ?_;rintro e w2 ⟨rfl,rfl⟩;exact ⟨_,rfl,hK _ _ (Ext.refl _) rfl⟩
      case g12=>
       intro v w1 hx;(repeat intro (zq:v _=_));intro bb hbb;subst hbb;intro K hK;go_simp;refine Q0e (Q9j w1 _ cs (zm.out.ext (Xq.trans hx)) hcl) ?_;rintro e w2 ⟨x,rfl,h1,Nq⟩;exact ⟨_,rfl,hK _ _ Nq h1⟩
      case g13=>
       intro v w1 hx (q12:(fun v w'=>Q0g w' (v 12) (cs.map fun x=>Q0j x 0 9)) v w1);intro bb hbb;subst hbb;intro K hK;go_simp;refine Q0e ((xm.out ▸ first_any w1 _ _ q12)) ?_;rintro e w2 ⟨rfl,rfl⟩;exact ⟨_,rfl,hK _ _ (Ext.refl _) rfl⟩
      case g14=>
       intro v w1 hx;(repeat intro (zq:v _=_));intro bb hbb;subst hbb;intro K hK;go_simp;exact hK _ _ (Ext.box _ _) (Q3d (l:=[Q0s (z0) 12,Q0s (z6) 5,fe9]) (by simp))
      case g15=>
       intro v w1 hx (q13:v 13=_) (q14:(fun v w'=>Q0g w' (v 14) [Q0s (z0) 12,Q0s (z6) 5,fe9]) v w1);intro bb hbb;subst hbb;intro K hK;go_simp;refine Q0e (y8.out w1 _ q14) ?_;rintro e w2 ⟨rfl,rfl⟩;exact ⟨_,rfl,hK _ _ (Ext.refl _) rfl⟩
      case g16=>
       intro v w1 hx (q0:v 0=_) (q1:v 1=_) (q2:v 2=_) (q3:v 3=_) (q4:v 4=_) (q5:v 5=_) (q6:v 6=_) (q7:v 7=_) (q8:v 8=_) (q9:v 9=_) (q10:v 10=_) (q11:v 11=_) _ (q13:v 13=_) _ (q15:v 15=_);intro bb hbb;subst hbb;refine ⟨_,fun w=>?_,rfl⟩;go_simp
      case post =>
       intro v w1 hx;(iterate 12 intro (zq:v _=_));intro (q12:(fun v w'=>Q0g w' (v 12) (cs.map fun x=>Q0j x 0 9)) v w1);(iterate 1 intro (zq:v _=_));intro (q14:(fun v w'=>Q0g w' (v 14) [Q0s (z0) 12,Q0s (z6) 5,fe9]) v w1);(iterate 2 intro (zq:v _=_));simp only [Flow.All,Flow.acts,Act.put];go_simp;have bj:=hid (Lg.out.trans (Xq.trans hx));clear hx Xq q12 q14;(repeat clear zq)
       by_cases Nw:re=0
       . have um:(re != 0)=false:=by simp [Nw]
         have hd:=Of.out;rw [if_pos Nw] at hd;clear Nw;go_wp2;go_roundw
         case rel=>exact ⟨k + 1,by omega,by go_num,by rw [<- hd]; exact Lv.out.symm,bj.out⟩
         case measure=>simp [intOf]; omega
       . have um:(re != 0)=true:=by simp [Nw]
         have hd:=Of.out;rw [if_neg Nw] at hd;have HD:=hid hd;clear Nw hd;go_wp2;go_ret;exact ⟨by rw [<- Lv.out.symm,HD.out]; rfl,bj.out⟩
    . have zj:¬ (k:Int) < n:=by omega
      have rj:k=n:=by omega
      have hz:Q0o (p.map Q6p)=0:=by rw [<- UY,rj,List.drop_eq_nil_of_le (by rw [HN.out]; omega)]; rfl
      have HZ:=hid hz;clear UY hz;go_wp2;go_ret;exact ⟨by rw [HZ.out]; rfl,Ej⟩
def Words (w:World):Prop:=w.cell? ⟨0,0,none⟩=some (.string ⟨#[111,112,101,110]⟩) /\ w.cell? ⟨0,1,none⟩=some (.string ⟨#[99,108,111,115,101]⟩)
theorem Words.ext {w w':World} (h:Words w) (hx:Ext w w'):Words w':=⟨hx.cell h.1,hx.cell h.2⟩
def X5s (c:Bool):ByteArray:=⟨(J8n c).toArray⟩
def Z8x (l:List Int) (c:Bool):ByteArray:=X9o (l.map Q4w ++ [X5s c]) spS ++ nlS
theorem Y8a (c:UInt8):∀ l:List (List UInt8),Lib.join l [c]=glue c l
 | []=>rfl
 | [x]=>Lib.join_one x [c]
 | x :: y :: r=>by
   have ih:=Y8a c (y :: r);rw [Lib.join_cons] at ih ⊢;show x ++ (([c] ++ y) ++ Lib.joinTail [c] r)=x ++ c :: glue c (y :: r);rw [<- ih];simp
theorem J3b {x:Int} (h0:0 <= x) (h9:x <= 9):(Q4w x).data.toList=[J9n x]:=by
 obtain ⟨n,rfl⟩:∃ n:Nat,x=n:=⟨x.toNat,by omega⟩
 have hn:n < 10:=by omega
 have key:∀ n:Nat,n < 10 -> (Q4w (n:Int)).data.toList=[J9n (n:Int)]:=by
  intro n hn;show (Lib.decDigits ((n:Int).toNat)).toArray.toList=_;rw [List.toList_toArray,Int.toNat_natCast,Lib.decDigits];simp [hn,J9n]
 exact key n hn
theorem line_text {r:Rul} (hd:∀ x ∈ r.classes,0 <= x /\ x <= 9):(Z8x r.classes r.close).data.toList=X1a r ++ [10]:=by
 have e:(X9o (r.classes.map Q4w ++ [X5s r.close]) spS).data.toList=X1a r:=by
  show (Lib.join ((r.classes.map Q4w ++ [X5s r.close]).map (·.data.toList)) [32]).toArray.toList=_;rw [List.toList_toArray,Y8a];unfold X1a Y9g
  congr 1
  rw [List.map_append,List.map_map]
  congr 1
  exact List.map_congr_left fun x hx=>J3b (hd x hx).1 (hd x hx).2
 unfold Z8x;rw [ByteArray.data_append,Array.toList_append,e];rfl
def Q8x (p:List Rul) (k:Nat):List UInt8:=textOf ((p.take k).map X1a)
theorem Z0z {p:List Rul} {k:Nat} (hk:k < p.length):Q8x p (k + 1)=Q8x p k ++ (X1a (p.getD k default) ++ [10]):=by
 unfold Q8x textOf;rw [List.take_succ_eq_append_getElem hk,Q0u _ hk,List.map_append,List.map_append,List.flatten_append];simp only [List.map_cons,List.map_nil,List.flatten_cons,List.flatten_nil,List.append_nil]
theorem Z7c (p:List Rul):Q8x p p.length=Y4q p:=by unfold Q8x Y4q; rw [List.take_length]
structure J9p (r:Rul):Prop where
 len:r.classes.length <= 6
 dig:∀ x ∈ r.classes,0 <= x /\ x <= 9
theorem Q5x {l:List Int} {m:Int} (h:Q0z l m=0):∀ x ∈ l,0 <= x /\ x <= m:=by
 unfold Q0z at h
 induction l with
 | nil=>intro x hx; cases hx
 | cons y l ih =>
   rw [List.map_cons,Q0p] at h
   by_cases hy:Q0j y 0 m=0
   . rw [if_pos hy] at h
     intro x hx
     rcases List.mem_cons.1 hx with rfl | hx
     . unfold Q0j at hy
       by_cases hc:x < 0 ∨ m < x
       . rw [if_pos hc] at hy; cases hy
       . omega
     . exact ih h x hx
   . rw [if_neg hy] at h; exact absurd h hy
theorem Y7v {l:List Int} (h:Q0o l=0):∀ x ∈ l,x=0:=by
 induction l with
 | nil=>intro x hx; cases hx
 | cons y l ih =>
   rw [Q0p] at h
   by_cases hy:y=0
   . rw [if_pos hy] at h
     intro x hx
     rcases List.mem_cons.1 hx with rfl | hx
     . exact hy
     . exact ih h x hx
   . rw [if_neg hy] at h; exact absurd h hy
theorem Y8g {p:List Rul} (h:Q7t p=0):p.length <= 48 /\ ∀ r ∈ p,J9p r:=by
 unfold Q7t at h
 by_cases qZ:48 < p.length
 . rw [if_pos qZ] at h; cases h
 . rw [if_neg qZ] at h
   refine ⟨by omega,fun r hr=>?_⟩
   have h1:=Y7v h _ (List.mem_map_of_mem hr);unfold Q6p at h1
   by_cases h0:r.classes.length=0
   . rw [if_pos h0] at h1; cases h1
   . rw [if_neg h0] at h1
     by_cases h6:6 < r.classes.length
     . rw [if_pos h6] at h1; cases h1
     . rw [if_neg h6] at h1
       exact ⟨by omega,Q5x h1⟩
theorem Z6g {l:List Int} {c:Bool} (hl:l.length <= 6) (hd:∀ x ∈ l,0 <= x /\ x <= 9):(X9o (l.map Q4w ++ [X5s c]) spS).size <= 5000000:=by
 have h:=Z5k (xs:=l.map Q4w ++ [X5s c]) (sep:=spS) (B:=8) (by simp; omega) (fun x hx=>by
  rcases List.mem_append.1 hx with hx | hx
  . obtain ⟨y,hy,rfl⟩:=List.mem_map.1 hx
    have h1:=hd y hy;have:=X6k h1.1 (by omega:y < 100)
    omega
  . rw [List.mem_singleton.1 hx]; cases c <;> decide) (by decide)
 omega
theorem X7h {w w':World} {base n size B:Nat} {e:TypeId} {v:Value} {xs:List Value} {o:Obj} (Yq:w.ownsRow base e size v n xs) (hg:(w.alloc o).grownBy w' v.ownBlock) (hb:B <= base) (hB:B <= w.heap.size):Below B w w' :=
 Below.grown ((Below.refl B w).alloc hB o) hg (by simp; omega) (fun k hk=>Nat.le_trans hb (Yq.lt k hk).1)
def Z4d (p:List Rul):ByteArray:=if Q7t p=0 then J4i p else emp
theorem Z6c (w:World) (v:Value) (p:List Rul) (hv:Q0l w v p) (hr:∀ r ∈ p,r.classes.length <= 4096) (hW:Words w) :
    Calls prog 81 #[v] w fun e w'=>e=.returned (.tuple #[.string (Z4d p),.int .i64 (Q7t p)]) /\ Ext w w':=by
 obtain ⟨i0,hi,dq,fq,Zj⟩:=info_parts Y5q;obtain ⟨a,rfl,h2⟩:=hv;obtain ⟨A,Qq,rfl,hl,Kq,hc⟩:=h2.opened;have H2:=hid h2;have HC:=hid hc;have HR:=hid hr;have HW:=hid hW;clear h2 hc hr hW;obtain ⟨n,hn⟩:∃ n,p.length=n:=⟨_,rfl⟩;have HN:=hid hn;rw [hn] at hl HC H2 ⊢;go_enter func81,ntmps81;go_wp2_with fail;change Calls _ _ _ (w.alloc (.cells #[.slice A n Qq] 38)) _;obtain ⟨W,Mq,k0,Rq,eW⟩:=Q2q w 38 #[.slice A n Qq];rw [Mq];clear Mq;have K0:=hid k0;refine (Y1g W _ p ⟨_,rfl,H2.out.ext Rq.out⟩ HR.out).mono ?_;rintro e w5 ⟨rfl,yq⟩;have vq:=hid (Rq.out.trans yq);have SY:=k0.ext yq;obtain ⟨gp,lz⟩:∃ z,w.heap.size=z:=⟨_,rfl⟩;rw [lz] at SY ⊢;clear k0 yq lz eW
 by_cases he:Q7t p=0
 . have zQ:=Y8g he
   have HF:=hid zQ.2;have tm:n <= 48:=by have:=zQ.1; omega
   have Vx:Hid (Z4d p=J4i p):=hid (if_pos he);have HE:=hid he;obtain ⟨E,hE⟩:∃ E,Q7t p=E:=⟨_,rfl⟩;have hne:(E != 0)=false:=by rw [<- hE]; simp [he]
   rw [hE];have c5:(w5.alloc (.cells #[.pointer none,.slice none 0 0] 214)).cell? ⟨gp,0,none⟩=some (.slice A n Qq):=(SY.ext (Ext.box w5 _)).cell 0;have J7:=hid hE;clear SY he zQ hE hn;go_wp2;have hbf:=Bld.fresh w5;have Da:=Ext.box w5 (.cells #[.pointer none,.slice none 0 0] 214);obtain ⟨gb,xw⟩:∃ z,w5.heap.size=z:=⟨_,rfl⟩;have t8:=hid xw;have Ca:(w5.alloc (.cells #[.pointer none,.slice none 0 0] 214)).heap.size=gb + 1:=by rw [<- xw]; simp
   rw [xw] at hbf ⊢;obtain ⟨wf,Az⟩:∃ z,w5.alloc (.cells #[.pointer none,.slice none 0 0] 214)=z:=⟨_,rfl⟩;rw [Az] at hbf Da Ca ⊢;have rm:=hid hbf;have Y3:=hid (vq.out.trans Da);have Nr:=hid Ca;have C1:Hid (w.heap.size <= gb):=hid (by have:=vq.out.size; omega)
   clear hbf Da Ca Az xw c5
   go_loopw [18] (fun i wr=>∃ k:Nat,k <= n /\ i=.int .i64 k /\ Bld wr gb (Q8x p k) /\ Below gb wf wr /\ (Q8x p k).length <= k * 6000000) (fun i _=>n - (intOf i).toNat)
   case atStart=>exact ⟨0,Nat.zero_le _,rfl,rm.out,Below.refl _ _,by simp [Q8x,textOf]⟩
   case round =>
    obtain ⟨k,hk,rfl,mx,Yj,Dq⟩:=hrel
    by_cases Uq:k < n
    . have zj:(k:Int) < n:=by omega
      have Gq:Ext w wr:=Below.trans Y3.out (Yj.mono C1.out);obtain ⟨b,off,x,rfl,hb,e0,e1,Jk⟩:=HC.out k Uq;replace e0:=Gq.cell e0;replace e1:=Gq.cell e1;have Oj:k < p.length:=by rw [HN.out]; exact Uq
      have RY:=HF.out (p.getD k default) (by rw [Q0u _ Oj]; exact List.getElem_mem Oj)
      have rg:=Z0z Oj;have nZ:=line_text RY.dig;obtain ⟨X,Sq,rfl,-,-,-⟩:=Jk.opened;have HI:=hid (Jk.ext Gq);have Pj:=hid Gq;have zv:=hid mx;have G7:=hid Yj;have yQ:=HW.out.ext Gq;have C4:(Q0m p k).length <= 6:=RY.len;have O6:Hid (∀ x ∈ Q0m p k,0 <= x /\ x <= 9):=hid RY.dig;have F7:=Z6g (c:=Q2h p k) C4 O6.out;rw [<- nZ] at rg;change Q8x p (k + 1)=Q8x p k ++ (Z8x (Q0m p k) (Q2h p k)).data.toList at rg;obtain ⟨cs,Dk⟩:∃ c,Q0m p k=c:=⟨_,rfl⟩;obtain ⟨cb,Kj⟩:∃ c,Q2h p k=c:=⟨_,rfl⟩;obtain ⟨tx,Nf⟩:∃ c,Q8x p k=c:=⟨_,rfl⟩;rw [Dk] at e0 HI C4 O6 F7 rg;rw [Kj] at e1 F7 rg;rw [Nf] at zv rg Dq;have QY:=hid rg;have mZ:=hid F7;obtain ⟨L,hL⟩:∃ L,cs.length=L:=⟨_,rfl⟩;have Zw:=hid hL;rw [hL] at e0 HI C4;clear mx Yj Gq Jk RY nZ Dk Kj Nf rg F7 hL;obtain ⟨wq,rfl⟩:∃ X,X=wr:=⟨_,rfl⟩;cases cb with
      | false =>
        have xQ:=yQ.ext (Ext.box wq (.cells #[.slice X L Sq,.bool false] 167));have w0:=xQ.1;have w9:=xQ.2;clear xQ;go_wp2_with fail;obtain ⟨W,Mq,k0,Rq,eW⟩:=Q2q wq 167 #[.slice X L Sq,.bool false];rw [Mq];clear Mq;clear k0;refine (Y0t W _ cs (Zw.out ▸ HI.out.ext Rq.out) (by rw [Zw.out]; omega) (fun x hx=>by have:=O6.out x hx; omega)).mono ?_
        rintro e w3 ⟨u,rfl,hu,yj⟩;have Lg:=hid (Rq.out.trans yj);have lZ:=hid Rq.out.size;have Ba:(cs.map Q4w).length <= 6:=by rw [List.length_map,Zw.out]; exact C4
        have zk:W.heap.size <= w3.heap.size:=yj.size;clear w0 w9 e0 e1;go_wp2_with ((at_builtin; refine wpList_append_own _ rfl _ _ 157 rfl (W.heap.size) 9 i0 (.string emp) 1 16 underlying157 hi dq fq Zj rfl (by decide) _ _ _ rfl (World.ownsRow.alloc hu _) ⟨w3.heap.size,0,none⟩ 1 1 [.string ⟨#[111,112,101,110]⟩] rfl rfl ?_ ?_ ?_ ?_ ?_ ?_; exact Q5y _ _ _; (focus (simp [Value.oneCell'])); (focus (unfold maxLen; omega)); (focus omega); (focus (have:=yj.size; simp at this ⊢; omega)); intro v' w1 Oq Pq _); refine halted ?_)
        have fk:Ext wq w1:=Below.trans Lg.out (X7h hu Pq (Nat.le_trans lZ.out (Nat.le_refl _)) (Nat.le_trans lZ.out zk));have Yg:Q0q w1 W.heap.size 9 .string v' (cs.map Q4w ++ [X5s false]):=Q0q.snoc Oq;have oq:∀ x ∈ cs.map Q4w ++ [X5s false],x.size <= 5000000:=by
         intro x hx
         rcases List.mem_append.1 hx with hx | hx
         . obtain ⟨y,hy,rfl⟩:=List.mem_map.1 hx
           have h1:=O6.out y hy;have:=X6k h1.1 (by omega:y < 100)
           omega
         . rw [List.mem_singleton.1 hx]; decide
        have HJ:=hid (Z3z w1 W.heap.size v' _ spS Yg (by have:=Zw.out; rw [List.length_append,List.length_map]; show cs.length + 1 <= _; omega) (by simp) oq (by decide))
        have E7:=hid fk;have R1:Hid (Z8x cs false=X9o (cs.map Q4w ++ [X5s false]) spS ++ nlS):=hid rfl;have vQ:=mZ.out;obtain ⟨js,nw⟩:∃ j,X9o (cs.map Q4w ++ [X5s false]) spS=j:=⟨_,rfl⟩;rw [nw] at HJ R1 vQ;have HJ':Hid (Calls prog 149 #[v',.string ⟨#[32]⟩] w1 fun e w'=>e=.returned (.string js) /\ Ext w1 w'):=hid HJ.out;have Tf:¬ 9223372036854775807 < js.size + 1:=by omega
        have qm:js.size + 1 <= 9223372036854775807:=by omega
        have pm:js.size < 9223372036854775807:=by omega
        clear Oq Pq fk Yg oq HJ nw hu yj zk Ba;unfold Q1o;go_wp2_with (go_at_call 149; refine HJ'.out.mono ?_; rintro e w6 ⟨rfl,Mj⟩; refine halted ?_);have bj:=hid (E7.out.trans Mj);have uQ:=hid (write_any w6 gb tx (js ++ nlS) (zv.out.ext bj.out) (by rw [ByteArray.size_append]; have:nlS.size=1:=rfl; omega))
        have HWS':Hid (Calls prog 148 #[.pointer (some ⟨gb,0,none⟩),.string (js ++ ⟨#[10]⟩)] w6 fun e w'=>e=.returned (.tuple #[.int .i64 ((js ++ nlS).size),.nilIface]) /\ Bld w' gb (tx ++ (js ++ nlS).data.toList) /\ Below gb w6 w'):=hid uQ.out;clear Mj uQ;unfold Q1o;go_wp2_with (go_at_call 148; refine HWS'.out.mono ?_; rintro e w7 ⟨rfl,vw,V3⟩);go_roundw
        case rel=>exact ⟨k + 1,by omega,by go_num,by rw [QY.out,R1.out]; exact vw,Below.trans G7.out (Below.trans (bj.out.mono (by have:=zv.out.lt; omega)) V3),by rw [QY.out,R1.out,List.length_append,Array.length_toList]; show tx.length + (js ++ nlS).size <= _; rw [ByteArray.size_append]; have:nlS.size=1:=rfl; omega⟩
        case measure=>simp [intOf]; omega
      | true =>
        have xQ:=yQ.ext (Ext.box wq (.cells #[.slice X L Sq,.bool true] 167));have w0:=xQ.1;have w9:=xQ.2;clear xQ;go_wp2_with fail;obtain ⟨W,Mq,k0,Rq,eW⟩:=Q2q wq 167 #[.slice X L Sq,.bool true];rw [Mq];clear Mq;clear k0;refine (Y0t W _ cs (Zw.out ▸ HI.out.ext Rq.out) (by rw [Zw.out]; omega) (fun x hx=>by have:=O6.out x hx; omega)).mono ?_
        rintro e w3 ⟨u,rfl,hu,yj⟩;have Lg:=hid (Rq.out.trans yj);have lZ:=hid Rq.out.size;have Ba:(cs.map Q4w).length <= 6:=by rw [List.length_map,Zw.out]; exact C4
        have zk:W.heap.size <= w3.heap.size:=yj.size;clear w0 w9 e0 e1;go_wp2_with ((at_builtin; refine wpList_append_own _ rfl _ _ 157 rfl (W.heap.size) 9 i0 (.string emp) 1 16 underlying157 hi dq fq Zj rfl (by decide) _ _ _ rfl (World.ownsRow.alloc hu _) ⟨w3.heap.size,0,none⟩ 1 1 [.string ⟨#[99,108,111,115,101]⟩] rfl rfl ?_ ?_ ?_ ?_ ?_ ?_; exact Q5y _ _ _; (focus (simp [Value.oneCell'])); (focus (unfold maxLen; omega)); (focus omega); (focus (have:=yj.size; simp at this ⊢; omega)); intro v' w1 Oq Pq _); refine halted ?_)
        have fk:Ext wq w1:=Below.trans Lg.out (X7h hu Pq (Nat.le_trans lZ.out (Nat.le_refl _)) (Nat.le_trans lZ.out zk));have Yg:Q0q w1 W.heap.size 9 .string v' (cs.map Q4w ++ [X5s true]):=Q0q.snoc Oq;have oq:∀ x ∈ cs.map Q4w ++ [X5s true],x.size <= 5000000:=by
         intro x hx
         rcases List.mem_append.1 hx with hx | hx
         . obtain ⟨y,hy,rfl⟩:=List.mem_map.1 hx
           have h1:=O6.out y hy;have:=X6k h1.1 (by omega:y < 100)
           omega
         . rw [List.mem_singleton.1 hx]; decide
        have HJ:=hid (Z3z w1 W.heap.size v' _ spS Yg (by have:=Zw.out; rw [List.length_append,List.length_map]; show cs.length + 1 <= _; omega) (by simp) oq (by decide))
        have E7:=hid fk;have R1:Hid (Z8x cs true=X9o (cs.map Q4w ++ [X5s true]) spS ++ nlS):=hid rfl;have vQ:=mZ.out;obtain ⟨js,nw⟩:∃ j,X9o (cs.map Q4w ++ [X5s true]) spS=j:=⟨_,rfl⟩;rw [nw] at HJ R1 vQ;have HJ':Hid (Calls prog 149 #[v',.string ⟨#[32]⟩] w1 fun e w'=>e=.returned (.string js) /\ Ext w1 w'):=hid HJ.out;have Tf:¬ 9223372036854775807 < js.size + 1:=by omega
        have qm:js.size + 1 <= 9223372036854775807:=by omega
        have pm:js.size < 9223372036854775807:=by omega
        clear Oq Pq fk Yg oq HJ nw hu yj zk Ba;unfold Q1o;go_wp2_with (go_at_call 149; refine HJ'.out.mono ?_; rintro e w6 ⟨rfl,Mj⟩; refine halted ?_);have bj:=hid (E7.out.trans Mj);have uQ:=hid (write_any w6 gb tx (js ++ nlS) (zv.out.ext bj.out) (by rw [ByteArray.size_append]; have:nlS.size=1:=rfl; omega))
        have HWS':Hid (Calls prog 148 #[.pointer (some ⟨gb,0,none⟩),.string (js ++ ⟨#[10]⟩)] w6 fun e w'=>e=.returned (.tuple #[.int .i64 ((js ++ nlS).size),.nilIface]) /\ Bld w' gb (tx ++ (js ++ nlS).data.toList) /\ Below gb w6 w'):=hid uQ.out;clear Mj uQ;unfold Q1o;go_wp2_with (go_at_call 148; refine HWS'.out.mono ?_; rintro e w7 ⟨rfl,vw,V3⟩);go_roundw
        case rel=>exact ⟨k + 1,by omega,by go_num,by rw [QY.out,R1.out]; exact vw,Below.trans G7.out (Below.trans (bj.out.mono (by have:=zv.out.lt; omega)) V3),by rw [QY.out,R1.out,List.length_append,Array.length_toList]; show tx.length + (js ++ nlS).size <= _; rw [ByteArray.size_append]; have:nlS.size=1:=rfl; omega⟩
        case measure=>simp [intOf]; omega
    . have zj:¬ (k:Int) < n:=by omega
      have rj:k=n:=by omega
      subst rj;have kZ:Q8x p k=Y4q p:=by rw [<- HN.out]; exact Z7c p
      rw [kZ] at mx;have za:=hid (Z0v wr gb _ mx);have Pj:Hid (Ext w wr):=hid (Below.trans Y3.out (Yj.mono C1.out));clear mx Yj kZ Dq;go_wp2_with (go_at_call 150; refine za.out.mono ?_; rintro e w7 ⟨rfl,V3⟩);refine bodyPost_ret (results_tmp2 results81 _ _ _) rfl ?_;exact ⟨by rw [Vx.out,<- J7.out,HE.out]; rfl,Below.trans Pj.out (V3.mono C1.out)⟩
 . have hne:(Q7t p != 0)=true:=by simp [he]
   have Vx:Hid (Z4d p=emp):=hid (if_neg he);clear he SY;go_wp2;refine bodyPost_ret (results_tmp2 results81 _ _ _) rfl ?_;exact ⟨by rw [Vx.out]; rfl,vq.out⟩
end Go.Proofs
namespace Go.Proofs.YthnobngcipaljaaGreatDoor
open Go.ChangeShapes Go.WideShapes Go.ChangeAt Go.RowKit Go.Tw
theorem own:ownKnob Tryz.prog.godebug=none:=by kernel_rfl
theorem laidOut:laidOutB Tryz.prog=true:=by kernel_rfl
def Z6f:List (String × DataW Unit):=Rows.policyFollowsRow.laid
theorem Y5p {W:World} (h:laidMetH Tryz.prog Z6f W):Words W:=by
 rw [MakeChecks.laidMetH_plain _ _ _ (by kernel_rfl)] at h
 obtain ⟨ps,⟨g0,t0,cs0,f0,p0,q0,WX,om,PY,Mr,⟨g1,t1,cs1,f1,p1,q1,Mf,Lr,ya,Zl,⟨g2,t2,cs2,f2,p2,q2,Ny,DW,vW,ke,⟨g3,t3,cs3,f3,p3,q3,ua,Lf,Kf,lm,_⟩,_⟩,_⟩,_⟩,_,_⟩:=h;obtain rfl:=Option.some.inj ((show Tryz.prog.globalNamed (Z6f[3]?.map (·.1)).get! = some 0 by kernel_rfl).symm.trans ua)
 obtain ⟨t,ht⟩:∃ t,(Tryz.prog.globals[0]?).map (·.type)=some t:=⟨_,Lf⟩;obtain rfl:=Option.some.inj (ht.symm.trans Lf);have km:(Tryz.prog.globals[0]?).map (·.type)=some 215:=by kernel_rfl
 obtain rfl:=Option.some.inj (km.symm.trans ht);obtain ⟨xs,m,_,hx,Dq,jm,nX⟩:=DataW.trod_array Tryz.underlying215 lm;rw [Tryz.cS] at nX;have hm:xs.map (·.1)=[.lit (.string [111,112,101,110]),.lit (.string [99,108,111,115,101])]:=by
  have:=congrArg Prod.fst hx;simp only [Rows.laid_tideway_policy_words] at this;injection this with this;exact this.symm
 obtain ⟨x0,x1,rfl⟩:∃ a b,xs=[a,b]:=by
  match xs,jm with
  | [a,b],_=>exact ⟨a,b,rfl⟩
 simp only [List.map_cons,List.map_nil,List.cons.injEq,and_true] at hm;obtain ⟨Ej,aq⟩:=hm;obtain ⟨s0,Rw,rfl,_⟩:=DataW.trod_string Tryz.underlying9 (nX 0 (by decide))
 obtain ⟨s1,Nx,rfl,_⟩:=DataW.trod_string Tryz.underlying9 (nX 1 (by decide))
 have e0:s0=⟨#[111,112,101,110]⟩:=by
  simp only [DataW.lit.injEq,Lit.string.injEq] at Ej;obtain ⟨d⟩:=s0;obtain ⟨l⟩:=d;have h:l=[111,112,101,110]:=Ej;rw [h]
 have e1:s1=⟨#[99,108,111,115,101]⟩:=by
  simp only [DataW.lit.injEq,Lit.string.injEq] at aq;obtain ⟨d⟩:=s1;obtain ⟨l⟩:=d;have h:l=[99,108,111,115,101]:=aq;rw [h]
 subst e0 e1;obtain ⟨l3⟩:=cs3;have Qk:l3.length=2:=by
  have h:=Dq;rw [show Tryz.prog.cellsOf 215=2 from by kernel_rfl] at h
  exact h
 obtain ⟨c0,c1,rfl⟩:∃ a b,l3=[a,b]:=by
  match l3,Qk with
  | [a,b],_=>exact ⟨a,b,rfl⟩
 simp at Rw Nx;subst Rw Nx;exact ⟨by rw [World.var?_cell ua Kf 0]; rfl,by rw [World.var?_cell ua Kf 1]; rfl⟩
end Go.Proofs.YthnobngcipaljaaGreatDoor
namespace Go.Proofs.YthnobngcipaljaaGreatDoor
open Go.ChangeShapes Go.WideShapes Go.ChangeAt Go.RowKit Go.Tw
theorem X2m {a b:Bool} (h:a=true) (k:b=true):(a && b)=true:=by rw [h,k]; rfl
theorem K0h {a b:Bool} (h:(a && b)=true):a=true:=by cases a <;> simp_all
theorem J9z {a b:Bool} (h:(a && b)=true):b=true:=by cases a <;> simp_all
theorem Z7u (P:Program) (f:FuncId) (fn:Func) (s:ChangeSpec) (c:OpenClaim)
    (k0:(c.wf (OpenSpec.ofChange s):Bool)=true)
    (k1:(laidOutB P:Bool)=true)
    (k2:(mapsRowed P:Bool)=true)
    (k3:(fn.params.all (P.readableRec ·):Bool)=true)
    (k4:(namedTie P c.named s.vars:Bool)=true)
    (k5:((c.stops == []):Bool)=true)
    (k6:((P.stops == []):Bool)=true)
    (k7:((c.knobs == []):Bool)=true)
    (k8:((P.stopKnobs == []):Bool)=true)
    (k9:((c.inPlace == P.inPlace f):Bool)=true)
    (k10:((c.unfollowed == P.unfollowed f):Bool)=true)
    (k11:((c.recurses == P.recurses f):Bool)=true)
    (k12:((c.named == P.varsNamed f):Bool)=true)
    (k13:((c.maps == (fn.params.toList ++ s.plain.varTypes P).any (P.mapsRec ·)):Bool)=true)
    (k14:((c.ifaces == (fn.params.toList ++ s.plain.varTypes P).any (P.ifacesRec ·)):Bool)=true)
    (k15:((c.mapsOut == P.mapsAmong fn.resultTypes.toList):Bool)=true)
    (k16:((c.loops == (fn.params.toList ++ s.plain.varTypes P).any (P.loopsFrom ·)):Bool)=true)
    (k17:((c.wideKeys == (fn.params.toList ++ s.plain.varTypes P ++ fn.resultTypes.toList).any (P.wideKeysFrom ·)):Bool)=true)
    (k18:(s.vars.all (P.varReadable ·):Bool)=true)
    (k19:(fn.resultTypes.all (fun t=>P.readableRec t && decide (t < P.types.size)):Bool)=true)
    (k20:((c.ifacesOut == fn.resultTypes.toList.any (P.ifacesRec ·)):Bool)=true)
    (k21:((c.loopsOut == fn.resultTypes.toList.any (P.loopsFrom ·)):Bool)=true)
    (k22:((c.plainKeys == P.plainKeys):Bool)=true)
    (k23:(c.shortTexts.isNone:Bool)=true)
    (k24:(P.stopsHeard:Bool)=true)
    (k25:(P.mayEnter:Bool)=true)
    (k26:((c.lifted == P.liftsFinal):Bool)=true)
    (k27:((P.make == some c.make):Bool)=true)
    (k28:(c.domain.isEmpty && (c.kinds == []):Bool)=true)
    (k29:((c.pinned == c.pinnedBy):Bool)=true)
    (k30:((c.veiled == (fn.params.toList ++ s.plain.varTypes P ++ fn.resultTypes.toList).any (P.veiledRec ·)):Bool)=true)
    (k31:(c.veiledFits P fn.params.toList (fn.params.toList ++ s.plain.varTypes P ++ fn.resultTypes.toList):Bool)=true)
   :joinedFacts P f fn s c=true:=by unfold joinedFacts; exact X2m (X2m (X2m (X2m (X2m (X2m (X2m (X2m (X2m (X2m (X2m (X2m (X2m (X2m (X2m (X2m (X2m (X2m (X2m (X2m (X2m (X2m (X2m (X2m (X2m (X2m (X2m (X2m (X2m (X2m (X2m (k0) k1) k2) k3) k4) k5) k6) k7) k8) k9) k10) k11) k12) k13) k14) k15) k16) k17) k18) k19) k20) k21) k22) k23) k24) k25) k26) k27) (by rw [if_pos (K0h k28)]; exact J9z k28)) k29) k30) k31
theorem J6g:(laidOutB Tryz.prog:Bool)=true:=by kernel_rfl
theorem J7d:(mapsRowed Tryz.prog:Bool)=true:=by kernel_rfl
theorem J6a:((Tryz.prog.stops == []):Bool)=true:=by kernel_rfl
theorem J5r:((Tryz.prog.stopKnobs == []):Bool)=true:=by kernel_rfl
theorem J1u:(Tryz.prog.stopsHeard:Bool)=true:=by kernel_rfl
theorem J3u:(Tryz.prog.mayEnter:Bool)=true:=by kernel_rfl
end Go.Proofs.YthnobngcipaljaaGreatDoor
namespace Go.Proofs
open Go.RowKit Go.Tw Go.ChangeShapes Go.WideShapes Go.Deep
theorem J8g {n:Int} (h:(Lit.int .u8 n).wf=true):∃ k:Nat,k < 256 /\ n=(k:Int):=by
 unfold Lit.wf at h;rw [Bool.and_eq_true,decide_eq_true_eq,decide_eq_true_eq] at h;have h1:IntKind.min .u8=0:=by decide
 have h2:IntKind.max .u8=255:=by decide
 rw [h1,h2] at h;exact ⟨n.toNat,by omega,by omega⟩
end Go.Proofs
namespace Go.Proofs
open Go.RowKit Go.Tw Go.Flow Tryz
def Y4z (l:List Int) (k:Nat):List (List Int):=(List.range k).map fun t=>l.take (t + 1)
theorem Z4w (l:List Int) (k:Nat):Y4z l (k + 1)=Y4z l k ++ [l.take (k + 1)]:=by unfold Y4z; rw [List.range_succ,List.map_append]; rfl
theorem Y7m (l:List Int) (k:Nat):(Y4z l k).length=k:=by unfold Y4z; simp
def Y5a (s:Q0b) (i:Nat):List (List Int):=(s.members.take i).flatMap fun m=>Y4z m.classes m.classes.length
theorem Y3g (s:Q0b) {i:Nat} (hi:i < s.members.length):Y5a s (i + 1)=Y5a s i ++ Y4z (Q0c s.members i) (Q0c s.members i).length:=by
 unfold Y5a Q0c;rw [List.take_succ_eq_append_getElem hi,List.flatMap_append,Q0u _ hi]; simp
theorem Z8z (s:Q0b):Y5a s s.members.length=s.Y1a:=by unfold Y5a; rw [List.take_length]; rfl
theorem Y0c {s:Q0b} (hS:Q0r s):∀ i,i <= s.members.length -> (Y5a s i).length=i * s.ships.length
 | 0,_=>by simp [Y5a]
 | i + 1,h=>by
   rw [Y3g s (by omega),List.length_append,Y0c hS i (by omega),Y7m,(hS.shaped i (by omega)).1,Nat.add_mul,Nat.one_mul]
theorem Y8r (w:World) (a:Addr) (n Qq:Nat):(binOp .eql 166 (.slice (some a) n Qq) (.slice none 0 0)).run prog w=.ok (.bool false) w:=by kernel_rfl
attribute [local go_sem ↓] Y8r
theorem Z7h (w:World) (a:Addr) (n Qq:Nat) (l:List Int) (hv:Q0g w (.slice (some a) n Qq) l) (hn:n=l.length) (Uv:l.length <= 4096) :
    Calls prog 158 #[.slice (some a) n Qq] w fun e w'=>∃ u,e=.returned u /\ Q0q w' w.heap.size 3 (.int .i64) u l /\ Ext w w':=by
 obtain ⟨i0,hi,dq,fq,Zj⟩:=info_parts info3;subst hn;obtain ⟨A,cap',he,hl,Kq,hc⟩:=hv.opened;injection he with e1 _ e3;subst e1 e3;have hx:=Ext.box w (.cells #[] 3);have Yq:Q0q (w.alloc (.cells #[] 3)) w.heap.size 3 (Value.int .i64) (.slice (some ⟨w.heap.size,0,none⟩) 0 0) []:=World.ownsRow_made w #[] 0 (Nat.le_refl _) (by unfold maxLen; omega) rfl
 have j1:Hid (∀ j u,(l.map (Value.int .i64))[j]?=some u -> (w.alloc (.cells #[] 3)).cell? (a.add j)=some u):=hid (by
  intro j u hj;rw [List.getElem?_map] at hj;obtain ⟨y,hy,rfl⟩:=Option.map_eq_some_iff.1 hj;obtain ⟨Qj,rfl⟩:=List.getElem?_eq_some_iff.1 hy;obtain ⟨b,off,he,Wq⟩:=hc j Qj;cases he;rw [addr_add,hx.cell Wq,Q5g Qj])
 have dj:Hid (∀ u ∈ l.map (Value.int .i64),u.oneCell'=true):=hid (by intro u hu; obtain ⟨y,_,rfl⟩:=List.mem_map.1 hu; rfl)
 have O7:Hid ((l.map (Value.int .i64)).length=l.length * 1):=hid (by simp)
 clear hv hc;go_enter func158,ntmps158;go_wp2_with (at_builtin; refine wpList_append_own _ rfl _ _ 166 rfl (w.heap.size) 3 i0 (.int .i64 0) 1 8 underlying166 hi dq fq Zj rfl (by decide) _ _ _ rfl Yq a l.length Qq (l.map (Value.int .i64)) rfl O7.out j1.out dj.out ?_ ?_ ?_ ?_; (focus (unfold maxLen; simp; omega)); (focus (simp; omega)); (focus (simp)); intro v' w4 Oq Pq _; refine halted ?_)
 have fk:Ext w w4:=Below.trans hx (below_grown Yq Pq (Nat.le_refl _) hx.size);have r4:Q0q w4 w.heap.size 3 (.int .i64) v' l:=by
  unfold Q0q;rw [show l.length=0 + l.length from (Nat.zero_add _).symm]
  exact Oq
 clear Oq Pq Yq hx;unfold Q1o;go_wp2;go_ret;exact ⟨_,rfl,r4,fk⟩
theorem Tryz.J2c:(prog.info? 166).map (fun i=>(i.zero,i.size,i.bytes))=some (some (.slice none 0 0),1,24):=by kernel_rfl
theorem Z1k {W W':World} {base:Nat} {v:Value} {vs us:List Value} {ll:List (List Int)} (h:Q0q W base 166 idV v us) (hs:Sets W vs ll) (hg:W.grownBy W' v.ownBlock):Sets W' vs ll:=by
 refine hs.at fun u l hu b hb mx=>hg.block b mx fun e=>?_;obtain ⟨h1,h2⟩:=h
 rcases h2 with ⟨rfl,_⟩ | ⟨g,Qq,cur,rfl,Ux,Q0,r⟩
 . cases e
 . have:b=g:=by simpa [Value.ownBlock] using e
   subst this;exact Y5u hu Q0 hb
theorem Q5f {α:Type} {W W':World} {base:Nat} {e:TypeId} {enc:α -> Value} {v:Value} {l:List α} {g:Nat} {T:TypeId} {cs:Array Value} (hb:Blk W g T cs) (h:Q0q W base e enc v l) (hT:T ≠ e) (hg:W.grownBy W' v.ownBlock):Blk W' g T cs:=by
 have mz:=hb;unfold Blk at hb ⊢;refine (hg.block g (Array.getElem?_eq_some_iff.1 hb).1 fun e'=>?_).trans hb;obtain ⟨h1,h2⟩:=h
 rcases h2 with ⟨rfl,_⟩ | ⟨g',Qq,cur,rfl,Ux,Q0,r⟩
 . cases e'
 . have:g=g':=by simpa [Value.ownBlock] using e'
   subst this;rw [hb] at Q0;injection Q0 with h;injection h with _ h;exact hT h
theorem Q8i (w:World) (v:Value) (s:Q0b) (hv:Q0i w v s) (hS:Q0r s) :
    Calls prog 99 #[v] w fun e w'=>∃ x,e=.returned x /\ Q3z w' x s.hist /\ Ext w w':=by
 obtain ⟨i0,hi,dq,fq,Zj⟩:=info_parts J2c;have h8:=hS.some;have h6:=hS.tides;have HS:=hid hS;obtain ⟨a,b,rfl,h2⟩:=hv;obtain ⟨A,Tq,rfl,-,-,-⟩:=h2.ships.opened;obtain ⟨B,Vq,rfl,-,-,-⟩:=h2.members.opened;have H2:=hid h2;clear h2 hS;go_enter func99,ntmps99;go_wp2_with fail;change Code.wp _ _ _ _ (w.alloc (.cells #[.int .i64 s.limit,.slice A s.ships.length Tq,.slice B s.members.length Vq] 34));obtain ⟨W,Mq,k0,Rq,eW⟩:=Q2q w 34 #[.int .i64 s.limit,.slice A s.ships.length Tq,.slice B s.members.length Vq];rw [Mq];clear Mq;have K0:=hid k0;have c0_2:=k0.cell 2;simp only [Go.Tw.gA,Go.Tw.gB,Go.Tw.gC] at c0_2;clear k0;go_wp2;clear c0_2
 go_loopw [3,10] (fun o iv wr=>∃ (i:Nat) (vs:List Value),i <= s.members.length /\ iv=.int .i64 i /\ Q0q wr W.heap.size 166 idV o vs /\ Sets wr vs (Y5a s i) /\ Ext W wr) (fun _ i _=>s.members.length - (intOf i).toNat)
 case atStart=>exact ⟨0,[],Nat.zero_le _,rfl,Q0q.nil _ _ _ _,Sets.nil _,Ext.refl _⟩
 case round =>
  obtain ⟨i,vs,kz,rfl,Yq,Gk,Gq⟩:=hrel;have Pj:=hid Gq;have kq:=hid Yq;have Pz:=hid Gk;clear Yq Gk
  by_cases Uq:i < s.members.length
  . have H3:=H2.out.ext (Rq.out.trans Gq)
    have H4:=H2.out.ext Rq.out;obtain ⟨_,_,hB,_,_,hc⟩:=H3.members.opened;cases hB;obtain ⟨bm,off,x,y,z,rfl,Tk,e0,e1,e2,e3,e4,hx,hy,hz,nj⟩:=hc i Uq;have Jf:Q0g W x (Q0c s.members i):=by
     obtain ⟨_,_,sZ,_,_,fX⟩:=H4.members.opened;cases sZ;obtain ⟨bm',off',x',y',z',aj,_,f0,f1,f2,f3,f4,hx',_⟩:=fX i Uq;cases aj;have:=Gq.cell f2;rw [e2] at this;cases this;exact hx'
    have G8:=hid Jf;obtain ⟨X,Sq,rfl,-,U4,tQ⟩:=hx.opened;obtain ⟨Y,Jq,rfl,-,-,-⟩:=hy.opened;obtain ⟨Z,Cq,rfl,-,-,-⟩:=hz.opened;have hT:=(HS.out.shaped i Uq).1;have Gf:=hid (Y3g s Uq);have Dx:=hid (Y0c HS.out i kz);obtain ⟨nm,Aj⟩:∃ x,Q1s s.members i=x:=⟨_,rfl⟩;obtain ⟨wt,lq⟩:∃ x,Q0n s.members i=x:=⟨_,rfl⟩;obtain ⟨lc,vj⟩:∃ x,Q0c s.members i=x:=⟨_,rfl⟩;obtain ⟨lo,Sx⟩:∃ x,Q1c s.members i=x:=⟨_,rfl⟩;obtain ⟨li,mj⟩:∃ x,Q1f s.members i=x:=⟨_,rfl⟩;rw [Aj] at e0;rw [lq] at e1;rw [vj] at e2 G8 Gf hT U4 tQ;rw [Sx] at e3;rw [mj] at e4;have V0:(i:Int) < s.members.length:=by omega
    have sa:0 < lc.length:=by omega
    obtain ⟨bX,oX,hX,-⟩:=tQ 0 sa;subst hX;have Bq:=Ext.box wr (.cells #[.string nm,.int .i64 wt,.slice (some ⟨bX,oX,none⟩) lc.length Sq,.slice Y lo.length Jq,.slice Z li.length Cq] 69);have K3:=Blk.made wr 69 #[.string nm,.int .i64 wt,.slice (some ⟨bX,oX,none⟩) lc.length Sq,.slice Y lo.length Jq,.slice Z li.length Cq];have d2:=K3.cell 2;simp only [Go.Tw.gA,Go.Tw.gB,Go.Tw.gC] at d2;obtain ⟨T,ra⟩:∃ T,s.ships.length=T:=⟨_,rfl⟩;have Oz:=hid ra;have jq:=hid Bq;have U3:=hid (kq.out.below Bq);have Zk:=hid (Pz.out.ext Bq);have My:=hid K3;rw [ra] at hT Dx;have HT:=hid hT;clear hc H3 H4 Jf hx hy hz nj Aj lq vj Sx mj Tk Bq K3 tQ hT ra
    go_light
    go_wp2;obtain ⟨V,hV⟩:∃ V,wr.alloc (.cells #[.string nm,.int .i64 wt,.slice (some ⟨bX,oX,none⟩) lc.length Sq,.slice Y lo.length Jq,.slice Z li.length Cq] 69)=V:=⟨_,rfl⟩;obtain ⟨gb,xw⟩:∃ x,wr.heap.size=x:=⟨_,rfl⟩;rw [hV] at jq U3 Zk My ⊢;rw [xw] at My ⊢;clear hV xw d2 e0 e1 e2 e3 e4;have yw:=hid (Gq.trans jq.out);clear Gq
    go_loopw [3,17] (fun o tv wr=>∃ (t:Nat) (vs:List Value),t <= lc.length /\ tv=.int .i64 t /\ Q0q wr W.heap.size 166 idV o vs /\ Sets wr vs (Y5a s i ++ Y4z lc t) /\ Blk wr gb 69 #[.string nm,.int .i64 wt,.slice (some ⟨bX,oX,none⟩) lc.length Sq,.slice Y lo.length Jq,.slice Z li.length Cq] /\ Ext W wr) (fun _ t _=>lc.length - (intOf t).toNat)
    case atStart=>exact ⟨0,vs,Nat.zero_le _,rfl,U3.out,by rw [show Y4z lc 0=[] from rfl,List.append_nil]; exact Zk.out,My.out,yw.out⟩
    case round =>
     obtain ⟨t,vs,pw,rfl,Yq,Gk,xj,Gx⟩:=hrel;have Dv:vs.length <= 4096:=by
      have h1:=Gk.1;have h2:=Dx.out;rw [List.length_append,Y7m,h2] at h1;have h3:i * T <= 8 * 6:=Nat.mul_le_mul (by omega) (by have:=Oz.out; omega)
      have:=HT.out;have:=Oz.out;omega
     by_cases im:t < lc.length
     . have fm:lc.length <= 6:=by have:=HT.out; have:=Oz.out; omega
       have d2:=xj.cell 2;simp only [Go.Tw.gA,Go.Tw.gB,Go.Tw.gC] at d2;have Fj:=hid (Z4w lc t);have ky:=hid (Q9n (G8.out.ext Gx) (show t + 1 <= lc.length by omega))
       have Rk:Hid ((lc.take (t + 1)).length=t + 1):=hid (by rw [List.length_take]; omega)
       obtain ⟨lp,K8⟩:∃ x,lc.take (t + 1)=x:=⟨_,rfl⟩;rw [K8] at Fj ky Rk;have TZ:(t:Int) + 1 <= (Sq:Int):=by omega
       have d9:¬ ((0:Int) <= (t:Int) + 1 -> (Sq:Int) < (t:Int) + 1):=by omega
       have b9:¬ Sq=0:=by omega
       have ZQ:¬ (t:Int) + 1 < 0:=by omega
       have YQ:((t:Int) + 1).toNat=t + 1:=by omega
       have mW:IntKind.i64.wrap ((t:Int) + 1)=(t:Int) + 1:=Q2j _ (by omega) (by omega)
       have rJ:(t:Int) < lc.length:=by omega
       have HO:=hid Yq;have sQ:=hid Gk;have ly:=hid xj;clear Yq Gk xj K8
       go_light
       go_wp2_with (first | (go_at_call 158; refine (Z7h _ _ _ _ lp ky.out Rk.out.symm (by rw [Rk.out]; omega)).mono ?_; rintro e w5 ⟨u,rfl,hu,yq⟩; obtain ⟨bu,cu,Ff,-⟩:=hu.shape; rw [Rk.out] at Ff; subst Ff; have HU:=hid hu; have Yq:=HO.out.below yq; have Mj:=Gx.trans yq; have vq:=hid yq; clear hu) | (at_builtin; refine wpList_append_own _ rfl _ _ 168 rfl (W.heap.size) 166 i0 (.slice none 0 0) 1 24 underlying168 hi dq fq Zj rfl (by decide) _ _ _ rfl (World.ownsRow.alloc Yq _) ⟨w5.heap.size,0,none⟩ 1 1 [.slice bu (t + 1) cu] rfl rfl ?_ ?_ ?_ ?_ ?_ ?_; exact Q5y _ _ _; (focus (simp [Value.oneCell'])); (focus (unfold maxLen; omega)); (focus omega); (focus (have:=Mj.size; simp at this ⊢; omega)); intro v' w1 Oq Pq _))
       have hx':=Q3r Mj Yq (Nat.le_refl _) Pq;have ij:=Ext.box w5 (.cells #[.slice bu (t + 1) cu] 166);have S4:=Z1k (Yq.below ij) (((sQ.out.ext vq.out).snoc (HU.out.weaken (Nat.zero_le _)) (by rw [Rk.out]; omega)).ext ij) Pq
       have L7:=Q5f ((ly.out.ext vq.out).ext ij) (Yq.below ij) (by decide) Pq
       have kG:=hid S4;have Z3:=hid L7;clear S4 L7;go_roundw
       case rel=>exact ⟨t + 1,vs ++ [.slice bu (t + 1) cu],by omega,by go_num,Q0q.snoc (x:=Value.slice bu (t + 1) cu) Oq,by rw [Fj.out,<- List.append_assoc]; exact kG.out,Z3.out,hx'⟩
       case measure=>simp [intOf]; omega
     . have jZ:t=lc.length:=by omega
       subst jZ;have HO:=hid Yq;have sQ:=hid Gk;clear Yq Gk xj;go_wp2;go_roundw
       case rel=>exact ⟨i + 1,vs,by omega,by go_num,HO.out,by rw [Gf.out]; exact sQ.out,Gx⟩
       case measure=>simp [intOf]; omega
  . have pa:i=s.members.length:=by omega
    subst pa;have na:=hid (Z8z s);have iZ:=Y0c HS.out _ (Nat.le_refl _);have Dv:vs.length=s.members.length * s.ships.length:=by rw [Pz.out.1,iZ]
    have ya:1 <= s.members.length * s.ships.length:=Nat.mul_le_mul h8.1 h6.1;have vW:s.members.length * s.ships.length <= 8 * 6:=Nat.mul_le_mul h8.2 h6.2;obtain ⟨N,hN⟩:∃ N,s.members.length * s.ships.length=N:=⟨_,rfl⟩;rw [hN] at iZ Dv ya vW;obtain ⟨h1,h2⟩:=kq.out
    rcases h2 with ⟨_,h2⟩ | ⟨g,Qq,cur0,hv,Ux,hg,Ef,-⟩
    . exfalso; omega
    subst hv;clear h1 hg;rw [na.out] at Pz iZ;have S7:=hid iZ;have j4:=hid (J2r wr g Qq W.heap.size vs s.Y1a kq.out Pz.out (by omega))
    have em:vs.length=N:=Dv;rw [em];rw [iZ] at j4;clear hN Dv;go_wp2_with (go_at_call 159; refine j4.out.mono ?_; rintro e w5 ⟨rfl,ll',cur,vs',hp,GZ,OY,XX⟩; refine halted ?_);have Bw:ll'.length=N:=by rw [hp.length_eq]; exact S7.out
    have dy:ll'.length <= cur.length:=by
     have h1:=congrArg List.length OY.2.1;rw [List.length_take] at h1;have h2:=OY.2.2.1;omega
    have J4:=Z2i w5 g Qq cur vs' ll' (by omega) (by omega) (by omega) dy GZ OY
    rw [Bw] at J4;have ma:=hid J4;have HP:=hid hp;have dm:=hid XX;have gZ:=hid Gq;clear J4 hp GZ OY XX Gq dy Bw kq Pz j4;unfold Q1o;go_wp2_with (go_at_call 161; refine ma.out.mono ?_; rintro e w6 ⟨r,rfl,cm,ha,hm,-,am⟩);go_ret;have hr:r=s.hist:=Q0b.J5a (fun k hk=>HS.out.shaped k hk) ha (fun x=>by rw [hm x]; exact HP.out.mem_iff)
    subst hr;have hg:=Q8p dm.out am;exact ⟨_,rfl,cm,Rq.out.trans (Below.grown gZ.out hg gZ.out.size (fun k hk=>by cases hk; exact Ux))⟩
end Go.Proofs
namespace Go.Proofs
open Go.RowKit Go.Tw Go.Flow Tryz
attribute [local go_sem] Oper.semAt_some
theorem Z6y (w:World) (u v:Value) (a b:List Int) (hu:Q0g w u a) (hv:Q0g w v b) :
    Calls prog 143 #[u,v] w fun e w'=>e=.returned (.bool (decide (a=b))) /\ Ext w w':=by
 obtain ⟨A,Tq,rfl,mw,Cw,Xz⟩:=hu.opened;obtain ⟨B,Vq,rfl,ry,Lk,Kj⟩:=hv.opened;clear hu hv;go_enter func143,ntmps143
 by_cases hl:a.length=b.length
 . have hne:((a.length:Int) != (b.length:Int))=false:=by simp [hl]
   go_wp2
   go_loopw [13] (fun i wr=>∃ k:Nat,k <= a.length /\ i=.int .i64 k /\ decide (a.drop k=b.drop k)=decide (a=b) /\ Ext w wr) (fun i _=>a.length - (intOf i).toNat)
   case atStart=>exact ⟨0,Nat.zero_le _,rfl,rfl,Ext.refl _⟩
   case round =>
    obtain ⟨k,hk,rfl,hr,hx⟩:=hrel;have HR:=hid hr; clear hr
    by_cases Uq:k < a.length
    . have Kx:k < b.length:=by omega
      obtain ⟨b1,off1,rfl,Nx⟩:=Xz k Uq;obtain ⟨b2,off2,rfl,Yx⟩:=Kj k Kx;replace Nx:=hx.cell Nx;replace Yx:=hx.cell Yx;have U1:=hid (Q3j Uq);have qy:=hid (Q3j Kx);clear Xz Kj
      by_cases h0:ix a k=ix b k
      . have aq:(ix a k != ix b k)=false:=by simp [h0]
        have H0:=hid h0; clear h0;go_wp2
        go_quiet (fail)
        all_goals go_wp2
        go_roundw
        case rel=>exact ⟨k + 1,by omega,by go_num,by rw [<- HR.out,U1.out,qy.out,Q9o H0.out],hx.drewN _⟩
        case measure=>simp [intOf]; omega
      . have aq:(ix a k != ix b k)=true:=by simp [h0]
        have H0:=hid h0; clear h0;go_wp2
        go_quiet (fail)
        all_goals go_wp2
        go_ret;exact ⟨Q1b (by rw [<- HR.out,U1.out,qy.out,X0d H0.out]),hx.drewN _⟩
    . clear Xz Kj
      go_wp2;go_ret;exact ⟨Q1b (by rw [<- HR.out,List.drop_eq_nil_of_le (by omega),List.drop_eq_nil_of_le (by omega)]; rfl),hx⟩
 . have hne:((a.length:Int) != (b.length:Int))=true:=by simp; omega
   have HL:Hid (decide (a=b)=false):=hid (decide_eq_false (fun h=>hl (by rw [h])))
   clear hl Xz Kj;go_wp2;go_ret;exact ⟨Q1b (by rw [HL.out]),Ext.refl _⟩
theorem Z7i (w:World) (u v:Value) (a b:List Int) (hu:Q0g w u a) (hv:Q0g w v b) :
    Calls prog 175 #[u,v] w fun e w'=>e=.returned (.bool (decide (a=b))) /\ Ext w w':=by
 obtain ⟨A,Tq,rfl,mw,Cw,Xz⟩:=hu.opened;obtain ⟨B,Vq,rfl,ry,Lk,Kj⟩:=hv.opened;clear hu hv;go_enter func175,ntmps175
 by_cases hl:a.length=b.length
 . have hne:((a.length:Int) != (b.length:Int))=false:=by simp [hl]
   go_wp2
   go_loopw [13] (fun i wr=>∃ k:Nat,k <= a.length /\ i=.int .i64 k /\ decide (a.drop k=b.drop k)=decide (a=b) /\ Ext w wr) (fun i _=>a.length - (intOf i).toNat)
   case atStart=>exact ⟨0,Nat.zero_le _,rfl,rfl,Ext.refl _⟩
   case round =>
    obtain ⟨k,hk,rfl,hr,hx⟩:=hrel;have HR:=hid hr; clear hr
    by_cases Uq:k < a.length
    . have Kx:k < b.length:=by omega
      obtain ⟨b1,off1,rfl,Nx⟩:=Xz k Uq;obtain ⟨b2,off2,rfl,Yx⟩:=Kj k Kx;replace Nx:=hx.cell Nx;replace Yx:=hx.cell Yx;have U1:=hid (Q3j Uq);have qy:=hid (Q3j Kx);clear Xz Kj
      by_cases h0:ix a k=ix b k
      . have aq:(ix a k != ix b k)=false:=by simp [h0]
        have H0:=hid h0; clear h0;go_wp2
        go_quiet (fail)
        all_goals go_wp2
        go_roundw
        case rel=>exact ⟨k + 1,by omega,by go_num,by rw [<- HR.out,U1.out,qy.out,Q9o H0.out],hx.drewN _⟩
        case measure=>simp [intOf]; omega
      . have aq:(ix a k != ix b k)=true:=by simp [h0]
        have H0:=hid h0; clear h0;go_wp2
        go_quiet (fail)
        all_goals go_wp2
        go_ret;exact ⟨Q1b (by rw [<- HR.out,U1.out,qy.out,X0d H0.out]),hx.drewN _⟩
    . clear Xz Kj
      go_wp2;go_ret;exact ⟨Q1b (by rw [<- HR.out,List.drop_eq_nil_of_le (by omega),List.drop_eq_nil_of_le (by omega)]; rfl),hx⟩
 . have hne:((a.length:Int) != (b.length:Int))=true:=by simp; omega
   have HL:Hid (decide (a=b)=false):=hid (decide_eq_false (fun h=>hl (by rw [h])))
   clear hl Xz Kj;go_wp2;go_ret;exact ⟨Q1b (by rw [HL.out]),Ext.refl _⟩
theorem Tryz.Q5z (w:World):(isAgg 38).run prog w=.ok true w:=by kernel_rfl
theorem Tryz.Q2w (w:World):(sizeOf 38).run prog w=.ok 1 w:=by kernel_rfl
theorem Tryz.J4a (w:World):(sizeOf 167).run prog w=.ok 2 w:=by kernel_rfl
theorem Y9b {h:List (List Int)} {p:List Rul} (hl:¬ p.length=h.length):Q0x h p=2:=if_pos hl
theorem Z2c {h:List (List Int)} {p:List Rul} (hl:p.length=h.length) {k:Nat} (hk:k < p.length) (hne:¬ Q0m p k=h.getD k []):Q0x h p=11:=by
 unfold Q0x;rw [if_neg (fun hn=>hn hl),if_pos];intro e
 apply hne
 rw [<- e];unfold Q0m;rw [Q0u _ hk]; simp [hk]
theorem Y6t {h:List (List Int)} {p:List Rul} (hl:p.length=h.length) (ha:∀ j,j < p.length -> Q0m p j=h.getD j []):Q0x h p=0:=by
 rw [Q1n]
 apply List.ext_getElem
 . simp [hl]
 . intro i h1 h2
   have hi:i < p.length:=by simpa using h1
   have:=ha i hi;unfold Q0m at this;rw [Q0u _ hi] at this;simp only [List.getElem_map];rw [this]; simp [h2]
theorem Y1k (w:World) (v u:Value) (s:Q0b) (p:List Rul) (hv:Q0i w v s) (hu:Q0l w u p) (hS:Q0r s) (hp:p.length <= 1000) :
    Calls prog 132 #[v,u] w fun e w'=>e=.returned (.int .i64 (Q0x s.hist p)) /\ Ext w w':=by
 obtain ⟨a,b,rfl,h2⟩:=hv;obtain ⟨rv,rfl,hr⟩:=hu;obtain ⟨A,Tq,rfl,-,-,-⟩:=h2.ships.opened;obtain ⟨B,Vq,rfl,-,-,-⟩:=h2.members.opened;obtain ⟨R,Fq,rfl,-,-,dx⟩:=hr.opened;have bw:=hid dx;have D6:Hid (∀ w',Ext w w' -> Calls prog 99 #[.agg #[.int .i64 s.limit,.slice A s.ships.length Tq,.slice B s.members.length Vq]] w' fun e w''=>∃ x,e=.returned x /\ Q3z w'' x s.hist /\ Ext w' w''):=hid (fun w' hx=>Q8i w' _ s ⟨_,_,rfl,h2.ext hx⟩ hS);have s8:=Q7o hS;obtain ⟨h,hh⟩:∃ x,s.hist=x:=⟨_,rfl⟩;rw [hh] at D6 s8 ⊢;have Dx:=hid (Y9b (h:=h) (p:=p));have na:Hid (p.length=h.length -> ∀ k,k < p.length -> ¬ Q0m p k=h.getD k [] -> Q0x h p=11):=hid (fun hl k hk hn=>Z2c hl hk hn);have Zn:=hid (Y6t (h:=h) (p:=p));clear h2 hS hr dx hh;go_enter func132,ntmps132;go_wp2_with fail;change Calls _ _ _ ((w.alloc (.cells #[.int .i64 s.limit,.slice A s.ships.length Tq,.slice B s.members.length Vq] 34)).alloc (.cells #[.slice R p.length Fq] 38)) _;obtain ⟨W,Mq,k0,k1,Rq,eW⟩:=Q4p w 34 #[.int .i64 s.limit,.slice A s.ships.length Tq,.slice B s.members.length Vq] 38 #[.slice R p.length Fq];rw [Mq];clear Mq;have K0:=hid k0;have K1:=hid k1;obtain ⟨gs,Rj⟩:∃ x,w.heap.size=x:=⟨_,rfl⟩;rw [Rj] at K0 K1 eW ⊢;clear k0 k1;refine (D6.out W Rq.out).mono ?_;rintro e w5 ⟨x,rfl,hx,yq⟩;obtain ⟨H,la,rfl,-,-,C6⟩:=hx.opened;have c1:=(K1.out.ext yq).cell 0;simp only [Go.Tw.gA,Go.Tw.gB] at c1;have NY:=hid C6;have vq:=hid (Rq.out.trans yq);have b4:=hid (K1.out.ext yq);clear hx C6 yq
 by_cases hl:p.length=h.length
 . have hne:((p.length:Int) != (h.length:Int))=false:=by simp [hl]
   have HL:=hid hl;clear hl;go_wp2;clear c1
   go_loopw [19] (fun i wr=>∃ k:Nat,k <= p.length /\ i=.int .i64 k /\ (∀ j,j < k -> Q0m p j=h.getD j []) /\ Ext w5 wr) (fun i _=>p.length - (intOf i).toNat)
   case atStart=>exact ⟨0,Nat.zero_le _,rfl,fun j hj=>by omega,Ext.refl _⟩
   case round =>
    obtain ⟨k,hk,rfl,mq,Gq⟩:=hrel;have iz:=hid mq;clear mq
    by_cases Uq:k < p.length
    . obtain ⟨br,orr,xr,rfl,_,Ej,aq,Wx⟩:=bw.out k Uq
      obtain ⟨Xr,cxr,rfl,-,-,-⟩:=Wx.opened;obtain ⟨bh,oh,xh,rfl,_,ka,MY⟩:=NY.out k (by have:=HL.out; omega)
      obtain ⟨Xh,cxh,rfl,-,-,-⟩:=MY.opened;have C9:=na.out HL.out k Uq;obtain ⟨cl,hcl⟩:∃ x,Q0m p k=x:=⟨_,rfl⟩;obtain ⟨cb,Kj⟩:∃ x,Q2h p k=x:=⟨_,rfl⟩;obtain ⟨nz,VX⟩:∃ x,h.getD k []=x:=⟨_,rfl⟩;rw [hcl] at Ej Wx C9;rw [Kj] at aq;rw [VX] at ka MY C9;obtain ⟨q,hq⟩:∃ q,decide (cl=nz)=q:=⟨_,rfl⟩;have HQ:=hid hq;have J1:=hid C9;have Z5:Hid (cl=nz -> ∀ j,j < k + 1 -> Q0m p j=h.getD j []):=hid (fun he j hj=>by
       by_cases qJ:j=k
       . subst qJ; rw [hcl,VX]; exact he
       . exact iz.out j (by omega))
      have Bq:=Ext.box wr (.cells #[.slice Xr cl.length cxr,.bool cb] 167);have K3:=Blk.made wr 167 #[.slice Xr cl.length cxr,.bool cb];have S8:=hid (Wx.ext (vq.out.trans (Gq.trans Bq)));have fZ:=hid (MY.ext (Gq.trans Bq));replace Ej:=(vq.out.trans Gq).cell Ej;replace aq:=(vq.out.trans Gq).cell aq;have UX:=(Gq.trans Bq).cell ka;have d0:=K3.cell 0;simp only [Go.Tw.gA,Go.Tw.gB] at d0;have zj:(k:Int) < p.length:=by omega
      have Kr:(k:Int) < h.length:=by have:=HL.out; omega
      have jq:=hid (Gq.trans Bq);clear Wx MY C9 hcl Kj VX hq ka
      go_light
      go_wp2;obtain ⟨V,hV⟩:∃ V,wr.alloc (.cells #[.slice Xr cl.length cxr,.bool cb] 167)=V:=⟨_,rfl⟩;rw [hV] at jq S8 fZ UX d0 Bq ⊢;have Xq:=(Ext.refl V).drew;clear hV K3 Bq Gq Ej aq;refine Flow.Q1h [.p,.w,.p,.p,.p,.w,.w,.p] [0,1,2,3,4,5,6,7] [[],[0],[],[],[2,3],[4],[1,5],[6]]
       [.c 0 (.pointer (some ⟨wr.heap.size,0,none⟩)),.c 1 (.slice Xr cl.length cxr),.c 2 (.slice (some ⟨bh,oh,none⟩) h.length la),.c 3 (.int .i64 (k:Int)),.c 4 (.pointer (some ⟨bh,oh + k,none⟩)),.c 5 (.slice Xh nz.length cxh),.c 6 (.bool q),.c 7 (.bool (!q))]
       (by kernel_rfl) rfl (by kernel_rfl) ⟨?g0,?g1,?g2,?g3,?g4,?g5,?g6,?g7,trivial⟩ ?post
      case g0 | g2 | g3=>
       intro v w1 hx;intro bb hbb;subst hbb;refine ⟨_,fun w=>?_,rfl⟩;go_simp
      case g1 | g5=>
       intro v w1 hx;(repeat intro (zq:v _=_));intro bb hbb;subst hbb;have d0:=hx.cell d0;have UX:=hx.cell UX;intro K hK;go_simp;exact hK _ _ (Ext.refl _) rfl
      case g4 | g7=>
       intro v w1 hx;(repeat intro (zq:v _=_));intro bb hbb;subst hbb;refine ⟨_,fun w=>?_,rfl⟩;go_simp
      case g6=>
       intro v w1 hx;(repeat intro (zq:v _=_));intro bb hbb;subst hbb;have d0:=hx.cell d0;have UX:=hx.cell UX;intro K hK;go_simp;refine Q0e (Z7i w1 _ _ cl nz (S8.out.ext (Xq.trans hx)) (fZ.out.ext (Xq.trans hx))) ?_;rintro e w2 ⟨rfl,Nq⟩;rw [HQ.out];exact ⟨_,rfl,hK _ _ Nq rfl⟩
      case post =>
       intro v w1 hx;(iterate 8 intro (zq:v _=_));simp only [Flow.All,Flow.acts,Act.put];go_simp;have uj:=hid (jq.out.trans (Xq.trans hx));clear hx Xq d0 UX;(repeat clear zq);cases q with
       | true =>
         have ja:=hid (Z5.out (of_decide_eq_true HQ.out));go_wp2;go_roundw
         case rel=>exact ⟨k + 1,by omega,by go_num,ja.out,uj.out⟩
         case measure=>simp [intOf]; omega
       | false =>
         have ja:=hid (J1.out (of_decide_eq_false HQ.out));go_wp2;go_ret;exact ⟨Q1m ja.out.symm,vq.out.trans uj.out⟩
    . have HZ:Hid (Q0x h p=0):=hid (Zn.out HL.out (fun j hj=>iz.out j (by omega)))
      go_wp2;go_ret;exact ⟨Q1m HZ.out.symm,vq.out.trans Gq⟩
 . have hne:((p.length:Int) != (h.length:Int))=true:=by simp; omega
   have HL:=hid (Dx.out hl);clear hl;go_wp2;go_ret;exact ⟨Q1m HL.out.symm,vq.out⟩
theorem Q2g (w:World) (v u:Value) (s:Q0b) (p:List Rul) (hv:Q0i w v s) (hu:Q0l w u p) (hs:Q2r s) (hp:p.length <= 1000) :
    Calls prog 61 #[v,u] w fun e w'=>e=.returned (.int .i64 (Q1k s p)) /\ Ext w w':=by
 obtain ⟨a,b,rfl,h2⟩:=hv;obtain ⟨rv,rfl,hr⟩:=hu;obtain ⟨A,Tq,rfl,-,-,-⟩:=h2.ships.opened;obtain ⟨B,Vq,rfl,-,-,-⟩:=h2.members.opened;obtain ⟨R,Fq,rfl,-,-,-⟩:=hr.opened;have H2:=hid h2;have HR:=hid hr;have HS:=hid hs;clear h2 hr hs;go_enter func61,ntmps61;go_wp2_with fail;change Calls _ _ _ ((w.alloc (.cells #[.int .i64 s.limit,.slice A s.ships.length Tq,.slice B s.members.length Vq] 34)).alloc (.cells #[.slice R p.length Fq] 38)) _;obtain ⟨W,Mq,k0,k1,Rq,eW⟩:=Q4p w 34 #[.int .i64 s.limit,.slice A s.ships.length Tq,.slice B s.members.length Vq] 38 #[.slice R p.length Fq];rw [Mq];clear Mq;have K0:=hid k0;have K1:=hid k1;clear k0 k1;refine (Q2k _ _ s ⟨_,_,rfl,H2.out.ext Rq.out⟩ HS.out).mono ?_;rintro e w5 ⟨rfl,yq⟩;have vq:=hid (Rq.out.trans yq)
 by_cases he:s.err=0
 . have HV:=hid (Q0r.of he)
   have Vx:Hid (Q1k s p=Q0x s.hist p):=hid (if_neg (fun hn=>hn he));have hne:(s.err != 0)=false:=by simp [he]
   obtain ⟨E,hE⟩:∃ E,s.err=E:=⟨_,rfl⟩;have c0:=(K0.out.ext yq).cell 0;have c1:=(K0.out.ext yq).cell 1;have c2:=(K0.out.ext yq).cell 2;simp only [Go.Tw.gA,Go.Tw.gB,Go.Tw.gC] at c0 c1 c2;have d0:=(K1.out.ext yq).cell 0;simp only [Go.Tw.gA,Go.Tw.gB] at d0;rw [hE] at hne ⊢;clear he hE yq;go_wp2_with (go_at_call 132; refine (Y1k _ _ _ s p ⟨_,_,rfl,H2.out.ext vq.out⟩ ⟨_,rfl,HR.out.ext vq.out⟩ HV.out hp).mono ?_; rintro e w6 ⟨rfl,Mj⟩);go_ret;exact ⟨Q1m Vx.out.symm,vq.out.trans Mj⟩
 . have Vx:Hid (Q1k s p=s.err):=hid (if_pos he)
   have hne:(s.err != 0)=true:=by simp [he]
   obtain ⟨E,hE⟩:∃ E,s.err=E:=⟨_,rfl⟩;rw [hE] at hne Vx ⊢;clear he hE yq;go_wp2;go_ret;exact ⟨Q1m Vx.out.symm,vq.out⟩
theorem Y8n (w:World) (v u:Value) (s:Q0b) (l:List Int) (hv:Q0i w v s) (hu:Q0g w u l) (hs:Q0r s) (Sy:∀ x ∈ l,0 <= x /\ x < s.members.length) (Uv:l.length <= 4096) :
    Calls prog 134 #[v,u] w fun e w'=>e=.returned (.int .i64 (Q1t s l)) /\ Ext w w':=by
 obtain ⟨a,b,rfl,h2⟩:=hv;obtain ⟨A,Tq,rfl,-,-,-⟩:=h2.ships.opened;obtain ⟨B,Vq,rfl,ry,Lk,Kj⟩:=h2.members.opened;obtain ⟨U,Qq,rfl,hl,Kq,hc⟩:=hu.opened;clear hu h2;have Df:=Ext.box w (.cells #[.int .i64 s.limit,.slice A s.ships.length Tq,.slice B s.members.length Vq] 34);have k0:=Blk.made w 34 #[.int .i64 s.limit,.slice A s.ships.length Tq,.slice B s.members.length Vq];have c2:=k0.cell 2;simp only [Go.Tw.gA,Go.Tw.gB,Go.Tw.gC] at c2;clear k0;have HX:=hid Df; clear Df;have HS:=hid hs; clear hs;have D7:=hid Sy; clear Sy;have HM:Hid (s.members.length <= 8):=HS.out.some.2;go_enter func134,ntmps134;go_wp2
 go_loopw [5,10] (fun n i wr=>∃ (k:Nat) (m:Int),k <= l.length /\ i=.int .i64 k /\ n=.int .i64 m /\ m=Q5l s l k /\ Ext (w.alloc (.cells #[.int .i64 s.limit,.slice A s.ships.length Tq,.slice B s.members.length Vq] 34)) wr) (fun _ i _=>l.length - (intOf i).toNat)
 case atStart=>exact ⟨0,0,Nat.zero_le _,rfl,rfl,rfl,Ext.refl _⟩
 case round =>
  obtain ⟨k,m,hk,rfl,rfl,hr,hx⟩:=hrel;have HR:=hid hr; clear hr;replace c2:=hx.cell c2
  by_cases Uq:k < l.length
  . obtain ⟨b,off,rfl,Wq⟩:=hc k Uq
    have h3:=D7.out _ (List.getElem_mem Uq);rw [<- Q5g Uq] at h3;obtain ⟨j,hj⟩:∃ j:Nat,ix l k=j:=⟨(ix l k).toNat,by omega⟩
    obtain ⟨b',off',x,y,z,rfl,-,-,Vv,-⟩:=Kj j (by omega)
    replace Wq:=(HX.out.trans hx).cell Wq;replace Vv:=(HX.out.trans hx).cell Vv;have mz:=X9z HS.out D7.out (k + 1) (by omega)
    have rQ:Q5l s l (k + 1)=m + Q0n s.members j:=by rw [X3j Uq,HR.out,hj,Int.toNat_natCast]
    rw [rQ] at mz;rw [hj] at Wq h3;have Xg:=hid rQ; clear rQ;have i1:(k:Int) < l.length:=by omega
    have i0:(j:Int) < s.members.length:=h3.2;have i2:0 <= m + Q0n s.members j:=mz.1;have i3:m + Q0n s.members j <= 10000000:=by omega
    clear mz h3 hj hc Kj;go_wp2;go_roundw
    case rel=>exact ⟨k + 1,m + Q0n s.members j,by omega,by go_num,by go_num,Xg.out.symm,hx⟩
    case measure=>simp [intOf]; omega
  . clear hc Kj
    go_wp2;go_ret;exact ⟨Q1m (by rw [HR.out,show k=l.length by omega,Q5l,List.take_length]),HX.out.trans hx⟩
def Q7f (s:Q0b) (n:Int):Bool:=decide (n < 0) || decide ((s.members.length:Int) <= n)
theorem Q4h (w:World) (v:Value) (s:Q0b) (n:Int) (hv:Q0i w v s) :
    Calls prog 111 #[v,.int .i64 n] w fun e w'=>e=.returned (.int .i64 (Q0s (Q7f s n) 10)) /\ Ext w w':=by
 obtain ⟨a,b,rfl,h2⟩:=hv;obtain ⟨A,Tq,rfl,-,-,-⟩:=h2.ships.opened;obtain ⟨B,Vq,rfl,-,-,-⟩:=h2.members.opened;have k0:=Blk.made w 34 #[.int .i64 s.limit,.slice A s.ships.length Tq,.slice B s.members.length Vq];have HX:=hid (Ext.box w (.cells #[.int .i64 s.limit,.slice A s.ships.length Tq,.slice B s.members.length Vq] 34));have c2:=k0.cell 2;simp only [Go.Tw.gA,Go.Tw.gB,Go.Tw.gC] at c2;clear h2 k0;go_enter func111,ntmps111
 by_cases h0:n < 0
 . have HQ:Hid (Q7f s n=true):=hid (by unfold Q7f; simp [h0])
   go_wp2_with (refine (Q4u _ _ _).mono ?_; rintro e w5 ⟨rfl,rfl⟩);go_ret;exact ⟨Q1m (by rw [HQ.out]),HX.out⟩
 . obtain ⟨q,hq⟩:∃ q,decide ((s.members.length:Int) <= n)=q:=⟨_,rfl⟩
   have HQ:Hid (Q7f s n=q):=hid (by unfold Q7f; rw [hq]; simp [h0])
   go_wp2_with (refine (Q4u _ _ _).mono ?_; rintro e w5 ⟨rfl,rfl⟩);go_ret;exact ⟨Q1m (by rw [HQ.out]),HX.out⟩
theorem Tryz.X7u (w:World):(isAgg 34).run prog w=.ok true w:=by kernel_rfl
theorem Tryz.Q8v (w:World):(sizeOf 34).run prog w=.ok 3 w:=by kernel_rfl
end Go.Proofs
