/- Lists of lists whose parts are the call's own. Contracts: slices.Clone of a list; owned: a policy of the call's own. Contract: Certify. -/
import Derived.Test.YthnobngcipaljaaGreatDoorPp35
import Derived.Test.YthnobngcipaljaaGreatDoorPt01
set_option maxRecDepth 1000000
set_option maxHeartbeats 64000000
set_option linter.unusedVariables false
set_option linter.unusedSimpArgs false
set_option linter.constructorNameAsVariable false
open Go.Lib (hid)
namespace Go.Proofs
open Go.RowKit Go.Tw Go.Flow
theorem Tryz.info22:(Tryz.prog.info? 22).map (fun i=>(i.zero,i.size,i.bytes))=some (some (.slice none 0 0),1,24):=by kernel_rfl
theorem RL.insert {w:World} {vs:List Value} {ll:List (List Int)} {v:Value} {l:List Int} {n:Nat} (h:RL w vs ll) (hv:Q0q w 0 3 (.int .i64) v l) (hn:n <= ll.length):RL w (vs.take n ++ [v] ++ vs.drop n) (ll.take n ++ [l] ++ ll.drop n):=by
 obtain ⟨h1,h2⟩:=h;refine ⟨by simp [h1],fun i hi=>?_⟩
 have hlen:(ll.take n ++ [l] ++ ll.drop n).length=ll.length + 1:=by simp; omega
 rw [hlen] at hi;rw [J5a v undef n vs i (by omega),J5a l [] n ll i hn]
 by_cases h3:i < n
 . rw [if_pos h3,if_pos h3]; exact h2 i (by omega)
 . rw [if_neg h3,if_neg h3]
   by_cases h4:i=n
   . rw [if_pos h4,if_pos h4]; exact hv
   . rw [if_neg h4,if_neg h4]; exact h2 (i - 1) (by omega)
theorem J6q {α:Type} (a b:List α) (d:α) (j:Nat):(a ++ b).getD j d=if j < a.length then a.getD j d else b.getD (j - a.length) d:=by
 by_cases h:j < a.length
 . rw [if_pos h]; simp [List.getElem?_append_left h]
 . rw [if_neg h]; simp [List.getElem?_append_right (show a.length <= j by omega)]
theorem RL.app {w:World} {vs us:List Value} {ll mm:List (List Int)} (h:RL w vs ll) (k:RL w us mm):RL w (vs ++ us) (ll ++ mm):=by
 refine ⟨by simp [h.1,k.1],fun j hj=>?_⟩
 rw [J6q,J6q,h.1];rw [List.length_append] at hj
 by_cases h3:j < ll.length
 . rw [if_pos h3,if_pos h3]; exact h.2 j h3
 . rw [if_neg h3,if_neg h3]; exact k.2 _ (by omega)
theorem J5d {K:Value -> World -> Prop} {o:Oper} {a:Act} {w:World} (s x:Operand) (ho:o.op=.call { callee:=.builtin .append,args:=#[s,x],argTypes:=#[72,72] })
    {B:Nat} {v u:Value} {L M:List (List Int)} (hs:a.eval s=v) (h1:LL w B v L) (hx:a.eval x=u) (h2:LL w B u M) (hL:L.length <= 2000) (hM:M.length <= 2000) (hB:B <= w.heap.size)
    (hK:∀ v' w',LL w' B v' (L ++ M) -> Below B w w' -> K v' w'):gives Tryz.prog K ((execOp a.eval o).run Tryz.prog w):=by
 obtain ⟨i0,hi,hz0,hz1,hz2⟩:=info_parts Tryz.info22;obtain ⟨vs,o1,m1⟩:=h1;obtain ⟨us,o2,m2⟩:=h2;have l1:=m1.1;have l2:=m2.1;exact Q5d s x 72 ho B 22 i0 (.slice none 0 0) 24 Tryz.underlying72 hi hz0 hz1 hz2 rfl idV v u vs us hs o1 hx (Y7q o2) m2.one (by omega) (by decide) hB fun v' w' hown hg=>hK _ _ ⟨vs ++ us,hown,(m1.grown o1 (by decide) hg).app (m2.grown o1 (by decide) hg)⟩ (below_grown o1 hg (Nat.le_refl _) hB)
theorem J7n {w:World} {b o n c:Nat} {l:List Int} (h:Q0d w (.slice (some ⟨b,o,none⟩) n c) l) (hn:l.length=n):∀ j u,(l.map (Value.int .i64))[j]?=some u -> w.cell? ((⟨b,o,none⟩:Addr).add j)=some u:=by
 subst hn;obtain ⟨A,cap,hv,hl,hcap,hc⟩:=h.opened;cases hv;intro j u hj;rw [List.getElem?_map] at hj;obtain ⟨y,hy,rfl⟩:=Option.map_eq_some_iff.1 hj;obtain ⟨hjl,rfl⟩:=List.getElem?_eq_some_iff.1 hy;obtain ⟨b',off',he,hcell⟩:=hc j hjl;cases he;rw [addr_add,hcell,Q4s hjl]
theorem J6l {h:List Int} {row:List (List Int)} {n:Nat} (hn:n=Q2x h row row.length) (h0:n=0 ∨ row.getD (n - 1) [] ≠ h):Q9j h row=row.take n ++ [h] ++ row.drop n:=by
 unfold Q9j;simp only [<- hn];rw [if_neg];rintro ⟨h1,h2⟩
 rcases h0 with h0 | h0
 . omega
 . exact h0 h2
theorem J8p {h:List Int} {row:List (List Int)} {n:Nat} (hn:n=Q2x h row row.length) (h0:0 < n) (he:row.getD (n - 1) []=h):Q9j h row=row:=by
 unfold Q9j;simp only [<- hn];rw [if_pos ⟨h0,he⟩]
theorem J7e {s:Q0b} {t i:Nat} (hi:i <= s.members.length) (h:∀ k,k < s.members.length -> t + 1 <= (Q0c s.members k).length):∀ j,j < (s.X0s t i).length -> ((s.X0s t i).getD j []).length=t + 1:=by
 intro j hj;rw [Q0v _ hj];obtain ⟨k,hk,he⟩:=(Q0b.X4u t _ i).1 (List.getElem_mem hj);rw [he,List.length_take];have:=h k (by omega)
 omega
theorem J8d {s:Q0b} (hS:Q1b s) {w:World} {B:Nat} {x:Value} (h:LL w B x s.hist):Q2z w x s.hist:=by
 refine h.read (by have:=Z5n hS; omega) fun j hj=>?_
 rw [Q0v _ hj];have:=Z2v hS _ (List.getElem_mem hj);omega
theorem J6v {α:Type} {enc:α -> List Value} {k:Nat} (hk:∀ x,(enc x).length=k) {x:Value} {y:α}:∀ (l:List α) (i j:Nat) (hi:i < l.length),j < k -> enc y=(enc l[i]).set j x -> (l.flatMap enc).set (i * k + j) x=(l.set i y).flatMap enc
 | a :: l,0,j,_,hj,he=>by
   rw [List.set_cons_zero,List.flatMap_cons,List.flatMap_cons,he,Nat.zero_mul,Nat.zero_add,List.set_append_left _ _ (by rw [hk]; exact hj)]
   rfl
 | a :: l,i + 1,j,hi,hj,he=>by
   have ih:=J6v hk l i j (by simpa using hi) hj (by simpa using he)
   rw [List.set_cons_succ,List.flatMap_cons,List.flatMap_cons,<- ih,List.set_append_right _ _ (by rw [hk,Nat.add_mul]; omega)]
   congr 2
   rw [hk,Nat.add_mul];omega
theorem J8k {α:Type} {w:World} {base k:Nat} {e:TypeId} {enc:α -> List Value} {v:Value} {l:List α} (h:Q0z w base e k enc v l) (h0:0 < l.length) :
    ∃ g cap cur,v=.slice (some ⟨g,0,none⟩) l.length cap /\ base <= g /\ Blk w g e cur /\ l.length <= cap /\ cap <= maxLen /\ cur.size=cap * k /\ cur.toList.take (l.length * k)=l.flatMap enc:=by
 rcases h.2 with ⟨_,hn⟩ | ⟨g,cap,cur,hv,hb,hg,hc,hm,hs,ht⟩
 . omega
 . exact ⟨g,cap,cur,hv,hb,hg,hc,hm,hs,ht⟩
theorem J8r {α:Type} {w':World} {base k g cap:Nat} {e:TypeId} {enc:α -> List Value} {cur:Array Value} {l:List α} {i j:Nat} {x:Value} {y:α} (hk:∀ x,(enc x).length=k) (hb:base <= g) (hc:l.length <= cap) (hm:cap <= maxLen) (hs:cur.size=cap * k) (ht:cur.toList.take (l.length * k)=l.flatMap enc)
    (hi:i < l.length) (hj:j < k) (he:enc y=(enc l[i]).set j x) (hw:Blk w' g e (cur.setIfInBounds (i * k + j) x)):Q0z w' base e k enc (.slice (some ⟨g,0,none⟩) l.length cap) (l.set i y):=by
 refine ⟨by rw [X0z hk],.inr ⟨g,cap,_,by rw [List.length_set],hb,hw,by rw [List.length_set]; exact hc,hm,by simpa using hs,?_⟩⟩
 rw [List.length_set,Array.toList_setIfInBounds,List.take_set,ht,J6v hk l i j hi hj he]
theorem J8c {α:Type} {w:World} {g k:Nat} {e:TypeId} {enc:α -> List Value} {cur:Array Value} {l:List α} (hk:∀ x,(enc x).length=k) (hb:Blk w g e cur) (ht:cur.toList.take (l.length * k)=l.flatMap enc) {i j:Nat} (hi:i < l.length) (hj:j < k):w.cell? ⟨g,i * k + j,none⟩=(enc l[i])[j]?:=by
 rw [hb.cell,<- flat_get hk l i j hi hj,<- ht,List.getElem?_take,if_pos,Array.getElem?_toList];have:(i + 1) * k <= l.length * k:=Nat.mul_le_mul_right k hi;rw [Nat.add_mul] at this;omega
end Go.Proofs
namespace Go.Proofs
open Go.RowKit Go.Tw Go.Flow
attribute [local go_sem] Oper.semAt_some
theorem clone_any (w:World) (v:Value) (l:List Int) (hv:Q0d w v l) :
    Calls Tryz.prog 174 #[v] w fun e w'=>∃ u,e=.returned u /\ Q0q w' 0 3 (.int .i64) u l /\ Ext w w':=by
 obtain ⟨A,cap,rfl,hl,hcap,hc⟩:=hv.opened;cases A with
 | none =>
   have hz:l=[]:=by
    cases l with
    | nil=>rfl
    | cons x l=>obtain ⟨b,off,he,_⟩:=hc 0 (by simp); cases he
   subst hz;exact (Tryz.slices_Clone_int_nil _ _ _).mono fun e w' ⟨he,hw⟩=>⟨_,he,Q0q.nil _ _ _ _,by rw [hw]; exact Ext.refl _⟩
 | some a =>
   by_cases h0:l.length=0
   . have hz:l=[]:=List.length_eq_zero_iff.1 h0
     subst hz;exact (Tryz.slices_Clone_int_zero _ _ _).mono fun e w' ⟨v',he,hown,_,hx⟩=>⟨_,he,Q0q.weaken (show Q0q w' w.heap.size 3 (.int .i64) v' [] from hown) (Nat.zero_le _),hx⟩
   . obtain ⟨b,off,he,_⟩:=hc 0 (by omega)
     cases he;refine (Tryz.slices_Clone_int b off l.length cap l w (Nat.le_refl _) (by omega) (fun j hj=>?_)).mono fun e w' ⟨v',he,hown,_,hx⟩=>⟨_,he,Q0q.weaken (show Q0q w' w.heap.size 3 (.int .i64) v' l from by unfold Q0q; rw [List.take_length] at hown; exact hown) (Nat.zero_le _),hx⟩
     obtain ⟨b',off',he,h⟩:=hc j hj;cases he;exact h
theorem J5v (cur:Array Value) (vs:List Value) (h:vs.length=cur.size):Q2s cur 0 vs=vs.toArray:=by
 apply Array.ext_getElem?
 intro j;rw [Q4w _ _ _ _ (by omega)]
 by_cases hj:j < vs.length
 . rw [if_pos (by omega),Nat.sub_zero,List.getElem?_toArray]
 . rw [if_neg (by omega),Array.getElem?_eq_none (show cur.size <= j by omega)]
   symm
   rw [Array.getElem?_eq_none];rw [List.size_toArray]; omega
theorem J4t {P:Program} {w:World} {ops:Array Oper} {rest:List Oper} {o:Oper} {a:Act} {Q:Exit -> Act -> World -> Prop} (hgd:o.guard=none) (d s:Operand) (dT sT:TypeId) (ho:o.op=.call { callee:=.builtin .copy,args:=#[d,s],argTypes:=#[dT,sT] })
    (elem:TypeId) (hu:P.underlying dT=some (.slice elem)) {sz:Nat} (hs:∀ w,(sizeOf elem).run P w=.ok sz w) {n dcap scap:Nat} {g:Nat} {sp:Option Addr} (hd:a.eval d=.slice (some ⟨g,0,none⟩) n dcap) (hsv:a.eval s=.slice sp n scap)
    {T:TypeId} {cur:Array Value} (hb:Blk w g T cur) (cs:List Value) (hlen:cs.length=n * sz) (hsrc:∀ j v,cs[j]?=some v -> ∃ b off,sp=some ⟨b,off,none⟩ /\ w.cell? ⟨b,off + j,none⟩=some v) (hfit:cs.length <= cur.size) (h1:∀ v ∈ cs,v.oneCell'=true)
    (hK:∀ w',Blk w' g T (Q2s cur 0 cs) -> (∀ n,n <= g -> Below n w w') -> (∀ k,k ≠ g -> w'.heap[k]?=w.heap[k]?) -> wpList P ops Q rest (a.put o.dst (goInt n)) w'):wpList P ops Q (o :: rest) a w:=by
 refine wpList_plain hgd fun K' hK'=>?_;unfold Oper.wp;obtain ⟨w',hr,hb',hl,hoo⟩:=J6b (P:=P) dT sT o.type elem hu hs n dcap scap hb sp cs hlen hsrc hfit h1;have hr2:(execOp a.eval o).run P w=.ok (.value (goInt n)) w':=by
  unfold execOp;simp only [ho,resolve,invoke,builtin,Sem.run_bind,Sem.run_pure,Result.andThen_ok,List.map_toArray,List.map_cons,List.map_nil,hd,hsv,hr]
 rw [hr2];exact hK' _ _ (hK w' hb' hl hoo)
def J6h (p:List Rul) (c:Nat -> Value):List (Value × Rul):=(List.range p.length).map fun k=>(c (k * 2),p.getD k default)
theorem J4r (p:List Rul) (c:Nat -> Value):(J6h p c).length=p.length:=by unfold J6h; simp
theorem J7m (p:List Rul) (c:Nat -> Value):(J6h p c).map (·.2)=p:=by
 unfold J6h;rw [List.map_map]
 apply List.ext_getElem
 . simp
 . intro i h1 h2
   simp [h2]
theorem J5j (p:List Rul) (c:Nat -> Value) {k:Nat} (hk:k < (J6h p c).length):(J6h p c)[k]=(c (k * 2),⟨Q0n p k,Q3p p k⟩):=by
 unfold J6h Q0n Q3p;simp
theorem J6n {w:World} {A:Option Addr} {n:Nat} {p:List Rul} {c:Nat -> Value} (hc:∀ j,j < n * 2 -> ∃ b off,A=some ⟨b,off,none⟩ /\ w.cell? ⟨b,off + j,none⟩=some (c j)) (hn:p.length=n) (h2:∀ k (h:k < p.length),Z9c w (fun i=>c (k * 2 + i)) p[k]) :
    ∀ j v,((J6h p c).flatMap X8h)[j]?=some v -> ∃ b off,A=some ⟨b,off,none⟩ /\ w.cell? ⟨b,off + j,none⟩=some v:=by
 subst hn;intro j v hj;have hlen:=X0z Y8f (J6h p c);rw [J4r] at hlen;have hjl:j < ((J6h p c).flatMap X8h).length:=(List.getElem?_eq_some_iff.1 hj).1;obtain ⟨b,off,hA,hcell⟩:=hc j (by omega)
 refine ⟨b,off,hA,?_⟩;rw [hcell];have e:j=j / 2 * 2 + j % 2:=by omega
 have hk:j / 2 < (J6h p c).length:=by rw [J4r]; omega
 rw [e,flat_get Y8f (J6h p c) (j / 2) (j % 2) hk (by omega),J5j] at hj
 have hk':j / 2 < p.length:=by rw [J4r] at hk; exact hk
 obtain ⟨_,h1⟩:=h2 (j / 2) hk';have h1:c (j / 2 * 2 + 1)=.bool p[j / 2].close:=h1
 rcases Nat.mod_two_eq_zero_or_one j with hm | hm
 . rw [hm] at hj e
   rw [e]
   simpa [X8h] using hj
 . rw [hm] at hj e
   rw [e,h1];have:Q3p p (j / 2)=p[j / 2].close:=by unfold Q3p; rw [Q0v _ hk']
   simpa [X8h,this] using hj
theorem Q0z.J9k {α:Type} {w:World} {base g n k:Nat} {e:TypeId} {enc:α -> List Value} {l:List α} (hk:∀ x,(enc x).length=k) (hb:Blk w g e (l.flatMap enc).toArray) (hl:l.length=n) (hg:base <= g) (hn:n <= maxLen):Q0z w base e k enc (.slice (some ⟨g,0,none⟩) n n) l:=by
 subst hl;refine ⟨X0z hk l,.inr ⟨g,l.length,_,rfl,hg,hb,Nat.le_refl _,hn,?_,?_⟩⟩
 . rw [List.size_toArray,X0z hk]
 . rw [<- X0z hk l,List.take_length]
def J7b (w:World) (qs:List (Value × Rul)) (k:Nat):Prop:=∀ j (h:j < qs.length),j < k -> Q0q w 0 3 (.int .i64) qs[j].1 qs[j].2.classes
theorem J7b.set {w:World} {qs:List (Value × Rul)} {k:Nat} {u:Value} {r:Rul} (h:J7b w qs k) (hu:Q0q w 0 3 (.int .i64) u r.classes):J7b w (qs.set k (u,r)) (k + 1):=by
 intro j hj hk;rw [List.length_set] at hj
 by_cases e:k=j
 . subst e
   rw [List.getElem_set_self]; exact hu
 . rw [List.getElem_set_ne e]
   exact h j hj (by omega)
theorem J8f:∀ (qs:List (Value × Rul)) {k:Nat} (hk:k < qs.length) {u:Value},(qs.flatMap X8h).toArray.setIfInBounds (k * 2) u=((qs.set k (u,qs[k].2)).flatMap X8h).toArray:=by
 intro qs
 induction qs with
 | nil=>intro k hk; simp at hk
 | cons q qs ih =>
   intro k hk u;cases k with
   | zero=>simp [X8h]
   | succ k =>
     have h:=ih (k:=k) (by simpa using hk) (u:=u)
     simp only [List.setIfInBounds_toArray,Array.mk.injEq] at h;simp only [List.flatMap_cons,List.setIfInBounds_toArray,List.set_cons_succ,List.getElem_cons_succ,X8h,Array.mk.injEq];rw [<- h,show (k + 1) * 2=k * 2 + 1 + 1 by omega]
     rfl
theorem J8n {p:List Rul} {qs:List (Value × Rul)} {k:Nat} {x v:Value} {r:Rul} (hk:k < qs.length) (h:qs.map (·.2)=p) (e:qs[k]=(x,r)):p.set k ((v,r):Value × Rul).2=p:=by
 have:(qs.map (·.2))[k]'(by simpa using hk)=r:=by rw [List.getElem_map,e]
 subst h
 apply List.ext_getElem
 . simp
 . intro i h1 h2
   by_cases hi:k=i
   . subst hi; rw [List.getElem_set_self]; exact this.symm
   . rw [List.getElem_set_ne hi]
def J5s (w w':World) (p:List Rul) (n:Nat) (e:Ending):Prop:=∃ g qs,e=.returned (.agg #[.slice (some ⟨g,0,none⟩) n n]) /\ Blk w' g 167 (qs.flatMap X8h).toArray /\ w.heap.size <= g /\ qs.map (·.2)=p /\ RuR w' qs /\ Ext w w'
theorem J4s {w:World} {g:Nat} {T:TypeId} {cs:Array Value} (h:Blk w g T cs) {p:Addr} (hne:g ≠ p.block) (u:Value):Blk (w.setCell p u) g T cs:=by
 unfold Blk at *; rw [Below.heap_setCell _ _ _ _ hne]; exact h
theorem J8b (w:World) (v:Value) (p:List Rul) (hv:Q0w w v p) (hl:p.length <= 1000) (h8:∀ k,k < p.length -> (Q0n p k).length <= 4096) :
    Calls Tryz.prog 131 #[v] w fun e w'=>J5s w w' p p.length e:=by
 obtain ⟨i0,hi,hz0,hz1,hz2⟩:=info_parts Tryz.Z9b;obtain ⟨a,rfl,hr⟩:=hv;obtain ⟨c,⟨A,cap,rfl,-,-,hc⟩,h2⟩:=hr;have HOR:Hid (∀ w',Ext w w' -> ∀ j v,((J6h p c).flatMap X8h)[j]?=some v -> ∃ b off,A=some ⟨b,off,none⟩ /\ w'.cell? ⟨b,off + j,none⟩=some v):=hid (fun w' hx j v hj=>by
  obtain ⟨b,off,h1,h3⟩:=J6n hc rfl h2 j v hj;exact ⟨b,off,h1,hx.cell h3⟩)
 have HVI:Hid (∀ k,k < p.length -> Q0d w (c (k * 2)) (Q0n p k)):=hid (fun k hk=>by
  obtain ⟨h3,_⟩:=h2 k hk;unfold Q0n;rw [Q0v _ hk];exact h3)
 have hq0:=J7m p c;have hql:=J4r p c;have HGET:=hid (fun k (hk:k < (J6h p c).length)=>J5j p c hk);have hone:∀ u ∈ (J6h p c).flatMap X8h,u.oneCell'=true:=by
  intro u hu;obtain ⟨q,hq,hu⟩:=List.mem_flatMap.1 hu;obtain ⟨k,hk,rfl⟩:=List.getElem_of_mem hq;rw [J5j] at hu;have hi:=HVI.out k (by rw [hql] at hk; exact hk)
  obtain ⟨A',cap',he,_⟩:=hi.opened;simp only [X8h,List.mem_cons,List.not_mem_nil,or_false] at hu
  rcases hu with rfl | rfl
  . rw [he]; rfl
  . rfl
 obtain ⟨q0,hq⟩:∃ x,J6h p c=x:=⟨_,rfl⟩;rw [hq] at HOR HGET hq0 hql hone;obtain ⟨n,hn⟩:∃ n,p.length=n:=⟨_,rfl⟩;have HN:=hid hn;rw [hn] at hl hql HVI ⊢;have H8:=hid h8;have HONE:=hid hone;have HQ0:=hid hq0;have hfl:=X0z Y8f q0;rw [hql] at hfl;have HFL:=hid hfl;have HQL:=hid hql;clear hc h2 hq hn hq0 hone h8 hfl hql;go_enter Tryz.func131,Tryz.ntmps131;go_wp2_with (refine Q1z (o:=⟨some 9,_,_,_,_,_⟩) rfl ?_; refine J7a (.tmp 8) _ _ rfl i0 _ 2 32 Tryz.underlying36 hi hz0 hz1 hz2 n rfl (by omega) (by decide) ?_; refine halted ?_)
 unfold Q1i;obtain ⟨W,hWW,k0,k1,k2,HXW,eW⟩:=X2z w 38 #[.slice A n cap] 38 #[.slice none 0 0] 167 (madeCells #[.slice none 0 0,.bool false] (n * 2));rw [hWW];clear hWW;obtain ⟨gs,hgs⟩:∃ x,w.heap.size=x:=⟨_,rfl⟩;have HGS:=hid hgs;rw [hgs] at k0 k1 k2 eW ⊢;clear hgs;obtain ⟨g,hg⟩:∃ x,gs + 1 + 1=x:=⟨_,rfl⟩;have HG:=hid hg;rw [hg] at k2 eW ⊢;have hgl:gs + 1 < g:=by omega
 have c0:=k0.cell 0;simp only [Go.Tw.gA,Go.Tw.gB] at c0;have K1:=hid k1;have K2:=hid k2;have HFS:Hid ((q0.flatMap X8h).length=(madeCells #[Value.slice none 0 0,.bool false] (n * 2)).size):=hid (by rw [HFL.out]; simp [madeCells])
 clear k0 k1 k2 hg;go_wp2_with (refine J4t rfl (.tmp 10) (.tmp 12) _ _ rfl 167 Tryz.underlying36 (sz:=2) Tryz.J8q (n:=n) (g:=g) rfl rfl K2.out (q0.flatMap X8h) (by rw [HFL.out]) (HOR.out _ HXW.out) (by rw [HFS.out]; exact Nat.le_refl _) HONE.out ?_; intro w4 hb4 hl4 ho4; refine halted ?_)
 unfold Q1i;rw [J5v _ _ HFS.out] at hb4;have HK1:=hid (K1.out.below (hl4 g (Nat.le_refl _)) hgl);have HSZ:Hid (w.heap.size <= g):=hid (by have:=HG.out; have:=HGS.out; omega)
 have HX4:Hid (Ext w w4):=hid (Below.trans HXW.out (hl4 _ HSZ.out));have HB4:=hid hb4;clear hb4 hl4 ho4 c0 K2;go_wp2_with fail
 go_loopw [16] (fun i wr=>∃ (k:Nat) (qs:List (Value × Rul)),k <= n /\ i=.int .i64 k /\ qs.length=n /\ qs.map (·.2)=p /\ (∀ j,k <= j -> qs[j]?=q0[j]?) /\ J7b wr qs k /\ Blk wr g 167 (qs.flatMap X8h).toArray /\ Below g w4 wr) (fun i _=>n - (intOf i).toNat)
 case atStart=>exact ⟨0,q0,Nat.zero_le _,rfl,HQL.out,HQ0.out,fun _ _=>rfl,(fun j _ h=>absurd h (Nat.not_lt_zero _)),HB4.out,Below.refl _ _⟩
 case round =>
  obtain ⟨k,qs,hk,rfl,hql,hqs,hre,hru,hbo,hlow⟩:=hrel;have hxr:Ext w wr:=Below.trans HX4.out (hlow.mono HSZ.out);have HQN:=hid hql;have HQS:=hid hqs;have HRE:=hid hre;have HRU:=hid hru;have HBO:=hid hbo;have HLO:=hid hlow;have HXR:=hid hxr
  by_cases hlt:k < n
  . have hkI:(k:Int) < n:=by omega
    have hkq:k < qs.length:=by omega
    have hk0:k < q0.length:=by have:=HQL.out; omega
    have hqk:qs[k]=(c (k * 2),⟨Q0n p k,Q3p p k⟩):=by
     have h:=hre k (Nat.le_refl _);rw [List.getElem?_eq_getElem hkq,List.getElem?_eq_getElem hk0] at h;injection h with h;rw [h]; exact HGET.out k hk0
    have hi0:=HVI.out k hlt;have hl8:=H8.out k (by rw [HN.out]; exact hlt)
    have e0:wr.cell? ⟨g,k * 2,none⟩=some (c (k * 2)):=by
     rw [hbo.cell,List.getElem?_toArray,show k * 2=k * 2 + 0 from rfl,flat_get Y8f qs k 0 hkq (by omega),hqk]; rfl
    have e1:wr.cell? ⟨g,k * 2 + 1,none⟩=some (.bool (Q3p p k)):=by
     rw [hbo.cell,List.getElem?_toArray,flat_get Y8f qs k 1 hkq (by omega),hqk]; rfl
    obtain ⟨cv,hcv⟩:∃ z,c (k * 2)=z:=⟨_,rfl⟩;rw [hcv] at hi0 e0 hqk;obtain ⟨X,capx,rfl,-,-,-⟩:=hi0.opened;obtain ⟨cs,hcs⟩:∃ z,Q0n p k=z:=⟨_,rfl⟩;obtain ⟨cb,hcb⟩:∃ z,Q3p p k=z:=⟨_,rfl⟩;rw [hcs] at e0 hi0 hqk hl8;rw [hcb] at e1 hqk;have hbx:=Ext.box wr (.cells #[.slice X cs.length capx,.bool cb] 167);have hbk:=Blk.made wr 167 #[.slice X cs.length capx,.bool cb];have d0:=hbk.cell 0;simp only [Go.Tw.gA,Go.Tw.gB] at d0;have HI:=hid (hi0.ext (hxr.trans hbx));have HBX:=hid hbx;have HQK:=hid hqk;have HKQ:=hid hkq;clear hql hqs hre hru hbo hlow hxr hk0 hqk hi0 hcv hcs hcb hbk;go_wp2_with fail;obtain ⟨wb,hwb⟩:∃ Z,wr.alloc (.cells #[.slice X cs.length capx,.bool cb] 167)=Z:=⟨_,rfl⟩;rw [hwb] at d0 HI HBX hbx ⊢;refine (clone_any _ _ cs HI.out).mono ?_;rintro e w5 ⟨u,rfl,hu,hx5⟩;obtain ⟨bu,cu,rfl,-⟩:=hu.shape;have HU:=hid hu;have HX5:=hid (HBX.out.trans hx5);have HB5:=hid (HBO.out.ext HX5.out);have e5:=HX5.out.cell e0;have f5:=HB5.out.frozen (k * 2);have hb7:=HB5.out.set (k * 2) (.slice bu cs.length cu);rw [J8f qs HKQ.out,HQK.out] at hb7;have HB7:=hid hb7;have HR7:Hid (J7b (w5.setCell ⟨g,k * 2,none⟩ (.slice bu cs.length cu)) (qs.set k (.slice bu cs.length cu,⟨cs,cb⟩)) (k + 1)):=hid (J7b.set (fun j h hj=>Q8a ((HRU.out j h hj).below HX5.out) HB5.out (by decide)) (Q8a HU.out HB5.out (by decide)))
    have HBW:=hid ((HLO.out.trans (HX5.out.mono (by have:=HBO.out.lt; omega))).setCell (p:=⟨g,k * 2,none⟩) (Nat.le_refl g) (.slice bu cs.length cu))
    clear d0 e0 e1 hwb hbx hu hx5 hb7;go_wp2;go_roundw
    case rel=>exact ⟨k + 1,qs.set k (.slice bu cs.length cu,⟨cs,cb⟩),by omega,by go_num,by rw [List.length_set]; exact HQN.out,by rw [List.map_set,HQS.out]; exact J8n HKQ.out HQS.out HQK.out,(fun j hj=>by rw [List.getElem?_set_ne (by omega)]; exact HRE.out j (by omega)),HR7.out,HB7.out,HBW.out⟩
    case measure=>simp [intOf]; omega
  . have hkI:¬ (k:Int) < n:=by omega
    obtain rfl:k=n:=by omega
    have hk1:=HK1.out.below hlow hgl;have c1:wr.cell? ⟨gs + 1,0,none⟩=some (.slice none 0 0):=hk1.cell 0;have f1:=hk1.frozen 0;have HK1b:=hid hk1;clear hql hqs hre hru hbo hlow hxr hk1;go_wp2;refine bodyPost_ret (Q1v Tryz.results131 rfl (HK1b.out.set 0 _) Tryz.Q8b Tryz.Q4b) rfl ?_;have hr:RuR wr qs:=fun q hq=>by
     obtain ⟨j,hj,rfl⟩:=List.getElem_of_mem hq;exact HRU.out j hj (by have:=HQN.out; omega)
    unfold J5s;exact ⟨g,qs,rfl,J4s HBO.out (p:=⟨gs + 1,0,none⟩) (show g ≠ gs + 1 by omega) _,HSZ.out,HQS.out,hr.set HK1b.out (by decide),HXR.out.Y0h (p:=⟨gs + 1,0,none⟩) (by show w.heap.size <= gs + 1; have:=HGS.out; omega) _⟩
theorem J7s (w:World) (v:Value) (p:List Rul) (hv:Q0w w v p) (hl:p.length <= 1000) (h8:∀ k,k < p.length -> (Q0n p k).length <= 4096) :
    Calls Tryz.prog 131 #[v] w fun e w'=>∃ x,e=.returned x /\ Q0w w' x p /\ Ext w w' :=
 (J8b w v p hv hl h8).mono fun e w' ⟨g,qs,he,hb,hg,hq,hr,hx⟩=>by
  subst hq;rw [List.length_map] at he hl;have h:=X7y (Q0z.J9k (base:=0) Y8f hb rfl (Nat.zero_le _) (by unfold maxLen; omega)) (by omega) hr (fun q hq=>by
   obtain ⟨j,hj,rfl⟩:=List.getElem_of_mem hq;have:=h8 j (by rw [List.length_map]; exact hj)
   unfold Q0n at this;rw [Q0v _ (by rw [List.length_map]; exact hj),List.getElem_map] at this
   exact this)
  exact ⟨_,he,⟨_,rfl,h⟩,hx⟩
end Go.Proofs
namespace Go.Proofs
open Go.RowKit Go.Tw Go.Flow
attribute [local go_sem] Oper.semAt_some
theorem Tryz.J6c (w:World):(isAgg 124).run Tryz.prog w=.ok true w:=by kernel_rfl
theorem Tryz.J2x (w:World):(sizeOf 124).run Tryz.prog w=.ok 2 w:=by kernel_rfl
theorem J3i {a b:World} {g n c m d:Nat} {T:TypeId} {A B:Option Addr} {v:Value} {l:List Rul} (h:Q3m a v l) (hg:Blk a g T #[.slice A n c,.slice B m d]) (hk:∀ k,k < a.heap.size -> k ≠ g -> b.heap[k]?=a.heap[k]?):Q3m b v l:=by
 obtain ⟨f,⟨A',cap,hv,hn,hcap,hc⟩,h2⟩:=h;refine ⟨f,⟨A',cap,hv,hn,hcap,fun j hj=>?_⟩,fun j hj=>?_⟩
 . obtain ⟨b',off,hA,hcell⟩:=hc j hj
   obtain ⟨b2,off2,hA2,hcell2⟩:=hc (j / 2 * 2 + 1) (by omega)
   rw [hA] at hA2;injection hA2 with hA2;injection hA2 with e1 e2 _;subst e1;have e:=(h2 (j / 2) (by omega)).2
   simp only at e;exact ⟨b',off,hA,X1g hcell (Y2b hg hcell2 (by rw [e]; intro _ _ _ hh; cases hh)) hk⟩
 . obtain ⟨x,y⟩:=h2 j hj
   exact ⟨Y9q x hg hk,y⟩
def J8t (s:Q0b) (p:List Rul):List Rul:=if Q1g s p=0 then p else []
def J8s (s:Q0b) (p:List Rul) (e:Ending) (w':World):Prop:=∃ x y,e=.returned (.tuple #[.agg #[x,y],.int .i64 (Q1g s p)]) /\ Q3m w' x (J8t s p) /\ Q0d w' y (Y8s s p)
theorem J5z (w:World) (v u:Value) (s:Q0b) (p:List Rul) (hv:Q0h w v s) (hu:Q0w w u p) (hs:Q3k s) (hp:p.length <= 1000) (h8:∀ k,k < p.length -> (Q0n p k).length <= 4096) :
    Calls Tryz.prog 71 #[v,u] w fun e w'=>J8s s p e w' /\ Ext w w':=by
 obtain ⟨a,b,rfl,h2⟩:=hv;obtain ⟨rv,rfl,hr⟩:=hu;obtain ⟨A,capa,rfl,-,-,-⟩:=h2.ships.opened;obtain ⟨B,capb,rfl,-,-,-⟩:=h2.members.opened;obtain ⟨R,capr,rfl,-,-,-⟩:=hr.opened;have H2:=hid h2;have HR:=hid hr;have HS:=hid hs;have HPL:=hid hp;have HP8:=hid h8;obtain ⟨E,hE⟩:∃ z,Q1g s p=z:=⟨_,rfl⟩;have HE:=hid hE;obtain ⟨N,hN⟩:∃ z,p.length=z:=⟨_,rfl⟩;have HN:=hid hN;rw [hN] at HR ⊢;clear h2 hr hs hE hN hp h8;go_enter Tryz.func71,Tryz.ntmps71;go_wp2_with fail;change Calls _ _ _ (((w.alloc (.cells #[.int .i64 s.limit,.slice A s.ships.length capa,.slice B s.members.length capb] 34)).alloc (.cells #[.slice R N capr] 38)).alloc (.cells #[.slice none 0 0,.slice none 0 0] 124)) _;obtain ⟨W,hWW,k0,k1,k2,HXW,eW⟩:=X2z w 34 #[.int .i64 s.limit,.slice A s.ships.length capa,.slice B s.members.length capb] 38 #[.slice R N capr] 124 #[.slice none 0 0,.slice none 0 0];rw [hWW];clear hWW;obtain ⟨gs,hgs⟩:∃ x,w.heap.size=x:=⟨_,rfl⟩;have HGS:=hid hgs;rw [hgs] at k0 k1 k2 eW ⊢;have K1:=hid k1;have K2:=hid k2;clear k0 k1 k2 hgs;have HPO:Hid (∀ W',Ext W W' -> Q0w W' (.agg #[.slice R N capr]) p):=hid (fun W' hW=>⟨_,rfl,HR.out.ext (HXW.out.trans hW)⟩);refine (X6i _ _ _ s p ⟨_,_,rfl,H2.out.ext HXW.out⟩ (HPO.out _ (Ext.refl _)) HS.out HPL.out).mono ?_;rintro e w5 ⟨xk,rfl,hk,hx5⟩;rw [HE.out];obtain ⟨Xk,ck,rfl,-,-,-⟩:=hk.opened;obtain ⟨nk,hnk⟩:∃ z,(Y8s s p).length=z:=⟨_,rfl⟩;rw [hnk] at hk ⊢;have HKE:=hid hk;have HX5:=hid hx5;have HK2:=hid (K2.out.ext hx5);have HNK:=hid hnk
 by_cases h0:E=0
 . have HCU:Hid (J8t s p=p):=hid (if_pos (HE.out.trans h0))
   have HE0:=hid h0;have hne:(E != 0)=false:=by simp [h0]
   have d0:=(K1.out.ext hx5).cell 0;simp only [Go.Tw.gA,Go.Tw.gB] at d0;clear h0 hk hx5 hnk;go_wp2_with fail;refine (J7s _ _ p (HPO.out _ HX5.out) HPL.out HP8.out).mono ?_;rintro e w6 ⟨xo,rfl,ho,hx6⟩;obtain ⟨ro,rfl,hro⟩:=ho;obtain ⟨Xo,co,rfl,-,-,-⟩:=hro.opened;rw [HN.out] at hro ⊢;have HRO:=hid hro;have HX6:=hid (HX5.out.trans hx6);have hp:=HK2.out.ext hx6;have HK6:=hid (HKE.out.ext hx6);clear hro hx6 d0;go_wp2_with (with_reducible (refine Q7g ?_); refine Q0s rfl _ _ _ rfl Tryz.J2x rfl rfl hp rfl rfl Y1w ?_; intro wz hb9 hl9 ho9);refine bodyPost_ret (Q4c Tryz.results71 rfl hb9 Tryz.J6c Tryz.J2x rfl) rfl ?_;exact ⟨⟨_,_,by rw [HE.out,HE0.out]; rfl,by rw [HCU.out]; exact J3i HRO.out hp (fun k _ hk=>ho9 k hk),Y9q HK6.out hp (fun k _ hk=>ho9 k hk)⟩,Below.trans (HXW.out.trans HX6.out) (hl9 _ (by have:=HGS.out; omega))⟩
 . have HCU:Hid (J8t s p=[] /\ Y8s s p=[]):=hid ⟨if_neg (by rw [HE.out]; exact h0),if_neg (by rw [HE.out]; exact h0)⟩
   have hne:(E != 0)=true:=by simp [h0]
   have hp:=HK2.out;clear h0 hk hx5 hnk;go_wp2_with (with_reducible (refine Q7g ?_); refine Q0s rfl _ _ _ rfl Tryz.J2x rfl rfl hp rfl rfl Y1w ?_; intro w9 hb9 hl9 ho9);refine bodyPost_ret (Q4c Tryz.results71 rfl hb9 Tryz.J6c Tryz.J2x rfl) rfl ?_;exact ⟨⟨_,_,by rw [HE.out]; rfl,by rw [HCU.out.1]; exact Go.Tw.Rows.nil _ _ _,by rw [HCU.out.2]; exact Go.Tw.Rows.nil _ _ _⟩,Below.trans (HXW.out.trans HX5.out) (hl9 _ (by have:=HGS.out; omega))⟩
end Go.Proofs
