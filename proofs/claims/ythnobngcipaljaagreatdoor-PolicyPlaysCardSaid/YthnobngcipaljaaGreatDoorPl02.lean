/- What a policy among the arguments of a law of chapter 5 reads as. Contracts: slices.Equal; checkRules, CheckPolicy. Lists of lists whose parts are the call's own. Contracts: slices.Clone of a list; owned: a policy of the call's own. Contract: Flip (of the program). -/
import Derived.Test.YthnobngcipaljaaGreatDoorPp35
import Derived.Test.YthnobngcipaljaaGreatDoorPl01
set_option maxRecDepth 1000000
set_option maxHeartbeats 64000000
set_option linter.unusedVariables false
set_option linter.unusedSimpArgs false
set_option linter.constructorNameAsVariable false
open Go.Lib (hid)
namespace Go.Proofs
open Go.RowKit Go.Tw Go.ChangeShapes Go.WideShapes Go.Deep
section
variable {H:Type} {enc:TypeId × Value -> H} {W:World}
theorem Tryz.cPl:Tryz.prog.cellsOf 47=1:=by kernel_rfl
theorem J4p {b0:Nat} {v:Value} {d:DataW H} {ps:List MemPlace} (hv:Value.okWide Tryz.prog W .any b0 47 v) (h:DataW.Trod enc Tryz.prog W 0 (fun _=>true) true 47 v d ps) (hw:X2y 47 d):∃ t,Q0w W v t:=by
 obtain ⟨cs,rfl,hsz⟩:=okWide_struct Tryz.underlying47 hv;rw [Tryz.cPl] at hsz;obtain ⟨c0,rfl⟩:∃ a,cs=#[a]:=by
  obtain ⟨l⟩:=cs
  match l,hsz with
  | [a],_=>exact ⟨a,rfl⟩
 obtain ⟨fuel,hf⟩:=h;obtain ⟨y0,m,hx,_,h0⟩:=trod_struct1 Tryz.underlying47 hf;simp only [Prod.mk.injEq] at hx;obtain ⟨rfl,_⟩:=hx;have hw2:∀ x ∈ DataW.weightsEach Tryz.prog [45] [y0.1],x <= 140737488351232:=fun x hx=>hw x (by simpa [DataW.weights,Tryz.underlying47] using hx)
 obtain ⟨w0,_⟩:=Q4u hw2;have e2:Tryz.prog.cellsOf 45=1:=by kernel_rfl
 have h0':DataW.trod enc Tryz.prog W 0 (fun _=>true) true m 45 [c0]=some y0:=by simpa [e2,Value.cells] using h0
 obtain ⟨b,hb⟩:=J5d h0' w0;exact ⟨b,_,rfl,hb⟩
end
end Go.Proofs
namespace Go.Proofs
open Go.RowKit Go.Tw Go.Flow
attribute [local go_sem] Oper.semAt_some
theorem Tryz.J6y (w:World):(sizeOf 167).run Tryz.prog w=.ok 2 w:=by kernel_rfl
end Go.Proofs
namespace Go.Proofs
open Go.RowKit Go.Tw Go.Flow
theorem Tryz.info22:(Tryz.prog.info? 22).map (fun i=>(i.zero,i.size,i.bytes))=some (some (.slice none 0 0),1,24):=by kernel_rfl
theorem RL.insert {w:World} {vs:List Value} {ll:List (List Int)} {v:Value} {l:List Int} {n:Nat} (h:RL w vs ll) (hv:Q0q w 0 3 (.int .i64) v l) (hn:n <= ll.length):RL w (vs.take n ++ [v] ++ vs.drop n) (ll.take n ++ [l] ++ ll.drop n):=by
 obtain ⟨h1,h2⟩:=h;refine ⟨by simp [h1],fun i hi=>?_⟩
 have hlen:(ll.take n ++ [l] ++ ll.drop n).length=ll.length + 1:=by simp; omega
 rw [hlen] at hi;rw [J3x v undef n vs i (by omega),J3x l [] n ll i hn]
 by_cases h3:i < n
 . rw [if_pos h3,if_pos h3]; exact h2 i (by omega)
 . rw [if_neg h3,if_neg h3]
   by_cases h4:i=n
   . rw [if_pos h4,if_pos h4]; exact hv
   . rw [if_neg h4,if_neg h4]; exact h2 (i - 1) (by omega)
theorem J5z {α:Type} (a b:List α) (d:α) (j:Nat):(a ++ b).getD j d=if j < a.length then a.getD j d else b.getD (j - a.length) d:=by
 by_cases h:j < a.length
 . rw [if_pos h]; simp [List.getElem?_append_left h]
 . rw [if_neg h]; simp [List.getElem?_append_right (show a.length <= j by omega)]
theorem RL.app {w:World} {vs us:List Value} {ll mm:List (List Int)} (h:RL w vs ll) (k:RL w us mm):RL w (vs ++ us) (ll ++ mm):=by
 refine ⟨by simp [h.1,k.1],fun j hj=>?_⟩
 rw [J5z,J5z,h.1];rw [List.length_append] at hj
 by_cases h3:j < ll.length
 . rw [if_pos h3,if_pos h3]; exact h.2 j h3
 . rw [if_neg h3,if_neg h3]; exact k.2 _ (by omega)
theorem J4g {K:Value -> World -> Prop} {o:Oper} {a:Act} {w:World} (s x:Operand) (ho:o.op=.call { callee:=.builtin .append,args:=#[s,x],argTypes:=#[72,72] })
    {B:Nat} {v u:Value} {L M:List (List Int)} (hs:a.eval s=v) (h1:LL w B v L) (hx:a.eval x=u) (h2:LL w B u M) (hL:L.length <= 2000) (hM:M.length <= 2000) (hB:B <= w.heap.size)
    (hK:∀ v' w',LL w' B v' (L ++ M) -> Below B w w' -> K v' w'):gives Tryz.prog K ((execOp a.eval o).run Tryz.prog w):=by
 obtain ⟨i0,hi,hz0,hz1,hz2⟩:=info_parts Tryz.info22;obtain ⟨vs,o1,m1⟩:=h1;obtain ⟨us,o2,m2⟩:=h2;have l1:=m1.1;have l2:=m2.1;exact Q5d s x 72 ho B 22 i0 (.slice none 0 0) 24 Tryz.underlying72 hi hz0 hz1 hz2 rfl idV v u vs us hs o1 hx (Y7q o2) m2.one (by omega) (by decide) hB fun v' w' hown hg=>hK _ _ ⟨vs ++ us,hown,(m1.grown o1 (by decide) hg).app (m2.grown o1 (by decide) hg)⟩ (below_grown o1 hg (Nat.le_refl _) hB)
theorem J6e {w:World} {b o n c:Nat} {l:List Int} (h:Q0d w (.slice (some ⟨b,o,none⟩) n c) l) (hn:l.length=n):∀ j u,(l.map (Value.int .i64))[j]?=some u -> w.cell? ((⟨b,o,none⟩:Addr).add j)=some u:=by
 subst hn;obtain ⟨A,cap,hv,hl,hcap,hc⟩:=h.opened;cases hv;intro j u hj;rw [List.getElem?_map] at hj;obtain ⟨y,hy,rfl⟩:=Option.map_eq_some_iff.1 hj;obtain ⟨hjl,rfl⟩:=List.getElem?_eq_some_iff.1 hy;obtain ⟨b',off',he,hcell⟩:=hc j hjl;cases he;rw [addr_add,hcell,Q4s hjl]
theorem J5w {h:List Int} {row:List (List Int)} {n:Nat} (hn:n=Q2x h row row.length) (h0:n=0 ∨ row.getD (n - 1) [] ≠ h):Q9j h row=row.take n ++ [h] ++ row.drop n:=by
 unfold Q9j;simp only [<- hn];rw [if_neg];rintro ⟨h1,h2⟩
 rcases h0 with h0 | h0
 . omega
 . exact h0 h2
theorem J7d {h:List Int} {row:List (List Int)} {n:Nat} (hn:n=Q2x h row row.length) (h0:0 < n) (he:row.getD (n - 1) []=h):Q9j h row=row:=by
 unfold Q9j;simp only [<- hn];rw [if_pos ⟨h0,he⟩]
theorem J6a {s:Q0b} {t i:Nat} (hi:i <= s.members.length) (h:∀ k,k < s.members.length -> t + 1 <= (Q0c s.members k).length):∀ j,j < (s.X0s t i).length -> ((s.X0s t i).getD j []).length=t + 1:=by
 intro j hj;rw [Q0v _ hj];obtain ⟨k,hk,he⟩:=(Q0b.X4u t _ i).1 (List.getElem_mem hj);rw [he,List.length_take];have:=h k (by omega)
 omega
theorem J6j {s:Q0b} (hS:Q1b s) {w:World} {B:Nat} {x:Value} (h:LL w B x s.hist):Q2z w x s.hist:=by
 refine h.read (by have:=Z5n hS; omega) fun j hj=>?_
 rw [Q0v _ hj];have:=Z2v hS _ (List.getElem_mem hj);omega
theorem J6x {s:Q0b} (hS:Q1b s):0 < s.hist.length:=by
 refine List.length_pos_of_mem (a:=(Q0c s.members 0).take (0 + 1)) ?_;exact (Q0b.Q4n _ _).2 ⟨0,hS.tides.1,0,hS.some.1,rfl⟩
theorem J5v {α:Type} {w:World} {base base' k:Nat} {e:TypeId} {enc:α -> List Value} {v:Value} {l:List α} (h:Q0z w base e k enc v l) (hb:base' <= base):Q0z w base' e k enc v l:=by
 obtain ⟨h1,h2⟩:=h;refine ⟨h1,?_⟩
 rcases h2 with h2 | ⟨g,cap,cur,hv,hbg,r⟩
 . exact .inl h2
 . exact .inr ⟨g,cap,cur,hv,Nat.le_trans hb hbg,r⟩
theorem J5m (w:World) (a:Option Addr) (n c:Nat) (b:Bool):(Instr.build 115 #[(0,.slice a n c),(1,.bool b)]).run Tryz.prog w=.ok (.agg #[.slice a n c,.bool b]) w:=by kernel_rfl
theorem J6l (w:World) (a:Option Addr) (n c:Nat) (b:Bool):(Instr.buildSlice 45 1 #[(0,.agg #[.slice a n c,.bool b])]).run Tryz.prog w=.ok (.slice (some ⟨w.heap.size,0,none⟩) 1 1) (w.alloc (.cells #[.slice a n c,.bool b] 115)):=by kernel_rfl
theorem Tryz.J7k (w:World):(sizeOf 45).run Tryz.prog w=.ok 1 w:=by kernel_rfl
end Go.Proofs
namespace Go.Proofs
open Go.RowKit Go.Tw Go.Flow
attribute [local go_sem] Oper.semAt_some
theorem clone_any (w:World) (v:Value) (l:List Int) (hv:Q0d w v l) :
    Calls Tryz.prog 174 #[v] w fun e w'=>∃ u,e=.returned u /\ Q0q w' 0 3 (.int .i64) u l /\ Ext w w':=by
 obtain ⟨A,cap,rfl,hl,hcap,hc⟩:=hv.opened;cases A with
 | none =>
   have hz:l=[]:=by
    cases l with
    | nil=>rfl
    | cons x l=>obtain ⟨b,off,he,_⟩:=hc 0 (by simp); cases he
   subst hz;exact (Tryz.slices_Clone_int_nil _ _ _).mono fun e w' ⟨he,hw⟩=>⟨_,he,Q0q.nil _ _ _ _,by rw [hw]; exact Ext.refl _⟩
 | some a =>
   by_cases h0:l.length=0
   . have hz:l=[]:=List.length_eq_zero_iff.1 h0
     subst hz;exact (Tryz.slices_Clone_int_zero _ _ _).mono fun e w' ⟨v',he,hown,_,hx⟩=>⟨_,he,Q0q.weaken (show Q0q w' w.heap.size 3 (.int .i64) v' [] from hown) (Nat.zero_le _),hx⟩
   . obtain ⟨b,off,he,_⟩:=hc 0 (by omega)
     cases he;refine (Tryz.slices_Clone_int b off l.length cap l w (Nat.le_refl _) (by omega) (fun j hj=>?_)).mono fun e w' ⟨v',he,hown,_,hx⟩=>⟨_,he,Q0q.weaken (show Q0q w' w.heap.size 3 (.int .i64) v' l from by unfold Q0q; rw [List.take_length] at hown; exact hown) (Nat.zero_le _),hx⟩
     obtain ⟨b',off',he,h⟩:=hc j hj;cases he;exact h
theorem J5k (cur:Array Value) (vs:List Value) (h:vs.length=cur.size):Q2s cur 0 vs=vs.toArray:=by
 apply Array.ext_getElem?
 intro j;rw [Q4w _ _ _ _ (by omega)]
 by_cases hj:j < vs.length
 . rw [if_pos (by omega),Nat.sub_zero,List.getElem?_toArray]
 . rw [if_neg (by omega),Array.getElem?_eq_none (show cur.size <= j by omega)]
   symm
   rw [Array.getElem?_eq_none];rw [List.size_toArray]; omega
theorem J4h {P:Program} {w:World} {ops:Array Oper} {rest:List Oper} {o:Oper} {a:Act} {Q:Exit -> Act -> World -> Prop} (hgd:o.guard=none) (d s:Operand) (dT sT:TypeId) (ho:o.op=.call { callee:=.builtin .copy,args:=#[d,s],argTypes:=#[dT,sT] })
    (elem:TypeId) (hu:P.underlying dT=some (.slice elem)) {sz:Nat} (hs:∀ w,(sizeOf elem).run P w=.ok sz w) {n dcap scap:Nat} {g:Nat} {sp:Option Addr} (hd:a.eval d=.slice (some ⟨g,0,none⟩) n dcap) (hsv:a.eval s=.slice sp n scap)
    {T:TypeId} {cur:Array Value} (hb:Blk w g T cur) (cs:List Value) (hlen:cs.length=n * sz) (hsrc:∀ j v,cs[j]?=some v -> ∃ b off,sp=some ⟨b,off,none⟩ /\ w.cell? ⟨b,off + j,none⟩=some v) (hfit:cs.length <= cur.size) (h1:∀ v ∈ cs,v.oneCell'=true)
    (hK:∀ w',Blk w' g T (Q2s cur 0 cs) -> (∀ n,n <= g -> Below n w w') -> (∀ k,k ≠ g -> w'.heap[k]?=w.heap[k]?) -> wpList P ops Q rest (a.put o.dst (goInt n)) w'):wpList P ops Q (o :: rest) a w:=by
 refine wpList_plain hgd fun K' hK'=>?_;unfold Oper.wp;obtain ⟨w',hr,hb',hl,hoo⟩:=J5i (P:=P) dT sT o.type elem hu hs n dcap scap hb sp cs hlen hsrc hfit h1;have hr2:(execOp a.eval o).run P w=.ok (.value (goInt n)) w':=by
  unfold execOp;simp only [ho,resolve,invoke,builtin,Sem.run_bind,Sem.run_pure,Result.andThen_ok,List.map_toArray,List.map_cons,List.map_nil,hd,hsv,hr]
 rw [hr2];exact hK' _ _ (hK w' hb' hl hoo)
def J5r (p:List Rul) (c:Nat -> Value):List (Value × Rul):=(List.range p.length).map fun k=>(c (k * 2),p.getD k default)
theorem J3h (p:List Rul) (c:Nat -> Value):(J5r p c).length=p.length:=by unfold J5r; simp
theorem J6g (p:List Rul) (c:Nat -> Value):(J5r p c).map (·.2)=p:=by
 unfold J5r;rw [List.map_map]
 apply List.ext_getElem
 . simp
 . intro i h1 h2
   simp [h2]
theorem J5a (p:List Rul) (c:Nat -> Value) {k:Nat} (hk:k < (J5r p c).length):(J5r p c)[k]=(c (k * 2),⟨Q0n p k,Q3p p k⟩):=by
 unfold J5r Q0n Q3p;simp
theorem J5u {w:World} {A:Option Addr} {n:Nat} {p:List Rul} {c:Nat -> Value} (hc:∀ j,j < n * 2 -> ∃ b off,A=some ⟨b,off,none⟩ /\ w.cell? ⟨b,off + j,none⟩=some (c j)) (hn:p.length=n) (h2:∀ k (h:k < p.length),Z9c w (fun i=>c (k * 2 + i)) p[k]) :
    ∀ j v,((J5r p c).flatMap X8h)[j]?=some v -> ∃ b off,A=some ⟨b,off,none⟩ /\ w.cell? ⟨b,off + j,none⟩=some v:=by
 subst hn;intro j v hj;have hlen:=X0z Y8f (J5r p c);rw [J3h] at hlen;have hjl:j < ((J5r p c).flatMap X8h).length:=(List.getElem?_eq_some_iff.1 hj).1;obtain ⟨b,off,hA,hcell⟩:=hc j (by omega)
 refine ⟨b,off,hA,?_⟩;rw [hcell];have e:j=j / 2 * 2 + j % 2:=by omega
 have hk:j / 2 < (J5r p c).length:=by rw [J3h]; omega
 rw [e,flat_get Y8f (J5r p c) (j / 2) (j % 2) hk (by omega),J5a] at hj
 have hk':j / 2 < p.length:=by rw [J3h] at hk; exact hk
 obtain ⟨_,h1⟩:=h2 (j / 2) hk';have h1:c (j / 2 * 2 + 1)=.bool p[j / 2].close:=h1
 rcases Nat.mod_two_eq_zero_or_one j with hm | hm
 . rw [hm] at hj e
   rw [e]
   simpa [X8h] using hj
 . rw [hm] at hj e
   rw [e,h1];have:Q3p p (j / 2)=p[j / 2].close:=by unfold Q3p; rw [Q0v _ hk']
   simpa [X8h,this] using hj
theorem Q0z.J7m {α:Type} {w:World} {base g n k:Nat} {e:TypeId} {enc:α -> List Value} {l:List α} (hk:∀ x,(enc x).length=k) (hb:Blk w g e (l.flatMap enc).toArray) (hl:l.length=n) (hg:base <= g) (hn:n <= maxLen):Q0z w base e k enc (.slice (some ⟨g,0,none⟩) n n) l:=by
 subst hl;refine ⟨X0z hk l,.inr ⟨g,l.length,_,rfl,hg,hb,Nat.le_refl _,hn,?_,?_⟩⟩
 . rw [List.size_toArray,X0z hk]
 . rw [<- X0z hk l,List.take_length]
def J6c (w:World) (qs:List (Value × Rul)) (k:Nat):Prop:=∀ j (h:j < qs.length),j < k -> Q0q w 0 3 (.int .i64) qs[j].1 qs[j].2.classes
theorem J6c.set {w:World} {qs:List (Value × Rul)} {k:Nat} {u:Value} {r:Rul} (h:J6c w qs k) (hu:Q0q w 0 3 (.int .i64) u r.classes):J6c w (qs.set k (u,r)) (k + 1):=by
 intro j hj hk;rw [List.length_set] at hj
 by_cases e:k=j
 . subst e
   rw [List.getElem_set_self]; exact hu
 . rw [List.getElem_set_ne e]
   exact h j hj (by omega)
theorem J6t:∀ (qs:List (Value × Rul)) {k:Nat} (hk:k < qs.length) {u:Value},(qs.flatMap X8h).toArray.setIfInBounds (k * 2) u=((qs.set k (u,qs[k].2)).flatMap X8h).toArray:=by
 intro qs
 induction qs with
 | nil=>intro k hk; simp at hk
 | cons q qs ih =>
   intro k hk u;cases k with
   | zero=>simp [X8h]
   | succ k =>
     have h:=ih (k:=k) (by simpa using hk) (u:=u)
     simp only [List.setIfInBounds_toArray,Array.mk.injEq] at h;simp only [List.flatMap_cons,List.setIfInBounds_toArray,List.set_cons_succ,List.getElem_cons_succ,X8h,Array.mk.injEq];rw [<- h,show (k + 1) * 2=k * 2 + 1 + 1 by omega]
     rfl
theorem J7e {p:List Rul} {qs:List (Value × Rul)} {k:Nat} {x v:Value} {r:Rul} (hk:k < qs.length) (h:qs.map (·.2)=p) (e:qs[k]=(x,r)):p.set k ((v,r):Value × Rul).2=p:=by
 have:(qs.map (·.2))[k]'(by simpa using hk)=r:=by rw [List.getElem_map,e]
 subst h
 apply List.ext_getElem
 . simp
 . intro i h1 h2
   by_cases hi:k=i
   . subst hi; rw [List.getElem_set_self]; exact this.symm
   . rw [List.getElem_set_ne hi]
def J4m (w w':World) (p:List Rul) (n:Nat) (e:Ending):Prop:=∃ g qs,e=.returned (.agg #[.slice (some ⟨g,0,none⟩) n n]) /\ Blk w' g 167 (qs.flatMap X8h).toArray /\ w.heap.size <= g /\ qs.map (·.2)=p /\ RuR w' qs /\ Ext w w'
theorem J3p {w:World} {g:Nat} {T:TypeId} {cs:Array Value} (h:Blk w g T cs) {p:Addr} (hne:g ≠ p.block) (u:Value):Blk (w.setCell p u) g T cs:=by
 unfold Blk at *; rw [Below.heap_setCell _ _ _ _ hne]; exact h
theorem J6q (w:World) (v:Value) (p:List Rul) (hv:Q0w w v p) (hl:p.length <= 1000) (h8:∀ k,k < p.length -> (Q0n p k).length <= 4096) :
    Calls Tryz.prog 131 #[v] w fun e w'=>J4m w w' p p.length e:=by
 obtain ⟨i0,hi,hz0,hz1,hz2⟩:=info_parts Tryz.Z9b;obtain ⟨a,rfl,hr⟩:=hv;obtain ⟨c,⟨A,cap,rfl,-,-,hc⟩,h2⟩:=hr;have HOR:Hid (∀ w',Ext w w' -> ∀ j v,((J5r p c).flatMap X8h)[j]?=some v -> ∃ b off,A=some ⟨b,off,none⟩ /\ w'.cell? ⟨b,off + j,none⟩=some v):=hid (fun w' hx j v hj=>by
  obtain ⟨b,off,h1,h3⟩:=J5u hc rfl h2 j v hj;exact ⟨b,off,h1,hx.cell h3⟩)
 have HVI:Hid (∀ k,k < p.length -> Q0d w (c (k * 2)) (Q0n p k)):=hid (fun k hk=>by
  obtain ⟨h3,_⟩:=h2 k hk;unfold Q0n;rw [Q0v _ hk];exact h3)
 have hq0:=J6g p c;have hql:=J3h p c;have HGET:=hid (fun k (hk:k < (J5r p c).length)=>J5a p c hk);have hone:∀ u ∈ (J5r p c).flatMap X8h,u.oneCell'=true:=by
  intro u hu;obtain ⟨q,hq,hu⟩:=List.mem_flatMap.1 hu;obtain ⟨k,hk,rfl⟩:=List.getElem_of_mem hq;rw [J5a] at hu;have hi:=HVI.out k (by rw [hql] at hk; exact hk)
  obtain ⟨A',cap',he,_⟩:=hi.opened;simp only [X8h,List.mem_cons,List.not_mem_nil,or_false] at hu
  rcases hu with rfl | rfl
  . rw [he]; rfl
  . rfl
 obtain ⟨q0,hq⟩:∃ x,J5r p c=x:=⟨_,rfl⟩;rw [hq] at HOR HGET hq0 hql hone;obtain ⟨n,hn⟩:∃ n,p.length=n:=⟨_,rfl⟩;have HN:=hid hn;rw [hn] at hl hql HVI ⊢;have H8:=hid h8;have HONE:=hid hone;have HQ0:=hid hq0;have hfl:=X0z Y8f q0;rw [hql] at hfl;have HFL:=hid hfl;have HQL:=hid hql;clear hc h2 hq hn hq0 hone h8 hfl hql;go_enter Tryz.func131,Tryz.ntmps131;go_wp2_with (refine Q1z (o:=⟨some 9,_,_,_,_,_⟩) rfl ?_; refine J6f (.tmp 8) _ _ rfl i0 _ 2 32 Tryz.underlying36 hi hz0 hz1 hz2 n rfl (by omega) (by decide) ?_; refine halted ?_)
 unfold Q1i;obtain ⟨W,hWW,k0,k1,k2,HXW,eW⟩:=X2z w 38 #[.slice A n cap] 38 #[.slice none 0 0] 167 (madeCells #[.slice none 0 0,.bool false] (n * 2));rw [hWW];clear hWW;obtain ⟨gs,hgs⟩:∃ x,w.heap.size=x:=⟨_,rfl⟩;have HGS:=hid hgs;rw [hgs] at k0 k1 k2 eW ⊢;clear hgs;obtain ⟨g,hg⟩:∃ x,gs + 1 + 1=x:=⟨_,rfl⟩;have HG:=hid hg;rw [hg] at k2 eW ⊢;have hgl:gs + 1 < g:=by omega
 have c0:=k0.cell 0;simp only [Go.Tw.gA,Go.Tw.gB] at c0;have K1:=hid k1;have K2:=hid k2;have HFS:Hid ((q0.flatMap X8h).length=(madeCells #[Value.slice none 0 0,.bool false] (n * 2)).size):=hid (by rw [HFL.out]; simp [madeCells])
 clear k0 k1 k2 hg;go_wp2_with (refine J4h rfl (.tmp 10) (.tmp 12) _ _ rfl 167 Tryz.underlying36 (sz:=2) Tryz.J6y (n:=n) (g:=g) rfl rfl K2.out (q0.flatMap X8h) (by rw [HFL.out]) (HOR.out _ HXW.out) (by rw [HFS.out]; exact Nat.le_refl _) HONE.out ?_; intro w4 hb4 hl4 ho4; refine halted ?_)
 unfold Q1i;rw [J5k _ _ HFS.out] at hb4;have HK1:=hid (K1.out.below (hl4 g (Nat.le_refl _)) hgl);have HSZ:Hid (w.heap.size <= g):=hid (by have:=HG.out; have:=HGS.out; omega)
 have HX4:Hid (Ext w w4):=hid (Below.trans HXW.out (hl4 _ HSZ.out));have HB4:=hid hb4;clear hb4 hl4 ho4 c0 K2;go_wp2_with fail
 go_loopw [16] (fun i wr=>∃ (k:Nat) (qs:List (Value × Rul)),k <= n /\ i=.int .i64 k /\ qs.length=n /\ qs.map (·.2)=p /\ (∀ j,k <= j -> qs[j]?=q0[j]?) /\ J6c wr qs k /\ Blk wr g 167 (qs.flatMap X8h).toArray /\ Below g w4 wr) (fun i _=>n - (intOf i).toNat)
 case atStart=>exact ⟨0,q0,Nat.zero_le _,rfl,HQL.out,HQ0.out,fun _ _=>rfl,(fun j _ h=>absurd h (Nat.not_lt_zero _)),HB4.out,Below.refl _ _⟩
 case round =>
  obtain ⟨k,qs,hk,rfl,hql,hqs,hre,hru,hbo,hlow⟩:=hrel;have hxr:Ext w wr:=Below.trans HX4.out (hlow.mono HSZ.out);have HQN:=hid hql;have HQS:=hid hqs;have HRE:=hid hre;have HRU:=hid hru;have HBO:=hid hbo;have HLO:=hid hlow;have HXR:=hid hxr
  by_cases hlt:k < n
  . have hkI:(k:Int) < n:=by omega
    have hkq:k < qs.length:=by omega
    have hk0:k < q0.length:=by have:=HQL.out; omega
    have hqk:qs[k]=(c (k * 2),⟨Q0n p k,Q3p p k⟩):=by
     have h:=hre k (Nat.le_refl _);rw [List.getElem?_eq_getElem hkq,List.getElem?_eq_getElem hk0] at h;injection h with h;rw [h]; exact HGET.out k hk0
    have hi0:=HVI.out k hlt;have hl8:=H8.out k (by rw [HN.out]; exact hlt)
    have e0:wr.cell? ⟨g,k * 2,none⟩=some (c (k * 2)):=by
     rw [hbo.cell,List.getElem?_toArray,show k * 2=k * 2 + 0 from rfl,flat_get Y8f qs k 0 hkq (by omega),hqk]; rfl
    have e1:wr.cell? ⟨g,k * 2 + 1,none⟩=some (.bool (Q3p p k)):=by
     rw [hbo.cell,List.getElem?_toArray,flat_get Y8f qs k 1 hkq (by omega),hqk]; rfl
    obtain ⟨cv,hcv⟩:∃ z,c (k * 2)=z:=⟨_,rfl⟩;rw [hcv] at hi0 e0 hqk;obtain ⟨X,capx,rfl,-,-,-⟩:=hi0.opened;obtain ⟨cs,hcs⟩:∃ z,Q0n p k=z:=⟨_,rfl⟩;obtain ⟨cb,hcb⟩:∃ z,Q3p p k=z:=⟨_,rfl⟩;rw [hcs] at e0 hi0 hqk hl8;rw [hcb] at e1 hqk;have hbx:=Ext.box wr (.cells #[.slice X cs.length capx,.bool cb] 167);have hbk:=Blk.made wr 167 #[.slice X cs.length capx,.bool cb];have d0:=hbk.cell 0;simp only [Go.Tw.gA,Go.Tw.gB] at d0;have HI:=hid (hi0.ext (hxr.trans hbx));have HBX:=hid hbx;have HQK:=hid hqk;have HKQ:=hid hkq;clear hql hqs hre hru hbo hlow hxr hk0 hqk hi0 hcv hcs hcb hbk;go_wp2_with fail;obtain ⟨wb,hwb⟩:∃ Z,wr.alloc (.cells #[.slice X cs.length capx,.bool cb] 167)=Z:=⟨_,rfl⟩;rw [hwb] at d0 HI HBX hbx ⊢;refine (clone_any _ _ cs HI.out).mono ?_;rintro e w5 ⟨u,rfl,hu,hx5⟩;obtain ⟨bu,cu,rfl,-⟩:=hu.shape;have HU:=hid hu;have HX5:=hid (HBX.out.trans hx5);have HB5:=hid (HBO.out.ext HX5.out);have e5:=HX5.out.cell e0;have f5:=HB5.out.frozen (k * 2);have hb7:=HB5.out.set (k * 2) (.slice bu cs.length cu);rw [J6t qs HKQ.out,HQK.out] at hb7;have HB7:=hid hb7;have HR7:Hid (J6c (w5.setCell ⟨g,k * 2,none⟩ (.slice bu cs.length cu)) (qs.set k (.slice bu cs.length cu,⟨cs,cb⟩)) (k + 1)):=hid (J6c.set (fun j h hj=>Q8a ((HRU.out j h hj).below HX5.out) HB5.out (by decide)) (Q8a HU.out HB5.out (by decide)))
    have HBW:=hid ((HLO.out.trans (HX5.out.mono (by have:=HBO.out.lt; omega))).setCell (p:=⟨g,k * 2,none⟩) (Nat.le_refl g) (.slice bu cs.length cu))
    clear d0 e0 e1 hwb hbx hu hx5 hb7;go_wp2;go_roundw
    case rel=>exact ⟨k + 1,qs.set k (.slice bu cs.length cu,⟨cs,cb⟩),by omega,by go_num,by rw [List.length_set]; exact HQN.out,by rw [List.map_set,HQS.out]; exact J7e HKQ.out HQS.out HQK.out,(fun j hj=>by rw [List.getElem?_set_ne (by omega)]; exact HRE.out j (by omega)),HR7.out,HB7.out,HBW.out⟩
    case measure=>simp [intOf]; omega
  . have hkI:¬ (k:Int) < n:=by omega
    obtain rfl:k=n:=by omega
    have hk1:=HK1.out.below hlow hgl;have c1:wr.cell? ⟨gs + 1,0,none⟩=some (.slice none 0 0):=hk1.cell 0;have f1:=hk1.frozen 0;have HK1b:=hid hk1;clear hql hqs hre hru hbo hlow hxr hk1;go_wp2;refine bodyPost_ret (Q1v Tryz.results131 rfl (HK1b.out.set 0 _) Tryz.Q8b Tryz.Q4b) rfl ?_;have hr:RuR wr qs:=fun q hq=>by
     obtain ⟨j,hj,rfl⟩:=List.getElem_of_mem hq;exact HRU.out j hj (by have:=HQN.out; omega)
    unfold J4m;exact ⟨g,qs,rfl,J3p HBO.out (p:=⟨gs + 1,0,none⟩) (show g ≠ gs + 1 by omega) _,HSZ.out,HQS.out,hr.set HK1b.out (by decide),HXR.out.Y0h (p:=⟨gs + 1,0,none⟩) (by show w.heap.size <= gs + 1; have:=HGS.out; omega) _⟩
end Go.Proofs
namespace Go.Tw
theorem J7a {p:List Rul} {n:Nat} (h:n < p.length):p.set n ⟨p[n].classes,!p[n].close⟩=J2n p n:=by
 apply List.ext_getElem
 . rw [List.length_set,J2x]
 . intro i h1 h2
   rw [List.length_set] at h1;have e:(J2n p n)[i]=⟨Q0n p i,Q3p p i != (i == n)⟩:=by simp [J2n]
   rw [e,List.getElem_set]
   split
   . rename_i hi; subst hi
     rw [Q7f h1,Z3m h1];cases p[n].close <;> simp
   . rename_i hi
     rw [Q7f h1,Z3m h1];have:(i == n)=false:=by simp; omega
     rw [this];cases hc:p[i].close <;> simp [<- hc]
end Go.Tw
namespace Go.Proofs
open Go.RowKit Go.Tw Go.Flow
attribute [local go_sem] Oper.semAt_some
def J2r (p:List Rul) (n:Int):Bool:=decide (n < 0) || decide ((p.length:Int) <= n)
def J3c (s:Q0b) (p:List Rul) (n:Int):Int:=Q0g [Q1g s p,Q0x (J2r p n) 10]
def J2l (s:Q0b) (p:List Rul) (n:Int):List Rul:=if J3c s p n=0 then J2n p n.toNat else []
theorem J4x {s:Q0b} {p:List Rul} {n:Int} (h:J3c s p n=0):Q1b s /\ Q2d s.hist p=0 /\ 0 <= n /\ n < p.length:=by
 obtain ⟨h1,h2⟩:=Q1r h;obtain ⟨h3,h4⟩:=Q4o h1;refine ⟨h3,h4,?_⟩;unfold J2r Q0x at h2
 by_cases h0:n < 0 <;> by_cases h1:(p.length:Int) <= n <;> simp [h0,h1] at h2 ⊢ <;> omega
theorem J6u {qs:List (Value × Rul)} {p:List Rul} {m:Nat} (h:qs.map (·.2)=p) (hm:m < qs.length) {c:Bool} (hc:qs[m].2.close=c):(qs.set m (qs[m].1,⟨qs[m].2.classes,!c⟩)).map (·.2)=J2n p m:=by
 subst h;subst hc;rw [<- J7a (by rw [List.length_map]; exact hm),List.map_set,List.getElem_map]
def J6z (s:Q0b) (p:List Rul) (n:Int) (e:Ending) (w':World):Prop:=∃ x,e=.returned (.tuple #[.agg #[x],.int .i64 (J3c s p n)]) /\ Q3m w' x (J2l s p n)
theorem J6r:∀ (qs:List (Value × Rul)) {k:Nat} (hk:k < qs.length) {c:Bool},(qs.flatMap X8h).toArray.setIfInBounds (k * 2 + 1) (.bool c)=((qs.set k (qs[k].1,⟨qs[k].2.classes,c⟩)).flatMap X8h).toArray:=by
 intro qs
 induction qs with
 | nil=>intro k hk; simp at hk
 | cons q qs ih =>
   intro k hk c;cases k with
   | zero=>simp [X8h]
   | succ k =>
     have h:=ih (k:=k) (by simpa using hk) (c:=c)
     simp only [List.setIfInBounds_toArray,Array.mk.injEq] at h;simp only [List.flatMap_cons,List.setIfInBounds_toArray,List.set_cons_succ,List.getElem_cons_succ,X8h,Array.mk.injEq];rw [<- h,show (k + 1) * 2 + 1=k * 2 + 1 + 1 + 1 by omega]
     rfl
theorem RuR.J7p {w:World} {qs:List (Value × Rul)} {k:Nat} {c:Bool} (h:RuR w qs) (hk:k < qs.length):RuR w (qs.set k (qs[k].1,⟨qs[k].2.classes,c⟩)):=by
 intro q hq
 rcases List.mem_or_eq_of_mem_set hq with hq | rfl
 . exact h q hq
 . exact (show Q0q w 0 3 (.int .i64) qs[k].1 qs[k].2.classes from h _ (List.getElem_mem hk))
theorem J6i (w:World) (v u:Value) (s:Q0b) (p:List Rul) (n:Int) (hv:Q0h w v s) (hu:Q0w w u p) (hs:Q3k s) (hp:p.length <= 1000) :
    Calls Tryz.prog 56 #[v,u,.int .i64 n] w fun e w'=>J6z s p n e w' /\ Ext w w':=by
 obtain ⟨a,b,rfl,h2⟩:=hv;obtain ⟨rv,rfl,hr⟩:=hu;obtain ⟨A,capa,rfl,-,-,-⟩:=h2.ships.opened;obtain ⟨B,capb,rfl,-,-,-⟩:=h2.members.opened;obtain ⟨R,capr,rfl,-,-,-⟩:=hr.opened;have H2:=hid h2;have HR:=hid hr;have HS:=hid hs;obtain ⟨E,hE⟩:∃ z,Q1g s p=z:=⟨_,rfl⟩;obtain ⟨F,hF⟩:∃ z,J3c s p n=z:=⟨_,rfl⟩;have HE:=hid hE;have HF:=hid hF;obtain ⟨N,hN⟩:∃ z,p.length=z:=⟨_,rfl⟩;have HN:=hid hN;have HPL:=hid hp;have HFE:Hid (∀ b,J2r p n=b -> Q0g [E,Q0x b 10]=F):=hid (fun b hb=>by rw [<- hF,<- hE,<- hb]; rfl)
 rw [hN] at HR hp ⊢;clear h2 hr hs hE hF hN;go_enter Tryz.func56,Tryz.ntmps56;go_upto_region 1 with fail;change Code.wp _ _ _ _ (((w.alloc (.cells #[.int .i64 s.limit,.slice A s.ships.length capa,.slice B s.members.length capb] 34)).alloc (.cells #[.slice R N capr] 38)).alloc (.cells #[.slice none 0 0] 38));obtain ⟨W,hWW,k0,k1,k2,HXW,eW⟩:=X2z w 34 #[.int .i64 s.limit,.slice A s.ships.length capa,.slice B s.members.length capb] 38 #[.slice R N capr] 38 #[.slice none 0 0];rw [hWW];clear hWW;obtain ⟨gs,hgs⟩:∃ x,w.heap.size=x:=⟨_,rfl⟩;have HGS:=hid hgs;rw [hgs] at k0 k1 k2 eW ⊢;have K0:=hid k0;have K1:=hid k1;have K2:=hid k2;clear k0 k1 k2 hgs;have HSE:Hid (∀ W',Ext W W' -> Q0h W' (.agg #[.int .i64 s.limit,.slice A s.ships.length capa,.slice B s.members.length capb]) s):=hid (fun W' hW=>⟨_,_,rfl,H2.out.ext (HXW.out.trans hW)⟩);have HPO:Hid (∀ W',Ext W W' -> Q0w W' (.agg #[.slice R N capr]) p):=hid (fun W' hW=>⟨_,rfl,HR.out.ext (HXW.out.trans hW)⟩)
 go_cut [8] (fun x wx=>x=.int .i64 F /\ Ext W wx)
 case first =>
  have c0:=(K0.out).cell 0;have c1:=(K0.out).cell 1;have c2:=(K0.out).cell 2;simp only [Go.Tw.gA,Go.Tw.gB,Go.Tw.gC] at c0 c1 c2;have d0:=(K1.out).cell 0;simp only [Go.Tw.gA,Go.Tw.gB] at d0
  by_cases h0:n < 0
  . have h0d:decide (n < 0)=true:=decide_eq_true h0
    have HB:Hid (J2r p n=true):=hid (by unfold J2r; rw [h0d]; rfl)
    go_wp2_with fail;refine (Q3t _ _ _ s p (HSE.out _ (Ext.refl _)) (HPO.out _ (Ext.refl _)) HS.out HPL.out).mono ?_;rintro e w5 ⟨rfl,hx5⟩;rw [HE.out];have HX5:=hid hx5;clear hx5 c0 c1 c2 d0;go_wp2_with fail;refine (Q6f _ true 10).mono ?_;rintro e w6 ⟨rfl,rfl⟩;go_wp2_with fail;refine (first_any _ _ [E,Q0x true 10] (Q3q (by simp))).mono ?_
    rw [HFE.out _ HB.out];rintro e w7 ⟨rfl,rfl⟩;go_wp2_with fail;go_meet;exact ⟨rfl,HX5.out.trans (Ext.box _ _)⟩
  . have h0d:decide (n < 0)=false:=decide_eq_false h0
    by_cases h1:(N:Int) <= n
    . have h1d:decide ((N:Int) <= n)=true:=decide_eq_true h1
      have HB:Hid (J2r p n=true):=hid (by unfold J2r; rw [h0d,HN.out,h1d]; rfl)
      go_wp2_with fail;refine (Q3t _ _ _ s p (HSE.out _ (Ext.refl _)) (HPO.out _ (Ext.refl _)) HS.out HPL.out).mono ?_;rintro e w5 ⟨rfl,hx5⟩;rw [HE.out];have HX5:=hid hx5;have d5:=hx5.cell d0;clear hx5 c0 c1 c2 d0;go_wp2_with fail;refine (Q6f _ true 10).mono ?_;rintro e w6 ⟨rfl,rfl⟩;clear d5;go_wp2_with fail;refine (first_any _ _ [E,Q0x true 10] (Q3q (by simp))).mono ?_
      rw [HFE.out _ HB.out];rintro e w7 ⟨rfl,rfl⟩;go_wp2_with fail;go_meet;exact ⟨rfl,HX5.out.trans (Ext.box _ _)⟩
    . have h1d:decide ((N:Int) <= n)=false:=decide_eq_false h1
      have HB:Hid (J2r p n=false):=hid (by unfold J2r; rw [h0d,HN.out,h1d]; rfl)
      go_wp2_with fail;refine (Q3t _ _ _ s p (HSE.out _ (Ext.refl _)) (HPO.out _ (Ext.refl _)) HS.out HPL.out).mono ?_;rintro e w5 ⟨rfl,hx5⟩;rw [HE.out];have HX5:=hid hx5;have d5:=hx5.cell d0;clear hx5 c0 c1 c2 d0;go_wp2_with fail;refine (Q6f _ false 10).mono ?_;rintro e w6 ⟨rfl,rfl⟩;clear d5;go_wp2_with fail;refine (first_any _ _ [E,Q0x false 10] (Q3q (by simp))).mono ?_
      rw [HFE.out _ HB.out];rintro e w7 ⟨rfl,rfl⟩;go_wp2_with fail;go_meet;exact ⟨rfl,HX5.out.trans (Ext.box _ _)⟩
 case rest =>
  obtain ⟨rfl,hcut⟩:=hcut;obtain ⟨w8,rfl⟩:∃ X,X=wc:=⟨_,rfl⟩;have HX8:=hid hcut;have HK2:=hid (K2.out.ext hcut);have d0:=(K1.out.ext hcut).cell 0;simp only [Go.Tw.gA,Go.Tw.gB] at d0;clear hcut
  by_cases h0:F=0
  . obtain ⟨hV,hre,hn0,hn1⟩:=J4x (HF.out.trans h0)
    have HFU:Hid (J2l s p n=J2n p n.toNat):=hid (if_pos (HF.out.trans h0));have HV:=hid hV;have HRE:=hid hre;have hne:(F != 0)=false:=by simp [h0]
    obtain ⟨m,rfl⟩:∃ i:Nat,n=(i:Int):=⟨n.toNat,by omega⟩
    rw [HN.out] at hn1;have hm:m < N:=by omega
    have HF0:=hid h0;rw [Int.toNat_natCast] at HFU;clear h0 hV hre hn0;go_wp2_with fail;refine (J6q _ _ p (HPO.out _ HX8.out) HPL.out (fun k hk=>by
     have h:=Q4h.1 HRE.out;have hmm:p[k].classes ∈ s.hist:=by rw [<- h]; exact List.mem_map_of_mem (List.getElem_mem hk)
     have:=Z2v HV.out _ hmm;rw [Q7f hk]; omega)).mono ?_
    rintro e w9 ho;unfold J4m at ho;rw [HN.out] at ho;obtain ⟨go,qs,rfl,hb,hgo,hqs,hru,hx9⟩:=ho;have hmq:m < qs.length:=by rw [<- List.length_map (f:=(·.2)),hqs,HN.out]; exact hm
    have hbx:=Ext.box w9 (.cells #[.slice (some ⟨go,0,none⟩) N N] 38);have hbk:=Blk.made w9 38 #[.slice (some ⟨go,0,none⟩) N N];have HBO:=hid (hb.ext hbx);have HK3:=hid ((HK2.out.ext hx9).ext hbx);have HX9:=hid (hx9.trans hbx);have HQS:=hid hqs;have HRU:=hid (hru.ext hbx);have HMQ:=hid hmq;have HGO:=hid hgo;have hg9:go < w9.heap.size:=hb.lt;obtain ⟨qc,hqc⟩:∃ z,qs[m].2.close=z:=⟨_,rfl⟩;have HQC:=hid hqc;have hsame:=J6u hqs hmq hqc;have HSM:=hid hsame;clear hsame;have hcl:w9.cell? ⟨go,m * 2 + 1,none⟩=some (.bool qc):=by
     rw [hb.cell,List.getElem?_toArray,flat_get Y8f qs m 1 hmq (by omega)]
     show some (Value.bool qs[m].2.close)=some (.bool qc);rw [hqc]
    have HCL:=hid (hbx.cell hcl);clear hb hqs hru hx9 d0 hcl hqc;go_wp2_with fail;obtain ⟨g9,hg9e⟩:∃ x,w9.heap.size=x:=⟨_,rfl⟩;obtain ⟨wb,hwb⟩:∃ Z,w9.alloc (.cells #[.slice (some ⟨go,0,none⟩) N N] 38)=Z:=⟨_,rfl⟩;rw [hwb,hg9e] at hbk;rw [hwb] at hbx HBO HK3 HX9 HRU HCL;rw [hwb,hg9e];have K9:=hid hbk;have hgg:go < g9:=by omega
    have hgK:g9 ≠ gs + 1 + 1:=by have:=HK2.out.lt; have:=(HX9.out).size; have:=HX8.out.size; omega
    have hdr:=(Ext.refl wb).drew;clear hbk hbx hwb hg9e hg9;refine Flow.Q4m [.p,.w,.p,.p,.w,.p,.p,.p,.w,.p,.p,.p,.last] [0,1,2,3,4,5,6,7,8,9,10,11,12] [[],[0],[],[],[3],[],[3,4,5],[3,4,5,6],[3,4,5,6,7],[3,4,5,6,7,8],[0,1,2,3,4,5,6,7,8,9],[0,1,2,3,4,5,6,7,8,9,10],[0,1,2,3,4,5,6,7,8,9,10,11]] [12]
     [.c 0 (.pointer (some ⟨g9,0,none⟩)),.c 1 (.slice (some ⟨go,0,none⟩) N N),.c 2 (.int .i64 (m:Int)),.c 3 (.pointer (some ⟨g9,0,none⟩)),.c 4 (.slice (some ⟨go,0,none⟩) N N),.c 5 (.int .i64 (m:Int)),.c 6 (.pointer (some ⟨go,m * 2,none⟩)),.c 7 (.pointer (some ⟨go,m * 2 + 1,none⟩)),.c 8 (.bool qc),.c 9 (.bool (!qc)),.c 10 (.pointer (some ⟨go,m * 2,none⟩)),.c 11 (.pointer (some ⟨go,m * 2 + 1,none⟩)),.none]
     [fun v w1 w'=>w'=w1.setCell ⟨go,m * 2 + 1,none⟩ (.bool (!qc))] (by kernel_rfl) rfl (by kernel_rfl) ⟨?g0,?g1,?g2,?g3,?g4,?g5,?g6,?g7,?g8,?g9,?g10,?g11,?g12,trivial⟩ ?post
    case g0 | g2 | g3 | g5=>
     intro v w1 hx;intro bb hbb;subst hbb;refine ⟨_,fun w=>?_,rfl⟩;go_simp
    case g1 | g4=>
     intro v w1 hx;(repeat intro (zq:v _=_));intro bb hbb;subst hbb;have n0:w1.cell? ⟨g9,0,none⟩=some (.slice (some ⟨go,0,none⟩) N N):=(K9.out.ext (hdr.trans hx)).cell 0;intro K hK;go_simp;exact hK _ _ (Ext.refl _) rfl
    case g6 | g7 | g9 | g10 | g11=>
     intro v w1 hx;(repeat intro (zq:v _=_));intro bb hbb;subst hbb;refine ⟨_,fun w=>?_,rfl⟩;go_simp
    case g8=>
     intro v w1 hx;(repeat intro (zq:v _=_));intro bb hbb;subst hbb;have n0:=(hdr.trans hx).cell HCL.out;intro K hK;go_simp;exact hK _ _ (Ext.refl _) rfl
    case g12=>
     intro v w1 hx;(repeat intro (zq:v _=_));intro wl hT;obtain rfl:wl=w1:=hT;intro bb hbb;intro K hK;have o1:bb.eval (.tmp 42)=.pointer (some ⟨go,m * 2 + 1,none⟩):=by rw [hbb]; dsimp only; (try simp (discharger:=decide) only [eval_put_ne]); rw [Q0a (by simp only [size_put]; exact (by decide:42 < 44))]; assumption
     have o2:bb.eval (.tmp 40)=.bool (!qc):=by rw [hbb]; dsimp only; (try simp (discharger:=decide) only [eval_put_ne]); rw [Q0a (by simp only [size_put]; exact (by decide:40 < 44))]; assumption
     exact Q3y _ _ rfl Tryz.Y7m (g:=go) (k:=m * 2 + 1) o1 o2 rfl rfl (HBO.out.ext (hdr.trans hx)) (by have:=HMQ.out; rw [List.size_toArray,X0z Y8f]; omega) (fun v'=>hK _ _ rfl)
    case post =>
     intro v w1 hx;(iterate 12 intro (zq:v _=_));intro w2 hE;replace hE:(fun v w1 w'=>w'=w1.setCell ⟨go,m * 2 + 1,none⟩ (.bool (!qc))) v w1 w2:=hE;simp only [Flow.acts,Act.put];go_simp;subst hE;have hxx:=hdr.trans hx;have hB1:=(HBO.out.ext hxx).set (m * 2 + 1) (.bool (!qc));rw [J6r qs HMQ.out] at hB1;have hR1:=((HRU.out.ext hxx).J7p (c:=!qc) HMQ.out).set (k:=m * 2 + 1) (u:=.bool (!qc)) (HBO.out.ext hxx) (by decide)
     have hK9:=J3p (K9.out.ext hxx) (p:=⟨go,m * 2 + 1,none⟩) (show g9 ≠ go by omega) (.bool (!qc))
     have hK3:=J3p (HK3.out.ext hxx) (p:=⟨go,m * 2 + 1,none⟩) (show gs + 1 + 1 ≠ go by have:=HGO.out; have:=HK2.out.lt; omega) (.bool (!qc))
     have hXA:Ext w (w1.setCell ⟨go,m * 2 + 1,none⟩ (.bool (!qc))):=Below.setCell (HXW.out.trans (HX8.out.trans (HX9.out.trans hxx))) (by have:=HX8.out.size; have:=HXW.out.size; show w.heap.size <= go; omega) _
     obtain ⟨wS,hwS⟩:∃ Z,w1.setCell ⟨go,m * 2 + 1,none⟩ (.bool (!qc))=Z:=⟨_,rfl⟩;rw [hwS] at hB1 hR1 hK9 hK3 hXA ⊢;have HB1:=hid hB1;have HR1:=hid hR1;have HXA:=hid hXA;have e0:=hK9.cell 0;simp only [Go.Tw.gA,Go.Tw.gB] at e0;clear hwS hxx hx hdr hB1 hR1 hXA;(repeat clear zq);have hp:=hK3;clear hK3 hK9;go_wp2_with (with_reducible (refine Q7g ?_); refine Q0s rfl _ _ _ rfl Tryz.Q4b rfl rfl hp rfl rfl Y0c ?_; intro wz hb9 hl9 ho9);refine bodyPost_ret (Q4c Tryz.results56 rfl hb9 Tryz.Q8b Tryz.Q4b rfl) rfl ?_;have hS:=HSM.out;have hrl:=X7y (Q0z.J7m (base:=0) (n:=N) Y8f HB1.out (by rw [List.length_set,<- List.length_map (f:=(·.2)),HQS.out,HN.out]) (Nat.zero_le _) (by unfold maxLen; omega)) (by rw [List.length_set,<- List.length_map (f:=(·.2)),HQS.out,HN.out]; omega) HR1.out (fun q hq=>by
      have hm2:q.2 ∈ J2n p m:=by rw [<- hS]; exact List.mem_map_of_mem hq
      have h:=Q4h.1 (J4z (n:=m) HRE.out);have hmm:q.2.classes ∈ s.hist:=by rw [<- h]; exact List.mem_map_of_mem hm2
      have:=Z2v HV.out _ hmm;omega)
     have hrl2:Q3m wS (.slice (some ⟨go,0,none⟩) N N) (J2n p m):=by rw [<- hS]; exact hrl
     exact ⟨⟨_,by rw [HF.out,HF0.out]; rfl,by rw [HFU.out]; exact Y8y hrl2 hp (fun k _ hk=>ho9 k hk)⟩,Below.trans HXA.out (hl9 _ (by have:=HGS.out; omega))⟩
  . have HFU:Hid (J2l s p n=[]):=hid (if_neg (by rw [HF.out]; exact h0))
    have hne:(F != 0)=true:=by simp [h0]
    have hp:=HK2.out;clear h0;go_wp2_with (with_reducible (refine Q7g ?_); refine Q0s rfl _ _ _ rfl Tryz.Q4b rfl rfl hp rfl rfl Y0c ?_; intro w9 hb9 hl9 ho9);refine bodyPost_ret (Q4c Tryz.results56 rfl hb9 Tryz.Q8b Tryz.Q4b rfl) rfl ?_;exact ⟨⟨_,by rw [HF.out]; rfl,by rw [HFU.out]; exact Go.Tw.Rows.nil _ _ _⟩,Below.trans (HXW.out.trans HX8.out) (hl9 _ (by have:=HGS.out; omega))⟩
end Go.Proofs
