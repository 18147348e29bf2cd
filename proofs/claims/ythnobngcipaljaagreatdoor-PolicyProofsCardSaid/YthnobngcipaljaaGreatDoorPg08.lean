/- Part of a proof. -/
import Derived.Test.YthnobngcipaljaaGreatDoorPg07
set_option maxRecDepth 1000000
set_option maxHeartbeats 64000000
set_option linter.unusedVariables false
set_option linter.unusedSimpArgs false
set_option linter.constructorNameAsVariable false
open Go.Lib (hid)
namespace Go.Proofs
open Go.RowKit Go.Tw Go.Flow Tryz
attribute [local go_sem] Oper.semAt_some
theorem fze08 {u:Type} {a b:u} (h:a=b:=by rw [hbb]; dsimp only; (try simp (discharger:=decide) only [Flow.eval_put_ne]); rfl):a=b:=h
theorem clone_any (w:World) (v:Value) (l:List Int) (hv:Q0e w v l) :
    Calls prog 174 #[v] w fun e w'=>∃ u,e=.returned u /\ Q0n w' 0 3 (.int .i64) u l /\ Ext w w':=by
 obtain ⟨A,Qq,rfl,hl,Kq,hc⟩:=hv.opened;cases A with
 | none =>
   have hz:l=[]:=by
    cases l with
    | nil=>rfl
    | cons x l=>obtain ⟨b,off,he,_⟩:=hc 0 (by simp); cases he
   subst hz;exact (Tryz.slices_Clone_int_nil _ _ _).mono fun e w' ⟨he,hw⟩=>⟨_,he,Q0n.nil _ _ _ _,by rw [hw]; exact Ext.refl _⟩
 | some a =>
   by_cases h0:l.length=0
   . have hz:l=[]:=List.length_eq_zero_iff.1 h0
     subst hz;exact (Tryz.slices_Clone_int_zero _ _ _).mono fun e w' ⟨v',he,Yq,_,hx⟩=>⟨_,he,Q0n.weaken (show Q0n w' w.heap.size 3 (.int .i64) v' [] from Yq) (Nat.zero_le _),hx⟩
   . obtain ⟨b,off,he,_⟩:=hc 0 (by omega)
     cases he;refine (Tryz.slices_Clone_int b off l.length Qq l w (Nat.le_refl _) (by omega) (fun j hj=>?_)).mono fun e w' ⟨v',he,Yq,_,hx⟩=>⟨_,he,Q0n.weaken (show Q0n w' w.heap.size 3 (.int .i64) v' l from by unfold Q0n; rw [List.take_length] at Yq; exact Yq) (Nat.zero_le _),hx⟩
     obtain ⟨b',off',he,h⟩:=hc j hj;cases he;exact h
theorem Z1f (cur:Array Value) (vs:List Value) (h:vs.length=cur.size):Q3c cur 0 vs=vs.toArray:=by
 apply Array.ext_getElem?
 intro j;rw [Q5q _ _ _ _ (by omega)]
 by_cases hj:j < vs.length
 . rw [if_pos (by omega),Nat.sub_zero,List.getElem?_toArray]
 . rw [if_neg (by omega),Array.getElem?_eq_none (show cur.size <= j by omega)]
   symm
   rw [Array.getElem?_eq_none];rw [List.size_toArray]; omega
theorem X9b {P:Program} {w:World} {ops:Array Oper} {rest:List Oper} {o:Oper} {a:Act} {Q:Exit -> Act -> World -> Prop} (Za:o.guard=none) (d s:Operand) (dT sT:TypeId) (ho:o.op=.call { callee:=.builtin .copy,args:=#[d,s],argTypes:=#[dT,sT] })
    (elem:TypeId) (hu:P.underlying dT=some (.slice elem)) {sz:Nat} (hs:∀ w,(sizeOf elem).run P w=.ok sz w) {n dcap scap:Nat} {g:Nat} {sp:Option Addr} (hd:a.eval d=.slice (some ⟨g,0,none⟩) n dcap) (L6:a.eval s=.slice sp n scap)
    {T:TypeId} {cur:Array Value} (hb:Blk w g T cur) (cs:List Value) (Fq:cs.length=n * sz) (Gy:∀ j v,cs[j]?=some v -> ∃ b off,sp=some ⟨b,off,none⟩ /\ w.cell? ⟨b,off + j,none⟩=some v) (Gz:cs.length <= cur.size) (h1:∀ v ∈ cs,v.oneCell'=true)
    (hK:∀ w',Blk w' g T (Q3c cur 0 cs) -> (∀ n,n <= g -> Below n w w') -> (∀ k,k ≠ g -> w'.heap[k]?=w.heap[k]?) -> wpList P ops Q rest (a.put o.dst (goInt n)) w'):wpList P ops Q (o :: rest) a w:=by
 refine wpList_plain Za fun K' F4=>?_;unfold Oper.wp;obtain ⟨w',hr,Mk,hl,S5⟩:=Y8t (P:=P) dT sT o.type elem hu hs n dcap scap hb sp cs Fq Gy Gz h1;have zk:(execOp a.eval o).run P w=.ok (.value (goInt n)) w':=by
  unfold execOp;simp only [ho,resolve,invoke,builtin,Sem.run_bind,Sem.run_pure,Result.andThen_ok,List.map_toArray,List.map_cons,List.map_nil,hd,L6,hr]
 rw [zk];exact F4 _ _ (hK w' Mk hl S5)
def Z1s (p:List Rul) (c:Nat -> Value):List (Value × Rul):=(List.range p.length).map fun k=>(c (k * 2),p.getD k default)
theorem X8k (p:List Rul) (c:Nat -> Value):(Z1s p c).length=p.length:=by unfold Z1s; simp
theorem Z7h (p:List Rul) (c:Nat -> Value):(Z1s p c).map (·.2)=p:=by
 unfold Z1s;rw [List.map_map]
 apply List.ext_getElem
 . simp
 . intro i h1 h2
   simp [h2]
theorem Y5i (p:List Rul) (c:Nat -> Value) {k:Nat} (hk:k < (Z1s p c).length):(Z1s p c)[k]=(c (k * 2),⟨Q0k p k,Q3a p k⟩):=by
 unfold Z1s Q0k Q3a;simp
theorem Z2i {w:World} {A:Option Addr} {n:Nat} {p:List Rul} {c:Nat -> Value} (hc:∀ j,j < n * 2 -> ∃ b off,A=some ⟨b,off,none⟩ /\ w.cell? ⟨b,off + j,none⟩=some (c j)) (hn:p.length=n) (h2:∀ k (h:k < p.length),J9f w (fun i=>c (k * 2 + i)) p[k]) :
    ∀ j v,((Z1s p c).flatMap X0s)[j]?=some v -> ∃ b off,A=some ⟨b,off,none⟩ /\ w.cell? ⟨b,off + j,none⟩=some v:=by
 subst hn;intro j v hj;have Fq:=Q5s Q7v (Z1s p c);rw [X8k] at Fq;have Zj:j < ((Z1s p c).flatMap X0s).length:=(List.getElem?_eq_some_iff.1 hj).1;obtain ⟨b,off,hA,Xq⟩:=hc j (by omega)
 refine ⟨b,off,hA,?_⟩;rw [Xq];have e:j=j / 2 * 2 + j % 2:=by omega
 have hk:j / 2 < (Z1s p c).length:=by rw [X8k]; omega
 rw [e,flat_get Q7v (Z1s p c) (j / 2) (j % 2) hk (by omega),Y5i] at hj
 have hk':j / 2 < p.length:=by rw [X8k] at hk; exact hk
 obtain ⟨_,h1⟩:=h2 (j / 2) hk';have h1:c (j / 2 * 2 + 1)=.bool p[j / 2].close:=h1
 rcases Nat.mod_two_eq_zero_or_one j with hm | hm
 . rw [hm] at hj e
   rw [e]
   simpa [X0s] using hj
 . rw [hm] at hj e
   rw [e,h1];have:Q3a p (j / 2)=p[j / 2].close:=by unfold Q3a; rw [Q0t _ hk']
   simpa [X0s,this] using hj
theorem Q1b.J9k {α:Type} {w:World} {base g n k:Nat} {e:TypeId} {enc:α -> List Value} {l:List α} (hk:∀ x,(enc x).length=k) (hb:Blk w g e (l.flatMap enc).toArray) (hl:l.length=n) (hg:base <= g) (hn:n <= maxLen):Q1b w base e k enc (.slice (some ⟨g,0,none⟩) n n) l:=by
 subst hl;refine ⟨Q5s hk l,.inr ⟨g,l.length,_,rfl,hg,hb,Nat.le_refl _,hn,?_,?_⟩⟩
 . rw [List.size_toArray,Q5s hk]
 . rw [<- Q5s hk l,List.take_length]
def Z7i (w:World) (qs:List (Value × Rul)) (k:Nat):Prop:=∀ j (h:j < qs.length),j < k -> Q0n w 0 3 (.int .i64) qs[j].1 qs[j].2.classes
theorem Z7i.set {w:World} {qs:List (Value × Rul)} {k:Nat} {u:Value} {r:Rul} (h:Z7i w qs k) (hu:Q0n w 0 3 (.int .i64) u r.classes):Z7i w (qs.set k (u,r)) (k + 1):=by
 intro j hj hk;rw [List.length_set] at hj
 by_cases e:k=j
 . subst e
   rw [List.getElem_set_self]; exact hu
 . rw [List.getElem_set_ne e]
   exact h j hj (by omega)
theorem Z9v:∀ (qs:List (Value × Rul)) {k:Nat} (hk:k < qs.length) {u:Value},(qs.flatMap X0s).toArray.setIfInBounds (k * 2) u=((qs.set k (u,qs[k].2)).flatMap X0s).toArray:=by
 intro qs
 induction qs with
 | nil=>intro k hk; simp at hk
 | cons q qs ih =>
   intro k hk u;cases k with
   | zero=>simp [X0s]
   | succ k =>
     have h:=ih (k:=k) (by simpa using hk) (u:=u)
     simp only [List.setIfInBounds_toArray,Array.mk.injEq] at h;simp only [List.flatMap_cons,List.setIfInBounds_toArray,List.set_cons_succ,List.getElem_cons_succ,X0s,Array.mk.injEq];rw [<- h,show (k + 1) * 2=k * 2 + 1 + 1 by omega]
     rfl
theorem J3u {p:List Rul} {qs:List (Value × Rul)} {k:Nat} {x v:Value} {r:Rul} (hk:k < qs.length) (h:qs.map (·.2)=p) (e:qs[k]=(x,r)):p.set k ((v,r):Value × Rul).2=p:=by
 have:(qs.map (·.2))[k]'(by simpa using hk)=r:=by rw [List.getElem_map,e]
 subst h
 apply List.ext_getElem
 . simp
 . intro i h1 h2
   by_cases hi:k=i
   . subst hi; rw [List.getElem_set_self]; exact this.symm
   . rw [List.getElem_set_ne hi]
def Y9p (w w':World) (p:List Rul) (n:Nat) (e:Ending):Prop:=∃ g qs,e=.returned (.agg #[.slice (some ⟨g,0,none⟩) n n]) /\ Blk w' g 167 (qs.flatMap X0s).toArray /\ w.heap.size <= g /\ qs.map (·.2)=p /\ RuR w' qs /\ Ext w w'
theorem J0u {w:World} {g:Nat} {T:TypeId} {cs:Array Value} (h:Blk w g T cs) {p:Addr} (hne:g ≠ p.block) (u:Value):Blk (w.setCell p u) g T cs:=by
 unfold Blk at *; rw [Below.heap_setCell _ _ _ _ hne]; exact h
theorem J3c (w:World) (v:Value) (p:List Rul) (hv:Q0m w v p) (hl:p.length <= 1000) (h8:∀ k,k < p.length -> (Q0k p k).length <= 4096) :
    Calls prog 131 #[v] w fun e w'=>Y9p w w' p p.length e:=by
 obtain ⟨i0,hi,fq,mq,iq⟩:=info_parts J6a;obtain ⟨a,rfl,hr⟩:=hv;obtain ⟨c,⟨A,Qq,rfl,-,-,hc⟩,h2⟩:=hr;have Y0:Hid (∀ w',Ext w w' -> ∀ j v,((Z1s p c).flatMap X0s)[j]?=some v -> ∃ b off,A=some ⟨b,off,none⟩ /\ w'.cell? ⟨b,off + j,none⟩=some v):=hid (fun w' hx j v hj=>by
  obtain ⟨b,off,h1,h3⟩:=Z2i hc rfl h2 j v hj;exact ⟨b,off,h1,hx.cell h3⟩)
 have Db:Hid (∀ k,k < p.length -> Q0e w (c (k * 2)) (Q0k p k)):=hid (fun k hk=>by
  obtain ⟨h3,_⟩:=h2 k hk;unfold Q0k;rw [Q0t _ hk];exact h3)
 have Z4:=Z7h p c;have C7:=X8k p c;have YV:=hid (fun k (hk:k < (Z1s p c).length)=>Y5i p c hk);have Fv:∀ u ∈ (Z1s p c).flatMap X0s,u.oneCell'=true:=by
  intro u hu;obtain ⟨q,hq,hu⟩:=List.mem_flatMap.1 hu;obtain ⟨k,hk,rfl⟩:=List.getElem_of_mem hq;rw [Y5i] at hu;have hi:=Db.out k (by rw [C7] at hk; exact hk)
  obtain ⟨A',cap',he,_⟩:=hi.opened;simp only [X0s,List.mem_cons,List.not_mem_nil,or_false] at hu
  rcases hu with rfl | rfl
  . rw [he]; rfl
  . rfl
 obtain ⟨q0,hq⟩:∃ x,Z1s p c=x:=⟨_,rfl⟩;rw [hq] at Y0 YV Z4 C7 Fv;obtain ⟨n,hn⟩:∃ n,p.length=n:=⟨_,rfl⟩;have HN:=hid hn;rw [hn] at hl C7 Db ⊢;have H8:=hid h8;have bj:=hid Fv;have En:=hid Z4;have CJ:=Q5s Q7v q0;rw [C7] at CJ;have CY:=hid CJ;have AY:=hid C7;clear hc h2 hq hn Z4 Fv h8 CJ C7;go_enter func131,ntmps131;go_wp2_with (refine Q1r (o:=⟨some 9,_,_,_,_,_⟩) rfl ?_; refine Y3q (.tmp 8) _ _ rfl i0 _ 2 32 underlying36 hi fq mq iq n rfl (by omega) (by decide) ?_; refine halted ?_)
 unfold Q1o;obtain ⟨W,Nq,k0,k1,k2,Sq,eW⟩:=Q9s w 38 #[.slice A n Qq] 38 #[.slice none 0 0] 167 (madeCells #[.slice none 0 0,.bool false] (n * 2));rw [Nq];clear Nq;obtain ⟨gs,bq⟩:∃ x,w.heap.size=x:=⟨_,rfl⟩;have Nz:=hid bq;rw [bq] at k0 k1 k2 eW ⊢;clear bq;obtain ⟨g,hg⟩:∃ x,gs + 1 + 1=x:=⟨_,rfl⟩;have HG:=hid hg;rw [hg] at k2 eW ⊢;have Qj:gs + 1 < g:=by omega
 have c0:=k0.cell 0;simp only [Go.Tw.gA,Go.Tw.gB] at c0;have K1:=hid k1;have K2:=hid k2;have o7:Hid ((q0.flatMap X0s).length=(madeCells #[Value.slice none 0 0,.bool false] (n * 2)).size):=hid (by rw [CY.out]; simp [madeCells])
 clear k0 k1 k2 hg;go_wp2_with (refine X9b rfl (.tmp 10) (.tmp 12) _ _ rfl 167 underlying36 (sz:=2) J3n (n:=n) (g:=g) rfl rfl K2.out (q0.flatMap X0s) (by rw [CY.out]) (Y0.out _ Sq.out) (by rw [o7.out]; exact Nat.le_refl _) bj.out ?_; intro w4 Cb SZ Dn; refine halted ?_)
 unfold Q1o;rw [Z1f _ _ o7.out] at Cb;have Rk:=hid (K1.out.below (SZ g (Nat.le_refl _)) Qj);have uz:Hid (w.heap.size <= g):=hid (by have:=HG.out; have:=Nz.out; omega)
 have O8:Hid (Ext w w4):=hid (Below.trans Sq.out (SZ _ uz.out));have Bb:=hid Cb;clear Cb SZ Dn c0 K2;go_wp2_with fail
 go_loopw [16] (fun i wr=>∃ (k:Nat) (qs:List (Value × Rul)),k <= n /\ i=.int .i64 k /\ qs.length=n /\ qs.map (·.2)=p /\ (∀ j,k <= j -> qs[j]?=q0[j]?) /\ Z7i wr qs k /\ Blk wr g 167 (qs.flatMap X0s).toArray /\ Below g w4 wr) (fun i _=>n - (intOf i).toNat)
 case atStart=>exact ⟨0,q0,Nat.zero_le _,rfl,AY.out,En.out,fun _ _=>rfl,(fun j _ h=>absurd h (Nat.not_lt_zero _)),Bb.out,Below.refl _ _⟩
 case round =>
  obtain ⟨k,qs,hk,rfl,C7,Lz,Wz,Bv,Dz,dq⟩:=hrel;have Dq:Ext w wr:=Below.trans O8.out (dq.mono uz.out);have ff:=hid C7;have zg:=hid Lz;have Vv:=hid Wz;have Nj:=hid Bv;have Rw:=hid Dz;have N0:=hid dq;have rq:=hid Dq
  by_cases Tq:k < n
  . have Lj:(k:Int) < n:=by omega
    have Dw:k < qs.length:=by omega
    have vk:k < q0.length:=by have:=AY.out; omega
    have rz:qs[k]=(c (k * 2),⟨Q0k p k,Q3a p k⟩):=by
     have h:=Wz k (Nat.le_refl _);rw [List.getElem?_eq_getElem Dw,List.getElem?_eq_getElem vk] at h;injection h with h;rw [h]; exact YV.out k vk
    have mz:=Db.out k Tq;have C5:=H8.out k (by rw [HN.out]; exact Tq)
    have e0:wr.cell? ⟨g,k * 2,none⟩=some (c (k * 2)):=by
     rw [Dz.cell,List.getElem?_toArray,show k * 2=k * 2 + 0 from rfl,flat_get Q7v qs k 0 Dw (by omega),rz]; rfl
    have e1:wr.cell? ⟨g,k * 2 + 1,none⟩=some (.bool (Q3a p k)):=by
     rw [Dz.cell,List.getElem?_toArray,flat_get Q7v qs k 1 Dw (by omega),rz]; rfl
    obtain ⟨cv,P7⟩:∃ z,c (k * 2)=z:=⟨_,rfl⟩;rw [P7] at mz e0 rz;obtain ⟨X,Rq,rfl,-,-,-⟩:=mz.opened;obtain ⟨cs,Bk⟩:∃ z,Q0k p k=z:=⟨_,rfl⟩;obtain ⟨cb,Rj⟩:∃ z,Q3a p k=z:=⟨_,rfl⟩;rw [Bk] at e0 mz rz C5;rw [Rj] at e1 rz;have pj:=Ext.box wr (.cells #[.slice X cs.length Rq,.bool cb] 167);have qj:=Blk.made wr 167 #[.slice X cs.length Rq,.bool cb];have d0:=qj.cell 0;simp only [Go.Tw.gA,Go.Tw.gB] at d0;have HI:=hid (mz.ext (Dq.trans pj));have B3:=hid pj;have V6:=hid rz;have ef:=hid Dw;clear C7 Lz Wz Bv Dz dq Dq vk rz mz P7 Bk Rj qj;go_wp2_with fail;obtain ⟨wb,nz⟩:∃ Z,wr.alloc (.cells #[.slice X cs.length Rq,.bool cb] 167)=Z:=⟨_,rfl⟩;rw [nz] at d0 HI B3 pj ⊢;refine (clone_any _ _ cs HI.out).mono ?_;rintro e w5 ⟨u,rfl,hu,Cq⟩;obtain ⟨bu,cu,rfl,-⟩:=hu.shape;have HU:=hid hu;have vq:=hid (B3.out.trans Cq);have T8:=hid (Rw.out.ext vq.out);have e5:=vq.out.cell e0;have f5:=T8.out.frozen (k * 2);have Gw:=T8.out.set (k * 2) (.slice bu cs.length cu);rw [Z9v qs ef.out,V6.out] at Gw;have P4:=hid Gw;have Cn:Hid (Z7i (w5.setCell ⟨g,k * 2,none⟩ (.slice bu cs.length cu)) (qs.set k (.slice bu cs.length cu,⟨cs,cb⟩)) (k + 1)):=hid (Z7i.set (fun j h hj=>Q7h ((Nj.out j h hj).below vq.out) T8.out (by decide)) (Q7h HU.out T8.out (by decide)))
    have O5:=hid ((N0.out.trans (vq.out.mono (by have:=Rw.out.lt; omega))).setCell (p:=⟨g,k * 2,none⟩) (Nat.le_refl g) (.slice bu cs.length cu))
    clear d0 e0 e1 nz pj hu Cq Gw;go_wp2;go_roundw
    case rel=>exact ⟨k + 1,qs.set k (.slice bu cs.length cu,⟨cs,cb⟩),by omega,by go_num,by rw [List.length_set]; exact ff.out,by rw [List.map_set,zg.out]; exact J3u ef.out zg.out V6.out,(fun j hj=>by rw [List.getElem?_set_ne (by omega)]; exact Vv.out j (by omega)),Cn.out,P4.out,O5.out⟩
    case measure=>simp [intOf]; omega
  . have Lj:¬ (k:Int) < n:=by omega
    obtain rfl:k=n:=by omega
    have sx:=Rk.out.below dq Qj;have c1:wr.cell? ⟨gs + 1,0,none⟩=some (.slice none 0 0):=sx.cell 0;have f1:=sx.frozen 0;have HK1b:=hid sx;clear C7 Lz Wz Bv Dz dq Dq sx;go_wp2;refine bodyPost_ret (Q2h results131 rfl (HK1b.out.set 0 _) Q6t Q4b) rfl ?_;have hr:RuR wr qs:=fun q hq=>by
     obtain ⟨j,hj,rfl⟩:=List.getElem_of_mem hq;exact Nj.out j hj (by have:=ff.out; omega)
    unfold Y9p;exact ⟨g,qs,rfl,J0u Rw.out (p:=⟨gs + 1,0,none⟩) (show g ≠ gs + 1 by omega) _,uz.out,zg.out,hr.set HK1b.out (by decide),rq.out.X8l (p:=⟨gs + 1,0,none⟩) (by show w.heap.size <= gs + 1; have:=Nz.out; omega) _⟩
theorem J1l (w:World) (v:Value) (p:List Rul) (hv:Q0m w v p) (hl:p.length <= 1000) (h8:∀ k,k < p.length -> (Q0k p k).length <= 4096) :
    Calls prog 131 #[v] w fun e w'=>∃ x,e=.returned x /\ Q0m w' x p /\ Ext w w' :=
 (J3c w v p hv hl h8).mono fun e w' ⟨g,qs,he,hb,hg,hq,hr,hx⟩=>by
  subst hq;rw [List.length_map] at he hl;have h:=X5i (Q1b.J9k (base:=0) Q7v hb rfl (Nat.zero_le _) (by unfold maxLen; omega)) (by omega) hr (fun q hq=>by
   obtain ⟨j,hj,rfl⟩:=List.getElem_of_mem hq;have:=h8 j (by rw [List.length_map]; exact hj)
   unfold Q0k at this;rw [Q0t _ (by rw [List.length_map]; exact hj),List.getElem_map] at this
   exact this)
  exact ⟨_,he,⟨_,rfl,h⟩,hx⟩
structure Z8u (x:Plan):Prop where
 w:0 <= x.weight /\ x.weight <= 1000000000
 c:0 <= x.closings /\ x.closings <= 1000000000
 d:0 <= x.delay /\ x.delay <= 1000000000000
 l:x.closed.length <= 10000
theorem Q1b.weaken {α:Type} {w:World} {base base' k:Nat} {e:TypeId} {enc:α -> List Value} {v:Value} {xs:List α} (h:Q1b w base e k enc v xs) (hb:base' <= base):Q1b w base' e k enc v xs:=by
 obtain ⟨h1,h2⟩:=h;refine ⟨h1,?_⟩
 rcases h2 with h2 | ⟨g,Qq,cur,hv,Qx,r⟩
 . exact .inl h2
 . exact .inr ⟨g,Qq,cur,hv,Nat.le_trans hb Qx,r⟩
theorem X9z {P:Program} {K:Value -> World -> Prop} {o:Oper} {a:Act} {w:World} {f:FuncId} {x:Operand} {ts:Array TypeId} {u:Value} {R:Ending -> World -> Prop} (ho:o.op=.call { callee:=.value (.func f),args:=#[x],argTypes:=ts })
    (he:Enters P f) (hx:a.eval x=u) (h:Calls P f #[u] w R) (hk:∀ e w',R e w' -> ∃ z,e=.returned z /\ K z w'):gives P K ((execOp a.eval o).run P w):=by
 unfold execOp;simp only [ho,resolve,invoke,Sem.run_bind,List.map_toArray,List.map_cons,List.map_nil,hx];go_simp;rw [he];exact Q0d h hk
theorem Y1e {α:Type} {P:Program} {K:Value -> World -> Prop} {o:Oper} {a:Act} {w:World} (s x:Operand) (t:TypeId) (ho:o.op=.call { callee:=.builtin .append,args:=#[s,x],argTypes:=#[t,t] })
    (base:Nat) (e:TypeId) (i:TypeInfo) (z:Value) (k bytes:Nat) (ht:P.underlying t=some (.slice e)) (hi:P.info? e=some i) (hz:i.zero=some z) (zz:i.size=k) (M3:i.bytes=bytes) (Yy:z.cells.size=k) (vk:0 < k)
    (enc:α -> List Value) (hk:∀ x,(enc x).length=k) (v:Value) (xs:List α) (y:α) (hs:a.eval s=v) (Yq:Q1b w base e k enc v xs) (ad:Addr) (c:Nat) (hx:a.eval x=.slice (some ad) 1 c)
    (Jj:∀ j u,(enc y)[j]?=some u -> w.cell? (ad.add j)=some u) (h1:∀ u ∈ enc y,u.oneCell'=true)
    (Z7:xs.length + 1 <= 100000) (hb:bytes <= 1000) (kz:base <= w.heap.size)
    (h:∀ v' w',Q1b w' base e k enc v' (xs ++ [y]) -> w.grownBy w' v.ownBlock -> (v'.ownBlock=v.ownBlock ∨ v'.ownBlock=some w.heap.size) -> K v' w'):gives P K ((execOp a.eval o).run P w):=by
 obtain ⟨v',w',hr,h2,h3,h4,h5⟩:=run_append_own_at (P:=P) w base t o.type e i z k bytes ht hi hz zz M3 Yy vk v xs.length (xs.flatMap enc) Yq ad 1 c (enc y) (by rw [hk]; omega) Jj h1 (by unfold maxLen; omega) (by
     have:(xs.length + 1) * bytes <= 100000 * 1000:=Nat.mul_le_mul Z7 hb;omega) kz
 unfold execOp;simp only [ho,resolve,invoke,builtin,Sem.run_bind,Sem.run_pure,Result.andThen_ok,List.map_toArray,List.map_cons,List.map_nil,hs,hx,hr];exact h v' w' (Q1b.snoc h2) h3 h5
theorem Y2b (w:World) (A B:Option Addr) (n c m d:Nat):(Instr.buildSlice 295 2 #[(0,.slice A n c),(1,.slice B m d)]).run prog w=.ok (.slice (some ⟨w.heap.size,0,none⟩) 2 2) (w.alloc (.cells #[.slice A n c,.slice B m d] 157)):=by kernel_rfl
theorem Q8j {K:Value -> World -> Prop} {o:Oper} {a:Act} {w:World} (T E:TypeId) (x y:Operand) (ho:o.op=.buildSlice T 2 #[(0,x),(1,y)]) {u v:Value} (hx:a.eval x=u) (hy:a.eval y=v) (hr:(Instr.buildSlice T 2 #[(0,u),(1,v)]).run prog w=.ok (.slice (some ⟨w.heap.size,0,none⟩) 2 2) (w.alloc (.cells #[u,v] E)))
    (h:K (.slice (some ⟨w.heap.size,0,none⟩) 2 2) (w.alloc (.cells #[u,v] E))):gives prog K ((execOp a.eval o).run prog w):=by
 unfold execOp;simp only [ho,hx,hy,List.map_toArray,List.map_cons,List.map_nil,Sem.run_bind,hr,Result.andThen_ok,Sem.run_pure];exact h
def X2d (ps qs0:List Plan) (k:Nat):List Plan:=(ps.take k).flatMap fun x=>qs0.map (both x)
def X2f (x:Plan) (qs0:List Plan) (j:Nat):List Plan:=(qs0.take j).map (both x)
theorem Y0h {ps qs0:List Plan} {k:Nat} {x:Plan} (h:ps[k]?=some x):X2d ps qs0 (k + 1)=X2d ps qs0 k ++ X2f x qs0 qs0.length:=by
 obtain ⟨hk,rfl⟩:=List.getElem?_eq_some_iff.1 h;unfold X2d X2f;rw [List.take_succ_eq_append_getElem hk,List.flatMap_append,List.flatMap_singleton,List.take_length]
theorem Z4m {x:Plan} {qs0:List Plan} {j:Nat} {y:Plan} (h:qs0[j]?=some y):X2f x qs0 (j + 1)=X2f x qs0 j ++ [both x y]:=by
 obtain ⟨hk,rfl⟩:=List.getElem?_eq_some_iff.1 h;unfold X2f;rw [List.take_succ_eq_append_getElem hk,List.map_append]; rfl
theorem Y3w (ps qs0:List Plan) (k:Nat) (hk:k <= ps.length):(X2d ps qs0 k).length=k * qs0.length:=by
 induction k with
 | zero=>simp [X2d]
 | succ k ih =>
   rw [Y0h (List.getElem?_eq_getElem hk),List.length_append,ih (by omega),Nat.succ_mul]
   simp [X2f]
theorem Z8w (ps qs0:List Plan):Y0i (X2d ps qs0 ps.length)=together ps qs0:=by unfold X2d together; rw [List.take_length]
theorem Q8m {w:World} {B:Nat} {v:Value} {ps:List PV} (h:Q1b w B 159 4 Q3f v ps):∃ A cv,v=.slice A ps.length cv /\ Hid (∀ j (hj:j < ps.length),∃ gb,A=some ⟨gb,0,none⟩ /\ ∀ i,i < 4 -> w.cell? ⟨gb,j * 4 + i,none⟩=(Q3f ps[j])[i]?):=by
 rcases OwnP.cases h with ⟨rfl,h0⟩ | ⟨gb,Qq,cur,rfl,_,hb,_,_,_,O2⟩
 . exact ⟨none,0,by rw [h0]; rfl,hid (fun j hj=>by rw [h0] at hj; simp at hj)⟩
 . exact ⟨_,Qq,rfl,hid (fun j hj=>⟨gb,rfl,fun i hi=>X3l hb O2 hj hi⟩)⟩
theorem Y8s (w:World) (B1 B2:Nat) (va vb:Value) (ps qs0:List PV) (ha:Q1b w B1 159 4 Q3f va ps) (hb:Q1b w B2 159 4 Q3f vb qs0) (Vz:Q0r w ps) (Rj:Q0r w qs0) (LK:∀ q ∈ ps,Z8u q.1) (cf:∀ q ∈ qs0,Z8u q.1)
    (Fq:ps.length * qs0.length <= 80000) (Ov:ps.length <= 80000) (Nv:qs0.length <= 80000) :
    Calls prog 184 #[va,vb] w fun e w'=>∃ v' qs,e=.returned v' /\ Q1b w' w.heap.size 159 4 Q3f v' qs /\ Q0r w' qs /\ qs.map (·.1)=together (ps.map (·.1)) (qs0.map (·.1)) /\ Ext w w':=by
 obtain ⟨i0,hi,fq,mq,iq⟩:=info_parts Y9w;have O4:=hid Vz;have lW:=hid Rj;have E9:=hid LK;have D9:=hid cf;obtain ⟨A,cv,Aj,xj⟩:=Q8m ha;subst Aj;obtain ⟨B,dv,Aj,XV⟩:=Q8m hb;subst Aj;obtain ⟨L,hL⟩:∃ L,ps.length=L:=⟨_,rfl⟩;obtain ⟨M,hM⟩:∃ M,qs0.length=M:=⟨_,rfl⟩;have HL:=hid hL;have HM:=hid hM;rw [hL] at Fq Ov ⊢;rw [hM] at Fq Nv ⊢;have Ak:=hid Fq;have zx:=hid (Z8w (ps.map (·.1)) (qs0.map (·.1)));clear ha hb Vz Rj LK cf hL hM Fq;go_enter func184,ntmps184;go_wp2
 go_loopw [5,12] (fun o i wr=>∃ (k:Nat) (qs:List PV),k <= L /\ i=.int .i64 k /\ Q1b wr w.heap.size 159 4 Q3f o qs /\ Q0r wr qs /\ qs.map (·.1)=X2d (ps.map (·.1)) (qs0.map (·.1)) k /\ Ext w wr) (fun _ i _=>L - (intOf i).toNat)
 case atStart=>exact ⟨0,[],Nat.zero_le _,rfl,Q1b.nil _ _ _ _ _,Q0r.nil _,rfl,Ext.refl _⟩
 case round =>
  obtain ⟨k,qs,hk,rfl,Yq,Kx,Fz,hx⟩:=hrel;have Ty:=hid Fz;have HX:=hid hx;have lq:=hid Yq;have Uw:=hid Kx;have AY:Hid (qs.length=k * M):=hid (by
   have:=congrArg List.length Fz;rw [List.length_map,Y3w _ _ _ (by rw [List.length_map,HL.out]; exact hk),List.length_map,HM.out] at this
   exact this)
  by_cases Tq:k < L
  . have Oj:k < ps.length:=by rw [HL.out]; exact Tq
    have Lj:(k:Int) < L:=by omega
    obtain ⟨gb,rfl,Xq⟩:=xj.out k Oj;have e0:=hx.cell (Xq 0 (by omega))
    have e1:=hx.cell (Xq 1 (by omega))
    have e2:=hx.cell (Xq 2 (by omega))
    have e3:=hx.cell (Xq 3 (by omega))
    obtain ⟨A4,n4,c4,qx⟩:=O4.out.shape (List.getElem_mem Oj);have Wx:(ps.map (·.1))[k]?=some ps[k].1:=by rw [List.getElem?_map,List.getElem?_eq_getElem Oj]; rfl
    have hcl:=O4.out ps[k] (List.getElem_mem Oj);have Ow:=E9.out ps[k] (List.getElem_mem Oj);obtain ⟨qk,Jx⟩:∃ z,ps[k]=z:=⟨_,rfl⟩;rw [Jx] at e0 e1 e2 e3 qx hcl Wx Ow;obtain ⟨x,xv⟩:=qk;replace qx:xv=.slice A4 n4 c4:=qx;subst qx;have qq:=hid (Y0h (qs0:=qs0.map (·.1)) Wx);rw [Nat.add_zero] at e0;have Yz:=hid hcl;have C8:Hid (Z8u x):=hid Ow;obtain ⟨x1,Yj⟩:∃ z,x.weight=z:=⟨_,rfl⟩;obtain ⟨x2,Mq⟩:∃ z,x.closings=z:=⟨_,rfl⟩;obtain ⟨x3,Dj⟩:∃ z,x.delay=z:=⟨_,rfl⟩;have Qk:=hid (show x.weight=x1 /\ x.closings=x2 /\ x.delay=x3 from ⟨Yj,Mq,Dj⟩)
    have yq:=Ext.box wr (.cells #[.int .i64 x1,.int .i64 x2,.int .i64 x3,.slice A4 n4 c4] 159);have K3:=Blk.made wr 159 #[.int .i64 x1,.int .i64 x2,.int .i64 x3,.slice A4 n4 c4];replace e0:wr.cell? ⟨gb,k * 4,none⟩=some (.int .i64 x1):=by rw [<- Yj]; exact e0
    replace e1:wr.cell? ⟨gb,k * 4 + 1,none⟩=some (.int .i64 x2):=by rw [<- Mq]; exact e1
    replace e2:wr.cell? ⟨gb,k * 4 + 2,none⟩=some (.int .i64 x3):=by rw [<- Dj]; exact e2
    replace e3:wr.cell? ⟨gb,k * 4 + 3,none⟩=some (.slice A4 n4 c4):=e3;have zj:=hid yq;have Dg:=hid K3;clear Xq Jx Yj Mq Dj yq K3 Yq Kx Fz hx hcl Ow Wx Oj
    go_light
    go_wp2;obtain ⟨w5,bf⟩:∃ z,wr.alloc (.cells #[.int .i64 x1,.int .i64 x2,.int .i64 x3,.slice A4 n4 c4] 159)=z:=⟨_,rfl⟩;rw [bf] at zj Dg ⊢;obtain ⟨g7,zY⟩:∃ z,wr.heap.size=z:=⟨_,rfl⟩;have Ar:=hid zY;rw [zY] at Dg ⊢;have Zk:=hid (fun (b:Nat) hb=>(OwnP.X0z lq.out b hb).2.1);rw [zY] at Zk;clear bf zY e0 e1 e2 e3
    go_loopw [5,18] (fun o j wq=>∃ (n:Nat) (zs:List PV),n <= M /\ j=.int .i64 n /\ Q1b wq w.heap.size 159 4 Q3f o zs /\ Q0r wq zs /\ zs.map (·.1)=X2d (ps.map (·.1)) (qs0.map (·.1)) k ++ X2f x (qs0.map (·.1)) n /\ Ext w wq /\ Blk wq g7 159 #[.int .i64 x1,.int .i64 x2,.int .i64 x3,.slice A4 n4 c4] /\ some g7 ≠ o.ownBlock) (fun _ j _=>M - (intOf j).toNat)
    case atStart=>exact ⟨0,qs,Nat.zero_le _,rfl,lq.out.below zj.out,Uw.out.ext zj.out,by rw [Ty.out]; simp [X2f],HX.out.trans zj.out,Dg.out,fun e=>by have:=Zk.out _ e.symm; omega⟩
    case round =>
     obtain ⟨n,zs,hn,rfl,Yq,Kx,Fz,hx,Gw,WV⟩:=hrel;have ry:=hid Fz;have Sq:=hid hx;have Bn:=hid Gw;have VV:=hid WV;clear Gw WV;have UV:=hid Yq;have TV:=hid Kx;have An:Hid (zs.length=k * M + n):=hid (by
      have:=congrArg List.length Fz;rw [List.length_map,List.length_append,Y3w _ _ _ (by rw [List.length_map,HL.out]; exact hk),List.length_map,HM.out] at this
      rw [this]; unfold X2f; rw [List.length_map,List.length_take,List.length_map,HM.out]; omega)
     by_cases Qw:n < M
     . have dX:n < qs0.length:=by rw [HM.out]; exact Qw
       have UK:(n:Int) < M:=by omega
       obtain ⟨gc,rfl,Xq⟩:=XV.out n dX;have e0:=Sq.out.cell (Xq 0 (by omega))
       have e1:=Sq.out.cell (Xq 1 (by omega))
       have e2:=Sq.out.cell (Xq 2 (by omega))
       have e3:=Sq.out.cell (Xq 3 (by omega))
       obtain ⟨B4,m4,d4,qx⟩:=lW.out.shape (List.getElem_mem dX);have Wx:(qs0.map (·.1))[n]?=some qs0[n].1:=by rw [List.getElem?_map,List.getElem?_eq_getElem dX]; rfl
       have hcl:=lW.out qs0[n] (List.getElem_mem dX);have Ow:=D9.out qs0[n] (List.getElem_mem dX);obtain ⟨qk,Jx⟩:∃ z,qs0[n]=z:=⟨_,rfl⟩;rw [Jx] at e0 e1 e2 e3 qx hcl Wx Ow;obtain ⟨y,yv⟩:=qk;replace qx:yv=.slice B4 m4 d4:=qx;subst qx;obtain ⟨Ao,co,Ay,-⟩:=Yq.shape;subst Ay;have fQ:=hid (Z4m (x:=x) Wx);rw [Nat.add_zero] at e0;have pX:=hid hcl;have BJ:Hid (Z8u y):=hid Ow;obtain ⟨y1,uw⟩:∃ z,y.weight=z:=⟨_,rfl⟩;obtain ⟨y2,ky⟩:∃ z,y.closings=z:=⟨_,rfl⟩;obtain ⟨y3,G0⟩:∃ z,y.delay=z:=⟨_,rfl⟩;have ov:=hid (show y.weight=y1 /\ y.closings=y2 /\ y.delay=y3 from ⟨uw,ky,G0⟩)
       replace e0:wr.cell? ⟨gc,n * 4,none⟩=some (.int .i64 y1):=by rw [<- uw]; exact e0
       replace e1:wr.cell? ⟨gc,n * 4 + 1,none⟩=some (.int .i64 y2):=by rw [<- ky]; exact e1
       replace e2:wr.cell? ⟨gc,n * 4 + 2,none⟩=some (.int .i64 y3):=by rw [<- G0]; exact e2
       replace e3:wr.cell? ⟨gc,n * 4 + 3,none⟩=some (.slice B4 m4 d4):=e3;have yq:=Ext.box wr (.cells #[.int .i64 y1,.int .i64 y2,.int .i64 y3,.slice B4 m4 d4] 159);have K3:=Blk.made wr 159 #[.int .i64 y1,.int .i64 y2,.int .i64 y3,.slice B4 m4 d4];have px:=hid yq;have cX:=hid K3;have uZ:IntKind.i64.wrap (x1 + y1)=x1 + y1:=Q3b _ (by have:=C8.out.w; have:=BJ.out.w; have:=Qk.out; have:=ov.out; omega) (by have:=C8.out.w; have:=BJ.out.w; have:=Qk.out; have:=ov.out; omega)
       have T1:IntKind.i64.wrap (x2 + y2)=x2 + y2:=Q3b _ (by have:=C8.out.c; have:=BJ.out.c; have:=Qk.out; have:=ov.out; omega) (by have:=C8.out.c; have:=BJ.out.c; have:=Qk.out; have:=ov.out; omega)
       have ya:IntKind.i64.wrap (x3 + y3)=x3 + y3:=Q3b _ (by have:=C8.out.d; have:=BJ.out.d; have:=Qk.out; have:=ov.out; omega) (by have:=C8.out.d; have:=BJ.out.d; have:=Qk.out; have:=ov.out; omega)
       clear Xq Jx uw ky G0 yq K3 Yq Kx Fz hx hcl Ow Wx dX
       go_light
       go_wp2;obtain ⟨wb,nz⟩:∃ z,wr.alloc (.cells #[.int .i64 y1,.int .i64 y2,.int .i64 y3,.slice B4 m4 d4] 159)=z:=⟨_,rfl⟩;rw [nz] at px cX ⊢;obtain ⟨g9,yY⟩:∃ z,wr.heap.size=z:=⟨_,rfl⟩;rw [yY] at cX ⊢;have P4:Hid (Blk wb g7 159 #[.int .i64 x1,.int .i64 x2,.int .i64 x3,.slice A4 n4 c4]):=hid (Bn.out.ext px.out);have V4:=hid (UV.out.below px.out);have zb:=hid (TV.out.ext px.out);have Q5:Hid (Q0n wb 0 9 .string (.slice A4 n4 c4) x.closed):=hid (Yz.out.below (Sq.out.trans px.out));have vy:Hid (Q0n wb 0 9 .string (.slice B4 m4 d4) y.closed):=hid (pX.out.below (Sq.out.trans px.out));have Dv:Hid (w.heap.size <= wb.heap.size):=hid (by have:=Sq.out.size; have:=px.out.size; omega)
       have Y7:=hid (fun (W:World) g hB h1 h2=>Y1z W g 157 (.slice A4 n4 c4) (.slice B4 m4 d4) 0 0 x.closed y.closed hB h1 h2 (by have:=C8.out.l; have:=BJ.out.l; omega))
       have r5:=hid (enters_of (P:=prog) func196 (by kernel_rfl) rfl)
       have iw:Hid (∀ (W:World) gn V,Blk W gn 159 #[.int .i64 (x1 + y1),.int .i64 (x2 + y2),.int .i64 (x3 + y3),V] -> ∀ j u,(Q3f (both x y,V))[j]?=some u -> W.cell? ((⟨gn,0,none⟩:Addr).add j)=some u):=hid (fun W gn V hb=>by unfold Q3f both; dsimp only; rw [Qk.out.1,Qk.out.2.1,Qk.out.2.2,ov.out.1,ov.out.2.1,ov.out.2.2]; exact Q6i hb)
       have bj:Hid (∀ A n c,∀ u ∈ Q3f (both x y,.slice A n c),u.oneCell'=true):=hid (fun A n c=>by unfold Q3f; simp [Value.oneCell'])
       have ey:Hid (zs.length + 1 <= 100000):=hid (by
        rw [An.out];have h1:(k + 1) * M <= L * M:=Nat.mul_le_mul_right _ Tq;have h2:=Ak.out;rw [Nat.succ_mul] at h1;omega)
       have Vq:=(Ext.refl wb).drew;clear nz yY e0 e1 e2 e3;refine Flow.Q4h [.p,.p,.w,.p,.w,.p,.p,.p,.w,.p,.p,.w,.p,.p,.p,.w,.p,.p,.w,.p,.p,.p,.w,.p,.w,.w,.w,.p,.w,.last,.last] [0,1,2,3,4,5,6,7,8,9,10,11,12,13,14,15,16,17,18,19,20,21,22,23,24,25,26,27,28,29,30] [[],[],[1],[],[3],[1,2,3,4],[],[6],[6,7],[],[9],[9,10],[6,7,8,9,10,11],[],[13],[13,14],[],[16],[16,17],[13,14,15,16,17,18],[6,7,8,9,10,11,12,13,14,15,16,17,18,19],[],[21],[],[23],[21,22,23,24],[21,22,23,24,25],[1,2,3,4,5,6,7,8,9,10,11,12,13,14,15,16,17,18,19,20,21,22,23,24,25,26],[1,2,3,4,5,6,7,8,9,10,11,12,13,14,15,16,17,18,19,20,21,22,23,24,25,26,27],[0,1,2,3,4,5,6,7,8,9,10,11,12,13,14,15,16,17,18,19,20,21,22,23,24,25,26,27,28],[0,1,2,3,4,5,6,7,8,9,10,11,12,13,14,15,16,17,18,19,20,21,22,23,24,25,26,27,28,29]] [29,30]
        [.c 0 (.slice Ao zs.length co),.c 1 (.pointer (some ⟨g7,0,none⟩)),.c 2 (.int .i64 x1),.c 3 (.pointer (some ⟨g9,0,none⟩)),.c 4 (.int .i64 y1),.c 5 (.int .i64 (x1 + y1)),.c 6 (.pointer (some ⟨g7,1,none⟩)),.c 7 (.pointer (some ⟨g7,1,none⟩)),.c 8 (.int .i64 x2),.c 9 (.pointer (some ⟨g9,1,none⟩)),.c 10 (.pointer (some ⟨g9,1,none⟩)),.c 11 (.int .i64 y2),.c 12 (.int .i64 (x2 + y2)),.c 13 (.pointer (some ⟨g7,1,none⟩)),.c 14 (.pointer (some ⟨g7,2,none⟩)),.c 15 (.int .i64 x3),.c 16 (.pointer (some ⟨g9,1,none⟩)),.c 17 (.pointer (some ⟨g9,2,none⟩)),.c 18 (.int .i64 y3),.c 19 (.int .i64 (x3 + y3)),.c 20 (.agg #[.int .i64 (x2 + y2),.int .i64 (x3 + y3)]),.c 21 (.pointer (some ⟨g7,3,none⟩)),.c 22 (.slice A4 n4 c4),.c 23 (.pointer (some ⟨g9,3,none⟩)),.c 24 (.slice B4 m4 d4),⟨fun v wz=>(fun v w'=>∃ gn,v 25=.slice (some ⟨gn,0,none⟩) 2 2 /\ Blk w' gn 157 #[.slice A4 n4 c4,.slice B4 m4 d4]) v wz,by rintro v a b hx ⟨gn,h1,h2⟩; exact ⟨gn,h1,h2.ext hx⟩⟩,⟨fun v wz=>(fun v w'=>∃ A n c,v 26=.slice A n c /\ Q0n w' 0 9 .string (.slice A n c) (x.closed ++ y.closed)) v wz,by rintro v a b hx ⟨A,n,c,h1,h2⟩; exact ⟨A,n,c,h1,h2.below hx⟩⟩,.is 27 (fun v=>.agg #[.int .i64 (x1 + y1),.int .i64 (x2 + y2),.int .i64 (x3 + y3),v 26]),⟨fun v wz=>(fun v w'=>∃ gn,v 28=.slice (some ⟨gn,0,none⟩) 1 1 /\ Blk w' gn 159 #[.int .i64 (x1 + y1),.int .i64 (x2 + y2),.int .i64 (x3 + y3),v 26]) v wz,by rintro v a b hx ⟨gn,h1,h2⟩; exact ⟨gn,h1,h2.ext hx⟩⟩,.none,.none]
        [fun v w1 w'=>Q1b w' w.heap.size 159 4 Q3f (v 29) (zs ++ [(both x y,v 26)]) /\ w1.grownBy w' (Value.slice Ao zs.length co).ownBlock /\ ((v 29).ownBlock=(Value.slice Ao zs.length co).ownBlock ∨ (v 29).ownBlock=some w1.heap.size),fun v w1 w'=>v 30=v 29 /\ Q1b w' w.heap.size 159 4 Q3f (v 29) (zs ++ [(both x y,v 26)]) /\ w1.grownBy w' (Value.slice Ao zs.length co).ownBlock /\ ((v 29).ownBlock=(Value.slice Ao zs.length co).ownBlock ∨ (v 29).ownBlock=some w1.heap.size)] (by kernel_rfl) rfl (by kernel_rfl) ⟨?g0,?g1,?g2,?g3,?g4,?g5,?g6,?g7,?g8,?g9,?g10,?g11,?g12,?g13,?g14,?g15,?g16,?g17,?g18,?g19,?g20,?g21,?g22,?g23,?g24,?g25,?g26,?g27,?g28,?g29,?g30,trivial⟩ ?post
       case g0 | g1 | g3 | g6 | g9 | g13 | g16 | g21 | g23=>
        intro v w1 hx;intro bb hbb;subst hbb;refine ⟨_,fun w=>?_,rfl⟩;go_simp
       case g2 | g4 | g8 | g11 | g15 | g18 | g22 | g24=>
        intro v w1 hx;(repeat intro (zq:v _=_));intro bb hbb;subst hbb;have zz0:w1.cell? ⟨g7,0,none⟩=some (.int .i64 x1):=(P4.out.ext (Vq.trans hx)).cell 0;have zz1:w1.cell? ⟨g9,0,none⟩=some (.int .i64 y1):=(cX.out.ext (Vq.trans hx)).cell 0;have zz2:w1.cell? ⟨g7,1,none⟩=some (.int .i64 x2):=(P4.out.ext (Vq.trans hx)).cell 1;have zz3:w1.cell? ⟨g9,1,none⟩=some (.int .i64 y2):=(cX.out.ext (Vq.trans hx)).cell 1;have zz4:w1.cell? ⟨g7,2,none⟩=some (.int .i64 x3):=(P4.out.ext (Vq.trans hx)).cell 2;have zz5:w1.cell? ⟨g9,2,none⟩=some (.int .i64 y3):=(cX.out.ext (Vq.trans hx)).cell 2;have zz6:w1.cell? ⟨g7,3,none⟩=some (.slice A4 n4 c4):=(P4.out.ext (Vq.trans hx)).cell 3;have zz7:w1.cell? ⟨g9,3,none⟩=some (.slice B4 m4 d4):=(cX.out.ext (Vq.trans hx)).cell 3;intro K hK;go_simp;exact hK _ _ (Ext.refl _) rfl
       case g5 | g7 | g10 | g12 | g14 | g17 | g19 | g20=>
        intro v w1 hx;(repeat intro (zq:v _=_));intro bb hbb;subst hbb;refine ⟨_,fun w=>?_,rfl⟩;go_simp
       case g25=>
        intro v w1 hx;(repeat intro (zq:v _=_));intro bb hbb;intro K hK;have o1:bb.eval (.tmp 44)=.slice A4 n4 c4:=by rw [hbb]; dsimp only; (try simp (discharger:=decide) only [eval_put_ne]); rw [Q0a (by simp only [size_put]; exact (by decide:44 < 56))]; assumption
        have o2:bb.eval (.tmp 46)=.slice B4 m4 d4:=by rw [hbb]; dsimp only; (try simp (discharger:=decide) only [eval_put_ne]); rw [Q0a (by simp only [size_put]; exact (by decide:46 < 56))]; assumption
        exact Q8j 295 157 (.tmp 44) (.tmp 46) rfl o1 o2 (Y2b w1 _ _ _ _ _ _) (hK _ _ (Ext.box _ _) ⟨_,rfl,Blk.made _ _ _⟩)
       case g26=>
        intro v w1 hx (q21:v 21=_) (q22:v 22=_) (q23:v 23=_) (q24:v 24=_) (q25:(fun v w'=>∃ gn,v 25=.slice (some ⟨gn,0,none⟩) 2 2 /\ Blk w' gn 157 #[.slice A4 n4 c4,.slice B4 m4 d4]) v w1);intro bb hbb;intro K hK;obtain ⟨gn,e25,yb⟩:=q25;have o1:bb.eval (.tmp 47)=.slice (some ⟨gn,0,none⟩) 2 2:=by rw [hbb]; dsimp only; (try simp (discharger:=decide) only [eval_put_ne]); rw [Q0a (by simp only [size_put]; exact (by decide:47 < 56))]; exact e25
        have Zq:=Vq.trans hx;refine X9z rfl r5.out o1 (Y7.out w1 gn yb (Q5.out.below Zq) (vy.out.below Zq)) ?_;rintro e w2 ⟨z,rfl,h1,h2⟩;obtain ⟨A,c,rfl,-⟩:=h1.shape;exact ⟨_,rfl,hK _ _ h2 ⟨A,_,c,rfl,h1.weaken (Nat.zero_le _)⟩⟩
       case g27=>
        intro v w1 hx (q1:v 1=_) (q2:v 2=_) (q3:v 3=_) (q4:v 4=_) (q5:v 5=_) (q6:v 6=_) (q7:v 7=_) (q8:v 8=_) (q9:v 9=_) (q10:v 10=_) (q11:v 11=_) (q12:v 12=_) (q13:v 13=_) (q14:v 14=_) (q15:v 15=_) (q16:v 16=_) (q17:v 17=_) (q18:v 18=_) (q19:v 19=_) (q20:v 20=_) (q21:v 21=_) (q22:v 22=_) (q23:v 23=_) (q24:v 24=_) _ (q26:(fun v w'=>∃ A n c,v 26=.slice A n c /\ Q0n w' 0 9 .string (.slice A n c) (x.closed ++ y.closed)) v w1);intro bb hbb;obtain ⟨A,n,c,e26,SV⟩:=q26;have o1:bb.eval (.tmp 27)=.int .i64 (x1 + y1):=by rw [hbb]; dsimp only; (try simp (discharger:=decide) only [eval_put_ne]); rw [Q0a (by simp only [size_put]; exact (by decide:27 < 56))]; exact q5
        have o2:bb.eval (.tmp 42)=.agg #[.int .i64 (x2 + y2),.int .i64 (x3 + y3)]:=by rw [hbb]; dsimp only; (try simp (discharger:=decide) only [eval_put_ne]); rw [Q0a (by simp only [size_put]; exact (by decide:42 < 56))]; exact q20
        have o3:bb.eval (.tmp 48)=.slice A n c:=by rw [hbb]; dsimp only; (try simp (discharger:=decide) only [eval_put_ne]); rw [Q0a (by simp only [size_put]; exact (by decide:48 < 56))]; exact e26
        refine ⟨.agg #[.int .i64 (x1 + y1),.int .i64 (x2 + y2),.int .i64 (x3 + y3),v 26],fun w=>?_,rfl⟩;rw [e26];unfold execOp;simp only [List.map_toArray,List.map_cons,List.map_nil,o1,o2,o3];clear o1 o2 o3 hbb;go_simp
       case g28=>
        intro v w1 hx (q1:v 1=_) (q2:v 2=_) (q3:v 3=_) (q4:v 4=_) (q5:v 5=_) (q6:v 6=_) (q7:v 7=_) (q8:v 8=_) (q9:v 9=_) (q10:v 10=_) (q11:v 11=_) (q12:v 12=_) (q13:v 13=_) (q14:v 14=_) (q15:v 15=_) (q16:v 16=_) (q17:v 17=_) (q18:v 18=_) (q19:v 19=_) (q20:v 20=_) (q21:v 21=_) (q22:v 22=_) (q23:v 23=_) (q24:v 24=_) _ (q26:(fun v w'=>∃ A n c,v 26=.slice A n c /\ Q0n w' 0 9 .string (.slice A n c) (x.closed ++ y.closed)) v w1) (q27:v 27=.agg #[.int .i64 (x1 + y1),.int .i64 (x2 + y2),.int .i64 (x3 + y3),v 26]);intro bb hbb;intro K hK;obtain ⟨A,n,c,e26,SV⟩:=q26;have o1:bb.eval (.tmp 49)=.agg #[.int .i64 (x1 + y1),.int .i64 (x2 + y2),.int .i64 (x3 + y3),.slice A n c]:=by rw [hbb]; dsimp only; (try simp (discharger:=decide) only [eval_put_ne]); rw [Q0a (by simp only [size_put]; exact (by decide:49 < 56))]; rw [q27,e26]
        exact Q3t 160 159 (.tmp 49) rfl o1 (X8t w1 _ _ _ _ _ _) (hK _ _ (Ext.box _ _) ⟨_,rfl,by show Blk _ _ _ #[_,_,_,v 26]; rw [e26]; exact Blk.made _ _ _⟩)
       case g29=>
        intro v w1 hx (q0:v 0=_) (q1:v 1=_) (q2:v 2=_) (q3:v 3=_) (q4:v 4=_) (q5:v 5=_) (q6:v 6=_) (q7:v 7=_) (q8:v 8=_) (q9:v 9=_) (q10:v 10=_) (q11:v 11=_) (q12:v 12=_) (q13:v 13=_) (q14:v 14=_) (q15:v 15=_) (q16:v 16=_) (q17:v 17=_) (q18:v 18=_) (q19:v 19=_) (q20:v 20=_) (q21:v 21=_) (q22:v 22=_) (q23:v 23=_) (q24:v 24=_) _ (q26:(fun v w'=>∃ A n c,v 26=.slice A n c /\ Q0n w' 0 9 .string (.slice A n c) (x.closed ++ y.closed)) v w1) (q27:v 27=.agg #[.int .i64 (x1 + y1),.int .i64 (x2 + y2),.int .i64 (x3 + y3),v 26]) (q28:(fun v w'=>∃ gn,v 28=.slice (some ⟨gn,0,none⟩) 1 1 /\ Blk w' gn 159 #[.int .i64 (x1 + y1),.int .i64 (x2 + y2),.int .i64 (x3 + y3),v 26]) v w1);intro wl hT;obtain rfl:wl=w1:=hT;intro bb hbb;intro K hK;obtain ⟨A,n,c,e26,SV⟩:=q26;obtain ⟨gn,e28,ub⟩:=q28;have o1:bb.eval (.tmp 22)=.slice Ao zs.length co:=by rw [hbb]; dsimp only; (try simp (discharger:=decide) only [eval_put_ne]); rw [Q0a (by exact (by decide:22 < 56))]; exact q0
        have o2:bb.eval (.tmp 50)=.slice (some ⟨gn,0,none⟩) 1 1:=by rw [hbb]; dsimp only; (try simp (discharger:=decide) only [eval_put_ne]); rw [Q0a (by simp only [size_put]; exact (by decide:50 < 56))]; exact e28
        exact Y1e _ _ 160 rfl w.heap.size 159 i0 (.agg #[.int .i64 0,.int .i64 0,.int .i64 0,.slice none 0 0]) 4 48 underlying160 hi fq mq iq rfl (by decide) Q3f Q4t _ zs (both x y,v 26) o1 (V4.out.below (Vq.trans hx)) ⟨gn,0,none⟩ 1 o2 (iw.out wl gn _ ub) (by rw [e26]; exact bj.out A n c) ey.out (by decide) (by have:=(Vq.trans hx).size; have:=Dv.out; omega) (fun v' w' h1 h2 h3=>hK _ _ ⟨h1,h2,h3⟩)
       case g30=>
        intro v w1 hx (q0:v 0=_) (q1:v 1=_) (q2:v 2=_) (q3:v 3=_) (q4:v 4=_) (q5:v 5=_) (q6:v 6=_) (q7:v 7=_) (q8:v 8=_) (q9:v 9=_) (q10:v 10=_) (q11:v 11=_) (q12:v 12=_) (q13:v 13=_) (q14:v 14=_) (q15:v 15=_) (q16:v 16=_) (q17:v 17=_) (q18:v 18=_) (q19:v 19=_) (q20:v 20=_) (q21:v 21=_) (q22:v 22=_) (q23:v 23=_) (q24:v 24=_) _ _ (q27:v 27=.agg #[.int .i64 (x1 + y1),.int .i64 (x2 + y2),.int .i64 (x3 + y3),v 26]) _;intro wl hT;replace hT:(fun v w1 w'=>Q1b w' w.heap.size 159 4 Q3f (v 29) (zs ++ [(both x y,v 26)]) /\ w1.grownBy w' (Value.slice Ao zs.length co).ownBlock /\ ((v 29).ownBlock=(Value.slice Ao zs.length co).ownBlock ∨ (v 29).ownBlock=some w1.heap.size)) v w1 wl:=hT;intro bb hbb;subst hbb;intro K hK;go_simp;exact hK _ _ ⟨rfl,hT⟩
       case post =>
        intro v w1 hx;(iterate 25 intro (zq:v _=_));intro (q25:(fun v w'=>∃ gn,v 25=.slice (some ⟨gn,0,none⟩) 2 2 /\ Blk w' gn 157 #[.slice A4 n4 c4,.slice B4 m4 d4]) v w1) (q26:(fun v w'=>∃ A n c,v 26=.slice A n c /\ Q0n w' 0 9 .string (.slice A n c) (x.closed ++ y.closed)) v w1) (q27:v 27=.agg #[.int .i64 (x1 + y1),.int .i64 (x2 + y2),.int .i64 (x3 + y3),v 26]) (q28:(fun v w'=>∃ gn,v 28=.slice (some ⟨gn,0,none⟩) 1 1 /\ Blk w' gn 159 #[.int .i64 (x1 + y1),.int .i64 (x2 + y2),.int .i64 (x3 + y3),v 26]) v w1);intro w2 hE;replace hE:(fun v w1 w'=>v 30=v 29 /\ Q1b w' w.heap.size 159 4 Q3f (v 29) (zs ++ [(both x y,v 26)]) /\ w1.grownBy w' (Value.slice Ao zs.length co).ownBlock /\ ((v 29).ownBlock=(Value.slice Ao zs.length co).ownBlock ∨ (v 29).ownBlock=some w1.heap.size)) v w1 w2:=hE;simp only [Flow.acts,Act.put];go_simp;obtain ⟨A,n',c,e26,SV⟩:=q26;obtain ⟨-,nX,Q2,AJ⟩:=hE;have Zq:=Vq.trans hx;have Sy:=V4.out.below Zq;rw [e26] at nX;have zy:=hid nX;have ij:Hid (Ext w w2):=hid (Below.grown (Sq.out.trans (px.out.trans Zq)) Q2 (by have:=Zq.size; have:=Dv.out; omega) (fun b hb=>(OwnP.X0z Sy b hb).1))
        have Gw:=P4.out.ext Zq;have Cg:Hid (Blk w2 g7 159 #[.int .i64 x1,.int .i64 x2,.int .i64 x3,.slice A4 n4 c4]):=hid ((Q2.block g7 Gw.lt VV.out).trans Gw);have af:Hid (some g7 ≠ (v 29).ownBlock):=hid (fun e=>by
         rcases AJ with h | h
         . rw [h] at e; exact VV.out e
         . rw [h] at e; have:=Gw.lt; injection e with e; omega)
        have fy:Hid (Q0r w2 (zs ++ [((both x y,Value.slice A n' c):PV)])):=hid (Q0r.grown (fun z hz=>by
         rcases List.mem_append.1 hz with hz | hz
         . exact zb.out.ext Zq z hz
         . obtain rfl:=List.mem_singleton.1 hz
           exact SV) Sy Q2)
        have rb:Hid ((zs ++ [((both x y,Value.slice A n' c):PV)]).map (·.1)=X2d (ps.map (·.1)) (qs0.map (·.1)) k ++ X2f x (qs0.map (·.1)) (n + 1)):=hid (by rw [fQ.out,<- List.append_assoc,<- ry.out,List.map_append]; rfl)
        obtain ⟨vr,M7⟩:∃ z,v 29=z:=⟨_,rfl⟩;rw [M7] at zy af ⊢;clear hx Vq Zq nX Q2 AJ Sy Gw SV e26 M7 q25 q27 q28;(repeat clear zq);go_wp2;go_roundw
        case rel=>exact ⟨n + 1,zs ++ [((both x y,Value.slice A n' c):PV)],by omega,by go_num,zy.out,fy.out,rb.out,ij.out,Cg.out,af.out⟩
        case measure=>simp [intOf]; omega
     . have hne:n=M:=by omega
       subst hne;go_wp2;go_roundw
       case rel=>exact ⟨k + 1,zs,by omega,by go_num,UV.out,TV.out,by rw [qq.out,ry.out,List.length_map,HM.out],Sq.out⟩
       case measure=>simp [intOf]; omega
  . have Cj:k=L:=by omega
    subst Cj;have zn:=hid (Q9y wr w.heap.size _ qs lq.out Uw.out (by rw [AY.out]; have:=Ak.out; omega))
    go_wp2_with (go_at_call 197; refine zn.out.mono ?_; rintro e w2 ⟨v',zs,rfl,h1,h2,h3,h4⟩; refine halted ?_);have H1:=hid h1;have H2:=hid h2;have H3:=hid h3;have H4:=hid h4;clear h1 h2 h3 h4;unfold Q1o;go_wp2;go_ret;exact ⟨_,zs,rfl,Q1b.weaken H1.out HX.out.size,H2.out,by rw [H3.out,Ty.out,<- zx.out,List.length_map,HL.out],HX.out.trans H4.out⟩
theorem Tryz.Y3z (w:World):(isAgg 156).run prog w=.ok true w:=by kernel_rfl
theorem Tryz.Q9e (w:World):(sizeOf 156).run prog w=.ok 2 w:=by kernel_rfl
theorem Y2a {a b:Int}:∀ u ∈ (#[Value.int .i64 a,.int .i64 b]:Array Value).toList,u.oneCell'=true:=by
 intro u hu;simp only [List.mem_cons,List.not_mem_nil,or_false] at hu
 rcases hu with rfl | rfl <;> rfl
theorem Z5s (w:World) (v:Value) (s:Q0b) (c d:Int) (t:Nat) (wt:Int) (hv:Q0g w v s) (ht:t < s.ships.length) (hc:0 <= c /\ c <= 1000000000000) (hd:0 <= d /\ d <= 1000000000000) (hw:0 <= wt /\ wt <= 1000000) (hs:0 <= ix s.ships t /\ ix s.ships t <= 1000) :
    Calls prog 166 #[.agg #[.int .i64 c,.int .i64 d],v,.int .i64 (t:Int),.int .i64 wt] w fun e w'=>e=.returned (.agg #[.int .i64 (c + wt),.int .i64 (d + wt * ix s.ships t)]) /\ Ext w w':=by
 obtain ⟨a,b,rfl,h2⟩:=hv;obtain ⟨A,Uq,rfl,-,-,Zh⟩:=h2.ships.opened;obtain ⟨B,Wq,rfl,-,-,-⟩:=h2.members.opened;obtain ⟨ba,oa,rfl,Vz⟩:=Zh t ht;have MG:(t:Int) < s.ships.length:=by omega
 obtain ⟨dl,K6⟩:∃ x,ix s.ships t=x:=⟨_,rfl⟩;rw [K6] at Vz hs ⊢;have m1:0 <= wt * dl:=Int.mul_nonneg hw.1 hs.1;have m2:wt * dl <= 1000000 * 1000:=Int.mul_le_mul hw.2 hs.2 hs.1 (by omega)
 obtain ⟨pr,aX⟩:∃ x,wt * dl=x:=⟨_,rfl⟩;rw [aX] at m1 m2 ⊢;have uZ:IntKind.i64.wrap (c + wt)=c + wt:=Q3b _ (by omega) (by omega)
 have T1:IntKind.i64.wrap pr=pr:=Q3b _ (by omega) (by omega)
 have ya:IntKind.i64.wrap (d + pr)=d + pr:=Q3b _ (by omega) (by omega)
 have O4:=hid Vz;clear h2 Zh Vz K6 m1 m2 hc hd hw hs;go_enter func166,ntmps166;go_wp2;change Code.wp _ _ _ _ (((w.alloc (.cells #[.int .i64 c,.int .i64 d] 156)).alloc (.cells #[.int .i64 s.limit,.slice (some ⟨ba,oa,none⟩) s.ships.length Uq,.slice B s.members.length Wq] 34)).alloc (.cells #[.int .i64 0,.int .i64 0] 156));obtain ⟨W,Nq,k0,k1,k2,Sq,eW⟩:=Q9s w 156 #[.int .i64 c,.int .i64 d] 34 #[.int .i64 s.limit,.slice (some ⟨ba,oa,none⟩) s.ships.length Uq,.slice B s.members.length Wq] 156 #[.int .i64 0,.int .i64 0];rw [Nq];clear Nq;have K0:=hid k0;have K1:=hid k1;have K2:=hid k2;obtain ⟨gc,yy⟩:∃ x,w.heap.size=x:=⟨_,rfl⟩;have Yh:=hid yy;rw [yy] at K0 K1 K2 eW ⊢;clear k0 k1 k2 yy;have Vq:=(Ext.refl W).drew;refine Flow.Q4h [.p,.w,.p,.p,.p,.w,.p,.p,.w,.p,.p,.w,.p,.p,.p,.last] [0,1,2,3,4,5,6,7,8,9,10,11,12,13,14,15] [[],[0],[],[0,1,2],[],[4],[],[],[7],[],[7,8,9],[7,8,9,10],[6,7,8,9,10,11],[4,5,6,7,8,9,10,11,12],[0,1,2,3,4,5,6,7,8,9,10,11,12,13],[0,1,2,3,4,5,6,7,8,9,10,11,12,13,14]] [15]
  [.c 0 (.pointer (some ⟨gc,0,none⟩)),.c 1 (.int .i64 c),.c 2 (.int .i64 wt),.c 3 (.int .i64 (c + wt)),.c 4 (.pointer (some ⟨gc,1,none⟩)),.c 5 (.int .i64 d),.c 6 (.int .i64 wt),.c 7 (.pointer (some ⟨gc + 1,1,none⟩)),.c 8 (.slice (some ⟨ba,oa,none⟩) s.ships.length Uq),.c 9 (.int .i64 (t:Int)),.c 10 (.pointer (some ⟨ba,oa + t,none⟩)),.c 11 (.int .i64 dl),.c 12 (.int .i64 pr),.c 13 (.int .i64 (d + pr)),.c 14 (.agg #[.int .i64 (c + wt),.int .i64 (d + pr)]),.none]
  [fun v w1 w'=>Blk w' (gc + 1 + 1) 156 #[.int .i64 (c + wt),.int .i64 (d + pr)] /\ (∀ n,n <= gc + 1 + 1 -> Below n w1 w')] (by kernel_rfl) rfl (by kernel_rfl) ⟨?g0,?g1,?g2,?g3,?g4,?g5,?g6,?g7,?g8,?g9,?g10,?g11,?g12,?g13,?g14,?g15,trivial⟩ ?post
 case g0 | g2 | g4 | g6 | g7 | g9=>
  intro v w1 hx;intro bb hbb;subst hbb;refine ⟨_,fun w=>?_,rfl⟩;go_simp
 case g1 | g5 | g8 | g11=>
  intro v w1 hx;(repeat intro (zq:v _=_));intro bb hbb;subst hbb;have n0:w1.cell? ⟨gc,0,none⟩=some (.int .i64 c):=(K0.out.ext (Vq.trans hx)).cell 0;have n1:w1.cell? ⟨gc,1,none⟩=some (.int .i64 d):=(K0.out.ext (Vq.trans hx)).cell 1;have n2:w1.cell? ⟨gc + 1,1,none⟩=some (.slice (some ⟨ba,oa,none⟩) s.ships.length Uq):=(K1.out.ext (Vq.trans hx)).cell 1;have n3:w1.cell? ⟨ba,oa + t,none⟩=some (.int .i64 dl):=(Sq.out.trans (Vq.trans hx)).cell O4.out;intro K hK;go_simp;exact hK _ _ (Ext.refl _) rfl
 case g3 | g10 | g12 | g13 | g14=>
  intro v w1 hx;(repeat intro (zq:v _=_));intro bb hbb;subst hbb;refine ⟨_,fun w=>?_,rfl⟩;go_simp
 case g15=>
  intro v w1 hx;(repeat intro (zq:v _=_));intro wl hT;obtain rfl:wl=w1:=hT;intro bb hbb;intro K hK;have o1:bb.eval (.tmp 8)=.pointer (some ⟨gc + 1 + 1,0,none⟩):=fze08
  have o2:bb.eval (.tmp 23)=.agg #[.int .i64 (c + wt),.int .i64 (d + pr)]:=by rw [hbb]; dsimp only; (try simp (discharger:=decide) only [eval_put_ne]); rw [Q0a (by simp only [size_put]; exact (by decide:23 < 24))]; assumption
  exact Q2i (.tmp 8) (.tmp 23) _ rfl Q9e o1 o2 (K2.out.ext (Vq.trans hx)) rfl rfl Y2a (fun vv w' hb hl ho=>hK _ _ ⟨hb,hl⟩)
 case post =>
  intro v w1 hx;(iterate 15 intro (zq:v _=_));intro w2 hE;replace hE:(fun v w1 w'=>Blk w' (gc + 1 + 1) 156 #[.int .i64 (c + wt),.int .i64 (d + pr)] /\ (∀ n,n <= gc + 1 + 1 -> Below n w1 w')) v w1 w2:=hE;simp only [Flow.acts,Act.put];go_simp;obtain ⟨Fj,Pj⟩:=hE;have ij:Hid (Below w.heap.size W w2):=hid (Below.trans ((Vq.trans hx).mono (by have:=Yh.out; omega)) (Pj _ (by have:=Yh.out; omega)))
  clear hx Vq Pj;(repeat clear zq);go_wp2;refine bodyPost_ret (Q2h results166 rfl Fj Y3z Q9e) rfl ?_;exact ⟨rfl,Below.trans Sq.out ij.out⟩
theorem Z4a (l:List Bool) {k:Nat} (hk:k < l.length):countB (l.take (k + 1))=countB (l.take k) + if bx l k then 1 else 0:=by
 have h:l.take (k + 1)=l.take k ++ [bx l k]:=by rw [List.take_succ_eq_append_getElem hk]; simp [bx,hk]
 rw [h];unfold countB;rw [List.countP_append];cases bx l k <;> simp
def Q9u (s:Q0b) (l:List Bool) (k:Nat):Int:=((List.range k).map fun t=>if bx l t then ix s.ships t else 0).sum
theorem Y4k (s:Q0b) (l:List Bool) (k:Nat):Q9u s l (k + 1)=Q9u s l k + if bx l k then ix s.ships k else 0:=by
 unfold Q9u; rw [List.range_succ,List.map_append,List.sum_append]; simp
theorem J2s (s:Q0b) (l:List Bool):Q9u s l l.length=Q8a s l:=rfl
theorem Z6c {s:Q0b} (hS:Q0w s) (l:List Bool):∀ k,k <= s.ships.length -> 0 <= Q9u s l k /\ Q9u s l k <= 1000 * k
 | 0,_=>by simp [Q9u]
 | k + 1,h=>by
   have ih:=Z6c hS l k (by omega)
   have hd:=hS.delays (ix s.ships k) (by rw [Q5i (show k < s.ships.length by omega)]; exact List.getElem_mem _)
   rw [Y4k]
   split <;> omega
theorem J6g {a b A B:Int} (ha:0 <= a /\ a <= A) (hb:0 <= b /\ b <= B):0 <= a * b /\ a * b <= A * B :=
 ⟨Int.mul_nonneg ha.1 hb.1,Int.mul_le_mul ha.2 hb.2 hb.1 (by omega)⟩
theorem Z4s {w w':World} {O b k:Nat} {T:TypeId} {x y:Int} {v:Value} (hO:Blk w O T #[.int .i64 x,.int .i64 y]) (h:Off O w w') (hc:w.cell? ⟨b,k,none⟩=some v) (hv:∀ n,v ≠ .int .i64 n):w'.cell? ⟨b,k,none⟩=some v:=by
 have hb:=World.block_lt_of_cell? w _ hc;have hne:b ≠ O:=by
  rintro rfl;rw [hO.cell k] at hc
  rcases k with _ | _ | k
  . cases hc; exact hv _ rfl
  . cases hc; exact hv _ rfl
  . simp at hc
 have he:=h.2.2 b hb hne;unfold World.cell? at hc ⊢;rw [he]; exact hc
theorem Y1k (w:World) (v u:Value) (s:Q0b) (p:List Rul) (hv:Q0g w v s) (hu:Q0m w u p) (hS:Q0w s) (hp:Q0q s.hist p=0) :
    Calls prog 103 #[v,u] w fun e w'=>e=.returned (.agg #[.int .i64 (Q6m s p),.int .i64 (X6r s p)]) /\ Ext w w':=by
 have h8:=hS.some;have h6:=hS.tides;have HS:=hid hS;have zx:Hid (Q5u s p countB s.members.length=Q6m s p):=hid (Y4r s p countB);have pb:Hid (Q5u s p (Q8a s) s.members.length=X6r s p):=hid (Y4r s p (Q8a s));have d7:=hid (fun k hk=>X9v hS p (f:=countB) (M:=6) (by omega) (X4n hS) k hk)
 have W9:=hid (fun k hk=>X9v hS p (f:=Q8a s) (M:=6000) (by omega) (J1j hS) k hk)
 have Yz:Hid (∀ (W:World) (v u:Value),Q0g W v s -> Q0m W u p -> Calls prog 109 #[v,u] W fun e w'=>∃ x,e=.returned x /\ Q3l w' x (Q3d s p) /\ Ext W w'):=hid (fun W v u h1 h2=>Q6o W v u s p h1 h2 hS hp);obtain ⟨a,b,rfl,h2⟩:=hv;obtain ⟨rv,rfl,hr⟩:=hu;obtain ⟨A,Uq,rfl,-,-,-⟩:=h2.ships.opened;obtain ⟨M,Wq,rfl,-,-,-⟩:=h2.members.opened;obtain ⟨R,Gq,rfl,-,-,-⟩:=hr.opened;have H2:=hid h2;have HR:=hid hr;clear h2 hr hS hp;go_enter func103,ntmps103;go_wp2_with fail;change Calls _ _ _ ((((w.alloc (.cells #[.int .i64 s.limit,.slice A s.ships.length Uq,.slice M s.members.length Wq] 34)).alloc (.cells #[.slice R p.length Gq] 38)).alloc (.cells #[.int .i64 0,.int .i64 0] 156)).alloc (.cells #[.int .i64 0,.int .i64 0] 156)) _;have k0:=Blk.made w 34 #[.int .i64 s.limit,.slice A s.ships.length Uq,.slice M s.members.length Wq];have x0:=Ext.box w (.cells #[.int .i64 s.limit,.slice A s.ships.length Uq,.slice M s.members.length Wq] 34);have es0:(w.alloc (.cells #[.int .i64 s.limit,.slice A s.ships.length Uq,.slice M s.members.length Wq] 34)).heap.size=w.heap.size + 1:=by simp
 obtain ⟨X0,i5⟩:∃ X,w.alloc (.cells #[.int .i64 s.limit,.slice A s.ships.length Uq,.slice M s.members.length Wq] 34)=X:=⟨_,rfl⟩;rw [i5] at k0 x0 es0 ⊢;clear i5;have k1:=Blk.made X0 38 #[.slice R p.length Gq];have x1:=Ext.box X0 (.cells #[.slice R p.length Gq] 38);have es1:(X0.alloc (.cells #[.slice R p.length Gq] 38)).heap.size=X0.heap.size + 1:=by simp
 obtain ⟨X1,d5⟩:∃ X,X0.alloc (.cells #[.slice R p.length Gq] 38)=X:=⟨_,rfl⟩;rw [d5] at k1 x1 es1 ⊢;clear d5;have k2:=Blk.made X1 156 #[.int .i64 0,.int .i64 0];have x2:=Ext.box X1 (.cells #[.int .i64 0,.int .i64 0] 156);have es2:(X1.alloc (.cells #[.int .i64 0,.int .i64 0] 156)).heap.size=X1.heap.size + 1:=by simp
 obtain ⟨X2,b5⟩:∃ X,X1.alloc (.cells #[.int .i64 0,.int .i64 0] 156)=X:=⟨_,rfl⟩;rw [b5] at k2 x2 es2 ⊢;clear b5;have k3:=Blk.made X2 156 #[.int .i64 0,.int .i64 0];have x3:=Ext.box X2 (.cells #[.int .i64 0,.int .i64 0] 156);have es3:(X2.alloc (.cells #[.int .i64 0,.int .i64 0] 156)).heap.size=X2.heap.size + 1:=by simp
 obtain ⟨X3,Z6⟩:∃ X,X2.alloc (.cells #[.int .i64 0,.int .i64 0] 156)=X:=⟨_,rfl⟩;rw [Z6] at k3 x3 es3 ⊢;clear Z6;replace k0:=((k0.ext x1).ext x2).ext x3;replace k1:=(k1.ext x2).ext x3;replace k2:=k2.ext x3;have e0:X0.heap.size=w.heap.size + 1:=by omega
 have e1:X1.heap.size=w.heap.size + 1 + 1:=by omega
 have e2:X2.heap.size=w.heap.size + 1 + 1 + 1:=by omega
 have e3:X3.heap.size=w.heap.size + 1 + 1 + 1 + 1:=by omega
 rw [e0] at k1;rw [e1] at k2;rw [e2] at k3;have Sq:Hid (Ext w X3):=hid (Ext.trans (Ext.trans (Ext.trans (x0) x1) x2) x3);have eW:X3.heap.size=w.heap.size + 1 + 1 + 1 + 1:=e3;clear x0 es0 e0 x1 es1 e1 x2 es2 e2 x3 es3 e3;obtain ⟨W,Nq⟩:∃ W,X3=W:=⟨_,rfl⟩;rw [Nq] at Sq eW ⊢ k0 k1 k2 k3;clear Nq;refine (Yz.out _ _ _ ⟨_,_,rfl,H2.out.ext Sq.out⟩ ⟨_,rfl,HR.out.ext Sq.out⟩).mono ?_;rintro e w5 ⟨x,rfl,hxb,Cq⟩;have K0:=hid (k0.ext Cq);have KR:=hid (k2.ext Cq);have KO:=hid (k3.ext Cq);have vq:=hid (Sq.out.trans Cq);have zJ:Hid (w.heap.size + 1 + 1 + 1 + 1 <= w5.heap.size):=hid (by have:=Cq.size; omega)
 obtain ⟨U,Rg,rfl,-,-,rk⟩:=hxb.opened;rw [Q4c] at rk ⊢;have dg:=hid rk;obtain ⟨gs,bq⟩:∃ x,w.heap.size=x:=⟨_,rfl⟩;have Nz:=hid bq;rw [bq] at K0 KR KO zJ ⊢;clear k0 k1 k2 k3 Cq hxb rk bq eW Sq;go_wp2
 go_loopw [14] (fun iv wr=>∃ i:Nat,i <= s.members.length /\ iv=.int .i64 i /\ Blk wr (gs + 1 + 1 + 1) 156 #[.int .i64 (Q5u s p countB i),.int .i64 (Q5u s p (Q8a s) i)] /\ Off (gs + 1 + 1 + 1) w5 wr) (fun iv _=>s.members.length - (intOf iv).toNat)
 case atStart=>exact ⟨0,Nat.zero_le _,rfl,KO.out,Off.refl _ _⟩
 case round =>
  obtain ⟨i,yz,rfl,ez,rx⟩:=hrel;have Kv:=hid ez;have lw:=hid rx;clear ez rx
  by_cases Tq:i < s.members.length
  . obtain ⟨bu,ou,xk,rfl,-,Sk,qj⟩:=dg.out i Tq
    rw [Q7j p Tq] at qj;have Fq:(Q0l p (Q0c s.members i)).length=s.ships.length:=by rw [Q3i,(HS.out.shaped i Tq).1]
    have yJ:Hid (Q5u s p countB (i + 1)=Q5u s p countB i + Q0o s.members i * countB (Q0l p (Q0c s.members i))):=hid rfl;have CX:Hid (Q5u s p (Q8a s) (i + 1)=Q5u s p (Q8a s) i + Q0o s.members i * Q8a s (Q0l p (Q0c s.members i))):=hid rfl;have Tv:=d7.out i yz;have Pz:=W9.out i yz;have Vj:=HS.out.weights i Tq;obtain ⟨bm,off,Rq,Jq,Bq,X,Y,Z,aq⟩:=Q3s (H2.out.members.ext vq.out) Tq;obtain ⟨bm',off',_,_,_,_,_,_,xJ⟩:=Q3s H2.out.members Tq;have Wv:bm < gs:=by
     have h1:=aq.addr;have h2:=xJ.addr;rw [h1] at h2;cases h2;have:=xJ.lt;have:=Nz.out;omega
    have hA:=aq.addr;subst hA;have Vk:=hid aq.e1;obtain ⟨cl,hcl⟩:∃ x,Q0l p (Q0c s.members i)=x:=⟨_,rfl⟩;rw [hcl] at qj Fq yJ CX;obtain ⟨wt,RV⟩:∃ x,Q0o s.members i=x:=⟨_,rfl⟩;rw [RV] at Vk yJ CX Vj;obtain ⟨Ci,Wh⟩:∃ x,Q5u s p countB i=x:=⟨_,rfl⟩;rw [Wh] at Tv yJ Kv;obtain ⟨Di,Vh⟩:∃ x,Q5u s p (Q8a s) i=x:=⟨_,rfl⟩;rw [Vh] at Pz CX Kv;obtain ⟨Uk,W8,rfl,-,-,F1⟩:=qj.opened;have Ek:=hid F1;have Dq:=Z4s KO.out lw.out Sk (by intro n h; cases h)
    have J1:(i:Int) < s.members.length:=by omega
    have Ak:=hid Fq;have ob:Hid (0 <= Ci /\ Ci <= 48000):=hid (by
     have:(i:Int) * (1000 * 6) <= 8 * (1000 * 6):=Int.mul_le_mul_of_nonneg_right (by omega) (by omega)
     omega)
    have mb:Hid (0 <= Di /\ Di <= 48000000):=hid (by
     have:(i:Int) * (1000 * 6000) <= 8 * (1000 * 6000):=Int.mul_le_mul_of_nonneg_right (by omega) (by omega)
     omega)
    have QV:=hid Vj;clear aq xJ Sk qj hcl RV Wh Vh F1 Tv Pz Fq Vj
    go_light
    go_wp2;clear Dq
    go_loopw [21] (fun tv wr=>∃ t:Nat,t <= cl.length /\ tv=.int .i64 t /\ Blk wr (gs + 1 + 1 + 1) 156 #[.int .i64 (Ci + wt * countB (cl.take t)),.int .i64 (Di + wt * Q9u s cl t)] /\ Off (gs + 1 + 1 + 1) w5 wr) (fun tv _=>cl.length - (intOf tv).toNat)
    case atStart=>exact ⟨0,Nat.zero_le _,rfl,by simpa [countB,Q9u] using Kv.out,lw.out⟩
    case round =>
     obtain ⟨t,Q1,rfl,ez,dz⟩:=hrel;have E3:=hid ez;have zy:=hid dz;clear ez dz
     by_cases Mx:t < cl.length
     . obtain ⟨bk,ok,rfl,-,Wg⟩:=Ek.out t Mx
       replace Wg:=Z4s KO.out zy.out Wg (by intro n h; cases h)
       have MG:(t:Int) < cl.length:=by omega
       have Bg:t < s.ships.length:=by have:=Ak.out; omega
       have xY:=hid (Z4a cl Mx);have vY:=hid (Y4k s cl t);cases hq:bx cl t with
       | false =>
         rw [hq] at Wg xY vY;have HQ:Hid (countB (cl.take (t + 1))=countB (cl.take t) /\ Q9u s cl (t + 1)=Q9u s cl t):=hid ⟨by rw [xY.out]; simp,by rw [vY.out]; simp⟩
         clear hq;go_wp2;go_roundw
         case rel=>exact ⟨t + 1,by omega,by go_num,by rw [HQ.out.1,HQ.out.2]; exact E3.out,zy.out⟩
         case measure=>simp [intOf]; omega
       | true =>
         rw [hq] at Wg xY vY;have HQ:Hid (countB (cl.take (t + 1))=countB (cl.take t) + 1 /\ Q9u s cl (t + 1)=Q9u s cl t + ix s.ships t):=hid ⟨by rw [xY.out]; simp,by rw [vY.out]; simp⟩
         have Uh:=HS.out.delays (ix s.ships t) (by rw [Q5i Bg]; exact List.getElem_mem _)
         have h1:=J6g (b:=countB (cl.take t)) (B:=6) (show 0 <= wt /\ wt <= 1000 by have:=QV.out; omega) (X4n HS.out _ (by rw [List.length_take]; omega))
         have h2:=Z6c HS.out cl t (by omega)
         have h3:=J6g (b:=Q9u s cl t) (B:=6000) (show 0 <= wt /\ wt <= 1000 by have:=QV.out; omega) (by omega)
         have Pw:=hid (fun (W:World) (u:Value) (hu:Q0g W u s)=>Z5s W u s (Ci + wt * countB (cl.take t)) (Di + wt * Q9u s cl t) t wt hu Bg (by have:=ob.out; omega) (by have:=mb.out; omega) (by have:=QV.out; omega) Uh)
         have Th:Hid (Ci + wt * countB (cl.take (t + 1))=Ci + wt * countB (cl.take t) + wt):=hid (by rw [HQ.out.1,Int.mul_add]; omega)
         have jb:Hid (Di + wt * Q9u s cl (t + 1)=Di + wt * Q9u s cl t + wt * ix s.ships t):=hid (by rw [HQ.out.2,Int.mul_add]; omega)
         obtain ⟨C,hC⟩:∃ x,Ci + wt * countB (cl.take t)=x:=⟨_,rfl⟩;obtain ⟨D,hD⟩:∃ x,Di + wt * Q9u s cl t=x:=⟨_,rfl⟩;rw [hC] at Pw Th E3;rw [hD] at Pw jb E3;obtain ⟨dl,K6⟩:∃ x,wt * ix s.ships t=x:=⟨_,rfl⟩;rw [K6] at Pw jb;have jy:=zy.out.2.1;have yn:Hid (wr.cell? ⟨bm,off + i * 5 + 1,none⟩=some (.int .i64 wt)):=hid ((zy.out.1.cell (p:=⟨bm,off + i * 5 + 1,none⟩) (show bm < gs + 1 + 1 + 1 by omega)).trans Vk.out)
         have dx:=hid (K0.out.below zy.out.1 (by omega))
         have Mj:Hid (∀ W,Ext wr W -> Q0g W (.agg #[.int .i64 s.limit,.slice A s.ships.length Uq,.slice (some ⟨bm,off,none⟩) s.members.length Wq]) s) :=
          hid (fun W hW=>⟨_,_,rfl,H2.out.ext (Below.trans vq.out (Below.trans (zy.out.1.mono (by have:=Nz.out; omega)) (hW.mono (by have:=Nz.out; have:=zJ.out; omega))))⟩)
         have Vq:=(Ext.refl wr).drew;have ib:Hid (gs + 1 + 1 + 1 + 1 <= wr.heap.size):=hid (by have:=zJ.out; omega)
         clear hq Uh h1 h2 h3 hC hD K6 jy
         go_light
         go_wp2;refine Flow.Q4h [.w,.w,.p,.p,.w,.p,.p,.p,.w,.w,.last] [0,1,2,3,4,5,6,7,8,9,10] [[],[],[],[],[3],[],[3,4,5],[3,4,5,6],[3,4,5,6,7],[0,1,2,3,4,5,6,7,8],[0,1,2,3,4,5,6,7,8,9]] [10]
          [.c 0 (.agg #[.int .i64 C,.int .i64 D]),.c 1 (.agg #[.int .i64 s.limit,.slice A s.ships.length Uq,.slice (some ⟨bm,off,none⟩) s.members.length Wq]),.c 2 (.int .i64 (t:Int)),.c 3 (.pointer (some ⟨gs,2,none⟩)),.c 4 (.slice (some ⟨bm,off,none⟩) s.members.length Wq),.c 5 (.int .i64 (i:Int)),.c 6 (.pointer (some ⟨bm,off + i * 5,none⟩)),.c 7 (.pointer (some ⟨bm,off + i * 5 + 1,none⟩)),.c 8 (.int .i64 wt),.c 9 (.agg #[.int .i64 (C + wt),.int .i64 (D + dl)]),.none]
          [fun v w1 w'=>Blk w' (gs + 1 + 1 + 1) 156 #[.int .i64 (C + wt),.int .i64 (D + dl)] /\ (∀ n,n <= gs + 1 + 1 + 1 -> Below n w1 w') /\ (∀ k,k ≠ gs + 1 + 1 + 1 -> w'.heap[k]?=w1.heap[k]?)] (by kernel_rfl) rfl (by kernel_rfl) ⟨?g0,?g1,?g2,?g3,?g4,?g5,?g6,?g7,?g8,?g9,?g10,trivial⟩ ?post
         case g0=>
          intro v w1 hx;intro bb hbb;intro K hK;have o1:bb.eval (.tmp 5)=.pointer (some ⟨gs + 1 + 1 + 1,0,none⟩):=fze08
          exact Q0i (.tmp 5) _ rfl Y3z Q9e o1 (E3.out.ext (Vq.trans hx)) rfl (hK _ _ (Ext.refl _) rfl)
         case g1=>
          intro v w1 hx;intro bb hbb;intro K hK;have o1:bb.eval (.tmp 2)=.pointer (some ⟨gs,0,none⟩):=fze08
          exact Q0i (.tmp 2) _ rfl X8b Q9q o1 (dx.out.ext (Vq.trans hx)) rfl (hK _ _ (Ext.refl _) rfl)
         case g2 | g3 | g5=>
          intro v w1 hx;intro bb hbb;subst hbb;refine ⟨_,fun w=>?_,rfl⟩;go_simp
         case g4 | g8=>
          intro v w1 hx;(repeat intro (zq:v _=_));intro bb hbb;subst hbb;have n0:w1.cell? ⟨gs,2,none⟩=some (.slice (some ⟨bm,off,none⟩) s.members.length Wq):=(dx.out.ext (Vq.trans hx)).cell 2;have n1:w1.cell? ⟨bm,off + i * 5 + 1,none⟩=some (.int .i64 wt):=(Vq.trans hx).cell yn.out;intro K hK;go_simp;exact hK _ _ (Ext.refl _) rfl
         case g6 | g7=>
          intro v w1 hx;(repeat intro (zq:v _=_));intro bb hbb;subst hbb;refine ⟨_,fun w=>?_,rfl⟩;go_simp
         case g9=>
          intro v w1 hx;(repeat intro (zq:v _=_));intro bb hbb;subst hbb;intro K hK;go_simp;refine Q0d (Pw.out w1 _ (Mj.out w1 (Vq.trans hx))) ?_;rintro e w2 ⟨rfl,Mq⟩;exact ⟨_,rfl,hK _ _ Mq rfl⟩
         case g10=>
          intro v w1 hx;(repeat intro (zq:v _=_));intro wl hT;obtain rfl:wl=w1:=hT;intro bb hbb;intro K hK;have o1:bb.eval (.tmp 5)=.pointer (some ⟨gs + 1 + 1 + 1,0,none⟩):=fze08
          have o2:bb.eval (.tmp 36)=.agg #[.int .i64 (C + wt),.int .i64 (D + dl)]:=by rw [hbb]; dsimp only; (try simp (discharger:=decide) only [eval_put_ne]); rw [Q0a (by simp only [size_put]; exact (by decide:36 < 40))]; assumption
          exact Q2i (.tmp 5) (.tmp 36) _ rfl Q9e o1 o2 (E3.out.ext (Vq.trans hx)) rfl rfl Y2a (fun vv w' hb hl ho=>hK _ _ ⟨hb,hl,ho⟩)
         case post =>
          intro v w1 hx;(iterate 10 intro (zq:v _=_));intro w2 hE;replace hE:(fun v w1 w'=>Blk w' (gs + 1 + 1 + 1) 156 #[.int .i64 (C + wt),.int .i64 (D + dl)] /\ (∀ n,n <= gs + 1 + 1 + 1 -> Below n w1 w') /\ (∀ k,k ≠ gs + 1 + 1 + 1 -> w'.heap[k]?=w1.heap[k]?)) v w1 w2:=hE;simp only [Flow.acts,Act.put];go_simp;obtain ⟨Fj,Pj,cj⟩:=hE;have Zq:=Vq.trans hx;have J0:Off (gs + 1 + 1 + 1) w5 w2:=⟨Below.trans zy.out.1 (Below.trans (Zq.mono (by have:=ib.out; omega)) (Pj _ (Nat.le_refl _))),Nat.le_trans zy.out.2.1 (Nat.le_trans Zq.size (Pj _ (Nat.le_refl _)).size),fun b hb hne=>by
           rw [cj b hne,Below.block Zq b (by have:=zy.out.2.1; omega)]; exact zy.out.2.2 b hb hne⟩
          have Cg:=hid Fj;have Vw:=hid J0;clear hx Vq Fj Pj cj J0 Zq;(repeat clear zq);go_wp2;go_roundw
          case rel=>exact ⟨t + 1,by omega,by go_num,by rw [Th.out,jb.out]; exact Cg.out,Vw.out⟩
          case measure=>simp [intOf]; omega
     . have ka:t=cl.length:=by omega
       subst ka;have Jv:=E3.out;rw [List.take_length,J2s,<- yJ.out,<- CX.out] at Jv;have S2:=hid Jv;clear Jv;go_wp2;go_roundw
       case rel=>exact ⟨i + 1,by omega,by go_num,S2.out,zy.out⟩
       case measure=>simp [intOf]; omega
  . have ja:i=s.members.length:=by omega
    subst ja;have Fk:=Kv.out;have iy:=KR.out.below lw.out.1 (by omega)
    rw [zx.out,pb.out] at Fk;go_wp2_with (first | (refine Q9x rfl _ _ rfl Y3z Q9e rfl Fk rfl ?_) | (refine Q0v rfl _ _ _ rfl Q9e rfl rfl iy rfl rfl Y2a ?_; intro w9 Fj Pj cj))
    refine bodyPost_ret (Q2h results103 rfl Fj Y3z Q9e) rfl ?_;exact ⟨rfl,Below.trans vq.out (Below.trans (lw.out.1.mono (by have:=Nz.out; omega)) (Pj w.heap.size (by have:=Nz.out; omega)))⟩
def Part (w:World) (g off:Nat) (sub:Array Value):Prop:=∀ k (hk:k < sub.size),w.cell? ⟨g,off + k,none⟩=some sub[k]
theorem Part.ext {w w':World} {g off:Nat} {sub:Array Value} (h:Part w g off sub) (hx:Ext w w'):Part w' g off sub:=fun k hk=>hx.cell (h k hk)
theorem Y7j {P:Program} {w:World} {g off:Nat} {cs:Array Value} (h:Part w g off cs):(loadCells ⟨g,off,none⟩ cs.size).run P w=.ok cs w:=by
 have gen:∀ (n i:Nat) (acc:Array Value),i + n=cs.size -> acc.toList=cs.toList.take i -> (loadCellsFrom ⟨g,off,none⟩ i n acc).run P w=.ok cs w:=by
  intro n
  induction n with
  | zero =>
    intro i acc hi ha;have:acc=cs:=by
     apply Array.toList_inj.1
     rw [ha,List.take_of_length_le (by simp; omega)]
    subst this;simp [loadCellsFrom]
  | succ n ih =>
    intro i acc hi ha;have Tq:i < cs.size:=by omega
    have h0:=h i Tq;have ea:(⟨g,off,none⟩:Addr).add i=⟨g,off + i,none⟩:=by rw [addr_add]
    rw [loadCellsFrom,ea];simp only [Sem.run_bind,load,Sem.run,h0,Result.andThen_ok];refine ih (i + 1) _ (by omega) ?_
    rw [Array.toList_push,ha,<- Array.getElem_toList (by simpa using Tq),List.take_append_getElem]
 exact gen cs.size 0 #[] (by omega) (by simp)
theorem X7n {P:Program} {w:World} {g off:Nat} {T:TypeId} {cs:Array Value} (h:Part w g off cs) (hA:∀ w,(isAgg T).run P w=.ok true w) (hS:∀ w,(sizeOf T).run P w=.ok cs.size w):(loadVar T ⟨g,off,none⟩).run P w=.ok (.agg cs) w:=by
 unfold loadVar;simp only [Sem.run_bind,hA,Result.andThen_ok,if_true,hS,Y7j h,Sem.run_pure]
theorem Y0r {P:Program} {w:World} {o:Oper} {a:Act} {p:Operand} {T:TypeId} {g off:Nat} {cs:Array Value} (vw:o.op=.load T p) (hA:∀ w,(isAgg T).run P w=.ok true w) (hS:∀ w,(sizeOf T).run P w=.ok cs.size w) (hp:a.eval p=.pointer (some ⟨g,off,none⟩)) (h:Part w g off cs):(execOp a.eval o).run P w=.ok (.value (.agg cs)) w:=by
 unfold execOp;simp only [vw,hp,Instr.loadAt,Instr.sureAddr,Sem.run_bind,Sem.run_pure,Result.andThen_ok,X7n h hA hS]
theorem Q1m {P:Program} {K:Value -> World -> Prop} {o:Oper} {a:Act} {w:World} (p:Operand) (T:TypeId) (ho:o.op=.load T p) (hA:∀ w,(isAgg T).run P w=.ok true w) {n:Nat} (hS:∀ w,(sizeOf T).run P w=.ok n w)
    {g off:Nat} (hp:a.eval p=.pointer (some ⟨g,off,none⟩)) {cs:Array Value} (hb:Part w g off cs) (hn:cs.size=n) (h:K (.agg cs) w):gives P K ((execOp a.eval o).run P w):=by
 subst hn;rw [Y0r ho hA hS hp hb];exact h
theorem Z0a {w:World} {g:Nat} {a b c:Int} {d:Value} (h:Blk w g 159 #[.int .i64 a,.int .i64 b,.int .i64 c,d]):Part w g 1 #[.int .i64 b,.int .i64 c]:=fun k hk=>by
 have:k=0 ∨ k=1:=by have:k < 2:=hk; omega
 rcases this with rfl | rfl
 . exact h.cell 1
 . exact h.cell 2
theorem X3s {a b c:Int} {A:Option Addr} {n d:Nat}:∀ u ∈ (#[Value.int .i64 a,.int .i64 b,.int .i64 c,.slice A n d]:Array Value).toList,u.oneCell'=true:=by
 intro u hu;simp only [List.mem_cons,List.not_mem_nil,or_false] at hu
 rcases hu with rfl | rfl | rfl | rfl <;> rfl
theorem Z4i (w:World) (s:ByteArray):(Instr.buildSlice 157 1 #[(0,.string s)]).run prog w=.ok (.slice (some ⟨w.heap.size,0,none⟩) 1 1) (w.alloc (.cells #[.string s] 9)):=by kernel_rfl
theorem X5q {K:Value -> World -> Prop} {o:Oper} {a:Act} {w:World} (T E:TypeId) (x:Operand) (ho:o.op=.buildSlice T 1 #[(0,x)]) {u:Value} (hx:a.eval x=u) (hr:(Instr.buildSlice T 1 #[(0,u)]).run prog w=.ok (.slice (some ⟨w.heap.size,0,none⟩) 1 1) (w.alloc (.cells #[u] E)))
    (h:K (.slice (some ⟨w.heap.size,0,none⟩) 1 1) (w.alloc (.cells #[u] E))):gives prog K ((execOp a.eval o).run prog w):=by
 unfold execOp;simp only [ho,hx,List.map_toArray,List.map_cons,List.map_nil,Sem.run_bind,hr,Result.andThen_ok,Sem.run_pure];exact h
theorem J5u {w:World} {g:Nat} {k:ByteArray} (h:Blk w g 9 #[.string k]):Q0n w 0 9 .string (.slice (some ⟨g,0,none⟩) 1 1) [k] :=
 ⟨by simp,.inr ⟨g,1,#[.string k],rfl,Nat.zero_le _,h,Nat.le_refl _,by unfold maxLen; omega,by simp,by simp⟩⟩
theorem Z2u (w:World) (x:Plan) (A:Option Addr) (n c gS gT gN gK:Nat) (av bv:Value) (s:Q0b) (t:Nat) (wt:Int) (key:ByteArray) (hc:Q0n w 0 9 .string (.slice A n c) x.closed) (Ow:Z8u x)
    (hS:Blk w gS 34 #[.int .i64 s.limit,av,bv]) (zv:Q0g w (.agg #[.int .i64 s.limit,av,bv]) s) (hT:w.cell? ⟨gT,0,none⟩=some (.int .i64 (t:Int))) (hN:w.cell? ⟨gN,0,none⟩=some (.int .i64 wt)) (hK:w.cell? ⟨gK,0,none⟩=some (.string key))
    (ht:t < s.ships.length) (hw:0 <= wt /\ wt <= 1000000) (hd:0 <= ix s.ships t /\ ix s.ships t <= 1000) :
    Calls prog 201 #[Z9e x (.slice A n c),.pointer (some ⟨gS,0,none⟩),.pointer (some ⟨gT,0,none⟩),.pointer (some ⟨gN,0,none⟩),.pointer (some ⟨gK,0,none⟩)] w fun e w' =>
     ∃ A' n' c',e=.returned (Z9e ⟨x.weight,x.closings + wt,x.delay + wt * ix s.ships t,x.closed ++ [key]⟩ (.slice A' n' c')) /\ Q0n w' 0 9 .string (.slice A' n' c') (x.closed ++ [key]) /\ Ext w w':=by
 have HC:=hid hc;have vy:=hid hS;have HT:=hid hT;have HN:=hid hN;have HK:=hid hK;have B7:=hid Ow.l;have Pw:=hid (fun (W:World) (hW:Ext w W)=>Z5s W _ s x.closings x.delay t wt (by obtain ⟨_,_,he,h2⟩:=zv; exact ⟨_,_,he,h2.ext hW⟩) ht (by have:=Ow.c; omega) (by have:=Ow.d; omega) hw hd)
 obtain ⟨ships,uJ⟩:∃ z,ix s.ships t=z:=⟨_,rfl⟩;obtain ⟨dl,K6⟩:∃ z,wt * ix s.ships t=z:=⟨_,rfl⟩;rw [K6] at Pw ⊢;obtain ⟨x1,x2,x3,x4⟩:=x;simp only [Z9e] at *;clear hc Ow hS zv hT hN hK ht hw hd uJ K6;obtain ⟨lim,Uj⟩:∃ z,s.limit=z:=⟨_,rfl⟩;rw [Uj] at vy Pw;clear Uj;go_enter func201,ntmps201;go_wp2_with fail;change Code.wp _ _ _ _ ((w.alloc (.cells #[.int .i64 x1,.int .i64 x2,.int .i64 x3,.slice A n c] 159)).alloc (.cells #[.int .i64 0,.int .i64 0,.int .i64 0,.slice none 0 0] 159));obtain ⟨W,Nq,k0,k1,Sq,eW⟩:=Q3p w 159 #[.int .i64 x1,.int .i64 x2,.int .i64 x3,.slice A n c] 159 #[.int .i64 0,.int .i64 0,.int .i64 0,.slice none 0 0];rw [Nq];clear Nq;have K0:=hid k0;have K1:=hid k1;obtain ⟨gp,Yk⟩:∃ z,w.heap.size=z:=⟨_,rfl⟩;have Ag:=hid Yk;rw [Yk] at K0 K1 eW ⊢;clear k0 k1 Yk;have r5:=hid (enters_of (P:=prog) func196 (by kernel_rfl) rfl)
 have Y7:=hid (fun (V:World) g b hB h1 h2=>Y1z V g 157 (.slice A n c) b 0 0 x4 [key] hB h1 h2 (by have:=B7.out; simp only [List.length_singleton]; omega))
 have Vq:=(Ext.refl W).drew;refine Flow.Q4h [.p,.w,.p,.w,.w,.w,.w,.w,.p,.w,.w,.w,.w,.w,.p,.last] [0,1,2,3,4,5,6,7,8,9,10,11,12,13,14,15] [[],[0],[],[2],[],[],[],[2,3,4,5,6],[],[8],[],[10],[8,9,10,11],[2,3,4,5,6,7,8,9,10,11,12],[0,1,2,3,4,5,6,7,8,9,10,11,12,13],[0,1,2,3,4,5,6,7,8,9,10,11,12,13,14]] [15]
  [.c 0 (.pointer (some ⟨gp,0,none⟩)),.c 1 (.int .i64 x1),.c 2 (.pointer (some ⟨gp,1,none⟩)),.c 3 (.agg #[.int .i64 x2,.int .i64 x3]),.c 4 (.agg #[.int .i64 lim,av,bv]),.c 5 (.int .i64 (t:Int)),.c 6 (.int .i64 wt),.c 7 (.agg #[.int .i64 (x2 + wt),.int .i64 (x3 + dl)]),.c 8 (.pointer (some ⟨gp,3,none⟩)),.c 9 (.slice A n c),.c 10 (.string key),⟨fun v wz=>(fun v w'=>∃ gn,v 11=.slice (some ⟨gn,0,none⟩) 1 1 /\ Blk w' gn 9 #[.string key]) v wz,by rintro v a b hx ⟨gn,h1,h2⟩; exact ⟨gn,h1,h2.ext hx⟩⟩,⟨fun v wz=>(fun v w'=>∃ gm,v 12=.slice (some ⟨gm,0,none⟩) 2 2 /\ Blk w' gm 157 #[.slice A n c,v 11]) v wz,by rintro v a b hx ⟨gn,h1,h2⟩; exact ⟨gn,h1,h2.ext hx⟩⟩,⟨fun v wz=>(fun v w'=>∃ A' n' c',v 13=.slice A' n' c' /\ Q0n w' 0 9 .string (.slice A' n' c') (x4 ++ [key])) v wz,by rintro v a b hx ⟨A,n,c,h1,h2⟩; exact ⟨A,n,c,h1,h2.below hx⟩⟩,.is 14 (fun v=>.agg #[.int .i64 x1,.int .i64 (x2 + wt),.int .i64 (x3 + dl),v 13]),.none]
  [fun v w1 w'=>Blk w' (gp + 1) 159 #[.int .i64 x1,.int .i64 (x2 + wt),.int .i64 (x3 + dl),v 13] /\ (∀ n,n <= gp + 1 -> Below n w1 w') /\ (∀ k,k ≠ gp + 1 -> w'.heap[k]?=w1.heap[k]?)] (by kernel_rfl) rfl (by kernel_rfl) ⟨?g0,?g1,?g2,?g3,?g4,?g5,?g6,?g7,?g8,?g9,?g10,?g11,?g12,?g13,?g14,?g15,trivial⟩ ?post
 case g0 | g2 | g8=>
  intro v w1 hx;intro bb hbb;subst hbb;refine ⟨_,fun w=>?_,rfl⟩;go_simp
 case g1 | g9=>
  intro v w1 hx;(repeat intro (zq:v _=_));intro bb hbb;subst hbb;have n0:w1.cell? ⟨gp,0,none⟩=some (.int .i64 x1):=(K0.out.ext (Vq.trans hx)).cell 0;have n1:w1.cell? ⟨gp,3,none⟩=some (.slice A n c):=(K0.out.ext (Vq.trans hx)).cell 3;intro K hK;go_simp;exact hK _ _ (Ext.refl _) rfl
 case g3=>
  intro v w1 hx;(repeat intro (zq:v _=_));intro bb hbb;intro K hK;have o1:bb.eval (.tmp 9)=.pointer (some ⟨gp,1,none⟩):=by rw [hbb]; dsimp only; (try simp (discharger:=decide) only [eval_put_ne]); rw [Q0a (by simp only [size_put]; exact (by decide:9 < 22))]; assumption
  exact Q1m (.tmp 9) _ rfl Y3z Q9e o1 ((Z0a K0.out).ext (Vq.trans hx)) rfl (hK _ _ (Ext.refl _) rfl)
 case g4=>
  intro v w1 hx;intro bb hbb;intro K hK;have o1:bb.eval (.tmp 1)=.pointer (some ⟨gS,0,none⟩):=fze08
  exact Q0i (.tmp 1) _ rfl X8b Q9q o1 (vy.out.ext (Sq.out.trans (Vq.trans hx))) rfl (hK _ _ (Ext.refl _) rfl)
 case g5 | g6 | g10=>
  intro v w1 hx;intro bb hbb;subst hbb;have n0:w1.cell? ⟨gT,0,none⟩=some (.int .i64 (t:Int)):=(Sq.out.trans (Vq.trans hx)).cell HT.out;have n1:w1.cell? ⟨gN,0,none⟩=some (.int .i64 wt):=(Sq.out.trans (Vq.trans hx)).cell HN.out;have n2:w1.cell? ⟨gK,0,none⟩=some (.string key):=(Sq.out.trans (Vq.trans hx)).cell HK.out;intro K hK;go_simp;exact hK _ _ (Ext.refl _) rfl
 case g7=>
  intro v w1 hx;(repeat intro (zq:v _=_));intro bb hbb;subst hbb;intro K hK;go_simp;refine Q0d (Pw.out w1 (Sq.out.trans (Vq.trans hx))) ?_;rintro e w2 ⟨rfl,Mq⟩;exact ⟨_,rfl,hK _ _ Mq rfl⟩
 case g11=>
  intro v w1 hx;(repeat intro (zq:v _=_));intro bb hbb;intro K hK;have o1:bb.eval (.tmp 17)=.string key:=by rw [hbb]; dsimp only; (try simp (discharger:=decide) only [eval_put_ne]); rw [Q0a (by simp only [size_put]; exact (by decide:17 < 22))]; assumption
  exact X5q 157 9 (.tmp 17) rfl o1 (Z4i w1 _) (hK _ _ (Ext.box _ _) ⟨_,rfl,Blk.made _ _ _⟩)
 case g12=>
  intro v w1 hx (q8:v 8=_) (q9:v 9=_) (q10:v 10=_) (q11:(fun v w'=>∃ gn,v 11=.slice (some ⟨gn,0,none⟩) 1 1 /\ Blk w' gn 9 #[.string key]) v w1);intro bb hbb;intro K hK;obtain ⟨gn,e11,OV⟩:=q11;have o1:bb.eval (.tmp 16)=.slice A n c:=by rw [hbb]; dsimp only; (try simp (discharger:=decide) only [eval_put_ne]); rw [Q0a (by simp only [size_put]; exact (by decide:16 < 22))]; exact q9
  have o2:bb.eval (.tmp 18)=.slice (some ⟨gn,0,none⟩) 1 1:=by rw [hbb]; dsimp only; (try simp (discharger:=decide) only [eval_put_ne]); rw [Q0a (by simp only [size_put]; exact (by decide:18 < 22))]; exact e11
  exact Q8j 295 157 (.tmp 16) (.tmp 18) rfl o1 o2 (Y2b w1 _ _ _ _ _ _) (hK _ _ (Ext.box _ _) ⟨_,rfl,by show Blk _ _ _ #[_,v 11]; rw [e11]; exact Blk.made _ _ _⟩)
 case g13=>
  intro v w1 hx (q2:v 2=_) (q3:v 3=_) (q4:v 4=_) (q5:v 5=_) (q6:v 6=_) (q7:v 7=_) (q8:v 8=_) (q9:v 9=_) (q10:v 10=_) (q11:(fun v w'=>∃ gn,v 11=.slice (some ⟨gn,0,none⟩) 1 1 /\ Blk w' gn 9 #[.string key]) v w1) (q12:(fun v w'=>∃ gm,v 12=.slice (some ⟨gm,0,none⟩) 2 2 /\ Blk w' gm 157 #[.slice A n c,v 11]) v w1);intro bb hbb;intro K hK;obtain ⟨gn,e11,OV⟩:=q11;obtain ⟨gm,e12,NV⟩:=q12;have o1:bb.eval (.tmp 19)=.slice (some ⟨gm,0,none⟩) 2 2:=by rw [hbb]; dsimp only; (try simp (discharger:=decide) only [eval_put_ne]); rw [Q0a (by simp only [size_put]; exact (by decide:19 < 22))]; exact e12
  rw [e11] at NV;have Zq:=Vq.trans hx;refine X9z rfl r5.out o1 (Y7.out w1 gm _ NV (HC.out.below (Sq.out.trans Zq)) (J5u OV)) ?_;rintro e w2 ⟨z,rfl,h1,h2⟩;obtain ⟨A',c',rfl,-⟩:=h1.shape;exact ⟨_,rfl,hK _ _ h2 ⟨A',_,c',rfl,h1.weaken (Nat.zero_le _)⟩⟩
 case g14=>
  intro v w1 hx (q0:v 0=_) (q1:v 1=_) (q2:v 2=_) (q3:v 3=_) (q4:v 4=_) (q5:v 5=_) (q6:v 6=_) (q7:v 7=_) (q8:v 8=_) (q9:v 9=_) (q10:v 10=_) _ _ (q13:(fun v w'=>∃ A' n' c',v 13=.slice A' n' c' /\ Q0n w' 0 9 .string (.slice A' n' c') (x4 ++ [key])) v w1);intro bb hbb;obtain ⟨A',n',c',e13,G7⟩:=q13;have o1:bb.eval (.tmp 8)=.int .i64 x1:=by rw [hbb]; dsimp only; (try simp (discharger:=decide) only [eval_put_ne]); rw [Q0a (by simp only [size_put]; exact (by decide:8 < 22))]; exact q1
  have o2:bb.eval (.tmp 14)=.agg #[.int .i64 (x2 + wt),.int .i64 (x3 + dl)]:=by rw [hbb]; dsimp only; (try simp (discharger:=decide) only [eval_put_ne]); rw [Q0a (by simp only [size_put]; exact (by decide:14 < 22))]; exact q7
  have o3:bb.eval (.tmp 20)=.slice A' n' c':=by rw [hbb]; dsimp only; (try simp (discharger:=decide) only [eval_put_ne]); rw [Q0a (by simp only [size_put]; exact (by decide:20 < 22))]; exact e13
  refine ⟨.agg #[.int .i64 x1,.int .i64 (x2 + wt),.int .i64 (x3 + dl),v 13],fun w=>?_,rfl⟩;rw [e13];unfold execOp;simp only [List.map_toArray,List.map_cons,List.map_nil,o1,o2,o3];clear o1 o2 o3 hbb;go_simp
 case g15=>
  intro v w1 hx (q0:v 0=_) (q1:v 1=_) (q2:v 2=_) (q3:v 3=_) (q4:v 4=_) (q5:v 5=_) (q6:v 6=_) (q7:v 7=_) (q8:v 8=_) (q9:v 9=_) (q10:v 10=_) _ _ (q13:(fun v w'=>∃ A' n' c',v 13=.slice A' n' c' /\ Q0n w' 0 9 .string (.slice A' n' c') (x4 ++ [key])) v w1) (q14:v 14=.agg #[.int .i64 x1,.int .i64 (x2 + wt),.int .i64 (x3 + dl),v 13]);intro wl hT;obtain rfl:wl=w1:=hT;intro bb hbb;intro K hK;obtain ⟨A',n',c',e13,G7⟩:=q13;have o1:bb.eval (.tmp 6)=.pointer (some ⟨gp + 1,0,none⟩):=fze08
  have o2:bb.eval (.tmp 21)=.agg #[.int .i64 x1,.int .i64 (x2 + wt),.int .i64 (x3 + dl),v 13]:=by rw [hbb]; dsimp only; (try simp (discharger:=decide) only [eval_put_ne]); rw [Q0a (by simp only [size_put]; exact (by decide:21 < 22))]; exact q14
  exact Q2i (.tmp 6) (.tmp 21) _ rfl X9g o1 o2 (K1.out.ext (Vq.trans hx)) rfl rfl (by rw [e13]; exact X3s) (fun vv w' hb hl ho=>hK _ _ ⟨hb,hl,ho⟩)
 case post =>
  intro v w1 hx;(iterate 11 intro (zq:v _=_));intro (q11:(fun v w'=>∃ gn,v 11=.slice (some ⟨gn,0,none⟩) 1 1 /\ Blk w' gn 9 #[.string key]) v w1) (q12:(fun v w'=>∃ gm,v 12=.slice (some ⟨gm,0,none⟩) 2 2 /\ Blk w' gm 157 #[.slice A n c,v 11]) v w1) (q13:(fun v w'=>∃ A' n' c',v 13=.slice A' n' c' /\ Q0n w' 0 9 .string (.slice A' n' c') (x4 ++ [key])) v w1) (q14:v 14=.agg #[.int .i64 x1,.int .i64 (x2 + wt),.int .i64 (x3 + dl),v 13]);intro w2 hE;replace hE:(fun v w1 w'=>Blk w' (gp + 1) 159 #[.int .i64 x1,.int .i64 (x2 + wt),.int .i64 (x3 + dl),v 13] /\ (∀ n,n <= gp + 1 -> Below n w1 w') /\ (∀ k,k ≠ gp + 1 -> w'.heap[k]?=w1.heap[k]?)) v w1 w2:=hE;simp only [Flow.acts,Act.put];go_simp;obtain ⟨A',n',c',e13,G7⟩:=q13;obtain ⟨Fj,Pj,cj⟩:=hE;rw [e13] at Fj;have Zq:=Vq.trans hx;have ij:Hid (Below w.heap.size W w2):=hid (Below.trans (Zq.mono (by have:=Ag.out; omega)) (Pj _ (by have:=Ag.out; omega)))
  have K5:Hid (Q0n w2 0 9 .string (.slice A' n' c') (x4 ++ [key])):=hid (by
   have h:=Q0r.off (w:=w1) (w':=w2) (ps:=[((⟨0,0,0,x4 ++ [key]⟩:Plan),Value.slice A' n' c')]) (g:=gp + 1) (fun q hq=>by obtain rfl:=List.mem_singleton.1 hq; exact G7) (K1.out.ext Zq) (fun k _ hk=>cj k hk)
   exact h _ (List.mem_singleton.2 rfl))
  clear hx Vq Zq Pj cj G7 q11 q12 q14;(repeat clear zq);go_wp2;refine bodyPost_ret (Q2h results201 rfl Fj J9t X9g) rfl ?_;exact ⟨A',n',c',rfl,K5.out,Below.trans Sq.out ij.out⟩
def X9k (s:Q0b) (t:Nat) (wt:Int) (key:ByteArray) (x:Plan):Plan:=⟨x.weight,x.closings + wt,x.delay + wt * ix s.ships t,x.closed ++ [key]⟩
theorem Y6b (w:World) (B:Nat) (v:Value) (ps:List PV) (gS gT gN gK:Nat) (av bv:Value) (s:Q0b) (t:Nat) (wt:Int) (key:ByteArray) (hv:Q1b w B 159 4 Q3f v ps) (Kx:Q0r w ps) (Ow:∀ q ∈ ps,Z8u q.1) (hl:ps.length <= 80000)
    (hS:Blk w gS 34 #[.int .i64 s.limit,av,bv]) (zv:Q0g w (.agg #[.int .i64 s.limit,av,bv]) s) (hT:w.cell? ⟨gT,0,none⟩=some (.int .i64 (t:Int))) (hN:w.cell? ⟨gN,0,none⟩=some (.int .i64 wt)) (hK:w.cell? ⟨gK,0,none⟩=some (.string key))
    (ht:t < s.ships.length) (hw:0 <= wt /\ wt <= 1000000) (hd:0 <= ix s.ships t /\ ix s.ships t <= 1000) :
    Calls prog 200 #[v,.func (.func 201) #[] #[.pointer (some ⟨gS,0,none⟩),.pointer (some ⟨gT,0,none⟩),.pointer (some ⟨gN,0,none⟩),.pointer (some ⟨gK,0,none⟩)]] w fun e w' =>
     ∃ x qs,e=.returned x /\ Q1b w' w.heap.size 159 4 Q3f x qs /\ Q0r w' qs /\ qs.map (·.1)=(ps.map (·.1)).map (X9k s t wt key) /\ Ext w w':=by
 obtain ⟨i0,hi,fq,mq,iq⟩:=info_parts Y9w;have O4:=hid Kx;have E9:=hid Ow;have HD:Hid (∀ (W:World) (x:Plan) A n c,Ext w W -> Z8u x -> Q0n W 0 9 .string (.slice A n c) x.closed -> Calls prog 201 #[.agg #[.int .i64 x.weight,.int .i64 x.closings,.int .i64 x.delay,.slice A n c],.pointer (some ⟨gS,0,none⟩),.pointer (some ⟨gT,0,none⟩),.pointer (some ⟨gN,0,none⟩),.pointer (some ⟨gK,0,none⟩)] W fun e w' =>
     ∃ A' n' c',e=.returned (.agg #[.int .i64 (X9k s t wt key x).weight,.int .i64 (X9k s t wt key x).closings,.int .i64 (X9k s t wt key x).delay,.slice A' n' c']) /\ Q0n w' 0 9 .string (.slice A' n' c') (X9k s t wt key x).closed /\ Ext W w'):=hid (fun W x A n c hW hx ho =>
  Z2u W x A n c gS gT gN gK av bv s t wt key ho hx (hS.ext hW) (by obtain ⟨_,_,he,h2⟩:=zv; exact ⟨_,_,he,h2.ext hW⟩) (hW.cell hT) (hW.cell hN) (hW.cell hK) ht hw hd)
 obtain ⟨A,cv,Aj,xj⟩:=Q8m hv;subst Aj;obtain ⟨L,hL⟩:∃ L,ps.length=L:=⟨_,rfl⟩;have HL:=hid hL;rw [hL] at hl ⊢;obtain ⟨f,hf⟩:∃ f,X9k s t wt key=f:=⟨_,rfl⟩;rw [hf] at HD ⊢;clear hv Kx Ow hL hS zv hT hN hK ht hw hd hf;go_enter func200,ntmps200;go_wp2
 go_loopw [5,10] (fun o i wr=>∃ (k:Nat) (qs:List PV),k <= L /\ i=.int .i64 k /\ qs.length=k /\ Q1b wr w.heap.size 159 4 Q3f o qs /\ Q0r wr qs /\ qs.map (·.1)=((ps.map (·.1)).take k).map f /\ Ext w wr) (fun _ i _=>L - (intOf i).toNat)
 case atStart=>exact ⟨0,[],Nat.zero_le _,rfl,rfl,Q1b.nil _ _ _ _ _,Q0r.nil _,rfl,Ext.refl _⟩
 case round =>
  obtain ⟨k,qs,hk,rfl,rz,Yq,Kx,Fz,hx⟩:=hrel;have Ty:=hid Fz;have HX:=hid hx;have lq:=hid Yq;have Uw:=hid Kx;have V6:=hid rz
  by_cases Tq:k < L
  . have Oj:k < ps.length:=by rw [HL.out]; exact Tq
    have Lj:(k:Int) < L:=by omega
    obtain ⟨gb,rfl,Xq⟩:=xj.out k Oj;have e0:=hx.cell (Xq 0 (by omega))
    have e1:=hx.cell (Xq 1 (by omega))
    have e2:=hx.cell (Xq 2 (by omega))
    have e3:=hx.cell (Xq 3 (by omega))
    obtain ⟨A4,n4,c4,qx⟩:=O4.out.shape (List.getElem_mem Oj);have Wx:(ps.map (·.1))[k]?=some ps[k].1:=by rw [List.getElem?_map,List.getElem?_eq_getElem Oj]; rfl
    have hcl:=O4.out ps[k] (List.getElem_mem Oj);have Ow:=E9.out ps[k] (List.getElem_mem Oj);obtain ⟨qk,Jx⟩:∃ z,ps[k]=z:=⟨_,rfl⟩;rw [Jx] at e0 e1 e2 e3 qx hcl Wx Ow;obtain ⟨x,xv⟩:=qk;replace qx:xv=.slice A4 n4 c4:=qx;subst qx;have qq:Hid (((ps.map (·.1)).take (k + 1)).map f=((ps.map (·.1)).take k).map f ++ [f x]):=hid (by
     obtain ⟨hk',he⟩:=List.getElem?_eq_some_iff.1 Wx;rw [List.take_succ_eq_append_getElem hk',List.map_append,he]; rfl)
    rw [Nat.add_zero] at e0;have Yz:=hid hcl;have C8:Hid (Z8u x):=hid Ow;have Ek:=hid (fun (W:World) (hW:Ext wr W)=>HD.out W x A4 n4 c4 (HX.out.trans hW) C8.out (Yz.out.below (HX.out.trans hW)));obtain ⟨x1,Yj⟩:∃ z,x.weight=z:=⟨_,rfl⟩;obtain ⟨x2,Mq⟩:∃ z,x.closings=z:=⟨_,rfl⟩;obtain ⟨x3,Dj⟩:∃ z,x.delay=z:=⟨_,rfl⟩;rw [Yj,Mq,Dj] at Ek;obtain ⟨y,hy⟩:∃ z,f x=z:=⟨_,rfl⟩;rw [hy] at Ek qq;obtain ⟨y1,uw⟩:∃ z,y.weight=z:=⟨_,rfl⟩;obtain ⟨y2,ky⟩:∃ z,y.closings=z:=⟨_,rfl⟩;obtain ⟨y3,G0⟩:∃ z,y.delay=z:=⟨_,rfl⟩;have ov:=hid (show y.weight=y1 /\ y.closings=y2 /\ y.delay=y3 from ⟨uw,ky,G0⟩)
    rw [uw,ky,G0] at Ek;replace e0:wr.cell? ⟨gb,k * 4,none⟩=some (.int .i64 x1):=by rw [<- Yj]; exact e0
    replace e1:wr.cell? ⟨gb,k * 4 + 1,none⟩=some (.int .i64 x2):=by rw [<- Mq]; exact e1
    replace e2:wr.cell? ⟨gb,k * 4 + 2,none⟩=some (.int .i64 x3):=by rw [<- Dj]; exact e2
    replace e3:wr.cell? ⟨gb,k * 4 + 3,none⟩=some (.slice A4 n4 c4):=e3;have yq:=Ext.box wr (.cells #[.int .i64 x1,.int .i64 x2,.int .i64 x3,.slice A4 n4 c4] 159);have K3:=Blk.made wr 159 #[.int .i64 x1,.int .i64 x2,.int .i64 x3,.slice A4 n4 c4];have d0:=(K3).cell 0;have d1:=(K3).cell 1;have d2:=(K3).cell 2;have d3:=(K3).cell 3;simp only [Go.Tw.gA,Go.Tw.gB,Go.Tw.gC] at d0 d1 d2 d3;have zj:=hid yq;have iw:Hid (∀ (W:World) gn V,Blk W gn 159 #[.int .i64 y1,.int .i64 y2,.int .i64 y3,V] -> ∀ j u,(Q3f (y,V))[j]?=some u -> W.cell? ((⟨gn,0,none⟩:Addr).add j)=some u):=hid (fun W gn V hb=>by unfold Q3f; dsimp only; rw [ov.out.1,ov.out.2.1,ov.out.2.2]; exact Q6i hb)
    have bj:Hid (∀ A n c,∀ u ∈ Q3f (y,.slice A n c),u.oneCell'=true):=hid (fun A n c=>by unfold Q3f; simp [Value.oneCell'])
    have ey:Hid (qs.length + 1 <= 100000):=hid (by omega)
    have Dv:=hid HX.out.size;obtain ⟨Ao,co,Ay,-⟩:=Yq.shape;subst Ay;clear Xq Jx Yj Mq Dj hy uw ky G0 yq K3 Yq Kx Fz hx hcl Ow Wx Oj rz
    go_light
    go_wp2_with (first | (refine (Ek.out _ zj.out).mono ?_; rintro e w5 ⟨A',n',c',rfl,hu,Cq⟩; have HU:=hid hu; have vq:=hid (zj.out.trans Cq); clear hu Cq) | (refine Q1r (o:=⟨some 19,_,_,_,_,_⟩) rfl ?_; refine Q2z (.tmp 14) (.tmp 18) 160 rfl w.heap.size 159 i0 (.agg #[.int .i64 0,.int .i64 0,.int .i64 0,.slice none 0 0]) 4 48 underlying160 hi fq mq iq rfl (by decide) Q3f Q4t _ qs (y,.slice A' n' c') rfl (lq.out.below (vq.out.trans (Ext.box _ _))) ⟨w5.heap.size,0,none⟩ 1 rfl (iw.out _ _ _ (Blk.made _ _ _)) (bj.out _ _ _) ey.out (by decide) (by have h1:=(vq.out.trans (Ext.box w5 (.cells #[.int .i64 y1,.int .i64 y2,.int .i64 y3,.slice A' n' c'] 159))).size; have h2:=Dv.out; omega) ?_; intro v' w9 Oq Pq))
    have Zq:=vq.out.trans (Ext.box w5 (.cells #[.int .i64 y1,.int .i64 y2,.int .i64 y3,.slice A' n' c'] 159));have Sy:=lq.out.below Zq;have K5:=hid Oq;have ij:Hid (Ext w w9):=hid (Below.grown (HX.out.trans Zq) Pq (by have:=Zq.size; have:=Dv.out; omega) (fun b hb=>(OwnP.X0z Sy b hb).1))
    have fy:Hid (Q0r w9 (qs ++ [((y,Value.slice A' n' c'):PV)])):=hid (Q0r.grown (fun z hz=>by
     rcases List.mem_append.1 hz with hz | hz
     . exact Uw.out.ext Zq z hz
     . obtain rfl:=List.mem_singleton.1 hz
       exact HU.out.below (Ext.box w5 (.cells #[.int .i64 y1,.int .i64 y2,.int .i64 y3,.slice A' n' c'] 159))) Sy Pq)
    have rb:Hid ((qs ++ [((y,Value.slice A' n' c'):PV)]).map (·.1)=((ps.map (·.1)).take (k + 1)).map f):=hid (by rw [qq.out,<- Ty.out,List.map_append]; rfl)
    have d9:Hid ((qs ++ [((y,Value.slice A' n' c'):PV)]).length=k + 1):=hid (by rw [List.length_append,V6.out]; rfl)
    clear Zq Sy Oq Pq;go_wp2;go_roundw
    case rel=>exact ⟨k + 1,qs ++ [((y,Value.slice A' n' c'):PV)],by omega,by go_num,d9.out,K5.out,fy.out,rb.out,ij.out⟩
    case measure=>simp [intOf]; omega
  . have Cj:k=L:=by omega
    subst Cj;clear Yq Kx Fz hx rz;go_wp2;go_ret;exact ⟨_,rfl,qs,lq.out,Uw.out,by have h:=Ty.out; rw [List.take_of_length_le (by rw [List.length_map,HL.out]; omega)] at h; simpa using h,HX.out⟩
end Go.Proofs
namespace Go.Tw
open Go.RowKit Go.Flow
def encR (r:Runner):List Value:=[.int .i64 (r.member:Int),.int .i64 r.level,.bool r.dry]
theorem Q9b (r:Runner):(encR r).length=3:=rfl
theorem Y6m (r:Runner):∀ u ∈ encR r,u.oneCell'=true:=by unfold encR; simp [Value.oneCell']
end Go.Tw
namespace Go.Proofs
open Go.RowKit Go.Tw Go.Flow Tryz
attribute [local go_sem] Oper.semAt_some
theorem Tryz.J8m (w:World):(isAgg 233).run prog w=.ok true w:=by kernel_rfl
theorem Tryz.Y4g (w:World):(sizeOf 233).run prog w=.ok 3 w:=by kernel_rfl
theorem Tryz.J2u:(prog.info? 233).map (fun i=>(i.zero,i.size,i.bytes))=some (some (.agg #[.int .i64 0,.int .i64 0,.bool false]),3,24):=by kernel_rfl
theorem J7w {w:World} {M:Option Addr} {s:Q0b} {k b off Rq Jq Bq:Nat} {X Y Z:Option Addr} (h:J4g w M s k b off Rq Jq Bq X Y Z) :
    Part w b (off + k * 5) #[.string (Q1t s.members k),.int .i64 (Q0o s.members k),.slice X (Q0c s.members k).length Rq,.slice Y (Q0z s.members k).length Jq,.slice Z (Q1g s.members k).length Bq]:=fun j hj=>by
 have:j=0 ∨ j=1 ∨ j=2 ∨ j=3 ∨ j=4:=by have:j < 5:=hj; omega
 rcases this with rfl | rfl | rfl | rfl | rfl
 . exact h.e0
 . exact h.e1
 . exact h.e2
 . exact h.e3
 . exact h.e4
theorem Y5z {a b:Int} {c:Bool}:∀ u ∈ (#[Value.int .i64 a,.int .i64 b,.bool c]:Array Value).toList,u.oneCell'=true:=by
 intro u hu;simp only [List.mem_cons,List.not_mem_nil,or_false] at hu
 rcases hu with rfl | rfl | rfl <;> rfl
theorem Z8r (w:World) (r:Runner) (gS gT gC:Nat) (av bv:Value) (s:Q0b) (t:Nat) (cl:Bool) (hS:Blk w gS 34 #[.int .i64 s.limit,av,bv]) (zv:Q0g w (.agg #[.int .i64 s.limit,av,bv]) s) (hT:w.cell? ⟨gT,0,none⟩=some (.int .i64 (t:Int))) (hC:w.cell? ⟨gC,0,none⟩=some (.bool cl))
    (hV:Q0w s) (ht:t < s.ships.length) (hk:r.member < s.members.length) (hl:0 <= r.level /\ r.level <= 100000) :
    Calls prog 231 #[.agg #[.int .i64 (r.member:Int),.int .i64 r.level,.bool r.dry],.pointer (some ⟨gS,0,none⟩),.pointer (some ⟨gT,0,none⟩),.pointer (some ⟨gC,0,none⟩)] w fun e w' =>
     e=.returned (.agg #[.int .i64 ((mv1 s t cl r).member:Int),.int .i64 (mv1 s t cl r).level,.bool (mv1 s t cl r).dry]) /\ Ext w w':=by
 have vy:=hid hS;have HT:=hid hT;have HC:=hid hC;obtain ⟨k,S8⟩:∃ z,r.member=z:=⟨_,rfl⟩;have B8:Hid ((mv1 s t cl r).member=k /\ (mv1 s t cl r).level=((Q2a s k).stepT t r.level cl).2 /\ (mv1 s t cl r).dry=(r.dry && decide (((Q2a s k).stepT t r.level cl).1 <= s.limit))):=hid (by rw [<- S8]; exact ⟨rfl,rfl,rfl⟩)
 rw [S8] at hk ⊢;rw [B8.out.1,B8.out.2.1,B8.out.2.2];obtain ⟨lv,Ry⟩:∃ z,r.level=z:=⟨_,rfl⟩;obtain ⟨dry,LV⟩:∃ z,r.dry=z:=⟨_,rfl⟩;rw [Ry] at hl ⊢;rw [LV];clear B8 S8 Ry LV;have KV:=zv;obtain ⟨_,_,he,h2⟩:=KV;injection he with he;injection he with he;simp only [List.cons.injEq,and_true,true_and] at he;obtain ⟨rfl,rfl⟩:=he;obtain ⟨A,Uq,rfl,-,-,-⟩:=h2.ships.opened;obtain ⟨M,Wq,rfl,-,-,-⟩:=h2.members.opened;obtain ⟨b,off,Rq,Jq,Bq,X,Y,Z,hm⟩:=Q3s h2.members hk;obtain rfl:=hm.addr;have Ej:=X5u hV hk (n:=s.ships.length) (Nat.le_refl _);have qq:=hid (fun (W:World) (hW:Ext w W)=>Y9t W _ (Q2a s k) t lv cl (hm.mem hW) (by have:=Ej.out; omega) (by have:=Ej.inf; omega) hl (Ej.bd t (by have:=Ej.inf; omega)))
 have qQ:=hid (J7w hm);obtain ⟨pk,Wx⟩:∃ z,((Q2a s k).stepT t lv cl).1=z:=⟨_,rfl⟩;obtain ⟨nl,Qw⟩:∃ z,((Q2a s k).stepT t lv cl).2=z:=⟨_,rfl⟩;rw [Wx,Qw] at qq ⊢;obtain ⟨nm,vj⟩:∃ x,Q1t s.members k=x:=⟨_,rfl⟩;obtain ⟨wt,Vj⟩:∃ x,Q0o s.members k=x:=⟨_,rfl⟩;obtain ⟨lc,mj⟩:∃ x,(Q0c s.members k).length=x:=⟨_,rfl⟩;obtain ⟨lo,Lx⟩:∃ x,(Q0z s.members k).length=x:=⟨_,rfl⟩;obtain ⟨li,yx⟩:∃ x,(Q1g s.members k).length=x:=⟨_,rfl⟩;rw [vj,Vj,mj,Lx,yx] at qq qQ;obtain ⟨lim,Uj⟩:∃ z,s.limit=z:=⟨_,rfl⟩;rw [Uj] at vy ⊢;have Lj:(k:Int) < s.members.length:=by omega
 clear hS zv hT hC hV ht hl h2 hm Ej Wx Qw vj Vj mj Lx yx Uj;go_enter func231,ntmps231;go_wp2_with fail;change Code.wp _ _ _ _ ((w.alloc (.cells #[.int .i64 (k:Int),.int .i64 lv,.bool dry] 233)).alloc (.cells #[.int .i64 0,.int .i64 0,.bool false] 233));obtain ⟨W,Nq,k0,k1,Sq,eW⟩:=Q3p w 233 #[.int .i64 (k:Int),.int .i64 lv,.bool dry] 233 #[.int .i64 0,.int .i64 0,.bool false];rw [Nq];clear Nq;have K0:=hid k0;have K1:=hid k1;obtain ⟨gp,Yk⟩:∃ z,w.heap.size=z:=⟨_,rfl⟩;have Ag:=hid Yk;rw [Yk] at K0 K1 eW ⊢;clear k0 k1 Yk;have Vq:=(Ext.refl W).drew;refine Flow.Q1h [.p,.w,.p,.w,.p,.w,.w,.p,.w,.w,.w,.p,.p,.p,.p,.p] [0,1,2,3,4,5,6,7,8,9,10,11,12,13,14,15] [[],[0],[],[2],[1,3],[4],[],[],[7],[],[5,6,8,9],[10],[11],[11],[0,1,2,3,4,5,6,7,8,9,10,11,12],[0,1,2,3,4,5,6,7,8,9,10,11,12,13,14]]
  [.c 0 (.pointer (some ⟨gS,2,none⟩)),.c 1 (.slice (some ⟨b,off,none⟩) s.members.length Wq),.c 2 (.pointer (some ⟨gp,0,none⟩)),.c 3 (.int .i64 (k:Int)),.c 4 (.pointer (some ⟨b,off + k * 5,none⟩)),.c 5 (.agg #[.string nm,.int .i64 wt,.slice X lc Rq,.slice Y lo Jq,.slice Z li Bq]),.c 6 (.int .i64 (t:Int)),.c 7 (.pointer (some ⟨gp,1,none⟩)),.c 8 (.int .i64 lv),.c 9 (.bool cl),.c 10 (.tuple #[.int .i64 pk,.int .i64 nl]),.c 11 (.tuple #[.int .i64 pk,.int .i64 nl]),.c 12 (.int .i64 pk),.c 13 (.int .i64 nl),.c 14 (.int .i64 pk),.c 15 (.int .i64 nl)]
  (by kernel_rfl) rfl (by kernel_rfl) ⟨?g0,?g1,?g2,?g3,?g4,?g5,?g6,?g7,?g8,?g9,?g10,?g11,?g12,?g13,?g14,?g15,trivial⟩ ?post
 case g0 | g2 | g7=>
  intro v w1 hx;intro bb hbb;subst hbb;refine ⟨_,fun w=>?_,rfl⟩;go_simp
 case g1 | g3 | g8=>
  intro v w1 hx;(repeat intro (zq:v _=_));intro bb hbb;subst hbb;have n0:w1.cell? ⟨gS,2,none⟩=some (.slice (some ⟨b,off,none⟩) s.members.length Wq):=(vy.out.ext (Sq.out.trans (Vq.trans hx))).cell 2;have n1:w1.cell? ⟨gp,0,none⟩=some (.int .i64 (k:Int)):=(K0.out.ext (Vq.trans hx)).cell 0;have n2:w1.cell? ⟨gp,1,none⟩=some (.int .i64 lv):=(K0.out.ext (Vq.trans hx)).cell 1;intro K hK;go_simp;exact hK _ _ (Ext.refl _) rfl
 case g4 | g11 | g12 | g13 | g14 | g15=>
  intro v w1 hx;(repeat intro (zq:v _=_));intro bb hbb;subst hbb;refine ⟨_,fun w=>?_,rfl⟩;go_simp
 case g5=>
  intro v w1 hx;(repeat intro (zq:v _=_));intro bb hbb;intro K hK;have o1:bb.eval (.tmp 13)=.pointer (some ⟨b,off + k * 5,none⟩):=by rw [hbb]; dsimp only; (try simp (discharger:=decide) only [eval_put_ne]); rw [Q0a (by simp only [size_put]; exact (by decide:13 < 34))]; assumption
  exact Q1m (.tmp 13) _ rfl Z8c Y3u o1 (qQ.out.ext (Sq.out.trans (Vq.trans hx))) rfl (hK _ _ (Ext.refl _) rfl)
 case g6 | g9=>
  intro v w1 hx;intro bb hbb;subst hbb;have n0:w1.cell? ⟨gT,0,none⟩=some (.int .i64 (t:Int)):=(Sq.out.trans (Vq.trans hx)).cell HT.out;have n1:w1.cell? ⟨gC,0,none⟩=some (.bool cl):=(Sq.out.trans (Vq.trans hx)).cell HC.out;intro K hK;go_simp;exact hK _ _ (Ext.refl _) rfl
 case g10=>
  intro v w1 hx;(repeat intro (zq:v _=_));intro bb hbb;subst hbb;intro K hK;go_simp;refine Q0d (qq.out w1 (Sq.out.trans (Vq.trans hx))) ?_;rintro e w2 ⟨rfl,Mq⟩;exact ⟨_,rfl,hK _ _ Mq rfl⟩
 case post =>
  intro v w1 hx;(iterate 14 intro (zq:v _=_));intro (q14:v 14=_) (q15:v 15=_);simp only [Flow.All,Flow.acts,Act.put];go_simp;have aj:=hid (Sq.out.trans (Vq.trans hx));have k0:=K0.out.ext (Vq.trans hx);have k1:=K1.out.ext (Vq.trans hx);have kS:=vy.out.ext aj.out;have c0:=(k0).cell 0;have c1:=(k0).cell 1;have c2:=(k0).cell 2;simp only [Go.Tw.gA,Go.Tw.gB,Go.Tw.gC] at c0 c1 c2;have s0:=kS.cell 0;simp only [Go.Tw.gA,Go.Tw.gB] at s0;have uz:Hid (w.heap.size <= gp):=hid (by have:=Ag.out; omega)
  clear hx Vq kS;(repeat clear zq);cases dry with
  | true =>
    by_cases AJ:pk <= lim
    . have fb:decide (pk <= lim)=true:=by simp [AJ]
      go_wp2_with (refine Q0v rfl _ _ _ rfl Y4g rfl rfl k1 rfl rfl Y5z ?_; intro w9 Fj Pj cj);refine bodyPost_ret (Q2h results231 rfl Fj J8m Y4g) rfl ?_;exact ⟨by first | rfl | simp [fb],Below.trans aj.out (Pj _ (by have:=uz.out; omega))⟩
    . have fb:decide (pk <= lim)=false:=by simp [AJ]
      go_wp2_with (refine Q0v rfl _ _ _ rfl Y4g rfl rfl k1 rfl rfl Y5z ?_; intro w9 Fj Pj cj);refine bodyPost_ret (Q2h results231 rfl Fj J8m Y4g) rfl ?_;exact ⟨by first | rfl | simp [fb],Below.trans aj.out (Pj _ (by have:=uz.out; omega))⟩
  | false =>
    go_wp2_with (refine Q0v rfl _ _ _ rfl Y4g rfl rfl k1 rfl rfl Y5z ?_; intro w9 Fj Pj cj);refine bodyPost_ret (Q2h results231 rfl Fj J8m Y4g) rfl ?_;exact ⟨rfl,Below.trans aj.out (Pj _ (by have:=uz.out; omega))⟩
end Go.Proofs
namespace Go.Tw
open Go.RowKit Go.Flow
def Lev (t:Nat) (l:List Runner):Prop:=∀ r ∈ l,0 <= r.level /\ r.level <= 1024 * (t:Int)
theorem Q1b.split {α:Type} {w:World} {B k:Nat} {e:TypeId} {enc:α -> List Value} {v:Value} {l:List α} (h:Q1b w B e k enc v l) :
    (v=.slice none 0 0 /\ l=[]) ∨ ∃ g Qq cur,v=.slice (some ⟨g,0,none⟩) l.length Qq /\ B <= g /\ Blk w g e cur /\ l.length <= Qq /\ Qq <= maxLen /\ cur.size=Qq * k /\ cur.toList.take (l.length * k)=l.flatMap enc:=by
 obtain ⟨h1,h2⟩:=h
 rcases h2 with ⟨rfl,h0⟩ | ⟨g,Qq,cur,rfl,Qx,hg,Kq,P2,pq,ht⟩
 . exact .inl ⟨rfl,List.length_eq_zero_iff.1 h0⟩
 . exact .inr ⟨g,Qq,cur,rfl,Qx,hg,Kq,P2,pq,ht⟩
theorem Q1b.X0z {α:Type} {w:World} {B k:Nat} {e:TypeId} {enc:α -> List Value} {v:Value} {l:List α} (h:Q1b w B e k enc v l):∀ b,v.ownBlock=some b -> B <= b /\ b < w.heap.size /\ ∃ cs,Blk w b e cs:=by
 intro b hb
 rcases h.split with ⟨rfl,_⟩ | ⟨g,Qq,cur,rfl,Qx,hg,_⟩
 . cases hb
 . cases hb; exact ⟨Qx,hg.lt,_,hg⟩
theorem Q1b.reads {α:Type} {w:World} {B k:Nat} {e:TypeId} {enc:α -> List Value} {v:Value} {l:List α} (hk:∀ x,(enc x).length=k) (h:Q1b w B e k enc v l):∃ A cv,v=.slice A l.length cv /\ Hid (∀ j (hj:j < l.length),∃ gb,A=some ⟨gb,0,none⟩ /\ ∀ i,i < k -> w.cell? ⟨gb,j * k + i,none⟩=(enc l[j])[i]?):=by
 rcases h.split with ⟨rfl,h0⟩ | ⟨gb,Qq,cur,rfl,_,hb,_,_,_,O2⟩
 . exact ⟨none,0,by rw [h0]; rfl,hid (fun j hj=>by rw [h0] at hj; simp at hj)⟩
 . refine ⟨_,Qq,rfl,hid (fun j hj=>⟨gb,rfl,fun i hi=>?_⟩)⟩
   have hm:(j + 1) * k <= l.length * k:=Nat.mul_le_mul_right _ hj;rw [Nat.succ_mul] at hm;rw [hb.cell,<- flat_get hk l j i hj hi,<- O2,List.getElem?_take,if_pos (by omega)]
   simp
end Go.Tw
namespace Go.Proofs
open Go.RowKit Go.Tw Go.Flow Tryz
attribute [local go_sem] Oper.semAt_some
theorem J1b {s:Q0b} (hV:Q0w s) {t:Nat} (ht:t < s.ships.length) {c:Bool} {l:List Runner} (hk:Known s l) (hl:Lev t l):Lev (t + 1) (l.map (mv1 s t c)):=by
 intro r hr;obtain ⟨q,hq,rfl⟩:=List.mem_map.1 hr;have Ej:=X5u hV (hk q hq) (n:=s.ships.length) (Nat.le_refl _);exact Z5m (hl q hq) (Ej.bd t (by have:=Ej.inf; omega))
theorem Y6z (w:World) (B:Nat) (v:Value) (ps:List Runner) (gS gT gC:Nat) (av bv:Value) (s:Q0b) (t:Nat) (cl:Bool) (hv:Q1b w B 233 3 encR v ps) (nj:Known s ps) (Ry:Lev t ps) (hl:ps.length <= 80000)
    (hS:Blk w gS 34 #[.int .i64 s.limit,av,bv]) (zv:Q0g w (.agg #[.int .i64 s.limit,av,bv]) s) (hT:w.cell? ⟨gT,0,none⟩=some (.int .i64 (t:Int))) (hC:w.cell? ⟨gC,0,none⟩=some (.bool cl))
    (hV:Q0w s) (ht:t < s.ships.length) :
    Calls prog 230 #[v,.func (.func 231) #[] #[.pointer (some ⟨gS,0,none⟩),.pointer (some ⟨gT,0,none⟩),.pointer (some ⟨gC,0,none⟩)]] w fun e w' =>
     ∃ x,e=.returned x /\ Q1b w' w.heap.size 233 3 encR x (moved s t cl ps) /\ Ext w w':=by
 obtain ⟨i0,hi,fq,mq,iq⟩:=info_parts J2u;have h6:=hV.tides;have HD:Hid (∀ (W:World) (x:Runner),Ext w W -> x ∈ ps -> Calls prog 231 #[.agg #[.int .i64 (x.member:Int),.int .i64 x.level,.bool x.dry],.pointer (some ⟨gS,0,none⟩),.pointer (some ⟨gT,0,none⟩),.pointer (some ⟨gC,0,none⟩)] W fun e w' =>
     e=.returned (.agg #[.int .i64 ((mv1 s t cl x).member:Int),.int .i64 (mv1 s t cl x).level,.bool (mv1 s t cl x).dry]) /\ Ext W w'):=hid (fun W x hW hx =>
  Z8r W x gS gT gC av bv s t cl (hS.ext hW) (by obtain ⟨_,_,he,h2⟩:=zv; exact ⟨_,_,he,h2.ext hW⟩) (hW.cell hT) (hW.cell hC) hV ht (nj x hx) (by have:=Ry x hx; omega))
 obtain ⟨A,cv,Aj,xj⟩:=hv.reads Q9b;subst Aj;obtain ⟨L,hL⟩:∃ L,ps.length=L:=⟨_,rfl⟩;have HL:=hid hL;rw [hL] at hl ⊢;have cz:Hid ((ps.take L).map (mv1 s t cl)=moved s t cl ps):=hid (by rw [Y6e,List.take_of_length_le (by omega)])
 obtain ⟨f,hf⟩:∃ f,mv1 s t cl=f:=⟨_,rfl⟩;rw [hf] at HD cz;obtain ⟨res,JV⟩:∃ z,moved s t cl ps=z:=⟨_,rfl⟩;rw [JV] at cz ⊢;clear hv nj Ry hL hS zv hT hC hV ht hf JV h6;go_enter func230,ntmps230;go_wp2
 go_loopw [5,10] (fun o i wr=>∃ (k:Nat),k <= L /\ i=.int .i64 k /\ Q1b wr w.heap.size 233 3 encR o ((ps.take k).map f) /\ Ext w wr) (fun _ i _=>L - (intOf i).toNat)
 case atStart=>exact ⟨0,Nat.zero_le _,rfl,Q1b.nil _ _ _ _ _,Ext.refl _⟩
 case round =>
  obtain ⟨k,hk,rfl,Yq,hx⟩:=hrel;have HX:=hid hx;have lq:=hid Yq
  by_cases Tq:k < L
  . have Oj:k < ps.length:=by rw [HL.out]; exact Tq
    have Lj:(k:Int) < L:=by omega
    obtain ⟨gb,rfl,Xq⟩:=xj.out k Oj;have e0:=hx.cell (Xq 0 (by omega))
    have e1:=hx.cell (Xq 1 (by omega))
    have e2:=hx.cell (Xq 2 (by omega))
    have UJ:=List.getElem_mem Oj;obtain ⟨x,Jx⟩:∃ z,ps[k]=z:=⟨_,rfl⟩;have qq:Hid ((ps.take (k + 1)).map f=(ps.take k).map f ++ [f x]):=hid (by
     rw [List.take_succ_eq_append_getElem Oj,List.map_append,Jx]; rfl)
    have ey:Hid (((ps.take k).map f).length + 1 <= 100000):=hid (by rw [List.length_map,List.length_take]; omega)
    rw [Jx] at e0 e1 e2 UJ;have Ek:=hid (fun (W:World) (hW:Ext wr W)=>HD.out W x (HX.out.trans hW) UJ);rw [Nat.add_zero] at e0;obtain ⟨x1,Yj⟩:∃ z,x.member=z:=⟨_,rfl⟩;obtain ⟨x2,Mq⟩:∃ z,x.level=z:=⟨_,rfl⟩;obtain ⟨x3,Dj⟩:∃ z,x.dry=z:=⟨_,rfl⟩;rw [Yj,Mq,Dj] at Ek;obtain ⟨y,hy⟩:∃ z,f x=z:=⟨_,rfl⟩;rw [hy] at Ek qq;obtain ⟨zs,Yy⟩:∃ z,(ps.take k).map f=z:=⟨_,rfl⟩;rw [Yy] at qq ey lq;obtain ⟨y1,uw⟩:∃ z,y.member=z:=⟨_,rfl⟩;obtain ⟨y2,ky⟩:∃ z,y.level=z:=⟨_,rfl⟩;obtain ⟨y3,G0⟩:∃ z,y.dry=z:=⟨_,rfl⟩;have ov:=hid (show y.member=y1 /\ y.level=y2 /\ y.dry=y3 from ⟨uw,ky,G0⟩)
    rw [uw,ky,G0] at Ek;replace e0:wr.cell? ⟨gb,k * 3,none⟩=some (.int .i64 (x1:Int)):=by rw [<- Yj]; exact e0
    replace e1:wr.cell? ⟨gb,k * 3 + 1,none⟩=some (.int .i64 x2):=by rw [<- Mq]; exact e1
    replace e2:wr.cell? ⟨gb,k * 3 + 2,none⟩=some (.bool x3):=by rw [<- Dj]; exact e2
    have yq:=Ext.box wr (.cells #[.int .i64 (x1:Int),.int .i64 x2,.bool x3] 233);have K3:=Blk.made wr 233 #[.int .i64 (x1:Int),.int .i64 x2,.bool x3];have d0:=(K3).cell 0;have d1:=(K3).cell 1;have d2:=(K3).cell 2;simp only [Go.Tw.gA,Go.Tw.gB,Go.Tw.gC] at d0 d1 d2;have zj:=hid yq;have iw:Hid (∀ (W:World) gn,Blk W gn 233 #[.int .i64 (y1:Int),.int .i64 y2,.bool y3] -> ∀ j u,(encR y)[j]?=some u -> W.cell? ((⟨gn,0,none⟩:Addr).add j)=some u):=hid (fun W gn hb=>by unfold encR; rw [ov.out.1,ov.out.2.1,ov.out.2.2]; exact Q6i hb)
    have Dv:=hid HX.out.size;obtain ⟨Ao,co,Ay,-⟩:=lq.out.shape;subst Ay;clear Xq Jx Yj Mq Dj hy uw ky G0 yq K3 Yq hx Oj UJ Yy
    go_light
    go_wp2_with (first | (refine (Ek.out _ zj.out).mono ?_; rintro e w5 ⟨rfl,Cq⟩; have vq:=hid (zj.out.trans Cq); clear Cq) | (refine Q1r (o:=⟨some 19,_,_,_,_,_⟩) rfl ?_; refine Q2z (.tmp 14) (.tmp 18) 231 rfl w.heap.size 233 i0 (.agg #[.int .i64 0,.int .i64 0,.bool false]) 3 24 underlying231 hi fq mq iq rfl (by decide) encR Q9b _ zs y rfl (lq.out.below (vq.out.trans (Ext.box _ _))) ⟨w5.heap.size,0,none⟩ 1 rfl (iw.out _ _ (Blk.made _ _ _)) (Y6m y) ey.out (by decide) (by have h1:=(vq.out.trans (Ext.box w5 (.cells #[.int .i64 (y1:Int),.int .i64 y2,.bool y3] 233))).size; have h2:=Dv.out; omega) ?_; intro v' w9 Oq Pq))
    have Zq:=vq.out.trans (Ext.box w5 (.cells #[.int .i64 (y1:Int),.int .i64 y2,.bool y3] 233));have Sy:=lq.out.below Zq;have K5:=hid Oq;have ij:Hid (Ext w w9):=hid (Below.grown (HX.out.trans Zq) Pq (by have:=Zq.size; have:=Dv.out; omega) (fun b hb=>(Sy.X0z b hb).1))
    clear Zq Sy Oq Pq;go_wp2;go_roundw
    case rel=>exact ⟨k + 1,by omega,by go_num,by rw [qq.out]; exact K5.out,ij.out⟩
    case measure=>simp [intOf]; omega
  . have Cj:k=L:=by omega
    subst Cj;rw [cz.out] at lq;clear Yq hx;go_wp2;go_ret;exact ⟨_,rfl,lq.out,HX.out⟩
theorem J2l (w:World) (B:Nat) (v u:Value) (ps:List Runner) (s:Q0b) (t:Nat) (cl:Bool) (hv:Q0g w v s) (hu:Q1b w B 233 3 encR u ps) (nj:Known s ps) (Ry:Lev t ps) (hl:ps.length <= 80000) (hV:Q0w s) (ht:t < s.ships.length) :
    Calls prog 198 #[v,.int .i64 (t:Int),u,.bool cl] w fun e w'=>∃ x,e=.returned x /\ Q1b w' w.heap.size 233 3 encR x (moved s t cl ps) /\ Ext w w':=by
 obtain ⟨a,b,rfl,h2⟩:=hv;obtain ⟨A,Uq,rfl,-,-,-⟩:=h2.ships.opened;obtain ⟨M,Wq,rfl,-,-,-⟩:=h2.members.opened;have HC:=hid (fun (W:World) (gS gT gC:Nat) (hW:Ext w W) (hS:Blk W gS 34 #[.int .i64 s.limit,.slice A s.ships.length Uq,.slice M s.members.length Wq]) hT hC=>Y6z W B u ps gS gT gC _ _ s t cl (hu.below hW) nj Ry hl hS ⟨_,_,rfl,h2.ext hW⟩ hT hC hV ht);obtain ⟨Au,cu,Aj,-⟩:=hu.shape;subst Aj;clear h2 hu nj Ry hV ht;go_enter func198,ntmps198;go_wp2_with fail;change Calls _ _ _ (((w.alloc (.cells #[.int .i64 s.limit,.slice A s.ships.length Uq,.slice M s.members.length Wq] 34)).alloc (.cells #[.int .i64 (t:Int)] 3)).alloc (.cells #[.bool cl] 4)) _;obtain ⟨W,Nq,k0,k1,k2,Sq,eW⟩:=Q9s w 34 #[.int .i64 s.limit,.slice A s.ships.length Uq,.slice M s.members.length Wq] 3 #[.int .i64 (t:Int)] 4 #[.bool cl];rw [Nq];clear Nq;have K0:=hid k0;have K1:=hid (k1.cell 0);have K2:=hid (k2.cell 0);have Dv:=hid Sq.out.size;clear k0 k1 k2;refine (HC.out _ _ _ _ Sq.out K0.out K1.out K2.out).mono ?_;rintro e w5 ⟨x,rfl,hu,Cq⟩;have HU:=hid hu;have vq:=hid Cq;clear hu Cq;go_wp2;go_ret;exact ⟨_,rfl,Q1b.weaken HU.out Dv.out,Sq.out.trans vq.out⟩
end Go.Proofs
namespace Go.Tw
open Go.RowKit
variable {s:Q0b}
def under (s:Q0b) (t:Nat) (l:List Runner) (h:List Int):Bool:=l.any fun r=>decide (t < h.length) && (h == hs s r.member h.length)
def X6g (s:Q0b) (t:Nat) (l:List Runner):Nat:=s.hist.countP (under s t l)
theorem Q5x {t:Nat} {l:List Runner} {h:List Int}:under s t l h=true ↔ ∃ r ∈ l,t < h.length /\ h=hs s r.member h.length:=by
 unfold under; simp
theorem Z1l {α:Type} {p q:α -> Bool}:∀ {l:List α},(∀ x ∈ l,¬ (p x=true /\ q x=true)) -> l.countP (fun x=>p x || q x)=l.countP p + l.countP q
 | [],_=>rfl
 | x :: l,h=>by
   have ih:=Z1l (p:=p) (q:=q) (l:=l) fun y hy=>h y (List.mem_cons_of_mem _ hy);have hx:=h x List.mem_cons_self;simp only [List.countP_cons,ih];cases hp:p x <;> cases hq:q x <;> simp_all <;> omega
theorem Z0l {α:Type} {p q:α -> Bool}:∀ {l:List α},(∀ x ∈ l,p x=true -> q x=true) -> (∃ x ∈ l,q x=true /\ p x=false) -> l.countP p + 1 <= l.countP q
 | [],_,⟨x,hx,_⟩=>by simp at hx
 | y :: l,h,⟨x,hx,hq,hp⟩=>by
   simp only [List.countP_cons];have lx:l.countP p <= l.countP q:=List.countP_mono_left fun z hz=>h z (List.mem_cons_of_mem _ hz)
   rcases List.mem_cons.1 hx with rfl | hx'
   . rw [if_pos hq,if_neg (by rw [hp]; simp)]; omega
   . have ih:=Z0l (fun z hz=>h z (List.mem_cons_of_mem _ hz)) ⟨x,hx',hq,hp⟩
     have h0:=h y List.mem_cons_self
     by_cases hy:p y=true
     . rw [if_pos hy,if_pos (h0 hy)]; omega
     . rw [if_neg hy]; split <;> omega
theorem Y1n (t u:Nat) (c:Bool) (l:List Runner):X6g s t (moved s u c l)=X6g s t l:=by
 unfold X6g
 congr 1
 funext h
 unfold under moved;rw [List.any_map]; rfl
theorem Z0f (t c:Nat) (l:List Runner):X6g s t (X5y s t (c + 1) l)=X6g s t (X5y s t c l) + X6g s t (Q8p s t c l):=by
 unfold X6g;rw [<- Z1l]
 . congr 1
   funext h
   rw [Bool.eq_iff_iff,Bool.or_eq_true,Q5x,Q5x,Q5x]
   constructor
   . rintro ⟨r,hr,h1,h2⟩
     have D1:=X0t.1 hr
     by_cases hc:ix (Q0c s.members r.member) t < (c:Int)
     . exact .inl ⟨r,X0t.2 ⟨D1.1,hc⟩,h1,h2⟩
     . exact .inr ⟨r,X9a.2 ⟨D1.1,by have:=D1.2; omega⟩,h1,h2⟩
   . rintro (⟨r,hr,h1,h2⟩ | ⟨r,hr,h1,h2⟩)
     . exact ⟨r,Y0a hr,h1,h2⟩
     . exact ⟨r,Z4h hr,h1,h2⟩
 . rintro h _ ⟨h1,h2⟩
   obtain ⟨r,hr,ht,e⟩:=Q5x.1 h1;obtain ⟨q,hq,_,e'⟩:=Q5x.1 h2;have D1:=X0t.1 hr;have F3:=X9a.1 hq;have a1:=J5s (s:=s) (i:=r.member) ht;have a2:=J5s (s:=s) (i:=q.member) ht;rw [<- e] at a1;rw [<- e'] at a2;have:=D1.2;have:=F3.2;omega
theorem Z7w (hf:Fine s) {t:Nat} {l:List Runner} (hl:Known s l) (hn:l ≠ []) (ht:t + 1 <= s.ships.length):X6g s (t + 1) l + 1 <= X6g s t l:=by
 refine Z0l (fun h _ hh=>?_) ?_
 . obtain ⟨r,hr,h1,h2⟩:=Q5x.1 hh
   exact Q5x.2 ⟨r,hr,by omega,h2⟩
 . obtain ⟨r,rest,rfl⟩:=List.exists_cons_of_ne_nil hn
   have hr:=hl r List.mem_cons_self;have lx:=Z9s hf hr ht;refine ⟨hs s r.member (t + 1),J0r hr (by omega) ht,Q5x.2 ⟨r,List.mem_cons_self,by omega,by rw [lx]⟩,?_⟩
   rw [Bool.eq_false_iff];intro hh;obtain ⟨_,_,h1,_⟩:=Q5x.1 hh;omega
theorem Y6w (out:List Plan) (x:Plan):(Q2o out x).length <= out.length + 1:=by
 unfold Q2o
 split
 . omega
 . rw [List.length_append,List.length_singleton]
   have:=List.length_filter_le (fun o=>!x.Q5h o) out;omega
theorem X4o:∀ (l out:List Plan),(l.foldl Q2o out).length <= out.length + l.length
 | [],out=>by simp
 | x :: l,out=>by
   rw [List.foldl_cons,List.length_cons];have h1:=X4o l (Q2o out x);have h2:=Y6w out x;omega
theorem Y9a (l:List Plan):(Y0i l).length <= l.length:=by
 have:=X4o l []
 simpa [Y0i] using this
theorem Z9u (a b:List Plan):(a.flatMap fun x=>b.map (both x)).length=a.length * b.length:=by
 induction a with
 | nil=>simp
 | cons x a ih=>rw [List.flatMap_cons,List.length_append,ih,List.length_map,List.length_cons,Nat.add_mul,Nat.one_mul,Nat.add_comm]
theorem Y7y (a b:List Plan):(together a b).length <= a.length * b.length:=by
 unfold together;exact Nat.le_trans (Y9a _) (Nat.le_of_eq (Z9u a b))
structure PBd (k:Nat) (W:Int) (H:Nat) (x:Plan):Prop where
 w:0 <= x.weight /\ x.weight <= W
 c:0 <= x.closings /\ x.closings <= k * W
 d:0 <= x.delay /\ x.delay <= 1000 * (k * W)
 l:x.closed.length <= H
theorem PBd.both {k:Nat} {W V:Int} {H G:Nat} {x y:Plan} (hx:PBd k W H x) (hy:PBd k V G y):PBd k (W + V) (H + G) (both x y):=by
 have e:(k:Int) * (W + V)=k * W + k * V:=Int.mul_add _ _ _;obtain ⟨a,b,c,d⟩:=hx;obtain ⟨a',b',c',d'⟩:=hy
 constructor
 . show 0 <= x.weight + y.weight /\ x.weight + y.weight <= W + V; omega
 . show 0 <= x.closings + y.closings /\ x.closings + y.closings <= k * (W + V); rw [e]; omega
 . show 0 <= x.delay + y.delay /\ x.delay + y.delay <= 1000 * (k * (W + V)); rw [e]; omega
 . show (x.closed ++ y.closed).length <= H + G; rw [List.length_append]; omega
theorem PBd.mono {k:Nat} {W:Int} {H G:Nat} {x:Plan} (h:PBd k W H x) (hg:H <= G):PBd k W G x:=⟨h.w,h.c,h.d,Nat.le_trans h.l hg⟩
theorem PBd.up {k:Nat} {W:Int} {H:Nat} {x:Plan} (h:PBd k W H x) (hW:0 <= W):PBd (k + 1) W H x:=by
 have e:((k + 1:Nat):Int) * W=k * W + W:=by rw [Int.natCast_add,Int.add_mul]; simp
 refine ⟨h.w,?_,?_,h.l⟩
 . rw [e]; have:=h.c; omega
 . rw [e]; have:=h.d; omega
theorem PBd.close {k t:Nat} {l:List Runner} {H:Nat} {x:Plan} (h:PBd k (Q6j s l) H x) (hW:0 <= Q6j s l) (hd:0 <= ix s.ships t /\ ix s.ships t <= 1000):PBd (k + 1) (Q6j s l) (H + 1) (Y3k s t l x):=by
 have e:((k + 1:Nat):Int) * Q6j s l=k * Q6j s l + Q6j s l:=by rw [Int.natCast_add,Int.add_mul]; simp
 have m1:0 <= Q6j s l * ix s.ships t:=Int.mul_nonneg hW hd.1;have m2:Q6j s l * ix s.ships t <= Q6j s l * 1000:=Int.mul_le_mul_of_nonneg_left hd.2 hW;refine ⟨h.w,?_,?_,?_⟩
 . show 0 <= x.closings + Q6j s l /\ x.closings + Q6j s l <= _; rw [e]; have:=h.c; omega
 . show 0 <= x.delay + Q6j s l * ix s.ships t /\ x.delay + Q6j s l * ix s.ships t <= _; rw [e]; have:=h.d; omega
 . show (x.closed ++ [Y9s s t l]).length <= H + 1; rw [List.length_append]; have:=h.l; simp; omega
theorem X5c (t:Nat) (c:Bool) (l:List Runner):Q6j s (moved s t c l)=Q6j s l:=by
 unfold Q6j moved;rw [List.map_map]; rfl
theorem Z0d (hv:Q0w s) {i:Nat} (hi:i < s.members.length):0 <= Q0o s.members i:=by have:=(hv.weights i hi).1; omega
theorem Z1v (hv:Q0w s) {l:List Runner} (hl:Known s l):0 <= Q6j s l:=by
 unfold Q6j
 induction l with
 | nil=>simp
 | cons x l ih =>
   rw [List.map_cons,List.sum_cons];have h1:=Z0d hv (hl x List.mem_cons_self);have h2:=ih fun r hr=>hl r (List.mem_cons_of_mem _ hr);omega
theorem J8x (hv:Q0w s) {l:List Runner} (hl:Known s l):0 <= Y6j s l /\ Y6j s l <= Q6j s l:=by
 unfold Q6j Y6j
 induction l with
 | nil=>simp
 | cons x l ih =>
   rw [List.map_cons,List.sum_cons,List.map_cons,List.sum_cons];have h1:=Z0d hv (hl x List.mem_cons_self);have h2:=ih fun r hr=>hl r (List.mem_cons_of_mem _ hr)
   split <;> omega
theorem Z9r {t c:Nat} {l:List Runner} (h:Known s l):Known s (X5y s t c l):=fun r hr=>h r (X0t.1 hr).1
theorem Z8i (t c:Nat) (l:List Runner):Q6j s (X5y s t (c + 1) l)=Q6j s (X5y s t c l) + Q6j s (Q8p s t c l):=Q9k t c (fun x=>Q0o s.members x.member) l
def J6r (s:Q0b) (k:Nat) (sub:List Runner -> List Plan):Prop:=∀ l,Known s l -> Q8l s (s.ships.length - k) l -> (sub l).length <= 2 ^ X6g s (s.ships.length - k) l /\ ∀ x ∈ sub l,PBd k (Q6j s l) (X6g s (s.ships.length - k) l) x
theorem X9y (hv:Q0w s) {k:Nat} (hk:k + 1 <= s.ships.length) {sub:List Runner -> List Plan} (ih:J6r s k sub) {l:List Runner} (hl:Known s l) (hn:l ≠ []) (sk:Q8l s (s.ships.length - k) l) :
    ((sub (moved s (s.ships.length - (k + 1)) false l)).length + (sub (moved s (s.ships.length - (k + 1)) true l)).length <= 2 ^ X6g s (s.ships.length - (k + 1)) l) /\
    (Q4x s (s.ships.length - (k + 1)) sub l).length <= 2 ^ X6g s (s.ships.length - (k + 1)) l /\ ∀ x ∈ Q4x s (s.ships.length - (k + 1)) sub l,PBd (k + 1) (Q6j s l) (X6g s (s.ships.length - (k + 1)) l) x:=by
 have e1:s.ships.length - (k + 1) + 1=s.ships.length - k:=by omega
 have hu:=Z7w hv.toFine hl hn (t:=s.ships.length - (k + 1)) (by omega)
 rw [e1] at hu;obtain ⟨a1,a2⟩:=ih (moved s (s.ships.length - (k + 1)) false l) (Q4a hl) (Q4n sk);obtain ⟨b1,b2⟩:=ih (moved s (s.ships.length - (k + 1)) true l) (Q4a hl) (Q4n sk);rw [Y1n] at a1 b1;have hp:2 ^ (X6g s (s.ships.length - k) l + 1) <= 2 ^ X6g s (s.ships.length - (k + 1)) l:=Nat.pow_le_pow_right (by omega) hu
 rw [Nat.pow_succ] at hp;have hW:=Z1v hv hl;refine ⟨by omega,?_,fun x hx=>?_⟩
 . unfold Q4x
   refine Nat.le_trans (Y9a _) ?_;rw [List.length_append,List.length_map];omega
 . unfold Q4x at hx
   rcases List.mem_append.1 (Y0k hx) with hx | hx
   . have:=a2 x hx
     rw [Y1n,X5c] at this;exact (this.up hW).mono (by omega)
   . obtain ⟨y,hy,rfl⟩:=List.mem_map.1 hx
     have:=b2 y hy;rw [Y1n,X5c] at this;have Tq:s.ships.length - (k + 1) < s.ships.length:=by omega
     exact (this.close hW (hv.delays _ (by rw [Q5i Tq]; exact List.getElem_mem Tq))).mono (by omega)
theorem Y5m (hv:Q0w s) {k:Nat} (hk:k + 1 <= s.ships.length) {sub:List Runner -> List Plan} (ih:J6r s k sub) {l:List Runner} (hl:Known s l)
    (sk:Q8l s (s.ships.length - (k + 1)) l):∀ c:Nat,(Q2y s (s.ships.length - (k + 1)) sub l c).length <= 2 ^ X6g s (s.ships.length - (k + 1)) (X5y s (s.ships.length - (k + 1)) c l) /\
     ∀ x ∈ Q2y s (s.ships.length - (k + 1)) sub l c,PBd (k + 1) (Q6j s (X5y s (s.ships.length - (k + 1)) c l)) (X6g s (s.ships.length - (k + 1)) (X5y s (s.ships.length - (k + 1)) c l)) x
 | 0=>by
   rw [Q2y,Y7a hv.toFine hl (by omega)]
   refine ⟨Nat.one_le_two_pow,fun x hx=>?_⟩;rw [List.mem_singleton] at hx;subst hx;refine ⟨⟨Int.le_refl _,?_⟩,⟨Int.le_refl _,?_⟩,⟨Int.le_refl _,?_⟩,Nat.zero_le _⟩ <;> simp [Q6j]
 | c + 1=>by
   have e1:s.ships.length - (k + 1) + 1=s.ships.length - k:=by omega
   obtain ⟨h1,h2⟩:=Y5m hv hk ih hl sk c;rw [Q2y,Z0f,Z8i]
   split
   . rename_i hn
     rw [hn];have hz:X6g s (s.ships.length - (k + 1)) []=0:=by
      unfold X6g;rw [List.countP_eq_zero];intro h _; simp [under]
     have hw:Q6j s []=0:=by simp [Q6j]
     rw [hz,hw,Nat.add_zero,Int.add_zero];exact ⟨h1,h2⟩
   . rename_i hn
     obtain ⟨_,g1,g2⟩:=X9y hv hk ih (Q8s hl) hn (e1 ▸ X0o hv.toFine hl (by omega) sk)
     refine ⟨?_,fun x hx=>?_⟩
     . refine Nat.le_trans (Y7y _ _) ?_
       rw [Nat.pow_add];exact Nat.mul_le_mul h1 g1
     . obtain ⟨y,hy,z,hz,rfl⟩:=X6m hx
       exact (h2 y hy).both (g2 z hz)
theorem Q8c (hv:Q0w s):∀ k,k <= s.ships.length -> J6r s k (Q2u s k)
 | 0,_=>fun l hl _=>by
   have h:=J8x hv hl;refine ⟨Nat.one_le_two_pow,fun x hx=>?_⟩;rw [Q2u,List.mem_singleton] at hx;subst hx;exact ⟨h,⟨Int.le_refl _,by simp⟩,⟨Int.le_refl _,by simp⟩,Nat.zero_le _⟩
 | k + 1,hk=>fun l hl sk=>by
   have:=Y5m hv hk (Q8c hv k (by omega)) hl sk 10
   rw [Z3m hv.toFine hl (by omega)] at this
   exact this
theorem Y1i (t:Nat) (l:List Runner):X6g s t l <= s.hist.length:=List.countP_le_length
end Go.Tw
