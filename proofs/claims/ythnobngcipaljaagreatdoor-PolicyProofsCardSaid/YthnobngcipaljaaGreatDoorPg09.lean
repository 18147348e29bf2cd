/- Part of a proof. -/
import Derived.Test.YthnobngcipaljaaGreatDoorPg08
set_option maxRecDepth 1000000
set_option maxHeartbeats 64000000
set_option linter.unusedVariables false
set_option linter.unusedSimpArgs false
set_option linter.constructorNameAsVariable false
open Go.Lib (hid)
namespace Go.Tw
open Go.RowKit Go.Flow
theorem fze09 {u:Type} {a b:u} (h:a=b:=by rw [hbb]; dsimp only; (try simp (discharger:=decide) only [Flow.eval_put_ne]); rfl):a=b:=h
theorem Y5u {k:Nat} {W:Int} {H:Nat} {x:Plan} (h:PBd k W H x) (hk:k <= 6) (hW:0 <= W /\ W <= 8000) (hH:H <= 9):Proofs.Z8u x:=by
 have h1:(k:Int) * W <= 6 * 8000:=Int.mul_le_mul (by omega) hW.2 hW.1 (by omega)
 obtain ⟨a,b,c,d⟩:=h;exact ⟨by omega,by omega,by omega,by omega⟩
theorem Y6u {s:Q0b} (hV:Q0w s):∀ {l:List Runner},Known s l -> 0 <= Q6j s l /\ Q6j s l <= 1000 * l.length
 | [],_=>by simp [Q6j]
 | r :: l,h=>by
   have h1:=hV.weights r.member (h r List.mem_cons_self);have h2:=Y6u hV fun q hq=>h q (List.mem_cons_of_mem _ hq);have e:Q6j s (r :: l)=Q0o s.members r.member + Q6j s l:=by unfold Q6j; rw [List.map_cons,List.sum_cons]
   rw [e,List.length_cons];omega
theorem J0y {s:Q0b} {l:List Runner} {j:Nat} {r:Runner} (h:l[j]?=some r):Q6j s (l.take (j + 1))=Q6j s (l.take j) + Q0o s.members r.member:=by
 obtain ⟨hk,rfl⟩:=List.getElem?_eq_some_iff.1 h;unfold Q6j;rw [List.take_succ_eq_append_getElem hk,List.map_append,List.sum_append];simp
end Go.Tw
namespace Go.Proofs
open Go.RowKit Go.Tw Go.Flow Tryz
attribute [local go_sem] Oper.semAt_some
def Y8c (s:Q0b) (k:Nat):Prop:=∀ (w:World) (B:Nat) (u v:Value) (l:List Runner),Q0g w u s -> Q1b w B 233 3 encR v l -> Known s l -> Lev (s.ships.length - k) l -> Q8l s (s.ships.length - k) l -> l.length <= 8 ->
 Calls prog 157 #[u,.int .i64 ((s.ships.length - k:Nat):Int),v] w fun e w'=>∃ x qs,e=.returned x /\ Q1b w' w.heap.size 159 4 Q3f x qs /\ Q0r w' qs /\ qs.map (·.1)=Q2u s k l /\ Ext w w'
theorem X3c {P:Program} {K:Value -> World -> Prop} {o:Oper} {a:Act} {w:World} {f:FuncId} {x y z:Operand} {ts:Array TypeId} {u v t:Value} {R:Ending -> World -> Prop} (ho:o.op=.call { callee:=.value (.func f),args:=#[x,y,z],argTypes:=ts })
    (he:Enters P f) (hx:a.eval x=u) (hy:a.eval y=v) (hz:a.eval z=t) (h:Calls P f #[u,v,t] w R) (hk:∀ e w',R e w' -> ∃ z,e=.returned z /\ K z w'):gives P K ((execOp a.eval o).run P w):=by
 unfold execOp;simp only [ho,resolve,invoke,Sem.run_bind,List.map_toArray,List.map_cons,List.map_nil,hx,hy,hz];go_simp;rw [he];exact Q0d h hk
theorem Y1y {P:Program} {K:Value -> World -> Prop} {o:Oper} {a:Act} {w:World} {f:FuncId} {x y z q:Operand} {ts:Array TypeId} {u v t r:Value} {R:Ending -> World -> Prop} (ho:o.op=.call { callee:=.value (.func f),args:=#[x,y,z,q],argTypes:=ts })
    (he:Enters P f) (hx:a.eval x=u) (hy:a.eval y=v) (hz:a.eval z=t) (hq:a.eval q=r) (h:Calls P f #[u,v,t,r] w R) (hk:∀ e w',R e w' -> ∃ z,e=.returned z /\ K z w'):gives P K ((execOp a.eval o).run P w):=by
 unfold execOp;simp only [ho,resolve,invoke,Sem.run_bind,List.map_toArray,List.map_cons,List.map_nil,hx,hy,hz,hq];go_simp;rw [he];exact Q0d h hk
theorem Tryz.J4o (w:World):(sizeOf 3).run prog w=.ok 1 w:=by kernel_rfl
theorem Tryz.J3r (w:World):(sizeOf 9).run prog w=.ok 1 w:=by kernel_rfl
theorem Z6f (w:World) (B:Nat) (u v:Value) (s:Q0b) (k:Nat) (l:List Runner) (ug:Y8c s k) (hu:Q0g w u s) (hv:Q1b w B 233 3 encR v l) (hV:Q0w s) (sx:k + 1 <= s.ships.length) (hF:s.hist.length <= 9)
    (nj:Known s l) (Ry:Lev (s.ships.length - (k + 1)) l) (Aj:Q8l s (s.ships.length - k) l) (hn:l ≠ []) (hl:l.length <= 8) :
    Calls prog 185 #[u,.int .i64 ((s.ships.length - (k + 1):Nat):Int),v] w fun e w'=>∃ x qs,e=.returned x /\ Q1b w' w.heap.size 159 4 Q3f x qs /\ Q0r w' qs /\ qs.map (·.1)=Q4x s (s.ships.length - (k + 1)) (Q2u s k) l /\ Ext w w':=by
 obtain ⟨aS,bS,rfl,h2⟩:=hu;obtain ⟨A,Uq,rfl,-,-,-⟩:=h2.ships.opened;obtain ⟨M,Wq,rfl,-,-,-⟩:=h2.members.opened;have h6:=hV.tides;have Pz:=X9y hV sx (Q8c hV k (by omega)) nj hn Aj
 obtain ⟨a1,a2⟩:=Q8c hV k (by omega) (moved s (s.ships.length - (k + 1)) false l) (Q4a nj) (Q4n Aj)
 obtain ⟨b1,b2⟩:=Q8c hV k (by omega) (moved s (s.ships.length - (k + 1)) true l) (Q4a nj) (Q4n Aj)
 have hW:=Y6u hV nj;have hp:2 ^ X6g s (s.ships.length - (k + 1)) l <= 2 ^ 9:=Nat.pow_le_pow_right (by omega) (Nat.le_trans (Y1i _ _) hF)
 rw [X5c] at a2 b2;have E9:Hid (∀ x ∈ Q2u s k (moved s (s.ships.length - (k + 1)) false l),Z8u x):=hid (fun x hx=>Y5u (a2 x hx) (by omega) (by omega) (Nat.le_trans (Y1i _ _) hF))
 have D9:Hid (∀ x ∈ Q2u s k (moved s (s.ships.length - (k + 1)) true l),Z8u x):=hid (fun x hx=>Y5u (b2 x hx) (by omega) (by omega) (Nat.le_trans (Y1i _ _) hF))
 have Y8:Hid ((Q2u s k (moved s (s.ships.length - (k + 1)) false l)).length + (Q2u s k (moved s (s.ships.length - (k + 1)) true l)).length <= 512):=hid (by have:=Pz.1; omega)
 have xn:Hid (0 <= Q6j s l /\ Q6j s l <= 8000):=hid (by omega)
 clear Pz a1 a2 b1 b2 hp hW;have eb:=hid ug;have e1:s.ships.length - k=s.ships.length - (k + 1) + 1:=by omega
 have Bw:Hid (∀ (W:World) (v:Value) (c:Bool),Ext w W -> Q1b W 0 233 3 encR v (moved s (s.ships.length - (k + 1)) c l) ->
     Calls prog 157 #[.agg #[.int .i64 s.limit,.slice A s.ships.length Uq,.slice M s.members.length Wq],.int .i64 (((s.ships.length - (k + 1):Nat):Int) + 1),v] W fun e w'=>∃ x qs,e=.returned x /\ Q1b w' W.heap.size 159 4 Q3f x qs /\ Q0r w' qs /\ qs.map (·.1)=Q2u s k (moved s (s.ships.length - (k + 1)) c l) /\ Ext W w') :=
  hid (fun W v c hW hv=>by
   have h:=ug W 0 _ v _ ⟨_,_,rfl,h2.ext hW⟩ hv (Q4a nj) (by rw [e1]; exact J1b hV (by omega) nj Ry) (Q4n Aj) (by rw [Y6e,List.length_map]; exact hl)
   rw [e1] at h;exact h)
 have B8:=hid (fun (W:World) (c:Bool) (hW:Ext w W)=>J2l W B _ v l s (s.ships.length - (k + 1)) c ⟨_,_,rfl,h2.ext hW⟩ (hv.below hW) nj Ry (by omega) hV (by omega))
 have Zc:=hV.delays (ix s.ships (s.ships.length - (k + 1))) (by rw [Q5i (by omega)]; exact List.getElem_mem _)
 have GV:Hid (Q4x s (s.ships.length - (k + 1)) (Q2u s k) l=Y0i (Q2u s k (moved s (s.ships.length - (k + 1)) false l) ++ (Q2u s k (moved s (s.ships.length - (k + 1)) true l)).map (X9k s (s.ships.length - (k + 1)) (Q6j s l) (Y9s s (s.ships.length - (k + 1)) l)))):=hid rfl;obtain ⟨r0,rest,fz⟩:=List.exists_cons_of_ne_nil hn;have vk:=nj r0 (by rw [fz]; exact List.mem_cons_self)
 have tX:0 < l.length:=by rw [fz]; simp
 have K7:l[0]?=some r0:=by rw [fz]; rfl
 have FV:Hid (Y9s s (s.ships.length - (k + 1)) l=Q7g ((Q0c s.members r0.member).take (s.ships.length - (k + 1) + 1))):=hid (by rw [fz]; rfl)
 have EV:=(hV.shaped r0.member vk).1;have ZZ:=hV.digits r0.member vk;have Bg:s.ships.length - (k + 1) < s.ships.length:=by omega
 obtain ⟨t,ht⟩:∃ z,s.ships.length - (k + 1)=z:=⟨_,rfl⟩;rw [ht] at E9 D9 Y8 Bw B8 GV FV Zc Bg ⊢;rw [GV.out];obtain ⟨P0,Sh⟩:∃ z,Q2u s k (moved s t false l)=z:=⟨_,rfl⟩;obtain ⟨P1,Rh⟩:∃ z,Q2u s k (moved s t true l)=z:=⟨_,rfl⟩;have Wc:=hid (fun (W:World) (v:Value) hW hv=>Bw.out W v false hW hv);have Vc:=hid (fun (W:World) (v:Value) hW hv=>Bw.out W v true hW hv);have nW:=hid (fun (W:World) hW=>B8.out W false hW);have E8:=hid (fun (W:World) hW=>B8.out W true hW);rw [Sh] at E9 Y8 Wc ⊢;rw [Rh] at D9 Y8 Vc ⊢;obtain ⟨M0,Qh⟩:∃ z,moved s t false l=z:=⟨_,rfl⟩;obtain ⟨M1,Ph⟩:∃ z,moved s t true l=z:=⟨_,rfl⟩;rw [Qh] at Wc nW;rw [Ph] at Vc E8;obtain ⟨key,DV⟩:∃ z,Y9s s t l=z:=⟨_,rfl⟩;rw [DV] at FV ⊢;have tJ:=hid h2;have lq:=hid hv;have dy:=hid nj;have uY:=hid Zc;have BQ:=hid EV;have O7:=hid ZZ;have HV:=hid hV;obtain ⟨Al,cl,CV,xj⟩:=hv.reads Q9b;subst CV;have un:IntKind.i64.wrap ((t:Int) + 1)=(t:Int) + 1:=Q3b _ (by omega) (by omega)
 clear Bw B8 GV ug hv hF Ry Aj hn Sh Rh Qh Ph DV h2 nj Zc EV ZZ hV eb e1 fz;go_enter func185,ntmps185;go_wp2_with fail;change Code.wp _ _ _ _ ((w.alloc (.cells #[.int .i64 s.limit,.slice A s.ships.length Uq,.slice M s.members.length Wq] 34)).alloc (.cells #[.int .i64 (t:Int)] 3));obtain ⟨W,Nq,k0,k1,Sq,eW⟩:=Q3p w 34 #[.int .i64 s.limit,.slice A s.ships.length Uq,.slice M s.members.length Wq] 3 #[.int .i64 (t:Int)];rw [Nq];clear Nq;have K0:=hid k0;have K1:=hid k1;obtain ⟨gs,bq⟩:∃ z,w.heap.size=z:=⟨_,rfl⟩;have Nz:=hid bq;rw [bq] at K0 K1 eW ⊢;have BV:=hid (enters_of (P:=prog) func198 (by kernel_rfl) rfl)
 have AV:=hid (enters_of (P:=prog) func157 (by kernel_rfl) rfl)
 have tn:=hid (enters_of (P:=prog) func102 (by kernel_rfl) rfl)
 clear k0 k1 bq;have Vq:=(Ext.refl W).drew;refine Flow.Q1h [.w,.w,.p,.w,.w,.p,.w,.w,.p] [0,1,2,3,4,5,6,7,8] [[],[],[1],[],[],[],[3,4,5],[0,2,6],[0,1,2,3,4,5,6,7]]
  [.c 0 (.agg #[.int .i64 s.limit,.slice A s.ships.length Uq,.slice M s.members.length Wq]),.c 1 (.int .i64 (t:Int)),.c 2 (.int .i64 ((t:Int) + 1)),.c 3 (.agg #[.int .i64 s.limit,.slice A s.ships.length Uq,.slice M s.members.length Wq]),.c 4 (.int .i64 (t:Int)),.c 5 (.slice Al l.length cl),⟨fun v wz=>(fun v w'=>Q1b w' 0 233 3 encR (v 6) M0) v wz,by intro v a b hx h; exact Q1b.below h hx⟩,⟨fun v wz=>(fun v w'=>∃ qs,Q1b w' 0 159 4 Q3f (v 7) qs /\ Q0r w' qs /\ qs.map (·.1)=P0) v wz,by rintro v a b hx ⟨qs,h1,h2,h3⟩; exact ⟨qs,Q1b.below h1 hx,h2.ext hx,h3⟩⟩,.is 8 (fun v=>v 7)]
  (by kernel_rfl) rfl (by kernel_rfl) ⟨?g0,?g1,?g2,?g3,?g4,?g5,?g6,?g7,?g8,trivial⟩ ?post
 case g0 | g3=>
  intro v w1 hx;intro bb hbb;intro K hK;have o1:bb.eval (.tmp 3)=.pointer (some ⟨gs,0,none⟩):=fze09
  exact Q0i (.tmp 3) _ rfl X8b Q9q o1 (K0.out.ext (Vq.trans hx)) rfl (hK _ _ (Ext.refl _) rfl)
 case g1 | g4=>
  intro v w1 hx;intro bb hbb;subst hbb;have n0:w1.cell? ⟨gs + 1,0,none⟩=some (.int .i64 (t:Int)):=(K1.out.ext (Vq.trans hx)).cell 0;intro K hK;go_simp;exact hK _ _ (Ext.refl _) rfl
 case g2=>
  intro v w1 hx;(repeat intro (zq:v _=_));intro bb hbb;subst hbb;refine ⟨_,fun w=>?_,rfl⟩;go_simp
 case g5=>
  intro v w1 hx;intro bb hbb;subst hbb;refine ⟨_,fun w=>?_,rfl⟩;go_simp
 case g6=>
  intro v w1 hx;(repeat intro (zq:v _=_));intro bb hbb;intro K hK;have o1:bb.eval (.tmp 16)=.agg #[.int .i64 s.limit,.slice A s.ships.length Uq,.slice M s.members.length Wq]:=by rw [hbb]; dsimp only; (try simp (discharger:=decide) only [eval_put_ne]); rw [Q0a (by simp only [size_put]; exact (by decide:16 < 65))]; assumption
  have o2:bb.eval (.tmp 17)=.int .i64 (t:Int):=by rw [hbb]; dsimp only; (try simp (discharger:=decide) only [eval_put_ne]); rw [Q0a (by simp only [size_put]; exact (by decide:17 < 65))]; assumption
  have o3:bb.eval (.tmp 18)=.slice Al l.length cl:=by rw [hbb]; dsimp only; (try simp (discharger:=decide) only [eval_put_ne]); rw [Q0a (by simp only [size_put]; exact (by decide:18 < 65))]; assumption
  refine Y1y rfl BV.out o1 o2 o3 rfl (nW.out w1 (Sq.out.trans (Vq.trans hx))) ?_;rintro e w2 ⟨z,rfl,h1,h2⟩;exact ⟨_,rfl,hK _ _ h2 (Q1b.weaken h1 (Nat.zero_le _))⟩
 case g7=>
  intro v w1 hx (q0:v 0=_) (q2:v 2=_) (q6:(fun v w'=>Q1b w' 0 233 3 encR (v 6) M0) v w1);intro bb hbb;intro K hK;have o1:bb.eval (.tmp 13)=.agg #[.int .i64 s.limit,.slice A s.ships.length Uq,.slice M s.members.length Wq]:=by rw [hbb]; dsimp only; (try simp (discharger:=decide) only [eval_put_ne]); rw [Q0a (by exact (by decide:13 < 65))]; exact q0
  have o2:bb.eval (.tmp 15)=.int .i64 ((t:Int) + 1):=by rw [hbb]; dsimp only; (try simp (discharger:=decide) only [eval_put_ne]); rw [Q0a (by simp only [size_put]; exact (by decide:15 < 65))]; exact q2
  have o3:bb.eval (.tmp 19)=v 6:=by rw [hbb]; dsimp only; (try simp (discharger:=decide) only [eval_put_ne]); rw [Q0a (by simp only [size_put]; exact (by decide:19 < 65))]
  refine X3c rfl AV.out o1 o2 o3 (Wc.out w1 _ (Sq.out.trans (Vq.trans hx)) q6) ?_;rintro e w2 ⟨z,qs,rfl,h1,h2,h3,h4⟩;exact ⟨_,rfl,hK _ _ h4 ⟨qs,Q1b.weaken h1 (Nat.zero_le _),h2,h3⟩⟩
 case g8=>
  intro v w1 hx (q0:v 0=_) (q1:v 1=_) (q2:v 2=_) (q3:v 3=_) (q4:v 4=_) (q5:v 5=_) _ _;intro bb hbb;subst hbb;refine ⟨_,fun w=>?_,rfl⟩;go_simp
 case post =>
  intro v w1 hx (q0:v 0=_) (q1:v 1=_) (q2:v 2=_) (q3:v 3=_) (q4:v 4=_) (q5:v 5=_) (q6:(fun v w'=>Q1b w' 0 233 3 encR (v 6) M0) v w1) (q7:(fun v w'=>∃ qs,Q1b w' 0 159 4 Q3f (v 7) qs /\ Q0r w' qs /\ qs.map (·.1)=P0) v w1) (q8:v 8=v 7);simp only [Flow.All,Flow.acts,Act.put];go_simp;obtain ⟨qa,vg,y7,Oh⟩:=q7;have Lq:=hid (Sq.out.trans (Vq.trans hx));have KA0:=hid (K0.out.ext (Vq.trans hx));have KA1:=hid (K1.out.ext (Vq.trans hx));have O6:=hid vg;have sJ:=hid y7;have Nh:=hid Oh;obtain ⟨wa,rfl⟩:∃ X,X=w1:=⟨_,rfl⟩;obtain ⟨va,P6⟩:∃ z,v 7=z:=⟨_,rfl⟩;rw [P6] at O6 ⊢;obtain ⟨vm,zV⟩:∃ z,v 6=z:=⟨_,rfl⟩
  try rw [zV]
  clear hx Vq vg y7 Oh P6 zV q0 q1 q2 q3 q4 q5 q6;go_wp2;have Vq:=(Ext.refl wa).drew;refine Flow.Q1h [.w,.w,.p,.w,.w,.p,.w,.w,.p] [0,1,2,3,4,5,6,7,8] [[],[],[1],[],[],[],[3,4,5],[0,2,6],[0,1,2,3,4,5,6,7]]
   [.c 0 (.agg #[.int .i64 s.limit,.slice A s.ships.length Uq,.slice M s.members.length Wq]),.c 1 (.int .i64 (t:Int)),.c 2 (.int .i64 ((t:Int) + 1)),.c 3 (.agg #[.int .i64 s.limit,.slice A s.ships.length Uq,.slice M s.members.length Wq]),.c 4 (.int .i64 (t:Int)),.c 5 (.slice Al l.length cl),⟨fun v wz=>(fun v w'=>Q1b w' 0 233 3 encR (v 6) M1) v wz,by intro v a b hx h; exact Q1b.below h hx⟩,⟨fun v wz=>(fun v w'=>∃ qs,Q1b w' 0 159 4 Q3f (v 7) qs /\ Q0r w' qs /\ qs.map (·.1)=P1) v wz,by rintro v a b hx ⟨qs,h1,h2,h3⟩; exact ⟨qs,Q1b.below h1 hx,h2.ext hx,h3⟩⟩,.is 8 (fun v=>v 7)]
   (by kernel_rfl) rfl (by kernel_rfl) ⟨?g0,?g1,?g2,?g3,?g4,?g5,?g6,?g7,?g8,trivial⟩ ?post
  case g0 | g3=>
   intro v w1 hx;intro bb hbb;intro K hK;have o1:bb.eval (.tmp 3)=.pointer (some ⟨gs,0,none⟩):=fze09
   exact Q0i (.tmp 3) _ rfl X8b Q9q o1 (KA0.out.ext (Vq.trans hx)) rfl (hK _ _ (Ext.refl _) rfl)
  case g1 | g4=>
   intro v w1 hx;intro bb hbb;subst hbb;have n0:w1.cell? ⟨gs + 1,0,none⟩=some (.int .i64 (t:Int)):=(KA1.out.ext (Vq.trans hx)).cell 0;intro K hK;go_simp;exact hK _ _ (Ext.refl _) rfl
  case g2=>
   intro v w1 hx;(repeat intro (zq:v _=_));intro bb hbb;subst hbb;refine ⟨_,fun w=>?_,rfl⟩;go_simp
  case g5=>
   intro v w1 hx;intro bb hbb;subst hbb;refine ⟨_,fun w=>?_,rfl⟩;go_simp
  case g6=>
   intro v w1 hx;(repeat intro (zq:v _=_));intro bb hbb;intro K hK;have o1:bb.eval (.tmp 24)=.agg #[.int .i64 s.limit,.slice A s.ships.length Uq,.slice M s.members.length Wq]:=by rw [hbb]; dsimp only; (try simp (discharger:=decide) only [eval_put_ne]); rw [Q0a (by simp only [size_put]; exact (by decide:24 < 65))]; assumption
   have o2:bb.eval (.tmp 25)=.int .i64 (t:Int):=by rw [hbb]; dsimp only; (try simp (discharger:=decide) only [eval_put_ne]); rw [Q0a (by simp only [size_put]; exact (by decide:25 < 65))]; assumption
   have o3:bb.eval (.tmp 26)=.slice Al l.length cl:=by rw [hbb]; dsimp only; (try simp (discharger:=decide) only [eval_put_ne]); rw [Q0a (by simp only [size_put]; exact (by decide:26 < 65))]; assumption
   refine Y1y rfl BV.out o1 o2 o3 rfl (E8.out w1 (Lq.out.trans (Vq.trans hx))) ?_;rintro e w2 ⟨z,rfl,h1,h2⟩;exact ⟨_,rfl,hK _ _ h2 (Q1b.weaken h1 (Nat.zero_le _))⟩
  case g7=>
   intro v w1 hx (q0:v 0=_) (q2:v 2=_) (q6:(fun v w'=>Q1b w' 0 233 3 encR (v 6) M1) v w1);intro bb hbb;intro K hK;have o1:bb.eval (.tmp 21)=.agg #[.int .i64 s.limit,.slice A s.ships.length Uq,.slice M s.members.length Wq]:=by rw [hbb]; dsimp only; (try simp (discharger:=decide) only [eval_put_ne]); rw [Q0a (by exact (by decide:21 < 65))]; exact q0
   have o2:bb.eval (.tmp 23)=.int .i64 ((t:Int) + 1):=by rw [hbb]; dsimp only; (try simp (discharger:=decide) only [eval_put_ne]); rw [Q0a (by simp only [size_put]; exact (by decide:23 < 65))]; exact q2
   have o3:bb.eval (.tmp 27)=v 6:=by rw [hbb]; dsimp only; (try simp (discharger:=decide) only [eval_put_ne]); rw [Q0a (by simp only [size_put]; exact (by decide:27 < 65))]
   refine X3c rfl AV.out o1 o2 o3 (Vc.out w1 _ (Lq.out.trans (Vq.trans hx)) q6) ?_;rintro e w2 ⟨z,qs,rfl,h1,h2,h3,h4⟩;exact ⟨_,rfl,hK _ _ h4 ⟨qs,Q1b.weaken h1 (Nat.zero_le _),h2,h3⟩⟩
  case g8=>
   intro v w1 hx (q0:v 0=_) (q1:v 1=_) (q2:v 2=_) (q3:v 3=_) (q4:v 4=_) (q5:v 5=_) _ _;intro bb hbb;subst hbb;refine ⟨_,fun w=>?_,rfl⟩;go_simp
  case post =>
   intro v w1 hx (q0:v 0=_) (q1:v 1=_) (q2:v 2=_) (q3:v 3=_) (q4:v 4=_) (q5:v 5=_) (q6:(fun v w'=>Q1b w' 0 233 3 encR (v 6) M1) v w1) (q7:(fun v w'=>∃ qs,Q1b w' 0 159 4 Q3f (v 7) qs /\ Q0r w' qs /\ qs.map (·.1)=P1) v w1) (q8:v 8=v 7);simp only [Flow.All,Flow.acts,Act.put];go_simp;obtain ⟨qb,Fk,ux,Jv⟩:=q7;have ly:=Vq.trans hx;have zj:=hid (Lq.out.trans ly);have Uc:=hid (Q1b.below O6.out ly);have Tc:=hid (sJ.out.ext ly);have KB0:=hid (KA0.out.ext ly);have KB1:=hid (KA1.out.ext ly);have Yw:=hid Fk;have E3:=hid ux;have S2:=hid Jv;obtain ⟨wb,rfl⟩:∃ X,X=w1:=⟨_,rfl⟩;obtain ⟨vb,Mh⟩:∃ z,v 7=z:=⟨_,rfl⟩;rw [Mh] at Yw ⊢;obtain ⟨vm2,zV⟩:∃ z,v 6=z:=⟨_,rfl⟩
   try rw [zV]
   clear hx Vq ly Fk ux Jv Mh zV q0 q1 q2 q3 q4 q5 q6 O6 sJ KA0 KA1;go_wp2;have kN:=Blk.made wb 3 #[.int .i64 0];have Sc:=Ext.box wb (.cells #[.int .i64 0] 3);obtain ⟨wn,uW⟩:∃ z,wb.alloc (.cells #[.int .i64 0] 3)=z:=⟨_,rfl⟩;rw [uW] at kN Sc ⊢;obtain ⟨gn,L7⟩:∃ z,wb.heap.size=z:=⟨_,rfl⟩;have ek:=hid L7;rw [L7] at kN ⊢;have KN:=hid kN;have Fb:=hid Sc;clear uW L7 kN Sc
   go_loopw [31] (fun i wr=>∃ (j:Nat),j <= l.length /\ i=.int .i64 j /\ Ext wb wr /\ Blk wr gn 3 #[.int .i64 (Q6j s (l.take j))]) (fun i _=>l.length - (intOf i).toNat)
   case atStart=>exact ⟨0,Nat.zero_le _,rfl,Fb.out,by simpa [Q6j] using KN.out⟩
   case round =>
    obtain ⟨j,hj,rfl,hx,A8⟩:=hrel;have HX:=hid hx;have N4:=hid A8
    by_cases Tq:j < l.length
    . obtain ⟨gl,rfl,Xq⟩:=xj.out j Tq
      have Gx:=zj.out.trans hx;have ew:=hid Gx;have e0:=Gx.cell (Xq 0 (by omega))
      have e1:=Gx.cell (Xq 1 (by omega))
      have e2:=Gx.cell (Xq 2 (by omega))
      have fk:=dy.out _ (List.getElem_mem Tq);have hsm:=J0y (s:=s) (List.getElem?_eq_getElem Tq);obtain ⟨r,hr⟩:∃ z,l[j]=z:=⟨_,rfl⟩;rw [hr] at e0 e1 e2 fk hsm;obtain ⟨i,qy⟩:∃ z,r.member=z:=⟨_,rfl⟩;obtain ⟨r2,zk⟩:∃ z,r.level=z:=⟨_,rfl⟩;obtain ⟨r3,t7⟩:∃ z,r.dry=z:=⟨_,rfl⟩;rw [qy] at fk hsm;replace e0:wr.cell? ⟨gl,j * 3,none⟩=some (.int .i64 (i:Int)):=by rw [<- qy]; exact e0
      replace e1:wr.cell? ⟨gl,j * 3 + 1,none⟩=some (.int .i64 r2):=by rw [<- zk]; exact e1
      replace e2:wr.cell? ⟨gl,j * 3 + 2,none⟩=some (.bool r3):=by rw [<- t7]; exact e2
      obtain ⟨bm,off,Rq,Jq,Bq,X,Y,Z,hm⟩:=Q3s tJ.out.members fk;obtain rfl:=hm.addr;have aq:=Gx.cell hm.e1;have yV:=HV.out.weights i fk;have J1:(i:Int) < s.members.length:=by omega
      have Q7:(j:Int) < l.length:=by omega
      have J6:=Y6u HV.out (l:=l.take j) (fun q hq=>dy.out q (List.mem_of_mem_take hq));have rJ:(l.take j).length <= 8:=by rw [List.length_take]; omega
      obtain ⟨wt,Vj⟩:∃ z,Q0o s.members i=z:=⟨_,rfl⟩;rw [Vj] at aq yV hsm;obtain ⟨sm,S3⟩:∃ z,Q6j s (l.take j)=z:=⟨_,rfl⟩;rw [S3] at N4 J6 hsm;have b9:IntKind.i64.wrap (sm + wt)=sm + wt:=Q3b _ (by omega) (by omega)
      have Ey:=hid hsm;have V0:=hid aq;have yq:=Ext.box wr (.cells #[.int .i64 (i:Int),.int .i64 r2,.bool r3] 233);have K3:=Blk.made wr 233 #[.int .i64 (i:Int),.int .i64 r2,.bool r3];have px:=hid yq;clear Xq hr qy zk t7 hm yV J6 rJ Vj S3 hsm aq yq Gx hx A8 fk
      go_light
      go_wp2;obtain ⟨wc,S1⟩:∃ z,wr.alloc (.cells #[.int .i64 (i:Int),.int .i64 r2,.bool r3] 233)=z:=⟨_,rfl⟩;rw [S1] at K3 px ⊢;obtain ⟨gr,Xy⟩:∃ z,wr.heap.size=z:=⟨_,rfl⟩;rw [Xy] at K3 ⊢;have KR:=hid K3;have Vq:=(Ext.refl wc).drew;clear S1 Xy K3 e0 e1 e2;refine Flow.Q4h [.w,.p,.w,.p,.w,.p,.p,.w,.p,.last] [0,1,2,3,4,5,6,7,8,9] [[],[],[1],[],[3],[1,2,3,4],[1,2,3,4,5],[1,2,3,4,5,6],[0,1,2,3,4,5,6,7],[0,1,2,3,4,5,6,7,8]] [9]
       [.c 0 (.int .i64 sm),.c 1 (.pointer (some ⟨gs,2,none⟩)),.c 2 (.slice (some ⟨bm,off,none⟩) s.members.length Wq),.c 3 (.pointer (some ⟨gr,0,none⟩)),.c 4 (.int .i64 (i:Int)),.c 5 (.pointer (some ⟨bm,off + i * 5,none⟩)),.c 6 (.pointer (some ⟨bm,off + i * 5 + 1,none⟩)),.c 7 (.int .i64 wt),.c 8 (.int .i64 (sm + wt)),.none]
       [fun v w1 w'=>Blk w' gn 3 #[.int .i64 (sm + wt)] /\ (∀ n,n <= gn -> Below n w1 w')] (by kernel_rfl) rfl (by kernel_rfl) ⟨?g0,?g1,?g2,?g3,?g4,?g5,?g6,?g7,?g8,?g9,trivial⟩ ?post
      case g0=>
       intro v w1 hx;intro bb hbb;subst hbb;have n0:w1.cell? ⟨gn,0,none⟩=some (.int .i64 sm):=(N4.out.ext (px.out.trans (Vq.trans hx))).cell 0;intro K hK;go_simp;exact hK _ _ (Ext.refl _) rfl
      case g1 | g3=>
       intro v w1 hx;intro bb hbb;subst hbb;refine ⟨_,fun w=>?_,rfl⟩;go_simp
      case g2 | g4 | g7=>
       intro v w1 hx;(repeat intro (zq:v _=_));intro bb hbb;subst hbb;have n0:w1.cell? ⟨gs,2,none⟩=some (.slice (some ⟨bm,off,none⟩) s.members.length Wq):=(KB0.out.ext (HX.out.trans (px.out.trans (Vq.trans hx)))).cell 2;have n1:w1.cell? ⟨gr,0,none⟩=some (.int .i64 (i:Int)):=(KR.out.ext (Vq.trans hx)).cell 0;have n2:w1.cell? ⟨bm,off + i * 5 + 1,none⟩=some (.int .i64 wt):=(px.out.trans (Vq.trans hx)).cell V0.out;intro K hK;go_simp;exact hK _ _ (Ext.refl _) rfl
      case g5 | g6 | g8=>
       intro v w1 hx;(repeat intro (zq:v _=_));intro bb hbb;subst hbb;refine ⟨_,fun w=>?_,rfl⟩;go_simp
      case g9=>
       intro v w1 hx;(repeat intro (zq:v _=_));intro wl hT;obtain rfl:wl=w1:=hT;intro bb hbb;intro K hK;have o1:bb.eval (.tmp 9)=.pointer (some ⟨gn,0,none⟩):=fze09
       have o2:bb.eval (.tmp 43)=.int .i64 (sm + wt):=by rw [hbb]; dsimp only; (try simp (discharger:=decide) only [eval_put_ne]); rw [Q0a (by simp only [size_put]; exact (by decide:43 < 65))]; assumption
       have jx:=N4.out.ext (px.out.trans (Vq.trans hx));exact Q3z (.tmp 9) (.tmp 43) rfl J4o o1 o2 rfl rfl jx Nat.zero_lt_one (fun vv=>hK _ _ ⟨jx.set 0 _,fun n hn=>(Below.refl n wl).setCell (p:=⟨gn,0,none⟩) hn _⟩)
      case post =>
       intro v w1 hx;(iterate 9 intro (zq:v _=_));intro w2 hE;replace hE:(fun v w1 w'=>Blk w' gn 3 #[.int .i64 (sm + wt)] /\ (∀ n,n <= gn -> Below n w1 w')) v w1 w2:=hE;simp only [Flow.acts,Act.put];go_simp;obtain ⟨Fj,Pj⟩:=hE;have ij:Hid (Ext wb w2):=hid (Below.trans (HX.out.trans (px.out.trans (Vq.trans hx))) (Pj _ (by rw [ek.out]; exact Nat.le_refl _)))
       have Cg:=hid Fj;clear hx Vq Fj Pj;(repeat clear zq);go_wp2;go_roundw
       case rel=>exact ⟨j + 1,by omega,by go_num,ij.out,by rw [Ey.out]; exact Cg.out⟩
       case measure=>simp [intOf]; omega
    . have N5:j=l.length:=by omega
      subst N5;rw [List.take_length] at N4;go_wp2;obtain ⟨gl,rfl,Xq⟩:=xj.out 0 tX;have Gx:=zj.out.trans hx;have e0:=Gx.cell (Xq 0 (by omega))
      have hr:l[0]=r0:=by
       have h:=List.getElem?_eq_getElem tX;rw [K7] at h;exact (Option.some.inj h).symm
      rw [hr] at e0;obtain ⟨i,qy⟩:∃ z,r0.member=z:=⟨_,rfl⟩;rw [qy] at FV vk;replace e0:wr.cell? ⟨gl,0,none⟩=some (.int .i64 (i:Int)):=by rw [<- qy]; exact e0
      have Fx:=hid e0;obtain ⟨bm,off,Rq,Jq,Bq,X,Y,Z,hm⟩:=Q3s tJ.out.members vk;obtain rfl:=hm.addr;have hcl:=BQ.out;have ZZ:=O7.out;rw [qy] at hcl ZZ;have Zx:=hm.x;have G6:t < (Q0c s.members i).length:=by omega
      obtain ⟨X',capx',R2,-,mj,S9⟩:=Zx.opened;injection R2 with R2 kK qJ;subst R2;subst qJ;obtain ⟨bc,oc,R2,-⟩:=S9 t G6;subst R2;have V0:=hid (Gx.cell hm.e2);have Sw:Hid (Q0e w (.slice (some ⟨bc,oc,none⟩) (t + 1) Rq) ((Q0c s.members i).take (t + 1))):=hid (X0p Zx (by omega))
      have Gk:Hid (((Q0c s.members i).take (t + 1)).length <= 4096):=hid (by rw [List.length_take]; omega)
      have sZ:=hid (Q6e ZZ (t + 1));have J1:(i:Int) < s.members.length:=by omega
      have sn:(0:Int) < l.length:=by omega
      have V9:t + 1 <= Rq:=by omega
      have l7:(t:Int) + 1 <= (Rq:Int):=by omega
      have Y5:¬ ((0:Int) <= (t:Int) + 1 -> (Rq:Int) < (t:Int) + 1):=by omega
      have V5:¬ Rq=0:=by omega
      have U5:¬ (t:Int) + 1 < 0:=by omega
      have T5:((t:Int) + 1).toNat=t + 1:=by omega
      obtain ⟨lp,R9⟩:∃ x,(Q0c s.members i).take (t + 1)=x:=⟨_,rfl⟩;rw [R9] at Sw Gk sZ FV;obtain ⟨lc,F6⟩:∃ x,(Q0c s.members i).length=x:=⟨_,rfl⟩;rw [F6] at V0;have ew:=hid Gx;have Vq:=(Ext.refl wr).drew;clear Xq Gx hm Zx hr qy hcl ZZ mj S9 R9 F6 G6 e0 hx A8 K7;refine Flow.Q4h [.p,.w,.p,.p,.p,.w,.p,.p,.w,.w,.p,.p,.w,.w,.last] [0,1,2,3,4,5,6,7,8,9,10,11,12,13,14] [[],[0],[],[2],[2,3],[2,3,4],[0,1,2,3,4,5],[0,1,2,3,4,5,6],[0,1,2,3,4,5,6,7],[],[9],[0,1,2,3,4,5,6,7,8,9,10],[0,1,2,3,4,5,6,7,8,9,10,11],[],[0,1,2,3,4,5,6,7,8,9,10,11,12,13]] [14]
       [.c 0 (.pointer (some ⟨gs,2,none⟩)),.c 1 (.slice (some ⟨bm,off,none⟩) s.members.length Wq),.c 2 (.slice (some ⟨gl,0,none⟩) l.length cl),.c 3 (.pointer (some ⟨gl,0,none⟩)),.c 4 (.pointer (some ⟨gl,0,none⟩)),.c 5 (.int .i64 (i:Int)),.c 6 (.pointer (some ⟨bm,off + i * 5,none⟩)),.c 7 (.pointer (some ⟨bm,off + i * 5 + 2,none⟩)),.c 8 (.slice (some ⟨bc,oc,none⟩) lc Rq),.c 9 (.int .i64 (t:Int)),.c 10 (.int .i64 ((t:Int) + 1)),.c 11 (.slice (some ⟨bc,oc,none⟩) (t + 1) Rq),.c 12 (.string (Q7g lp)),⟨fun v wz=>(fun v w'=>∃ g z,v 13=.pointer (some ⟨g,0,none⟩) /\ Blk w' g 9 #[z] /\ wr.heap.size <= g) v wz,by rintro v a b hx ⟨g,z,h1,h2,h3⟩; exact ⟨g,z,h1,h2.ext hx,h3⟩⟩,.none]
       [fun v w1 w'=>∃ g,v 13=.pointer (some ⟨g,0,none⟩) /\ Blk w' g 9 #[.string (Q7g lp)] /\ (∀ n,n <= g -> Below n w1 w') /\ wr.heap.size <= g] (by kernel_rfl) rfl (by kernel_rfl) ⟨?g0,?g1,?g2,?g3,?g4,?g5,?g6,?g7,?g8,?g9,?g10,?g11,?g12,?g13,?g14,trivial⟩ ?post
      case g0 | g2=>
       intro v w1 hx;intro bb hbb;subst hbb;refine ⟨_,fun w=>?_,rfl⟩;go_simp
      case g1 | g5 | g8=>
       intro v w1 hx;(repeat intro (zq:v _=_));intro bb hbb;subst hbb;have n0:w1.cell? ⟨gs,2,none⟩=some (.slice (some ⟨bm,off,none⟩) s.members.length Wq):=(KB0.out.ext (HX.out.trans (Vq.trans hx))).cell 2;have n1:w1.cell? ⟨gl,0,none⟩=some (.int .i64 (i:Int)):=(Vq.trans hx).cell Fx.out;have n2:w1.cell? ⟨bm,off + i * 5 + 2,none⟩=some (.slice (some ⟨bc,oc,none⟩) lc Rq):=(Vq.trans hx).cell V0.out;intro K hK;go_simp;exact hK _ _ (Ext.refl _) rfl
      case g3 | g4 | g6 | g7 | g10 | g11=>
       intro v w1 hx;(repeat intro (zq:v _=_));intro bb hbb;subst hbb;refine ⟨_,fun w=>?_,rfl⟩;go_simp
      case g9=>
       intro v w1 hx;intro bb hbb;subst hbb;have n0:w1.cell? ⟨gs + 1,0,none⟩=some (.int .i64 (t:Int)):=(KB1.out.ext (HX.out.trans (Vq.trans hx))).cell 0;intro K hK;go_simp;exact hK _ _ (Ext.refl _) rfl
      case g12=>
       intro v w1 hx;(repeat intro (zq:v _=_));intro bb hbb;subst hbb;intro K hK;go_simp;refine Q0d (Y5r w1 _ lp (Sw.out.ext (ew.out.trans (Vq.trans hx))) Gk.out sZ.out) ?_;rintro e w2 ⟨rfl,Mq⟩;exact ⟨_,rfl,hK _ _ Mq rfl⟩
      case g13=>
       intro v w1 hx;intro bb hbb;subst hbb;intro K hK;go_simp;exact hK _ _ (Ext.box _ _) ⟨_,_,rfl,Blk.made _ _ _,(Vq.trans hx).size⟩
      case g14=>
       intro v w1 hx (q0:v 0=_) (q1:v 1=_) (q2:v 2=_) (q3:v 3=_) (q4:v 4=_) (q5:v 5=_) (q6:v 6=_) (q7:v 7=_) (q8:v 8=_) (q9:v 9=_) (q10:v 10=_) (q11:v 11=_) (q12:v 12=_) (q13:(fun v w'=>∃ g z,v 13=.pointer (some ⟨g,0,none⟩) /\ Blk w' g 9 #[z] /\ wr.heap.size <= g) v w1);intro wl hT;obtain rfl:wl=w1:=hT;intro bb hbb;intro K hK;obtain ⟨g,z,e13,G7,OJ⟩:=q13;have o1:bb.eval (.tmp 12)=.pointer (some ⟨g,0,none⟩):=by rw [hbb]; dsimp only; (try simp (discharger:=decide) only [eval_put_ne]); rw [Q0a (by simp only [size_put]; exact (by decide:12 < 65))]; exact e13
       have o2:bb.eval (.tmp 57)=.string (Q7g lp):=by rw [hbb]; dsimp only; (try simp (discharger:=decide) only [eval_put_ne]); rw [Q0a (by simp only [size_put]; exact (by decide:57 < 65))]; exact q12
       exact Q3z (.tmp 12) (.tmp 57) rfl J3r o1 o2 rfl rfl G7 Nat.zero_lt_one (fun vv=>hK _ _ ⟨g,e13,G7.set 0 _,fun n hn=>(Below.refl n wl).setCell (p:=⟨g,0,none⟩) hn _,OJ⟩)
      case post =>
       intro v w1 hx;(iterate 13 intro (zq:v _=_));intro (q13:(fun v w'=>∃ g z,v 13=.pointer (some ⟨g,0,none⟩) /\ Blk w' g 9 #[z] /\ wr.heap.size <= g) v w1);intro w2 hE;replace hE:(fun v w1 w'=>∃ g,v 13=.pointer (some ⟨g,0,none⟩) /\ Blk w' g 9 #[.string (Q7g lp)] /\ (∀ n,n <= g -> Below n w1 w') /\ wr.heap.size <= g) v w1 w2:=hE;simp only [Flow.acts,Act.put];go_simp;obtain ⟨gk,e13,qj,Pj,pq⟩:=hE;have Sk:Ext wr w2:=Below.trans (Vq.trans hx) (Pj _ pq);have Gx:=ew.out.trans Sk;have hxb:=HX.out.trans Sk;have sX:=Q1b.below Uc.out hxb;obtain ⟨Aa,ca,rn,-⟩:=sX.shape;subst rn;have Rc:=Q1b.below Yw.out hxb;have U8:=hid sX;have O4:=hid (Tc.out.ext hxb);have Ov:qa.length + qb.length <= 512:=by
        have h1:=Y8.out;rw [<- Nh.out,<- S2.out,List.length_map,List.length_map] at h1;exact h1
       have dW:=hid Ov;have Qc:=hid (Y6b w2 0 vb qb gs (gs + 1) gn gk _ _ s t (Q6j s l) key Rc (E3.out.ext hxb) (fun q hq=>D9.out _ (by rw [<- S2.out]; exact List.mem_map_of_mem hq)) (by omega) (KB0.out.ext hxb) ⟨_,_,rfl,tJ.out.ext Gx⟩ ((KB1.out.ext hxb).cell 0) ((N4.out.ext Sk).cell 0)
        (by rw [FV.out]; exact qj.cell 0) Bg (by have:=xn.out; omega) uY.out)
       have tg:=hid Gx;rw [e13];obtain ⟨Ab,cb,ZQ,-⟩:=Rc.shape;subst ZQ;clear hx Vq Sk Gx hxb sX Rc Ov qj Pj pq e13 q13;(repeat clear zq);go_wp2_with (go_at_call 200; refine Qc.out.mono ?_; rintro e w5 ⟨x5,qs5,rfl,h1,h2,h3,h4⟩; refine halted ?_);have VK:=hid h1;have qX:=hid h2;have Pc:=hid h3;have vq:=hid h4;obtain ⟨A5,c5,J5,-⟩:=h1.shape;subst J5;have Lh:Hid (qs5.length=qb.length):=hid (by
        have:=congrArg List.length h3;rw [List.length_map,List.length_map,List.length_map] at this;exact this)
       have D8:=Ext.box w5 (.cells #[.slice Aa qa.length ca,.slice A5 qs5.length c5] 160);have Oc:=hid D8;have Y7:=hid (Z3p (w5.alloc (.cells #[.slice Aa qa.length ca,.slice A5 qs5.length c5] 160)) w5.heap.size 160 _ _ 0 _ qa qs5 (Blk.made _ _ _) (Q1b.below U8.out (h4.trans D8)) (Q1b.below h1 D8) (Y7v O4.out) (Y7v h2) (by have:=dW.out; rw [Lh.out]; omega))
       clear h1 h2 h3 h4 D8;unfold Q1o;go_wp2_with (go_at_call 199; refine Y7.out.mono ?_; rintro e w6 ⟨x6,rfl,h1,h4⟩; refine halted ?_);have Yx:=hid (Oc.out.trans h4);have xV:Hid (Q0r w6 (qa ++ qs5)):=hid (fun z hz=>by
        rcases List.mem_append.1 hz with hz | hz
        . exact O4.out.ext (vq.out.trans Yx.out) z hz
        . exact qX.out.ext Yx.out z hz)
       have Ty:=hid (Q9y w6 _ x6 (qa ++ qs5) h1 xV.out (by rw [List.length_append,Lh.out]; have:=dW.out; omega))
       clear h1 h4;unfold Q1o;go_wp2_with (go_at_call 197; refine Ty.out.mono ?_; rintro e w7 ⟨x7,qs7,rfl,h1,h2,h3,h4⟩; refine halted ?_);have qn:=hid h1;have pn:=hid h2;have mn:=hid h3;have pz:=hid h4;clear h1 h2 h3 h4;unfold Q1o;go_wp2;go_ret;have Zq:Ext w w6:=tg.out.trans (vq.out.trans Yx.out);exact ⟨_,qs7,rfl,Q1b.weaken qn.out Zq.size,pn.out,by rw [mn.out,List.map_append,Nh.out,Pc.out,S2.out],Zq.trans pz.out⟩
end Go.Proofs
namespace Go.Tw
open Go.RowKit Go.Flow
theorem Z9y {s:Q0b} {l:List Runner} {j:Nat} {r:Runner} (h:l[j]?=some r):Y6j s (l.take (j + 1))=Y6j s (l.take j) + if r.dry then Q0o s.members r.member else 0:=by
 obtain ⟨hk,rfl⟩:=List.getElem?_eq_some_iff.1 h;unfold Y6j;rw [List.take_succ_eq_append_getElem hk,List.map_append,List.sum_append];simp
theorem Z4p {s:Q0b} (hV:Q0w s):∀ {l:List Runner},Known s l -> 0 <= Y6j s l /\ Y6j s l <= 1000 * l.length
 | [],_=>by simp [Y6j]
 | r :: l,h=>by
   have h1:=hV.weights r.member (h r List.mem_cons_self);have h2:=Z4p hV fun q hq=>h q (List.mem_cons_of_mem _ hq);have e:Y6j s (r :: l)=(if r.dry then Q0o s.members r.member else 0) + Y6j s l:=by unfold Y6j; rw [List.map_cons,List.sum_cons]
   rw [e,List.length_cons]
   split <;> omega
end Go.Tw
namespace Go.Proofs
open Go.RowKit Go.Tw Go.Flow
attribute [local go_sem] Oper.semAt_some
theorem Z5k {w:World} {g:Nat} {x:Int} (h:Blk w g 159 #[.int .i64 x,.int .i64 0,.int .i64 0,.slice none 0 0]) {B:Nat} (hB:B <= g):Q1b w B 159 4 Q3f (.slice (some ⟨g,0,none⟩) 1 1) [((⟨x,0,0,[]⟩:Plan),Value.slice none 0 0)] :=
 ⟨by simp [Q3f],.inr ⟨g,1,_,rfl,hB,h,Nat.le_refl _,by unfold maxLen; omega,by simp,by simp [Q3f]⟩⟩
theorem Y3v (w:World) (x:Int):Q0r w [((⟨x,0,0,[]⟩:Plan),Value.slice none 0 0)]:=fun q hq=>by
 obtain rfl:=List.mem_singleton.1 hq;exact Q0n.nil _ _ _ _
theorem Z7f (s:Q0b) (hV:Q0w s):Y8c s 0:=by
 intro w B u v l hu hv nj Ry Aj hl;obtain ⟨aS,bS,rfl,h2⟩:=hu;obtain ⟨A,Uq,rfl,-,-,-⟩:=h2.ships.opened;obtain ⟨M,Wq,rfl,-,-,-⟩:=h2.members.opened;have h6:=hV.tides;have tJ:=hid h2;have dy:=hid nj;have HV:=hid hV;have cz:Hid (Q2u s 0 l=[⟨Y6j s l,0,0,[]⟩]):=hid rfl;rw [cz.out];obtain ⟨Al,cl,CV,xj⟩:=hv.reads Q9b;subst CV;rw [Nat.sub_zero];clear h2 hv nj Ry Aj hV cz;go_enter Tryz.func157,Tryz.ntmps157;go_wp2_with fail;change Code.wp _ _ _ _ (w.alloc (.cells #[.int .i64 s.limit,.slice A s.ships.length Uq,.slice M s.members.length Wq] 34));obtain ⟨W,Nq,k0,Sq,eW⟩:=Q1y w 34 #[.int .i64 s.limit,.slice A s.ships.length Uq,.slice M s.members.length Wq];rw [Nq];clear Nq;have K0:=hid k0;obtain ⟨gs,bq⟩:∃ z,w.heap.size=z:=⟨_,rfl⟩;have Nz:=hid bq;rw [bq] at K0 eW ⊢;have c1:=K0.out.cell 1;simp only [Go.Tw.gA,Go.Tw.gB,Go.Tw.gC] at c1;clear k0 bq;go_wp2;clear c1
 go_loopw [7,22] (fun o i wr=>∃ (j:Nat),j <= l.length /\ i=.int .i64 j /\ o=.int .i64 (Y6j s (l.take j)) /\ Ext W wr) (fun _ i _=>l.length - (intOf i).toNat)
 case atStart=>exact ⟨0,Nat.zero_le _,rfl,by simp [Y6j],Ext.refl _⟩
 case round =>
  obtain ⟨j,hj,rfl,rfl,hx⟩:=hrel;have HX:=hid hx
  by_cases Tq:j < l.length
  . obtain ⟨gl,rfl,Xq⟩:=xj.out j Tq
    have Gx:=Sq.out.trans hx;have ew:=hid Gx;have e0:=Gx.cell (Xq 0 (by omega))
    have e1:=Gx.cell (Xq 1 (by omega))
    have e2:=Gx.cell (Xq 2 (by omega))
    have fk:=dy.out _ (List.getElem_mem Tq);have hsm:=Z9y (s:=s) (List.getElem?_eq_getElem Tq);obtain ⟨r,hr⟩:∃ z,l[j]=z:=⟨_,rfl⟩;rw [hr] at e0 e1 e2 fk hsm;obtain ⟨i,qy⟩:∃ z,r.member=z:=⟨_,rfl⟩;obtain ⟨r2,zk⟩:∃ z,r.level=z:=⟨_,rfl⟩;obtain ⟨r3,t7⟩:∃ z,r.dry=z:=⟨_,rfl⟩;rw [qy] at fk hsm;rw [t7] at hsm;replace e0:wr.cell? ⟨gl,j * 3,none⟩=some (.int .i64 (i:Int)):=by rw [<- qy]; exact e0
    replace e1:wr.cell? ⟨gl,j * 3 + 1,none⟩=some (.int .i64 r2):=by rw [<- zk]; exact e1
    replace e2:wr.cell? ⟨gl,j * 3 + 2,none⟩=some (.bool r3):=by rw [<- t7]; exact e2
    obtain ⟨bm,off,Rq,Jq,Bq,X,Y,Z,hm⟩:=Q3s tJ.out.members fk;obtain rfl:=hm.addr;have aq:=Gx.cell hm.e1;have yV:=HV.out.weights i fk;have J1:(i:Int) < s.members.length:=by omega
    have Q7:(j:Int) < l.length:=by omega
    have J6:=Z4p HV.out (l:=l.take j) (fun q hq=>dy.out q (List.mem_of_mem_take hq));have rJ:(l.take j).length <= 8:=by rw [List.length_take]; omega
    obtain ⟨wt,Vj⟩:∃ z,Q0o s.members i=z:=⟨_,rfl⟩;rw [Vj] at aq yV hsm;obtain ⟨sm,S3⟩:∃ z,Y6j s (l.take j)=z:=⟨_,rfl⟩;rw [S3] at J6 hsm;have b9:IntKind.i64.wrap (sm + wt)=sm + wt:=Q3b _ (by omega) (by omega)
    have Ey:=hid hsm;have yq:=Ext.box wr (.cells #[.int .i64 (i:Int),.int .i64 r2,.bool r3] 233);have K3:=Blk.made wr 233 #[.int .i64 (i:Int),.int .i64 r2,.bool r3];have d0:=(K3).cell 0;have d1:=(K3).cell 1;have d2:=(K3).cell 2;simp only [Go.Tw.gA,Go.Tw.gB,Go.Tw.gC] at d0 d1 d2;have c2:=(K0.out.ext hx).ext yq |>.cell 2
    simp only [Go.Tw.gA,Go.Tw.gB,Go.Tw.gC] at c2;replace aq:=yq.cell aq;have ij:=hid (hx.trans yq);clear Xq hr qy zk t7 hm yV J6 rJ Vj hsm yq Gx hx fk K3;rw [S3];clear S3
    go_light
    cases r3 with
    | true =>
      rw [if_pos rfl] at Ey;go_wp2;go_roundw
      case rel=>exact ⟨j + 1,by omega,by go_num,by rw [Ey.out],ij.out⟩
      case measure=>simp [intOf]; omega
    | false =>
      rw [if_neg (by simp)] at Ey
      go_wp2;go_roundw
      case rel=>exact ⟨j + 1,by omega,by go_num,by rw [Ey.out,Int.add_zero],ij.out⟩
      case measure=>simp [intOf]; omega
  . have N5:j=l.length:=by omega
    subst N5;rw [List.take_length];clear hx;go_wp2;go_ret;have hb:=Blk.made wr 159 #[.int .i64 (Y6j s l),.int .i64 0,.int .i64 0,.slice none 0 0];exact ⟨_,[((⟨Y6j s l,0,0,[]⟩:Plan),Value.slice none 0 0)],rfl,Z5k hb (Sq.out.trans HX.out).size,Y3v _ _,rfl,(Sq.out.trans HX.out).trans (Ext.box _ _)⟩
end Go.Proofs
namespace Go.Tw
open Go.RowKit Go.Flow
theorem J5k {s:Q0b} {t c:Nat} {l:List Runner} {j:Nat} {r:Runner} (h:l[j]?=some r):Q8p s t c (l.take (j + 1))=Q8p s t c (l.take j) ++ if ix (Q0c s.members r.member) t=(c:Int) then [r] else []:=by
 obtain ⟨hk,rfl⟩:=List.getElem?_eq_some_iff.1 h;unfold Q8p;rw [List.take_succ_eq_append_getElem hk,List.filter_append]
 congr 1
 by_cases he:ix (Q0c s.members l[j].member) t=(c:Int)
 . rw [if_pos he]; simp [he]
 . rw [if_neg he]; simp [he]
theorem Z2l {s:Q0b} {t c:Nat} {l:List Runner}:(Q8p s t c l).length <= l.length:=List.length_filter_le _ _
end Go.Tw
namespace Go.Proofs
open Go.RowKit Go.Tw Go.Flow
attribute [local go_sem] Oper.semAt_some
theorem Z8m (s:Q0b) (hV:Q0w s) (hF:s.hist.length <= 9) (k:Nat) (sx:k + 1 <= s.ships.length) (ug:Y8c s k):Y8c s (k + 1):=by
 intro w B u v l hu hv nj Ry Aj hl;have ln:=hid ug;obtain ⟨aS,bS,rfl,h2⟩:=hu;obtain ⟨A,Uq,rfl,-,-,-⟩:=h2.ships.opened;obtain ⟨M,Wq,rfl,-,-,-⟩:=h2.members.opened;have h6:=hV.tides;obtain ⟨i0,hi,fq,mq,iq⟩:=info_parts Tryz.J2u;have tJ:=hid h2;have dy:=hid nj;have HV:=hid hV;have zr:=hid Ry;have jn:=hid Aj;have d7:=hid (Y5m hV sx (Q8c hV k (by omega)) nj Aj)
 have W9:=hid (fun (c:Nat) (hn:Q8p s (s.ships.length - (k + 1)) c l ≠ [])=>X9y hV sx (Q8c hV k (by omega)) (Q8s nj) hn (by
  have:=X0o (c:=c) hV.toFine nj (by omega) Aj
  have e1:s.ships.length - k=s.ships.length - (k + 1) + 1:=by omega
  rw [e1]; exact this))
 have y8:=hid (fun (W:World) (v:Value) (c:Nat) (B:Nat) (hW:Ext w W) (hv:Q1b W B 233 3 encR v (Q8p s (s.ships.length - (k + 1)) c l)) (hn:Q8p s (s.ships.length - (k + 1)) c l ≠ []) =>
  Z6f W B _ v s k _ ug ⟨_,_,rfl,h2.ext hW⟩ hv hV sx hF (Q8s nj) (fun r hr=>Ry r (List.mem_filter.1 hr).1) (by
   have:=X0o (c:=c) hV.toFine nj (by omega) Aj
   have e1:s.ships.length - k=s.ships.length - (k + 1) + 1:=by omega
   rw [e1]; exact this) hn (Nat.le_trans Z2l hl))
 have Ty:Hid (∀ c,X6g s (s.ships.length - (k + 1)) (X5y s (s.ships.length - (k + 1)) c l) + X6g s (s.ships.length - (k + 1)) (Q8p s (s.ships.length - (k + 1)) c l) <= 9):=hid (fun c=>by
  rw [<- Z0f];exact Nat.le_trans (Y1i _ _) hF)
 have YQ:Hid (∀ c,Q8p s (s.ships.length - (k + 1)) c l=[] -> Q2y s (s.ships.length - (k + 1)) (Q2u s k) l (c + 1)=Q2y s (s.ships.length - (k + 1)) (Q2u s k) l c):=hid (fun c h=>by rw [Q2y,if_pos h])
 have J8:Hid (∀ c,Q8p s (s.ships.length - (k + 1)) c l ≠ [] -> Q2y s (s.ships.length - (k + 1)) (Q2u s k) l (c + 1)=together (Q2y s (s.ships.length - (k + 1)) (Q2u s k) l c) (Q4x s (s.ships.length - (k + 1)) (Q2u s k) (Q8p s (s.ships.length - (k + 1)) c l))):=hid (fun c h=>by rw [Q2y,if_neg h])
 have cz:Hid (Q2u s (k + 1) l=Q2y s (s.ships.length - (k + 1)) (Q2u s k) l 10):=hid rfl;have G8:Hid (Q2y s (s.ships.length - (k + 1)) (Q2u s k) l 0=[⟨0,0,0,[]⟩]):=hid rfl;have Kh:Hid (∀ l',Known s l' -> l'.length <= 8 -> 0 <= Q6j s l' /\ Q6j s l' <= 8000):=hid (fun l' h h8=>by have:=Y6u hV h; omega)
 have U3:Hid (∀ c,Known s (X5y s (s.ships.length - (k + 1)) c l) /\ (X5y s (s.ships.length - (k + 1)) c l).length <= 8):=hid (fun c=>⟨Z9r nj,Nat.le_trans (List.length_filter_le _ _) hl⟩);have Nc:Hid (∀ c,Known s (Q8p s (s.ships.length - (k + 1)) c l) /\ (Q8p s (s.ships.length - (k + 1)) c l).length <= 8):=hid (fun c=>⟨Q8s nj,Nat.le_trans Z2l hl⟩);rw [cz.out];obtain ⟨Al,cl,CV,xj⟩:=hv.reads Q9b;subst CV;have Bg:s.ships.length - (k + 1) < s.ships.length:=by omega
 have pJ:k + 1 <= 6:=by omega
 obtain ⟨t,ht⟩:∃ z,s.ships.length - (k + 1)=z:=⟨_,rfl⟩;rw [ht] at d7 W9 y8 Ty YQ J8 G8 U3 Nc Bg ⊢;have Mc:Hid (¬ (t:Int)=s.ships.length):=hid (by omega)
 obtain ⟨sub,vV⟩:∃ z,Q2u s k=z:=⟨_,rfl⟩;rw [vV] at d7 W9 y8 YQ J8 G8 ⊢;clear h2 hv nj Ry Aj hV cz ug hF vV ht;go_enter Tryz.func157,Tryz.ntmps157;go_wp2_with fail;change Code.wp _ _ _ _ ((w.alloc (.cells #[.int .i64 s.limit,.slice A s.ships.length Uq,.slice M s.members.length Wq] 34)).alloc (.cells #[.int .i64 0,.int .i64 0,.int .i64 0,.slice none 0 0] 159));obtain ⟨W,Nq,k0,k1,Sq,eW⟩:=Q3p w 34 #[.int .i64 s.limit,.slice A s.ships.length Uq,.slice M s.members.length Wq] 159 #[.int .i64 0,.int .i64 0,.int .i64 0,.slice none 0 0];rw [Nq];clear Nq;have K0:=hid k0;have Lc:=hid (Z5k k1 (B:=w.heap.size) (by omega))
 obtain ⟨gs,bq⟩:∃ z,w.heap.size=z:=⟨_,rfl⟩;have Nz:=hid bq;rw [bq] at K0 Lc eW ⊢;have Jh:((t:Int) == (s.ships.length:Int))=false:=by simpa using Mc.out
 rw [Jh];clear k0 k1 bq Jh
 go_loopw [10,43] (fun o i wr=>∃ (c:Nat) (qs:List PV),c <= 10 /\ i=.int .i64 c /\ Q1b wr w.heap.size 159 4 Q3f o qs /\ Q0r wr qs /\ qs.map (·.1)=Q2y s t sub l c /\ Ext W wr) (fun _ i _=>10 - (intOf i).toNat)
 case atStart=>exact ⟨0,_,Nat.zero_le _,rfl,by rw [Nz.out]; exact Lc.out,Y3v _ _,by rw [G8.out]; rfl,Ext.refl _⟩
 case round =>
  clear Lc G8;obtain ⟨c,qs,hc,rfl,Yq,Kx,Fz,hx⟩:=hrel;have ry:=hid Fz;have HX:=hid hx;have lq:=hid Yq;have Uw:=hid Kx
  by_cases Tq:c < 10
  . have tf:(c:Int) < 10:=by omega
    obtain ⟨w0,rfl⟩:∃ X,X=wr:=⟨_,rfl⟩;clear Yq Kx Fz hx
    go_light
    go_wp2
    go_loopw [12,48] (fun v j wq=>∃ (n:Nat),n <= l.length /\ j=.int .i64 n /\ Q1b wq w0.heap.size 233 3 encR v (Q8p s t c (l.take n)) /\ Ext w0 wq) (fun _ j _=>l.length - (intOf j).toNat)
    case atStart=>exact ⟨0,Nat.zero_le _,rfl,Q1b.nil _ _ _ _ _,Ext.refl _⟩
    case round =>
     obtain ⟨n,hn,rfl,Yq,hx⟩:=hrel;have Y0:=hid Yq;have Ox:=hid hx
     by_cases Qw:n < l.length
     . obtain ⟨gl,rfl,Xq⟩:=xj.out n Qw
       have Gx:=Sq.out.trans (HX.out.trans hx);have e0:=Gx.cell (Xq 0 (by omega))
       have e1:=Gx.cell (Xq 1 (by omega))
       have e2:=Gx.cell (Xq 2 (by omega))
       have fk:=dy.out _ (List.getElem_mem Qw);have hsm:=J5k (s:=s) (t:=t) (c:=c) (List.getElem?_eq_getElem Qw);obtain ⟨r,hr⟩:∃ z,l[n]=z:=⟨_,rfl⟩;rw [hr] at e0 e1 e2 fk hsm;obtain ⟨i,qy⟩:∃ z,r.member=z:=⟨_,rfl⟩;obtain ⟨r2,zk⟩:∃ z,r.level=z:=⟨_,rfl⟩;obtain ⟨r3,t7⟩:∃ z,r.dry=z:=⟨_,rfl⟩;have uV:=hid (show r.member=i /\ r.level=r2 /\ r.dry=r3 from ⟨qy,zk,t7⟩)
       rw [qy] at fk hsm;replace e0:wr.cell? ⟨gl,n * 3,none⟩=some (.int .i64 (i:Int)):=by rw [<- qy]; exact e0
       replace e1:wr.cell? ⟨gl,n * 3 + 1,none⟩=some (.int .i64 r2):=by rw [<- zk]; exact e1
       replace e2:wr.cell? ⟨gl,n * 3 + 2,none⟩=some (.bool r3):=by rw [<- t7]; exact e2
       obtain ⟨bm,off,Rq,Jq,Bq,X,Y,Z,hm⟩:=Q3s tJ.out.members fk;obtain rfl:=hm.addr;have hcl:=(HV.out.shaped i fk).1;have G6:t < (Q0c s.members i).length:=by omega
       obtain ⟨X',capx',R2,-,-,S9⟩:=hm.x.opened;injection R2 with R2 kK qJ;subst R2;subst qJ;obtain ⟨bc,oc,R2,Gh⟩:=S9 t G6;subst R2;have yq:=Ext.box wr (.cells #[.int .i64 (i:Int),.int .i64 r2,.bool r3] 233);have K3:=Blk.made wr 233 #[.int .i64 (i:Int),.int .i64 r2,.bool r3];have d0:=(K3).cell 0;have d1:=(K3).cell 1;have d2:=(K3).cell 2;simp only [Go.Tw.gA,Go.Tw.gB,Go.Tw.gC] at d0 d1 d2;have aq:=yq.cell (Gx.cell hm.e2);have oJ:=yq.cell (Gx.cell Gh);have c2:=(K0.out.ext (HX.out.trans (hx.trans yq))).cell 2;simp only [Go.Tw.gA,Go.Tw.gB,Go.Tw.gC] at c2;have J1:(i:Int) < s.members.length:=by omega
       have UK:(n:Int) < l.length:=by omega
       have ij:=hid (hx.trans yq);have Dg:=hid K3;have V4:=hid (Q1b.below Yq yq);have ey:Hid ((Q8p s t c (l.take n)).length + 1 <= 100000):=hid (by
        have h1:(Q8p s t c (l.take n)).length <= (l.take n).length:=Z2l;rw [List.length_take] at h1;omega)
       obtain ⟨lc,F6⟩:∃ x,(Q0c s.members i).length=x:=⟨_,rfl⟩;rw [F6] at aq G6;have zW:(t:Int) < lc:=by omega
       obtain ⟨cv,P7⟩:∃ x,ix (Q0c s.members i) t=x:=⟨_,rfl⟩;rw [P7] at oJ hsm;obtain ⟨zs,Yy⟩:∃ x,Q8p s t c (l.take n)=x:=⟨_,rfl⟩;rw [Yy] at hsm V4 ey;have Ey:=hid hsm;obtain ⟨Ao,co,Ay,-⟩:=V4.out.shape;subst Ay;clear Xq Gx fk hsm hr qy zk t7 hm hcl S9 Gh yq K3 hx Yq F6 P7 Yy Y0
       go_light
       by_cases he:cv=(c:Int)
       . rw [if_pos he] at Ey
         subst he;have iw:Hid (∀ (W:World) gn,Blk W gn 233 #[.int .i64 (i:Int),.int .i64 r2,.bool r3] -> ∀ j u,(encR r)[j]?=some u -> W.cell? ((⟨gn,0,none⟩:Addr).add j)=some u):=hid (fun W gn hb=>by unfold encR; rw [uV.out.1,uV.out.2.1,uV.out.2.2]; exact Q6i hb)
         have Dv:=hid ij.out.size;obtain ⟨wd,YJ⟩:∃ X,wr.alloc (.cells #[.int .i64 (i:Int),.int .i64 r2,.bool r3] 233)=X:=⟨_,rfl⟩;rw [YJ] at ij V4 Dv Dg d0 d1 d2 aq oJ c2;go_wp2_with (refine Q1r (o:=⟨some 67,_,_,_,_,_⟩) rfl ?_; (try rw [YJ]); refine Q2z (.tmp 64) (.tmp 66) 231 rfl w0.heap.size 233 i0 (.agg #[.int .i64 0,.int .i64 0,.bool false]) 3 24 Tryz.underlying231 hi fq mq iq rfl (by decide) encR Q9b _ zs r rfl (V4.out.below (Ext.box _ _)) ⟨wd.heap.size,0,none⟩ 1 rfl (iw.out _ _ (Blk.made _ _ _)) (Y6m r) ey.out (by decide) (by have h1:=(Ext.box wd (.cells #[.int .i64 (i:Int),.int .i64 r2,.bool r3] 233)).size; have h2:=Dv.out; omega) ?_; intro v' w9 Oq Pq)
         have hg:(wd.alloc (.cells #[.int .i64 (i:Int),.int .i64 r2,.bool r3] 233)).grownBy w9 (Value.slice Ao zs.length co).ownBlock:=Pq;have Zq:=Ext.box wd (.cells #[.int .i64 (i:Int),.int .i64 r2,.bool r3] 233);have Sy:=V4.out.below Zq;have en:Ext w0 w9:=Below.grown (ij.out.trans Zq) hg (by have:=Zq.size; have:=Dv.out; omega) (fun b hb=>(Sy.X0z b hb).1)
         go_roundw
         case rel=>exact ⟨n + 1,by omega,by go_num,by rw [Ey.out]; exact Oq,en⟩
         case measure=>simp [intOf]; omega
       . rw [if_neg he,List.append_nil] at Ey
         go_wp2;go_roundw
         case rel=>exact ⟨n + 1,by omega,by go_num,by rw [Ey.out]; exact V4.out,ij.out⟩
         case measure=>simp [intOf]; omega
     . have hne:n=l.length:=by omega
       subst hne;rw [List.take_length] at Y0;clear Yq hx;obtain ⟨ow,DJ⟩:∃ z,Q8p s t c l=z:=⟨_,rfl⟩;obtain ⟨Ao,co,Ay,-⟩:=Y0.out.shape;subst Ay;have Uy:=hid (HX.out.trans Ox.out)
       by_cases hE:ow=[]
       . have sj:Hid (Q2y s t sub l (c + 1)=Q2y s t sub l c):=hid (YQ.out c (by rw [DJ]; exact hE))
         have h0:(Q8p s t c l).length=0:=by rw [DJ,hE]; rfl
         rw [h0];clear DJ hE;go_wp2;go_roundw
         case rel=>exact ⟨c + 1,qs,by omega,by go_num,lq.out.below Ox.out,Uw.out.ext Ox.out,by rw [sj.out]; exact ry.out,Uy.out⟩
         case measure=>simp [intOf]; omega
       . have hne:Q8p s t c l ≠ []:=by rw [DJ]; exact hE
         have sj:=hid (J8.out c hne);have HD:=hid (fun (W:World) (hW:Ext w W) hv=>y8.out W (.slice Ao (Q8p s t c l).length co) c w0.heap.size hW hv hne);have HB:=hid (W9.out c hne);have hpos:0 < (Q8p s t c l).length:=List.length_pos_iff.2 hne;have tV:(0:Int) < (Q8p s t c l).length:=by omega
         have dn:Hid (∀ q ∈ qs,Z8u q.1):=hid (fun q hq=>by
          have hm:q.1 ∈ Q2y s t sub l c:=by rw [<- ry.out]; exact List.mem_map_of_mem hq
          have hb:=Ty.out c;exact Y5u ((d7.out c).2 _ hm) pJ (Kh.out _ (U3.out c).1 (U3.out c).2) (by omega))
         have uY:Hid (∀ x ∈ Q4x s t sub (Q8p s t c l),Z8u x):=hid (fun x hx=>by
          have hb:=Ty.out c;exact Y5u (HB.out.2.2 x hx) pJ (Kh.out _ (Nc.out c).1 (Nc.out c).2) (by omega))
         have Ww:Hid (qs.length * (Q4x s t sub (Q8p s t c l)).length <= 512 /\ qs.length <= 512 /\ (Q4x s t sub (Q8p s t c l)).length <= 512):=hid (by
          have hb:=Ty.out c;have h1:=(d7.out c).1;rw [<- ry.out,List.length_map] at h1;have h2:=HB.out.2.1;have h3:qs.length * (Q4x s t sub (Q8p s t c l)).length <= 2 ^ 9:=Nat.le_trans (Nat.mul_le_mul h1 h2) (by rw [<- Nat.pow_add]; exact Nat.pow_le_pow_right (by omega) hb)
          have h4:qs.length <= 2 ^ 9:=Nat.le_trans h1 (Nat.pow_le_pow_right (by omega) (by omega))
          have h5:(Q4x s t sub (Q8p s t c l)).length <= 2 ^ 9:=Nat.le_trans h2 (Nat.pow_le_pow_right (by omega) (by omega))
          omega)
         obtain ⟨dc,tY⟩:∃ z,Q4x s t sub (Q8p s t c l)=z:=⟨_,rfl⟩;rw [tY] at uY Ww sj HD;obtain ⟨ol,N3⟩:∃ z,(Q8p s t c l).length=z:=⟨_,rfl⟩;rw [N3] at Y0 HD tV ⊢;have k0:=K0.out.ext Uy.out;have c0:=(k0).cell 0;have c1:=(k0).cell 1;have c2:=(k0).cell 2;simp only [Go.Tw.gA,Go.Tw.gB,Go.Tw.gC] at c0 c1 c2;have sV:=hid (Sq.out.trans Uy.out);have Fh:=Y0.out;have GV:=hid (HD.out _ sV.out Fh);clear DJ hE hne hpos tY N3 k0 HB d7 W9 y8 Ty YQ J8 Fh;go_wp2_with (go_at_call 185; refine GV.out.mono ?_; rintro e w5 ⟨x5,qs5,rfl,h1,h2,h3,h4⟩; refine halted ?_);have H4:=hid h4;have rV:=hid (Y8s w5 w.heap.size _ _ x5 qs qs5 (lq.out.below (Ox.out.trans h4)) h1 (Uw.out.ext (Ox.out.trans h4)) h2 dn.out (fun q hq=>uY.out _ (by rw [<- h3]; exact List.mem_map_of_mem hq)) (by have:=Ww.out.1; rw [<- h3,List.length_map] at this; omega) (by have:=Ww.out.2.1; omega) (by have:=Ww.out.2.2; rw [<- h3,List.length_map] at this; omega))
         have Pc:=hid h3;clear h1 h2 h3 h4;unfold Q1o;go_wp2_with (go_at_call 184; refine rV.out.mono ?_; rintro e w6 ⟨x6,qs6,rfl,h1,h2,h3,h4⟩; refine halted ?_);have Yx:Hid (Ext wr w6):=hid (H4.out.trans h4);have T4:=hid h1;have xV:=hid h2;have o9:=hid h3;clear h1 h2 h3 h4;unfold Q1o;go_wp2;go_roundw
         case rel=>exact ⟨c + 1,qs6,by omega,by go_num,Q1b.weaken T4.out (sV.out.trans H4.out).size,xV.out,by rw [o9.out,sj.out,ry.out,Pc.out],Uy.out.trans Yx.out⟩
         case measure=>simp [intOf]; omega
  . have kK:c=10:=by omega
    subst kK;clear Yq Kx Fz hx;go_wp2;go_ret;exact ⟨_,qs,rfl,lq.out,Uw.out,ry.out,Sq.out.trans HX.out⟩
end Go.Proofs
namespace Go.Tw
open Go.RowKit Go.Flow
def X7z (n:Nat):List Runner:=(List.range n).map fun i=>⟨i,0,true⟩
theorem Z7e (n:Nat):X7z (n + 1)=X7z n ++ [⟨n,0,true⟩]:=by unfold X7z; rw [List.range_succ,List.map_append]; rfl
theorem Y9v (n:Nat):(X7z n).length=n:=by simp [X7z]
end Go.Tw
namespace Go.Proofs
open Go.RowKit Go.Tw Go.Flow Tryz
attribute [local go_sem] Oper.semAt_some
theorem Y8r (s:Q0b) (hV:Q0w s) (hF:s.hist.length <= 9):∀ k,k <= s.ships.length -> Y8c s k
 | 0,_=>Z7f s hV
 | k + 1,h=>Z8m s hV hF k h (Y8r s hV hF k (by omega))
theorem Z0k (w:World) (v:Value) (s:Q0b) (hv:Q0g w v s) (hV:Q0w s) (hF:s.hist.length <= 9) :
    Calls prog 94 #[v] w fun e w'=>∃ x qs,e=.returned x /\ Q1b w' w.heap.size 159 4 Q3f x qs /\ Q0r w' qs /\ qs.map (·.1)=Q3o s /\ Ext w w':=by
 obtain ⟨aS,bS,rfl,h2⟩:=hv;obtain ⟨A,Uq,rfl,-,-,-⟩:=h2.ships.opened;obtain ⟨M,Wq,rfl,-,-,-⟩:=h2.members.opened;obtain ⟨i0,hi,fq,mq,iq⟩:=info_parts J2u;have h8:=hV.some;have Bw:=hid (fun (W:World) (u:Value) (B:Nat) (hW:Ext w W) (hu:Q1b W B 233 3 encR u (X7z s.members.length))=>by
  have h:=Y8r s hV hF s.ships.length (Nat.le_refl _) W B _ u (X7z s.members.length) ⟨_,_,rfl,h2.ext hW⟩ hu Q8n (fun r hr=>by
   obtain ⟨i,_,rfl⟩:=List.mem_map.1 hr;show (0:Int) <= 0 /\ (0:Int) <= _;omega) X0f (by rw [Y9v]; omega)
  rw [Nat.sub_self] at h;exact h)
 have cz:Hid (Q3o s=Q2u s s.ships.length (X7z s.members.length)):=hid rfl;rw [cz.out];obtain ⟨L,hL⟩:∃ z,s.members.length=z:=⟨_,rfl⟩;rw [hL] at Bw h8 ⊢;obtain ⟨P,hP⟩:∃ z,Q2u s s.ships.length (X7z L)=z:=⟨_,rfl⟩;rw [hP] at Bw ⊢;clear h2 hV hF cz hL hP;go_enter func94,ntmps94;go_wp2_with fail;change Code.wp _ _ _ _ (w.alloc (.cells #[.int .i64 s.limit,.slice A s.ships.length Uq,.slice M L Wq] 34));obtain ⟨W,Nq,k0,Sq,eW⟩:=Q1y w 34 #[.int .i64 s.limit,.slice A s.ships.length Uq,.slice M L Wq];rw [Nq];clear Nq;have K0:=hid k0;clear k0
 go_loopw [3,8] (fun o i wr=>∃ (k:Nat),k <= L /\ i=.int .i64 k /\ Q1b wr W.heap.size 233 3 encR o (X7z k) /\ Ext W wr) (fun _ i _=>L - (intOf i).toNat)
 case atStart=>exact ⟨0,Nat.zero_le _,rfl,Q1b.nil _ _ _ _ _,Ext.refl _⟩
 case round =>
  obtain ⟨k,hk,rfl,Yq,hx⟩:=hrel;have HX:=hid hx;have lq:=hid Yq
  by_cases Tq:k < L
  . have Lj:(k:Int) < L:=by omega
    have ey:Hid ((X7z k).length + 1 <= 100000):=hid (by rw [Y9v]; omega)
    have qq:=hid (Z7e k);obtain ⟨zs,Yy⟩:∃ z,X7z k=z:=⟨_,rfl⟩;rw [Yy] at lq ey qq;obtain ⟨Ao,co,Ay,-⟩:=lq.out.shape;subst Ay;have Dv:=hid HX.out.size;clear Yq hx Yy
    go_light
    go_wp2_with (refine Q1r (o:=⟨some 15,_,_,_,_,_⟩) rfl ?_; refine Q2z (.tmp 11) (.tmp 14) 231 rfl W.heap.size 233 i0 (.agg #[.int .i64 0,.int .i64 0,.bool false]) 3 24 underlying231 hi fq mq iq rfl (by decide) encR Q9b _ zs (⟨k,0,true⟩:Runner) rfl (lq.out.below (Ext.box _ _)) ⟨wr.heap.size,0,none⟩ 1 rfl (Q6i (xs:=encR ⟨k,0,true⟩) (Blk.made _ _ _)) (Y6m _) ey.out (by decide) (by have h1:=(Ext.box wr (.cells #[.int .i64 (k:Int),.int .i64 0,.bool true] 233)).size; have h2:=Dv.out; omega) ?_; intro v' w9 Oq Pq)
    have Zq:=Ext.box wr (.cells #[.int .i64 (k:Int),.int .i64 0,.bool true] 233);have Sy:=lq.out.below Zq;have K5:=hid Oq;have ij:Hid (Ext W w9):=hid (Below.grown (HX.out.trans Zq) Pq (by have:=Zq.size; have:=Dv.out; omega) (fun b hb=>(Sy.X0z b hb).1))
    clear Zq Sy Oq Pq;go_wp2;go_roundw
    case rel=>exact ⟨k + 1,by omega,by go_num,by rw [qq.out]; exact K5.out,ij.out⟩
    case measure=>simp [intOf]; omega
  . have Cj:k=L:=by omega
    subst Cj;have k0:=K0.out.ext hx;have c0:=(k0).cell 0;have c1:=(k0).cell 1;have c2:=(k0).cell 2;simp only [Go.Tw.gA,Go.Tw.gB,Go.Tw.gC] at c0 c1 c2;have HC:=hid (Bw.out wr _ W.heap.size (Sq.out.trans hx) Yq);have aj:=hid (Sq.out.trans hx);clear Yq hx k0;go_wp2_with (go_at_call 157; refine HC.out.mono ?_; rintro e w5 ⟨x5,qs5,rfl,h1,h2,h3,h4⟩; refine halted ?_);have H1:=hid h1;have H2:=hid h2;have H3:=hid h3;have H4:=hid h4;clear h1 h2 h3 h4;unfold Q1o;go_wp2;go_ret;exact ⟨_,qs5,rfl,Q1b.weaken H1.out aj.out.size,H2.out,H3.out,aj.out.trans H4.out⟩
theorem Q5g {s:Q0b} {p:List Rul} (h:Q1j s p=0):Q0w s /\ Q0q s.hist p=0:=by
 unfold Q1j at h
 by_cases he:s.err=0
 . rw [if_neg (fun hn=>hn he)] at h; exact ⟨Q0w.of he,h⟩
 . rw [if_pos he] at h; exact absurd h he
def Q5c (s:Q0b) (p:List Rul):List Int:=if Q1j s p=0 then Q2k s p else []
def X3r (s:Q0b) (p:List Rul):Int:=if Q1j s p=0 then Q6m s p else 0
def Z5o (s:Q0b) (p:List Rul):Int:=if Q1j s p=0 then X6r s p else 0
theorem Z9o (w:World):Q0e w (.slice none 0 0) []:=Go.Tw.Rows.nil _ _ _
theorem Y2o (w:World) (x y:Value):(Instr.field 156 (.agg #[x,y]) 0).run prog w=.ok x w:=by kernel_rfl
theorem Y2l (w:World) (x y:Value):(Instr.field 156 (.agg #[x,y]) 1).run prog w=.ok y w:=by kernel_rfl
attribute [local go_sem ↓] Y2o Y2l
theorem X3o (w:World) (v u:Value) (s:Q0b) (p:List Rul) (hv:Q0g w v s) (hu:Q0m w u p) (hs:Q3v s) (hp:p.length <= 1000) :
    Calls prog 33 #[v,u] w fun e w'=>∃ x,e=.returned (.tuple #[x,.int .i64 (Q1j s p)]) /\ Q0e w' x (Q5c s p) /\ Ext w w':=by
 obtain ⟨a,b,rfl,h2⟩:=hv;obtain ⟨rv,rfl,hr⟩:=hu;obtain ⟨A,Uq,rfl,-,-,-⟩:=h2.ships.opened;obtain ⟨B,Wq,rfl,-,-,-⟩:=h2.members.opened;obtain ⟨R,Gq,rfl,-,-,-⟩:=hr.opened;have H2:=hid h2;have HR:=hid hr;have HS:=hid hs;clear h2 hr hs;go_enter func33,ntmps33;go_wp2_with fail;change Calls _ _ _ ((w.alloc (.cells #[.int .i64 s.limit,.slice A s.ships.length Uq,.slice B s.members.length Wq] 34)).alloc (.cells #[.slice R p.length Gq] 38)) _;obtain ⟨W,Nq,k0,k1,Sq,eW⟩:=Q3p w 34 #[.int .i64 s.limit,.slice A s.ships.length Uq,.slice B s.members.length Wq] 38 #[.slice R p.length Gq];rw [Nq];clear Nq;have K0:=hid k0;have K1:=hid k1;clear k0 k1;refine (Q5e _ _ _ s p ⟨_,_,rfl,H2.out.ext Sq.out⟩ ⟨_,rfl,HR.out.ext Sq.out⟩ HS.out hp).mono ?_;rintro e w5 ⟨rfl,Cq⟩;have vq:=hid (Sq.out.trans Cq);have dx:=hid (K0.out.ext Cq);have Rk:=hid (K1.out.ext Cq)
 by_cases he:Q1j s p=0
 . have HV:=hid (Q5g he)
   have HF:Hid (Q5c s p=Q2k s p):=hid (if_pos he);have Fx:=hid he;have Ex:=hid he;have hne:(Q1j s p != 0)=false:=by simp [he]
   obtain ⟨E,hE⟩:∃ E,Q1j s p=E:=⟨_,rfl⟩;have Mz:Hid (∀ W,Ext w5 W -> Q0g W (.agg #[.int .i64 s.limit,.slice A s.ships.length Uq,.slice B s.members.length Wq]) s):=hid (fun W hW=>⟨_,_,rfl,H2.out.ext (vq.out.trans hW)⟩);have Zg:Hid (∀ W,Ext w5 W -> Q0m W (.agg #[.slice R p.length Gq]) p):=hid (fun W hW=>⟨_,rfl,HR.out.ext (vq.out.trans hW)⟩);rw [hE] at hne Fx ⊢;rw [Fx.out];clear he hE Cq;have Vq:=(Ext.refl w5).drew;go_wp2;refine Flow.Q1h [.w,.w,.w,.w,.w,.p,.p] [0,1,2,3,4,5,6] [[],[],[],[1,2],[0,3],[0,1,2,3,4],[0,1,2,3,4,5]]
    [.c 0 (.agg #[.int .i64 s.limit,.slice A s.ships.length Uq,.slice B s.members.length Wq]),.c 1 (.agg #[.int .i64 s.limit,.slice A s.ships.length Uq,.slice B s.members.length Wq]),.c 2 (.agg #[.slice R p.length Gq]),⟨fun v wz=>(fun v w'=>Q3l w' (v 3) (Q3d s p)) v wz,by intro v a b hx h; exact Q3l.ext h hx⟩,⟨fun v wz=>(fun v w'=>Q0e w' (v 4) (Q2k s p)) v wz,by intro v a b hx h; exact Q0e.ext h hx⟩,.is 5 (fun v=>v 4),.c 6 (.int .i64 0)]
    (by kernel_rfl) rfl (by kernel_rfl) ⟨?g0,?g1,?g2,?g3,?g4,?g5,?g6,trivial⟩ ?post
   case g0 | g1=>
    intro v w1 hx;intro bb hbb;intro K hK;have o1:bb.eval (.tmp 2)=.pointer (some ⟨w.heap.size,0,none⟩):=fze09
    exact Q0i (.tmp 2) _ rfl X8b Q9q o1 (dx.out.ext (Vq.trans hx)) rfl (hK _ _ (Ext.refl _) rfl)
   case g2=>
    intro v w1 hx;intro bb hbb;intro K hK;have o1:bb.eval (.tmp 3)=.pointer (some ⟨w.heap.size + 1,0,none⟩):=fze09
    exact Q0i (.tmp 3) _ rfl Q6t Q4b o1 (Rk.out.ext (Vq.trans hx)) rfl (hK _ _ (Ext.refl _) rfl)
   case g3=>
    intro v w1 hx;(repeat intro (zq:v _=_));intro bb hbb;subst hbb;intro K hK;go_simp;refine Q0d (Q6o w1 _ _ s p (Mz.out w1 (Vq.trans hx)) (Zg.out w1 (Vq.trans hx)) HV.out.1 HV.out.2) ?_;rintro e w2 ⟨x,rfl,h1,Mq⟩;exact ⟨_,rfl,hK _ _ Mq h1⟩
   case g4=>
    intro v w1 hx (q0:v 0=_) (q3:(fun v w'=>Q3l w' (v 3) (Q3d s p)) v w1);intro bb hbb;subst hbb;intro K hK;go_simp;refine Q0d (Z5q w1 _ _ s p (Mz.out w1 (Vq.trans hx)) q3 HV.out.1) ?_;rintro e w2 ⟨x,rfl,h1,Mq⟩;exact ⟨_,rfl,hK _ _ Mq h1⟩
   case g5=>
    intro v w1 hx (q0:v 0=_) (q1:v 1=_) (q2:v 2=_) _ _;intro bb hbb;subst hbb;refine ⟨_,fun w=>?_,rfl⟩;go_simp
   case g6=>
    intro v w1 hx (q0:v 0=_) (q1:v 1=_) (q2:v 2=_) _ _ (q5:v 5=v 4);intro bb hbb;subst hbb;refine ⟨_,fun w=>?_,rfl⟩;go_simp
   case post =>
    intro v w1 hx;(iterate 3 intro (zq:v _=_));intro (q3:(fun v w'=>Q3l w' (v 3) (Q3d s p)) v w1) (q4:(fun v w'=>Q0e w' (v 4) (Q2k s p)) v w1) (q5:v 5=v 4);(iterate 1 intro (zq:v _=_));simp only [Flow.All,Flow.acts,Act.put];go_simp;have aj:=hid (vq.out.trans (Vq.trans hx));have HQ:Hid (Q0e w1 (v 4) (Q2k s p)):=hid q4;clear hx Vq q3 q4 q5;(repeat clear zq);go_wp2;go_ret2;exact ⟨v 4,by rw [Ex.out]; rfl,by rw [HF.out]; exact HQ.out,aj.out⟩
 . have HF:Hid (Q5c s p=[]):=hid (if_neg he)
   have hne:(Q1j s p != 0)=true:=by simp [he]
   obtain ⟨E,hE⟩:∃ E,Q1j s p=E:=⟨_,rfl⟩;have Ex:=hid hE;rw [hE] at hne ⊢;clear he hE Cq;go_wp2;go_ret2;exact ⟨_,by rw [Ex.out]; rfl,by rw [HF.out]; exact Z9o _,vq.out⟩
theorem Y6i (w:World) (v u:Value) (s:Q0b) (p:List Rul) (hv:Q0g w v s) (hu:Q0m w u p) (hs:Q3v s) (hp:p.length <= 1000) :
    Calls prog 37 #[v,u] w fun e w'=>e=.returned (.tuple #[.int .i64 (X3r s p),.int .i64 (Q1j s p)]) /\ Ext w w':=by
 obtain ⟨a,b,rfl,h2⟩:=hv;obtain ⟨rv,rfl,hr⟩:=hu;obtain ⟨A,Uq,rfl,-,-,-⟩:=h2.ships.opened;obtain ⟨B,Wq,rfl,-,-,-⟩:=h2.members.opened;obtain ⟨R,Gq,rfl,-,-,-⟩:=hr.opened;have H2:=hid h2;have HR:=hid hr;have HS:=hid hs;clear h2 hr hs;go_enter func37,ntmps37;go_wp2_with fail;change Calls _ _ _ ((w.alloc (.cells #[.int .i64 s.limit,.slice A s.ships.length Uq,.slice B s.members.length Wq] 34)).alloc (.cells #[.slice R p.length Gq] 38)) _;obtain ⟨W,Nq,k0,k1,Sq,eW⟩:=Q3p w 34 #[.int .i64 s.limit,.slice A s.ships.length Uq,.slice B s.members.length Wq] 38 #[.slice R p.length Gq];rw [Nq];clear Nq;have K0:=hid k0;have K1:=hid k1;clear k0 k1;refine (Q5e _ _ _ s p ⟨_,_,rfl,H2.out.ext Sq.out⟩ ⟨_,rfl,HR.out.ext Sq.out⟩ HS.out hp).mono ?_;rintro e w5 ⟨rfl,Cq⟩;have vq:=hid (Sq.out.trans Cq);have dx:=hid (K0.out.ext Cq);have Rk:=hid (K1.out.ext Cq)
 by_cases he:Q1j s p=0
 . have HV:=hid (Q5g he)
   have HF:Hid (X3r s p=Q6m s p):=hid (if_pos he);have Fx:=hid he;have Ex:=hid he;have hne:(Q1j s p != 0)=false:=by simp [he]
   obtain ⟨E,hE⟩:∃ E,Q1j s p=E:=⟨_,rfl⟩;have Mz:Hid (∀ W,Ext w5 W -> Q0g W (.agg #[.int .i64 s.limit,.slice A s.ships.length Uq,.slice B s.members.length Wq]) s):=hid (fun W hW=>⟨_,_,rfl,H2.out.ext (vq.out.trans hW)⟩);have Zg:Hid (∀ W,Ext w5 W -> Q0m W (.agg #[.slice R p.length Gq]) p):=hid (fun W hW=>⟨_,rfl,HR.out.ext (vq.out.trans hW)⟩);rw [hE] at hne Fx ⊢;rw [Fx.out];have c0:=(dx.out).cell 0;have c1:=(dx.out).cell 1;have c2:=(dx.out).cell 2;simp only [Go.Tw.gA,Go.Tw.gB,Go.Tw.gC] at c0 c1 c2;have d0:=(Rk.out).cell 0;simp only [Go.Tw.gA,Go.Tw.gB] at d0;clear he hE Cq;go_wp2_with (go_at_call 103; refine (Y1k _ _ _ s p (Mz.out _ (Ext.refl _)) (Zg.out _ (Ext.refl _)) HV.out.1 HV.out.2).mono ?_; rintro e w6 ⟨rfl,Kj⟩);go_ret2;exact ⟨by rw [HF.out,Ex.out]; rfl,vq.out.trans Kj⟩
 . have HF:Hid (X3r s p=0):=hid (if_neg he)
   have hne:(Q1j s p != 0)=true:=by simp [he]
   obtain ⟨E,hE⟩:∃ E,Q1j s p=E:=⟨_,rfl⟩;have Ex:=hid hE;rw [hE] at hne ⊢;clear he hE Cq;go_wp2;go_ret2;exact ⟨by rw [HF.out,Ex.out]; rfl,vq.out⟩
theorem Z7d (w:World) (v u:Value) (s:Q0b) (p:List Rul) (hv:Q0g w v s) (hu:Q0m w u p) (hs:Q3v s) (hp:p.length <= 1000) :
    Calls prog 38 #[v,u] w fun e w'=>e=.returned (.tuple #[.int .i64 (Z5o s p),.int .i64 (Q1j s p)]) /\ Ext w w':=by
 obtain ⟨a,b,rfl,h2⟩:=hv;obtain ⟨rv,rfl,hr⟩:=hu;obtain ⟨A,Uq,rfl,-,-,-⟩:=h2.ships.opened;obtain ⟨B,Wq,rfl,-,-,-⟩:=h2.members.opened;obtain ⟨R,Gq,rfl,-,-,-⟩:=hr.opened;have H2:=hid h2;have HR:=hid hr;have HS:=hid hs;clear h2 hr hs;go_enter func38,ntmps38;go_wp2_with fail;change Calls _ _ _ ((w.alloc (.cells #[.int .i64 s.limit,.slice A s.ships.length Uq,.slice B s.members.length Wq] 34)).alloc (.cells #[.slice R p.length Gq] 38)) _;obtain ⟨W,Nq,k0,k1,Sq,eW⟩:=Q3p w 34 #[.int .i64 s.limit,.slice A s.ships.length Uq,.slice B s.members.length Wq] 38 #[.slice R p.length Gq];rw [Nq];clear Nq;have K0:=hid k0;have K1:=hid k1;clear k0 k1;refine (Q5e _ _ _ s p ⟨_,_,rfl,H2.out.ext Sq.out⟩ ⟨_,rfl,HR.out.ext Sq.out⟩ HS.out hp).mono ?_;rintro e w5 ⟨rfl,Cq⟩;have vq:=hid (Sq.out.trans Cq);have dx:=hid (K0.out.ext Cq);have Rk:=hid (K1.out.ext Cq)
 by_cases he:Q1j s p=0
 . have HV:=hid (Q5g he)
   have HF:Hid (Z5o s p=X6r s p):=hid (if_pos he);have Fx:=hid he;have Ex:=hid he;have hne:(Q1j s p != 0)=false:=by simp [he]
   obtain ⟨E,hE⟩:∃ E,Q1j s p=E:=⟨_,rfl⟩;have Mz:Hid (∀ W,Ext w5 W -> Q0g W (.agg #[.int .i64 s.limit,.slice A s.ships.length Uq,.slice B s.members.length Wq]) s):=hid (fun W hW=>⟨_,_,rfl,H2.out.ext (vq.out.trans hW)⟩);have Zg:Hid (∀ W,Ext w5 W -> Q0m W (.agg #[.slice R p.length Gq]) p):=hid (fun W hW=>⟨_,rfl,HR.out.ext (vq.out.trans hW)⟩);rw [hE] at hne Fx ⊢;rw [Fx.out];have c0:=(dx.out).cell 0;have c1:=(dx.out).cell 1;have c2:=(dx.out).cell 2;simp only [Go.Tw.gA,Go.Tw.gB,Go.Tw.gC] at c0 c1 c2;have d0:=(Rk.out).cell 0;simp only [Go.Tw.gA,Go.Tw.gB] at d0;clear he hE Cq;go_wp2_with (go_at_call 103; refine (Y1k _ _ _ s p (Mz.out _ (Ext.refl _)) (Zg.out _ (Ext.refl _)) HV.out.1 HV.out.2).mono ?_; rintro e w6 ⟨rfl,Kj⟩);go_ret2;exact ⟨by rw [HF.out,Ex.out]; rfl,vq.out.trans Kj⟩
 . have HF:Hid (Z5o s p=0):=hid (if_neg he)
   have hne:(Q1j s p != 0)=true:=by simp [he]
   obtain ⟨E,hE⟩:∃ E,Q1j s p=E:=⟨_,rfl⟩;have Ex:=hid hE;rw [hE] at hne ⊢;clear he hE Cq;go_wp2;go_ret2;exact ⟨by rw [HF.out,Ex.out]; rfl,vq.out⟩
end Go.Proofs
namespace Go.Proofs
open Go.RowKit Go.Tw Go.Flow Tryz
attribute [local go_sem] Oper.semAt_some
theorem Z8g (W:World) (v:Value):Calls prog 115 #[v] W fun e W'=>e=.returned v /\ W=W':=by
 go_enter func115,ntmps115;go_wp2;go_ret;exact ⟨rfl,rfl⟩
theorem Tryz.J3f:(prog.info? 22).map (fun i=>(i.zero,i.size,i.bytes))=some (some (.slice none 0 0),1,24):=by kernel_rfl
theorem Z6g (ll:List (List Int)) {k:Nat} (hk:k < ll.length):ll.take (k + 1)=ll.take k ++ [ll.getD k []]:=by
 rw [List.take_succ_eq_append_getElem hk,Q0t _ hk]
theorem Y3b (w:World) (v:Value) (ll:List (List Int)) (hv:Q4g w v ll) (lx:ll.length <= 4096) :
    Calls prog 114 #[v,.func (.func 115) #[] #[]] w fun e w'=>∃ x,e=.returned x /\ Q4g w' x ll /\ Ext w w':=by
 obtain ⟨i0,hi,fq,mq,iq⟩:=info_parts J3f;obtain ⟨A,Qq,rfl,hl,Kq,hc⟩:=hv.opened;have HC:=hid hc;clear hv hc;go_enter func114,ntmps114;go_wp2
 go_loopw [5,10] (fun o i wr=>∃ (k:Nat) (vs:List Value),k <= ll.length /\ i=.int .i64 k /\ Q0n wr w.heap.size 22 idV o vs /\ Reads w vs (ll.take k) /\ Ext w wr) (fun _ i _=>ll.length - (intOf i).toNat)
 case atStart=>exact ⟨0,[],Nat.zero_le _,rfl,Q0n.nil _ _ _ _,⟨rfl,fun i hi=>by simp at hi⟩,Ext.refl _⟩
 case round =>
  obtain ⟨k,vs,hk,rfl,Yq,Kc,hx⟩:=hrel;have Fq:vs.length=k:=by have:=Kc.1; rw [List.length_take] at this; omega
  have Jc:=hid Kc;clear Kc
  by_cases Tq:k < ll.length
  . obtain ⟨b,off,m,rfl,-,Xq,hm⟩:=HC.out k Tq
    have qV:=hid (Jc.out.snoc hm);have tk:=hid (Z6g ll Tq);obtain ⟨Am,ak,rfl,-,-,-⟩:=hm.opened;obtain ⟨n,hn⟩:∃ n,(ll.getD k []).length=n:=⟨_,rfl⟩;rw [hn] at qV Xq;replace Xq:=hx.cell Xq;have o7:=hid (Z8g wr (.slice Am n ak));have Mv:vs.length <= 4096:=by omega
    clear Fq hm hn;go_wp2_with (first | (refine o7.out.mono ?_; rintro e w9 ⟨rfl,rfl⟩) | (at_builtin; refine wpList_append_own _ rfl _ _ 72 rfl (w.heap.size) 22 i0 (.slice none 0 0) 1 24 underlying72 hi fq mq iq rfl (by decide) _ _ _ rfl (World.ownsRow.alloc Yq _) ⟨wr.heap.size,0,none⟩ 1 1 [.slice Am n ak] rfl rfl ?_ ?_ ?_ ?_ ?_ ?_; exact Q4d _ _ _; (focus (simp [Value.oneCell'])); (focus (unfold maxLen; omega)); (focus omega); (focus (have:=hx.size; simp at this ⊢; omega)); intro v' w1 Oq Pq _))
    have hx':=Q2d hx Yq (Nat.le_refl _) Pq;go_wp2;go_roundw
    case rel=>exact ⟨k + 1,vs ++ [.slice Am n ak],by omega,by go_num,Q0n.snoc (x:=Value.slice Am n ak) Oq,by rw [tk.out]; exact qV.out,hx'⟩
    case measure=>simp [intOf]; omega
  . have HE:Hid (ll.take k=ll):=hid (List.take_of_length_le (by omega))
    rw [HE.out] at Jc;have Qz:=hid Yq;clear Yq Fq;go_wp2;go_ret;exact ⟨_,rfl,Qz.out.K0t (Jc.out.ext hx) hl,hx⟩
def J4p (s:Q0b):List (List Int):=if s.err=0 then s.hist else []
theorem Z6m (w:World):Q4g w (.slice none 0 0) []:=Go.Tw.Rows.nil _ _ _
theorem J7g {s:Q0b} (hS:Q0w s):s.hist.length <= 4096:=by
 have hpos:∀ (h:List Int) (row:List (List Int)) n,Q2e h row n <= n:=fun h row n=>(posB h row n).1;have Ez:∀ (h:List Int) (row:List (List Int)),(Q7t h row).length <= row.length + 1:=fun h row=>by
  unfold Q7t;have:=hpos h row row.length;dsimp only
  split
  . omega
  . simp only [List.length_append,List.length_take,List.length_drop,List.length_cons,List.length_nil]; omega
 have t8:∀ t i,(s.Q6d t i).length <= i:=by
  intro t i
  induction i with
  | zero=>exact Nat.le_refl _
  | succ i ih =>
    have:=Ez ((Q0c s.members i).take (t + 1)) (s.Q6d t i);show (Q7t ((Q0c s.members i).take (t + 1)) (s.Q6d t i)).length <= _;omega
 have oq:∀ n,(s.Q6a n).length <= n * s.members.length:=by
  intro n
  induction n with
  | zero=>exact Nat.zero_le _
  | succ n ih =>
    show (s.Q6a n ++ s.Q6d n s.members.length).length <= _;have:=t8 n s.members.length;rw [List.length_append,Nat.add_mul,Nat.one_mul];omega
 have h1:=oq s.ships.length;have h2:s.ships.length * s.members.length <= 6 * 8:=Nat.mul_le_mul hS.tides.2 hS.some.2;show (s.Q6a s.ships.length).length <= _;omega
theorem Y2t (w:World) (v:Value) (s:Q0b) (hv:Q0g w v s) (hs:Q3v s) :
    Calls prog 42 #[v] w fun e w'=>∃ x,e=.returned (.tuple #[x,.int .i64 s.err]) /\ Q4g w' x (J4p s) /\ Ext w w':=by
 obtain ⟨a,b,rfl,h2⟩:=hv;obtain ⟨A,Uq,rfl,-,-,-⟩:=h2.ships.opened;obtain ⟨B,Wq,rfl,-,-,-⟩:=h2.members.opened;have H2:=hid h2;have HS:=hid hs;clear h2 hs;go_enter func42,ntmps42;go_wp2_with fail;change Calls _ _ _ (w.alloc (.cells #[.int .i64 s.limit,.slice A s.ships.length Uq,.slice B s.members.length Wq] 34)) _;obtain ⟨W,Nq,k0,Sq,eW⟩:=Q1y w 34 #[.int .i64 s.limit,.slice A s.ships.length Uq,.slice B s.members.length Wq];rw [Nq];clear Nq;have K0:=hid k0;clear k0;refine (Q1x _ _ s ⟨_,_,rfl,H2.out.ext Sq.out⟩ HS.out).mono ?_;rintro e w5 ⟨rfl,Cq⟩;have vq:=hid (Sq.out.trans Cq);have dx:=hid (K0.out.ext Cq)
 by_cases he:s.err=0
 . have HV:=hid (Q0w.of he)
   have HF:Hid (J4p s=s.hist):=hid (if_pos he);have Ex:=hid he;have hne:(s.err != 0)=false:=by simp [he]
   obtain ⟨E,hE⟩:∃ E,s.err=E:=⟨_,rfl⟩;have Fx:=hid (hE.symm.trans he);have c0:=(dx.out).cell 0;have c1:=(dx.out).cell 1;have c2:=(dx.out).cell 2;simp only [Go.Tw.gA,Go.Tw.gB,Go.Tw.gC] at c0 c1 c2;rw [hE] at hne ⊢;rw [Fx.out];clear he hE Cq;go_wp2_with (first | (go_at_call 99; refine (Q9g _ _ s ⟨_,_,rfl,H2.out.ext vq.out⟩ HV.out).mono ?_; rintro e w6 ⟨x,rfl,Gc,Kj⟩; have bn:=hid Gc; obtain ⟨A6,c6,rfl,-,-,-⟩:=Gc.opened; clear Gc) | (go_at_call 114; refine (Y3b _ _ s.hist bn.out (J7g HV.out)).mono ?_; rintro e w7 ⟨x,rfl,Zo,W4⟩))
   go_ret2;exact ⟨_,by rw [Ex.out]; rfl,by rw [HF.out]; exact Zo,vq.out.trans (Kj.trans W4)⟩
 . have HF:Hid (J4p s=[]):=hid (if_neg he)
   have hne:(s.err != 0)=true:=by simp [he]
   obtain ⟨E,hE⟩:∃ E,s.err=E:=⟨_,rfl⟩;have Ex:=hid hE;rw [hE] at hne ⊢;clear he hE Cq;go_wp2;go_ret2;exact ⟨_,by rw [Ex.out]; rfl,by rw [HF.out]; exact Z6m _,vq.out⟩
end Go.Proofs
namespace Go.Tw
open Go.RowKit Go.Flow
def maxL (l:List Int):Int:=l.tail.foldl max (l.headD 0)
def Y6g (l:List Int) (k:Nat):Int:=((l.take k).tail).foldl max (l.headD 0)
theorem Z9j (l:List Int) (h:0 < l.length):Y6g l 1=ix l 0:=by
 cases l with
 | nil=>simp at h
 | cons x l=>simp [Y6g,ix]
theorem Z7o (l:List Int) (k:Nat) (h0:0 < k) (hk:k < l.length):Y6g l (k + 1)=max (Y6g l k) (ix l k):=by
 unfold Y6g;rw [List.take_succ_eq_append_getElem hk,Q5i hk];have h1:(l.take k) ≠ []:=by intro h; have:=congrArg List.length h; rw [List.length_take,List.length_nil] at this; omega
 rw [List.tail_append_of_ne_nil h1,List.foldl_append]; rfl
theorem Z9x (l:List Int):Y6g l l.length=maxL l:=by unfold Y6g maxL; rw [List.take_length]
theorem X3y {α:Type} (f:α -> Int):∀ (l:List α) (m:Int),l.foldl (fun m x=>max m (f x)) m=(l.map f).foldl max m
 | [],_=>rfl
 | x :: l,m=>by simp only [List.foldl_cons,List.map_cons]; exact X3y f l _
theorem J5r {s:Q0b} (hn:Q3o s ≠ []) (h0:∀ x ∈ Q3o s,0 <= x.weight):maxL ((Q3o s).map Plan.weight)=J3j s:=by
 unfold J3j maxL;rw [X3y Plan.weight];cases hp:Q3o s with
 | nil=>exact absurd hp hn
 | cons x l =>
   simp only [List.map_cons,List.tail_cons,List.headD_cons,List.foldl_cons];have hx:=h0 x (by rw [hp]; exact List.mem_cons_self)
   rw [show max (0:Int) x.weight=x.weight by omega]
def J5l (s:Q0b):Int:=if s.err=0 then J3j s else 0
end Go.Tw
namespace Go.Proofs
open Go.RowKit Go.Tw Go.Flow Tryz
attribute [local go_sem] Oper.semAt_some
theorem J5i (w:World) (v:Value) (l:List Int) (hv:Q0e w v l) (h0:0 < l.length) (Pj:l.length <= 100000) :
    Calls prog 92 #[v] w fun e w'=>e=.returned (.int .i64 (maxL l)) /\ w'=w:=by
 obtain ⟨A,Qq,rfl,hl,Kq,hc⟩:=hv.opened;have HC:=hid hc;obtain ⟨b,off,rfl,Eh⟩:=hc 0 h0;rw [Nat.add_zero] at Eh;have Dm:(0:Int) < l.length:=by omega
 have Cm:¬ (l.length:Int) < 1:=by omega
 have E8:=hid (Z9j l h0);have ua:=hid (Z9x l);clear hv hc;obtain ⟨y,hy⟩:∃ z,ix l 0=z:=⟨_,rfl⟩;rw [hy] at Eh E8;clear hy;go_enter func92,ntmps92;go_wp2
 go_loopw [3,4] (fun m i wr=>∃ (k:Nat),0 < k /\ k <= l.length /\ i=.int .i64 k /\ m=.int .i64 (Y6g l k) /\ wr=w) (fun _ i _=>l.length - (intOf i).toNat)
 case atStart=>exact ⟨1,by omega,h0,rfl,by rw [E8.out],rfl⟩
 case round =>
  obtain ⟨k,vk,hk,rfl,rfl,rfl⟩:=hrel
  by_cases Tq:k < l.length
  . obtain ⟨_,_,he,Xq⟩:=HC.out k Tq
    cases he;have Lj:(k:Int) < l.length:=by omega
    have Z2:IntKind.i64.wrap ((k:Int) + 1)=(k:Int) + 1:=Q3b _ (by omega) (by omega)
    have HS:=hid (Z7o l k vk Tq);obtain ⟨z,hz⟩:∃ z,ix l k=z:=⟨_,rfl⟩;rw [hz] at Xq HS;obtain ⟨m,hm⟩:∃ m,Y6g l k=m:=⟨_,rfl⟩;rw [hm] at HS ⊢;clear hz hm;go_wp2;go_roundw
    case rel=>exact ⟨k + 1,by omega,by omega,by go_num,by rw [HS.out],trivial⟩
    case measure=>simp [intOf]; omega
  . have Cj:k=l.length:=by omega
    subst Cj;go_wp2;go_ret;exact ⟨by rw [ua.out]; rfl,rfl⟩
theorem J2b (w:World) (a b c:Int) (v:Value) (A:Option Addr) (n cp:Nat) (hv:v=.slice A n cp) :
    Calls prog 95 #[.agg #[.int .i64 a,.int .i64 b,.int .i64 c,v]] w fun e w'=>e=.returned (.int .i64 a) /\ Ext w w':=by
 subst hv;have yq:=Ext.box w (.cells #[.int .i64 a,.int .i64 b,.int .i64 c,.slice A n cp] 159);have K3:=Blk.made w 159 #[.int .i64 a,.int .i64 b,.int .i64 c,.slice A n cp];have d0:=(K3).cell 0;have d1:=(K3).cell 1;have d2:=(K3).cell 2;have d3:=(K3).cell 3;simp only [Go.Tw.gA,Go.Tw.gB,Go.Tw.gC] at d0 d1 d2 d3;clear K3;go_enter func95,ntmps95;go_wp2;go_ret;exact ⟨rfl,yq⟩
theorem Y2r (w:World) (B:Nat) (v:Value) (ps:List PV) (hv:Q1b w B 159 4 Q3f v ps) (Kx:Q0r w ps) (hl:ps.length <= 80000) :
    Calls prog 93 #[v,.func (.func 95) #[] #[]] w fun e w'=>∃ x,e=.returned x /\ Q0n w' w.heap.size 3 (.int .i64) x ((ps.map (·.1)).map Plan.weight) /\ Ext w w':=by
 obtain ⟨i0,hi,fq,mq,iq⟩:=info_parts info3;have O4:=hid Kx;obtain ⟨A,cv,Aj,xj⟩:=Q8m hv;subst Aj;obtain ⟨L,hL⟩:∃ L,ps.length=L:=⟨_,rfl⟩;have HL:=hid hL;rw [hL] at hl ⊢;obtain ⟨ws,b9⟩:∃ z,(ps.map (·.1)).map Plan.weight=z:=⟨_,rfl⟩;have VJ:=hid b9;have Dh:Hid (ws.length=L):=hid (by rw [<- b9,List.length_map,List.length_map]; exact hL)
 rw [b9];clear hv Kx hL b9;go_enter func93,ntmps93;go_wp2
 go_loopw [5,10] (fun o i wr=>∃ (k:Nat),k <= L /\ i=.int .i64 k /\ Q0n wr w.heap.size 3 (.int .i64) o (ws.take k) /\ Ext w wr) (fun _ i _=>L - (intOf i).toNat)
 case atStart=>exact ⟨0,Nat.zero_le _,rfl,Q0n.nil _ _ _ _,Ext.refl _⟩
 case round =>
  obtain ⟨k,hk,rfl,Yq,hx⟩:=hrel;have HX:=hid hx;have lq:=hid Yq
  by_cases Tq:k < L
  . have Oj:k < ps.length:=by rw [HL.out]; exact Tq
    have Lj:(k:Int) < L:=by omega
    obtain ⟨gb,rfl,Xq⟩:=xj.out k Oj;have e0:=hx.cell (Xq 0 (by omega))
    have e1:=hx.cell (Xq 1 (by omega))
    have e2:=hx.cell (Xq 2 (by omega))
    have e3:=hx.cell (Xq 3 (by omega))
    obtain ⟨A4,n4,c4,qx⟩:=O4.out.shape (List.getElem_mem Oj);have qq:Hid (ws.take (k + 1)=ws.take k ++ [ps[k].1.weight]):=hid (by
     rw [List.take_succ_eq_append_getElem (by rw [Dh.out]; exact Tq)]
     congr 2
     simp only [<- VJ.out,List.getElem_map])
    obtain ⟨qk,Jx⟩:∃ z,ps[k]=z:=⟨_,rfl⟩;rw [Jx] at e0 e1 e2 e3 qx qq;obtain ⟨x,xv⟩:=qk;replace qx:xv=.slice A4 n4 c4:=qx;subst qx;rw [Nat.add_zero] at e0;obtain ⟨x1,Yj⟩:∃ z,x.weight=z:=⟨_,rfl⟩;obtain ⟨x2,Mq⟩:∃ z,x.closings=z:=⟨_,rfl⟩;obtain ⟨x3,Dj⟩:∃ z,x.delay=z:=⟨_,rfl⟩;replace qq:Hid (ws.take (k + 1)=ws.take k ++ [x1]):=hid (by rw [qq.out,<- Yj])
    replace e0:wr.cell? ⟨gb,k * 4,none⟩=some (.int .i64 x1):=by rw [<- Yj]; exact e0
    replace e1:wr.cell? ⟨gb,k * 4 + 1,none⟩=some (.int .i64 x2):=by rw [<- Mq]; exact e1
    replace e2:wr.cell? ⟨gb,k * 4 + 2,none⟩=some (.int .i64 x3):=by rw [<- Dj]; exact e2
    replace e3:wr.cell? ⟨gb,k * 4 + 3,none⟩=some (.slice A4 n4 c4):=e3;have yq:=Ext.box wr (.cells #[.int .i64 x1,.int .i64 x2,.int .i64 x3,.slice A4 n4 c4] 159);have K3:=Blk.made wr 159 #[.int .i64 x1,.int .i64 x2,.int .i64 x3,.slice A4 n4 c4];have d0:=(K3).cell 0;have d1:=(K3).cell 1;have d2:=(K3).cell 2;have d3:=(K3).cell 3;simp only [Go.Tw.gA,Go.Tw.gB,Go.Tw.gC] at d0 d1 d2 d3;have zj:=hid yq;have Mv:(ws.take k).length <= 80000:=by rw [List.length_take]; omega
    clear Xq Jx Yj Mq Dj yq K3 Yq hx Oj
    go_light
    go_wp2_with (first | (refine (J2b _ _ _ _ _ A4 n4 c4 rfl).mono ?_; rintro e w5 ⟨rfl,Cq⟩; have Yq:=lq.out.below (zj.out.trans Cq); have Kj:=HX.out.trans (zj.out.trans Cq)) | (at_builtin; refine wpList_append_own _ rfl _ _ 22 rfl (w.heap.size) 3 i0 (.int .i64 0) 1 8 underlying22 hi fq mq iq rfl (by decide) _ _ _ rfl (World.ownsRow.alloc Yq _) ⟨w5.heap.size,0,none⟩ 1 1 [.int .i64 x1] rfl rfl ?_ ?_ ?_ ?_ ?_ ?_; exact Q4d _ _ _; (focus (simp [Value.oneCell'])); (focus (unfold maxLen; omega)); (focus omega); (focus (have:=Kj.size; simp at this ⊢; omega)); intro v' w1 Oq Pq _))
    have hx':=Q2d Kj Yq (Nat.le_refl _) Pq;go_wp2;go_roundw
    case rel=>exact ⟨k + 1,by omega,by go_num,by rw [qq.out]; exact Q0n.snoc Oq,hx'⟩
    case measure=>simp [intOf]; omega
  . have Cj:k=L:=by omega
    subst Cj;have HE:Hid (ws.take k=ws):=hid (List.take_of_length_le (by rw [Dh.out]; omega))
    rw [HE.out] at lq;clear Yq hx;go_wp2;go_ret;exact ⟨_,rfl,lq.out,HX.out⟩
theorem J2h (w:World) (v:Value) (s:Q0b) (hv:Q0g w v s) (hs:Q3v s) (hF:s.hist.length <= 9) :
    Calls prog 19 #[v] w fun e w'=>e=.returned (.tuple #[.int .i64 (J5l s),.int .i64 s.err]) /\ Ext w w':=by
 obtain ⟨a,b,rfl,h2⟩:=hv;obtain ⟨A,Uq,rfl,-,-,-⟩:=h2.ships.opened;obtain ⟨B,Wq,rfl,-,-,-⟩:=h2.members.opened;have H2:=hid h2;have HS:=hid hs;have Pk:=hid hF;clear h2 hs hF;go_enter func19,ntmps19;go_wp2_with fail;change Calls _ _ _ (w.alloc (.cells #[.int .i64 s.limit,.slice A s.ships.length Uq,.slice B s.members.length Wq] 34)) _;obtain ⟨W,Nq,k0,Sq,eW⟩:=Q1y w 34 #[.int .i64 s.limit,.slice A s.ships.length Uq,.slice B s.members.length Wq];rw [Nq];clear Nq;have K0:=hid k0;clear k0;refine (Q1x _ _ s ⟨_,_,rfl,H2.out.ext Sq.out⟩ HS.out).mono ?_;rintro e w5 ⟨rfl,Cq⟩;have vq:=hid (Sq.out.trans Cq);have dx:=hid (K0.out.ext Cq)
 by_cases he:s.err=0
 . have hV:=Q0w.of he
   have Gk:=hid (Z0k w5 _ s ⟨_,_,rfl,H2.out.ext vq.out⟩ hV Pk.out);have Pz:=Q8c hV s.ships.length (Nat.le_refl _) (Y6r s) Q8n X0f;have pV:Q2u s s.ships.length (Y6r s)=Q3o s:=rfl;rw [pV] at Pz;have E6:(Q3o s).length <= 512:=by
    have h1:2 ^ X6g s (s.ships.length - s.ships.length) (Y6r s) <= 2 ^ 9:=Nat.pow_le_pow_right (by omega) (Nat.le_trans (Y1i _ _) Pk.out)
    omega
   have Fc:Q3o s ≠ []:=fun hp=>by
    obtain ⟨o,ho,_⟩:=Z3e hV.toFine (fun _=>false)
    rw [hp] at ho; simp at ho
   have Ma:=hid (J5r Fc fun x hx=>(Pz.2 x hx).w.1);have Ex:=hid E6;have Ec:Hid (0 < (Q3o s).length):=hid (List.length_pos_iff.2 Fc);have HF:Hid (J5l s=J3j s):=hid (if_pos he);have hne:(s.err != 0)=false:=by simp [he]
   obtain ⟨E,hE⟩:∃ E,s.err=E:=⟨_,rfl⟩;have Fx:=hid (hE.symm.trans he);have c0:=(dx.out).cell 0;have c1:=(dx.out).cell 1;have c2:=(dx.out).cell 2;simp only [Go.Tw.gA,Go.Tw.gB,Go.Tw.gC] at c0 c1 c2;rw [hE] at hne ⊢;rw [Fx.out];have jw:=hid he;clear he hE Cq hV Pz pV E6 Fc;go_wp2_with (go_at_call 94; refine Gk.out.mono ?_; rintro e w6 ⟨x6,qs6,rfl,h1,h2,h3,h4⟩; refine halted ?_);have Yx:=hid h4;have o9:=hid h3;have nJ:Hid (qs6.length=(Q3o s).length):=hid (by rw [<- h3,List.length_map])
   have qQ:=hid (Y2r w6 _ x6 qs6 h1 h2 (by rw [nJ.out]; have:=Ex.out; omega))
   clear h1 h2 h3 h4;unfold Q1o;go_wp2_with (go_at_call 93; refine qQ.out.mono ?_; rintro e w7 ⟨x7,rfl,h1,h2⟩; refine halted ?_);have pz:=hid h2;have HI:=hid (J5i w7 x7 _ (h1.ints (by rw [List.length_map,List.length_map,nJ.out]; have:=Ex.out; omega)) (by rw [List.length_map,List.length_map,nJ.out]; exact Ec.out) (by rw [List.length_map,List.length_map,nJ.out]; have:=Ex.out; omega))
   rw [o9.out,Ma.out] at HI;clear h1 h2;unfold Q1o;go_wp2_with (go_at_call 92; refine HI.out.mono ?_; rintro e w8 ⟨rfl,rfl⟩; refine halted ?_);unfold Q1o;go_wp2;go_ret2;exact ⟨by rw [HF.out,jw.out]; rfl,vq.out.trans (Yx.out.trans pz.out)⟩
 . have HF:Hid (J5l s=0):=hid (if_neg he)
   have hne:(s.err != 0)=true:=by simp [he]
   obtain ⟨E,hE⟩:∃ E,s.err=E:=⟨_,rfl⟩;have Ex:=hid hE;rw [hE] at hne ⊢;clear he hE Cq;go_wp2;go_ret2;exact ⟨by rw [HF.out,Ex.out]; rfl,vq.out⟩
end Go.Proofs
namespace Go.Tw
open Go.RowKit Go.Flow
def anyS (l:List ByteArray) (s:ByteArray):Bool:=l.any fun x=>s == x
theorem Y5k (l:List ByteArray) (s:ByteArray):l.contains s=anyS l s:=List.contains_eq_any_beq
theorem J0e {l:List ByteArray} {k:Nat} (h:k < l.length) (s:ByteArray):anyS (l.drop k) s=(s == l[k] || anyS (l.drop (k + 1)) s):=by
 rw [List.drop_eq_getElem_cons h]; rfl
def Z3n (q:Value × Bool):List Value:=[q.1,.bool q.2]
theorem Y8h (q:Value × Bool):(Z3n q).length=2:=rfl
end Go.Tw
namespace Go.Proofs
open Go.RowKit Go.Tw Go.Flow Tryz
attribute [local go_sem] Oper.semAt_some
theorem Z1c (w:World) (B:Nat) (v:Value) (l:List ByteArray) (s:ByteArray) (hv:Q0n w B 9 .string v l) (Pj:l.length <= 100000) :
    Calls prog 163 #[v,.string s] w fun e w'=>∃ r:Int,e=.returned (.int .i64 r) /\ decide (0 <= r)=anyS l s /\ w=w':=by
 obtain ⟨A,Qq,rfl,Kq,hc⟩:=hv.cells;clear hv;go_enter func163,ntmps163;go_wp2
 go_loop [8] (fun i=>∃ k:Nat,k <= l.length /\ i=.int .i64 k /\ anyS (l.drop k) s=anyS l s) (fun i=>l.length - (intOf i).toNat)
 case atStart=>exact ⟨0,Nat.zero_le _,rfl,rfl⟩
 case round =>
  obtain ⟨k,hk,rfl,hr⟩:=hrel;have HR:=hid hr; clear hr
  by_cases Tq:k < l.length
  . obtain ⟨b,rfl,-,-,Xq⟩:=hc k Tq
    rw [Nat.zero_add] at Xq;have HD:=hid (J0e Tq s);have Lj:(k:Int) < l.length:=by omega
    obtain ⟨y,hy⟩:∃ y,l[k]=y:=⟨_,rfl⟩;rw [hy] at Xq HD;clear hc hy
    by_cases hx:s=y
    . have HX:=hid (str_eq hx)
      have Yj:=toList_eq rfl hx;clear hx;go_wp2;go_ret;exact ⟨k,rfl,by rw [<- HR.out,HD.out,HX.out,Bool.true_or]; simp,rfl⟩
    . have HX:=hid (X3g hx)
      have Yj:=Z9i rfl hx;clear hx;go_wp2;go_round
      case rel=>exact ⟨k + 1,by omega,by go_num,by rw [<- HR.out,HD.out,HX.out,Bool.false_or]⟩
      case measure=>simp [intOf]; omega
  . clear hc
    go_wp2;go_ret;exact ⟨-1,rfl,by rw [<- HR.out,List.drop_eq_nil_of_le (by omega)]; rfl,rfl⟩
theorem Y0w (w:World) (B:Nat) (v:Value) (l:List ByteArray) (s:ByteArray) (hv:Q0n w B 9 .string v l) (Pj:l.length <= 100000) :
    Calls prog 101 #[v,.string s] w fun e w'=>e=.returned (.bool (l.contains s)) /\ w=w':=by
 rw [Y5k];have HI:=hid (Z1c w B v l s hv Pj);obtain ⟨A,Qq,rfl,Kq,hc⟩:=hv.cells;clear hv hc;go_enter func101,ntmps101;go_wp2_with (go_at_call 163; refine HI.out.mono ?_; rintro e w' ⟨r,rfl,hr,rfl⟩; have HR:=hid hr; clear hr);go_ret;exact ⟨by rw [<- HR.out]; rfl,rfl⟩
theorem Tryz.K2d (w:World):(isAgg 167).run prog w=.ok true w:=by kernel_rfl
theorem Tryz.J6i (w:World):(sizeOf 167).run prog w=.ok 2 w:=by kernel_rfl
theorem Tryz.J9n:(prog.info? 167).map (fun i=>(i.zero,i.size,i.bytes))=some (some (.agg #[.slice none 0 0,.bool false]),2,32):=by kernel_rfl
theorem J2t {A:Option Addr} {n c:Nat} {b:Bool}:∀ u ∈ (#[Value.slice A n c,.bool b]:Array Value).toList,u.oneCell'=true:=by
 intro u hu;simp only [List.mem_cons,List.not_mem_nil,or_false] at hu
 rcases hu with rfl | rfl <;> rfl
theorem J3a (w:World) (h:List Int) (X:Option Addr) (n c g:Nat) (v:Value) (cl:List ByteArray) (hv:Q0e w (.slice X n c) h) (hd:Digits h) (hl:h.length <= 4096) (hg:w.cell? ⟨g,3,none⟩=some v) (ho:Q0n w 0 9 .string v cl) (hcl:cl.length <= 100000) :
    Calls prog 100 #[.slice X n c,.pointer (some ⟨g,0,none⟩)] w fun e w'=>e=.returned (.agg #[.slice X n c,.bool (cl.contains (Q7g h))]) /\ Ext w w':=by
 have HK:=hid (fun (W:World) (hW:Ext w W)=>Y5r W _ h (hv.ext hW) hl hd);have HC:=hid (fun (W:World) (hW:Ext w W)=>Y0w W 0 v cl (Q7g h) (ho.below hW) hcl);have HG:=hid hg;obtain ⟨Av,cv,Yo,-⟩:=ho.shape;subst Yo;obtain ⟨q,hq⟩:∃ q,cl.contains (Q7g h)=q:=⟨_,rfl⟩;rw [hq] at HC ⊢;obtain ⟨kh,Ch⟩:∃ k,Q7g h=k:=⟨_,rfl⟩;rw [Ch] at HK HC;clear hv hd hg ho hq Ch;go_enter func100,ntmps100;go_wp2_with fail;change Code.wp _ _ _ _ (w.alloc (.cells #[.slice none 0 0,.bool false] 167));obtain ⟨W,Nq,k0,Sq,eW⟩:=Q1y w 167 #[.slice none 0 0,.bool false];rw [Nq];clear Nq;have K0:=hid k0;obtain ⟨gp,Yk⟩:∃ z,w.heap.size=z:=⟨_,rfl⟩;have Ag:=hid Yk;rw [Yk] at K0 eW ⊢;clear k0 Yk;have Vq:=(Ext.refl W).drew;refine Flow.Q4h [.p,.p,.w,.p,.w,.w,.p,.last] [0,1,2,3,4,5,6,7] [[],[],[1],[],[3],[1,2,3,4],[0,1,2,3,4,5],[0,1,2,3,4,5,6]] [7]
  [.c 0 (.slice X n c),.c 1 (.pointer (some ⟨g,3,none⟩)),.c 2 (.slice Av cl.length cv),.c 3 (.slice X n c),.c 4 (.string kh),.c 5 (.bool q),.c 6 (.agg #[.slice X n c,.bool q]),.none]
  [fun v w1 w'=>Blk w' gp 167 #[.slice X n c,.bool q] /\ (∀ n,n <= gp -> Below n w1 w')] (by kernel_rfl) rfl (by kernel_rfl) ⟨?g0,?g1,?g2,?g3,?g4,?g5,?g6,?g7,trivial⟩ ?post
 case g0 | g1 | g3=>
  intro v w1 hx;intro bb hbb;subst hbb;refine ⟨_,fun w=>?_,rfl⟩;go_simp
 case g2=>
  intro v w1 hx;(repeat intro (zq:v _=_));intro bb hbb;subst hbb;have n0:w1.cell? ⟨g,3,none⟩=some (.slice Av cl.length cv):=(Sq.out.trans (Vq.trans hx)).cell HG.out;intro K hK;go_simp;exact hK _ _ (Ext.refl _) rfl
 case g4=>
  intro v w1 hx;(repeat intro (zq:v _=_));intro bb hbb;subst hbb;intro K hK;go_simp;refine Q0d (HK.out w1 (Sq.out.trans (Vq.trans hx))) ?_;rintro e w2 ⟨rfl,Mq⟩;exact ⟨_,rfl,hK _ _ Mq rfl⟩
 case g5=>
  intro v w1 hx;(repeat intro (zq:v _=_));intro bb hbb;subst hbb;intro K hK;go_simp;refine Q0d (HC.out w1 (Sq.out.trans (Vq.trans hx))) ?_;rintro e w2 ⟨rfl,rfl⟩;exact ⟨_,rfl,hK _ _ (Ext.refl _) rfl⟩
 case g6=>
  intro v w1 hx;(repeat intro (zq:v _=_));intro bb hbb;subst hbb;refine ⟨_,fun w=>?_,rfl⟩;go_simp
 case g7=>
  intro v w1 hx;(repeat intro (zq:v _=_));intro wl hT;obtain rfl:wl=w1:=hT;intro bb hbb;intro K hK;have o1:bb.eval (.tmp 3)=.pointer (some ⟨gp,0,none⟩):=fze09
  have o2:bb.eval (.tmp 10)=.agg #[.slice X n c,.bool q]:=by rw [hbb]; dsimp only; (try simp (discharger:=decide) only [eval_put_ne]); rw [Q0a (by simp only [size_put]; exact (by decide:10 < 11))]; assumption
  exact Q2i (.tmp 3) (.tmp 10) _ rfl J6i o1 o2 (K0.out.ext (Vq.trans hx)) rfl rfl J2t (fun vv w' hb hl ho=>hK _ _ ⟨hb,hl⟩)
 case post =>
  intro v w1 hx;(iterate 7 intro (zq:v _=_));intro w2 hE;replace hE:(fun v w1 w'=>Blk w' gp 167 #[.slice X n c,.bool q] /\ (∀ n,n <= gp -> Below n w1 w')) v w1 w2:=hE;simp only [Flow.acts,Act.put];go_simp;obtain ⟨Fj,Pj⟩:=hE;have ij:Hid (Below w.heap.size W w2):=hid (Below.trans ((Vq.trans hx).mono (by have:=Ag.out; omega)) (Pj _ (by have:=Ag.out; omega)))
  clear hx Vq Pj;(repeat clear zq);go_wp2;refine bodyPost_ret (Q2h results100 rfl Fj K2d J6i) rfl ?_;exact ⟨rfl,Below.trans Sq.out ij.out⟩
def Q5f (ll:List (List Int)) (cl:List ByteArray):List Rul:=ll.map fun h=>⟨h,cl.contains (Q7g h)⟩
def J9c (w:World) (ll:List (List Int)) (cl:List ByteArray) (rs:List (Value × Bool)):Prop:=∀ j (h1:j < rs.length) (h2:j < ll.length),Q0e w rs[j].1 ll[j] /\ rs[j].2=cl.contains (Q7g ll[j])
theorem J9c.snoc {w:World} {ll:List (List Int)} {cl:List ByteArray} {rs:List (Value × Bool)} {k:Nat} (h:J9c w ll cl rs) (hk:rs.length=k) {v:Value} {q:Bool} (Tq:k < ll.length) (hv:Q0e w v ll[k]) (hq:cl.contains (Q7g ll[k])=q):J9c w ll cl (rs ++ [(v,q)]):=fun j h1 h2=>by
 by_cases hj:j < rs.length
 . rw [List.getElem_append_left hj]; exact h j hj h2
 . rw [List.length_append,List.length_singleton] at h1
   have:j=k:=by omega
   subst this;rw [List.getElem_append_right (by omega)]
   simp only [hk,Nat.sub_self,List.getElem_cons_zero];exact ⟨hv,hq.symm⟩
theorem J5p {w w':World} {B:Nat} {ll:List (List Int)} {cl:List ByteArray} {rs:List (Value × Bool)} {v:Value} (h:Q1b w' B 167 2 Z3n v rs) (Fq:rs.length=ll.length) (hl:ll.length <= 4096) (hr:J9c w ll cl rs) (hx:Ext w w'):Q1d w' v (Q5f ll cl):=by
 refine Q1b.rowsOf (l:=Q5f ll cl) h (by rw [Fq,Q5f,List.length_map]) (by rw [Q5f,List.length_map]; omega) Y8h (fun j h1 h2=>?_) (fun c c' x hc hh=>?_)
 . have h3:j < ll.length:=by omega
   obtain ⟨a,b⟩:=hr j h1 h3;have e:(Q5f ll cl)[j]=⟨ll[j],cl.contains (Q7g ll[j])⟩:=by simp [Q5f]
   rw [e];refine ⟨a.ext hx,?_⟩;show Value.bool rs[j].2=_;rw [b]
 . obtain ⟨a,b⟩:=hh
   exact ⟨by rw [<- hc 0 (by omega)]; exact a,by rw [<- hc 1 (by omega)]; exact b⟩
theorem Y3f (w:World) (v:Value) (ll:List (List Int)) (g:Nat) (pv:Value) (cl:List ByteArray) (hv:Q4g w v ll) (lx:ll.length <= 4096) (hd:∀ h ∈ ll,Digits h) (hh:∀ h ∈ ll,h.length <= 4096) (hg:w.cell? ⟨g,3,none⟩=some pv) (ho:Q0n w 0 9 .string pv cl) (hcl:cl.length <= 100000) :
    Calls prog 98 #[v,.func (.func 100) #[] #[.pointer (some ⟨g,0,none⟩)]] w fun e w'=>∃ x,e=.returned x /\ Q1d w' x (Q5f ll cl) /\ Ext w w':=by
 obtain ⟨i0,hi,fq,mq,iq⟩:=info_parts J9n;obtain ⟨A,Qq,rfl,hl,Kq,hc⟩:=hv.opened;have HC:=hid hc;have HB:=hid (fun (W:World) (h:List Int) (X:Option Addr) n c (hW:Ext w W) (hm:h ∈ ll) (hi:Q0e w (.slice X n c) h)=>J3a W h X n c g pv cl (hi.ext hW) (hd h hm) (hh h hm) (hW.cell hg) (ho.below hW) hcl);have cz:=hid (fun (w':World) (v:Value) (rs:List (Value × Bool)) (h:Q1b w' w.heap.size 167 2 Z3n v rs) (Fq:rs.length=ll.length) (hr:J9c w ll cl rs) (hx:Ext w w')=>J5p h Fq lx hr hx);clear hv hc hd hh hg ho hcl;go_enter func98,ntmps98;go_wp2
 go_loopw [5,10] (fun o i wr=>∃ (k:Nat) (rs:List (Value × Bool)),k <= ll.length /\ i=.int .i64 k /\ rs.length=k /\ Q1b wr w.heap.size 167 2 Z3n o rs /\ J9c w ll cl rs /\ Ext w wr) (fun _ i _=>ll.length - (intOf i).toNat)
 case atStart=>exact ⟨0,[],Nat.zero_le _,rfl,rfl,Q1b.nil _ _ _ _ _,fun j h1=>by simp at h1,Ext.refl _⟩
 case round =>
  obtain ⟨k,rs,hk,rfl,R0,Yq,Dc,hx⟩:=hrel;have HX:=hid hx;have lq:=hid Yq;have qV:=hid Dc;have ik:=hid R0
  by_cases Tq:k < ll.length
  . obtain ⟨b,off,m,rfl,-,Xq,hm⟩:=HC.out k Tq
    have LQ:ll.getD k []=ll[k]:=Q0t _ Tq;rw [LQ] at hm;obtain ⟨Am,ak,rfl,-,-,-⟩:=hm.opened;have Ek:=hid (fun (W:World) hW=>HB.out W ll[k] Am _ ak hW (List.getElem_mem Tq) hm);obtain ⟨q,hq⟩:∃ q,cl.contains (Q7g ll[k])=q:=⟨_,rfl⟩;have XQ:=hid (qV.out.snoc R0 Tq hm hq);rw [hq] at Ek;obtain ⟨n,hn⟩:∃ n,ll[k].length=n:=⟨_,rfl⟩;rw [hn] at Ek XQ Xq;replace Xq:=hx.cell Xq;have Lj:(k:Int) < ll.length:=by omega
    have ey:Hid (rs.length + 1 <= 100000):=hid (by omega)
    have Dv:=hid HX.out.size;obtain ⟨Ao,co,Ay,-⟩:=Yq.shape;subst Ay;clear LQ hm hq hn Yq Dc hx R0
    go_light
    go_wp2_with (first | (refine (Ek.out _ HX.out).mono ?_; rintro e w5 ⟨rfl,Cq⟩; have vq:=hid Cq; clear Cq) | (refine Q1r (o:=⟨some 19,_,_,_,_,_⟩) rfl ?_; refine Q2z (.tmp 14) (.tmp 18) 36 rfl w.heap.size 167 i0 (.agg #[.slice none 0 0,.bool false]) 2 32 underlying36 hi fq mq iq rfl (by decide) Z3n Y8h _ rs (Value.slice Am n ak,q) rfl (lq.out.below (vq.out.trans (Ext.box _ _))) ⟨w5.heap.size,0,none⟩ 1 rfl (Q6i (xs:=Z3n (Value.slice Am n ak,q)) (Blk.made _ _ _)) (by unfold Z3n; simp [Value.oneCell']) ey.out (by decide) (by have h1:=(vq.out.trans (Ext.box w5 (.cells #[.slice Am n ak,.bool q] 167))).size; have h2:=Dv.out; omega) ?_; intro v' w9 Oq Pq))
    have Zq:=vq.out.trans (Ext.box w5 (.cells #[.slice Am n ak,.bool q] 167));have Sy:=lq.out.below Zq;have K5:=hid Oq;have ij:Hid (Ext w w9):=hid (Below.grown (HX.out.trans Zq) Pq (by have:=Zq.size; have:=Dv.out; omega) (fun b hb=>(Sy.X0z b hb).1))
    have d9:Hid ((rs ++ [(Value.slice Am n ak,q)]).length=k + 1):=hid (by rw [List.length_append,ik.out]; rfl)
    clear Zq Sy Oq Pq;go_wp2;go_roundw
    case rel=>exact ⟨k + 1,rs ++ [(Value.slice Am n ak,q)],by omega,by go_num,d9.out,K5.out,XQ.out,ij.out⟩
    case measure=>simp [intOf]; omega
  . have Cj:k=ll.length:=by omega
    subst Cj;clear Yq Dc hx;go_wp2;go_ret;exact ⟨_,rfl,cz.out _ _ _ lq.out ik.out qV.out HX.out,HX.out⟩
end Go.Proofs
namespace Go.Tw
open Go.RowKit Go.Flow
def J2m (s:Q0b) (need:Int):Int:=Q0h [s.err,Q0f need 0 8000]
def Y5x (s:Q0b) (need:Int):Int × Int × Int:=if J2m s need ≠ 0 then (0,0,J2m s need) else match Z0r s need with
 | none=>(0,0,24)
 | some x=>(x.closings,x.delay,0)
def Z0c (s:Q0b) (need:Int):List Rul:=if J2m s need ≠ 0 then [] else match Z0r s need with
 | none=>[]
 | some x=>Y2p s x
def Z1t (s:Q0b) (need:Int) (k:Nat):Option Plan:=((Q3o s).take k).foldl (Q2m need) none
theorem Z8e {s:Q0b} {need:Int} {k:Nat} {x:Plan} (h:(Q3o s)[k]?=some x):Z1t s need (k + 1)=Q2m need (Z1t s need k) x:=by
 obtain ⟨hk,rfl⟩:=List.getElem?_eq_some_iff.1 h;unfold Z1t;rw [List.take_succ_eq_append_getElem hk,List.foldl_append]; rfl
theorem J0a (s:Q0b) (need:Int):Z1t s need (Q3o s).length=Z0r s need:=by unfold Z1t Z0r; rw [List.take_length]
end Go.Tw
namespace Go.Proofs
open Go.RowKit Go.Tw Go.Flow Tryz
attribute [local go_sem] Oper.semAt_some
theorem X0w {P:Program} {fn:Func} {p q r t:Tmp} {T:TypeId} (h:fn.results=#[.cell p T,.tmp q,.tmp r,.tmp t]) {tmps:Array Value} {w:World} {g:Nat} (ht:tmps.getD p undef=.pointer (some ⟨g,0,none⟩)) {BT:TypeId} {cs:Array Value} (hb:Blk w g BT cs)
    (hA:∀ w,(isAgg T).run P w=.ok true w) (hS:∀ w,(sizeOf T).run P w=.ok cs.size w) {a b c:Value} (hq:tmps.getD q undef=a) (hr:tmps.getD r undef=b) (hc:tmps.getD t undef=c):(results fn tmps).run P w=.ok (.tuple #[.agg cs,a,b,c]) w:=by
 unfold results;rw [h];simp only [List.mapM_toArray,List.mapM_cons,List.mapM_nil,Sem.run_bind,Sem.run_pure,ht,hq,hr,hc,asAddr];simp [Q4o hb hA hS]
theorem Q6z {P:Program} {ops:Array Oper} {Q:Exit -> Act -> World -> Prop} {rest:List Oper} {a:Act} {w:World} {T ty:TypeId} {p x:Operand} {pos} {after} (h:wpList P ops Q (⟨none,.store T p x,ty,pos,after,none⟩ :: rest) a w):wpList P ops Q (⟨none,.store T p x,ty,pos,after,none⟩ :: rest) a w:=h
def J5o (s:Q0b) (need:Int) (e:Ending) (w':World):Prop:=∃ x,e=.returned (.tuple #[.agg #[x],.int .i64 (Y5x s need).1,.int .i64 (Y5x s need).2.1,.int .i64 (Y5x s need).2.2]) /\ Q1d w' x (Z0c s need)
theorem X8q {A:Option Addr} {n c:Nat}:∀ u ∈ (#[Value.slice A n c]:Array Value).toList,u.oneCell'=true:=by
 intro u hu;simp only [List.mem_cons,List.not_mem_nil,or_false] at hu;subst hu; rfl
def J6n (w:World) (g:Nat):Option Plan -> Prop
 | none=>Blk w g 159 #[.int .i64 0,.int .i64 0,.int .i64 0,.slice none 0 0]
 | some o=>∃ A n c,Blk w g 159 #[.int .i64 o.weight,.int .i64 o.closings,.int .i64 o.delay,.slice A n c] /\ Q0n w 0 9 .string (.slice A n c) o.closed
theorem Y1p {O:Nat} {a b c:World} (h:Off O a b) (hl:∀ n,n <= O -> Below n b c) (ho:∀ k,k ≠ O -> c.heap[k]?=b.heap[k]?):Off O a c :=
 ⟨h.1.trans (hl O (Nat.le_refl _)),Nat.le_trans h.2.1 (hl O (Nat.le_refl _)).size,fun k hk hne=>(ho k hne).trans (h.2.2 k hk hne)⟩
theorem Q1n {a b:Int} (h:Q0h [a,b]=0):a=0 /\ b=0:=by
 unfold Q0h at h
 by_cases ha:a=0
 . subst ha
   simp [Q0h] at h;exact ⟨rfl,by by_cases hb:b=0 <;> simp_all⟩
 . rw [if_neg ha] at h; exact absurd h ha
def X6q (g:Nat) (T:TypeId) (cs:Array Value) (a b:World):Prop:=(∀ n,n <= g -> n <= a.heap.size -> Below n a b) /\ (∀ k,k < a.heap.size -> k ≠ g -> b.heap[k]?=a.heap[k]?) /\ (Blk a g T cs -> Blk b g T cs)
theorem X6q.refl (g:Nat) (T:TypeId) (cs:Array Value) (a:World):X6q g T cs a a:=⟨fun _ _ _=>Below.refl _ _,fun _ _ _=>rfl,id⟩
theorem X6q.size {g:Nat} {T:TypeId} {cs:Array Value} {a b:World} (h:X6q g T cs a b):a.heap.size <= b.heap.size:=(h.1 0 (Nat.zero_le _) (Nat.zero_le _)).size
theorem X6q.trans {g:Nat} {T:TypeId} {cs:Array Value} {a b c:World} (h:X6q g T cs a b) (k:X6q g T cs b c):X6q g T cs a c :=
 ⟨fun n hn hs=>(h.1 n hn hs).trans (k.1 n hn (Nat.le_trans hs h.size)),fun j hj hne=>(k.2.1 j (Nat.lt_of_lt_of_le hj h.size) hne).trans (h.2.1 j hj hne),fun x=>k.2.2 (h.2.2 x)⟩
theorem X6q.ext {g:Nat} {T:TypeId} {cs:Array Value} {a b:World} (h:Ext a b):X6q g T cs a b :=
 ⟨fun _ _ hs=>h.below hs,fun k hk _=>h.block k hk,fun x=>x.ext h⟩
theorem X6q.blk {g j:Nat} {T S:TypeId} {cs ds:Array Value} {a b:World} (h:X6q g T cs a b) (hb:Blk a j S ds) (hne:j ≠ g):Blk b j S ds:=(h.2.1 j hb.lt hne).trans hb
theorem Q9w {a b:World} {g i k:Nat} {u:Value} (h:a.cell? ⟨i,k,none⟩=some u) (hne:i ≠ g) (hk:∀ k,k < a.heap.size -> k ≠ g -> b.heap[k]?=a.heap[k]?):b.cell? ⟨i,k,none⟩=some u:=by
 have Tq:i < a.heap.size:=World.block_lt_of_cell? a _ h;rw [<- h];unfold World.cell?;rw [hk i Tq hne]
theorem X6l {a:World} {g i k n c:Nat} {T:TypeId} {A:Option Addr} {u:Value} (hg:Blk a g T #[.slice A n c]) (h:a.cell? ⟨i,k,none⟩=some u) (hu:∀ A n c,u ≠ .slice A n c):i ≠ g:=by
 rintro rfl;rw [hg.cell] at h;cases k with
 | zero=>simp at h; exact hu _ _ _ h.symm
 | succ k=>simp at h
theorem Y1a {a b:World} {g n c:Nat} {T:TypeId} {A:Option Addr} {v:Value} {l:List Int} (h:Q0e a v l) (hg:Blk a g T #[.slice A n c]) (hk:∀ k,k < a.heap.size -> k ≠ g -> b.heap[k]?=a.heap[k]?):Q0e b v l:=by
 obtain ⟨f,⟨A',Qq,hv,hn,Kq,hc⟩,h2⟩:=h;refine ⟨f,⟨A',Qq,hv,hn,Kq,fun j hj=>?_⟩,h2⟩;obtain ⟨b',off,hA,Xq⟩:=hc j hj;have e:=h2 j (by omega)
 simp only [Nat.mul_one,Nat.add_zero] at e;exact ⟨b',off,hA,Q9w Xq (X6l hg Xq (by rw [e]; intro _ _ _ hh; cases hh)) hk⟩
theorem Z8y {a b:World} {g n c:Nat} {T:TypeId} {A:Option Addr} {v:Value} {l:List Rul} (h:Q1d a v l) (hg:Blk a g T #[.slice A n c]) (hk:∀ k,k < a.heap.size -> k ≠ g -> b.heap[k]?=a.heap[k]?):Q1d b v l:=by
 obtain ⟨f,⟨A',Qq,hv,hn,Kq,hc⟩,h2⟩:=h;refine ⟨f,⟨A',Qq,hv,hn,Kq,fun j hj=>?_⟩,fun j hj=>?_⟩
 . obtain ⟨b',off,hA,Xq⟩:=hc j hj
   obtain ⟨b2,off2,D6,rg⟩:=hc (j / 2 * 2 + 1) (by omega)
   rw [hA] at D6;injection D6 with D6;injection D6 with e1 e2 _;subst e1;have e:=(h2 (j / 2) (by omega)).2
   simp only at e;exact ⟨b',off,hA,Q9w Xq (X6l hg rg (by rw [e]; intro _ _ _ hh; cases hh)) hk⟩
 . obtain ⟨x,y⟩:=h2 j hj
   exact ⟨Y1a x hg hk,y⟩
theorem Z6t {s:Q0b} (hS:Q0w s):∀ h ∈ s.hist,h.length <= 4096:=fun h hh=>by
 obtain ⟨t,ht,k,hk,rfl⟩:=(Q0b.Q4r _ _).1 hh;rw [List.length_take];have h1:=(hS.shaped k hk).1;have h2:=hS.tides;omega
theorem J5n {s:Q0b} {need:Int} {x:Plan} (h:Z0r s need=some x):x ∈ Q3o s:=by
 have go:∀ (l:List Plan) (b:Option Plan),l.foldl (Q2m need) b=some x -> x ∈ l ∨ b=some x:=by
  intro l
  induction l with
  | nil=>intro b h; exact .inr h
  | cons y l ih =>
    intro b h
    rcases ih _ h with h | h
    . exact .inl (List.mem_cons_of_mem _ h)
    . unfold Q2m at h
      split at h
      . exact .inr h
      . split at h
        . injection h with h; exact .inl (by rw [<- h]; exact List.mem_cons_self)
        . split at h
          . injection h with h; exact .inl (by rw [<- h]; exact List.mem_cons_self)
          . exact .inr h
 rcases go _ _ h with h | h
 . exact h
 . cases h
theorem Y7w (w:World) (v:Value) (s:Q0b) (need:Int) (hv:Q0g w v s) (hs:Q3v s) (hF:s.hist.length <= 9) :
    Calls prog 21 #[v,.int .i64 need] w fun e w'=>J5o s need e w' /\ Ext w w':=by
 obtain ⟨a,b,rfl,h2⟩:=hv;obtain ⟨A,Uq,rfl,-,-,-⟩:=h2.ships.opened;obtain ⟨B,Wq,rfl,-,-,-⟩:=h2.members.opened;have H2:=hid h2;have HS:=hid hs;have Pk:=hid hF;clear h2 hs hF;go_enter func21,ntmps21;go_wp2_with fail;change Calls _ _ _ ((w.alloc (.cells #[.int .i64 s.limit,.slice A s.ships.length Uq,.slice B s.members.length Wq] 34)).alloc (.cells #[.slice none 0 0] 38)) _;obtain ⟨W,Nq,k0,k1,Sq,eW⟩:=Q3p w 34 #[.int .i64 s.limit,.slice A s.ships.length Uq,.slice B s.members.length Wq] 38 #[.slice none 0 0];rw [Nq];clear Nq;have K0:=hid k0;have K1:=hid k1;obtain ⟨gs,bq⟩:∃ z,w.heap.size=z:=⟨_,rfl⟩;have Nz:=hid bq;rw [bq] at K0 K1 eW ⊢;clear k0 k1 bq;refine (Q1x _ _ s ⟨_,_,rfl,H2.out.ext Sq.out⟩ HS.out).mono ?_;rintro e w5 ⟨rfl,Cq⟩;have rq:=hid Cq;have jw:Hid (J2m s need=Q0h [s.err,Q0f need 0 8000]):=hid rfl;obtain ⟨E,hE⟩:∃ E,s.err=E:=⟨_,rfl⟩;have HE:=hid hE;rw [hE] at jw ⊢;have Zk:=hid (Q7c w5 need);obtain ⟨R,hR⟩:∃ R,Q0f need 0 8000=R:=⟨_,rfl⟩;have HR:=hid hR;rw [hR] at jw Zk;have Fw:=hid (first_any (w5.alloc (.cells #[.int .i64 E,.int .i64 R] 29)) _ [E,R] (Q1v (by simp)))
 rw [<- jw.out] at Fw;obtain ⟨F,YZ⟩:∃ F,J2m s need=F:=⟨_,rfl⟩;have oV:=hid YZ;rw [YZ] at Fw;clear Cq hE hR YZ;go_wp2_with (first | (go_at_call 97; refine Zk.out.mono ?_; rintro e w6 ⟨rfl,rfl⟩; refine halted ?_) | fail)
 unfold Q1o
 by_cases hf:F=0
 . have hz:=Q1n (jw.out.symm.trans (oV.out.trans hf))
   have fx:s.err=0:=HE.out.trans hz.1;have hV:=Q0w.of fx;have HV:=hid hV;have Pz:=Q8c hV s.ships.length (Nat.le_refl _) (Y6r s) Q8n X0f;have pV:Q2u s s.ships.length (Y6r s)=Q3o s:=rfl;rw [pV] at Pz;have E6:(Q3o s).length <= 512:=by
    have h1:2 ^ X6g s (s.ships.length - s.ships.length) (Y6r s) <= 2 ^ 9:=Nat.pow_le_pow_right (by omega) (Nat.le_trans (Y1i _ _) Pk.out)
    omega
   have Ex:=hid E6;have Yz:Hid (∀ x ∈ Q3o s,x.closed.length <= 100000):=hid (fun x hx=>by have:=(Pz.2 x hx).l; have:=Y1i (s:=s) (s.ships.length - s.ships.length) (Y6r s); have:=Pk.out; omega)
   have N4:Hid (∀ o,Z0r s need=o -> Y5x s need=(match o with | none=>(0,0,24) | some x=>(x.closings,x.delay,0)) /\ Z0c s need=(match o with | none=>[] | some x=>Y2p s x)):=hid (fun o ho=>⟨by unfold Y5x; rw [oV.out,if_neg (by simp [hf]),ho],by unfold Z0c; rw [oV.out,if_neg (by simp [hf]),ho]⟩)
   have hne:(F != 0)=false:=by simp [hf]
   have Lq:Hid (Ext w (w5.alloc (.cells #[.int .i64 E,.int .i64 R] 29))):=hid (Sq.out.trans (rq.out.trans (Ext.box _ _)));have sY:=(K0.out.ext rq.out).ext (Ext.box w5 (.cells #[.int .i64 E,.int .i64 R] 29));have Cc:=(K1.out.ext rq.out).ext (Ext.box w5 (.cells #[.int .i64 E,.int .i64 R] 29));obtain ⟨wa,XZ⟩:∃ z,w5.alloc (.cells #[.int .i64 E,.int .i64 R] 29)=z:=⟨_,rfl⟩;rw [XZ] at Fw Lq sY Cc;have yg:=Blk.made wa 159 #[.int .i64 0,.int .i64 0,.int .i64 0,.slice none 0 0];have rY:=Ext.box wa (.cells #[.int .i64 0,.int .i64 0,.int .i64 0,.slice none 0 0] 159);have qY:=sY.ext rY;have c0:=(qY).cell 0;have c1:=(qY).cell 1;have c2:=(qY).cell 2;simp only [Go.Tw.gA,Go.Tw.gB,Go.Tw.gC] at c0 c1 c2;have Wo:=hid sY;have G2:=hid Cc;have lk:=hid yg;have zj:=hid rY;have Gk:=hid (Z0k (wa.alloc (.cells #[.int .i64 0,.int .i64 0,.int .i64 0,.slice none 0 0] 159)) _ s ⟨_,_,rfl,H2.out.ext (Lq.out.trans rY)⟩ hV Pk.out);clear hz fx hV Pz pV E6 sY Cc yg rY qY;go_wp2_with (first | (go_at_call 96; (try rw [XZ]); refine Fw.out.mono ?_; rintro e w7 ⟨rfl,rfl⟩) | (go_at_call 94; refine Gk.out.mono ?_; rintro e w6 ⟨x6,qs6,rfl,h1,h2,h3,h4⟩; refine halted ?_))
   have T4:=hid h1;have xV:=hid h2;have o9:=hid h3;have Yx:=hid h4;obtain ⟨A6,c6,Bc,-⟩:=h1.shape;subst Bc;have nJ:Hid (qs6.length=(Q3o s).length):=hid (by rw [<- h3,List.length_map])
   obtain ⟨gb,Jw⟩:∃ z,wa.heap.size=z:=⟨_,rfl⟩;have B9:=hid Jw;have Bh:Hid (J6n w6 gb none):=hid (by rw [<- Jw]; exact lk.out.ext h4)
   have zc:Hid (Blk w6 gs 34 #[.int .i64 s.limit,.slice A s.ships.length Uq,.slice B s.members.length Wq]):=hid (Wo.out.ext (zj.out.trans h4));have Vo:Hid (Blk w6 (gs + 1) 38 #[.slice none 0 0]):=hid (G2.out.ext (zj.out.trans h4));have E7:Hid (gs + 1 < gb):=hid (by have:=G2.out.lt; omega)
   have Ba:Hid (gb < (wa.alloc (.cells #[.int .i64 0,.int .i64 0,.int .i64 0,.slice none 0 0] 159)).heap.size):=hid (by have:=lk.out.lt; omega)
   have yc:=hid (Lq.out.trans (zj.out.trans h4));rw [Jw];obtain ⟨L,hL⟩:∃ z,qs6.length=z:=⟨_,rfl⟩;have HL:=hid hL;rw [hL];have Pj:L <= 512:=by have:=Ex.out; rw [<- hL,nJ.out]; exact this
   clear h1 h2 h3 h4 Jw hL c0 c1 c2;unfold Q1o;go_wp2
   go_loopw [10,27] (fun f i wr=>∃ (k:Nat) (b:Option Plan),k <= L /\ i=.int .i64 k /\ f=.bool b.isSome /\ Off gb w6 wr /\ J6n wr gb b /\ b=Z1t s need k) (fun _ i _=>L - (intOf i).toNat)
   case atStart=>exact ⟨0,none,Nat.zero_le _,rfl,rfl,Off.refl _ _,Bh.out,rfl⟩
   case round =>
    obtain ⟨k,b,hk,rfl,rfl,J0,s8,qj⟩:=hrel;have Vw:=hid J0;have r8:=hid s8;have Ng:=hid qj
    by_cases Tq:k < L
    . have Oj:k < qs6.length:=by rw [HL.out]; exact Tq
      have Lj:(k:Int) < L:=by omega
      have Qx:∃ cs,Blk wr gb 159 cs:=by cases b with
       | none=>exact ⟨_,s8⟩
       | some o=>obtain ⟨_,_,_,h,_⟩:=s8; exact ⟨_,h⟩
      have C6:∃ cs,Blk w6 gb 159 cs:=⟨_,Bh.out⟩;obtain ⟨cs6,C6⟩:=C6;have Kx:=xV.out.off C6 (fun j hj hne=>J0.2.2 j hj hne);have Uw:=hid Kx;obtain ⟨A',cv',Vx,xj⟩:=Q8m (Q1b.off T4.out Ba.out J0);injection Vx with Vx r7 xc;subst Vx;subst xc;obtain ⟨gq,rfl,Xq⟩:=xj.out k Oj;have e0:=Xq 0 (by omega)
      have e1:=Xq 1 (by omega)
      have e2:=Xq 2 (by omega)
      have e3:=Xq 3 (by omega)
      obtain ⟨A4,n4,c4,qx⟩:=Kx.shape (List.getElem_mem Oj);have Wx:(Q3o s)[k]?=some qs6[k].1:=by rw [<- o9.out,List.getElem?_map,List.getElem?_eq_getElem Oj]; rfl
      have hcl:=Kx qs6[k] (List.getElem_mem Oj);obtain ⟨qk,Jx⟩:∃ z,qs6[k]=z:=⟨_,rfl⟩;rw [Jx] at e0 e1 e2 e3 qx hcl Wx;obtain ⟨x,xv⟩:=qk;replace qx:xv=.slice A4 n4 c4:=qx;subst qx;have qq:Hid (Z1t s need (k + 1)=Q2m need b x):=hid (by rw [Z8e Wx,<- qj])
      have mJ:=hid hcl;rw [Nat.add_zero] at e0;obtain ⟨x1,Yj⟩:∃ z,x.weight=z:=⟨_,rfl⟩;obtain ⟨x2,Mq⟩:∃ z,x.closings=z:=⟨_,rfl⟩;obtain ⟨x3,Dj⟩:∃ z,x.delay=z:=⟨_,rfl⟩;have Qk:=hid (show x.weight=x1 /\ x.closings=x2 /\ x.delay=x3 from ⟨Yj,Mq,Dj⟩)
      replace e0:wr.cell? ⟨gq,k * 4,none⟩=some (.int .i64 x1):=by rw [<- Yj]; exact e0
      replace e1:wr.cell? ⟨gq,k * 4 + 1,none⟩=some (.int .i64 x2):=by rw [<- Mq]; exact e1
      replace e2:wr.cell? ⟨gq,k * 4 + 2,none⟩=some (.int .i64 x3):=by rw [<- Dj]; exact e2
      replace e3:wr.cell? ⟨gq,k * 4 + 3,none⟩=some (.slice A4 n4 c4):=e3;have yq:=Ext.box wr (.cells #[.int .i64 x1,.int .i64 x2,.int .i64 x3,.slice A4 n4 c4] 159);have K3:=Blk.made wr 159 #[.int .i64 x1,.int .i64 x2,.int .i64 x3,.slice A4 n4 c4];have px:=hid yq;have Dg:=hid K3;have D2:Hid (gb <= wr.heap.size):=hid (by obtain ⟨cs,h⟩:=Qx; exact Nat.le_of_lt h.lt)
      have d0:=(K3).cell 0;have d1:=(K3).cell 1;have d2:=(K3).cell 2;have d3:=(K3).cell 3;simp only [Go.Tw.gA,Go.Tw.gB,Go.Tw.gC] at d0 d1 d2 d3;clear Xq Jx Yj Mq Dj hcl Wx Oj J0 qj Kx C6 Qx
      by_cases hw:x1 < need
      . have Yw:Hid (Q2m need b x=b):=hid (by unfold Q2m; rw [if_pos (by rw [Qk.out.1]; exact hw)])
        clear s8 yq K3
        go_light
        go_wp2;go_roundw
        case rel =>
         refine ⟨k + 1,b,by omega,by go_num,rfl,Off.ext Vw.out px.out D2.out,?_,by rw [qq.out,Yw.out]⟩
         cases b with
         | none=>exact Blk.ext r8.out px.out
         | some o=>obtain ⟨A,n,c,h,h'⟩:=r8.out; exact ⟨A,n,c,h.ext px.out,h'.below px.out⟩
        case measure=>simp [intOf]; omega
      . have pY:¬ x.weight < need:=by rw [Qk.out.1]; exact hw
        cases b with
        | none =>
          have Yw:Hid (Q2m need none x=some x):=hid (by unfold Q2m; rw [if_neg pY])
          have Tv:Blk (wr.alloc (.cells #[.int .i64 x1,.int .i64 x2,.int .i64 x3,.slice A4 n4 c4] 159)) gb 159 #[.int .i64 0,.int .i64 0,.int .i64 0,.slice none 0 0]:=Blk.ext s8 yq;clear s8 yq K3 pY
          go_light
          go_wp2_with (with_reducible (refine Q6z ?_); refine Q0v rfl _ _ _ rfl X9g rfl rfl Tv rfl rfl X3s ?_; intro w9 Fj Pj cj);have Cg:=hid Fj;have B6:=hid (Y1p (Off.ext Vw.out px.out D2.out) Pj cj);have fy:Hid (Q0n w9 0 9 .string (.slice A4 n4 c4) x.closed):=hid (by
           have h:=Q0r.off (w':=w9) (ps:=[((x,Value.slice A4 n4 c4):PV)]) (g:=gb) (fun q hq=>by obtain rfl:=List.mem_singleton.1 hq; exact mJ.out.below px.out) Tv (fun k _ hk=>cj k hk)
           exact h _ (List.mem_singleton.2 rfl))
          clear Fj Pj cj Tv;go_wp2;go_roundw
          case rel=>exact ⟨k + 1,some x,by omega,by go_num,rfl,B6.out,⟨A4,n4,c4,by rw [Qk.out.1,Qk.out.2.1,Qk.out.2.2]; exact Cg.out,fy.out⟩,by rw [qq.out,Yw.out]⟩
          case measure=>simp [intOf]; omega
        | some o =>
          obtain ⟨Ao,no,co,Dz,p8⟩:=s8;have Tv:=Dz.ext yq;have R3:Hid (Q2m need (some o) x=if x.closings < o.closings ∨ x.closings=o.closings /\ x.delay < o.delay then some x else some o):=hid (by unfold Q2m; rw [if_neg pY])
          rw [Qk.out.2.1,Qk.out.2.2] at R3;obtain ⟨o1,kJ⟩:∃ z,o.weight=z:=⟨_,rfl⟩;obtain ⟨o2,R4⟩:∃ z,o.closings=z:=⟨_,rfl⟩;obtain ⟨o3,U4⟩:∃ z,o.delay=z:=⟨_,rfl⟩;rw [R4,U4] at R3;rw [kJ,R4,U4] at Tv;have g0:=(Tv).cell 0;have g1:=(Tv).cell 1;have g2:=(Tv).cell 2;have g3:=(Tv).cell 3;simp only [Go.Tw.gA,Go.Tw.gB,Go.Tw.gC] at g0 g1 g2 g3;clear Dz p8 yq K3 pY kJ R4 U4
          by_cases Rx:x2 < o2
          . have Yw:Hid (Q2m need (some o) x=some x):=hid (by rw [R3.out,if_pos (.inl Rx)])
            go_light
            go_wp2_with (with_reducible (refine Q6z ?_); refine Q0v rfl _ _ _ rfl X9g rfl rfl Tv rfl rfl X3s ?_; intro w9 Fj Pj cj);have Cg:=hid Fj;have B6:=hid (Y1p (Off.ext Vw.out px.out D2.out) Pj cj);have fy:Hid (Q0n w9 0 9 .string (.slice A4 n4 c4) x.closed):=hid (by
             have h:=Q0r.off (w':=w9) (ps:=[((x,Value.slice A4 n4 c4):PV)]) (g:=gb) (fun q hq=>by obtain rfl:=List.mem_singleton.1 hq; exact mJ.out.below px.out) Tv (fun k _ hk=>cj k hk)
             exact h _ (List.mem_singleton.2 rfl))
            clear Fj Pj cj Tv;go_wp2;go_roundw
            case rel=>exact ⟨k + 1,some x,by omega,by go_num,rfl,B6.out,⟨A4,n4,c4,by rw [Qk.out.1,Qk.out.2.1,Qk.out.2.2]; exact Cg.out,fy.out⟩,by rw [qq.out,Yw.out]⟩
            case measure=>simp [intOf]; omega
          . by_cases Xx:x2=o2
            . by_cases fK:x3 < o3
              . have Yw:Hid (Q2m need (some o) x=some x):=hid (by rw [R3.out,if_pos (.inr ⟨Xx,fK⟩)])
                subst Xx
                go_light
                go_wp2_with (with_reducible (refine Q6z ?_); refine Q0v rfl _ _ _ rfl X9g rfl rfl Tv rfl rfl X3s ?_; intro w9 Fj Pj cj);have Cg:=hid Fj;have B6:=hid (Y1p (Off.ext Vw.out px.out D2.out) Pj cj);have fy:Hid (Q0n w9 0 9 .string (.slice A4 n4 c4) x.closed):=hid (by
                 have h:=Q0r.off (w':=w9) (ps:=[((x,Value.slice A4 n4 c4):PV)]) (g:=gb) (fun q hq=>by obtain rfl:=List.mem_singleton.1 hq; exact mJ.out.below px.out) Tv (fun k _ hk=>cj k hk)
                 exact h _ (List.mem_singleton.2 rfl))
                clear Fj Pj cj Tv;go_wp2;go_roundw
                case rel=>exact ⟨k + 1,some x,by omega,by go_num,rfl,B6.out,⟨A4,n4,c4,by rw [Qk.out.1,Qk.out.2.1,Qk.out.2.2]; exact Cg.out,fy.out⟩,by rw [qq.out,Yw.out]⟩
                case measure=>simp [intOf]; omega
              . have Yw:Hid (Q2m need (some o) x=some o):=hid (by rw [R3.out,if_neg (by omega)])
                subst Xx;clear Tv
                go_light
                go_wp2;go_roundw
                case rel=>exact ⟨k + 1,some o,by omega,by go_num,rfl,Off.ext Vw.out px.out D2.out,(by obtain ⟨A,n,c,h,h'⟩:=r8.out; exact ⟨A,n,c,h.ext px.out,h'.below px.out⟩),by rw [qq.out,Yw.out]⟩
                case measure=>simp [intOf]; omega
            . have Yw:Hid (Q2m need (some o) x=some o):=hid (by rw [R3.out,if_neg (by omega)])
              clear Tv
              go_light
              go_wp2;go_roundw
              case rel=>exact ⟨k + 1,some o,by omega,by go_num,rfl,Off.ext Vw.out px.out D2.out,(by obtain ⟨A,n,c,h,h'⟩:=r8.out; exact ⟨A,n,c,h.ext px.out,h'.below px.out⟩),by rw [qq.out,Yw.out]⟩
              case measure=>simp [intOf]; omega
    . have Cj:k=L:=by omega
      subst Cj;have Fq:(Q3o s).length=k:=by rw [<- nJ.out]; exact HL.out
      have WQ:Z0r s need=b:=by rw [<- J0a,Fq]; exact qj.symm
      have HB:=hid (N4.out b WQ);have uc:Blk wr (gs + 1) 38 #[.slice none 0 0]:=Vo.out.below J0.1 E7.out;have Cx:Blk wr gs 34 #[.int .i64 s.limit,.slice A s.ships.length Uq,.slice B s.members.length Wq]:=zc.out.below J0.1 (by have:=E7.out; omega)
      have ew:Hid (Ext w wr):=hid (Below.trans yc.out (J0.1.mono (by have:=E7.out; have:=Nz.out; omega)))
      have b7:=hid Cx;have zh:=hid uc;clear J0 qj Fq;cases b with
      | none =>
        clear s8 Cx WQ;go_wp2_with (with_reducible (refine Q6z ?_); refine Q0v rfl _ _ _ rfl Q4b rfl rfl uc rfl rfl X8q ?_; intro w9 Fj Pj cj);refine bodyPost_ret (X0w results21 rfl Fj Q6t Q4b rfl rfl rfl) rfl ?_;exact ⟨⟨_,by rw [HB.out.1]; rfl,by rw [HB.out.2]; exact Go.Tw.Rows.nil _ _ _⟩,Below.trans ew.out (Pj _ (by have:=Nz.out; omega))⟩
      | some o =>
        obtain ⟨Ao,no,co,Dz,p8⟩:=s8;have Rw:=hid Dz;have yh:o ∈ Q3o s:=J5n WQ;have N8:=hid (J8w HV.out.toFine WQ);have J7:=hid (Q9g wr _ s ⟨_,_,rfl,H2.out.ext ew.out⟩ HV.out);have gG:=hid (Yz.out o yh);have Uo:=hid p8;have c0:=(Cx).cell 0;have c1:=(Cx).cell 1;have c2:=(Cx).cell 2;simp only [Go.Tw.gA,Go.Tw.gB,Go.Tw.gC] at c0 c1 c2;clear Dz p8 Cx uc yh WQ;go_wp2_with (go_at_call 99; refine J7.out.mono ?_; rintro e w7 ⟨x7,rfl,h1,h2⟩; refine halted ?_);have pz:=hid h2;obtain ⟨A7,c7,tc,-,-,-⟩:=h1.opened;subst tc;have Sg:=hid (Y3f w7 _ s.hist gb (.slice Ao no co) o.closed h1 (by have:=Pk.out; omega) (fun h hh=>Y1t HV.out h hh) (fun h hh=>Z6t HV.out h hh) ((Rw.out.ext h2).cell 3) (Uo.out.below h2) gG.out)
        clear h1 h2;unfold Q1o;go_wp2_with (go_at_call 98; refine Sg.out.mono ?_; rintro e w8 ⟨x8,rfl,h1,h2⟩; refine halted ?_);have Zv:=hid (pz.out.trans h2);obtain ⟨R8,c8,M9,-,-,-⟩:=h1.opened;subst M9;have To:=hid h1;clear h1 h2;unfold Q1o;go_wp2;obtain ⟨o1,kJ⟩:∃ z,o.weight=z:=⟨_,rfl⟩;obtain ⟨o2,R4⟩:∃ z,o.closings=z:=⟨_,rfl⟩;obtain ⟨o3,U4⟩:∃ z,o.delay=z:=⟨_,rfl⟩;have nV:=hid (show o.closings=o2 /\ o.delay=o3 from ⟨R4,U4⟩)
        have Dz:=Rw.out;rw [kJ,R4,U4] at Dz;have Qy:=Ext.box w8 (.cells #[.slice R8 (Q5f s.hist o.closed).length c8] 38);have oY:=Blk.made w8 38 #[.slice R8 (Q5f s.hist o.closed).length c8];obtain ⟨wz,C9⟩:∃ z,w8.alloc (.cells #[.slice R8 (Q5f s.hist o.closed).length c8] 38)=z:=⟨_,rfl⟩;rw [C9] at Qy oY ⊢;obtain ⟨gz,vh⟩:∃ z,w8.heap.size=z:=⟨_,rfl⟩;rw [vh] at oY ⊢;have V3:=hid (Zv.out.trans Qy);have KZ:=hid oY;have KS:=hid (b7.out.ext (Zv.out.trans Qy));have KB:=hid (Dz.ext (Zv.out.trans Qy));have sc:=hid (To.out.ext Qy);have jJ:=hid (fun (W:World) (hW:Ext wz W)=>Y1k W (.agg #[.int .i64 s.limit,.slice A s.ships.length Uq,.slice B s.members.length Wq]) (.agg #[.slice R8 (Q5f s.hist o.closed).length c8]) s (Y2p s o) ⟨_,_,rfl,H2.out.ext (ew.out.trans (V3.out.trans hW))⟩ ⟨_,rfl,sc.out.ext hW⟩ HV.out (Q2p.2 (by simp [Y2p,Function.comp_def])))
        rw [N8.out.2.2.1,N8.out.2.2.2,R4,U4] at jJ;have rc:Hid (gz ≠ gs + 1):=hid (by have h1:=zh.out.lt; have h2:=Zv.out.size; omega)
        obtain ⟨n8,eX⟩:∃ z,(Q5f s.hist o.closed).length=z:=⟨_,rfl⟩;rw [eX] at KZ sc jJ ⊢;have Vq:=(Ext.refl wz).drew;clear Dz Qy oY C9 vh eX kJ R4 U4 c0 c1 c2;refine Flow.Q1h [.w,.w,.w,.p,.w,.p] [0,1,2,3,4,5] [[],[],[0,1],[],[3],[2,4]]
         [.c 0 (.agg #[.int .i64 s.limit,.slice A s.ships.length Uq,.slice B s.members.length Wq]),.c 1 (.agg #[.slice R8 n8 c8]),.c 2 (.agg #[.int .i64 o2,.int .i64 o3]),.c 3 (.pointer (some ⟨gb,1,none⟩)),.c 4 (.agg #[.int .i64 o2,.int .i64 o3]),.c 5 (.bool false)]
         (by kernel_rfl) rfl (by kernel_rfl) ⟨?g0,?g1,?g2,?g3,?g4,?g5,trivial⟩ ?post
        case g0=>
         intro v w1 hx;intro bb hbb;intro K hK;have o1:bb.eval (.tmp 2)=.pointer (some ⟨gs,0,none⟩):=fze09
         exact Q0i (.tmp 2) _ rfl X8b Q9q o1 (KS.out.ext (Vq.trans hx)) rfl (hK _ _ (Ext.refl _) rfl)
        case g1=>
         intro v w1 hx;intro bb hbb;intro K hK;have o1:bb.eval (.tmp 13)=.pointer (some ⟨gz,0,none⟩):=fze09
         exact Q0i (.tmp 13) _ rfl Q6t Q4b o1 (KZ.out.ext (Vq.trans hx)) rfl (hK _ _ (Ext.refl _) rfl)
        case g2=>
         intro v w1 hx;(repeat intro (zq:v _=_));intro bb hbb;subst hbb;intro K hK;go_simp;refine Q0d (jJ.out w1 (Vq.trans hx)) ?_;rintro e w2 ⟨rfl,Mq⟩;exact ⟨_,rfl,hK _ _ Mq rfl⟩
        case g3=>
         intro v w1 hx;intro bb hbb;subst hbb;refine ⟨_,fun w=>?_,rfl⟩;go_simp
        case g4=>
         intro v w1 hx;(repeat intro (zq:v _=_));intro bb hbb;intro K hK;have o1:bb.eval (.tmp 77)=.pointer (some ⟨gb,1,none⟩):=by rw [hbb]; dsimp only; (try simp (discharger:=decide) only [eval_put_ne]); rw [Q0a (by simp only [size_put]; exact (by decide:77 < 88))]; assumption
         exact Q1m (.tmp 77) _ rfl Y3z Q9e o1 ((Z0a KB.out).ext (Vq.trans hx)) rfl (hK _ _ (Ext.refl _) rfl)
        case g5=>
         intro v w1 hx;(repeat intro (zq:v _=_));intro bb hbb;subst hbb;refine ⟨_,fun w=>?_,rfl⟩;go_simp
        case post =>
         intro v w1 hx (q0:v 0=_) (q1:v 1=_) (q2:v 2=_) (q3:v 3=_) (q4:v 4=_) (q5:v 5=_);simp only [Flow.All,Flow.acts,Act.put];go_simp;have Zq:=Vq.trans hx;have KZ2:=hid (KZ.out.ext Zq);have KB2:=hid (KB.out.ext Zq);have KP2:=hid (zh.out.ext (V3.out.trans Zq));have So:=hid (sc.out.ext Zq);have Ox:=hid (ew.out.trans (V3.out.trans Zq));obtain ⟨wy,rfl⟩:∃ X,X=w1:=⟨_,rfl⟩;clear hx Vq Zq q0 q1 q2 q3 q4;go_wp2;have Ro:Hid (gz ≠ gs + 1):=hid rc.out;have G3:Hid (gb ≠ gs + 1):=hid (by have:=E7.out; omega)
         have Vq:X6q (gs + 1) 38 #[.slice R8 n8 c8] wy wy.drew:=X6q.ext (Ext.refl wy).drew;refine Flow.J1e (X6q (gs + 1) 38 #[.slice R8 n8 c8]) 7 Ext Ext.refl (fun _ _ _=>Ext.trans) (fun _ _=>X6q.ext) (X6q.refl _ _ _) (fun _ _ _=>X6q.trans) (fun _ _ h=>h.size) [.w,.p,.p,.w,.p,.p,.w,.w,.p,.p,.last] [0,1,2,3,4,5,6,7,8,9,10] [[],[],[1],[1,2],[],[4],[4,5],[0],[0,1,2,3,7],[0,1,2,3,4,5,6,7,8],[0,1,2,3,4,5,6,7,8,9]] [10]
          [.c 0 (.agg #[.slice R8 n8 c8]),.c 1 (.pointer (some ⟨gb,1,none⟩)),.c 2 (.pointer (some ⟨gb,1,none⟩)),.c 3 (.int .i64 o2),.c 4 (.pointer (some ⟨gb,1,none⟩)),.c 5 (.pointer (some ⟨gb,2,none⟩)),.c 6 (.int .i64 o3),⟨fun v wz=>(fun v w'=>Blk w' (gs + 1) 38 #[.slice R8 n8 c8]) v wz,by rintro v a b hx h; exact hx.2.2 h⟩,.c 8 (.int .i64 o2),.c 9 (.int .i64 o3),.none]
          [fun v w1 w'=>v 10=.int .i64 0 /\ w1=w'] (by kernel_rfl) rfl (by kernel_rfl) ⟨?g0,?g1,?g2,?g3,?g4,?g5,?g6,?g7,?g8,?g9,?g10,trivial⟩ ?post
         case g0=>
          intro v w1 hx;replace hx:(X6q (gs + 1) 38 #[.slice R8 n8 c8]) _ w1:=hx;intro bb hbb;intro K hK;have o1:bb.eval (.tmp 13)=.pointer (some ⟨gz,0,none⟩):=fze09
          exact Q0i (.tmp 13) _ rfl Q6t Q4b o1 ((Vq.trans hx).blk KZ2.out Ro.out) rfl (hK _ _ (Ext.refl w1) rfl)
         case g1 | g4=>
          intro v w1 hx;replace hx:(X6q (gs + 1) 38 #[.slice R8 n8 c8]) _ w1:=hx;intro bb hbb;subst hbb;refine ⟨_,fun w=>?_,rfl⟩;go_simp
         case g2 | g5=>
          intro v w1 hx;(repeat intro (zq:v _=_));replace hx:(X6q (gs + 1) 38 #[.slice R8 n8 c8]) _ w1:=hx;intro bb hbb;subst hbb;refine ⟨_,fun w=>?_,rfl⟩;go_simp
         case g3=>
          intro v w1 hx;(repeat intro (zq:v _=_));replace hx:(X6q (gs + 1) 38 #[.slice R8 n8 c8]) _ w1:=hx;intro bb hbb;subst hbb;have n0:w1.cell? ⟨gb,1,none⟩=some (.int .i64 o2):=((Vq.trans hx).blk KB2.out G3.out).cell 1;intro K hK;go_simp;exact hK _ _ (Ext.refl w1) rfl
         case g6=>
          intro v w1 hx;(repeat intro (zq:v _=_));replace hx:(X6q (gs + 1) 38 #[.slice R8 n8 c8]) _ w1:=hx;intro bb hbb;subst hbb;have n0:w1.cell? ⟨gb,2,none⟩=some (.int .i64 o3):=((Vq.trans hx).blk KB2.out G3.out).cell 2;intro K hK;go_simp;exact hK _ _ (Ext.refl w1) rfl
         case g7=>
          intro v w1 hx;(repeat intro (zq:v _=_));replace hx:Ext _ w1:=hx;intro bb hbb;intro K hK;have o1:bb.eval (.tmp 4)=.pointer (some ⟨gs + 1,0,none⟩):=fze09
          have o2:bb.eval (.tmp 81)=.agg #[.slice R8 n8 c8]:=by rw [hbb]; dsimp only; (try simp (discharger:=decide) only [eval_put_ne]); rw [Q0a (by exact (by decide:81 < 88))]; assumption
          exact Q2i (.tmp 4) (.tmp 81) _ rfl Q4b o1 o2 (KP2.out.ext ((Ext.refl wy).drew.trans hx)) rfl rfl X8q (fun vv w' hb hl ho=>hK _ _ (show X6q _ _ _ _ _ from ⟨fun n hn _=>hl n hn,fun k _ hk=>ho k hk,fun _=>hb⟩) hb)
         case g8=>
          intro v w1 hx (q0:v 0=_) (q1:v 1=_) (q2:v 2=_) (q3:v 3=_) _;replace hx:(X6q (gs + 1) 38 #[.slice R8 n8 c8]) _ w1:=hx;intro bb hbb;subst hbb;refine ⟨_,fun w=>?_,rfl⟩;go_simp
         case g9=>
          intro v w1 hx (q0:v 0=_) (q1:v 1=_) (q2:v 2=_) (q3:v 3=_) (q4:v 4=_) (q5:v 5=_) (q6:v 6=_) _ (q8:v 8=_);replace hx:(X6q (gs + 1) 38 #[.slice R8 n8 c8]) _ w1:=hx;intro bb hbb;subst hbb;refine ⟨_,fun w=>?_,rfl⟩;go_simp
         case g10=>
          intro v w1 hx (q0:v 0=_) (q1:v 1=_) (q2:v 2=_) (q3:v 3=_) (q4:v 4=_) (q5:v 5=_) (q6:v 6=_) _ (q8:v 8=_) (q9:v 9=_);intro wl hT;obtain rfl:wl=w1:=hT;intro bb hbb;subst hbb;intro K hK;go_simp;exact hK _ _ ⟨rfl,rfl⟩
         case post =>
          intro v w1 hx;(iterate 7 intro (zq:v _=_));intro (q7:(fun v w'=>Blk w' (gs + 1) 38 #[.slice R8 n8 c8]) v w1) (q8:v 8=_) (q9:v 9=_);intro w2 hE;replace hE:(fun v w1 w'=>v 10=.int .i64 0 /\ w1=w') v w1 w2:=hE;simp only [Flow.acts,Act.put];go_simp;obtain ⟨uh,hE⟩:=hE;subst hE
          try rw [uh]
          try clear uh
          replace q7:Blk w1 (gs + 1) 38 #[.slice R8 n8 c8]:=q7;have hrel:=Vq.trans hx;have Qo:=hid (Z8y So.out KP2.out hrel.2.1);have ij:Hid (Ext w w1):=hid (Below.trans Ox.out (hrel.1 _ (by have:=Nz.out; omega) Ox.out.size))
          clear hx Vq hrel;(repeat clear zq);go_wp2;refine bodyPost_ret (X0w results21 rfl q7 Q6t Q4b rfl rfl rfl) rfl ?_;exact ⟨⟨_,by rw [HB.out.1]; simp only [nV.out.1,nV.out.2]; rfl,by rw [HB.out.2]; exact Qo.out⟩,ij.out⟩
 . have hne:(F != 0)=true:=by simp [hf]
   have kP:=K1.out.ext rq.out |>.ext (Ext.box w5 (.cells #[.int .i64 E,.int .i64 R] 29))
   have N4:Hid (Y5x s need=(0,0,F) /\ Z0c s need=[]):=hid ⟨by unfold Y5x; rw [oV.out,if_pos hf],by unfold Z0c; rw [oV.out,if_pos hf]⟩
   go_wp2_with (first | (go_at_call 96; refine Fw.out.mono ?_; rintro e w7 ⟨rfl,rfl⟩) | (refine Q0v rfl _ _ _ rfl Q4b rfl rfl kP rfl rfl X8q ?_; intro w9 Fj Pj cj))
   refine bodyPost_ret (X0w results21 rfl Fj Q6t Q4b rfl rfl rfl) rfl ?_;exact ⟨⟨_,by rw [N4.out.1]; rfl,by rw [N4.out.2]; exact Go.Tw.Rows.nil _ _ _⟩,Below.trans (Sq.out.trans (rq.out.trans (Ext.box w5 (.cells #[.int .i64 E,.int .i64 R] 29)))) (Pj _ (by have:=Nz.out; omega))⟩
def J0h (w:World) (ll:List (List Int)) (cl:Bool) (rs:List (Value × Bool)):Prop:=∀ j (h1:j < rs.length) (h2:j < ll.length),Q0e w rs[j].1 ll[j] /\ rs[j].2=cl
theorem J0h.snoc {w:World} {ll:List (List Int)} {cl:Bool} {rs:List (Value × Bool)} {k:Nat} (h:J0h w ll cl rs) (hk:rs.length=k) {v:Value} {q:Bool} (Tq:k < ll.length) (hv:Q0e w v ll[k]) (hq:cl=q):J0h w ll cl (rs ++ [(v,q)]):=fun j h1 h2=>by
 by_cases hj:j < rs.length
 . rw [List.getElem_append_left hj]; exact h j hj h2
 . rw [List.length_append,List.length_singleton] at h1
   have:j=k:=by omega
   subst this;rw [List.getElem_append_right (by omega)]
   simp only [hk,Nat.sub_self,List.getElem_cons_zero];exact ⟨hv,hq.symm⟩
theorem Q3u {P:Program} {fn:Func} {p q:Tmp} {T:TypeId} (h:fn.results=#[.cell p T,.tmp q]) {tmps:Array Value} {w:World} {g:Nat} (ht:tmps.getD p undef=.pointer (some ⟨g,0,none⟩)) {BT:TypeId} {cs:Array Value} (hb:Blk w g BT cs)
    (hA:∀ w,(isAgg T).run P w=.ok true w) (hS:∀ w,(sizeOf T).run P w=.ok cs.size w) {v:Value} (hq:tmps.getD q undef=v):(results fn tmps).run P w=.ok (.tuple #[.agg cs,v]) w:=by
 unfold results;rw [h];simp only [List.mapM_toArray,List.mapM_cons,List.mapM_nil,Sem.run_bind,Sem.run_pure,ht,hq,asAddr];simp [Q4o hb hA hS]
end Go.Proofs
namespace Go.Tw
open Go.RowKit Go.Flow
def wTo (s:Q0b) (k:Nat):Int:=((List.range k).map fun i=>Q0o s.members i).sum
theorem Z5n (s:Q0b) (k:Nat):wTo s (k + 1)=wTo s k + Q0o s.members k:=by unfold wTo; rw [List.range_succ,List.map_append,List.sum_append]; simp
theorem J0w (s:Q0b):wTo s s.members.length=Q1u s (allL s):=by unfold wTo Q1u allL; rw [List.map_map]; rfl
theorem J2d {s:Q0b} (hV:Q0w s):∀ k,k <= s.members.length -> (k:Int) <= wTo s k /\ wTo s k <= 1000 * k
 | 0,_=>by simp [wTo]
 | k + 1,h=>by
   have ih:=J2d hV k (by omega)
   have:=hV.weights k (by omega)
   rw [Z5n]; omega
def Y0d (s:Q0b) (p:List Rul):Ratio:=if Q1j s p=0 then Z3j s p else ⟨0,0⟩
end Go.Tw
namespace Go.Proofs
open Go.RowKit Go.Tw Go.Flow Tryz
attribute [local go_sem] Oper.semAt_some
theorem Z0b (w:World) (v u:Value) (s:Q0b) (p:List Rul) (hv:Q0g w v s) (hu:Q0m w u p) (hs:Q3v s) (hp:p.length <= 1000) :
    Calls prog 64 #[v,u] w fun e w'=>e=.returned (.tuple #[.agg #[.int .i64 (Y0d s p).num,.int .i64 (Y0d s p).den],.int .i64 (Q1j s p)]) /\ Ext w w':=by
 obtain ⟨a,b,rfl,h2⟩:=hv;obtain ⟨rv,rfl,hr⟩:=hu;obtain ⟨A,Uq,rfl,-,-,-⟩:=h2.ships.opened;obtain ⟨M,Wq,rfl,-,-,-⟩:=h2.members.opened;obtain ⟨R,Gq,rfl,-,-,-⟩:=hr.opened;have H2:=hid h2;have HR:=hid hr;have HS:=hid hs;clear h2 hr hs;go_enter func64,ntmps64;go_wp2_with fail;change Calls _ _ _ (((w.alloc (.cells #[.int .i64 s.limit,.slice A s.ships.length Uq,.slice M s.members.length Wq] 34)).alloc (.cells #[.slice R p.length Gq] 38)).alloc (.cells #[.int .i64 0,.int .i64 0] 107)) _;obtain ⟨W,Nq,k0,k1,k2,Sq,eW⟩:=Q9s w 34 #[.int .i64 s.limit,.slice A s.ships.length Uq,.slice M s.members.length Wq] 38 #[.slice R p.length Gq] 107 #[.int .i64 0,.int .i64 0];rw [Nq];clear Nq;have K0:=hid k0;have K2:=hid k2;clear k0 k1 k2;refine (X3o _ _ _ s p ⟨_,_,rfl,H2.out.ext Sq.out⟩ ⟨_,rfl,HR.out.ext Sq.out⟩ HS.out hp).mono ?_;rintro e w5 ⟨x5,rfl,Z1,Cq⟩;have vq:=hid (Sq.out.trans Cq);have dx:=hid (K0.out.ext Cq);have VQ:=hid (K2.out.ext Cq)
 by_cases he:Q1j s p=0
 . obtain ⟨hV,Wz⟩:=Q5g he
   have HV:=hid hV;have h8:=hV.some;have hF:Y0d s p=Z3j s p:=if_pos he;have HF:=hid hF;have jw:=hid he;have hne:(Q1j s p != 0)=false:=by simp [he]
   have th:Q5c s p=Q2k s p:=if_pos he;rw [th] at Z1;have rX:=kept_len s p;have V1:0 <= Q1u s (Q2k s p) /\ Q1u s (Q2k s p) <= 8000:=by have h:=Z8j hV (X1s s p); omega
   have XZ:=J2d hV s.members.length (Nat.le_refl _);rw [J0w] at XZ;have qc:=hid (X6c w5 _ x5 s (Q2k s p) ⟨_,_,rfl,H2.out.ext vq.out⟩ Z1 hV (X1s s p) (by omega))
   have YQ:Hid (Z3j s p=lowest (Q1u s (Q2k s p)) (Q1u s (allL s))):=hid rfl;have rh:=hid (J0w s);obtain ⟨E,hE⟩:∃ E,Q1j s p=E:=⟨_,rfl⟩;have Fx:=hid (hE.symm.trans he);obtain ⟨A5,c5,J5,-,-,-⟩:=Z1.opened;subst J5;have c0:=(dx.out).cell 0;have c1:=(dx.out).cell 1;have c2:=(dx.out).cell 2;simp only [Go.Tw.gA,Go.Tw.gB,Go.Tw.gC] at c0 c1 c2;rw [hE] at hne ⊢;rw [Fx.out];obtain ⟨kw,iZ⟩:∃ z,Q1u s (Q2k s p)=z:=⟨_,rfl⟩;obtain ⟨aw,qh⟩:∃ z,Q1u s (allL s)=z:=⟨_,rfl⟩;rw [iZ] at qc YQ V1;rw [qh] at YQ rh XZ;obtain ⟨kl,mV⟩:∃ z,(Q2k s p).length=z:=⟨_,rfl⟩;rw [mV] at qc ⊢;clear he hE Cq hV hF th iZ qh Wz Z1 rX mV;go_wp2_with (go_at_call 134; refine qc.out.mono ?_; rintro e w6 ⟨rfl,Kj⟩; refine halted ?_);have Yx:=hid Kj;have k6:=dx.out.ext Kj;replace c0:=Kj.cell c0;replace c1:=Kj.cell c1;replace c2:=Kj.cell c2;clear Kj k6;unfold Q1o;go_wp2
   go_loopw [9,30] (fun o i wr=>∃ (k:Nat),k <= s.members.length /\ i=.int .i64 k /\ o=.int .i64 (wTo s k) /\ Ext w6 wr) (fun _ i _=>s.members.length - (intOf i).toNat)
   case atStart=>exact ⟨0,Nat.zero_le _,rfl,by simp [wTo],Ext.refl _⟩
   case round =>
    clear c0 c1 c2;obtain ⟨k,hk,rfl,rfl,hx⟩:=hrel;have HX:=hid hx
    by_cases Tq:k < s.members.length
    . obtain ⟨bm,off,Rq,Jq,Bq,X,Y,Z,hm⟩:=Q3s (H2.out.ext (vq.out.trans (Yx.out.trans hx))).members Tq
      have Lj:(k:Int) < s.members.length:=by omega
      obtain rfl:=hm.addr;have e0:=hm.e0;have e1:=hm.e1;have e2:=hm.e2;have e3:=hm.e3;have e4:=hm.e4;have yj:=Z5n s k;have nz:=J2d HV.out (k + 1) Tq;obtain ⟨nm,vj⟩:∃ x,Q1t s.members k=x:=⟨_,rfl⟩;obtain ⟨wt,Vj⟩:∃ x,Q0o s.members k=x:=⟨_,rfl⟩;obtain ⟨lc,mj⟩:∃ x,(Q0c s.members k).length=x:=⟨_,rfl⟩;obtain ⟨lo,Lx⟩:∃ x,(Q0z s.members k).length=x:=⟨_,rfl⟩;obtain ⟨li,yx⟩:∃ x,(Q1g s.members k).length=x:=⟨_,rfl⟩;rw [vj] at e0;rw [Vj] at e1 yj;rw [mj] at e2;rw [Lx] at e3;rw [yx] at e4;have qq:=hid yj;rw [yj] at nz;obtain ⟨sm,hsm⟩:∃ x,wTo s k=x:=⟨_,rfl⟩;rw [hsm] at nz qq ⊢;have b9:IntKind.i64.wrap (sm + wt)=sm + wt:=Q3b _ (by omega) (by omega)
      have yq:=Ext.box wr (.cells #[.string nm,.int .i64 wt,.slice X lc Rq,.slice Y lo Jq,.slice Z li Bq] 69);have K3:=Blk.made wr 69 #[.string nm,.int .i64 wt,.slice X lc Rq,.slice Y lo Jq,.slice Z li Bq];have d0:=(K3).cell 0;have d1:=(K3).cell 1;have d2:=(K3).cell 2;have d3:=(K3).cell 3;have d4:=(K3).cell 4;simp only [Go.Tw.gA,Go.Tw.gB,Go.Tw.gC] at d0 d1 d2 d3 d4;have ij:=hid (hx.trans yq);clear hm yj vj Vj mj Lx yx hsm yq K3 hx
      go_light
      go_wp2;go_roundw
      case rel=>exact ⟨k + 1,by omega,by go_num,by rw [qq.out],ij.out⟩
      case measure=>simp [intOf]; omega
    . have Cj:k=s.members.length:=by omega
      subst Cj;rw [rh.out];clear hx;go_wp2;have ly:1 <= aw /\ aw <= 8000:=by omega
      obtain ⟨w7,rfl⟩:∃ X,X=wr:=⟨_,rfl⟩;have Po:=hid (vq.out.trans (Yx.out.trans HX.out));have P4:=hid (VQ.out.ext (Yx.out.trans HX.out));clear XZ
      go_loopw [12,13] (fun x y wr=>∃ (p q:Int),x=.int .i64 p /\ y=.int .i64 q /\ 0 <= p /\ 0 <= q /\ p <= 8000 /\ q <= 8000 /\ (0 < p ∨ 0 < q) /\ Int.gcd p q=Int.gcd kw aw /\ Ext w7 wr) (fun _ y _=>(intOf y).toNat)
      case atStart=>exact ⟨kw,aw,rfl,rfl,V1.1,by omega,V1.2,ly.2,by omega,rfl,Ext.refl _⟩
      case round =>
       obtain ⟨p',q',rfl,rfl,xQ,F3,F5,U7,yr,hg,lj⟩:=hrel
       by_cases hz:q'=0
       . subst hz
         have ph:p'=(Int.gcd kw aw:Int):=by rw [<- hg,Int.gcd_zero]; omega
         have ur:¬ p'=0:=by omega
         have Oo:=hid ph;clear hg ph;have Y9:kw / p' <= kw:=Int.ediv_le_self _ V1.1;have Mo:aw / p' <= aw:=Int.ediv_le_self _ (by omega)
         have pc:0 <= kw / p':=Int.ediv_nonneg V1.1 xQ;have tr:0 <= aw / p':=Int.ediv_nonneg (by omega) xQ
         have sr:kw.tdiv p'=kw / p':=Int.tdiv_eq_ediv_of_nonneg V1.1;have rr:aw.tdiv p'=aw / p':=Int.tdiv_eq_ediv_of_nonneg (by omega)
         have qr:IntKind.i64.wrap (kw / p')=kw / p':=Q3b _ (by omega) (by omega)
         have mr:IntKind.i64.wrap (aw / p')=aw / p':=Q3b _ (by omega) (by omega)
         have Qg:=hid lj;have Vq:=(Ext.refl wr).drew;go_wp2;refine Flow.Q4h [.p,.p,.p,.p,.p,.p,.p,.last,.last] [0,1,2,3,4,5,6,7,8] [[],[],[0,1],[],[],[3,4],[0,1,2,3,4,5],[0,1,2,3,4,5,6],[0,1,2,3,4,5,6,7]] [7,8]
          [.c 0 (.int .i64 kw),.c 1 (.int .i64 p'),.c 2 (.int .i64 (kw / p')),.c 3 (.int .i64 aw),.c 4 (.int .i64 p'),.c 5 (.int .i64 (aw / p')),.c 6 (.agg #[.int .i64 (kw / p'),.int .i64 (aw / p')]),.none,.none]
          [fun v w1 w'=>Blk w' (w.heap.size + 1 + 1) 107 #[.int .i64 (kw / p'),.int .i64 (aw / p')] /\ (∀ n,n <= w.heap.size + 1 + 1 -> Below n w1 w'),fun v w1 w'=>v 8=.int .i64 0 /\ Blk w' (w.heap.size + 1 + 1) 107 #[.int .i64 (kw / p'),.int .i64 (aw / p')] /\ (∀ n,n <= w.heap.size + 1 + 1 -> Below n w1 w')] (by kernel_rfl) rfl (by kernel_rfl) ⟨?g0,?g1,?g2,?g3,?g4,?g5,?g6,?g7,?g8,trivial⟩ ?post
         case g0 | g1 | g3 | g4=>
          intro v w1 hx;intro bb hbb;subst hbb;refine ⟨_,fun w=>?_,rfl⟩;go_simp
         case g2 | g5 | g6=>
          intro v w1 hx;(repeat intro (zq:v _=_));intro bb hbb;subst hbb;refine ⟨_,fun w=>?_,rfl⟩;go_simp
         case g7=>
          intro v w1 hx;(repeat intro (zq:v _=_));intro wl hT;obtain rfl:wl=w1:=hT;intro bb hbb;intro K hK;have o1:bb.eval (.tmp 4)=.pointer (some ⟨w.heap.size + 1 + 1,0,none⟩):=fze09
          have o2:bb.eval (.tmp 53)=.agg #[.int .i64 (kw / p'),.int .i64 (aw / p')]:=by rw [hbb]; dsimp only; (try simp (discharger:=decide) only [eval_put_ne]); rw [Q0a (by simp only [size_put]; exact (by decide:53 < 54))]; assumption
          exact Q2i (.tmp 4) (.tmp 53) _ rfl Y5q o1 o2 (P4.out.ext (Qg.out.trans (Vq.trans hx))) rfl rfl Y2a (fun vv w' hb hl ho=>hK _ _ ⟨hb,hl⟩)
         case g8=>
          intro v w1 hx;(repeat intro (zq:v _=_));intro wl hT;replace hT:(fun v w1 w'=>Blk w' (w.heap.size + 1 + 1) 107 #[.int .i64 (kw / p'),.int .i64 (aw / p')] /\ (∀ n,n <= w.heap.size + 1 + 1 -> Below n w1 w')) v w1 wl:=hT;intro bb hbb;subst hbb;intro K hK;go_simp;exact hK _ _ ⟨rfl,hT⟩
         case post =>
          intro v w1 hx;(iterate 7 intro (zq:v _=_));intro w2 hE;replace hE:(fun v w1 w'=>v 8=.int .i64 0 /\ Blk w' (w.heap.size + 1 + 1) 107 #[.int .i64 (kw / p'),.int .i64 (aw / p')] /\ (∀ n,n <= w.heap.size + 1 + 1 -> Below n w1 w')) v w1 w2:=hE;simp only [Flow.acts,Act.put];go_simp;obtain ⟨Lo,Fj,Pj⟩:=hE;have ij:Hid (Ext w w2):=hid (Below.trans (Po.out.trans (Qg.out.trans (Vq.trans hx))) (Pj _ (by omega)))
          try rw [Lo]
          clear hx Vq Pj;(repeat clear zq);go_wp2;refine bodyPost_ret (Q3u results64 rfl Fj J6d Y5q rfl) rfl ?_;exact ⟨by rw [jw.out,HF.out,YQ.out,Oo.out]; rfl,ij.out⟩
       . have Z4:0 < q':=by omega
         have yj:=J5j p' q' xQ Z4;have Ow:p' % q' < q':=Int.emod_lt_of_pos p' Z4;have Ko:=Int.emod_nonneg p' (show q' ≠ 0 by omega)
         rw [Int.tmod_eq_emod_of_nonneg xQ] at yj;go_wp2
         go_quiet (fail)
         all_goals go_wp2
         go_roundw
         case rel=>exact ⟨q',p' % q',rfl,by go_num,by omega,Ko,U7,by omega,Or.inl Z4,by rw [yj,hg],lj.drewN _⟩
         case measure=>exact (Int.toNat_lt_toNat Z4).2 Ow
 . have HF:Hid (Y0d s p=⟨0,0⟩):=hid (if_neg he)
   have hne:(Q1j s p != 0)=true:=by simp [he]
   obtain ⟨E,hE⟩:∃ E,Q1j s p=E:=⟨_,rfl⟩;have Ex:=hid hE;have F5:=VQ.out;obtain ⟨A5,c5,J5,-,-,-⟩:=Z1.opened;subst J5;rw [hE] at hne ⊢;clear he hE Cq Z1;go_wp2_with (with_reducible (refine Q6z ?_); refine Q0v rfl _ _ _ rfl Y5q rfl rfl F5 rfl rfl Y2a ?_; intro w9 Fj Pj cj);refine bodyPost_ret (Q3u results64 rfl Fj J6d Y5q rfl) rfl ?_;exact ⟨by rw [Ex.out,HF.out]; rfl,Below.trans vq.out (Pj _ (by omega))⟩
end Go.Proofs
namespace Go.Proofs
open Go.RowKit Go.Tw Go.Flow
def Q6v (s:Q0b) (n:Int):Int:=Q0h [s.err,Q0u (X3f s n) 10]
theorem Y3m {s:Q0b} {n:Int} (h:Q6v s n=0):Q0w s /\ 0 <= n /\ n < s.members.length:=by
 unfold Q6v Q0h at h
 by_cases he:s.err=0
 . rw [if_pos he] at h
   refine ⟨Q0w.of he,?_⟩;unfold Q0h X3f Q0u at h
   by_cases h0:n < 0 <;> by_cases h1:(s.members.length:Int) <= n <;> simp [h0,h1] at h ⊢ <;> omega
 . rw [if_neg he] at h; exact absurd h he
end Go.Proofs
