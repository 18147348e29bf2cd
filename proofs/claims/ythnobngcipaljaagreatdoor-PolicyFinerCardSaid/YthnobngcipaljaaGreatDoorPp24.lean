/- Contract: decide, from split's at the tide behind. Contract: split, no tide left. -/
import Derived.Test.YthnobngcipaljaaGreatDoorPp23
import Derived.Test.YthnobngcipaljaaGreatDoorPp08
set_option maxRecDepth 1000000
set_option maxHeartbeats 64000000
set_option linter.unusedVariables false
set_option linter.unusedSimpArgs false
set_option linter.constructorNameAsVariable false
open Go.Lib (hid)
namespace Go.Tw
open Go.RowKit Go.Flow
theorem X9y {k:Nat} {W:Int} {H:Nat} {x:Plan} (h:PBd k W H x) (hk:k <= 6) (hW:0 <= W /\ W <= 8000) (hH:H <= 9):Proofs.Y8m x:=by
 have h1:(k:Int) * W <= 6 * 8000:=Int.mul_le_mul (by omega) hW.2 hW.1 (by omega)
 obtain ⟨a,b,c,d⟩:=h;exact ⟨by omega,by omega,by omega,by omega⟩
theorem X9f {s:Q0b} (hV:Q1b s):∀ {l:List Runner},Known s l -> 0 <= Q4v s l /\ Q4v s l <= 1000 * l.length
 | [],_=>by simp [Q4v]
 | r :: l,h=>by
   have h1:=hV.weights r.member (h r List.mem_cons_self);have h2:=X9f hV fun q hq=>h q (List.mem_cons_of_mem _ hq);have e:Q4v s (r :: l)=Q0i s.members r.member + Q4v s l:=by unfold Q4v; rw [List.map_cons,List.sum_cons]
   rw [e,List.length_cons];omega
theorem Z1x {s:Q0b} {l:List Runner} {j:Nat} {r:Runner} (h:l[j]?=some r):Q4v s (l.take (j + 1))=Q4v s (l.take j) + Q0i s.members r.member:=by
 obtain ⟨hk,rfl⟩:=List.getElem?_eq_some_iff.1 h;unfold Q4v;rw [List.take_succ_eq_append_getElem hk,List.map_append,List.sum_append];simp
end Go.Tw
namespace Go.Proofs
open Go.RowKit Go.Tw Go.Flow
attribute [local go_sem] Oper.semAt_some
def Y3c (s:Q0b) (k:Nat):Prop:=∀ (w:World) (B:Nat) (u v:Value) (l:List Runner),Q0h w u s -> Q0z w B 233 3 encR v l -> Known s l -> Lev (s.ships.length - k) l -> Q6t s (s.ships.length - k) l -> l.length <= 8 ->
 Calls Tryz.prog 157 #[u,.int .i64 ((s.ships.length - k:Nat):Int),v] w fun e w'=>∃ x qs,e=.returned x /\ Q0z w' w.heap.size 159 4 Q2f x qs /\ Q0j w' qs /\ qs.map (·.1)=Q1w s k l /\ Ext w w'
theorem X4o {P:Program} {K:Value -> World -> Prop} {o:Oper} {a:Act} {w:World} {f:FuncId} {x y z:Operand} {ts:Array TypeId} {u v t:Value} {R:Ending -> World -> Prop} (ho:o.op=.call { callee:=.value (.func f),args:=#[x,y,z],argTypes:=ts })
    (he:Enters P f) (hx:a.eval x=u) (hy:a.eval y=v) (hz:a.eval z=t) (h:Calls P f #[u,v,t] w R) (hk:∀ e w',R e w' -> ∃ z,e=.returned z /\ K z w'):gives P K ((execOp a.eval o).run P w):=by
 unfold execOp;simp only [ho,resolve,invoke,Sem.run_bind,List.map_toArray,List.map_cons,List.map_nil,hx,hy,hz];go_simp;rw [he];exact Q0e h hk
theorem X5j {P:Program} {K:Value -> World -> Prop} {o:Oper} {a:Act} {w:World} {f:FuncId} {x y z q:Operand} {ts:Array TypeId} {u v t r:Value} {R:Ending -> World -> Prop} (ho:o.op=.call { callee:=.value (.func f),args:=#[x,y,z,q],argTypes:=ts })
    (he:Enters P f) (hx:a.eval x=u) (hy:a.eval y=v) (hz:a.eval z=t) (hq:a.eval q=r) (h:Calls P f #[u,v,t,r] w R) (hk:∀ e w',R e w' -> ∃ z,e=.returned z /\ K z w'):gives P K ((execOp a.eval o).run P w):=by
 unfold execOp;simp only [ho,resolve,invoke,Sem.run_bind,List.map_toArray,List.map_cons,List.map_nil,hx,hy,hz,hq];go_simp;rw [he];exact Q0e h hk
theorem Tryz.Z5h (w:World):(sizeOf 3).run Tryz.prog w=.ok 1 w:=by kernel_rfl
theorem Tryz.Z5l (w:World):(sizeOf 9).run Tryz.prog w=.ok 1 w:=by kernel_rfl
theorem Y9a (w:World) (B:Nat) (u v:Value) (s:Q0b) (k:Nat) (l:List Runner) (hSub:Y3c s k) (hu:Q0h w u s) (hv:Q0z w B 233 3 encR v l) (hV:Q1b s) (hk1:k + 1 <= s.ships.length) (hF:s.hist.length <= 9)
    (hkn:Known s l) (hlv:Lev (s.ships.length - (k + 1)) l) (hsh:Q6t s (s.ships.length - k) l) (hn:l ≠ []) (hl:l.length <= 8) :
    Calls Tryz.prog 185 #[u,.int .i64 ((s.ships.length - (k + 1):Nat):Int),v] w fun e w'=>∃ x qs,e=.returned x /\ Q0z w' w.heap.size 159 4 Q2f x qs /\ Q0j w' qs /\ qs.map (·.1)=Q3l s (s.ships.length - (k + 1)) (Q1w s k) l /\ Ext w w':=by
 obtain ⟨aS,bS,rfl,h2⟩:=hu;obtain ⟨A,capa,rfl,-,-,-⟩:=h2.ships.opened;obtain ⟨M,capb,rfl,-,-,-⟩:=h2.members.opened;have h6:=hV.tides;have hbd:=X5n hV hk1 (Q6b hV k (by omega)) hkn hn hsh
 obtain ⟨a1,a2⟩:=Q6b hV k (by omega) (moved s (s.ships.length - (k + 1)) false l) (Q2q hkn) (Q3c hsh)
 obtain ⟨b1,b2⟩:=Q6b hV k (by omega) (moved s (s.ships.length - (k + 1)) true l) (Q2q hkn) (Q3c hsh)
 have hW:=X9f hV hkn;have hp:2 ^ X2m s (s.ships.length - (k + 1)) l <= 2 ^ 9:=Nat.pow_le_pow_right (by omega) (Nat.le_trans (X5i _ _) hF)
 rw [X1l] at a2 b2;have HTA:Hid (∀ x ∈ Q1w s k (moved s (s.ships.length - (k + 1)) false l),Y8m x):=hid (fun x hx=>X9y (a2 x hx) (by omega) (by omega) (Nat.le_trans (X5i _ _) hF))
 have HTB:Hid (∀ x ∈ Q1w s k (moved s (s.ships.length - (k + 1)) true l),Y8m x):=hid (fun x hx=>X9y (b2 x hx) (by omega) (by omega) (Nat.le_trans (X5i _ _) hF))
 have HLN:Hid ((Q1w s k (moved s (s.ships.length - (k + 1)) false l)).length + (Q1w s k (moved s (s.ships.length - (k + 1)) true l)).length <= 512):=hid (by have:=hbd.1; omega)
 have HWB:Hid (0 <= Q4v s l /\ Q4v s l <= 8000):=hid (by omega)
 clear hbd a1 a2 b1 b2 hp hW;have HSPL:=hid hSub;have e1:s.ships.length - k=s.ships.length - (k + 1) + 1:=by omega
 have HSP:Hid (∀ (W:World) (v:Value) (c:Bool),Ext w W -> Q0z W 0 233 3 encR v (moved s (s.ships.length - (k + 1)) c l) ->
     Calls Tryz.prog 157 #[.agg #[.int .i64 s.limit,.slice A s.ships.length capa,.slice M s.members.length capb],.int .i64 (((s.ships.length - (k + 1):Nat):Int) + 1),v] W fun e w'=>∃ x qs,e=.returned x /\ Q0z w' W.heap.size 159 4 Q2f x qs /\ Q0j w' qs /\ qs.map (·.1)=Q1w s k (moved s (s.ships.length - (k + 1)) c l) /\ Ext W w') :=
  hid (fun W v c hW hv=>by
   have h:=hSub W 0 _ v _ ⟨_,_,rfl,h2.ext hW⟩ hv (Q2q hkn) (by rw [e1]; exact Z1q hV (by omega) hkn hlv) (Q3c hsh) (by rw [Y0e,List.length_map]; exact hl)
   rw [e1] at h;exact h)
 have HMV:=hid (fun (W:World) (c:Bool) (hW:Ext w W)=>Z2e W B _ v l s (s.ships.length - (k + 1)) c ⟨_,_,rfl,h2.ext hW⟩ (hv.below hW) hkn hlv (by omega) hV (by omega))
 have htd:=hV.delays (ix s.ships (s.ships.length - (k + 1))) (by rw [Q4s (by omega)]; exact List.getElem_mem _)
 have HDC:Hid (Q3l s (s.ships.length - (k + 1)) (Q1w s k) l=X5y (Q1w s k (moved s (s.ships.length - (k + 1)) false l) ++ (Q1w s k (moved s (s.ships.length - (k + 1)) true l)).map (X5l s (s.ships.length - (k + 1)) (Q4v s l) (Y1m s (s.ships.length - (k + 1)) l)))):=hid rfl;obtain ⟨r0,rest,hr0⟩:=List.exists_cons_of_ne_nil hn;have hk0:=hkn r0 (by rw [hr0]; exact List.mem_cons_self)
 have hl0:0 < l.length:=by rw [hr0]; simp
 have hg0:l[0]?=some r0:=by rw [hr0]; rfl
 have HHK:Hid (Y1m s (s.ships.length - (k + 1)) l=Q5x ((Q0c s.members r0.member).take (s.ships.length - (k + 1) + 1))):=hid (by rw [hr0]; rfl)
 have hcls:=(hV.shaped r0.member hk0).1;have hdg:=hV.digits r0.member hk0;have hts:s.ships.length - (k + 1) < s.ships.length:=by omega
 obtain ⟨t,ht⟩:∃ z,s.ships.length - (k + 1)=z:=⟨_,rfl⟩;rw [ht] at HTA HTB HLN HSP HMV HDC HHK htd hts ⊢;rw [HDC.out];obtain ⟨P0,hP0⟩:∃ z,Q1w s k (moved s t false l)=z:=⟨_,rfl⟩;obtain ⟨P1,hP1⟩:∃ z,Q1w s k (moved s t true l)=z:=⟨_,rfl⟩;have HS0:=hid (fun (W:World) (v:Value) hW hv=>HSP.out W v false hW hv);have HS1:=hid (fun (W:World) (v:Value) hW hv=>HSP.out W v true hW hv);have HM0:=hid (fun (W:World) hW=>HMV.out W false hW);have HM1:=hid (fun (W:World) hW=>HMV.out W true hW);rw [hP0] at HTA HLN HS0 ⊢;rw [hP1] at HTB HLN HS1 ⊢;obtain ⟨M0,hM0⟩:∃ z,moved s t false l=z:=⟨_,rfl⟩;obtain ⟨M1,hM1⟩:∃ z,moved s t true l=z:=⟨_,rfl⟩;rw [hM0] at HS0 HM0;rw [hM1] at HS1 HM1;obtain ⟨key,hkey⟩:∃ z,Y1m s t l=z:=⟨_,rfl⟩;rw [hkey] at HHK ⊢;have HH2:=hid h2;have HOW:=hid hv;have HKN:=hid hkn;have HTD:=hid htd;have HCLS:=hid hcls;have HDG:=hid hdg;have HV:=hid hV;obtain ⟨Al,cl,hAl,HCELL⟩:=hv.reads Q6v;subst hAl;have hwt1:IntKind.i64.wrap ((t:Int) + 1)=(t:Int) + 1:=Q2v _ (by omega) (by omega)
 clear HSP HMV HDC hSub hv hF hlv hsh hn hP0 hP1 hM0 hM1 hkey h2 hkn htd hcls hdg hV HSPL e1 hr0;go_enter Tryz.func185,Tryz.ntmps185;go_wp2_with fail;change Code.wp _ _ _ _ ((w.alloc (.cells #[.int .i64 s.limit,.slice A s.ships.length capa,.slice M s.members.length capb] 34)).alloc (.cells #[.int .i64 (t:Int)] 3));obtain ⟨W,hWW,k0,k1,HXW,eW⟩:=Q4e w 34 #[.int .i64 s.limit,.slice A s.ships.length capa,.slice M s.members.length capb] 3 #[.int .i64 (t:Int)];rw [hWW];clear hWW;have K0:=hid k0;have K1:=hid k1;obtain ⟨gs,hgs⟩:∃ z,w.heap.size=z:=⟨_,rfl⟩;have HGS:=hid hgs;rw [hgs] at K0 K1 eW ⊢;have HENM:=hid (enters_of (P:=Tryz.prog) Tryz.func198 (by kernel_rfl) rfl)
 have HENS:=hid (enters_of (P:=Tryz.prog) Tryz.func157 (by kernel_rfl) rfl)
 have HENK:=hid (enters_of (P:=Tryz.prog) Tryz.func102 (by kernel_rfl) rfl)
 clear k0 k1 hgs;have hdr:=(Ext.refl W).drew;refine Flow.Q1o [.w,.w,.p,.w,.w,.p,.w,.w,.p] [0,1,2,3,4,5,6,7,8] [[],[],[1],[],[],[],[3,4,5],[0,2,6],[0,1,2,3,4,5,6,7]]
  [.c 0 (.agg #[.int .i64 s.limit,.slice A s.ships.length capa,.slice M s.members.length capb]),.c 1 (.int .i64 (t:Int)),.c 2 (.int .i64 ((t:Int) + 1)),.c 3 (.agg #[.int .i64 s.limit,.slice A s.ships.length capa,.slice M s.members.length capb]),.c 4 (.int .i64 (t:Int)),.c 5 (.slice Al l.length cl),⟨fun v wz=>(fun v w'=>Q0z w' 0 233 3 encR (v 6) M0) v wz,by intro v a b hx h; exact Q0z.below h hx⟩,⟨fun v wz=>(fun v w'=>∃ qs,Q0z w' 0 159 4 Q2f (v 7) qs /\ Q0j w' qs /\ qs.map (·.1)=P0) v wz,by rintro v a b hx ⟨qs,h1,h2,h3⟩; exact ⟨qs,Q0z.below h1 hx,h2.ext hx,h3⟩⟩,.is 8 (fun v=>v 7)]
  (by kernel_rfl) rfl (by kernel_rfl) ⟨?g0,?g1,?g2,?g3,?g4,?g5,?g6,?g7,?g8,trivial⟩ ?post
 case g0 | g3=>
  intro v w1 hx;intro bb hbb;intro K hK;have o1:bb.eval (.tmp 3)=.pointer (some ⟨gs,0,none⟩):=by rw [hbb]; dsimp only; (try simp (discharger:=decide) only [eval_put_ne]); rfl
  exact Q0p (.tmp 3) _ rfl Tryz.X6u Tryz.Q9o o1 (K0.out.ext (hdr.trans hx)) rfl (hK _ _ (Ext.refl _) rfl)
 case g1 | g4=>
  intro v w1 hx;intro bb hbb;subst hbb;have n0:w1.cell? ⟨gs + 1,0,none⟩=some (.int .i64 (t:Int)):=(K1.out.ext (hdr.trans hx)).cell 0;intro K hK;go_simp;exact hK _ _ (Ext.refl _) rfl
 case g2=>
  intro v w1 hx;(repeat intro (zq:v _=_));intro bb hbb;subst hbb;refine ⟨_,fun w=>?_,rfl⟩;go_simp
 case g5=>
  intro v w1 hx;intro bb hbb;subst hbb;refine ⟨_,fun w=>?_,rfl⟩;go_simp
 case g6=>
  intro v w1 hx;(repeat intro (zq:v _=_));intro bb hbb;intro K hK;have o1:bb.eval (.tmp 16)=.agg #[.int .i64 s.limit,.slice A s.ships.length capa,.slice M s.members.length capb]:=by rw [hbb]; dsimp only; (try simp (discharger:=decide) only [eval_put_ne]); rw [Q0a (by simp only [size_put]; exact (by decide:16 < 65))]; assumption
  have o2:bb.eval (.tmp 17)=.int .i64 (t:Int):=by rw [hbb]; dsimp only; (try simp (discharger:=decide) only [eval_put_ne]); rw [Q0a (by simp only [size_put]; exact (by decide:17 < 65))]; assumption
  have o3:bb.eval (.tmp 18)=.slice Al l.length cl:=by rw [hbb]; dsimp only; (try simp (discharger:=decide) only [eval_put_ne]); rw [Q0a (by simp only [size_put]; exact (by decide:18 < 65))]; assumption
  refine X5j rfl HENM.out o1 o2 o3 rfl (HM0.out w1 (HXW.out.trans (hdr.trans hx))) ?_;rintro e w2 ⟨z,rfl,h1,h2⟩;exact ⟨_,rfl,hK _ _ h2 (Q0z.weaken h1 (Nat.zero_le _))⟩
 case g7=>
  intro v w1 hx (q0:v 0=_) (q2:v 2=_) (q6:(fun v w'=>Q0z w' 0 233 3 encR (v 6) M0) v w1);intro bb hbb;intro K hK;have o1:bb.eval (.tmp 13)=.agg #[.int .i64 s.limit,.slice A s.ships.length capa,.slice M s.members.length capb]:=by rw [hbb]; dsimp only; (try simp (discharger:=decide) only [eval_put_ne]); rw [Q0a (by exact (by decide:13 < 65))]; exact q0
  have o2:bb.eval (.tmp 15)=.int .i64 ((t:Int) + 1):=by rw [hbb]; dsimp only; (try simp (discharger:=decide) only [eval_put_ne]); rw [Q0a (by simp only [size_put]; exact (by decide:15 < 65))]; exact q2
  have o3:bb.eval (.tmp 19)=v 6:=by rw [hbb]; dsimp only; (try simp (discharger:=decide) only [eval_put_ne]); rw [Q0a (by simp only [size_put]; exact (by decide:19 < 65))]
  refine X4o rfl HENS.out o1 o2 o3 (HS0.out w1 _ (HXW.out.trans (hdr.trans hx)) q6) ?_;rintro e w2 ⟨z,qs,rfl,h1,h2,h3,h4⟩;exact ⟨_,rfl,hK _ _ h4 ⟨qs,Q0z.weaken h1 (Nat.zero_le _),h2,h3⟩⟩
 case g8=>
  intro v w1 hx (q0:v 0=_) (q1:v 1=_) (q2:v 2=_) (q3:v 3=_) (q4:v 4=_) (q5:v 5=_) _ _;intro bb hbb;subst hbb;refine ⟨_,fun w=>?_,rfl⟩;go_simp
 case post =>
  intro v w1 hx (q0:v 0=_) (q1:v 1=_) (q2:v 2=_) (q3:v 3=_) (q4:v 4=_) (q5:v 5=_) (q6:(fun v w'=>Q0z w' 0 233 3 encR (v 6) M0) v w1) (q7:(fun v w'=>∃ qs,Q0z w' 0 159 4 Q2f (v 7) qs /\ Q0j w' qs /\ qs.map (·.1)=P0) v w1) (q8:v 8=v 7);simp only [Flow.All,Flow.acts,Act.put];go_simp;obtain ⟨qa,ha1,ha2,ha3⟩:=q7;have HXA:=hid (HXW.out.trans (hdr.trans hx));have KA0:=hid (K0.out.ext (hdr.trans hx));have KA1:=hid (K1.out.ext (hdr.trans hx));have HA1:=hid ha1;have HA2:=hid ha2;have HA3:=hid ha3;obtain ⟨wa,rfl⟩:∃ X,X=w1:=⟨_,rfl⟩;obtain ⟨va,hva⟩:∃ z,v 7=z:=⟨_,rfl⟩;rw [hva] at HA1 ⊢;obtain ⟨vm,hvm⟩:∃ z,v 6=z:=⟨_,rfl⟩
  try rw [hvm]
  clear hx hdr ha1 ha2 ha3 hva hvm q0 q1 q2 q3 q4 q5 q6;go_wp2;have hdr:=(Ext.refl wa).drew;refine Flow.Q1o [.w,.w,.p,.w,.w,.p,.w,.w,.p] [0,1,2,3,4,5,6,7,8] [[],[],[1],[],[],[],[3,4,5],[0,2,6],[0,1,2,3,4,5,6,7]]
   [.c 0 (.agg #[.int .i64 s.limit,.slice A s.ships.length capa,.slice M s.members.length capb]),.c 1 (.int .i64 (t:Int)),.c 2 (.int .i64 ((t:Int) + 1)),.c 3 (.agg #[.int .i64 s.limit,.slice A s.ships.length capa,.slice M s.members.length capb]),.c 4 (.int .i64 (t:Int)),.c 5 (.slice Al l.length cl),⟨fun v wz=>(fun v w'=>Q0z w' 0 233 3 encR (v 6) M1) v wz,by intro v a b hx h; exact Q0z.below h hx⟩,⟨fun v wz=>(fun v w'=>∃ qs,Q0z w' 0 159 4 Q2f (v 7) qs /\ Q0j w' qs /\ qs.map (·.1)=P1) v wz,by rintro v a b hx ⟨qs,h1,h2,h3⟩; exact ⟨qs,Q0z.below h1 hx,h2.ext hx,h3⟩⟩,.is 8 (fun v=>v 7)]
   (by kernel_rfl) rfl (by kernel_rfl) ⟨?g0,?g1,?g2,?g3,?g4,?g5,?g6,?g7,?g8,trivial⟩ ?post
  case g0 | g3=>
   intro v w1 hx;intro bb hbb;intro K hK;have o1:bb.eval (.tmp 3)=.pointer (some ⟨gs,0,none⟩):=by rw [hbb]; dsimp only; (try simp (discharger:=decide) only [eval_put_ne]); rfl
   exact Q0p (.tmp 3) _ rfl Tryz.X6u Tryz.Q9o o1 (KA0.out.ext (hdr.trans hx)) rfl (hK _ _ (Ext.refl _) rfl)
  case g1 | g4=>
   intro v w1 hx;intro bb hbb;subst hbb;have n0:w1.cell? ⟨gs + 1,0,none⟩=some (.int .i64 (t:Int)):=(KA1.out.ext (hdr.trans hx)).cell 0;intro K hK;go_simp;exact hK _ _ (Ext.refl _) rfl
  case g2=>
   intro v w1 hx;(repeat intro (zq:v _=_));intro bb hbb;subst hbb;refine ⟨_,fun w=>?_,rfl⟩;go_simp
  case g5=>
   intro v w1 hx;intro bb hbb;subst hbb;refine ⟨_,fun w=>?_,rfl⟩;go_simp
  case g6=>
   intro v w1 hx;(repeat intro (zq:v _=_));intro bb hbb;intro K hK;have o1:bb.eval (.tmp 24)=.agg #[.int .i64 s.limit,.slice A s.ships.length capa,.slice M s.members.length capb]:=by rw [hbb]; dsimp only; (try simp (discharger:=decide) only [eval_put_ne]); rw [Q0a (by simp only [size_put]; exact (by decide:24 < 65))]; assumption
   have o2:bb.eval (.tmp 25)=.int .i64 (t:Int):=by rw [hbb]; dsimp only; (try simp (discharger:=decide) only [eval_put_ne]); rw [Q0a (by simp only [size_put]; exact (by decide:25 < 65))]; assumption
   have o3:bb.eval (.tmp 26)=.slice Al l.length cl:=by rw [hbb]; dsimp only; (try simp (discharger:=decide) only [eval_put_ne]); rw [Q0a (by simp only [size_put]; exact (by decide:26 < 65))]; assumption
   refine X5j rfl HENM.out o1 o2 o3 rfl (HM1.out w1 (HXA.out.trans (hdr.trans hx))) ?_;rintro e w2 ⟨z,rfl,h1,h2⟩;exact ⟨_,rfl,hK _ _ h2 (Q0z.weaken h1 (Nat.zero_le _))⟩
  case g7=>
   intro v w1 hx (q0:v 0=_) (q2:v 2=_) (q6:(fun v w'=>Q0z w' 0 233 3 encR (v 6) M1) v w1);intro bb hbb;intro K hK;have o1:bb.eval (.tmp 21)=.agg #[.int .i64 s.limit,.slice A s.ships.length capa,.slice M s.members.length capb]:=by rw [hbb]; dsimp only; (try simp (discharger:=decide) only [eval_put_ne]); rw [Q0a (by exact (by decide:21 < 65))]; exact q0
   have o2:bb.eval (.tmp 23)=.int .i64 ((t:Int) + 1):=by rw [hbb]; dsimp only; (try simp (discharger:=decide) only [eval_put_ne]); rw [Q0a (by simp only [size_put]; exact (by decide:23 < 65))]; exact q2
   have o3:bb.eval (.tmp 27)=v 6:=by rw [hbb]; dsimp only; (try simp (discharger:=decide) only [eval_put_ne]); rw [Q0a (by simp only [size_put]; exact (by decide:27 < 65))]
   refine X4o rfl HENS.out o1 o2 o3 (HS1.out w1 _ (HXA.out.trans (hdr.trans hx)) q6) ?_;rintro e w2 ⟨z,qs,rfl,h1,h2,h3,h4⟩;exact ⟨_,rfl,hK _ _ h4 ⟨qs,Q0z.weaken h1 (Nat.zero_le _),h2,h3⟩⟩
  case g8=>
   intro v w1 hx (q0:v 0=_) (q1:v 1=_) (q2:v 2=_) (q3:v 3=_) (q4:v 4=_) (q5:v 5=_) _ _;intro bb hbb;subst hbb;refine ⟨_,fun w=>?_,rfl⟩;go_simp
  case post =>
   intro v w1 hx (q0:v 0=_) (q1:v 1=_) (q2:v 2=_) (q3:v 3=_) (q4:v 4=_) (q5:v 5=_) (q6:(fun v w'=>Q0z w' 0 233 3 encR (v 6) M1) v w1) (q7:(fun v w'=>∃ qs,Q0z w' 0 159 4 Q2f (v 7) qs /\ Q0j w' qs /\ qs.map (·.1)=P1) v w1) (q8:v 8=v 7);simp only [Flow.All,Flow.acts,Act.put];go_simp;obtain ⟨qb,hb1,hb2,hb3⟩:=q7;have hab:=hdr.trans hx;have HXB:=hid (HXA.out.trans hab);have HQA1:=hid (Q0z.below HA1.out hab);have HQA2:=hid (HA2.out.ext hab);have KB0:=hid (KA0.out.ext hab);have KB1:=hid (KA1.out.ext hab);have HB1:=hid hb1;have HB2:=hid hb2;have HB3:=hid hb3;obtain ⟨wb,rfl⟩:∃ X,X=w1:=⟨_,rfl⟩;obtain ⟨vb,hvb⟩:∃ z,v 7=z:=⟨_,rfl⟩;rw [hvb] at HB1 ⊢;obtain ⟨vm2,hvm⟩:∃ z,v 6=z:=⟨_,rfl⟩
   try rw [hvm]
   clear hx hdr hab hb1 hb2 hb3 hvb hvm q0 q1 q2 q3 q4 q5 q6 HA1 HA2 KA0 KA1;go_wp2;have kN:=Blk.made wb 3 #[.int .i64 0];have hxN:=Ext.box wb (.cells #[.int .i64 0] 3);obtain ⟨wn,hwn⟩:∃ z,wb.alloc (.cells #[.int .i64 0] 3)=z:=⟨_,rfl⟩;rw [hwn] at kN hxN ⊢;obtain ⟨gn,hgn⟩:∃ z,wb.heap.size=z:=⟨_,rfl⟩;have HGN:=hid hgn;rw [hgn] at kN ⊢;have KN:=hid kN;have HXN:=hid hxN;clear hwn hgn kN hxN
   go_loopw [31] (fun i wr=>∃ (j:Nat),j <= l.length /\ i=.int .i64 j /\ Ext wb wr /\ Blk wr gn 3 #[.int .i64 (Q4v s (l.take j))]) (fun i _=>l.length - (intOf i).toNat)
   case atStart=>exact ⟨0,Nat.zero_le _,rfl,HXN.out,by simpa [Q4v] using KN.out⟩
   case round =>
    obtain ⟨j,hj,rfl,hx,hbn⟩:=hrel;have HX:=hid hx;have HBN:=hid hbn
    by_cases hlt:j < l.length
    . obtain ⟨gl,rfl,hcell⟩:=HCELL.out j hlt
      have hxw:=HXB.out.trans hx;have HXWR:=hid hxw;have e0:=hxw.cell (hcell 0 (by omega))
      have e1:=hxw.cell (hcell 1 (by omega))
      have e2:=hxw.cell (hcell 2 (by omega))
      have hmr:=HKN.out _ (List.getElem_mem hlt);have hsm:=Z1x (s:=s) (List.getElem?_eq_getElem hlt);obtain ⟨r,hr⟩:∃ z,l[j]=z:=⟨_,rfl⟩;rw [hr] at e0 e1 e2 hmr hsm;obtain ⟨i,hri⟩:∃ z,r.member=z:=⟨_,rfl⟩;obtain ⟨r2,hr2⟩:∃ z,r.level=z:=⟨_,rfl⟩;obtain ⟨r3,hr3⟩:∃ z,r.dry=z:=⟨_,rfl⟩;rw [hri] at hmr hsm;replace e0:wr.cell? ⟨gl,j * 3,none⟩=some (.int .i64 (i:Int)):=by rw [<- hri]; exact e0
      replace e1:wr.cell? ⟨gl,j * 3 + 1,none⟩=some (.int .i64 r2):=by rw [<- hr2]; exact e1
      replace e2:wr.cell? ⟨gl,j * 3 + 2,none⟩=some (.bool r3):=by rw [<- hr3]; exact e2
      obtain ⟨bm,off,capx,capy,capz,X,Y,Z,hm⟩:=Q2l HH2.out.members hmr;obtain rfl:=hm.addr;have hme:=hxw.cell hm.e1;have hwi:=HV.out.weights i hmr;have hiI:(i:Int) < s.members.length:=by omega
      have hjI:(j:Int) < l.length:=by omega
      have hrt:=X9f HV.out (l:=l.take j) (fun q hq=>HKN.out q (List.mem_of_mem_take hq));have hlt8:(l.take j).length <= 8:=by rw [List.length_take]; omega
      obtain ⟨wt,hwt⟩:∃ z,Q0i s.members i=z:=⟨_,rfl⟩;rw [hwt] at hme hwi hsm;obtain ⟨sm,hsm0⟩:∃ z,Q4v s (l.take j)=z:=⟨_,rfl⟩;rw [hsm0] at HBN hrt hsm;have hws:IntKind.i64.wrap (sm + wt)=sm + wt:=Q2v _ (by omega) (by omega)
      have HSM:=hid hsm;have HME:=hid hme;have hbox:=Ext.box wr (.cells #[.int .i64 (i:Int),.int .i64 r2,.bool r3] 233);have K3:=Blk.made wr 233 #[.int .i64 (i:Int),.int .i64 r2,.bool r3];have HXC:=hid hbox;clear hcell hr hri hr2 hr3 hm hwi hrt hlt8 hwt hsm0 hsm hme hbox hxw hx hbn hmr
      go_light
      go_wp2;obtain ⟨wc,hwc⟩:∃ z,wr.alloc (.cells #[.int .i64 (i:Int),.int .i64 r2,.bool r3] 233)=z:=⟨_,rfl⟩;rw [hwc] at K3 HXC ⊢;obtain ⟨gr,hgr⟩:∃ z,wr.heap.size=z:=⟨_,rfl⟩;rw [hgr] at K3 ⊢;have KR:=hid K3;have hdr:=(Ext.refl wc).drew;clear hwc hgr K3 e0 e1 e2;refine Flow.Q4m [.w,.p,.w,.p,.w,.p,.p,.w,.p,.last] [0,1,2,3,4,5,6,7,8,9] [[],[],[1],[],[3],[1,2,3,4],[1,2,3,4,5],[1,2,3,4,5,6],[0,1,2,3,4,5,6,7],[0,1,2,3,4,5,6,7,8]] [9]
       [.c 0 (.int .i64 sm),.c 1 (.pointer (some ⟨gs,2,none⟩)),.c 2 (.slice (some ⟨bm,off,none⟩) s.members.length capb),.c 3 (.pointer (some ⟨gr,0,none⟩)),.c 4 (.int .i64 (i:Int)),.c 5 (.pointer (some ⟨bm,off + i * 5,none⟩)),.c 6 (.pointer (some ⟨bm,off + i * 5 + 1,none⟩)),.c 7 (.int .i64 wt),.c 8 (.int .i64 (sm + wt)),.none]
       [fun v w1 w'=>Blk w' gn 3 #[.int .i64 (sm + wt)] /\ (∀ n,n <= gn -> Below n w1 w')] (by kernel_rfl) rfl (by kernel_rfl) ⟨?g0,?g1,?g2,?g3,?g4,?g5,?g6,?g7,?g8,?g9,trivial⟩ ?post
      case g0=>
       intro v w1 hx;intro bb hbb;subst hbb;have n0:w1.cell? ⟨gn,0,none⟩=some (.int .i64 sm):=(HBN.out.ext (HXC.out.trans (hdr.trans hx))).cell 0;intro K hK;go_simp;exact hK _ _ (Ext.refl _) rfl
      case g1 | g3=>
       intro v w1 hx;intro bb hbb;subst hbb;refine ⟨_,fun w=>?_,rfl⟩;go_simp
      case g2 | g4 | g7=>
       intro v w1 hx;(repeat intro (zq:v _=_));intro bb hbb;subst hbb;have n0:w1.cell? ⟨gs,2,none⟩=some (.slice (some ⟨bm,off,none⟩) s.members.length capb):=(KB0.out.ext (HX.out.trans (HXC.out.trans (hdr.trans hx)))).cell 2;have n1:w1.cell? ⟨gr,0,none⟩=some (.int .i64 (i:Int)):=(KR.out.ext (hdr.trans hx)).cell 0;have n2:w1.cell? ⟨bm,off + i * 5 + 1,none⟩=some (.int .i64 wt):=(HXC.out.trans (hdr.trans hx)).cell HME.out;intro K hK;go_simp;exact hK _ _ (Ext.refl _) rfl
      case g5 | g6 | g8=>
       intro v w1 hx;(repeat intro (zq:v _=_));intro bb hbb;subst hbb;refine ⟨_,fun w=>?_,rfl⟩;go_simp
      case g9=>
       intro v w1 hx;(repeat intro (zq:v _=_));intro wl hT;obtain rfl:wl=w1:=hT;intro bb hbb;intro K hK;have o1:bb.eval (.tmp 9)=.pointer (some ⟨gn,0,none⟩):=by rw [hbb]; dsimp only; (try simp (discharger:=decide) only [eval_put_ne]); rfl
       have o2:bb.eval (.tmp 43)=.int .i64 (sm + wt):=by rw [hbb]; dsimp only; (try simp (discharger:=decide) only [eval_put_ne]); rw [Q0a (by simp only [size_put]; exact (by decide:43 < 65))]; assumption
       have hbl:=HBN.out.ext (HXC.out.trans (hdr.trans hx));exact Q3y (.tmp 9) (.tmp 43) rfl Tryz.Z5h o1 o2 rfl rfl hbl Nat.zero_lt_one (fun vv=>hK _ _ ⟨hbl.set 0 _,fun n hn=>(Below.refl n wl).setCell (p:=⟨gn,0,none⟩) hn _⟩)
      case post =>
       intro v w1 hx;(iterate 9 intro (zq:v _=_));intro w2 hE;replace hE:(fun v w1 w'=>Blk w' gn 3 #[.int .i64 (sm + wt)] /\ (∀ n,n <= gn -> Below n w1 w')) v w1 w2:=hE;simp only [Flow.acts,Act.put];go_simp;obtain ⟨hb9,hl9⟩:=hE;have HX9:Hid (Ext wb w2):=hid (Below.trans (HX.out.trans (HXC.out.trans (hdr.trans hx))) (hl9 _ (by rw [HGN.out]; exact Nat.le_refl _)))
       have HB9:=hid hb9;clear hx hdr hb9 hl9;(repeat clear zq);go_wp2;go_roundw
       case rel=>exact ⟨j + 1,by omega,by go_num,HX9.out,by rw [HSM.out]; exact HB9.out⟩
       case measure=>simp [intOf]; omega
    . have hje:j=l.length:=by omega
      subst hje;rw [List.take_length] at HBN;go_wp2;obtain ⟨gl,rfl,hcell⟩:=HCELL.out 0 hl0;have hxw:=HXB.out.trans hx;have e0:=hxw.cell (hcell 0 (by omega))
      have hr:l[0]=r0:=by
       have h:=List.getElem?_eq_getElem hl0;rw [hg0] at h;exact (Option.some.inj h).symm
      rw [hr] at e0;obtain ⟨i,hri⟩:∃ z,r0.member=z:=⟨_,rfl⟩;rw [hri] at HHK hk0;replace e0:wr.cell? ⟨gl,0,none⟩=some (.int .i64 (i:Int)):=by rw [<- hri]; exact e0
      have HE0:=hid e0;obtain ⟨bm,off,capx,capy,capz,X,Y,Z,hm⟩:=Q2l HH2.out.members hk0;obtain rfl:=hm.addr;have hcl:=HCLS.out;have hdg:=HDG.out;rw [hri] at hcl hdg;have hxi:=hm.x;have hclt:t < (Q0c s.members i).length:=by omega
      obtain ⟨X',capx',hXe,-,hlc,hcX⟩:=hxi.opened;injection hXe with hXe hce hcpe;subst hXe;subst hcpe;obtain ⟨bc,oc,hXe,-⟩:=hcX t hclt;subst hXe;have HME:=hid (hxw.cell hm.e2);have HPRE:Hid (Q0d w (.slice (some ⟨bc,oc,none⟩) (t + 1) capx) ((Q0c s.members i).take (t + 1))):=hid (X6b hxi (by omega))
      have HPL:Hid (((Q0c s.members i).take (t + 1)).length <= 4096):=hid (by rw [List.length_take]; omega)
      have HPD:=hid (Q4k hdg (t + 1));have hiI:(i:Int) < s.members.length:=by omega
      have hl0I:(0:Int) < l.length:=by omega
      have hkc:t + 1 <= capx:=by omega
      have hkcI:(t:Int) + 1 <= (capx:Int):=by omega
      have hkc1:¬ ((0:Int) <= (t:Int) + 1 -> (capx:Int) < (t:Int) + 1):=by omega
      have hkc2:¬ capx=0:=by omega
      have hkc4:¬ (t:Int) + 1 < 0:=by omega
      have hkc3:((t:Int) + 1).toNat=t + 1:=by omega
      obtain ⟨lp,hlp⟩:∃ x,(Q0c s.members i).take (t + 1)=x:=⟨_,rfl⟩;rw [hlp] at HPRE HPL HPD HHK;obtain ⟨lc,hlce⟩:∃ x,(Q0c s.members i).length=x:=⟨_,rfl⟩;rw [hlce] at HME;have HXWR:=hid hxw;have hdr:=(Ext.refl wr).drew;clear hcell hxw hm hxi hr hri hcl hdg hlc hcX hlp hlce hclt e0 hx hbn hg0;refine Flow.Q4m [.p,.w,.p,.p,.p,.w,.p,.p,.w,.w,.p,.p,.w,.w,.last] [0,1,2,3,4,5,6,7,8,9,10,11,12,13,14] [[],[0],[],[2],[2,3],[2,3,4],[0,1,2,3,4,5],[0,1,2,3,4,5,6],[0,1,2,3,4,5,6,7],[],[9],[0,1,2,3,4,5,6,7,8,9,10],[0,1,2,3,4,5,6,7,8,9,10,11],[],[0,1,2,3,4,5,6,7,8,9,10,11,12,13]] [14]
       [.c 0 (.pointer (some ⟨gs,2,none⟩)),.c 1 (.slice (some ⟨bm,off,none⟩) s.members.length capb),.c 2 (.slice (some ⟨gl,0,none⟩) l.length cl),.c 3 (.pointer (some ⟨gl,0,none⟩)),.c 4 (.pointer (some ⟨gl,0,none⟩)),.c 5 (.int .i64 (i:Int)),.c 6 (.pointer (some ⟨bm,off + i * 5,none⟩)),.c 7 (.pointer (some ⟨bm,off + i * 5 + 2,none⟩)),.c 8 (.slice (some ⟨bc,oc,none⟩) lc capx),.c 9 (.int .i64 (t:Int)),.c 10 (.int .i64 ((t:Int) + 1)),.c 11 (.slice (some ⟨bc,oc,none⟩) (t + 1) capx),.c 12 (.string (Q5x lp)),⟨fun v wz=>(fun v w'=>∃ g z,v 13=.pointer (some ⟨g,0,none⟩) /\ Blk w' g 9 #[z] /\ wr.heap.size <= g) v wz,by rintro v a b hx ⟨g,z,h1,h2,h3⟩; exact ⟨g,z,h1,h2.ext hx,h3⟩⟩,.none]
       [fun v w1 w'=>∃ g,v 13=.pointer (some ⟨g,0,none⟩) /\ Blk w' g 9 #[.string (Q5x lp)] /\ (∀ n,n <= g -> Below n w1 w') /\ wr.heap.size <= g] (by kernel_rfl) rfl (by kernel_rfl) ⟨?g0,?g1,?g2,?g3,?g4,?g5,?g6,?g7,?g8,?g9,?g10,?g11,?g12,?g13,?g14,trivial⟩ ?post
      case g0 | g2=>
       intro v w1 hx;intro bb hbb;subst hbb;refine ⟨_,fun w=>?_,rfl⟩;go_simp
      case g1 | g5 | g8=>
       intro v w1 hx;(repeat intro (zq:v _=_));intro bb hbb;subst hbb;have n0:w1.cell? ⟨gs,2,none⟩=some (.slice (some ⟨bm,off,none⟩) s.members.length capb):=(KB0.out.ext (HX.out.trans (hdr.trans hx))).cell 2;have n1:w1.cell? ⟨gl,0,none⟩=some (.int .i64 (i:Int)):=(hdr.trans hx).cell HE0.out;have n2:w1.cell? ⟨bm,off + i * 5 + 2,none⟩=some (.slice (some ⟨bc,oc,none⟩) lc capx):=(hdr.trans hx).cell HME.out;intro K hK;go_simp;exact hK _ _ (Ext.refl _) rfl
      case g3 | g4 | g6 | g7 | g10 | g11=>
       intro v w1 hx;(repeat intro (zq:v _=_));intro bb hbb;subst hbb;refine ⟨_,fun w=>?_,rfl⟩;go_simp
      case g9=>
       intro v w1 hx;intro bb hbb;subst hbb;have n0:w1.cell? ⟨gs + 1,0,none⟩=some (.int .i64 (t:Int)):=(KB1.out.ext (HX.out.trans (hdr.trans hx))).cell 0;intro K hK;go_simp;exact hK _ _ (Ext.refl _) rfl
      case g12=>
       intro v w1 hx;(repeat intro (zq:v _=_));intro bb hbb;subst hbb;intro K hK;go_simp;refine Q0e (Y0f w1 _ lp (HPRE.out.ext (HXWR.out.trans (hdr.trans hx))) HPL.out HPD.out) ?_;rintro e w2 ⟨rfl,hx2⟩;exact ⟨_,rfl,hK _ _ hx2 rfl⟩
      case g13=>
       intro v w1 hx;intro bb hbb;subst hbb;intro K hK;go_simp;exact hK _ _ (Ext.box _ _) ⟨_,_,rfl,Blk.made _ _ _,(hdr.trans hx).size⟩
      case g14=>
       intro v w1 hx (q0:v 0=_) (q1:v 1=_) (q2:v 2=_) (q3:v 3=_) (q4:v 4=_) (q5:v 5=_) (q6:v 6=_) (q7:v 7=_) (q8:v 8=_) (q9:v 9=_) (q10:v 10=_) (q11:v 11=_) (q12:v 12=_) (q13:(fun v w'=>∃ g z,v 13=.pointer (some ⟨g,0,none⟩) /\ Blk w' g 9 #[z] /\ wr.heap.size <= g) v w1);intro wl hT;obtain rfl:wl=w1:=hT;intro bb hbb;intro K hK;obtain ⟨g,z,e13,h13,h13s⟩:=q13;have o1:bb.eval (.tmp 12)=.pointer (some ⟨g,0,none⟩):=by rw [hbb]; dsimp only; (try simp (discharger:=decide) only [eval_put_ne]); rw [Q0a (by simp only [size_put]; exact (by decide:12 < 65))]; exact e13
       have o2:bb.eval (.tmp 57)=.string (Q5x lp):=by rw [hbb]; dsimp only; (try simp (discharger:=decide) only [eval_put_ne]); rw [Q0a (by simp only [size_put]; exact (by decide:57 < 65))]; exact q12
       exact Q3y (.tmp 12) (.tmp 57) rfl Tryz.Z5l o1 o2 rfl rfl h13 Nat.zero_lt_one (fun vv=>hK _ _ ⟨g,e13,h13.set 0 _,fun n hn=>(Below.refl n wl).setCell (p:=⟨g,0,none⟩) hn _,h13s⟩)
      case post =>
       intro v w1 hx;(iterate 13 intro (zq:v _=_));intro (q13:(fun v w'=>∃ g z,v 13=.pointer (some ⟨g,0,none⟩) /\ Blk w' g 9 #[z] /\ wr.heap.size <= g) v w1);intro w2 hE;replace hE:(fun v w1 w'=>∃ g,v 13=.pointer (some ⟨g,0,none⟩) /\ Blk w' g 9 #[.string (Q5x lp)] /\ (∀ n,n <= g -> Below n w1 w') /\ wr.heap.size <= g) v w1 w2:=hE;simp only [Flow.acts,Act.put];go_simp;obtain ⟨gk,e13,hbk,hl9,hsz⟩:=hE;have hxk:Ext wr w2:=Below.trans (hdr.trans hx) (hl9 _ hsz);have hxw:=HXWR.out.trans hxk;have hxb:=HX.out.trans hxk;have hqa:=Q0z.below HQA1.out hxb;obtain ⟨Aa,ca,hsa,-⟩:=hqa.shape;subst hsa;have hqb:=Q0z.below HB1.out hxb;have HQA:=hid hqa;have HCA:=hid (HQA2.out.ext hxb);have hla:qa.length + qb.length <= 512:=by
        have h1:=HLN.out;rw [<- HA3.out,<- HB3.out,List.length_map,List.length_map] at h1;exact h1
       have HLA:=hid hla;have HMAP:=hid (X9p w2 0 vb qb gs (gs + 1) gn gk _ _ s t (Q4v s l) key hqb (HB2.out.ext hxb) (fun q hq=>HTB.out _ (by rw [<- HB3.out]; exact List.mem_map_of_mem hq)) (by omega) (KB0.out.ext hxb) ⟨_,_,rfl,HH2.out.ext hxw⟩ ((KB1.out.ext hxb).cell 0) ((HBN.out.ext hxk).cell 0)
        (by rw [HHK.out]; exact hbk.cell 0) hts (by have:=HWB.out; omega) HTD.out)
       have HXW2:=hid hxw;rw [e13];obtain ⟨Ab,cb,hsb,-⟩:=hqb.shape;subst hsb;clear hx hdr hxk hxw hxb hqa hqb hla hbk hl9 hsz e13 q13;(repeat clear zq);go_wp2_with (go_at_call 200; refine HMAP.out.mono ?_; rintro e w5 ⟨x5,qs5,rfl,h1,h2,h3,h4⟩; refine halted ?_);have HO5:=hid h1;have HC5:=hid h2;have HM5:=hid h3;have HX5:=hid h4;obtain ⟨A5,c5,hs5,-⟩:=h1.shape;subst hs5;have HL5:Hid (qs5.length=qb.length):=hid (by
        have:=congrArg List.length h3;rw [List.length_map,List.length_map,List.length_map] at this;exact this)
       have hxn:=Ext.box w5 (.cells #[.slice Aa qa.length ca,.slice A5 qs5.length c5] 160);have HXN5:=hid hxn;have HCC:=hid (Y5w (w5.alloc (.cells #[.slice Aa qa.length ca,.slice A5 qs5.length c5] 160)) w5.heap.size 160 _ _ 0 _ qa qs5 (Blk.made _ _ _) (Q0z.below HQA.out (h4.trans hxn)) (Q0z.below h1 hxn) (Y2j HCA.out) (Y2j h2) (by have:=HLA.out; rw [HL5.out]; omega))
       clear h1 h2 h3 h4 hxn;unfold Q1i;go_wp2_with (go_at_call 199; refine HCC.out.mono ?_; rintro e w6 ⟨x6,rfl,h1,h4⟩; refine halted ?_);have HX6:=hid (HXN5.out.trans h4);have HC6:Hid (Q0j w6 (qa ++ qs5)):=hid (fun z hz=>by
        rcases List.mem_append.1 hz with hz | hz
        . exact HCA.out.ext (HX5.out.trans HX6.out) z hz
        . exact HC5.out.ext HX6.out z hz)
       have HUN:=hid (Q7r w6 _ x6 (qa ++ qs5) h1 HC6.out (by rw [List.length_append,HL5.out]; have:=HLA.out; omega))
       clear h1 h4;unfold Q1i;go_wp2_with (go_at_call 197; refine HUN.out.mono ?_; rintro e w7 ⟨x7,qs7,rfl,h1,h2,h3,h4⟩; refine halted ?_);have HO7:=hid h1;have HC7:=hid h2;have HM7:=hid h3;have HX7:=hid h4;clear h1 h2 h3 h4;unfold Q1i;go_wp2;go_ret;have hxx:Ext w w6:=HXW2.out.trans (HX5.out.trans HX6.out);exact ⟨_,qs7,rfl,Q0z.weaken HO7.out hxx.size,HC7.out,by rw [HM7.out,List.map_append,HA3.out,HM5.out,HB3.out],hxx.trans HX7.out⟩
end Go.Proofs
namespace Go.Tw
open Go.RowKit Go.Flow
theorem Z2l {s:Q0b} {l:List Runner} {j:Nat} {r:Runner} (h:l[j]?=some r):X9u s (l.take (j + 1))=X9u s (l.take j) + if r.dry then Q0i s.members r.member else 0:=by
 obtain ⟨hk,rfl⟩:=List.getElem?_eq_some_iff.1 h;unfold X9u;rw [List.take_succ_eq_append_getElem hk,List.map_append,List.sum_append];simp
theorem Y7f {s:Q0b} (hV:Q1b s):∀ {l:List Runner},Known s l -> 0 <= X9u s l /\ X9u s l <= 1000 * l.length
 | [],_=>by simp [X9u]
 | r :: l,h=>by
   have h1:=hV.weights r.member (h r List.mem_cons_self);have h2:=Y7f hV fun q hq=>h q (List.mem_cons_of_mem _ hq);have e:X9u s (r :: l)=(if r.dry then Q0i s.members r.member else 0) + X9u s l:=by unfold X9u; rw [List.map_cons,List.sum_cons]
   rw [e,List.length_cons]
   split <;> omega
end Go.Tw
namespace Go.Proofs
open Go.RowKit Go.Tw Go.Flow
attribute [local go_sem] Oper.semAt_some
theorem Y7r {w:World} {g:Nat} {x:Int} (h:Blk w g 159 #[.int .i64 x,.int .i64 0,.int .i64 0,.slice none 0 0]) {B:Nat} (hB:B <= g):Q0z w B 159 4 Q2f (.slice (some ⟨g,0,none⟩) 1 1) [((⟨x,0,0,[]⟩:Plan),Value.slice none 0 0)] :=
 ⟨by simp [Q2f],.inr ⟨g,1,_,rfl,hB,h,Nat.le_refl _,by unfold maxLen; omega,by simp,by simp [Q2f]⟩⟩
theorem X7n (w:World) (x:Int):Q0j w [((⟨x,0,0,[]⟩:Plan),Value.slice none 0 0)]:=fun q hq=>by
 obtain rfl:=List.mem_singleton.1 hq;exact Q0q.nil _ _ _ _
theorem Y8p (s:Q0b) (hV:Q1b s):Y3c s 0:=by
 intro w B u v l hu hv hkn hlv hsh hl;obtain ⟨aS,bS,rfl,h2⟩:=hu;obtain ⟨A,capa,rfl,-,-,-⟩:=h2.ships.opened;obtain ⟨M,capb,rfl,-,-,-⟩:=h2.members.opened;have h6:=hV.tides;have HH2:=hid h2;have HKN:=hid hkn;have HV:=hid hV;have HFIN:Hid (Q1w s 0 l=[⟨X9u s l,0,0,[]⟩]):=hid rfl;rw [HFIN.out];obtain ⟨Al,cl,hAl,HCELL⟩:=hv.reads Q6v;subst hAl;rw [Nat.sub_zero];clear h2 hv hkn hlv hsh hV HFIN;go_enter Tryz.func157,Tryz.ntmps157;go_wp2_with fail;change Code.wp _ _ _ _ (w.alloc (.cells #[.int .i64 s.limit,.slice A s.ships.length capa,.slice M s.members.length capb] 34));obtain ⟨W,hWW,k0,HXW,eW⟩:=Q1t w 34 #[.int .i64 s.limit,.slice A s.ships.length capa,.slice M s.members.length capb];rw [hWW];clear hWW;have K0:=hid k0;obtain ⟨gs,hgs⟩:∃ z,w.heap.size=z:=⟨_,rfl⟩;have HGS:=hid hgs;rw [hgs] at K0 eW ⊢;have c1:=K0.out.cell 1;simp only [Go.Tw.gA,Go.Tw.gB,Go.Tw.gC] at c1;clear k0 hgs;go_wp2;clear c1
 go_loopw [7,22] (fun o i wr=>∃ (j:Nat),j <= l.length /\ i=.int .i64 j /\ o=.int .i64 (X9u s (l.take j)) /\ Ext W wr) (fun _ i _=>l.length - (intOf i).toNat)
 case atStart=>exact ⟨0,Nat.zero_le _,rfl,by simp [X9u],Ext.refl _⟩
 case round =>
  obtain ⟨j,hj,rfl,rfl,hx⟩:=hrel;have HX:=hid hx
  by_cases hlt:j < l.length
  . obtain ⟨gl,rfl,hcell⟩:=HCELL.out j hlt
    have hxw:=HXW.out.trans hx;have HXWR:=hid hxw;have e0:=hxw.cell (hcell 0 (by omega))
    have e1:=hxw.cell (hcell 1 (by omega))
    have e2:=hxw.cell (hcell 2 (by omega))
    have hmr:=HKN.out _ (List.getElem_mem hlt);have hsm:=Z2l (s:=s) (List.getElem?_eq_getElem hlt);obtain ⟨r,hr⟩:∃ z,l[j]=z:=⟨_,rfl⟩;rw [hr] at e0 e1 e2 hmr hsm;obtain ⟨i,hri⟩:∃ z,r.member=z:=⟨_,rfl⟩;obtain ⟨r2,hr2⟩:∃ z,r.level=z:=⟨_,rfl⟩;obtain ⟨r3,hr3⟩:∃ z,r.dry=z:=⟨_,rfl⟩;rw [hri] at hmr hsm;rw [hr3] at hsm;replace e0:wr.cell? ⟨gl,j * 3,none⟩=some (.int .i64 (i:Int)):=by rw [<- hri]; exact e0
    replace e1:wr.cell? ⟨gl,j * 3 + 1,none⟩=some (.int .i64 r2):=by rw [<- hr2]; exact e1
    replace e2:wr.cell? ⟨gl,j * 3 + 2,none⟩=some (.bool r3):=by rw [<- hr3]; exact e2
    obtain ⟨bm,off,capx,capy,capz,X,Y,Z,hm⟩:=Q2l HH2.out.members hmr;obtain rfl:=hm.addr;have hme:=hxw.cell hm.e1;have hwi:=HV.out.weights i hmr;have hiI:(i:Int) < s.members.length:=by omega
    have hjI:(j:Int) < l.length:=by omega
    have hrt:=Y7f HV.out (l:=l.take j) (fun q hq=>HKN.out q (List.mem_of_mem_take hq));have hlt8:(l.take j).length <= 8:=by rw [List.length_take]; omega
    obtain ⟨wt,hwt⟩:∃ z,Q0i s.members i=z:=⟨_,rfl⟩;rw [hwt] at hme hwi hsm;obtain ⟨sm,hsm0⟩:∃ z,X9u s (l.take j)=z:=⟨_,rfl⟩;rw [hsm0] at hrt hsm;have hws:IntKind.i64.wrap (sm + wt)=sm + wt:=Q2v _ (by omega) (by omega)
    have HSM:=hid hsm;have hbox:=Ext.box wr (.cells #[.int .i64 (i:Int),.int .i64 r2,.bool r3] 233);have K3:=Blk.made wr 233 #[.int .i64 (i:Int),.int .i64 r2,.bool r3];have d0:=(K3).cell 0;have d1:=(K3).cell 1;have d2:=(K3).cell 2;simp only [Go.Tw.gA,Go.Tw.gB,Go.Tw.gC] at d0 d1 d2;have c2:=(K0.out.ext hx).ext hbox |>.cell 2
    simp only [Go.Tw.gA,Go.Tw.gB,Go.Tw.gC] at c2;replace hme:=hbox.cell hme;have HX9:=hid (hx.trans hbox);clear hcell hr hri hr2 hr3 hm hwi hrt hlt8 hwt hsm hbox hxw hx hmr K3;rw [hsm0];clear hsm0
    go_light
    cases r3 with
    | true =>
      rw [if_pos rfl] at HSM;go_wp2;go_roundw
      case rel=>exact ⟨j + 1,by omega,by go_num,by rw [HSM.out],HX9.out⟩
      case measure=>simp [intOf]; omega
    | false =>
      rw [if_neg (by simp)] at HSM
      go_wp2;go_roundw
      case rel=>exact ⟨j + 1,by omega,by go_num,by rw [HSM.out,Int.add_zero],HX9.out⟩
      case measure=>simp [intOf]; omega
  . have hje:j=l.length:=by omega
    subst hje;rw [List.take_length];clear hx;go_wp2;go_ret;have hb:=Blk.made wr 159 #[.int .i64 (X9u s l),.int .i64 0,.int .i64 0,.slice none 0 0];exact ⟨_,[((⟨X9u s l,0,0,[]⟩:Plan),Value.slice none 0 0)],rfl,Y7r hb (HXW.out.trans HX.out).size,X7n _ _,rfl,(HXW.out.trans HX.out).trans (Ext.box _ _)⟩
end Go.Proofs
