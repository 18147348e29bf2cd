/- Contract: decide, from split's at the tide behind. Contract: split, no tide left. Contract: split. Contracts: split, plans. Contracts: slices.Max, mapped over plans to numbers, Most. Contracts: slices.Index and Contains over strings, the function that Best lays over the histories, mapped over histories to rules. Contract: mapped over histories to rules, by the function that Best lays over them. Contract: Best. Contracts: the function that Always lays over the histories, mapped, Always. Contracts: slices.Clone of a list; owned: a policy of the call's own. Contract: the function literal of groups (have two members the same classes?). Ranges over functions inside a loop: the marks that they leave among the deferred calls; a loop whose invariant names them and counts up in a slot. Contract: groups (of the program): the groups of a valid Q9v and the sum of their weights. Contract: Regret (of the program). Contract of the reference: Alone. Contracts: Weight of the program; what is needed of it. What the law PolicyPlays needs: the answers of Flip and Play case by case; lists that outlast a store. -/
import Derived.Test.YtodinjclfmiohaaGreatKc07
import Derived.Test.YtodinjclfmiohaaGreatKc05
import Derived.Test.YtodinjclfmiohaaGreatKc06
import Derived.Test.YtodinjclfmiohaaGreatKc02
import Derived.Scope
import Derived.WalkMore
import Derived.Test.YtodinjclfmiohaaGreatKc03
import Derived.OwnWalk
import Derived.Deep.DeepCutAuto
set_option maxRecDepth 1000000
set_option maxHeartbeats 64000000
set_option linter.unusedVariables false
set_option linter.unusedSimpArgs false
set_option linter.constructorNameAsVariable false
namespace Go.Tw
open Go.RowKit Go.Flow
theorem Y3z {k:Nat} {W:Int} {H:Nat} {x:Plan} (h:PBd k W H x) (hk:k <= 6) (hW:0 <= W /\ W <= 8000) (hH:H <= 9):Proofs.Z6m x:=by
 have h1:(k:Int) * W <= 6 * 8000:=Int.mul_le_mul (by omega) hW.2 hW.1 (by omega)
 obtain ⟨a,b,c,d⟩:=h;exact ⟨by omega,by omega,by omega,by omega⟩
theorem Y5u {s:Q0b} (hV:Q0m s):∀ {l:List Runner},Known s l -> 0 <= Q5s s l /\ Q5s s l <= 1000 * l.length
 | [],_=>by simp [Q5s]
 | r :: l,h=>by
   have h1:=hV.weights r.member (h r List.mem_cons_self);have h2:=Y5u hV fun q hq=>h q (List.mem_cons_of_mem _ hq);have e:Q5s s (r :: l) = Q0h s.members r.member + Q5s s l:=by unfold Q5s; rw [List.map_cons,List.sum_cons]
   rw [e,List.length_cons];omega
theorem J1d {s:Q0b} {l:List Runner} {j:Nat} {r:Runner} (h:l[j]? = some r):Q5s s (l.take (j + 1)) = Q5s s (l.take j) + Q0h s.members r.member:=by
 obtain ⟨hk,rfl⟩:=List.getElem?_eq_some_iff.1 h;unfold Q5s;rw [List.take_succ_eq_append_getElem hk,List.map_append,List.sum_append];simp
end Go.Tw
namespace Go.Proofs
open Go.RowKit Go.Tw Go.Flow
attribute [local go_sem] Oper.semAt_some
def Y6s (s:Q0b) (k:Nat):Prop:=∀ (w:World) (B:Nat) (u v:Value) (l:List Runner),Q0p w u s -> Q0u w B 206 3 encR v l -> Known s l -> Lev (s.ships.length - k) l -> Q8g s (s.ships.length - k) l -> l.length <= 8 ->
 Calls Tryz.prog 108 #[u,.int .i64 ((s.ships.length - k:Nat):Int),v] w fun e w'=>∃ x qs,e = .returned x /\ Q0u w' w.heap.size 151 4 Q2o x qs /\ Q0o w' qs /\ qs.map (·.1) = Q2d s k l /\ Ext w w'
theorem X7w {P:Program} {K:Value -> World -> Prop} {o:Oper} {a:Act} {w:World} {f:FuncId} {x y z:Operand} {ts:Array TypeId} {u v t:Value} {R:Ending -> World -> Prop} (ho:o.op = .call { callee:=.value (.func f),args:=#[x,y,z],argTypes:=ts })
    (he:Enters P f) (hx:a.eval x = u) (hy:a.eval y = v) (hz:a.eval z = t) (h:Calls P f #[u,v,t] w R) (hk:∀ e w',R e w' -> ∃ z,e = .returned z /\ K z w'):gives P K ((execOp a.eval o).run P w):=by
 unfold execOp;simp only [ho,resolve,invoke,Sem.run_bind,List.map_toArray,List.map_cons,List.map_nil,hx,hy,hz];go_simp;rw [he];exact Q0f h hk
theorem X7x {P:Program} {K:Value -> World -> Prop} {o:Oper} {a:Act} {w:World} {f:FuncId} {x y z q:Operand} {ts:Array TypeId} {u v t r:Value} {R:Ending -> World -> Prop} (ho:o.op = .call { callee:=.value (.func f),args:=#[x,y,z,q],argTypes:=ts })
    (he:Enters P f) (hx:a.eval x = u) (hy:a.eval y = v) (hz:a.eval z = t) (hq:a.eval q = r) (h:Calls P f #[u,v,t,r] w R) (hk:∀ e w',R e w' -> ∃ z,e = .returned z /\ K z w'):gives P K ((execOp a.eval o).run P w):=by
 unfold execOp;simp only [ho,resolve,invoke,Sem.run_bind,List.map_toArray,List.map_cons,List.map_nil,hx,hy,hz,hq];go_simp;rw [he];exact Q0f h hk
theorem Tryz.J2e (w:World):(sizeOf 3).run Tryz.prog w = .ok 1 w:=by kernel_rfl
theorem Tryz.J3s (w:World):(sizeOf 9).run Tryz.prog w = .ok 1 w:=by kernel_rfl
theorem Z5x (w:World) (B:Nat) (u v:Value) (s:Q0b) (k:Nat) (l:List Runner) (hSub:Y6s s k) (hu:Q0p w u s) (hv:Q0u w B 206 3 encR v l) (hV:Q0m s) (hk1:k + 1 <= s.ships.length) (hF:s.hist.length <= 9)
    (hkn:Known s l) (hlv:Lev (s.ships.length - (k + 1)) l) (hsh:Q8g s (s.ships.length - k) l) (hn:l ≠ []) (hl:l.length <= 8) :
    Calls Tryz.prog 160 #[u,.int .i64 ((s.ships.length - (k + 1):Nat):Int),v] w fun e w'=>∃ x qs,e = .returned x /\ Q0u w' w.heap.size 151 4 Q2o x qs /\ Q0o w' qs /\ qs.map (·.1) = Q3v s (s.ships.length - (k + 1)) (Q2d s k) l /\ Ext w w':=by
 obtain ⟨aS,bS,rfl,h2⟩:=hu;obtain ⟨A,capa,rfl,-,-,-⟩:=h2.ships.opened;obtain ⟨M,capb,rfl,-,-,-⟩:=h2.members.opened;have h6:=hV.tides;have hbd:=Y0u hV hk1 (Q7c hV k (by omega)) hkn hn hsh
 obtain ⟨a1,a2⟩:=Q7c hV k (by omega) (moved s (s.ships.length - (k + 1)) false l) (Q3i hkn) (Q3m hsh)
 obtain ⟨b1,b2⟩:=Q7c hV k (by omega) (moved s (s.ships.length - (k + 1)) true l) (Q3i hkn) (Q3m hsh)
 have hW:=Y5u hV hkn;have hp:2 ^ X6l s (s.ships.length - (k + 1)) l <= 2 ^ 9:=Nat.pow_le_pow_right (by omega) (Nat.le_trans (X8t _ _) hF)
 rw [X4u] at a2 b2;have HTA:Hid (∀ x ∈ Q2d s k (moved s (s.ships.length - (k + 1)) false l),Z6m x):=Lib.hid (fun x hx=>Y3z (a2 x hx) (by omega) (by omega) (Nat.le_trans (X8t _ _) hF))
 have HTB:Hid (∀ x ∈ Q2d s k (moved s (s.ships.length - (k + 1)) true l),Z6m x):=Lib.hid (fun x hx=>Y3z (b2 x hx) (by omega) (by omega) (Nat.le_trans (X8t _ _) hF))
 have HLN:Hid ((Q2d s k (moved s (s.ships.length - (k + 1)) false l)).length + (Q2d s k (moved s (s.ships.length - (k + 1)) true l)).length <= 512):=Lib.hid (by have:=hbd.1; omega)
 have HWB:Hid (0 <= Q5s s l /\ Q5s s l <= 8000):=Lib.hid (by omega)
 clear hbd a1 a2 b1 b2 hp hW;have HSPL:=Lib.hid hSub;have e1:s.ships.length - k = s.ships.length - (k + 1) + 1:=by omega
 have HSP:Hid (∀ (W:World) (v:Value) (c:Bool),Ext w W -> Q0u W 0 206 3 encR v (moved s (s.ships.length - (k + 1)) c l) ->
     Calls Tryz.prog 108 #[.agg #[.int .i64 s.limit,.slice A s.ships.length capa,.slice M s.members.length capb],.int .i64 (((s.ships.length - (k + 1):Nat):Int) + 1),v] W fun e w'=>∃ x qs,e = .returned x /\ Q0u w' W.heap.size 151 4 Q2o x qs /\ Q0o w' qs /\ qs.map (·.1) = Q2d s k (moved s (s.ships.length - (k + 1)) c l) /\ Ext W w') :=
  Lib.hid (fun W v c hW hv=>by
   have h:=hSub W 0 _ v _ ⟨_,_,rfl,h2.ext hW⟩ hv (Q3i hkn) (by rw [e1]; exact Z8n hV (by omega) hkn hlv) (Q3m hsh) (by rw [Y5x,List.length_map]; exact hl)
   rw [e1] at h;exact h)
 have HMV:=Lib.hid (fun (W:World) (c:Bool) (hW:Ext w W)=>J1n W B _ v l s (s.ships.length - (k + 1)) c ⟨_,_,rfl,h2.ext hW⟩ (hv.below hW) hkn hlv (by omega) hV (by omega))
 have htd:=hV.delays (ix s.ships (s.ships.length - (k + 1))) (by rw [Q5p (by omega)]; exact List.getElem_mem _)
 have HDC:Hid (Q3v s (s.ships.length - (k + 1)) (Q2d s k) l = X8r (Q2d s k (moved s (s.ships.length - (k + 1)) false l) ++ (Q2d s k (moved s (s.ships.length - (k + 1)) true l)).map (X8n s (s.ships.length - (k + 1)) (Q5s s l) (Y7n s (s.ships.length - (k + 1)) l)))):=Lib.hid rfl;obtain ⟨r0,rest,hr0⟩:=List.exists_cons_of_ne_nil hn;have hk0:=hkn r0 (by rw [hr0]; exact List.mem_cons_self)
 have hl0:0 < l.length:=by rw [hr0]; simp
 have hg0:l[0]? = some r0:=by rw [hr0]; rfl
 have HHK:Hid (Y7n s (s.ships.length - (k + 1)) l = Q6k ((Q0d s.members r0.member).take (s.ships.length - (k + 1) + 1))):=Lib.hid (by rw [hr0]; rfl)
 have hcls:=(hV.shaped r0.member hk0).1;have hdg:=hV.digits r0.member hk0;have hts:s.ships.length - (k + 1) < s.ships.length:=by omega
 obtain ⟨t,ht⟩:∃ z,s.ships.length - (k + 1) = z:=⟨_,rfl⟩;rw [ht] at HTA HTB HLN HSP HMV HDC HHK htd hts ⊢;rw [HDC.out];obtain ⟨P0,hP0⟩:∃ z,Q2d s k (moved s t false l) = z:=⟨_,rfl⟩;obtain ⟨P1,hP1⟩:∃ z,Q2d s k (moved s t true l) = z:=⟨_,rfl⟩;have HS0:=Lib.hid (fun (W:World) (v:Value) hW hv=>HSP.out W v false hW hv);have HS1:=Lib.hid (fun (W:World) (v:Value) hW hv=>HSP.out W v true hW hv);have HM0:=Lib.hid (fun (W:World) hW=>HMV.out W false hW);have HM1:=Lib.hid (fun (W:World) hW=>HMV.out W true hW);rw [hP0] at HTA HLN HS0 ⊢;rw [hP1] at HTB HLN HS1 ⊢;obtain ⟨M0,hM0⟩:∃ z,moved s t false l = z:=⟨_,rfl⟩;obtain ⟨M1,hM1⟩:∃ z,moved s t true l = z:=⟨_,rfl⟩;rw [hM0] at HS0 HM0;rw [hM1] at HS1 HM1;obtain ⟨key,hkey⟩:∃ z,Y7n s t l = z:=⟨_,rfl⟩;rw [hkey] at HHK ⊢;have HH2:=Lib.hid h2;have HOW:=Lib.hid hv;have HKN:=Lib.hid hkn;have HTD:=Lib.hid htd;have HCLS:=Lib.hid hcls;have HDG:=Lib.hid hdg;have HV:=Lib.hid hV;obtain ⟨Al,cl,hAl,HCELL⟩:=hv.reads Q8o;subst hAl;have hwt1:IntKind.i64.wrap ((t:Int) + 1) = (t:Int) + 1:=Q2q _ (by omega) (by omega)
 clear HSP HMV HDC hSub hv hF hlv hsh hn hP0 hP1 hM0 hM1 hkey h2 hkn htd hcls hdg hV HSPL e1 hr0;go_enter Tryz.func160,Tryz.ntmps160;go_wp2_with fail;change Code.wp _ _ _ _ ((w.alloc (.cells #[.int .i64 s.limit,.slice A s.ships.length capa,.slice M s.members.length capb] 74)).alloc (.cells #[.int .i64 (t:Int)] 3));obtain ⟨W,hWW,k0,k1,HXW,eW⟩:=Q6u w 74 #[.int .i64 s.limit,.slice A s.ships.length capa,.slice M s.members.length capb] 3 #[.int .i64 (t:Int)];rw [hWW];clear hWW;have K0:=Lib.hid k0;have K1:=Lib.hid k1;obtain ⟨gs,hgs⟩:∃ z,w.heap.size = z:=⟨_,rfl⟩;have HGS:=Lib.hid hgs;rw [hgs] at K0 K1 eW ⊢;have HENM:=Lib.hid (enters_of (P:=Tryz.prog) Tryz.func183 (by kernel_rfl) rfl)
 have HENS:=Lib.hid (enters_of (P:=Tryz.prog) Tryz.func108 (by kernel_rfl) rfl)
 have HENK:=Lib.hid (enters_of (P:=Tryz.prog) Tryz.func61 (by kernel_rfl) rfl)
 clear k0 k1 hgs;have hdr:=(Ext.refl W).drew;refine Flow.Q1q [.w,.w,.p,.w,.w,.p,.w,.w,.p] [0,1,2,3,4,5,6,7,8] [[],[],[1],[],[],[],[3,4,5],[0,2,6],[0,1,2,3,4,5,6,7]]
  [.c 0 (.agg #[.int .i64 s.limit,.slice A s.ships.length capa,.slice M s.members.length capb]),.c 1 (.int .i64 (t:Int)),.c 2 (.int .i64 ((t:Int) + 1)),.c 3 (.agg #[.int .i64 s.limit,.slice A s.ships.length capa,.slice M s.members.length capb]),.c 4 (.int .i64 (t:Int)),.c 5 (.slice Al l.length cl),⟨fun v wz=>(fun v w'=>Q0u w' 0 206 3 encR (v 6) M0) v wz,by intro v a b hx h; exact Q0u.below h hx⟩,⟨fun v wz=>(fun v w'=>∃ qs,Q0u w' 0 151 4 Q2o (v 7) qs /\ Q0o w' qs /\ qs.map (·.1) = P0) v wz,by rintro v a b hx ⟨qs,h1,h2,h3⟩; exact ⟨qs,Q0u.below h1 hx,h2.ext hx,h3⟩⟩,.is 8 (fun v=>v 7)]
  (by kernel_rfl) rfl (by kernel_rfl) ⟨?g0,?g1,?g2,?g3,?g4,?g5,?g6,?g7,?g8,trivial⟩ ?post
 case g0 | g3=>
  intro v w1 hx;intro bb hbb;intro K hK;have o1:bb.eval (.tmp 3) = .pointer (some ⟨gs,0,none⟩):=by rw [hbb]; dsimp only; (try simp (discharger:=decide) only [eval_put_ne]); rfl
  exact Q0x (.tmp 3) _ rfl Tryz.Z6x Tryz.Y2t o1 (K0.out.ext (hdr.trans hx)) rfl (hK _ _ (Ext.refl _) rfl)
 case g1 | g4=>
  intro v w1 hx;intro bb hbb;subst hbb;have n0:w1.cell? ⟨gs + 1,0,none⟩ = some (.int .i64 (t:Int)):=(K1.out.ext (hdr.trans hx)).cell 0;intro K hK;go_simp;exact hK _ _ (Ext.refl _) rfl
 case g2=>
  intro v w1 hx;(repeat intro (zq:v _ = _));intro bb hbb;subst hbb;refine ⟨_,fun w=>?_,rfl⟩;go_simp
 case g5=>
  intro v w1 hx;intro bb hbb;subst hbb;refine ⟨_,fun w=>?_,rfl⟩;go_simp
 case g6=>
  intro v w1 hx;(repeat intro (zq:v _ = _));intro bb hbb;intro K hK;have o1:bb.eval (.tmp 16) = .agg #[.int .i64 s.limit,.slice A s.ships.length capa,.slice M s.members.length capb]:=by rw [hbb]; dsimp only; (try simp (discharger:=decide) only [eval_put_ne]); rw [Q0a (by simp only [size_put]; exact (by decide:16 < 65))]; assumption
  have o2:bb.eval (.tmp 17) = .int .i64 (t:Int):=by rw [hbb]; dsimp only; (try simp (discharger:=decide) only [eval_put_ne]); rw [Q0a (by simp only [size_put]; exact (by decide:17 < 65))]; assumption
  have o3:bb.eval (.tmp 18) = .slice Al l.length cl:=by rw [hbb]; dsimp only; (try simp (discharger:=decide) only [eval_put_ne]); rw [Q0a (by simp only [size_put]; exact (by decide:18 < 65))]; assumption
  refine X7x rfl HENM.out o1 o2 o3 rfl (HM0.out w1 (HXW.out.trans (hdr.trans hx))) ?_;rintro e w2 ⟨z,rfl,h1,h2⟩;exact ⟨_,rfl,hK _ _ h2 (Q0u.weaken h1 (Nat.zero_le _))⟩
 case g7=>
  intro v w1 hx (q0:v 0 = _) (q2:v 2 = _) (q6:(fun v w'=>Q0u w' 0 206 3 encR (v 6) M0) v w1);intro bb hbb;intro K hK;have o1:bb.eval (.tmp 13) = .agg #[.int .i64 s.limit,.slice A s.ships.length capa,.slice M s.members.length capb]:=by rw [hbb]; dsimp only; (try simp (discharger:=decide) only [eval_put_ne]); rw [Q0a (by exact (by decide:13 < 65))]; exact q0
  have o2:bb.eval (.tmp 15) = .int .i64 ((t:Int) + 1):=by rw [hbb]; dsimp only; (try simp (discharger:=decide) only [eval_put_ne]); rw [Q0a (by simp only [size_put]; exact (by decide:15 < 65))]; exact q2
  have o3:bb.eval (.tmp 19) = v 6:=by rw [hbb]; dsimp only; (try simp (discharger:=decide) only [eval_put_ne]); rw [Q0a (by simp only [size_put]; exact (by decide:19 < 65))]
  refine X7w rfl HENS.out o1 o2 o3 (HS0.out w1 _ (HXW.out.trans (hdr.trans hx)) q6) ?_;rintro e w2 ⟨z,qs,rfl,h1,h2,h3,h4⟩;exact ⟨_,rfl,hK _ _ h4 ⟨qs,Q0u.weaken h1 (Nat.zero_le _),h2,h3⟩⟩
 case g8=>
  intro v w1 hx (q0:v 0 = _) (q1:v 1 = _) (q2:v 2 = _) (q3:v 3 = _) (q4:v 4 = _) (q5:v 5 = _) _ _;intro bb hbb;subst hbb;refine ⟨_,fun w=>?_,rfl⟩;go_simp
 case post =>
  intro v w1 hx (q0:v 0 = _) (q1:v 1 = _) (q2:v 2 = _) (q3:v 3 = _) (q4:v 4 = _) (q5:v 5 = _) (q6:(fun v w'=>Q0u w' 0 206 3 encR (v 6) M0) v w1) (q7:(fun v w'=>∃ qs,Q0u w' 0 151 4 Q2o (v 7) qs /\ Q0o w' qs /\ qs.map (·.1) = P0) v w1) (q8:v 8 = v 7);simp only [Flow.All,Flow.acts,Act.put];go_simp;obtain ⟨qa,ha1,ha2,ha3⟩:=q7;have HXA:=Lib.hid (HXW.out.trans (hdr.trans hx));have KA0:=Lib.hid (K0.out.ext (hdr.trans hx));have KA1:=Lib.hid (K1.out.ext (hdr.trans hx));have HA1:=Lib.hid ha1;have HA2:=Lib.hid ha2;have HA3:=Lib.hid ha3;obtain ⟨wa,rfl⟩:∃ X,X = w1:=⟨_,rfl⟩;obtain ⟨va,hva⟩:∃ z,v 7 = z:=⟨_,rfl⟩;rw [hva] at HA1 ⊢;obtain ⟨vm,hvm⟩:∃ z,v 6 = z:=⟨_,rfl⟩
  try rw [hvm]
  clear hx hdr ha1 ha2 ha3 hva hvm q0 q1 q2 q3 q4 q5 q6;go_wp2;have hdr:=(Ext.refl wa).drew;refine Flow.Q1q [.w,.w,.p,.w,.w,.p,.w,.w,.p] [0,1,2,3,4,5,6,7,8] [[],[],[1],[],[],[],[3,4,5],[0,2,6],[0,1,2,3,4,5,6,7]]
   [.c 0 (.agg #[.int .i64 s.limit,.slice A s.ships.length capa,.slice M s.members.length capb]),.c 1 (.int .i64 (t:Int)),.c 2 (.int .i64 ((t:Int) + 1)),.c 3 (.agg #[.int .i64 s.limit,.slice A s.ships.length capa,.slice M s.members.length capb]),.c 4 (.int .i64 (t:Int)),.c 5 (.slice Al l.length cl),⟨fun v wz=>(fun v w'=>Q0u w' 0 206 3 encR (v 6) M1) v wz,by intro v a b hx h; exact Q0u.below h hx⟩,⟨fun v wz=>(fun v w'=>∃ qs,Q0u w' 0 151 4 Q2o (v 7) qs /\ Q0o w' qs /\ qs.map (·.1) = P1) v wz,by rintro v a b hx ⟨qs,h1,h2,h3⟩; exact ⟨qs,Q0u.below h1 hx,h2.ext hx,h3⟩⟩,.is 8 (fun v=>v 7)]
   (by kernel_rfl) rfl (by kernel_rfl) ⟨?g0,?g1,?g2,?g3,?g4,?g5,?g6,?g7,?g8,trivial⟩ ?post
  case g0 | g3=>
   intro v w1 hx;intro bb hbb;intro K hK;have o1:bb.eval (.tmp 3) = .pointer (some ⟨gs,0,none⟩):=by rw [hbb]; dsimp only; (try simp (discharger:=decide) only [eval_put_ne]); rfl
   exact Q0x (.tmp 3) _ rfl Tryz.Z6x Tryz.Y2t o1 (KA0.out.ext (hdr.trans hx)) rfl (hK _ _ (Ext.refl _) rfl)
  case g1 | g4=>
   intro v w1 hx;intro bb hbb;subst hbb;have n0:w1.cell? ⟨gs + 1,0,none⟩ = some (.int .i64 (t:Int)):=(KA1.out.ext (hdr.trans hx)).cell 0;intro K hK;go_simp;exact hK _ _ (Ext.refl _) rfl
  case g2=>
   intro v w1 hx;(repeat intro (zq:v _ = _));intro bb hbb;subst hbb;refine ⟨_,fun w=>?_,rfl⟩;go_simp
  case g5=>
   intro v w1 hx;intro bb hbb;subst hbb;refine ⟨_,fun w=>?_,rfl⟩;go_simp
  case g6=>
   intro v w1 hx;(repeat intro (zq:v _ = _));intro bb hbb;intro K hK;have o1:bb.eval (.tmp 24) = .agg #[.int .i64 s.limit,.slice A s.ships.length capa,.slice M s.members.length capb]:=by rw [hbb]; dsimp only; (try simp (discharger:=decide) only [eval_put_ne]); rw [Q0a (by simp only [size_put]; exact (by decide:24 < 65))]; assumption
   have o2:bb.eval (.tmp 25) = .int .i64 (t:Int):=by rw [hbb]; dsimp only; (try simp (discharger:=decide) only [eval_put_ne]); rw [Q0a (by simp only [size_put]; exact (by decide:25 < 65))]; assumption
   have o3:bb.eval (.tmp 26) = .slice Al l.length cl:=by rw [hbb]; dsimp only; (try simp (discharger:=decide) only [eval_put_ne]); rw [Q0a (by simp only [size_put]; exact (by decide:26 < 65))]; assumption
   refine X7x rfl HENM.out o1 o2 o3 rfl (HM1.out w1 (HXA.out.trans (hdr.trans hx))) ?_;rintro e w2 ⟨z,rfl,h1,h2⟩;exact ⟨_,rfl,hK _ _ h2 (Q0u.weaken h1 (Nat.zero_le _))⟩
  case g7=>
   intro v w1 hx (q0:v 0 = _) (q2:v 2 = _) (q6:(fun v w'=>Q0u w' 0 206 3 encR (v 6) M1) v w1);intro bb hbb;intro K hK;have o1:bb.eval (.tmp 21) = .agg #[.int .i64 s.limit,.slice A s.ships.length capa,.slice M s.members.length capb]:=by rw [hbb]; dsimp only; (try simp (discharger:=decide) only [eval_put_ne]); rw [Q0a (by exact (by decide:21 < 65))]; exact q0
   have o2:bb.eval (.tmp 23) = .int .i64 ((t:Int) + 1):=by rw [hbb]; dsimp only; (try simp (discharger:=decide) only [eval_put_ne]); rw [Q0a (by simp only [size_put]; exact (by decide:23 < 65))]; exact q2
   have o3:bb.eval (.tmp 27) = v 6:=by rw [hbb]; dsimp only; (try simp (discharger:=decide) only [eval_put_ne]); rw [Q0a (by simp only [size_put]; exact (by decide:27 < 65))]
   refine X7w rfl HENS.out o1 o2 o3 (HS1.out w1 _ (HXA.out.trans (hdr.trans hx)) q6) ?_;rintro e w2 ⟨z,qs,rfl,h1,h2,h3,h4⟩;exact ⟨_,rfl,hK _ _ h4 ⟨qs,Q0u.weaken h1 (Nat.zero_le _),h2,h3⟩⟩
  case g8=>
   intro v w1 hx (q0:v 0 = _) (q1:v 1 = _) (q2:v 2 = _) (q3:v 3 = _) (q4:v 4 = _) (q5:v 5 = _) _ _;intro bb hbb;subst hbb;refine ⟨_,fun w=>?_,rfl⟩;go_simp
  case post =>
   intro v w1 hx (q0:v 0 = _) (q1:v 1 = _) (q2:v 2 = _) (q3:v 3 = _) (q4:v 4 = _) (q5:v 5 = _) (q6:(fun v w'=>Q0u w' 0 206 3 encR (v 6) M1) v w1) (q7:(fun v w'=>∃ qs,Q0u w' 0 151 4 Q2o (v 7) qs /\ Q0o w' qs /\ qs.map (·.1) = P1) v w1) (q8:v 8 = v 7);simp only [Flow.All,Flow.acts,Act.put];go_simp;obtain ⟨qb,hb1,hb2,hb3⟩:=q7;have hab:=hdr.trans hx;have HXB:=Lib.hid (HXA.out.trans hab);have HQA1:=Lib.hid (Q0u.below HA1.out hab);have HQA2:=Lib.hid (HA2.out.ext hab);have KB0:=Lib.hid (KA0.out.ext hab);have KB1:=Lib.hid (KA1.out.ext hab);have HB1:=Lib.hid hb1;have HB2:=Lib.hid hb2;have HB3:=Lib.hid hb3;obtain ⟨wb,rfl⟩:∃ X,X = w1:=⟨_,rfl⟩;obtain ⟨vb,hvb⟩:∃ z,v 7 = z:=⟨_,rfl⟩;rw [hvb] at HB1 ⊢;obtain ⟨vm2,hvm⟩:∃ z,v 6 = z:=⟨_,rfl⟩
   try rw [hvm]
   clear hx hdr hab hb1 hb2 hb3 hvb hvm q0 q1 q2 q3 q4 q5 q6 HA1 HA2 KA0 KA1;go_wp2;have kN:=Blk.made wb 3 #[.int .i64 0];have hxN:=Ext.box wb (.cells #[.int .i64 0] 3);obtain ⟨wn,hwn⟩:∃ z,wb.alloc (.cells #[.int .i64 0] 3) = z:=⟨_,rfl⟩;rw [hwn] at kN hxN ⊢;obtain ⟨gn,hgn⟩:∃ z,wb.heap.size = z:=⟨_,rfl⟩;have HGN:=Lib.hid hgn;rw [hgn] at kN ⊢;have KN:=Lib.hid kN;have HXN:=Lib.hid hxN;clear hwn hgn kN hxN
   go_loopw [31] (fun i wr=>∃ (j:Nat),j <= l.length /\ i = .int .i64 j /\ Ext wb wr /\ Blk wr gn 3 #[.int .i64 (Q5s s (l.take j))]) (fun i _=>l.length - (intOf i).toNat)
   case atStart=>exact ⟨0,Nat.zero_le _,rfl,HXN.out,by simpa [Q5s] using KN.out⟩
   case round =>
    obtain ⟨j,hj,rfl,hx,hbn⟩:=hrel;have HX:=Lib.hid hx;have HBN:=Lib.hid hbn
    by_cases hlt:j < l.length
    . obtain ⟨gl,rfl,hcell⟩:=HCELL.out j hlt
      have hxw:=HXB.out.trans hx;have HXWR:=Lib.hid hxw;have e0:=hxw.cell (hcell 0 (by omega))
      have e1:=hxw.cell (hcell 1 (by omega))
      have e2:=hxw.cell (hcell 2 (by omega))
      have hmr:=HKN.out _ (List.getElem_mem hlt);have hsm:=J1d (s:=s) (List.getElem?_eq_getElem hlt);obtain ⟨r,hr⟩:∃ z,l[j] = z:=⟨_,rfl⟩;rw [hr] at e0 e1 e2 hmr hsm;obtain ⟨i,hri⟩:∃ z,r.member = z:=⟨_,rfl⟩;obtain ⟨r2,hr2⟩:∃ z,r.level = z:=⟨_,rfl⟩;obtain ⟨r3,hr3⟩:∃ z,r.dry = z:=⟨_,rfl⟩;rw [hri] at hmr hsm;replace e0:wr.cell? ⟨gl,j * 3,none⟩ = some (.int .i64 (i:Int)):=by rw [<- hri]; exact e0
      replace e1:wr.cell? ⟨gl,j * 3 + 1,none⟩ = some (.int .i64 r2):=by rw [<- hr2]; exact e1
      replace e2:wr.cell? ⟨gl,j * 3 + 2,none⟩ = some (.bool r3):=by rw [<- hr3]; exact e2
      obtain ⟨bm,off,capx,capy,capz,X,Y,Z,hm⟩:=Q4r HH2.out.members hmr;obtain rfl:=hm.addr;have hme:=hxw.cell hm.e1;have hwi:=HV.out.weights i hmr;have hiI:(i:Int) < s.members.length:=by omega
      have hjI:(j:Int) < l.length:=by omega
      have hrt:=Y5u HV.out (l:=l.take j) (fun q hq=>HKN.out q (List.mem_of_mem_take hq));have hlt8:(l.take j).length <= 8:=by rw [List.length_take]; omega
      obtain ⟨wt,hwt⟩:∃ z,Q0h s.members i = z:=⟨_,rfl⟩;rw [hwt] at hme hwi hsm;obtain ⟨sm,hsm0⟩:∃ z,Q5s s (l.take j) = z:=⟨_,rfl⟩;rw [hsm0] at HBN hrt hsm;have hws:IntKind.i64.wrap (sm + wt) = sm + wt:=Q2q _ (by omega) (by omega)
      have HSM:=Lib.hid hsm;have HME:=Lib.hid hme;have hbox:=Ext.box wr (.cells #[.int .i64 (i:Int),.int .i64 r2,.bool r3] 206);have K3:=Blk.made wr 206 #[.int .i64 (i:Int),.int .i64 r2,.bool r3];have HXC:=Lib.hid hbox;clear hcell hr hri hr2 hr3 hm hwi hrt hlt8 hwt hsm0 hsm hme hbox hxw hx hbn hmr
      go_light
      go_wp2;obtain ⟨wc,hwc⟩:∃ z,wr.alloc (.cells #[.int .i64 (i:Int),.int .i64 r2,.bool r3] 206) = z:=⟨_,rfl⟩;rw [hwc] at K3 HXC ⊢;obtain ⟨gr,hgr⟩:∃ z,wr.heap.size = z:=⟨_,rfl⟩;rw [hgr] at K3 ⊢;have KR:=Lib.hid K3;have hdr:=(Ext.refl wc).drew;clear hwc hgr K3 e0 e1 e2;refine Flow.Q4c [.w,.p,.w,.p,.w,.p,.p,.w,.p,.last] [0,1,2,3,4,5,6,7,8,9] [[],[],[1],[],[3],[1,2,3,4],[1,2,3,4,5],[1,2,3,4,5,6],[0,1,2,3,4,5,6,7],[0,1,2,3,4,5,6,7,8]] [9]
       [.c 0 (.int .i64 sm),.c 1 (.pointer (some ⟨gs,2,none⟩)),.c 2 (.slice (some ⟨bm,off,none⟩) s.members.length capb),.c 3 (.pointer (some ⟨gr,0,none⟩)),.c 4 (.int .i64 (i:Int)),.c 5 (.pointer (some ⟨bm,off + i * 5,none⟩)),.c 6 (.pointer (some ⟨bm,off + i * 5 + 1,none⟩)),.c 7 (.int .i64 wt),.c 8 (.int .i64 (sm + wt)),.none]
       [fun v w1 w'=>Blk w' gn 3 #[.int .i64 (sm + wt)] /\ (∀ n,n <= gn -> Below n w1 w')] (by kernel_rfl) rfl (by kernel_rfl) ⟨?g0,?g1,?g2,?g3,?g4,?g5,?g6,?g7,?g8,?g9,trivial⟩ ?post
      case g0=>
       intro v w1 hx;intro bb hbb;subst hbb;have n0:w1.cell? ⟨gn,0,none⟩ = some (.int .i64 sm):=(HBN.out.ext (HXC.out.trans (hdr.trans hx))).cell 0;intro K hK;go_simp;exact hK _ _ (Ext.refl _) rfl
      case g1 | g3=>
       intro v w1 hx;intro bb hbb;subst hbb;refine ⟨_,fun w=>?_,rfl⟩;go_simp
      case g2 | g4 | g7=>
       intro v w1 hx;(repeat intro (zq:v _ = _));intro bb hbb;subst hbb;have n0:w1.cell? ⟨gs,2,none⟩ = some (.slice (some ⟨bm,off,none⟩) s.members.length capb):=(KB0.out.ext (HX.out.trans (HXC.out.trans (hdr.trans hx)))).cell 2;have n1:w1.cell? ⟨gr,0,none⟩ = some (.int .i64 (i:Int)):=(KR.out.ext (hdr.trans hx)).cell 0;have n2:w1.cell? ⟨bm,off + i * 5 + 1,none⟩ = some (.int .i64 wt):=(HXC.out.trans (hdr.trans hx)).cell HME.out;intro K hK;go_simp;exact hK _ _ (Ext.refl _) rfl
      case g5 | g6 | g8=>
       intro v w1 hx;(repeat intro (zq:v _ = _));intro bb hbb;subst hbb;refine ⟨_,fun w=>?_,rfl⟩;go_simp
      case g9=>
       intro v w1 hx;(repeat intro (zq:v _ = _));intro wl hT;obtain rfl:wl = w1:=hT;intro bb hbb;intro K hK;have o1:bb.eval (.tmp 9) = .pointer (some ⟨gn,0,none⟩):=by rw [hbb]; dsimp only; (try simp (discharger:=decide) only [eval_put_ne]); rfl
       have o2:bb.eval (.tmp 43) = .int .i64 (sm + wt):=by rw [hbb]; dsimp only; (try simp (discharger:=decide) only [eval_put_ne]); rw [Q0a (by simp only [size_put]; exact (by decide:43 < 65))]; assumption
       have hbl:=HBN.out.ext (HXC.out.trans (hdr.trans hx));exact Q5q (.tmp 9) (.tmp 43) rfl Tryz.J2e o1 o2 rfl rfl hbl Nat.zero_lt_one (fun vv=>hK _ _ ⟨hbl.set 0 _,fun n hn=>(Below.refl n wl).setCell (p:=⟨gn,0,none⟩) hn _⟩)
      case post =>
       intro v w1 hx;(iterate 9 intro (zq:v _ = _));intro w2 hE;replace hE:(fun v w1 w'=>Blk w' gn 3 #[.int .i64 (sm + wt)] /\ (∀ n,n <= gn -> Below n w1 w')) v w1 w2:=hE;simp only [Flow.acts,Act.put];go_simp;obtain ⟨hb9,hl9⟩:=hE;have HX9:Hid (Ext wb w2):=Lib.hid (Below.trans (HX.out.trans (HXC.out.trans (hdr.trans hx))) (hl9 _ (by rw [HGN.out]; exact Nat.le_refl _)))
       have HB9:=Lib.hid hb9;clear hx hdr hb9 hl9;(repeat clear zq);go_wp2;go_roundw
       case rel=>exact ⟨j + 1,by omega,by go_num,HX9.out,by rw [HSM.out]; exact HB9.out⟩
       case measure=>simp [intOf]; omega
    . have hje:j = l.length:=by omega
      subst hje;rw [List.take_length] at HBN;go_wp2;obtain ⟨gl,rfl,hcell⟩:=HCELL.out 0 hl0;have hxw:=HXB.out.trans hx;have e0:=hxw.cell (hcell 0 (by omega))
      have hr:l[0] = r0:=by
       have h:=List.getElem?_eq_getElem hl0;rw [hg0] at h;exact (Option.some.inj h).symm
      rw [hr] at e0;obtain ⟨i,hri⟩:∃ z,r0.member = z:=⟨_,rfl⟩;rw [hri] at HHK hk0;replace e0:wr.cell? ⟨gl,0,none⟩ = some (.int .i64 (i:Int)):=by rw [<- hri]; exact e0
      have HE0:=Lib.hid e0;obtain ⟨bm,off,capx,capy,capz,X,Y,Z,hm⟩:=Q4r HH2.out.members hk0;obtain rfl:=hm.addr;have hcl:=HCLS.out;have hdg:=HDG.out;rw [hri] at hcl hdg;have hxi:=hm.x;have hclt:t < (Q0d s.members i).length:=by omega
      obtain ⟨X',capx',hXe,-,hlc,hcX⟩:=hxi.opened;injection hXe with hXe hce hcpe;subst hXe;subst hcpe;obtain ⟨bc,oc,hXe,-⟩:=hcX t hclt;subst hXe;have HME:=Lib.hid (hxw.cell hm.e2);have HPRE:Hid (Q0e w (.slice (some ⟨bc,oc,none⟩) (t + 1) capx) ((Q0d s.members i).take (t + 1))):=Lib.hid (X8m hxi (by omega))
      have HPL:Hid (((Q0d s.members i).take (t + 1)).length <= 4096):=Lib.hid (by rw [List.length_take]; omega)
      have HPD:=Lib.hid (Q5i hdg (t + 1));have hiI:(i:Int) < s.members.length:=by omega
      have hl0I:(0:Int) < l.length:=by omega
      have hkc:t + 1 <= capx:=by omega
      have hkcI:(t:Int) + 1 <= (capx:Int):=by omega
      have hkc1:¬ ((0:Int) <= (t:Int) + 1 -> (capx:Int) < (t:Int) + 1):=by omega
      have hkc2:¬ capx = 0:=by omega
      have hkc4:¬ (t:Int) + 1 < 0:=by omega
      have hkc3:((t:Int) + 1).toNat = t + 1:=by omega
      obtain ⟨lp,hlp⟩:∃ x,(Q0d s.members i).take (t + 1) = x:=⟨_,rfl⟩;rw [hlp] at HPRE HPL HPD HHK;obtain ⟨lc,hlce⟩:∃ x,(Q0d s.members i).length = x:=⟨_,rfl⟩;rw [hlce] at HME;have HXWR:=Lib.hid hxw;have hdr:=(Ext.refl wr).drew;clear hcell hxw hm hxi hr hri hcl hdg hlc hcX hlp hlce hclt e0 hx hbn hg0;refine Flow.Q4c [.p,.w,.p,.p,.p,.w,.p,.p,.w,.w,.p,.p,.w,.w,.last] [0,1,2,3,4,5,6,7,8,9,10,11,12,13,14] [[],[0],[],[2],[2,3],[2,3,4],[0,1,2,3,4,5],[0,1,2,3,4,5,6],[0,1,2,3,4,5,6,7],[],[9],[0,1,2,3,4,5,6,7,8,9,10],[0,1,2,3,4,5,6,7,8,9,10,11],[],[0,1,2,3,4,5,6,7,8,9,10,11,12,13]] [14]
       [.c 0 (.pointer (some ⟨gs,2,none⟩)),.c 1 (.slice (some ⟨bm,off,none⟩) s.members.length capb),.c 2 (.slice (some ⟨gl,0,none⟩) l.length cl),.c 3 (.pointer (some ⟨gl,0,none⟩)),.c 4 (.pointer (some ⟨gl,0,none⟩)),.c 5 (.int .i64 (i:Int)),.c 6 (.pointer (some ⟨bm,off + i * 5,none⟩)),.c 7 (.pointer (some ⟨bm,off + i * 5 + 2,none⟩)),.c 8 (.slice (some ⟨bc,oc,none⟩) lc capx),.c 9 (.int .i64 (t:Int)),.c 10 (.int .i64 ((t:Int) + 1)),.c 11 (.slice (some ⟨bc,oc,none⟩) (t + 1) capx),.c 12 (.string (Q6k lp)),⟨fun v wz=>(fun v w'=>∃ g z,v 13 = .pointer (some ⟨g,0,none⟩) /\ Blk w' g 9 #[z] /\ wr.heap.size <= g) v wz,by rintro v a b hx ⟨g,z,h1,h2,h3⟩; exact ⟨g,z,h1,h2.ext hx,h3⟩⟩,.none]
       [fun v w1 w'=>∃ g,v 13 = .pointer (some ⟨g,0,none⟩) /\ Blk w' g 9 #[.string (Q6k lp)] /\ (∀ n,n <= g -> Below n w1 w') /\ wr.heap.size <= g] (by kernel_rfl) rfl (by kernel_rfl) ⟨?g0,?g1,?g2,?g3,?g4,?g5,?g6,?g7,?g8,?g9,?g10,?g11,?g12,?g13,?g14,trivial⟩ ?post
      case g0 | g2=>
       intro v w1 hx;intro bb hbb;subst hbb;refine ⟨_,fun w=>?_,rfl⟩;go_simp
      case g1 | g5 | g8=>
       intro v w1 hx;(repeat intro (zq:v _ = _));intro bb hbb;subst hbb;have n0:w1.cell? ⟨gs,2,none⟩ = some (.slice (some ⟨bm,off,none⟩) s.members.length capb):=(KB0.out.ext (HX.out.trans (hdr.trans hx))).cell 2;have n1:w1.cell? ⟨gl,0,none⟩ = some (.int .i64 (i:Int)):=(hdr.trans hx).cell HE0.out;have n2:w1.cell? ⟨bm,off + i * 5 + 2,none⟩ = some (.slice (some ⟨bc,oc,none⟩) lc capx):=(hdr.trans hx).cell HME.out;intro K hK;go_simp;exact hK _ _ (Ext.refl _) rfl
      case g3 | g4 | g6 | g7 | g10 | g11=>
       intro v w1 hx;(repeat intro (zq:v _ = _));intro bb hbb;subst hbb;refine ⟨_,fun w=>?_,rfl⟩;go_simp
      case g9=>
       intro v w1 hx;intro bb hbb;subst hbb;have n0:w1.cell? ⟨gs + 1,0,none⟩ = some (.int .i64 (t:Int)):=(KB1.out.ext (HX.out.trans (hdr.trans hx))).cell 0;intro K hK;go_simp;exact hK _ _ (Ext.refl _) rfl
      case g12=>
       intro v w1 hx;(repeat intro (zq:v _ = _));intro bb hbb;subst hbb;intro K hK;go_simp;refine Q0f (Y5s w1 _ lp (HPRE.out.ext (HXWR.out.trans (hdr.trans hx))) HPL.out HPD.out) ?_;rintro e w2 ⟨rfl,hx2⟩;exact ⟨_,rfl,hK _ _ hx2 rfl⟩
      case g13=>
       intro v w1 hx;intro bb hbb;subst hbb;intro K hK;go_simp;exact hK _ _ (Ext.box _ _) ⟨_,_,rfl,Blk.made _ _ _,(hdr.trans hx).size⟩
      case g14=>
       intro v w1 hx (q0:v 0 = _) (q1:v 1 = _) (q2:v 2 = _) (q3:v 3 = _) (q4:v 4 = _) (q5:v 5 = _) (q6:v 6 = _) (q7:v 7 = _) (q8:v 8 = _) (q9:v 9 = _) (q10:v 10 = _) (q11:v 11 = _) (q12:v 12 = _) (q13:(fun v w'=>∃ g z,v 13 = .pointer (some ⟨g,0,none⟩) /\ Blk w' g 9 #[z] /\ wr.heap.size <= g) v w1);intro wl hT;obtain rfl:wl = w1:=hT;intro bb hbb;intro K hK;obtain ⟨g,z,e13,h13,h13s⟩:=q13;have o1:bb.eval (.tmp 12) = .pointer (some ⟨g,0,none⟩):=by rw [hbb]; dsimp only; (try simp (discharger:=decide) only [eval_put_ne]); rw [Q0a (by simp only [size_put]; exact (by decide:12 < 65))]; exact e13
       have o2:bb.eval (.tmp 57) = .string (Q6k lp):=by rw [hbb]; dsimp only; (try simp (discharger:=decide) only [eval_put_ne]); rw [Q0a (by simp only [size_put]; exact (by decide:57 < 65))]; exact q12
       exact Q5q (.tmp 12) (.tmp 57) rfl Tryz.J3s o1 o2 rfl rfl h13 Nat.zero_lt_one (fun vv=>hK _ _ ⟨g,e13,h13.set 0 _,fun n hn=>(Below.refl n wl).setCell (p:=⟨g,0,none⟩) hn _,h13s⟩)
      case post =>
       intro v w1 hx;(iterate 13 intro (zq:v _ = _));intro (q13:(fun v w'=>∃ g z,v 13 = .pointer (some ⟨g,0,none⟩) /\ Blk w' g 9 #[z] /\ wr.heap.size <= g) v w1);intro w2 hE;replace hE:(fun v w1 w'=>∃ g,v 13 = .pointer (some ⟨g,0,none⟩) /\ Blk w' g 9 #[.string (Q6k lp)] /\ (∀ n,n <= g -> Below n w1 w') /\ wr.heap.size <= g) v w1 w2:=hE;simp only [Flow.acts,Act.put];go_simp;obtain ⟨gk,e13,hbk,hl9,hsz⟩:=hE;have hxk:Ext wr w2:=Below.trans (hdr.trans hx) (hl9 _ hsz);have hxw:=HXWR.out.trans hxk;have hxb:=HX.out.trans hxk;have hqa:=Q0u.below HQA1.out hxb;obtain ⟨Aa,ca,hsa,-⟩:=hqa.shape;subst hsa;have hqb:=Q0u.below HB1.out hxb;have HQA:=Lib.hid hqa;have HCA:=Lib.hid (HQA2.out.ext hxb);have hla:qa.length + qb.length <= 512:=by
        have h1:=HLN.out;rw [<- HA3.out,<- HB3.out,List.length_map,List.length_map] at h1;exact h1
       have HLA:=Lib.hid hla;have HMAP:=Lib.hid (Y4i w2 0 vb qb gs (gs + 1) gn gk _ _ s t (Q5s s l) key hqb (HB2.out.ext hxb) (fun q hq=>HTB.out _ (by rw [<- HB3.out]; exact List.mem_map_of_mem hq)) (by omega) (KB0.out.ext hxb) ⟨_,_,rfl,HH2.out.ext hxw⟩ ((KB1.out.ext hxb).cell 0) ((HBN.out.ext hxk).cell 0)
        (by rw [HHK.out]; exact hbk.cell 0) hts (by have:=HWB.out; omega) HTD.out)
       have HXW2:=Lib.hid hxw;rw [e13];obtain ⟨Ab,cb,hsb,-⟩:=hqb.shape;subst hsb;clear hx hdr hxk hxw hxb hqa hqb hla hbk hl9 hsz e13 q13;(repeat clear zq);go_wp2_with (go_at_call 185; refine HMAP.out.mono ?_; rintro e w5 ⟨x5,qs5,rfl,h1,h2,h3,h4⟩; refine halted ?_);have HO5:=Lib.hid h1;have HC5:=Lib.hid h2;have HM5:=Lib.hid h3;have HX5:=Lib.hid h4;obtain ⟨A5,c5,hs5,-⟩:=h1.shape;subst hs5;have HL5:Hid (qs5.length = qb.length):=Lib.hid (by
        have:=congrArg List.length h3;rw [List.length_map,List.length_map,List.length_map] at this;exact this)
       have hxn:=Ext.box w5 (.cells #[.slice Aa qa.length ca,.slice A5 qs5.length c5] 152);have HXN5:=Lib.hid hxn;have HCC:=Lib.hid (Z1l (w5.alloc (.cells #[.slice Aa qa.length ca,.slice A5 qs5.length c5] 152)) w5.heap.size 152 _ _ 0 _ qa qs5 (Blk.made _ _ _) (Q0u.below HQA.out (h4.trans hxn)) (Q0u.below h1 hxn) (Z0k HCA.out) (Z0k h2) (by have:=HLA.out; rw [HL5.out]; omega))
       clear h1 h2 h3 h4 hxn;unfold Q1x;go_wp2_with (go_at_call 184; refine HCC.out.mono ?_; rintro e w6 ⟨x6,rfl,h1,h4⟩; refine halted ?_);have HX6:=Lib.hid (HXN5.out.trans h4);have HC6:Hid (Q0o w6 (qa ++ qs5)):=Lib.hid (fun z hz=>by
        rcases List.mem_append.1 hz with hz | hz
        . exact HCA.out.ext (HX5.out.trans HX6.out) z hz
        . exact HC5.out.ext HX6.out z hz)
       have HUN:=Lib.hid (X0d w6 _ x6 (qa ++ qs5) h1 HC6.out (by rw [List.length_append,HL5.out]; have:=HLA.out; omega))
       clear h1 h4;unfold Q1x;go_wp2_with (go_at_call 182; refine HUN.out.mono ?_; rintro e w7 ⟨x7,qs7,rfl,h1,h2,h3,h4⟩; refine halted ?_);have HO7:=Lib.hid h1;have HC7:=Lib.hid h2;have HM7:=Lib.hid h3;have HX7:=Lib.hid h4;clear h1 h2 h3 h4;unfold Q1x;go_wp2;go_ret;have hxx:Ext w w6:=HXW2.out.trans (HX5.out.trans HX6.out);exact ⟨_,qs7,rfl,Q0u.weaken HO7.out hxx.size,HC7.out,by rw [HM7.out,List.map_append,HA3.out,HM5.out,HB3.out],hxx.trans HX7.out⟩
end Go.Proofs
namespace Go.Tw
open Go.RowKit Go.Flow
theorem J0a {s:Q0b} {l:List Runner} {j:Nat} {r:Runner} (h:l[j]? = some r):Y5d s (l.take (j + 1)) = Y5d s (l.take j) + if r.dry then Q0h s.members r.member else 0:=by
 obtain ⟨hk,rfl⟩:=List.getElem?_eq_some_iff.1 h;unfold Y5d;rw [List.take_succ_eq_append_getElem hk,List.map_append,List.sum_append];simp
theorem Z4v {s:Q0b} (hV:Q0m s):∀ {l:List Runner},Known s l -> 0 <= Y5d s l /\ Y5d s l <= 1000 * l.length
 | [],_=>by simp [Y5d]
 | r :: l,h=>by
   have h1:=hV.weights r.member (h r List.mem_cons_self);have h2:=Z4v hV fun q hq=>h q (List.mem_cons_of_mem _ hq);have e:Y5d s (r :: l) = (if r.dry then Q0h s.members r.member else 0) + Y5d s l:=by unfold Y5d; rw [List.map_cons,List.sum_cons]
   rw [e,List.length_cons]
   split <;> omega
end Go.Tw
namespace Go.Proofs
open Go.RowKit Go.Tw Go.Flow
attribute [local go_sem] Oper.semAt_some
theorem Z3t {w:World} {g:Nat} {x:Int} (h:Blk w g 151 #[.int .i64 x,.int .i64 0,.int .i64 0,.slice none 0 0]) {B:Nat} (hB:B <= g):Q0u w B 151 4 Q2o (.slice (some ⟨g,0,none⟩) 1 1) [((⟨x,0,0,[]⟩:Plan),Value.slice none 0 0)] :=
 ⟨by simp [Q2o],.inr ⟨g,1,_,rfl,hB,h,Nat.le_refl _,by unfold maxLen; omega,by simp,by simp [Q2o]⟩⟩
theorem Y3e (w:World) (x:Int):Q0o w [((⟨x,0,0,[]⟩:Plan),Value.slice none 0 0)]:=fun q hq=>by
 obtain rfl:=List.mem_singleton.1 hq;exact Q0i.nil _ _ _ _
theorem Z7l (s:Q0b) (hV:Q0m s):Y6s s 0:=by
 intro w B u v l hu hv hkn hlv hsh hl;obtain ⟨aS,bS,rfl,h2⟩:=hu;obtain ⟨A,capa,rfl,-,-,-⟩:=h2.ships.opened;obtain ⟨M,capb,rfl,-,-,-⟩:=h2.members.opened;have h6:=hV.tides;have HH2:=Lib.hid h2;have HKN:=Lib.hid hkn;have HV:=Lib.hid hV;have HFIN:Hid (Q2d s 0 l = [⟨Y5d s l,0,0,[]⟩]):=Lib.hid rfl;rw [HFIN.out];obtain ⟨Al,cl,hAl,HCELL⟩:=hv.reads Q8o;subst hAl;rw [Nat.sub_zero];clear h2 hv hkn hlv hsh hV HFIN;go_enter Tryz.func108,Tryz.ntmps108;go_wp2_with fail;change Code.wp _ _ _ _ (w.alloc (.cells #[.int .i64 s.limit,.slice A s.ships.length capa,.slice M s.members.length capb] 74));obtain ⟨W,hWW,k0,HXW,eW⟩:=Q2y w 74 #[.int .i64 s.limit,.slice A s.ships.length capa,.slice M s.members.length capb];rw [hWW];clear hWW;have K0:=Lib.hid k0;obtain ⟨gs,hgs⟩:∃ z,w.heap.size = z:=⟨_,rfl⟩;have HGS:=Lib.hid hgs;rw [hgs] at K0 eW ⊢;have c1:=K0.out.cell 1;simp only [Go.Tw.gA,Go.Tw.gB,Go.Tw.gC] at c1;clear k0 hgs;go_wp2;clear c1
 go_loopw [7,22] (fun o i wr=>∃ (j:Nat),j <= l.length /\ i = .int .i64 j /\ o = .int .i64 (Y5d s (l.take j)) /\ Ext W wr) (fun _ i _=>l.length - (intOf i).toNat)
 case atStart=>exact ⟨0,Nat.zero_le _,rfl,by simp [Y5d],Ext.refl _⟩
 case round =>
  obtain ⟨j,hj,rfl,rfl,hx⟩:=hrel;have HX:=Lib.hid hx
  by_cases hlt:j < l.length
  . obtain ⟨gl,rfl,hcell⟩:=HCELL.out j hlt
    have hxw:=HXW.out.trans hx;have HXWR:=Lib.hid hxw;have e0:=hxw.cell (hcell 0 (by omega))
    have e1:=hxw.cell (hcell 1 (by omega))
    have e2:=hxw.cell (hcell 2 (by omega))
    have hmr:=HKN.out _ (List.getElem_mem hlt);have hsm:=J0a (s:=s) (List.getElem?_eq_getElem hlt);obtain ⟨r,hr⟩:∃ z,l[j] = z:=⟨_,rfl⟩;rw [hr] at e0 e1 e2 hmr hsm;obtain ⟨i,hri⟩:∃ z,r.member = z:=⟨_,rfl⟩;obtain ⟨r2,hr2⟩:∃ z,r.level = z:=⟨_,rfl⟩;obtain ⟨r3,hr3⟩:∃ z,r.dry = z:=⟨_,rfl⟩;rw [hri] at hmr hsm;rw [hr3] at hsm;replace e0:wr.cell? ⟨gl,j * 3,none⟩ = some (.int .i64 (i:Int)):=by rw [<- hri]; exact e0
    replace e1:wr.cell? ⟨gl,j * 3 + 1,none⟩ = some (.int .i64 r2):=by rw [<- hr2]; exact e1
    replace e2:wr.cell? ⟨gl,j * 3 + 2,none⟩ = some (.bool r3):=by rw [<- hr3]; exact e2
    obtain ⟨bm,off,capx,capy,capz,X,Y,Z,hm⟩:=Q4r HH2.out.members hmr;obtain rfl:=hm.addr;have hme:=hxw.cell hm.e1;have hwi:=HV.out.weights i hmr;have hiI:(i:Int) < s.members.length:=by omega
    have hjI:(j:Int) < l.length:=by omega
    have hrt:=Z4v HV.out (l:=l.take j) (fun q hq=>HKN.out q (List.mem_of_mem_take hq));have hlt8:(l.take j).length <= 8:=by rw [List.length_take]; omega
    obtain ⟨wt,hwt⟩:∃ z,Q0h s.members i = z:=⟨_,rfl⟩;rw [hwt] at hme hwi hsm;obtain ⟨sm,hsm0⟩:∃ z,Y5d s (l.take j) = z:=⟨_,rfl⟩;rw [hsm0] at hrt hsm;have hws:IntKind.i64.wrap (sm + wt) = sm + wt:=Q2q _ (by omega) (by omega)
    have HSM:=Lib.hid hsm;have hbox:=Ext.box wr (.cells #[.int .i64 (i:Int),.int .i64 r2,.bool r3] 206);have K3:=Blk.made wr 206 #[.int .i64 (i:Int),.int .i64 r2,.bool r3];have d0:=(K3).cell 0;have d1:=(K3).cell 1;have d2:=(K3).cell 2;simp only [Go.Tw.gA,Go.Tw.gB,Go.Tw.gC] at d0 d1 d2;have c2:=(K0.out.ext hx).ext hbox |>.cell 2
    simp only [Go.Tw.gA,Go.Tw.gB,Go.Tw.gC] at c2;replace hme:=hbox.cell hme;have HX9:=Lib.hid (hx.trans hbox);clear hcell hr hri hr2 hr3 hm hwi hrt hlt8 hwt hsm hbox hxw hx hmr K3;rw [hsm0];clear hsm0
    go_light
    cases r3 with
    | true =>
      rw [if_pos rfl] at HSM;go_wp2;go_roundw
      case rel=>exact ⟨j + 1,by omega,by go_num,by rw [HSM.out],HX9.out⟩
      case measure=>simp [intOf]; omega
    | false =>
      rw [if_neg (by simp)] at HSM
      go_wp2;go_roundw
      case rel=>exact ⟨j + 1,by omega,by go_num,by rw [HSM.out,Int.add_zero],HX9.out⟩
      case measure=>simp [intOf]; omega
  . have hje:j = l.length:=by omega
    subst hje;rw [List.take_length];clear hx;go_wp2;go_ret;have hb:=Blk.made wr 151 #[.int .i64 (Y5d s l),.int .i64 0,.int .i64 0,.slice none 0 0];exact ⟨_,[((⟨Y5d s l,0,0,[]⟩:Plan),Value.slice none 0 0)],rfl,Z3t hb (HXW.out.trans HX.out).size,Y3e _ _,rfl,(HXW.out.trans HX.out).trans (Ext.box _ _)⟩
end Go.Proofs
namespace Go.Tw
open Go.RowKit Go.Flow
theorem J3i {s:Q0b} {t c:Nat} {l:List Runner} {j:Nat} {r:Runner} (h:l[j]? = some r):Q7v s t c (l.take (j + 1)) = Q7v s t c (l.take j) ++ if ix (Q0d s.members r.member) t = (c:Int) then [r] else []:=by
 obtain ⟨hk,rfl⟩:=List.getElem?_eq_some_iff.1 h;unfold Q7v;rw [List.take_succ_eq_append_getElem hk,List.filter_append]
 congr 1
 by_cases he:ix (Q0d s.members l[j].member) t = (c:Int)
 . rw [if_pos he]; simp [he]
 . rw [if_neg he]; simp [he]
theorem Z1h {s:Q0b} {t c:Nat} {l:List Runner}:(Q7v s t c l).length <= l.length:=List.length_filter_le _ _
end Go.Tw
namespace Go.Proofs
open Go.RowKit Go.Tw Go.Flow
attribute [local go_sem] Oper.semAt_some
theorem Z6l (s:Q0b) (hV:Q0m s) (hF:s.hist.length <= 9) (k:Nat) (hk1:k + 1 <= s.ships.length) (hSub:Y6s s k):Y6s s (k + 1):=by
 intro w B u v l hu hv hkn hlv hsh hl;have HSUB:=Lib.hid hSub;obtain ⟨aS,bS,rfl,h2⟩:=hu;obtain ⟨A,capa,rfl,-,-,-⟩:=h2.ships.opened;obtain ⟨M,capb,rfl,-,-,-⟩:=h2.members.opened;have h6:=hV.tides;obtain ⟨i0,hi,hz0,hz1,hz2⟩:=info_parts Tryz.Z8d;have HH2:=Lib.hid h2;have HKN:=Lib.hid hkn;have HV:=Lib.hid hV;have HLV:=Lib.hid hlv;have HSHR:=Lib.hid hsh;have HBC:=Lib.hid (Y5p hV hk1 (Q7c hV k (by omega)) hkn hsh)
 have HBD:=Lib.hid (fun (c:Nat) (hn:Q7v s (s.ships.length - (k + 1)) c l ≠ [])=>Y0u hV hk1 (Q7c hV k (by omega)) (Q8f hkn) hn (by
  have:=X0h (c:=c) hV.toFine hkn (by omega) hsh
  have e1:s.ships.length - k = s.ships.length - (k + 1) + 1:=by omega
  rw [e1]; exact this))
 have HDEC:=Lib.hid (fun (W:World) (v:Value) (c:Nat) (B:Nat) (hW:Ext w W) (hv:Q0u W B 206 3 encR v (Q7v s (s.ships.length - (k + 1)) c l)) (hn:Q7v s (s.ships.length - (k + 1)) c l ≠ []) =>
  Z5x W B _ v s k _ hSub ⟨_,_,rfl,h2.ext hW⟩ hv hV hk1 hF (Q8f hkn) (fun r hr=>hlv r (List.mem_filter.1 hr).1) (by
   have:=X0h (c:=c) hV.toFine hkn (by omega) hsh
   have e1:s.ships.length - k = s.ships.length - (k + 1) + 1:=by omega
   rw [e1]; exact this) hn (Nat.le_trans Z1h hl))
 have HUN:Hid (∀ c,X6l s (s.ships.length - (k + 1)) (X5x s (s.ships.length - (k + 1)) c l) + X6l s (s.ships.length - (k + 1)) (Q7v s (s.ships.length - (k + 1)) c l) <= 9):=Lib.hid (fun c=>by
  rw [<- Y9w];exact Nat.le_trans (X8t _ _) hF)
 have HCS:Hid (∀ c,Q7v s (s.ships.length - (k + 1)) c l = [] -> Q2f s (s.ships.length - (k + 1)) (Q2d s k) l (c + 1) = Q2f s (s.ships.length - (k + 1)) (Q2d s k) l c):=Lib.hid (fun c h=>by rw [Q2f,if_pos h])
 have HCT:Hid (∀ c,Q7v s (s.ships.length - (k + 1)) c l ≠ [] -> Q2f s (s.ships.length - (k + 1)) (Q2d s k) l (c + 1) = together (Q2f s (s.ships.length - (k + 1)) (Q2d s k) l c) (Q3v s (s.ships.length - (k + 1)) (Q2d s k) (Q7v s (s.ships.length - (k + 1)) c l))):=Lib.hid (fun c h=>by rw [Q2f,if_neg h])
 have HFIN:Hid (Q2d s (k + 1) l = Q2f s (s.ships.length - (k + 1)) (Q2d s k) l 10):=Lib.hid rfl;have HC0:Hid (Q2f s (s.ships.length - (k + 1)) (Q2d s k) l 0 = [⟨0,0,0,[]⟩]):=Lib.hid rfl;have HRB:Hid (∀ l',Known s l' -> l'.length <= 8 -> 0 <= Q5s s l' /\ Q5s s l' <= 8000):=Lib.hid (fun l' h h8=>by have:=Y5u hV h; omega)
 have HKL:Hid (∀ c,Known s (X5x s (s.ships.length - (k + 1)) c l) /\ (X5x s (s.ships.length - (k + 1)) c l).length <= 8):=Lib.hid (fun c=>⟨J1e hkn,Nat.le_trans (List.length_filter_le _ _) hl⟩);have HKO:Hid (∀ c,Known s (Q7v s (s.ships.length - (k + 1)) c l) /\ (Q7v s (s.ships.length - (k + 1)) c l).length <= 8):=Lib.hid (fun c=>⟨Q8f hkn,Nat.le_trans Z1h hl⟩);rw [HFIN.out];obtain ⟨Al,cl,hAl,HCELL⟩:=hv.reads Q8o;subst hAl;have hts:s.ships.length - (k + 1) < s.ships.length:=by omega
 have hk6:k + 1 <= 6:=by omega
 obtain ⟨t,ht⟩:∃ z,s.ships.length - (k + 1) = z:=⟨_,rfl⟩;rw [ht] at HBC HBD HDEC HUN HCS HCT HC0 HKL HKO hts ⊢;have HTNE:Hid (¬ (t:Int) = s.ships.length):=Lib.hid (by omega)
 obtain ⟨sub,hsub⟩:∃ z,Q2d s k = z:=⟨_,rfl⟩;rw [hsub] at HBC HBD HDEC HCS HCT HC0 ⊢;clear h2 hv hkn hlv hsh hV HFIN hSub hF hsub ht;go_enter Tryz.func108,Tryz.ntmps108;go_wp2_with fail;change Code.wp _ _ _ _ ((w.alloc (.cells #[.int .i64 s.limit,.slice A s.ships.length capa,.slice M s.members.length capb] 74)).alloc (.cells #[.int .i64 0,.int .i64 0,.int .i64 0,.slice none 0 0] 151));obtain ⟨W,hWW,k0,k1,HXW,eW⟩:=Q6u w 74 #[.int .i64 s.limit,.slice A s.ships.length capa,.slice M s.members.length capb] 151 #[.int .i64 0,.int .i64 0,.int .i64 0,.slice none 0 0];rw [hWW];clear hWW;have K0:=Lib.hid k0;have HOP:=Lib.hid (Z3t k1 (B:=w.heap.size) (by omega))
 obtain ⟨gs,hgs⟩:∃ z,w.heap.size = z:=⟨_,rfl⟩;have HGS:=Lib.hid hgs;rw [hgs] at K0 HOP eW ⊢;have hbq:((t:Int) == (s.ships.length:Int)) = false:=by simpa using HTNE.out
 rw [hbq];clear k0 k1 hgs hbq
 go_loopw [10,43] (fun o i wr=>∃ (c:Nat) (qs:List PV),c <= 10 /\ i = .int .i64 c /\ Q0u wr w.heap.size 151 4 Q2o o qs /\ Q0o wr qs /\ qs.map (·.1) = Q2f s t sub l c /\ Ext W wr) (fun _ i _=>10 - (intOf i).toNat)
 case atStart=>exact ⟨0,_,Nat.zero_le _,rfl,by rw [HGS.out]; exact HOP.out,Y3e _ _,by rw [HC0.out]; rfl,Ext.refl _⟩
 case round =>
  clear HOP HC0;obtain ⟨c,qs,hc,rfl,hown,hcr,hun,hx⟩:=hrel;have HUN2:=Lib.hid hun;have HX:=Lib.hid hx;have HOW:=Lib.hid hown;have HCR:=Lib.hid hcr
  by_cases hlt:c < 10
  . have hcI:(c:Int) < 10:=by omega
    obtain ⟨w0,rfl⟩:∃ X,X = wr:=⟨_,rfl⟩;clear hown hcr hun hx
    go_light
    go_wp2
    go_loopw [12,48] (fun v j wq=>∃ (n:Nat),n <= l.length /\ j = .int .i64 n /\ Q0u wq w0.heap.size 206 3 encR v (Q7v s t c (l.take n)) /\ Ext w0 wq) (fun _ j _=>l.length - (intOf j).toNat)
    case atStart=>exact ⟨0,Nat.zero_le _,rfl,Q0u.nil _ _ _ _ _,Ext.refl _⟩
    case round =>
     obtain ⟨n,hn,rfl,hown,hx⟩:=hrel;have HOR:=Lib.hid hown;have HX2:=Lib.hid hx
     by_cases hnl:n < l.length
     . obtain ⟨gl,rfl,hcell⟩:=HCELL.out n hnl
       have hxw:=HXW.out.trans (HX.out.trans hx);have e0:=hxw.cell (hcell 0 (by omega))
       have e1:=hxw.cell (hcell 1 (by omega))
       have e2:=hxw.cell (hcell 2 (by omega))
       have hmr:=HKN.out _ (List.getElem_mem hnl);have hsm:=J3i (s:=s) (t:=t) (c:=c) (List.getElem?_eq_getElem hnl);obtain ⟨r,hr⟩:∃ z,l[n] = z:=⟨_,rfl⟩;rw [hr] at e0 e1 e2 hmr hsm;obtain ⟨i,hri⟩:∃ z,r.member = z:=⟨_,rfl⟩;obtain ⟨r2,hr2⟩:∃ z,r.level = z:=⟨_,rfl⟩;obtain ⟨r3,hr3⟩:∃ z,r.dry = z:=⟨_,rfl⟩;have HPR:=Lib.hid (show r.member = i /\ r.level = r2 /\ r.dry = r3 from ⟨hri,hr2,hr3⟩)
       rw [hri] at hmr hsm;replace e0:wr.cell? ⟨gl,n * 3,none⟩ = some (.int .i64 (i:Int)):=by rw [<- hri]; exact e0
       replace e1:wr.cell? ⟨gl,n * 3 + 1,none⟩ = some (.int .i64 r2):=by rw [<- hr2]; exact e1
       replace e2:wr.cell? ⟨gl,n * 3 + 2,none⟩ = some (.bool r3):=by rw [<- hr3]; exact e2
       obtain ⟨bm,off,capx,capy,capz,X,Y,Z,hm⟩:=Q4r HH2.out.members hmr;obtain rfl:=hm.addr;have hcl:=(HV.out.shaped i hmr).1;have hclt:t < (Q0d s.members i).length:=by omega
       obtain ⟨X',capx',hXe,-,-,hcX⟩:=hm.x.opened;injection hXe with hXe hce hcpe;subst hXe;subst hcpe;obtain ⟨bc,oc,hXe,hxc⟩:=hcX t hclt;subst hXe;have hbox:=Ext.box wr (.cells #[.int .i64 (i:Int),.int .i64 r2,.bool r3] 206);have K3:=Blk.made wr 206 #[.int .i64 (i:Int),.int .i64 r2,.bool r3];have d0:=(K3).cell 0;have d1:=(K3).cell 1;have d2:=(K3).cell 2;simp only [Go.Tw.gA,Go.Tw.gB,Go.Tw.gC] at d0 d1 d2;have hme:=hbox.cell (hxw.cell hm.e2);have hmc:=hbox.cell (hxw.cell hxc);have c2:=(K0.out.ext (HX.out.trans (hx.trans hbox))).cell 2;simp only [Go.Tw.gA,Go.Tw.gB,Go.Tw.gC] at c2;have hiI:(i:Int) < s.members.length:=by omega
       have hnI:(n:Int) < l.length:=by omega
       have HX9:=Lib.hid (hx.trans hbox);have HK3:=Lib.hid K3;have HOB:=Lib.hid (Q0u.below hown hbox);have HLW:Hid ((Q7v s t c (l.take n)).length + 1 <= 100000):=Lib.hid (by
        have h1:(Q7v s t c (l.take n)).length <= (l.take n).length:=Z1h;rw [List.length_take] at h1;omega)
       obtain ⟨lc,hlce⟩:∃ x,(Q0d s.members i).length = x:=⟨_,rfl⟩;rw [hlce] at hme hclt;have htc:(t:Int) < lc:=by omega
       obtain ⟨cv,hcv⟩:∃ x,ix (Q0d s.members i) t = x:=⟨_,rfl⟩;rw [hcv] at hmc hsm;obtain ⟨zs,hzs⟩:∃ x,Q7v s t c (l.take n) = x:=⟨_,rfl⟩;rw [hzs] at hsm HOB HLW;have HSM:=Lib.hid hsm;obtain ⟨Ao,co,hos,-⟩:=HOB.out.shape;subst hos;clear hcell hxw hmr hsm hr hri hr2 hr3 hm hcl hcX hxc hbox K3 hx hown hlce hcv hzs HOR
       go_light
       by_cases he:cv = (c:Int)
       . rw [if_pos he] at HSM
         subst he;have HNWS:Hid (∀ (W:World) gn,Blk W gn 206 #[.int .i64 (i:Int),.int .i64 r2,.bool r3] -> ∀ j u,(encR r)[j]? = some u -> W.cell? ((⟨gn,0,none⟩:Addr).add j) = some u):=Lib.hid (fun W gn hb=>by unfold encR; rw [HPR.out.1,HPR.out.2.1,HPR.out.2.2]; exact Q5k hb)
         have HSW:=Lib.hid HX9.out.size;obtain ⟨wd,hwd⟩:∃ X,wr.alloc (.cells #[.int .i64 (i:Int),.int .i64 r2,.bool r3] 206) = X:=⟨_,rfl⟩;rw [hwd] at HX9 HOB HSW HK3 d0 d1 d2 hme hmc c2;go_wp2_with (refine Q1g (o:=⟨some 67,_,_,_,_,_⟩) rfl ?_; (try rw [hwd]); refine Q2t (.tmp 64) (.tmp 66) 204 rfl w0.heap.size 206 i0 (.agg #[.int .i64 0,.int .i64 0,.bool false]) 3 24 Tryz.underlying204 hi hz0 hz1 hz2 rfl (by decide) encR Q8o _ zs r rfl (HOB.out.below (Ext.box _ _)) ⟨wd.heap.size,0,none⟩ 1 rfl (HNWS.out _ _ (Blk.made _ _ _)) (Y6h r) HLW.out (by decide) (by have h1:=(Ext.box wd (.cells #[.int .i64 (i:Int),.int .i64 r2,.bool r3] 206)).size; have h2:=HSW.out; omega) ?_; intro v' w9 hown' hgrow)
         have hg:(wd.alloc (.cells #[.int .i64 (i:Int),.int .i64 r2,.bool r3] 206)).grownBy w9 (Value.slice Ao zs.length co).ownBlock:=hgrow;have hxx:=Ext.box wd (.cells #[.int .i64 (i:Int),.int .i64 r2,.bool r3] 206);have hO3:=HOB.out.below hxx;have hX':Ext w0 w9:=Below.grown (HX9.out.trans hxx) hg (by have:=hxx.size; have:=HSW.out; omega) (fun b hb=>(hO3.Q9y b hb).1)
         go_roundw
         case rel=>exact ⟨n + 1,by omega,by go_num,by rw [HSM.out]; exact hown',hX'⟩
         case measure=>simp [intOf]; omega
       . rw [if_neg he,List.append_nil] at HSM
         go_wp2;go_roundw
         case rel=>exact ⟨n + 1,by omega,by go_num,by rw [HSM.out]; exact HOB.out,HX9.out⟩
         case measure=>simp [intOf]; omega
     . have hne:n = l.length:=by omega
       subst hne;rw [List.take_length] at HOR;clear hown hx;obtain ⟨ow,how⟩:∃ z,Q7v s t c l = z:=⟨_,rfl⟩;obtain ⟨Ao,co,hos,-⟩:=HOR.out.shape;subst hos;have HX3:=Lib.hid (HX.out.trans HX2.out)
       by_cases hE:ow = []
       . have HC1:Hid (Q2f s t sub l (c + 1) = Q2f s t sub l c):=Lib.hid (HCS.out c (by rw [how]; exact hE))
         have h0:(Q7v s t c l).length = 0:=by rw [how,hE]; rfl
         rw [h0];clear how hE;go_wp2;go_roundw
         case rel=>exact ⟨c + 1,qs,by omega,by go_num,HOW.out.below HX2.out,HCR.out.ext HX2.out,by rw [HC1.out]; exact HUN2.out,HX3.out⟩
         case measure=>simp [intOf]; omega
       . have hne:Q7v s t c l ≠ []:=by rw [how]; exact hE
         have HC1:=Lib.hid (HCT.out c hne);have HD:=Lib.hid (fun (W:World) (hW:Ext w W) hv=>HDEC.out W (.slice Ao (Q7v s t c l).length co) c w0.heap.size hW hv hne);have HB:=Lib.hid (HBD.out c hne);have hpos:0 < (Q7v s t c l).length:=List.length_pos_iff.2 hne;have hposI:(0:Int) < (Q7v s t c l).length:=by omega
         have HTO:Hid (∀ q ∈ qs,Z6m q.1):=Lib.hid (fun q hq=>by
          have hm:q.1 ∈ Q2f s t sub l c:=by rw [<- HUN2.out]; exact List.mem_map_of_mem hq
          have hb:=HUN.out c;exact Y3z ((HBC.out c).2 _ hm) hk6 (HRB.out _ (HKL.out c).1 (HKL.out c).2) (by omega))
         have HTD:Hid (∀ x ∈ Q3v s t sub (Q7v s t c l),Z6m x):=Lib.hid (fun x hx=>by
          have hb:=HUN.out c;exact Y3z (HB.out.2.2 x hx) hk6 (HRB.out _ (HKO.out c).1 (HKO.out c).2) (by omega))
         have HLL:Hid (qs.length * (Q3v s t sub (Q7v s t c l)).length <= 512 /\ qs.length <= 512 /\ (Q3v s t sub (Q7v s t c l)).length <= 512):=Lib.hid (by
          have hb:=HUN.out c;have h1:=(HBC.out c).1;rw [<- HUN2.out,List.length_map] at h1;have h2:=HB.out.2.1;have h3:qs.length * (Q3v s t sub (Q7v s t c l)).length <= 2 ^ 9:=Nat.le_trans (Nat.mul_le_mul h1 h2) (by rw [<- Nat.pow_add]; exact Nat.pow_le_pow_right (by omega) hb)
          have h4:qs.length <= 2 ^ 9:=Nat.le_trans h1 (Nat.pow_le_pow_right (by omega) (by omega))
          have h5:(Q3v s t sub (Q7v s t c l)).length <= 2 ^ 9:=Nat.le_trans h2 (Nat.pow_le_pow_right (by omega) (by omega))
          omega)
         obtain ⟨dc,hdc⟩:∃ z,Q3v s t sub (Q7v s t c l) = z:=⟨_,rfl⟩;rw [hdc] at HTD HLL HC1 HD;obtain ⟨ol,hol⟩:∃ z,(Q7v s t c l).length = z:=⟨_,rfl⟩;rw [hol] at HOR HD hposI ⊢;have k0:=K0.out.ext HX3.out;have c0:=(k0).cell 0;have c1:=(k0).cell 1;have c2:=(k0).cell 2;simp only [Go.Tw.gA,Go.Tw.gB,Go.Tw.gC] at c0 c1 c2;have HXW3:=Lib.hid (HXW.out.trans HX3.out);have hOr:=HOR.out;have HDC:=Lib.hid (HD.out _ HXW3.out hOr);clear how hE hne hpos hdc hol k0 HB HBC HBD HDEC HUN HCS HCT hOr;go_wp2_with (go_at_call 160; refine HDC.out.mono ?_; rintro e w5 ⟨x5,qs5,rfl,h1,h2,h3,h4⟩; refine halted ?_);have H4:=Lib.hid h4;have HTG:=Lib.hid (Y9n w5 w.heap.size _ _ x5 qs qs5 (HOW.out.below (HX2.out.trans h4)) h1 (HCR.out.ext (HX2.out.trans h4)) h2 HTO.out (fun q hq=>HTD.out _ (by rw [<- h3]; exact List.mem_map_of_mem hq)) (by have:=HLL.out.1; rw [<- h3,List.length_map] at this; omega) (by have:=HLL.out.2.1; omega) (by have:=HLL.out.2.2; rw [<- h3,List.length_map] at this; omega))
         have HM5:=Lib.hid h3;clear h1 h2 h3 h4;unfold Q1x;go_wp2_with (go_at_call 159; refine HTG.out.mono ?_; rintro e w6 ⟨x6,qs6,rfl,h1,h2,h3,h4⟩; refine halted ?_);have HX6:Hid (Ext wr w6):=Lib.hid (H4.out.trans h4);have HO6:=Lib.hid h1;have HC6:=Lib.hid h2;have HM6:=Lib.hid h3;clear h1 h2 h3 h4;unfold Q1x;go_wp2;go_roundw
         case rel=>exact ⟨c + 1,qs6,by omega,by go_num,Q0u.weaken HO6.out (HXW3.out.trans H4.out).size,HC6.out,by rw [HM6.out,HC1.out,HUN2.out,HM5.out],HX3.out.trans HX6.out⟩
         case measure=>simp [intOf]; omega
  . have hce:c = 10:=by omega
    subst hce;clear hown hcr hun hx;go_wp2;go_ret;exact ⟨_,qs,rfl,HOW.out,HCR.out,HUN2.out,HXW.out.trans HX.out⟩
end Go.Proofs
namespace Go.Tw
open Go.RowKit Go.Flow
def X6t (n:Nat):List Runner:=(List.range n).map fun i=>⟨i,0,true⟩
theorem Z7b (n:Nat):X6t (n + 1) = X6t n ++ [⟨n,0,true⟩]:=by unfold X6t; rw [List.range_succ,List.map_append]; rfl
theorem Y8g (n:Nat):(X6t n).length = n:=by simp [X6t]
end Go.Tw
namespace Go.Proofs
open Go.RowKit Go.Tw Go.Flow
attribute [local go_sem] Oper.semAt_some
theorem Y7w (s:Q0b) (hV:Q0m s) (hF:s.hist.length <= 9):∀ k,k <= s.ships.length -> Y6s s k
 | 0,_=>Z7l s hV
 | k + 1,h=>Z6l s hV hF k h (Y7w s hV hF k (by omega))
theorem Z0m (w:World) (v:Value) (s:Q0b) (hv:Q0p w v s) (hV:Q0m s) (hF:s.hist.length <= 9) :
    Calls Tryz.prog 54 #[v] w fun e w'=>∃ x qs,e = .returned x /\ Q0u w' w.heap.size 151 4 Q2o x qs /\ Q0o w' qs /\ qs.map (·.1) = Q1v s /\ Ext w w':=by
 obtain ⟨aS,bS,rfl,h2⟩:=hv;obtain ⟨A,capa,rfl,-,-,-⟩:=h2.ships.opened;obtain ⟨M,capb,rfl,-,-,-⟩:=h2.members.opened;obtain ⟨i0,hi,hz0,hz1,hz2⟩:=info_parts Tryz.Z8d;have h8:=hV.some;have HSP:=Lib.hid (fun (W:World) (u:Value) (B:Nat) (hW:Ext w W) (hu:Q0u W B 206 3 encR u (X6t s.members.length))=>by
  have h:=Y7w s hV hF s.ships.length (Nat.le_refl _) W B _ u (X6t s.members.length) ⟨_,_,rfl,h2.ext hW⟩ hu Q7w (fun r hr=>by
   obtain ⟨i,_,rfl⟩:=List.mem_map.1 hr;show (0:Int) <= 0 /\ (0:Int) <= _;omega) Q9w (by rw [Y8g]; omega)
  rw [Nat.sub_self] at h;exact h)
 have HFIN:Hid (Q1v s = Q2d s s.ships.length (X6t s.members.length)):=Lib.hid rfl;rw [HFIN.out];obtain ⟨L,hL⟩:∃ z,s.members.length = z:=⟨_,rfl⟩;rw [hL] at HSP h8 ⊢;obtain ⟨P,hP⟩:∃ z,Q2d s s.ships.length (X6t L) = z:=⟨_,rfl⟩;rw [hP] at HSP ⊢;clear h2 hV hF HFIN hL hP;go_enter Tryz.func54,Tryz.ntmps54;go_wp2_with fail;change Code.wp _ _ _ _ (w.alloc (.cells #[.int .i64 s.limit,.slice A s.ships.length capa,.slice M L capb] 74));obtain ⟨W,hWW,k0,HXW,eW⟩:=Q2y w 74 #[.int .i64 s.limit,.slice A s.ships.length capa,.slice M L capb];rw [hWW];clear hWW;have K0:=Lib.hid k0;clear k0
 go_loopw [3,8] (fun o i wr=>∃ (k:Nat),k <= L /\ i = .int .i64 k /\ Q0u wr W.heap.size 206 3 encR o (X6t k) /\ Ext W wr) (fun _ i _=>L - (intOf i).toNat)
 case atStart=>exact ⟨0,Nat.zero_le _,rfl,Q0u.nil _ _ _ _ _,Ext.refl _⟩
 case round =>
  obtain ⟨k,hk,rfl,hown,hx⟩:=hrel;have HX:=Lib.hid hx;have HOW:=Lib.hid hown
  by_cases hlt:k < L
  . have hkI:(k:Int) < L:=by omega
    have HLW:Hid ((X6t k).length + 1 <= 100000):=Lib.hid (by rw [Y8g]; omega)
    have HST:=Lib.hid (Z7b k);obtain ⟨zs,hzs⟩:∃ z,X6t k = z:=⟨_,rfl⟩;rw [hzs] at HOW HLW HST;obtain ⟨Ao,co,hos,-⟩:=HOW.out.shape;subst hos;have HSW:=Lib.hid HX.out.size;clear hown hx hzs
    go_light
    go_wp2_with (refine Q1g (o:=⟨some 15,_,_,_,_,_⟩) rfl ?_; refine Q2t (.tmp 11) (.tmp 14) 204 rfl W.heap.size 206 i0 (.agg #[.int .i64 0,.int .i64 0,.bool false]) 3 24 Tryz.underlying204 hi hz0 hz1 hz2 rfl (by decide) encR Q8o _ zs (⟨k,0,true⟩:Runner) rfl (HOW.out.below (Ext.box _ _)) ⟨wr.heap.size,0,none⟩ 1 rfl (Q5k (xs:=encR ⟨k,0,true⟩) (Blk.made _ _ _)) (Y6h _) HLW.out (by decide) (by have h1:=(Ext.box wr (.cells #[.int .i64 (k:Int),.int .i64 0,.bool true] 206)).size; have h2:=HSW.out; omega) ?_; intro v' w9 hown' hgrow)
    have hxx:=Ext.box wr (.cells #[.int .i64 (k:Int),.int .i64 0,.bool true] 206);have hO3:=HOW.out.below hxx;have HO9:=Lib.hid hown';have HX9:Hid (Ext W w9):=Lib.hid (Below.grown (HX.out.trans hxx) hgrow (by have:=hxx.size; have:=HSW.out; omega) (fun b hb=>(hO3.Q9y b hb).1))
    clear hxx hO3 hown' hgrow;go_wp2;go_roundw
    case rel=>exact ⟨k + 1,by omega,by go_num,by rw [HST.out]; exact HO9.out,HX9.out⟩
    case measure=>simp [intOf]; omega
  . have hke:k = L:=by omega
    subst hke;have k0:=K0.out.ext hx;have c0:=(k0).cell 0;have c1:=(k0).cell 1;have c2:=(k0).cell 2;simp only [Go.Tw.gA,Go.Tw.gB,Go.Tw.gC] at c0 c1 c2;have HC:=Lib.hid (HSP.out wr _ W.heap.size (HXW.out.trans hx) hown);have HXX:=Lib.hid (HXW.out.trans hx);clear hown hx k0;go_wp2_with (go_at_call 108; refine HC.out.mono ?_; rintro e w5 ⟨x5,qs5,rfl,h1,h2,h3,h4⟩; refine halted ?_);have H1:=Lib.hid h1;have H2:=Lib.hid h2;have H3:=Lib.hid h3;have H4:=Lib.hid h4;clear h1 h2 h3 h4;unfold Q1x;go_wp2;go_ret;exact ⟨_,qs5,rfl,Q0u.weaken H1.out HXX.out.size,H2.out,H3.out,HXX.out.trans H4.out⟩
end Go.Proofs
namespace Go.Tw
open Go.RowKit Go.Flow
def maxL (l:List Int):Int:=l.tail.foldl max (l.headD 0)
def Y3w (l:List Int) (k:Nat):Int:=((l.take k).tail).foldl max (l.headD 0)
theorem J1y (l:List Int) (h:0 < l.length):Y3w l 1 = ix l 0:=by
 cases l with
 | nil=>simp at h
 | cons x l=>simp [Y3w,ix]
theorem Z7d (l:List Int) (k:Nat) (h0:0 < k) (hk:k < l.length):Y3w l (k + 1) = max (Y3w l k) (ix l k):=by
 unfold Y3w;rw [List.take_succ_eq_append_getElem hk,Q5p hk];have h1:(l.take k) ≠ []:=by intro h; have:=congrArg List.length h; rw [List.length_take,List.length_nil] at this; omega
 rw [List.tail_append_of_ne_nil h1,List.foldl_append]; rfl
theorem Z8q (l:List Int):Y3w l l.length = maxL l:=by unfold Y3w maxL; rw [List.take_length]
theorem X3x {α:Type} (f:α -> Int):∀ (l:List α) (m:Int),l.foldl (fun m x=>max m (f x)) m = (l.map f).foldl max m
 | [],_=>rfl
 | x :: l,m=>by simp only [List.foldl_cons,List.map_cons]; exact X3x f l _
theorem J3u {s:Q0b} (hn:Q1v s ≠ []) (h0:∀ x ∈ Q1v s,0 <= x.weight):maxL ((Q1v s).map Plan.weight) = X7f s:=by
 unfold X7f maxL;rw [X3x Plan.weight];cases hp:Q1v s with
 | nil=>exact absurd hp hn
 | cons x l =>
   simp only [List.map_cons,List.tail_cons,List.headD_cons,List.foldl_cons];have hx:=h0 x (by rw [hp]; exact List.mem_cons_self)
   rw [show max (0:Int) x.weight = x.weight by omega]
def J3c (s:Q0b):Int:=if s.err = 0 then X7f s else 0
end Go.Tw
namespace Go.Proofs
open Go.RowKit Go.Tw Go.Flow
attribute [local go_sem] Oper.semAt_some
theorem J3w (w:World) (v:Value) (l:List Int) (hv:Q0e w v l) (h0:0 < l.length) (hl9:l.length <= 100000) :
    Calls Tryz.prog 52 #[v] w fun e w'=>e = .returned (.int .i64 (maxL l)) /\ w' = w:=by
 obtain ⟨A,cap,rfl,hl,hcap,hc⟩:=hv.opened;have HC:=Lib.hid hc;obtain ⟨b,off,rfl,h00⟩:=hc 0 h0;rw [Nat.add_zero] at h00;have h0I:(0:Int) < l.length:=by omega
 have h1I:¬ (l.length:Int) < 1:=by omega
 have HM1:=Lib.hid (J1y l h0);have HMA:=Lib.hid (Z8q l);clear hv hc;obtain ⟨y,hy⟩:∃ z,ix l 0 = z:=⟨_,rfl⟩;rw [hy] at h00 HM1;clear hy;go_enter Tryz.func52,Tryz.ntmps52;go_wp2
 go_loopw [3,4] (fun m i wr=>∃ (k:Nat),0 < k /\ k <= l.length /\ i = .int .i64 k /\ m = .int .i64 (Y3w l k) /\ wr = w) (fun _ i _=>l.length - (intOf i).toNat)
 case atStart=>exact ⟨1,by omega,h0,rfl,by rw [HM1.out],rfl⟩
 case round =>
  obtain ⟨k,hk0,hk,rfl,rfl,rfl⟩:=hrel
  by_cases hlt:k < l.length
  . obtain ⟨_,_,he,hcell⟩:=HC.out k hlt
    cases he;have hkI:(k:Int) < l.length:=by omega
    have hwk:IntKind.i64.wrap ((k:Int) + 1) = (k:Int) + 1:=Q2q _ (by omega) (by omega)
    have HS:=Lib.hid (Z7d l k hk0 hlt);obtain ⟨z,hz⟩:∃ z,ix l k = z:=⟨_,rfl⟩;rw [hz] at hcell HS;obtain ⟨m,hm⟩:∃ m,Y3w l k = m:=⟨_,rfl⟩;rw [hm] at HS ⊢;clear hz hm;go_wp2;go_roundw
    case rel=>exact ⟨k + 1,by omega,by omega,by go_num,by rw [HS.out],trivial⟩
    case measure=>simp [intOf]; omega
  . have hke:k = l.length:=by omega
    subst hke;go_wp2;go_ret;exact ⟨by rw [HMA.out]; rfl,rfl⟩
theorem J1z (w:World) (a b c:Int) (v:Value) (A:Option Addr) (n cp:Nat) (hv:v = .slice A n cp) :
    Calls Tryz.prog 55 #[.agg #[.int .i64 a,.int .i64 b,.int .i64 c,v]] w fun e w'=>e = .returned (.int .i64 a) /\ Ext w w':=by
 subst hv;have hbox:=Ext.box w (.cells #[.int .i64 a,.int .i64 b,.int .i64 c,.slice A n cp] 151);have K3:=Blk.made w 151 #[.int .i64 a,.int .i64 b,.int .i64 c,.slice A n cp];have d0:=(K3).cell 0;have d1:=(K3).cell 1;have d2:=(K3).cell 2;have d3:=(K3).cell 3;simp only [Go.Tw.gA,Go.Tw.gB,Go.Tw.gC] at d0 d1 d2 d3;clear K3;go_enter Tryz.func55,Tryz.ntmps55;go_wp2;go_ret;exact ⟨rfl,hbox⟩
theorem Y1l (w:World) (B:Nat) (v:Value) (ps:List PV) (hv:Q0u w B 151 4 Q2o v ps) (hcr:Q0o w ps) (hl:ps.length <= 80000) :
    Calls Tryz.prog 53 #[v,.func (.func 55) #[] #[]] w fun e w'=>∃ x,e = .returned x /\ Q0i w' w.heap.size 3 (.int .i64) x ((ps.map (·.1)).map Plan.weight) /\ Ext w w':=by
 obtain ⟨i0,hi,hz0,hz1,hz2⟩:=info_parts Tryz.info3;have HCA:=Lib.hid hcr;obtain ⟨A,cv,hsh,HCELL⟩:=Q8d hv;subst hsh;obtain ⟨L,hL⟩:∃ L,ps.length = L:=⟨_,rfl⟩;have HL:=Lib.hid hL;rw [hL] at hl ⊢;obtain ⟨ws,hws⟩:∃ z,(ps.map (·.1)).map Plan.weight = z:=⟨_,rfl⟩;have HWS:=Lib.hid hws;have HWL:Hid (ws.length = L):=Lib.hid (by rw [<- hws,List.length_map,List.length_map]; exact hL)
 rw [hws];clear hv hcr hL hws;go_enter Tryz.func53,Tryz.ntmps53;go_wp2
 go_loopw [5,10] (fun o i wr=>∃ (k:Nat),k <= L /\ i = .int .i64 k /\ Q0i wr w.heap.size 3 (.int .i64) o (ws.take k) /\ Ext w wr) (fun _ i _=>L - (intOf i).toNat)
 case atStart=>exact ⟨0,Nat.zero_le _,rfl,Q0i.nil _ _ _ _,Ext.refl _⟩
 case round =>
  obtain ⟨k,hk,rfl,hown,hx⟩:=hrel;have HX:=Lib.hid hx;have HOW:=Lib.hid hown
  by_cases hlt:k < L
  . have hkp:k < ps.length:=by rw [HL.out]; exact hlt
    have hkI:(k:Int) < L:=by omega
    obtain ⟨gb,rfl,hcell⟩:=HCELL.out k hkp;have e0:=hx.cell (hcell 0 (by omega))
    have e1:=hx.cell (hcell 1 (by omega))
    have e2:=hx.cell (hcell 2 (by omega))
    have e3:=hx.cell (hcell 3 (by omega))
    obtain ⟨A4,n4,c4,hsl⟩:=HCA.out.shape (List.getElem_mem hkp);have HST:Hid (ws.take (k + 1) = ws.take k ++ [ps[k].1.weight]):=Lib.hid (by
     rw [List.take_succ_eq_append_getElem (by rw [HWL.out]; exact hlt)]
     congr 2
     simp only [<- HWS.out,List.getElem_map])
    obtain ⟨qk,hqke⟩:∃ z,ps[k] = z:=⟨_,rfl⟩;rw [hqke] at e0 e1 e2 e3 hsl HST;obtain ⟨x,xv⟩:=qk;replace hsl:xv = .slice A4 n4 c4:=hsl;subst hsl;rw [Nat.add_zero] at e0;obtain ⟨x1,hx1⟩:∃ z,x.weight = z:=⟨_,rfl⟩;obtain ⟨x2,hx2⟩:∃ z,x.closings = z:=⟨_,rfl⟩;obtain ⟨x3,hx3⟩:∃ z,x.delay = z:=⟨_,rfl⟩;replace HST:Hid (ws.take (k + 1) = ws.take k ++ [x1]):=Lib.hid (by rw [HST.out,<- hx1])
    replace e0:wr.cell? ⟨gb,k * 4,none⟩ = some (.int .i64 x1):=by rw [<- hx1]; exact e0
    replace e1:wr.cell? ⟨gb,k * 4 + 1,none⟩ = some (.int .i64 x2):=by rw [<- hx2]; exact e1
    replace e2:wr.cell? ⟨gb,k * 4 + 2,none⟩ = some (.int .i64 x3):=by rw [<- hx3]; exact e2
    replace e3:wr.cell? ⟨gb,k * 4 + 3,none⟩ = some (.slice A4 n4 c4):=e3;have hbox:=Ext.box wr (.cells #[.int .i64 x1,.int .i64 x2,.int .i64 x3,.slice A4 n4 c4] 151);have K3:=Blk.made wr 151 #[.int .i64 x1,.int .i64 x2,.int .i64 x3,.slice A4 n4 c4];have d0:=(K3).cell 0;have d1:=(K3).cell 1;have d2:=(K3).cell 2;have d3:=(K3).cell 3;simp only [Go.Tw.gA,Go.Tw.gB,Go.Tw.gC] at d0 d1 d2 d3;have HXB:=Lib.hid hbox;have hll:(ws.take k).length <= 80000:=by rw [List.length_take]; omega
    clear hcell hqke hx1 hx2 hx3 hbox K3 hown hx hkp
    go_light
    go_wp2_with (first | (refine (J1z _ _ _ _ _ A4 n4 c4 rfl).mono ?_; rintro e w5 ⟨rfl,hx5⟩; have hown:=HOW.out.below (HXB.out.trans hx5); have hx6:=HX.out.trans (HXB.out.trans hx5)) | (at_builtin; refine wpList_append_own _ rfl _ _ 44 rfl (w.heap.size) 3 i0 (.int .i64 0) 1 8 Tryz.underlying44 hi hz0 hz1 hz2 rfl (by decide) _ _ _ rfl (World.ownsRow.alloc hown _) ⟨w5.heap.size,0,none⟩ 1 1 [.int .i64 x1] rfl rfl ?_ ?_ ?_ ?_ ?_ ?_; exact Q4p _ _ _; (focus (simp [Value.oneCell'])); (focus (unfold maxLen; omega)); (focus omega); (focus (have:=hx6.size; simp at this ⊢; omega)); intro v' w1 hown' hgrow _))
    have hx':=Q3b hx6 hown (Nat.le_refl _) hgrow;go_wp2;go_roundw
    case rel=>exact ⟨k + 1,by omega,by go_num,by rw [HST.out]; exact Q0i.snoc hown',hx'⟩
    case measure=>simp [intOf]; omega
  . have hke:k = L:=by omega
    subst hke;have HE:Hid (ws.take k = ws):=Lib.hid (List.take_of_length_le (by rw [HWL.out]; omega))
    rw [HE.out] at HOW;clear hown hx;go_wp2;go_ret;exact ⟨_,rfl,HOW.out,HX.out⟩
theorem J0z (w:World) (v:Value) (s:Q0b) (hv:Q0p w v s) (hs:Q2x s) (hF:s.hist.length <= 9) :
    Calls Tryz.prog 24 #[v] w fun e w'=>e = .returned (.tuple #[.int .i64 (J3c s),.int .i64 s.err]) /\ Ext w w':=by
 obtain ⟨a,b,rfl,h2⟩:=hv;obtain ⟨A,capa,rfl,-,-,-⟩:=h2.ships.opened;obtain ⟨B,capb,rfl,-,-,-⟩:=h2.members.opened;have H2:=Lib.hid h2;have HS:=Lib.hid hs;have HFE:=Lib.hid hF;clear h2 hs hF;go_enter Tryz.func24,Tryz.ntmps24;go_wp2_with fail;change Calls _ _ _ (w.alloc (.cells #[.int .i64 s.limit,.slice A s.ships.length capa,.slice B s.members.length capb] 74)) _;obtain ⟨W,hWW,k0,HXW,eW⟩:=Q2y w 74 #[.int .i64 s.limit,.slice A s.ships.length capa,.slice B s.members.length capb];rw [hWW];clear hWW;have K0:=Lib.hid k0;clear k0;refine (Q4b _ _ s ⟨_,_,rfl,H2.out.ext HXW.out⟩ HS.out).mono ?_;rintro e w5 ⟨rfl,hx5⟩;have HX5:=Lib.hid (HXW.out.trans hx5);have HK0:=Lib.hid (K0.out.ext hx5)
 by_cases he:s.err = 0
 . have hV:=Q0m.of he
   have HPL:=Lib.hid (Z0m w5 _ s ⟨_,_,rfl,H2.out.ext HX5.out⟩ hV HFE.out);have hbd:=Q7c hV s.ships.length (Nat.le_refl _) (Y4c s) Q7w Q9w;have hpe:Q2d s s.ships.length (Y4c s) = Q1v s:=rfl;rw [hpe] at hbd;have hple:(Q1v s).length <= 512:=by
    have h1:2 ^ X6l s (s.ships.length - s.ships.length) (Y4c s) <= 2 ^ 9:=Nat.pow_le_pow_right (by omega) (Nat.le_trans (X8t _ _) HFE.out)
    omega
   have hpn:Q1v s ≠ []:=fun hp=>by
    obtain ⟨o,ho,_⟩:=X8q hV.toFine (fun _=>false)
    rw [hp] at ho; simp at ho
   have HMX:=Lib.hid (J3u hpn fun x hx=>(hbd.2 x hx).w.1);have HPE:=Lib.hid hple;have HPN:Hid (0 < (Q1v s).length):=Lib.hid (List.length_pos_iff.2 hpn);have HF:Hid (J3c s = X7f s):=Lib.hid (if_pos he);have hne:(s.err != 0) = false:=by simp [he]
   obtain ⟨E,hE⟩:∃ E,s.err = E:=⟨_,rfl⟩;have HE0:=Lib.hid (hE.symm.trans he);have c0:=(HK0.out).cell 0;have c1:=(HK0.out).cell 1;have c2:=(HK0.out).cell 2;simp only [Go.Tw.gA,Go.Tw.gB,Go.Tw.gC] at c0 c1 c2;rw [hE] at hne ⊢;rw [HE0.out];have HER:=Lib.hid he;clear he hE hx5 hV hbd hpe hple hpn;go_wp2_with (go_at_call 54; refine HPL.out.mono ?_; rintro e w6 ⟨x6,qs6,rfl,h1,h2,h3,h4⟩; refine halted ?_);have HX6:=Lib.hid h4;have HM6:=Lib.hid h3;have HLQ:Hid (qs6.length = (Q1v s).length):=Lib.hid (by rw [<- h3,List.length_map])
   have HMP:=Lib.hid (Y1l w6 _ x6 qs6 h1 h2 (by rw [HLQ.out]; have:=HPE.out; omega))
   clear h1 h2 h3 h4;unfold Q1x;go_wp2_with (go_at_call 53; refine HMP.out.mono ?_; rintro e w7 ⟨x7,rfl,h1,h2⟩; refine halted ?_);have HX7:=Lib.hid h2;have HI:=Lib.hid (J3w w7 x7 _ (h1.ints (by rw [List.length_map,List.length_map,HLQ.out]; have:=HPE.out; omega)) (by rw [List.length_map,List.length_map,HLQ.out]; exact HPN.out) (by rw [List.length_map,List.length_map,HLQ.out]; have:=HPE.out; omega))
   rw [HM6.out,HMX.out] at HI;clear h1 h2;unfold Q1x;go_wp2_with (go_at_call 52; refine HI.out.mono ?_; rintro e w8 ⟨rfl,rfl⟩; refine halted ?_);unfold Q1x;go_wp2;go_ret2;exact ⟨by rw [HF.out,HER.out]; rfl,HX5.out.trans (HX6.out.trans HX7.out)⟩
 . have HF:Hid (J3c s = 0):=Lib.hid (if_neg he)
   have hne:(s.err != 0) = true:=by simp [he]
   obtain ⟨E,hE⟩:∃ E,s.err = E:=⟨_,rfl⟩;have HPE:=Lib.hid hE;rw [hE] at hne ⊢;clear he hE hx5;go_wp2;go_ret2;exact ⟨by rw [HF.out,HPE.out]; rfl,HX5.out⟩
end Go.Proofs
namespace Go.Tw
open Go.RowKit Go.Flow
def anyS (l:List ByteArray) (s:ByteArray):Bool:=l.any fun x=>s == x
theorem Y5l (l:List ByteArray) (s:ByteArray):l.contains s = anyS l s:=List.contains_eq_any_beq
theorem Z9y {l:List ByteArray} {k:Nat} (h:k < l.length) (s:ByteArray):anyS (l.drop k) s = (s == l[k] || anyS (l.drop (k + 1)) s):=by
 rw [List.drop_eq_getElem_cons h]; rfl
def Z1q (q:Value × Bool):List Value:=[q.1,.bool q.2]
theorem Z0j (q:Value × Bool):(Z1q q).length = 2:=rfl
end Go.Tw
namespace Go.Proofs
open Go.RowKit Go.Tw Go.Flow
attribute [local go_sem] Oper.semAt_some
theorem Y8v (w:World) (B:Nat) (v:Value) (l:List ByteArray) (s:ByteArray) (hv:Q0i w B 9 .string v l) (hl9:l.length <= 100000) :
    Calls Tryz.prog 114 #[v,.string s] w fun e w'=>∃ r:Int,e = .returned (.int .i64 r) /\ decide (0 <= r) = anyS l s /\ w = w':=by
 obtain ⟨A,cap,rfl,hcap,hc⟩:=hv.cells;clear hv;go_enter Tryz.func114,Tryz.ntmps114;go_wp2
 go_loop [8] (fun i=>∃ k:Nat,k <= l.length /\ i = .int .i64 k /\ anyS (l.drop k) s = anyS l s) (fun i=>l.length - (intOf i).toNat)
 case atStart=>exact ⟨0,Nat.zero_le _,rfl,rfl⟩
 case round =>
  obtain ⟨k,hk,rfl,hr⟩:=hrel;have HR:=Lib.hid hr; clear hr
  by_cases hlt:k < l.length
  . obtain ⟨b,rfl,-,-,hcell⟩:=hc k hlt
    rw [Nat.zero_add] at hcell;have HD:=Lib.hid (Z9y hlt s);have hkI:(k:Int) < l.length:=by omega
    obtain ⟨y,hy⟩:∃ y,l[k] = y:=⟨_,rfl⟩;rw [hy] at hcell HD;clear hc hy
    by_cases hx:s = y
    . have HX:=Lib.hid (str_eq hx)
      have hx1:=toList_eq rfl hx;clear hx;go_wp2;go_ret;exact ⟨k,rfl,by rw [<- HR.out,HD.out,HX.out,Bool.true_or]; simp,rfl⟩
    . have HX:=Lib.hid (X1a hx)
      have hx1:=J0m rfl hx;clear hx;go_wp2;go_round
      case rel=>exact ⟨k + 1,by omega,by go_num,by rw [<- HR.out,HD.out,HX.out,Bool.false_or]⟩
      case measure=>simp [intOf]; omega
  . clear hc
    go_wp2;go_ret;exact ⟨-1,rfl,by rw [<- HR.out,List.drop_eq_nil_of_le (by omega)]; rfl,rfl⟩
theorem X7y (w:World) (B:Nat) (v:Value) (l:List ByteArray) (s:ByteArray) (hv:Q0i w B 9 .string v l) (hl9:l.length <= 100000) :
    Calls Tryz.prog 60 #[v,.string s] w fun e w'=>e = .returned (.bool (l.contains s)) /\ w = w':=by
 rw [Y5l];have HI:=Lib.hid (Y8v w B v l s hv hl9);obtain ⟨A,cap,rfl,hcap,hc⟩:=hv.cells;clear hv hc;go_enter Tryz.func60,Tryz.ntmps60;go_wp2_with (go_at_call 114; refine HI.out.mono ?_; rintro e w' ⟨r,rfl,hr,rfl⟩; have HR:=Lib.hid hr; clear hr);go_ret;exact ⟨by rw [<- HR.out]; rfl,rfl⟩
theorem Tryz.J9r (w:World):(isAgg 67).run Tryz.prog w = .ok true w:=by kernel_rfl
theorem Tryz.J5a (w:World):(sizeOf 67).run Tryz.prog w = .ok 2 w:=by kernel_rfl
theorem Tryz.J8d:(Tryz.prog.info? 67).map (fun i=>(i.zero,i.size,i.bytes)) = some (some (.agg #[.slice none 0 0,.bool false]),2,32):=by kernel_rfl
theorem Z8x {A:Option Addr} {n c:Nat} {b:Bool}:∀ u ∈ (#[Value.slice A n c,.bool b]:Array Value).toList,u.oneCell' = true:=by
 intro u hu;simp only [List.mem_cons,List.not_mem_nil,or_false] at hu
 rcases hu with rfl | rfl <;> rfl
theorem Z8h (w:World) (h:List Int) (X:Option Addr) (n c g:Nat) (v:Value) (cl:List ByteArray) (hv:Q0e w (.slice X n c) h) (hd:Digits h) (hl:h.length <= 4096) (hg:w.cell? ⟨g,3,none⟩ = some v) (ho:Q0i w 0 9 .string v cl) (hcl:cl.length <= 100000) :
    Calls Tryz.prog 59 #[.slice X n c,.pointer (some ⟨g,0,none⟩)] w fun e w'=>e = .returned (.agg #[.slice X n c,.bool (cl.contains (Q6k h))]) /\ Ext w w':=by
 have HK:=Lib.hid (fun (W:World) (hW:Ext w W)=>Y5s W _ h (hv.ext hW) hl hd);have HC:=Lib.hid (fun (W:World) (hW:Ext w W)=>X7y W 0 v cl (Q6k h) (ho.below hW) hcl);have HG:=Lib.hid hg;obtain ⟨Av,cv,hav,-⟩:=ho.shape;subst hav;obtain ⟨q,hq⟩:∃ q,cl.contains (Q6k h) = q:=⟨_,rfl⟩;rw [hq] at HC ⊢;obtain ⟨kh,hkh⟩:∃ k,Q6k h = k:=⟨_,rfl⟩;rw [hkh] at HK HC;clear hv hd hg ho hq hkh;go_enter Tryz.func59,Tryz.ntmps59;go_wp2_with fail;change Code.wp _ _ _ _ (w.alloc (.cells #[.slice none 0 0,.bool false] 67));obtain ⟨W,hWW,k0,HXW,eW⟩:=Q2y w 67 #[.slice none 0 0,.bool false];rw [hWW];clear hWW;have K0:=Lib.hid k0;obtain ⟨gp,hgp⟩:∃ z,w.heap.size = z:=⟨_,rfl⟩;have HGP:=Lib.hid hgp;rw [hgp] at K0 eW ⊢;clear k0 hgp;have hdr:=(Ext.refl W).drew;refine Flow.Q4c [.p,.p,.w,.p,.w,.w,.p,.last] [0,1,2,3,4,5,6,7] [[],[],[1],[],[3],[1,2,3,4],[0,1,2,3,4,5],[0,1,2,3,4,5,6]] [7]
  [.c 0 (.slice X n c),.c 1 (.pointer (some ⟨g,3,none⟩)),.c 2 (.slice Av cl.length cv),.c 3 (.slice X n c),.c 4 (.string kh),.c 5 (.bool q),.c 6 (.agg #[.slice X n c,.bool q]),.none]
  [fun v w1 w'=>Blk w' gp 67 #[.slice X n c,.bool q] /\ (∀ n,n <= gp -> Below n w1 w')] (by kernel_rfl) rfl (by kernel_rfl) ⟨?g0,?g1,?g2,?g3,?g4,?g5,?g6,?g7,trivial⟩ ?post
 case g0 | g1 | g3=>
  intro v w1 hx;intro bb hbb;subst hbb;refine ⟨_,fun w=>?_,rfl⟩;go_simp
 case g2=>
  intro v w1 hx;(repeat intro (zq:v _ = _));intro bb hbb;subst hbb;have n0:w1.cell? ⟨g,3,none⟩ = some (.slice Av cl.length cv):=(HXW.out.trans (hdr.trans hx)).cell HG.out;intro K hK;go_simp;exact hK _ _ (Ext.refl _) rfl
 case g4=>
  intro v w1 hx;(repeat intro (zq:v _ = _));intro bb hbb;subst hbb;intro K hK;go_simp;refine Q0f (HK.out w1 (HXW.out.trans (hdr.trans hx))) ?_;rintro e w2 ⟨rfl,hx2⟩;exact ⟨_,rfl,hK _ _ hx2 rfl⟩
 case g5=>
  intro v w1 hx;(repeat intro (zq:v _ = _));intro bb hbb;subst hbb;intro K hK;go_simp;refine Q0f (HC.out w1 (HXW.out.trans (hdr.trans hx))) ?_;rintro e w2 ⟨rfl,rfl⟩;exact ⟨_,rfl,hK _ _ (Ext.refl _) rfl⟩
 case g6=>
  intro v w1 hx;(repeat intro (zq:v _ = _));intro bb hbb;subst hbb;refine ⟨_,fun w=>?_,rfl⟩;go_simp
 case g7=>
  intro v w1 hx;(repeat intro (zq:v _ = _));intro wl hT;obtain rfl:wl = w1:=hT;intro bb hbb;intro K hK;have o1:bb.eval (.tmp 3) = .pointer (some ⟨gp,0,none⟩):=by rw [hbb]; dsimp only; (try simp (discharger:=decide) only [eval_put_ne]); rfl
  have o2:bb.eval (.tmp 10) = .agg #[.slice X n c,.bool q]:=by rw [hbb]; dsimp only; (try simp (discharger:=decide) only [eval_put_ne]); rw [Q0a (by simp only [size_put]; exact (by decide:10 < 11))]; assumption
  exact Q1y (.tmp 3) (.tmp 10) _ rfl Tryz.J5a o1 o2 (K0.out.ext (hdr.trans hx)) rfl rfl Z8x (fun vv w' hb hl ho=>hK _ _ ⟨hb,hl⟩)
 case post =>
  intro v w1 hx;(iterate 7 intro (zq:v _ = _));intro w2 hE;replace hE:(fun v w1 w'=>Blk w' gp 67 #[.slice X n c,.bool q] /\ (∀ n,n <= gp -> Below n w1 w')) v w1 w2:=hE;simp only [Flow.acts,Act.put];go_simp;obtain ⟨hb9,hl9⟩:=hE;have HX9:Hid (Below w.heap.size W w2):=Lib.hid (Below.trans ((hdr.trans hx).mono (by have:=HGP.out; omega)) (hl9 _ (by have:=HGP.out; omega)))
  clear hx hdr hl9;(repeat clear zq);go_wp2;refine bodyPost_ret (Q2v Tryz.results59 rfl hb9 Tryz.J9r Tryz.J5a) rfl ?_;exact ⟨rfl,Below.trans HXW.out HX9.out⟩
end Go.Proofs
namespace Go.Proofs
open Go.RowKit Go.Tw Go.Flow
attribute [local go_sem] Oper.semAt_some
def Q4a (ll:List (List Int)) (cl:List ByteArray):List Rul:=ll.map fun h=>⟨h,cl.contains (Q6k h)⟩
def J7q (w:World) (ll:List (List Int)) (cl:List ByteArray) (rs:List (Value × Bool)):Prop:=∀ j (h1:j < rs.length) (h2:j < ll.length),Q0e w rs[j].1 ll[j] /\ rs[j].2 = cl.contains (Q6k ll[j])
theorem J7q.snoc {w:World} {ll:List (List Int)} {cl:List ByteArray} {rs:List (Value × Bool)} {k:Nat} (h:J7q w ll cl rs) (hk:rs.length = k) {v:Value} {q:Bool} (hlt:k < ll.length) (hv:Q0e w v ll[k]) (hq:cl.contains (Q6k ll[k]) = q):J7q w ll cl (rs ++ [(v,q)]):=fun j h1 h2=>by
 by_cases hj:j < rs.length
 . rw [List.getElem_append_left hj]; exact h j hj h2
 . rw [List.length_append,List.length_singleton] at h1
   have:j = k:=by omega
   subst this;rw [List.getElem_append_right (by omega)]
   simp only [hk,Nat.sub_self,List.getElem_cons_zero];exact ⟨hv,hq.symm⟩
theorem J3z {w w':World} {B:Nat} {ll:List (List Int)} {cl:List ByteArray} {rs:List (Value × Bool)} {v:Value} (h:Q0u w' B 67 2 Z1q v rs) (hlen:rs.length = ll.length) (hl:ll.length <= 4096) (hr:J7q w ll cl rs) (hx:Ext w w'):Q5d w' v (Q4a ll cl):=by
 refine Q0u.rowsOf (l:=Q4a ll cl) h (by rw [hlen,Q4a,List.length_map]) (by rw [Q4a,List.length_map]; omega) Z0j (fun j h1 h2=>?_) (fun c c' x hc hh=>?_)
 . have h3:j < ll.length:=by omega
   obtain ⟨a,b⟩:=hr j h1 h3;have e:(Q4a ll cl)[j] = ⟨ll[j],cl.contains (Q6k ll[j])⟩:=by simp [Q4a]
   rw [e];refine ⟨a.ext hx,?_⟩;show Value.bool rs[j].2 = _;rw [b]
 . obtain ⟨a,b⟩:=hh
   exact ⟨by rw [<- hc 0 (by omega)]; exact a,by rw [<- hc 1 (by omega)]; exact b⟩
theorem Y1j (w:World) (v:Value) (ll:List (List Int)) (g:Nat) (pv:Value) (cl:List ByteArray) (hv:Q4z w v ll) (hle:ll.length <= 4096) (hd:∀ h ∈ ll,Digits h) (hh:∀ h ∈ ll,h.length <= 4096) (hg:w.cell? ⟨g,3,none⟩ = some pv) (ho:Q0i w 0 9 .string pv cl) (hcl:cl.length <= 100000) :
    Calls Tryz.prog 57 #[v,.func (.func 59) #[] #[.pointer (some ⟨g,0,none⟩)]] w fun e w'=>∃ x,e = .returned x /\ Q5d w' x (Q4a ll cl) /\ Ext w w':=by
 obtain ⟨i0,hi,hz0,hz1,hz2⟩:=info_parts Tryz.J8d;obtain ⟨A,cap,rfl,hl,hcap,hc⟩:=hv.opened;have HC:=Lib.hid hc;have HB:=Lib.hid (fun (W:World) (h:List Int) (X:Option Addr) n c (hW:Ext w W) (hm:h ∈ ll) (hi:Q0e w (.slice X n c) h)=>Z8h W h X n c g pv cl (hi.ext hW) (hd h hm) (hh h hm) (hW.cell hg) (ho.below hW) hcl);have HFIN:=Lib.hid (fun (w':World) (v:Value) (rs:List (Value × Bool)) (h:Q0u w' w.heap.size 67 2 Z1q v rs) (hlen:rs.length = ll.length) (hr:J7q w ll cl rs) (hx:Ext w w')=>J3z h hlen hle hr hx);clear hv hc hd hh hg ho hcl;go_enter Tryz.func57,Tryz.ntmps57;go_wp2
 go_loopw [5,10] (fun o i wr=>∃ (k:Nat) (rs:List (Value × Bool)),k <= ll.length /\ i = .int .i64 k /\ rs.length = k /\ Q0u wr w.heap.size 67 2 Z1q o rs /\ J7q w ll cl rs /\ Ext w wr) (fun _ i _=>ll.length - (intOf i).toNat)
 case atStart=>exact ⟨0,[],Nat.zero_le _,rfl,rfl,Q0u.nil _ _ _ _ _,fun j h1=>by simp at h1,Ext.refl _⟩
 case round =>
  obtain ⟨k,rs,hk,rfl,hrl,hown,hrs,hx⟩:=hrel;have HX:=Lib.hid hx;have HOW:=Lib.hid hown;have HRS:=Lib.hid hrs;have HRL:=Lib.hid hrl
  by_cases hlt:k < ll.length
  . obtain ⟨b,off,m,rfl,-,hcell,hm⟩:=HC.out k hlt
    have hge:ll.getD k [] = ll[k]:=Q0y _ hlt;rw [hge] at hm;obtain ⟨Am,capm,rfl,-,-,-⟩:=hm.opened;have HCK:=Lib.hid (fun (W:World) hW=>HB.out W ll[k] Am _ capm hW (List.getElem_mem hlt) hm);obtain ⟨q,hq⟩:∃ q,cl.contains (Q6k ll[k]) = q:=⟨_,rfl⟩;have HR9:=Lib.hid (HRS.out.snoc hrl hlt hm hq);rw [hq] at HCK;obtain ⟨n,hn⟩:∃ n,ll[k].length = n:=⟨_,rfl⟩;rw [hn] at HCK HR9 hcell;replace hcell:=hx.cell hcell;have hkI:(k:Int) < ll.length:=by omega
    have HLW:Hid (rs.length + 1 <= 100000):=Lib.hid (by omega)
    have HSW:=Lib.hid HX.out.size;obtain ⟨Ao,co,hos,-⟩:=hown.shape;subst hos;clear hge hm hq hn hown hrs hx hrl
    go_light
    go_wp2_with (first | (refine (HCK.out _ HX.out).mono ?_; rintro e w5 ⟨rfl,hx5⟩; have HX5:=Lib.hid hx5; clear hx5) | (refine Q1g (o:=⟨some 19,_,_,_,_,_⟩) rfl ?_; refine Q2t (.tmp 14) (.tmp 18) 62 rfl w.heap.size 67 i0 (.agg #[.slice none 0 0,.bool false]) 2 32 Tryz.underlying62 hi hz0 hz1 hz2 rfl (by decide) Z1q Z0j _ rs (Value.slice Am n capm,q) rfl (HOW.out.below (HX5.out.trans (Ext.box _ _))) ⟨w5.heap.size,0,none⟩ 1 rfl (Q5k (xs:=Z1q (Value.slice Am n capm,q)) (Blk.made _ _ _)) (by unfold Z1q; simp [Value.oneCell']) HLW.out (by decide) (by have h1:=(HX5.out.trans (Ext.box w5 (.cells #[.slice Am n capm,.bool q] 67))).size; have h2:=HSW.out; omega) ?_; intro v' w9 hown' hgrow))
    have hxx:=HX5.out.trans (Ext.box w5 (.cells #[.slice Am n capm,.bool q] 67));have hO3:=HOW.out.below hxx;have HO9:=Lib.hid hown';have HX9:Hid (Ext w w9):=Lib.hid (Below.grown (HX.out.trans hxx) hgrow (by have:=hxx.size; have:=HSW.out; omega) (fun b hb=>(hO3.Q9y b hb).1))
    have HL9:Hid ((rs ++ [(Value.slice Am n capm,q)]).length = k + 1):=Lib.hid (by rw [List.length_append,HRL.out]; rfl)
    clear hxx hO3 hown' hgrow;go_wp2;go_roundw
    case rel=>exact ⟨k + 1,rs ++ [(Value.slice Am n capm,q)],by omega,by go_num,HL9.out,HO9.out,HR9.out,HX9.out⟩
    case measure=>simp [intOf]; omega
  . have hke:k = ll.length:=by omega
    subst hke;clear hown hrs hx;go_wp2;go_ret;exact ⟨_,rfl,HFIN.out _ _ _ HOW.out HRL.out HRS.out HX.out,HX.out⟩
end Go.Proofs
namespace Go.Tw
open Go.RowKit Go.Flow
def Y6q (s:Q0b) (need:Int):Int:=Q0k [s.err,Q0g need 0 8000]
def Y1m (s:Q0b) (need:Int):Int × Int × Int:=if Y6q s need ≠ 0 then (0,0,Y6q s need) else match X0f s need with
 | none=>(0,0,24)
 | some x=>(x.closings,x.delay,0)
def Z7y (s:Q0b) (need:Int):List Rul:=if Y6q s need ≠ 0 then [] else match X0f s need with
 | none=>[]
 | some x=>X0e s x
def Z2x (s:Q0b) (need:Int) (k:Nat):Option Plan:=((Q1v s).take k).foldl (Q1s need) none
theorem Z6v {s:Q0b} {need:Int} {k:Nat} {x:Plan} (h:(Q1v s)[k]? = some x):Z2x s need (k + 1) = Q1s need (Z2x s need k) x:=by
 obtain ⟨hk,rfl⟩:=List.getElem?_eq_some_iff.1 h;unfold Z2x;rw [List.take_succ_eq_append_getElem hk,List.foldl_append]; rfl
theorem Z9j (s:Q0b) (need:Int):Z2x s need (Q1v s).length = X0f s need:=by unfold Z2x X0f; rw [List.take_length]
end Go.Tw
namespace Go.Proofs
open Go.RowKit Go.Tw Go.Flow
attribute [local go_sem] Oper.semAt_some
theorem X0i {P:Program} {fn:Func} {p q r t:Tmp} {T:TypeId} (h:fn.results = #[.cell p T,.tmp q,.tmp r,.tmp t]) {tmps:Array Value} {w:World} {g:Nat} (ht:tmps.getD p undef = .pointer (some ⟨g,0,none⟩)) {BT:TypeId} {cs:Array Value} (hb:Blk w g BT cs)
    (hA:∀ w,(isAgg T).run P w = .ok true w) (hS:∀ w,(sizeOf T).run P w = .ok cs.size w) {a b c:Value} (hq:tmps.getD q undef = a) (hr:tmps.getD r undef = b) (hc:tmps.getD t undef = c):(results fn tmps).run P w = .ok (.tuple #[.agg cs,a,b,c]) w:=by
 unfold results;rw [h];simp only [List.mapM_toArray,List.mapM_cons,List.mapM_nil,Sem.run_bind,Sem.run_pure,ht,hq,hr,hc,asAddr];simp [Q4x hb hA hS]
theorem X7q {P:Program} {ops:Array Oper} {Q:Exit -> Act -> World -> Prop} {rest:List Oper} {a:Act} {w:World} {T ty:TypeId} {p x:Operand} {pos} {after} (h:wpList P ops Q (⟨none,.store T p x,ty,pos,after,none⟩ :: rest) a w):wpList P ops Q (⟨none,.store T p x,ty,pos,after,none⟩ :: rest) a w:=h
def J3b (s:Q0b) (need:Int) (e:Ending) (w':World):Prop:=∃ x,e = .returned (.tuple #[.agg #[x],.int .i64 (Y1m s need).1,.int .i64 (Y1m s need).2.1,.int .i64 (Y1m s need).2.2]) /\ Q5d w' x (Z7y s need)
theorem Y5i {A:Option Addr} {n c:Nat}:∀ u ∈ (#[Value.slice A n c]:Array Value).toList,u.oneCell' = true:=by
 intro u hu;simp only [List.mem_cons,List.not_mem_nil,or_false] at hu;subst hu; rfl
def J5g (w:World) (g:Nat):Option Plan -> Prop
 | none=>Blk w g 151 #[.int .i64 0,.int .i64 0,.int .i64 0,.slice none 0 0]
 | some o=>∃ A n c,Blk w g 151 #[.int .i64 o.weight,.int .i64 o.closings,.int .i64 o.delay,.slice A n c] /\ Q0i w 0 9 .string (.slice A n c) o.closed
theorem X8w {O:Nat} {a b c:World} (h:Off O a b) (hl:∀ n,n <= O -> Below n b c) (ho:∀ k,k ≠ O -> c.heap[k]? = b.heap[k]?):Off O a c :=
 ⟨h.1.trans (hl O (Nat.le_refl _)),Nat.le_trans h.2.1 (hl O (Nat.le_refl _)).size,fun k hk hne=>(ho k hne).trans (h.2.2 k hk hne)⟩
theorem Q1r {a b:Int} (h:Q0k [a,b] = 0):a = 0 /\ b = 0:=by
 unfold Q0k at h
 by_cases ha:a = 0
 . subst ha
   simp [Q0k] at h;exact ⟨rfl,by by_cases hb:b = 0 <;> simp_all⟩
 . rw [if_neg ha] at h; exact absurd h ha
def X6e (g:Nat) (T:TypeId) (cs:Array Value) (a b:World):Prop:=(∀ n,n <= g -> n <= a.heap.size -> Below n a b) /\ (∀ k,k < a.heap.size -> k ≠ g -> b.heap[k]? = a.heap[k]?) /\ (Blk a g T cs -> Blk b g T cs)
theorem X6e.refl (g:Nat) (T:TypeId) (cs:Array Value) (a:World):X6e g T cs a a:=⟨fun _ _ _=>Below.refl _ _,fun _ _ _=>rfl,id⟩
theorem X6e.size {g:Nat} {T:TypeId} {cs:Array Value} {a b:World} (h:X6e g T cs a b):a.heap.size <= b.heap.size:=(h.1 0 (Nat.zero_le _) (Nat.zero_le _)).size
theorem X6e.trans {g:Nat} {T:TypeId} {cs:Array Value} {a b c:World} (h:X6e g T cs a b) (k:X6e g T cs b c):X6e g T cs a c :=
 ⟨fun n hn hs=>(h.1 n hn hs).trans (k.1 n hn (Nat.le_trans hs h.size)),fun j hj hne=>(k.2.1 j (Nat.lt_of_lt_of_le hj h.size) hne).trans (h.2.1 j hj hne),fun x=>k.2.2 (h.2.2 x)⟩
theorem X6e.ext {g:Nat} {T:TypeId} {cs:Array Value} {a b:World} (h:Ext a b):X6e g T cs a b :=
 ⟨fun _ _ hs=>h.below hs,fun k hk _=>h.block k hk,fun x=>x.ext h⟩
theorem X6e.blk {g j:Nat} {T S:TypeId} {cs ds:Array Value} {a b:World} (h:X6e g T cs a b) (hb:Blk a j S ds) (hne:j ≠ g):Blk b j S ds:=(h.2.1 j hb.lt hne).trans hb
theorem Y9b {a b:World} {g i k:Nat} {u:Value} (h:a.cell? ⟨i,k,none⟩ = some u) (hne:i ≠ g) (hk:∀ k,k < a.heap.size -> k ≠ g -> b.heap[k]? = a.heap[k]?):b.cell? ⟨i,k,none⟩ = some u:=by
 have hlt:i < a.heap.size:=World.block_lt_of_cell? a _ h;rw [<- h];unfold World.cell?;rw [hk i hlt hne]
theorem X5y {a:World} {g i k n c:Nat} {T:TypeId} {A:Option Addr} {u:Value} (hg:Blk a g T #[.slice A n c]) (h:a.cell? ⟨i,k,none⟩ = some u) (hu:∀ A n c,u ≠ .slice A n c):i ≠ g:=by
 rintro rfl;rw [hg.cell] at h;cases k with
 | zero=>simp at h; exact hu _ _ _ h.symm
 | succ k=>simp at h
theorem J1a {a b:World} {g n c:Nat} {T:TypeId} {A:Option Addr} {v:Value} {l:List Int} (h:Q0e a v l) (hg:Blk a g T #[.slice A n c]) (hk:∀ k,k < a.heap.size -> k ≠ g -> b.heap[k]? = a.heap[k]?):Q0e b v l:=by
 obtain ⟨f,⟨A',cap,hv,hn,hcap,hc⟩,h2⟩:=h;refine ⟨f,⟨A',cap,hv,hn,hcap,fun j hj=>?_⟩,h2⟩;obtain ⟨b',off,hA,hcell⟩:=hc j hj;have e:=h2 j (by omega)
 simp only [Nat.mul_one,Nat.add_zero] at e;exact ⟨b',off,hA,Y9b hcell (X5y hg hcell (by rw [e]; intro _ _ _ hh; cases hh)) hk⟩
theorem Z7e {a b:World} {g n c:Nat} {T:TypeId} {A:Option Addr} {v:Value} {l:List Rul} (h:Q5d a v l) (hg:Blk a g T #[.slice A n c]) (hk:∀ k,k < a.heap.size -> k ≠ g -> b.heap[k]? = a.heap[k]?):Q5d b v l:=by
 obtain ⟨f,⟨A',cap,hv,hn,hcap,hc⟩,h2⟩:=h;refine ⟨f,⟨A',cap,hv,hn,hcap,fun j hj=>?_⟩,fun j hj=>?_⟩
 . obtain ⟨b',off,hA,hcell⟩:=hc j hj
   obtain ⟨b2,off2,hA2,hcell2⟩:=hc (j / 2 * 2 + 1) (by omega)
   rw [hA] at hA2;injection hA2 with hA2;injection hA2 with e1 e2 _;subst e1;have e:=(h2 (j / 2) (by omega)).2
   simp only at e;exact ⟨b',off,hA,Y9b hcell (X5y hg hcell2 (by rw [e]; intro _ _ _ hh; cases hh)) hk⟩
 . obtain ⟨x,y⟩:=h2 j hj
   exact ⟨J1a x hg hk,y⟩
theorem Z5i {s:Q0b} (hS:Q0m s):∀ h ∈ s.hist,h.length <= 4096:=fun h hh=>by
 obtain ⟨t,ht,k,hk,rfl⟩:=(Q0b.Q4k _ _).1 hh;rw [List.length_take];have h1:=(hS.shaped k hk).1;have h2:=hS.tides;omega
theorem J2h {s:Q0b} {need:Int} {x:Plan} (h:X0f s need = some x):x ∈ Q1v s:=by
 have go:∀ (l:List Plan) (b:Option Plan),l.foldl (Q1s need) b = some x -> x ∈ l ∨ b = some x:=by
  intro l
  induction l with
  | nil=>intro b h; exact .inr h
  | cons y l ih =>
    intro b h
    rcases ih _ h with h | h
    . exact .inl (List.mem_cons_of_mem _ h)
    . unfold Q1s at h
      split at h
      . exact .inr h
      . split at h
        . injection h with h; exact .inl (by rw [<- h]; exact List.mem_cons_self)
        . split at h
          . injection h with h; exact .inl (by rw [<- h]; exact List.mem_cons_self)
          . exact .inr h
 rcases go _ _ h with h | h
 . exact h
 . cases h
theorem Z9c (w:World) (v:Value) (s:Q0b) (need:Int) (hv:Q0p w v s) (hs:Q2x s) (hF:s.hist.length <= 9) :
    Calls Tryz.prog 25 #[v,.int .i64 need] w fun e w'=>J3b s need e w' /\ Ext w w':=by
 obtain ⟨a,b,rfl,h2⟩:=hv;obtain ⟨A,capa,rfl,-,-,-⟩:=h2.ships.opened;obtain ⟨B,capb,rfl,-,-,-⟩:=h2.members.opened;have H2:=Lib.hid h2;have HS:=Lib.hid hs;have HFE:=Lib.hid hF;clear h2 hs hF;go_enter Tryz.func25,Tryz.ntmps25;go_wp2_with fail;change Calls _ _ _ ((w.alloc (.cells #[.int .i64 s.limit,.slice A s.ships.length capa,.slice B s.members.length capb] 74)).alloc (.cells #[.slice none 0 0] 64)) _;obtain ⟨W,hWW,k0,k1,HXW,eW⟩:=Q6u w 74 #[.int .i64 s.limit,.slice A s.ships.length capa,.slice B s.members.length capb] 64 #[.slice none 0 0];rw [hWW];clear hWW;have K0:=Lib.hid k0;have K1:=Lib.hid k1;obtain ⟨gs,hgs⟩:∃ z,w.heap.size = z:=⟨_,rfl⟩;have HGS:=Lib.hid hgs;rw [hgs] at K0 K1 eW ⊢;clear k0 k1 hgs;refine (Q4b _ _ s ⟨_,_,rfl,H2.out.ext HXW.out⟩ HS.out).mono ?_;rintro e w5 ⟨rfl,hx5⟩;have HXR:=Lib.hid hx5;have HER:Hid (Y6q s need = Q0k [s.err,Q0g need 0 8000]):=Lib.hid rfl;obtain ⟨E,hE⟩:∃ E,s.err = E:=⟨_,rfl⟩;have HE:=Lib.hid hE;rw [hE] at HER ⊢;have HNE:=Lib.hid (X4l w5 need);obtain ⟨R,hR⟩:∃ R,Q0g need 0 8000 = R:=⟨_,rfl⟩;have HR:=Lib.hid hR;rw [hR] at HER HNE;have HFI:=Lib.hid (first_any (w5.alloc (.cells #[.int .i64 E,.int .i64 R] 34)) _ [E,R] (Q2l (by simp)))
 rw [<- HER.out] at HFI;obtain ⟨F,hFv⟩:∃ F,Y6q s need = F:=⟨_,rfl⟩;have HFV:=Lib.hid hFv;rw [hFv] at HFI;clear hx5 hE hR hFv;go_wp2_with (first | (go_at_call 56; refine HNE.out.mono ?_; rintro e w6 ⟨rfl,rfl⟩; refine halted ?_) | fail)
 unfold Q1x
 by_cases hf:F = 0
 . have hz:=Q1r (HER.out.symm.trans (HFV.out.trans hf))
   have hE0:s.err = 0:=HE.out.trans hz.1;have hV:=Q0m.of hE0;have HV:=Lib.hid hV;have hbd:=Q7c hV s.ships.length (Nat.le_refl _) (Y4c s) Q7w Q9w;have hpe:Q2d s s.ships.length (Y4c s) = Q1v s:=rfl;rw [hpe] at hbd;have hple:(Q1v s).length <= 512:=by
    have h1:2 ^ X6l s (s.ships.length - s.ships.length) (Y4c s) <= 2 ^ 9:=Nat.pow_le_pow_right (by omega) (Nat.le_trans (X8t _ _) HFE.out)
    omega
   have HPE:=Lib.hid hple;have HCL:Hid (∀ x ∈ Q1v s,x.closed.length <= 100000):=Lib.hid (fun x hx=>by have:=(hbd.2 x hx).l; have:=X8t (s:=s) (s.ships.length - s.ships.length) (Y4c s); have:=HFE.out; omega)
   have HBN:Hid (∀ o,X0f s need = o -> Y1m s need = (match o with | none=>(0,0,24) | some x=>(x.closings,x.delay,0)) /\ Z7y s need = (match o with | none=>[] | some x=>X0e s x)):=Lib.hid (fun o ho=>⟨by unfold Y1m; rw [HFV.out,if_neg (by simp [hf]),ho],by unfold Z7y; rw [HFV.out,if_neg (by simp [hf]),ho]⟩)
   have hne:(F != 0) = false:=by simp [hf]
   have HXA:Hid (Ext w (w5.alloc (.cells #[.int .i64 E,.int .i64 R] 34))):=Lib.hid (HXW.out.trans (HXR.out.trans (Ext.box _ _)));have hkA:=(K0.out.ext HXR.out).ext (Ext.box w5 (.cells #[.int .i64 E,.int .i64 R] 34));have hkP:=(K1.out.ext HXR.out).ext (Ext.box w5 (.cells #[.int .i64 E,.int .i64 R] 34));obtain ⟨wa,hwa⟩:∃ z,w5.alloc (.cells #[.int .i64 E,.int .i64 R] 34) = z:=⟨_,rfl⟩;rw [hwa] at HFI HXA hkA hkP;have hbB:=Blk.made wa 151 #[.int .i64 0,.int .i64 0,.int .i64 0,.slice none 0 0];have hxB:=Ext.box wa (.cells #[.int .i64 0,.int .i64 0,.int .i64 0,.slice none 0 0] 151);have hkB:=hkA.ext hxB;have c0:=(hkB).cell 0;have c1:=(hkB).cell 1;have c2:=(hkB).cell 2;simp only [Go.Tw.gA,Go.Tw.gB,Go.Tw.gC] at c0 c1 c2;have HKA:=Lib.hid hkA;have HKP:=Lib.hid hkP;have HBB:=Lib.hid hbB;have HXB:=Lib.hid hxB;have HPL:=Lib.hid (Z0m (wa.alloc (.cells #[.int .i64 0,.int .i64 0,.int .i64 0,.slice none 0 0] 151)) _ s ⟨_,_,rfl,H2.out.ext (HXA.out.trans hxB)⟩ hV HFE.out);clear hz hE0 hV hbd hpe hple hkA hkP hbB hxB hkB;go_wp2_with (first | (go_at_call 45; (try rw [hwa]); refine HFI.out.mono ?_; rintro e w7 ⟨rfl,rfl⟩) | (go_at_call 54; refine HPL.out.mono ?_; rintro e w6 ⟨x6,qs6,rfl,h1,h2,h3,h4⟩; refine halted ?_))
   have HO6:=Lib.hid h1;have HC6:=Lib.hid h2;have HM6:=Lib.hid h3;have HX6:=Lib.hid h4;obtain ⟨A6,c6,hs6,-⟩:=h1.shape;subst hs6;have HLQ:Hid (qs6.length = (Q1v s).length):=Lib.hid (by rw [<- h3,List.length_map])
   obtain ⟨gb,hgb⟩:∃ z,wa.heap.size = z:=⟨_,rfl⟩;have HGB:=Lib.hid hgb;have HBI:Hid (J5g w6 gb none):=Lib.hid (by rw [<- hgb]; exact HBB.out.ext h4)
   have HK6:Hid (Blk w6 gs 74 #[.int .i64 s.limit,.slice A s.ships.length capa,.slice B s.members.length capb]):=Lib.hid (HKA.out.ext (HXB.out.trans h4));have HP6:Hid (Blk w6 (gs + 1) 64 #[.slice none 0 0]):=Lib.hid (HKP.out.ext (HXB.out.trans h4));have HGL:Hid (gs + 1 < gb):=Lib.hid (by have:=HKP.out.lt; omega)
   have HBS:Hid (gb < (wa.alloc (.cells #[.int .i64 0,.int .i64 0,.int .i64 0,.slice none 0 0] 151)).heap.size):=Lib.hid (by have:=HBB.out.lt; omega)
   have HXW6:=Lib.hid (HXA.out.trans (HXB.out.trans h4));rw [hgb];obtain ⟨L,hL⟩:∃ z,qs6.length = z:=⟨_,rfl⟩;have HL:=Lib.hid hL;rw [hL];have hl9:L <= 512:=by have:=HPE.out; rw [<- hL,HLQ.out]; exact this
   clear h1 h2 h3 h4 hgb hL c0 c1 c2;unfold Q1x;go_wp2
   go_loopw [10,27] (fun f i wr=>∃ (k:Nat) (b:Option Plan),k <= L /\ i = .int .i64 k /\ f = .bool b.isSome /\ Off gb w6 wr /\ J5g wr gb b /\ b = Z2x s need k) (fun _ i _=>L - (intOf i).toNat)
   case atStart=>exact ⟨0,none,Nat.zero_le _,rfl,rfl,Off.refl _ _,HBI.out,rfl⟩
   case round =>
    obtain ⟨k,b,hk,rfl,rfl,hof,hbi,hbk⟩:=hrel;have HOF:=Lib.hid hof;have HBI2:=Lib.hid hbi;have HBK:=Lib.hid hbk
    by_cases hlt:k < L
    . have hkp:k < qs6.length:=by rw [HL.out]; exact hlt
      have hkI:(k:Int) < L:=by omega
      have hbg:∃ cs,Blk wr gb 151 cs:=by cases b with
       | none=>exact ⟨_,hbi⟩
       | some o=>obtain ⟨_,_,_,h,_⟩:=hbi; exact ⟨_,h⟩
      have hb6:∃ cs,Blk w6 gb 151 cs:=⟨_,HBI.out⟩;obtain ⟨cs6,hb6⟩:=hb6;have hcr:=HC6.out.off hb6 (fun j hj hne=>hof.2.2 j hj hne);have HCR:=Lib.hid hcr;obtain ⟨A',cv',hA',HCELL⟩:=Q8d (Q0u.off HO6.out HBS.out hof);injection hA' with hA' hn' hcv';subst hA';subst hcv';obtain ⟨gq,rfl,hcell⟩:=HCELL.out k hkp;have e0:=hcell 0 (by omega)
      have e1:=hcell 1 (by omega)
      have e2:=hcell 2 (by omega)
      have e3:=hcell 3 (by omega)
      obtain ⟨A4,n4,c4,hsl⟩:=hcr.shape (List.getElem_mem hkp);have hpk:(Q1v s)[k]? = some qs6[k].1:=by rw [<- HM6.out,List.getElem?_map,List.getElem?_eq_getElem hkp]; rfl
      have hcl:=hcr qs6[k] (List.getElem_mem hkp);obtain ⟨qk,hqke⟩:∃ z,qs6[k] = z:=⟨_,rfl⟩;rw [hqke] at e0 e1 e2 e3 hsl hcl hpk;obtain ⟨x,xv⟩:=qk;replace hsl:xv = .slice A4 n4 c4:=hsl;subst hsl;have HST:Hid (Z2x s need (k + 1) = Q1s need b x):=Lib.hid (by rw [Z6v hpk,<- hbk])
      have HCLX:=Lib.hid hcl;rw [Nat.add_zero] at e0;obtain ⟨x1,hx1⟩:∃ z,x.weight = z:=⟨_,rfl⟩;obtain ⟨x2,hx2⟩:∃ z,x.closings = z:=⟨_,rfl⟩;obtain ⟨x3,hx3⟩:∃ z,x.delay = z:=⟨_,rfl⟩;have HPX:=Lib.hid (show x.weight = x1 /\ x.closings = x2 /\ x.delay = x3 from ⟨hx1,hx2,hx3⟩)
      replace e0:wr.cell? ⟨gq,k * 4,none⟩ = some (.int .i64 x1):=by rw [<- hx1]; exact e0
      replace e1:wr.cell? ⟨gq,k * 4 + 1,none⟩ = some (.int .i64 x2):=by rw [<- hx2]; exact e1
      replace e2:wr.cell? ⟨gq,k * 4 + 2,none⟩ = some (.int .i64 x3):=by rw [<- hx3]; exact e2
      replace e3:wr.cell? ⟨gq,k * 4 + 3,none⟩ = some (.slice A4 n4 c4):=e3;have hbox:=Ext.box wr (.cells #[.int .i64 x1,.int .i64 x2,.int .i64 x3,.slice A4 n4 c4] 151);have K3:=Blk.made wr 151 #[.int .i64 x1,.int .i64 x2,.int .i64 x3,.slice A4 n4 c4];have HXC:=Lib.hid hbox;have HK3:=Lib.hid K3;have HGW:Hid (gb <= wr.heap.size):=Lib.hid (by obtain ⟨cs,h⟩:=hbg; exact Nat.le_of_lt h.lt)
      have d0:=(K3).cell 0;have d1:=(K3).cell 1;have d2:=(K3).cell 2;have d3:=(K3).cell 3;simp only [Go.Tw.gA,Go.Tw.gB,Go.Tw.gC] at d0 d1 d2 d3;clear hcell hqke hx1 hx2 hx3 hcl hpk hkp hof hbk hcr hb6 hbg
      by_cases hw:x1 < need
      . have HB1:Hid (Q1s need b x = b):=Lib.hid (by unfold Q1s; rw [if_pos (by rw [HPX.out.1]; exact hw)])
        clear hbi hbox K3
        go_light
        go_wp2;go_roundw
        case rel =>
         refine ⟨k + 1,b,by omega,by go_num,rfl,Off.ext HOF.out HXC.out HGW.out,?_,by rw [HST.out,HB1.out]⟩
         cases b with
         | none=>exact Blk.ext HBI2.out HXC.out
         | some o=>obtain ⟨A,n,c,h,h'⟩:=HBI2.out; exact ⟨A,n,c,h.ext HXC.out,h'.below HXC.out⟩
        case measure=>simp [intOf]; omega
      . have hwI:¬ x.weight < need:=by rw [HPX.out.1]; exact hw
        cases b with
        | none =>
          have HB1:Hid (Q1s need none x = some x):=Lib.hid (by unfold Q1s; rw [if_neg hwI])
          have hbc:Blk (wr.alloc (.cells #[.int .i64 x1,.int .i64 x2,.int .i64 x3,.slice A4 n4 c4] 151)) gb 151 #[.int .i64 0,.int .i64 0,.int .i64 0,.slice none 0 0]:=Blk.ext hbi hbox;clear hbi hbox K3 hwI
          go_light
          go_wp2_with (with_reducible (refine X7q ?_); refine Q0t rfl _ _ _ rfl Tryz.X9r rfl rfl hbc rfl rfl X2w ?_; intro w9 hb9 hl9 ho9);have HB9:=Lib.hid hb9;have HOF9:=Lib.hid (X8w (Off.ext HOF.out HXC.out HGW.out) hl9 ho9);have HC9:Hid (Q0i w9 0 9 .string (.slice A4 n4 c4) x.closed):=Lib.hid (by
           have h:=Q0o.off (w':=w9) (ps:=[((x,Value.slice A4 n4 c4):PV)]) (g:=gb) (fun q hq=>by obtain rfl:=List.mem_singleton.1 hq; exact HCLX.out.below HXC.out) hbc (fun k _ hk=>ho9 k hk)
           exact h _ (List.mem_singleton.2 rfl))
          clear hb9 hl9 ho9 hbc;go_wp2;go_roundw
          case rel=>exact ⟨k + 1,some x,by omega,by go_num,rfl,HOF9.out,⟨A4,n4,c4,by rw [HPX.out.1,HPX.out.2.1,HPX.out.2.2]; exact HB9.out,HC9.out⟩,by rw [HST.out,HB1.out]⟩
          case measure=>simp [intOf]; omega
        | some o =>
          obtain ⟨Ao,no,co,hbo,hboS⟩:=hbi;have hbc:=hbo.ext hbox;have HBS1:Hid (Q1s need (some o) x = if x.closings < o.closings ∨ x.closings = o.closings /\ x.delay < o.delay then some x else some o):=Lib.hid (by unfold Q1s; rw [if_neg hwI])
          rw [HPX.out.2.1,HPX.out.2.2] at HBS1;obtain ⟨o1,ho1⟩:∃ z,o.weight = z:=⟨_,rfl⟩;obtain ⟨o2,ho2⟩:∃ z,o.closings = z:=⟨_,rfl⟩;obtain ⟨o3,ho3⟩:∃ z,o.delay = z:=⟨_,rfl⟩;rw [ho2,ho3] at HBS1;rw [ho1,ho2,ho3] at hbc;have g0:=(hbc).cell 0;have g1:=(hbc).cell 1;have g2:=(hbc).cell 2;have g3:=(hbc).cell 3;simp only [Go.Tw.gA,Go.Tw.gB,Go.Tw.gC] at g0 g1 g2 g3;clear hbo hboS hbox K3 hwI ho1 ho2 ho3
          by_cases hc1:x2 < o2
          . have HB1:Hid (Q1s need (some o) x = some x):=Lib.hid (by rw [HBS1.out,if_pos (.inl hc1)])
            go_light
            go_wp2_with (with_reducible (refine X7q ?_); refine Q0t rfl _ _ _ rfl Tryz.X9r rfl rfl hbc rfl rfl X2w ?_; intro w9 hb9 hl9 ho9);have HB9:=Lib.hid hb9;have HOF9:=Lib.hid (X8w (Off.ext HOF.out HXC.out HGW.out) hl9 ho9);have HC9:Hid (Q0i w9 0 9 .string (.slice A4 n4 c4) x.closed):=Lib.hid (by
             have h:=Q0o.off (w':=w9) (ps:=[((x,Value.slice A4 n4 c4):PV)]) (g:=gb) (fun q hq=>by obtain rfl:=List.mem_singleton.1 hq; exact HCLX.out.below HXC.out) hbc (fun k _ hk=>ho9 k hk)
             exact h _ (List.mem_singleton.2 rfl))
            clear hb9 hl9 ho9 hbc;go_wp2;go_roundw
            case rel=>exact ⟨k + 1,some x,by omega,by go_num,rfl,HOF9.out,⟨A4,n4,c4,by rw [HPX.out.1,HPX.out.2.1,HPX.out.2.2]; exact HB9.out,HC9.out⟩,by rw [HST.out,HB1.out]⟩
            case measure=>simp [intOf]; omega
          . by_cases hc2:x2 = o2
            . by_cases hc3:x3 < o3
              . have HB1:Hid (Q1s need (some o) x = some x):=Lib.hid (by rw [HBS1.out,if_pos (.inr ⟨hc2,hc3⟩)])
                subst hc2
                go_light
                go_wp2_with (with_reducible (refine X7q ?_); refine Q0t rfl _ _ _ rfl Tryz.X9r rfl rfl hbc rfl rfl X2w ?_; intro w9 hb9 hl9 ho9);have HB9:=Lib.hid hb9;have HOF9:=Lib.hid (X8w (Off.ext HOF.out HXC.out HGW.out) hl9 ho9);have HC9:Hid (Q0i w9 0 9 .string (.slice A4 n4 c4) x.closed):=Lib.hid (by
                 have h:=Q0o.off (w':=w9) (ps:=[((x,Value.slice A4 n4 c4):PV)]) (g:=gb) (fun q hq=>by obtain rfl:=List.mem_singleton.1 hq; exact HCLX.out.below HXC.out) hbc (fun k _ hk=>ho9 k hk)
                 exact h _ (List.mem_singleton.2 rfl))
                clear hb9 hl9 ho9 hbc;go_wp2;go_roundw
                case rel=>exact ⟨k + 1,some x,by omega,by go_num,rfl,HOF9.out,⟨A4,n4,c4,by rw [HPX.out.1,HPX.out.2.1,HPX.out.2.2]; exact HB9.out,HC9.out⟩,by rw [HST.out,HB1.out]⟩
                case measure=>simp [intOf]; omega
              . have HB1:Hid (Q1s need (some o) x = some o):=Lib.hid (by rw [HBS1.out,if_neg (by omega)])
                subst hc2;clear hbc
                go_light
                go_wp2;go_roundw
                case rel=>exact ⟨k + 1,some o,by omega,by go_num,rfl,Off.ext HOF.out HXC.out HGW.out,(by obtain ⟨A,n,c,h,h'⟩:=HBI2.out; exact ⟨A,n,c,h.ext HXC.out,h'.below HXC.out⟩),by rw [HST.out,HB1.out]⟩
                case measure=>simp [intOf]; omega
            . have HB1:Hid (Q1s need (some o) x = some o):=Lib.hid (by rw [HBS1.out,if_neg (by omega)])
              clear hbc
              go_light
              go_wp2;go_roundw
              case rel=>exact ⟨k + 1,some o,by omega,by go_num,rfl,Off.ext HOF.out HXC.out HGW.out,(by obtain ⟨A,n,c,h,h'⟩:=HBI2.out; exact ⟨A,n,c,h.ext HXC.out,h'.below HXC.out⟩),by rw [HST.out,HB1.out]⟩
              case measure=>simp [intOf]; omega
    . have hke:k = L:=by omega
      subst hke;have hlen:(Q1v s).length = k:=by rw [<- HLQ.out]; exact HL.out
      have hbs:X0f s need = b:=by rw [<- Z9j,hlen]; exact hbk.symm
      have HB:=Lib.hid (HBN.out b hbs);have hbp:Blk wr (gs + 1) 64 #[.slice none 0 0]:=HP6.out.below hof.1 HGL.out;have hks:Blk wr gs 74 #[.int .i64 s.limit,.slice A s.ships.length capa,.slice B s.members.length capb]:=HK6.out.below hof.1 (by have:=HGL.out; omega)
      have HXWR:Hid (Ext w wr):=Lib.hid (Below.trans HXW6.out (hof.1.mono (by have:=HGL.out; have:=HGS.out; omega)))
      have HKS:=Lib.hid hks;have HBP:=Lib.hid hbp;clear hof hbk hlen;cases b with
      | none =>
        clear hbi hks hbs;go_wp2_with (with_reducible (refine X7q ?_); refine Q0t rfl _ _ _ rfl Tryz.Q7e rfl rfl hbp rfl rfl Y5i ?_; intro w9 hb9 hl9 ho9);refine bodyPost_ret (X0i Tryz.results25 rfl hb9 Tryz.X8g Tryz.Q7e rfl rfl rfl) rfl ?_;exact ⟨⟨_,by rw [HB.out.1]; rfl,by rw [HB.out.2]; exact Go.Tw.Rows.nil _ _ _⟩,Below.trans HXWR.out (hl9 _ (by have:=HGS.out; omega))⟩
      | some o =>
        obtain ⟨Ao,no,co,hbo,hboS⟩:=hbi;have HBO:=Lib.hid hbo;have hmo:o ∈ Q1v s:=J2h hbs;have HIS:=Lib.hid (J6w HV.out.toFine hbs);have HHI:=Lib.hid (Y4x wr _ s ⟨_,_,rfl,H2.out.ext HXWR.out⟩ HV.out);have HCO:=Lib.hid (HCL.out o hmo);have HOS:=Lib.hid hboS;have c0:=(hks).cell 0;have c1:=(hks).cell 1;have c2:=(hks).cell 2;simp only [Go.Tw.gA,Go.Tw.gB,Go.Tw.gC] at c0 c1 c2;clear hbo hboS hks hbp hmo hbs;go_wp2_with (go_at_call 58; refine HHI.out.mono ?_; rintro e w7 ⟨x7,rfl,h1,h2⟩; refine halted ?_);have HX7:=Lib.hid h2;obtain ⟨A7,c7,hs7,-,-,-⟩:=h1.opened;subst hs7;have HMR:=Lib.hid (Y1j w7 _ s.hist gb (.slice Ao no co) o.closed h1 (by have:=HFE.out; omega) (fun h hh=>Y1a HV.out h hh) (fun h hh=>Z5i HV.out h hh) ((HBO.out.ext h2).cell 3) (HOS.out.below h2) HCO.out)
        clear h1 h2;unfold Q1x;go_wp2_with (go_at_call 57; refine HMR.out.mono ?_; rintro e w8 ⟨x8,rfl,h1,h2⟩; refine halted ?_);have HX8:=Lib.hid (HX7.out.trans h2);obtain ⟨R8,c8,hs8,-,-,-⟩:=h1.opened;subst hs8;have HU8:=Lib.hid h1;clear h1 h2;unfold Q1x;go_wp2;obtain ⟨o1,ho1⟩:∃ z,o.weight = z:=⟨_,rfl⟩;obtain ⟨o2,ho2⟩:∃ z,o.closings = z:=⟨_,rfl⟩;obtain ⟨o3,ho3⟩:∃ z,o.delay = z:=⟨_,rfl⟩;have HO23:=Lib.hid (show o.closings = o2 /\ o.delay = o3 from ⟨ho2,ho3⟩)
        have hbo:=HBO.out;rw [ho1,ho2,ho3] at hbo;have hxz:=Ext.box w8 (.cells #[.slice R8 (Q4a s.hist o.closed).length c8] 64);have hkz:=Blk.made w8 64 #[.slice R8 (Q4a s.hist o.closed).length c8];obtain ⟨wz,hwz⟩:∃ z,w8.alloc (.cells #[.slice R8 (Q4a s.hist o.closed).length c8] 64) = z:=⟨_,rfl⟩;rw [hwz] at hxz hkz ⊢;obtain ⟨gz,hgz⟩:∃ z,w8.heap.size = z:=⟨_,rfl⟩;rw [hgz] at hkz ⊢;have HXZ:=Lib.hid (HX8.out.trans hxz);have KZ:=Lib.hid hkz;have KS:=Lib.hid (HKS.out.ext (HX8.out.trans hxz));have KB:=Lib.hid (hbo.ext (HX8.out.trans hxz));have HUZ:=Lib.hid (HU8.out.ext hxz);have HSPT:=Lib.hid (fun (W:World) (hW:Ext wz W)=>Z9k W (.agg #[.int .i64 s.limit,.slice A s.ships.length capa,.slice B s.members.length capb]) (.agg #[.slice R8 (Q4a s.hist o.closed).length c8]) s (X0e s o) ⟨_,_,rfl,H2.out.ext (HXWR.out.trans (HXZ.out.trans hW))⟩ ⟨_,rfl,HUZ.out.ext hW⟩ HV.out (Q3h.2 (by simp [X0e,Function.comp_def])))
        rw [HIS.out.2.2.1,HIS.out.2.2.2,ho2,ho3] at HSPT;have HNZ0:Hid (gz ≠ gs + 1):=Lib.hid (by have h1:=HBP.out.lt; have h2:=HX8.out.size; omega)
        obtain ⟨n8,hn8⟩:∃ z,(Q4a s.hist o.closed).length = z:=⟨_,rfl⟩;rw [hn8] at KZ HUZ HSPT ⊢;have hdr:=(Ext.refl wz).drew;clear hbo hxz hkz hwz hgz hn8 ho1 ho2 ho3 c0 c1 c2;refine Flow.Q1q [.w,.w,.w,.p,.w,.p] [0,1,2,3,4,5] [[],[],[0,1],[],[3],[2,4]]
         [.c 0 (.agg #[.int .i64 s.limit,.slice A s.ships.length capa,.slice B s.members.length capb]),.c 1 (.agg #[.slice R8 n8 c8]),.c 2 (.agg #[.int .i64 o2,.int .i64 o3]),.c 3 (.pointer (some ⟨gb,1,none⟩)),.c 4 (.agg #[.int .i64 o2,.int .i64 o3]),.c 5 (.bool false)]
         (by kernel_rfl) rfl (by kernel_rfl) ⟨?g0,?g1,?g2,?g3,?g4,?g5,trivial⟩ ?post
        case g0=>
         intro v w1 hx;intro bb hbb;intro K hK;have o1:bb.eval (.tmp 2) = .pointer (some ⟨gs,0,none⟩):=by rw [hbb]; dsimp only; (try simp (discharger:=decide) only [eval_put_ne]); rfl
         exact Q0x (.tmp 2) _ rfl Tryz.Z6x Tryz.Y2t o1 (KS.out.ext (hdr.trans hx)) rfl (hK _ _ (Ext.refl _) rfl)
        case g1=>
         intro v w1 hx;intro bb hbb;intro K hK;have o1:bb.eval (.tmp 13) = .pointer (some ⟨gz,0,none⟩):=by rw [hbb]; dsimp only; (try simp (discharger:=decide) only [eval_put_ne]); rfl
         exact Q0x (.tmp 13) _ rfl Tryz.X8g Tryz.Q7e o1 (KZ.out.ext (hdr.trans hx)) rfl (hK _ _ (Ext.refl _) rfl)
        case g2=>
         intro v w1 hx;(repeat intro (zq:v _ = _));intro bb hbb;subst hbb;intro K hK;go_simp;refine Q0f (HSPT.out w1 (hdr.trans hx)) ?_;rintro e w2 ⟨rfl,hx2⟩;exact ⟨_,rfl,hK _ _ hx2 rfl⟩
        case g3=>
         intro v w1 hx;intro bb hbb;subst hbb;refine ⟨_,fun w=>?_,rfl⟩;go_simp
        case g4=>
         intro v w1 hx;(repeat intro (zq:v _ = _));intro bb hbb;intro K hK;have o1:bb.eval (.tmp 77) = .pointer (some ⟨gb,1,none⟩):=by rw [hbb]; dsimp only; (try simp (discharger:=decide) only [eval_put_ne]); rw [Q0a (by simp only [size_put]; exact (by decide:77 < 88))]; assumption
         exact Q6q (.tmp 77) _ rfl Tryz.Y2v Tryz.Q8t o1 ((Y8t KB.out).ext (hdr.trans hx)) rfl (hK _ _ (Ext.refl _) rfl)
        case g5=>
         intro v w1 hx;(repeat intro (zq:v _ = _));intro bb hbb;subst hbb;refine ⟨_,fun w=>?_,rfl⟩;go_simp
        case post =>
         intro v w1 hx (q0:v 0 = _) (q1:v 1 = _) (q2:v 2 = _) (q3:v 3 = _) (q4:v 4 = _) (q5:v 5 = _);simp only [Flow.All,Flow.acts,Act.put];go_simp;have hxx:=hdr.trans hx;have KZ2:=Lib.hid (KZ.out.ext hxx);have KB2:=Lib.hid (KB.out.ext hxx);have KP2:=Lib.hid (HBP.out.ext (HXZ.out.trans hxx));have HU2:=Lib.hid (HUZ.out.ext hxx);have HX2:=Lib.hid (HXWR.out.trans (HXZ.out.trans hxx));obtain ⟨wy,rfl⟩:∃ X,X = w1:=⟨_,rfl⟩;clear hx hdr hxx q0 q1 q2 q3 q4;go_wp2;have HNZ:Hid (gz ≠ gs + 1):=Lib.hid HNZ0.out;have HNB:Hid (gb ≠ gs + 1):=Lib.hid (by have:=HGL.out; omega)
         have hdr:X6e (gs + 1) 64 #[.slice R8 n8 c8] wy wy.drew:=X6e.ext (Ext.refl wy).drew;refine Flow.J0o (X6e (gs + 1) 64 #[.slice R8 n8 c8]) 7 Ext Ext.refl (fun _ _ _=>Ext.trans) (fun _ _=>X6e.ext) (X6e.refl _ _ _) (fun _ _ _=>X6e.trans) (fun _ _ h=>h.size) [.w,.p,.p,.w,.p,.p,.w,.w,.p,.p,.last] [0,1,2,3,4,5,6,7,8,9,10] [[],[],[1],[1,2],[],[4],[4,5],[0],[0,1,2,3,7],[0,1,2,3,4,5,6,7,8],[0,1,2,3,4,5,6,7,8,9]] [10]
          [.c 0 (.agg #[.slice R8 n8 c8]),.c 1 (.pointer (some ⟨gb,1,none⟩)),.c 2 (.pointer (some ⟨gb,1,none⟩)),.c 3 (.int .i64 o2),.c 4 (.pointer (some ⟨gb,1,none⟩)),.c 5 (.pointer (some ⟨gb,2,none⟩)),.c 6 (.int .i64 o3),⟨fun v wz=>(fun v w'=>Blk w' (gs + 1) 64 #[.slice R8 n8 c8]) v wz,by rintro v a b hx h; exact hx.2.2 h⟩,.c 8 (.int .i64 o2),.c 9 (.int .i64 o3),.none]
          [fun v w1 w'=>v 10 = .int .i64 0 /\ w1 = w'] (by kernel_rfl) rfl (by kernel_rfl) ⟨?g0,?g1,?g2,?g3,?g4,?g5,?g6,?g7,?g8,?g9,?g10,trivial⟩ ?post
         case g0=>
          intro v w1 hx;replace hx:(X6e (gs + 1) 64 #[.slice R8 n8 c8]) _ w1:=hx;intro bb hbb;intro K hK;have o1:bb.eval (.tmp 13) = .pointer (some ⟨gz,0,none⟩):=by rw [hbb]; dsimp only; (try simp (discharger:=decide) only [eval_put_ne]); rfl
          exact Q0x (.tmp 13) _ rfl Tryz.X8g Tryz.Q7e o1 ((hdr.trans hx).blk KZ2.out HNZ.out) rfl (hK _ _ (Ext.refl w1) rfl)
         case g1 | g4=>
          intro v w1 hx;replace hx:(X6e (gs + 1) 64 #[.slice R8 n8 c8]) _ w1:=hx;intro bb hbb;subst hbb;refine ⟨_,fun w=>?_,rfl⟩;go_simp
         case g2 | g5=>
          intro v w1 hx;(repeat intro (zq:v _ = _));replace hx:(X6e (gs + 1) 64 #[.slice R8 n8 c8]) _ w1:=hx;intro bb hbb;subst hbb;refine ⟨_,fun w=>?_,rfl⟩;go_simp
         case g3=>
          intro v w1 hx;(repeat intro (zq:v _ = _));replace hx:(X6e (gs + 1) 64 #[.slice R8 n8 c8]) _ w1:=hx;intro bb hbb;subst hbb;have n0:w1.cell? ⟨gb,1,none⟩ = some (.int .i64 o2):=((hdr.trans hx).blk KB2.out HNB.out).cell 1;intro K hK;go_simp;exact hK _ _ (Ext.refl w1) rfl
         case g6=>
          intro v w1 hx;(repeat intro (zq:v _ = _));replace hx:(X6e (gs + 1) 64 #[.slice R8 n8 c8]) _ w1:=hx;intro bb hbb;subst hbb;have n0:w1.cell? ⟨gb,2,none⟩ = some (.int .i64 o3):=((hdr.trans hx).blk KB2.out HNB.out).cell 2;intro K hK;go_simp;exact hK _ _ (Ext.refl w1) rfl
         case g7=>
          intro v w1 hx;(repeat intro (zq:v _ = _));replace hx:Ext _ w1:=hx;intro bb hbb;intro K hK;have o1:bb.eval (.tmp 4) = .pointer (some ⟨gs + 1,0,none⟩):=by rw [hbb]; dsimp only; (try simp (discharger:=decide) only [eval_put_ne]); rfl
          have o2:bb.eval (.tmp 81) = .agg #[.slice R8 n8 c8]:=by rw [hbb]; dsimp only; (try simp (discharger:=decide) only [eval_put_ne]); rw [Q0a (by exact (by decide:81 < 88))]; assumption
          exact Q1y (.tmp 4) (.tmp 81) _ rfl Tryz.Q7e o1 o2 (KP2.out.ext ((Ext.refl wy).drew.trans hx)) rfl rfl Y5i (fun vv w' hb hl ho=>hK _ _ (show X6e _ _ _ _ _ from ⟨fun n hn _=>hl n hn,fun k _ hk=>ho k hk,fun _=>hb⟩) hb)
         case g8=>
          intro v w1 hx (q0:v 0 = _) (q1:v 1 = _) (q2:v 2 = _) (q3:v 3 = _) _;replace hx:(X6e (gs + 1) 64 #[.slice R8 n8 c8]) _ w1:=hx;intro bb hbb;subst hbb;refine ⟨_,fun w=>?_,rfl⟩;go_simp
         case g9=>
          intro v w1 hx (q0:v 0 = _) (q1:v 1 = _) (q2:v 2 = _) (q3:v 3 = _) (q4:v 4 = _) (q5:v 5 = _) (q6:v 6 = _) _ (q8:v 8 = _);replace hx:(X6e (gs + 1) 64 #[.slice R8 n8 c8]) _ w1:=hx;intro bb hbb;subst hbb;refine ⟨_,fun w=>?_,rfl⟩;go_simp
         case g10=>
          intro v w1 hx (q0:v 0 = _) (q1:v 1 = _) (q2:v 2 = _) (q3:v 3 = _) (q4:v 4 = _) (q5:v 5 = _) (q6:v 6 = _) _ (q8:v 8 = _) (q9:v 9 = _);intro wl hT;obtain rfl:wl = w1:=hT;intro bb hbb;subst hbb;intro K hK;go_simp;exact hK _ _ ⟨rfl,rfl⟩
         case post =>
          intro v w1 hx;(iterate 7 intro (zq:v _ = _));intro (q7:(fun v w'=>Blk w' (gs + 1) 64 #[.slice R8 n8 c8]) v w1) (q8:v 8 = _) (q9:v 9 = _);intro w2 hE;replace hE:(fun v w1 w'=>v 10 = .int .i64 0 /\ w1 = w') v w1 w2:=hE;simp only [Flow.acts,Act.put];go_simp;obtain ⟨h10,hE⟩:=hE;subst hE
          try rw [h10]
          try clear h10
          replace q7:Blk w1 (gs + 1) 64 #[.slice R8 n8 c8]:=q7;have hrel:=hdr.trans hx;have HU9:=Lib.hid (Z7e HU2.out KP2.out hrel.2.1);have HX9:Hid (Ext w w1):=Lib.hid (Below.trans HX2.out (hrel.1 _ (by have:=HGS.out; omega) HX2.out.size))
          clear hx hdr hrel;(repeat clear zq);go_wp2;refine bodyPost_ret (X0i Tryz.results25 rfl q7 Tryz.X8g Tryz.Q7e rfl rfl rfl) rfl ?_;exact ⟨⟨_,by rw [HB.out.1]; simp only [HO23.out.1,HO23.out.2]; rfl,by rw [HB.out.2]; exact HU9.out⟩,HX9.out⟩
 . have hne:(F != 0) = true:=by simp [hf]
   have kP:=K1.out.ext HXR.out |>.ext (Ext.box w5 (.cells #[.int .i64 E,.int .i64 R] 34))
   have HBN:Hid (Y1m s need = (0,0,F) /\ Z7y s need = []):=Lib.hid ⟨by unfold Y1m; rw [HFV.out,if_pos hf],by unfold Z7y; rw [HFV.out,if_pos hf]⟩
   go_wp2_with (first | (go_at_call 45; refine HFI.out.mono ?_; rintro e w7 ⟨rfl,rfl⟩) | (refine Q0t rfl _ _ _ rfl Tryz.Q7e rfl rfl kP rfl rfl Y5i ?_; intro w9 hb9 hl9 ho9))
   refine bodyPost_ret (X0i Tryz.results25 rfl hb9 Tryz.X8g Tryz.Q7e rfl rfl rfl) rfl ?_;exact ⟨⟨_,by rw [HBN.out.1]; rfl,by rw [HBN.out.2]; exact Go.Tw.Rows.nil _ _ _⟩,Below.trans (HXW.out.trans (HXR.out.trans (Ext.box w5 (.cells #[.int .i64 E,.int .i64 R] 34)))) (hl9 _ (by have:=HGS.out; omega))⟩
end Go.Proofs
namespace Go.Proofs
open Go.RowKit Go.Tw Go.Flow
attribute [local go_sem] Oper.semAt_some
def Z8s (w:World) (ll:List (List Int)) (cl:Bool) (rs:List (Value × Bool)):Prop:=∀ j (h1:j < rs.length) (h2:j < ll.length),Q0e w rs[j].1 ll[j] /\ rs[j].2 = cl
theorem Z8s.snoc {w:World} {ll:List (List Int)} {cl:Bool} {rs:List (Value × Bool)} {k:Nat} (h:Z8s w ll cl rs) (hk:rs.length = k) {v:Value} {q:Bool} (hlt:k < ll.length) (hv:Q0e w v ll[k]) (hq:cl = q):Z8s w ll cl (rs ++ [(v,q)]):=fun j h1 h2=>by
 by_cases hj:j < rs.length
 . rw [List.getElem_append_left hj]; exact h j hj h2
 . rw [List.length_append,List.length_singleton] at h1
   have:j = k:=by omega
   subst this;rw [List.getElem_append_right (by omega)]
   simp only [hk,Nat.sub_self,List.getElem_cons_zero];exact ⟨hv,hq.symm⟩
end Go.Proofs
namespace Go.Proofs
open Go.RowKit Go.Tw Go.Flow
attribute [local go_sem] Oper.semAt_some
def J6q (w:World) (qs:List (Value × Rul)) (k:Nat):Prop:=∀ j (h:j < qs.length),j < k -> Q0i w 0 3 (.int .i64) qs[j].1 qs[j].2.classes
theorem J6q.set {w:World} {qs:List (Value × Rul)} {k:Nat} {u:Value} {r:Rul} (h:J6q w qs k) (hu:Q0i w 0 3 (.int .i64) u r.classes):J6q w (qs.set k (u,r)) (k + 1):=by
 intro j hj hk;rw [List.length_set] at hj
 by_cases e:k = j
 . subst e
   rw [List.getElem_set_self]; exact hu
 . rw [List.getElem_set_ne e]
   exact h j hj (by omega)
end Go.Proofs
namespace Go.Proofs
open Go.RowKit Go.Tw Go.Flow
attribute [local go_sem] Oper.semAt_some
theorem Z2r (w:World) (gS gM k:Nat) (a b:Value) (s:Q0b) (m0 m1 m3 m4 mc:Value) (cl:List Int) (hS:Blk w gS 74 #[.int .i64 s.limit,a,b]) (hs:Q2e w a b s) (hM:Blk w gM 90 #[m0,m1,mc,m3,m4]) (hc:Q0e w mc cl) (hk:k < s.members.length) :
    Calls Tryz.prog 118 #[.int .i64 (k:Int),.pointer (some ⟨gS,0,none⟩),.pointer (some ⟨gM,0,none⟩)] w fun e w'=>e = .returned (.bool (decide (Q0d s.members k = cl))) /\ Ext w w':=by
 obtain ⟨B,capb,rfl,-,-,-⟩:=hs.members.opened;obtain ⟨bm,off,capx,capy,capz,X,Y,Z,hme⟩:=Q4r hs.members hk;have hA:=hme.addr;subst hA;have HE2:=Lib.hid hme.e2;have HEQ:=Lib.hid (fun (w1:World) (hx:Ext w w1)=>Z7c w1 _ _ _ cl (hme.x.ext hx) (hc.ext hx));obtain ⟨lc,hlc⟩:∃ x,(Q0d s.members k).length = x:=⟨_,rfl⟩;rw [hlc] at HE2 HEQ;obtain ⟨q,hq⟩:∃ q,decide (Q0d s.members k = cl) = q:=⟨_,rfl⟩;rw [hq] at HEQ ⊢;have HSB:=Lib.hid hS;have HMB:=Lib.hid hM;have hkI:(k:Int) < s.members.length:=by omega
 obtain ⟨M,hMl⟩:∃ M,s.members.length = M:=⟨_,rfl⟩;rw [hMl] at HSB hkI hk;have hdr:=(Ext.refl w).drew;clear hme hlc hq hS hM hs hc hMl;go_enter Tryz.func118,Tryz.ntmps118;go_wp2_with fail;refine Flow.Q1q [.p,.w,.p,.p,.p,.w,.p,.w,.w,.p] [0,1,2,3,4,5,6,7,8,9] [[],[0],[],[1,2],[3],[4],[],[6],[5,7],[0,1,2,3,4,5,6,7,8]]
  [.c 0 (.pointer (some ⟨gS,2,none⟩)),.c 1 (.slice (some ⟨bm,off,none⟩) M capb),.c 2 (.int .i64 (k:Int)),.c 3 (.pointer (some ⟨bm,off + k * 5,none⟩)),.c 4 (.pointer (some ⟨bm,off + k * 5 + 2,none⟩)),.c 5 (.slice X lc capx),.c 6 (.pointer (some ⟨gM,2,none⟩)),.c 7 (mc),.c 8 (.bool q),.c 9 (.bool q)]
  (by kernel_rfl) rfl (by kernel_rfl) ⟨?g0,?g1,?g2,?g3,?g4,?g5,?g6,?g7,?g8,?g9,trivial⟩ ?post
 case g0 | g2 | g6=>
  intro v w1 hx;intro bb hbb;subst hbb;refine ⟨_,fun w=>?_,rfl⟩;go_simp
 case g1 | g5 | g7=>
  intro v w1 hx;(repeat intro (zq:v _ = _));intro bb hbb;subst hbb;have n0:w1.cell? ⟨gS,2,none⟩ = some (.slice (some ⟨bm,off,none⟩) M capb):=(HSB.out.ext (hdr.trans hx)).cell 2;have n1:w1.cell? ⟨bm,off + k * 5 + 2,none⟩ = some (.slice X lc capx):=(hdr.trans hx).cell HE2.out;have n2:w1.cell? ⟨gM,2,none⟩ = some mc:=(HMB.out.ext (hdr.trans hx)).cell 2;intro K hK;go_simp;exact hK _ _ (Ext.refl _) rfl
 case g3 | g4 | g9=>
  intro v w1 hx;(repeat intro (zq:v _ = _));intro bb hbb;subst hbb;refine ⟨_,fun w=>?_,rfl⟩;go_simp
 case g8=>
  intro v w1 hx;(repeat intro (zq:v _ = _));intro bb hbb;subst hbb;intro K hK;go_simp;refine Q0f (HEQ.out w1 (hdr.trans hx)) ?_;rintro e w2 ⟨rfl,hx2⟩;exact ⟨_,rfl,hK _ _ hx2 rfl⟩
 case post =>
  intro v w1 hx;(iterate 10 intro (zq:v _ = _));simp only [Flow.All,Flow.acts,Act.put];go_simp;have HX:=Lib.hid (hdr.trans hx);clear hx hdr;(repeat clear zq);go_wp2;go_ret;exact ⟨rfl,HX.out⟩
end Go.Proofs
namespace Go.Flow
open Go.RowKit Go.Tw
def J8a (D:Nat):Deferred:={ target:=.collected D,args:=#[] }
def marks (l:List Nat):List Deferred:=l.map J8a
structure Marked (W:World) (l:List Nat):Prop where
 nd:l.Nodup
 all:∀ D,D ∈ l -> W.heap[D]? = some (.deferred (some []))
theorem Marked.nil (W:World):Marked W []:=⟨List.nodup_nil,fun D h=>by cases h⟩
theorem Marked.lt {W:World} {l:List Nat} (h:Marked W l) {D:Nat} (hD:D ∈ l):D < W.heap.size:=(Array.getElem?_eq_some_iff.1 (h.all D hD)).1
theorem Marked.ext {W W':World} {l:List Nat} (h:Marked W l) (hx:Ext W W'):Marked W' l:=⟨h.nd,fun D hD=>by rw [Below.block hx _ (h.lt hD)]; exact h.all D hD⟩
theorem Marked.keeps {W W':World} {l:List Nat} (h:Marked W l) (hx:KeepsOthers W W'):Marked W' l:=⟨h.nd,fun D hD=>hx.same _ _ (h.all D hD) rfl⟩
theorem Marked.turns {B:Nat} {W W':World} {l:List Nat} (h:Marked W l) (hB:∀ D,D ∈ l -> D < B) (hx:Turns B W W'):Marked W' l:=⟨h.nd,fun D hD=>by rw [hx.same (hB D hD)]; exact h.all D hD⟩
theorem Marked.cons {W:World} {l:List Nat} {D:Nat} (h:Marked W l) (hD:W.heap[D]? = some (.deferred (some []))) (hn:∀ E,E ∈ l -> E < D):Marked W (D :: l):=by
 refine ⟨List.nodup_cons.2 ⟨fun hm=>Nat.lt_irrefl _ (hn D hm),h.nd⟩,fun E hE=>?_⟩
 rcases List.mem_cons.1 hE with rfl | hE
 . exact hD
 . exact h.all E hE
theorem X5r {F:Fence} {n:Nat} {P:Program} {fn:Func} {tmps:Array Value} {R:Ending -> World -> Prop} {n0:Nat} (J:World -> Prop) (hJ:∀ A B,J A -> Turns n0 A B -> J B)
    (hR:∀ W,J W -> ∃ v,(results fn tmps).run P W = .ok v W /\ R (.returned v) W) :
    ∀ (l:List Nat) (W:World),Marked W l -> (∀ D,D ∈ l -> n0 <= D) -> J W -> LeavesInM F n P fn tmps R (marks l) .returning W
 | [],W,_,_,h=>hR W h
 | D :: l,W,hm,hn,h=>by
   have hD:=hm.all D (List.mem_cons_self ..);have hlt:=hm.lt (List.mem_cons_self ..);refine ⟨by simp,.inl ⟨D,_,rfl,run_takeDeferred hD,X5r J hJ hR l _ ⟨(List.nodup_cons.1 hm.nd).2,fun E hE=>?_⟩ (fun E hE=>hn E (List.mem_cons_of_mem _ hE)) (hJ _ _ h ⟨D,_,_,hn D (List.mem_cons_self ..),hD,rfl,rfl⟩)⟩⟩
   have hne:E ≠ D:=fun e=>(List.nodup_cons.1 hm.nd).1 (e ▸ hE);rw [World.putObj_heap_other hne];exact hm.all E (List.mem_cons_of_mem _ hE)
theorem Z2s {F:Fence} {n:Nat} {P:Program} {Q:Exit -> Act -> World -> Prop} {a:Act} {w:World} {c:Code} (j N k0:Nat) (I:Nat -> Act -> World -> Prop)
    (hj:∀ k a w,I k a w -> intOf (a.tmps.getD j undef) = (k:Int)) (h0:I k0 a w)
    (round:∀ k a w,I k a w -> ∀ K:Act -> World -> Prop,(∀ a' w',k < N -> I (k + 1) a' w' -> K a' w') -> c.wpIn F n P (Exit.then K Q) a w):(Code.loop c).wpIn F n P Q a w:=by
 refine wpIn_loop (fun a w=>∃ k,I k a w) (fun a _=>N - (intOf (a.tmps.getD j undef)).toNat) ⟨k0,h0⟩ ?_;rintro a w ⟨k,hk⟩;refine round k a w hk _ fun a' w' hlt h'=>⟨⟨k + 1,h'⟩,?_⟩;rw [hj _ _ _ h',hj _ _ _ hk];omega
def X8d (A:Array Value) (js:List Nat) (u:Nat -> Value):Array Value:=js.foldl (fun A j=>A.setIfInBounds j (u j)) A
theorem Z2q {F:Fence} {n:Nat} {P:Program} {Q:Exit -> Act -> World -> Prop} {tmps:Array Value} {ds0:List Deferred} {w:World} {c:Code} (j N k0:Nat) (js:List Nat) (Ds0:List Nat) (R:Nat -> Act -> List Nat -> World -> Prop)
    (hj:∀ k a Ds w,R k a Ds w -> intOf (a.tmps.getD j undef) = (k:Int)) (hds:ds0 = marks Ds0) (hself:X8d tmps js (fun i=>tmps.getD i undef) = tmps) (h0:R k0 ⟨tmps,ds0⟩ Ds0 w)
    (round:∀ k u Ds w,R k ⟨X8d tmps js u,marks Ds⟩ Ds w -> ∀ K:Act -> World -> Prop,
     (∀ a' w' Ds',k < N -> a'.tmps = X8d tmps js (fun i=>a'.tmps.getD i undef) -> a'.defers = marks Ds' -> R (k + 1) a' Ds' w' -> K a' w') -> c.wpIn F n P (Exit.then K Q) ⟨X8d tmps js u,marks Ds⟩ w) :
    (Code.loop c).wpIn F n P Q ⟨tmps,ds0⟩ w:=by
 refine Z2s j N k0 (fun k a w=>∃ Ds,a = ⟨X8d tmps js (fun i=>a.tmps.getD i undef),marks Ds⟩ /\ R k a Ds w) (fun k a w ⟨Ds,_,h⟩=>hj k a Ds w h) ⟨Ds0,by rw [hself,hds],h0⟩ ?_
 rintro k a w ⟨Ds,ha,hR⟩ K hK;have key:∀ u,a = ⟨X8d tmps js u,marks Ds⟩ -> c.wpIn F n P (Exit.then K Q) a w:=by
  rintro u rfl;refine round k u Ds w hR K fun a' w' Ds' hlt h1 h2 h3=>hK a' w' hlt ⟨Ds',?_,h3⟩;rw [<- h1,<- h2]
 exact key _ ha
end Go.Flow
namespace Go.Proofs
open Go.RowKit Go.Tw Go.Flow
attribute [local go_sem] Oper.semAt_some
def Z7r (q:Value × Grp):List Value:=[q.1,.int .i64 q.2.weight]
theorem Z9o (q:Value × Grp):(Z7r q).length = 2:=rfl
def GrR (w:World) (gl:List (Value × Grp)):Prop:=∀ q ∈ gl,Q0i w 0 3 (.int .i64) q.1 q.2.members
theorem GrR.nil (w:World):GrR w []:=fun _ hq=>by simp at hq
theorem GrR.ext {w w':World} {gl:List (Value × Grp)} (h:GrR w gl) (hx:Ext w w'):GrR w' gl:=fun q hq=>(h q hq).below hx
theorem GrR.snoc {w:World} {gl:List (Value × Grp)} {q:Value × Grp} (h:GrR w gl) (hq:Q0i w 0 3 (.int .i64) q.1 q.2.members):GrR w (gl ++ [q]):=fun z hz=>by
 rcases List.mem_append.1 hz with hz | hz
 . exact h z hz
 . rw [List.mem_singleton.1 hz]; exact hq
def X7z (s:Q0b) (i:Nat):List Int:=(Q8e s i).map Int.ofNat
def Z0x (s:Q0b) (i:Nat):Grp:=⟨X7z s i,X3a s (Q8e s i)⟩
def Q5w (s:Q0b) (k:Nat):List Grp:=(X4c (Y8e s) k).map (Z0x s)
theorem Z5z (s:Q0b):Q5w s s.members.length = Q4q s:=by rw [X5h]; rfl
theorem Z5t {s:Q0b} {k:Nat} (h:Z6b (Y8e s) k = true):Q5w s (k + 1) = Q5w s k ++ [Z0x s k]:=by
 unfold Q5w; rw [X1o,if_pos h,List.map_append]; rfl
theorem Z7x {s:Q0b} {k:Nat} (h:Z6b (Y8e s) k = false):Q5w s (k + 1) = Q5w s k:=by
 unfold Q5w; rw [X1o,if_neg (by simp [h]),List.append_nil]
def X7g (s:Q0b) (j i:Nat):List Int:=(Q5u (Y8e s) j i).map Int.ofNat
theorem Y3m (s:Q0b) (j i:Nat):X7g s (j + 1) i = X7g s j i ++ if decide (Q0d s.members j = Q0d s.members i) then [(j:Int)] else []:=by
 unfold X7g;rw [X8e,List.map_append]
 by_cases h:Q0d s.members j = Q0d s.members i
 . rw [if_pos (by simpa [Y8e] using h),if_pos (by simpa using h)]; rfl
 . rw [if_neg (by simpa [Y8e] using h),if_neg (by simpa using h)]; rfl
theorem X9u (s:Q0b) (i:Nat):∀ j,(X7g s j i).length <= j
 | 0=>by simp [X7g,Q5u]
 | j + 1=>by
   have h:=X9u s i j;rw [Y3m,List.length_append]
   split <;> simp <;> omega
def Y1q (s:Q0b) (l:List Nat) (c j:Nat):Int:=((l.take j).map fun k=>if (Q1k s k).keeps s.limit (Q7q c s.ships.length) then Q0h s.members k else 0).sum
theorem Y2k {s:Q0b} {l:List Nat} {c j:Nat} (hj:j < l.length):Y1q s l c (j + 1) = Y1q s l c j + if (Q1k s l[j]).keeps s.limit (Q7q c s.ships.length) then Q0h s.members l[j] else 0:=by
 unfold Y1q;rw [List.take_succ_eq_append_getElem hj,List.map_append,List.sum_append]; simp
theorem Y8b (s:Q0b) (l:List Nat) (c:Nat):Y1q s l c l.length = Q9b s l c:=by unfold Y1q Q9b; rw [List.take_length]
theorem Y5j {s:Q0b} (hv:Q0m s) {l:List Nat} (hl:∀ k ∈ l,k < s.members.length) (c:Nat):∀ j,j <= l.length -> 0 <= Y1q s l c j /\ Y1q s l c j <= 1000 * j
 | 0,_=>by simp [Y1q]
 | j + 1,h=>by
   have ih:=Y5j hv hl c j (by omega)
   have hw:=hv.weights l[j] (hl _ (List.getElem_mem (by omega)))
   rw [Y2k (by omega)]
   split <;> omega
def J1p (s:Q0b) (l:List Nat) (j:Nat):Int:=(List.range j).foldl (fun m n=>max m (Q9b s l n)) 0
theorem Y8i (s:Q0b) (l:List Nat) (j:Nat):J1p s l (j + 1) = max (J1p s l j) (Q9b s l j):=by
 unfold J1p; rw [List.range_succ,List.foldl_append]; rfl
theorem Z3i {s:Q0b} (hv:Q0m s) {l:List Nat} (hl:∀ k ∈ l,k < s.members.length) (h8:l.length <= 8):∀ j,0 <= J1p s l j /\ J1p s l j <= 8000
 | 0=>by simp [J1p]
 | j + 1=>by
   have ih:=Z3i hv hl h8 j;have h:=Y5j hv hl j l.length (Nat.le_refl _);rw [Y8b] at h;rw [Y8i];omega
theorem X0r (f:Nat -> List Int):∀ k,(X4c f k).length <= k
 | 0=>by simp [X4c]
 | k + 1=>by
   have:=X0r f k;rw [X1o,List.length_append]
   split <;> simp <;> omega
theorem J6a {s:Q0b} (hv:Q0m s) (k:Nat):0 <= ((Q5w s k).map Grp.weight).sum /\ ((Q5w s k).map Grp.weight).sum <= 8000 * k:=by
 have hl:∀ i,0 <= (Z0x s i).weight /\ (Z0x s i).weight <= 8000:=fun i=>by
  have hm:∀ x ∈ Q8e s i,x < s.members.length:=fun x hx=>List.mem_range.1 (List.mem_filter.1 hx).1;have h8:(Q8e s i).length <= 8:=by
   have h1:(Q8e s i).length <= (List.range s.members.length).length:=List.length_filter_le ..;rw [List.length_range] at h1;have:=hv.some; omega
  exact Z3i hv hm h8 _
 have key:∀ l:List Nat,0 <= ((l.map (Z0x s)).map Grp.weight).sum /\ ((l.map (Z0x s)).map Grp.weight).sum <= 8000 * l.length:=by
  intro l
  induction l with
  | nil=>simp
  | cons x l ih =>
    have:=hl x;simp only [List.map_cons,List.sum_cons,List.length_cons];omega
 have h1:=key (X4c (Y8e s) k);have h2:=X0r (Y8e s) k;unfold Q5w;omega
end Go.Proofs
namespace Go.Proofs
open Go.RowKit Go.Tw Go.Flow
attribute [local go_sem] Oper.semAt_some
theorem Z0u.bools {w:World} {x:Value} {o:Option (List Bool)} (h:Z0u w x o) (hl:∀ b,o = some b -> b.length <= 4096):Q2k w x (o.getD []):=by
 cases o with
 | none =>
   have h':x = .slice none 0 0:=h;subst h';exact Z7j w
 | some b =>
   have:=hl b rfl;exact Q0i.bools h (show b.length <= 17592186043904 by omega)
end Go.Proofs
namespace Go.Proofs
open Go.RowKit Go.Tw Go.Flow
attribute [local go_sem] Oper.semAt_some
def J5s (w:World) (x:Value) (o:Option (List Bool)):Prop:=match o with
 | none=>x = .slice none 0 0
 | some b=>Q2k w x b
theorem J5s.ext {w w':World} {x:Value} {o:Option (List Bool)} (h:J5s w x o) (hx:Ext w w'):J5s w' x o:=by
 cases o with
 | none=>exact h
 | some b=>exact Q2k.ext h hx
end Go.Proofs
namespace Go.Proofs
open Go.RowKit Go.Tw Go.Flow
attribute [local go_sem] Oper.semAt_some
theorem J0q {w:World} {o:Oper} {a:Act} (x:Operand) (hop:o.op = .move x) {u:Value} (h:a.eval x = u):(execOp a.eval o).run Tryz.prog w = .ok (.value u) w:=by
 unfold execOp;simp only [hop,h,Sem.run_pure]
theorem X8i {w:World} {o:Oper} {a:Act} (x:Operand) (hop:o.op = .assign x) {u:Value} (h:a.eval x = u):(execOp a.eval o).run Tryz.prog w = .ok (.value u) w:=by
 unfold execOp;simp only [hop,h,Sem.run_pure]
end Go.Proofs
namespace Go.Proofs
open Go.RowKit Go.Tw Go.Flow
theorem J7m.rules {s:Q0b} {p:List Rul} {n:Nat} {w w':World} {x:Value} (hS:Q0m s) (hp:Q4l s.hist p = 0) (h:J7m 66 w w' x (Y8d p n)):Q6d w' x (Y8d p n):=by
 have hf:=Q3h.1 (Z6s (n:=n) hp);refine h.is (by have:=J6l hS hp; rw [J2v]; omega) fun r hr=>?_
 have hm:r.classes ∈ s.hist:=by rw [<- hf]; exact List.mem_map_of_mem hr
 have:=Y0b hS _ hm;omega
end Go.Proofs
