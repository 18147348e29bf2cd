/- Part of the proof of a law. -/
import Derived.Test.YthnobngcipaljaaGreatDoorPk07
import Derived.Scope
import Derived.WalkMore
set_option maxRecDepth 1000000
set_option maxHeartbeats 64000000
set_option linter.unusedVariables false
set_option linter.unusedSimpArgs false
set_option linter.constructorNameAsVariable false
open Go.Lib (hid)
namespace Go.Proofs
open Go.RowKit Go.Tw Go.Flow Tryz
attribute [local go_sem] Oper.semAt_some
theorem fzg08 {u:Type} {a b:u} (h:a=b:=by rw [hbb]; dsimp only; (try simp (discharger:=decide) only [Flow.eval_put_ne]); rw [Flow.Q0a (by (try simp only [Flow.size_put]); exact of_decide_eq_true rfl)]; try assumption):a=b:=h
theorem fze08 {u:Type} {a b:u} (h:a=b:=by rw [hbb]; dsimp only; (try simp (discharger:=decide) only [Flow.eval_put_ne]); rfl):a=b:=h
def Q6t (s:Q0b) (p:List Rul) (n:Int):Int:=Q0o [Q1k s p,Q0s (Q7f s n) 10]
theorem Y3p {s:Q0b} {p:List Rul} {n:Int} (h:Q6t s p n=0):Q0r s /\ Q0x s.hist p=0 /\ 0 <= n /\ n < s.members.length:=by
 obtain ⟨h1,h2⟩:=Q2c h;obtain ⟨h3,h4⟩:=Q4z h1;refine ⟨h3,h4,?_⟩;unfold Q7f Q0s at h2
 by_cases h0:n < 0 <;> by_cases h1:(s.members.length:Int) <= n <;> simp [h0,h1] at h2 ⊢ <;> omega
def Y6s (s:Q0b) (p:List Rul) (n:Int):List Bool:=if Q6t s p n=0 then Q0h p (Q0c s.members n.toNat) else []
def Y9m (s:Q0b) (p:List Rul) (n:Int):List Int:=if Q6t s p n=0 then (Q1g s n.toNat).Q2a (Q0h p (Q0c s.members n.toNat)) else []
theorem Y8t {a:World} {g i k n c m d:Nat} {T:TypeId} {A B:Option Addr} {u:Value} (hg:Blk a g T #[.slice A n c,.slice B m d]) (h:a.cell? ⟨i,k,none⟩=some u) (hu:∀ A n c,u ≠ .slice A n c):i ≠ g:=by
 rintro rfl;rw [hg.cell] at h
 rcases k with _ | _ | k
 . simp at h; exact hu _ _ _ h.symm
 . simp at h; exact hu _ _ _ h.symm
 . simp at h
theorem X1d {a b:World} {g n c m d:Nat} {T:TypeId} {A B:Option Addr} {v:Value} {l:List Int} (h:Q0g a v l) (hg:Blk a g T #[.slice A n c,.slice B m d]) (hk:∀ k,k < a.heap.size -> k ≠ g -> b.heap[k]?=a.heap[k]?):Q0g b v l:=by
 obtain ⟨f,⟨A',Qq,hv,hn,Kq,hc⟩,h2⟩:=h;refine ⟨f,⟨A',Qq,hv,hn,Kq,fun j hj=>?_⟩,h2⟩;obtain ⟨b',off,hA,Wq⟩:=hc j hj;have e:=h2 j (by omega)
 simp only [Nat.mul_one,Nat.add_zero] at e;exact ⟨b',off,hA,X4d Wq (Y8t hg Wq (by rw [e]; intro _ _ _ hh; cases hh)) hk⟩
theorem Z0m {a b:World} {g n c m d:Nat} {T:TypeId} {A B:Option Addr} {v:Value} {l:List Bool} (h:Q1v a v l) (hg:Blk a g T #[.slice A n c,.slice B m d]) (hk:∀ k,k < a.heap.size -> k ≠ g -> b.heap[k]?=a.heap[k]?):Q1v b v l:=by
 obtain ⟨f,⟨A',Qq,hv,hn,Kq,hc⟩,h2⟩:=h;refine ⟨f,⟨A',Qq,hv,hn,Kq,fun j hj=>?_⟩,h2⟩;obtain ⟨b',off,hA,Wq⟩:=hc j hj;have e:=h2 j (by omega)
 simp only [Nat.mul_one,Nat.add_zero] at e;exact ⟨b',off,hA,X4d Wq (Y8t hg Wq (by rw [e]; intro _ _ _ hh; cases hh)) hk⟩
theorem Tryz.J3l (w:World):(isAgg 96).run prog w=.ok true w:=by kernel_rfl
theorem Tryz.X1w (w:World):(sizeOf 96).run prog w=.ok 2 w:=by kernel_rfl
theorem Q8a {A B:Option Addr} {n c m d:Nat}:∀ u ∈ (#[Value.slice A n c,.slice B m d]:Array Value).toList,u.oneCell'=true:=by
 intro u hu;simp only [List.mem_cons,List.not_mem_nil,or_false] at hu
 rcases hu with rfl | rfl <;> rfl
def J2v (s:Q0b) (p:List Rul) (n:Int) (e:Ending) (w':World):Prop:=∃ x y,e=.returned (.tuple #[.agg #[x,y],.int .i64 (Q6t s p n)]) /\ Q1v w' x (Y6s s p n) /\ Q0g w' y (Y9m s p n)
theorem J0g (w:World) (v u:Value) (s:Q0b) (p:List Rul) (n:Int) (hv:Q0i w v s) (hu:Q0l w u p) (hs:Q2r s) (hp:p.length <= 1000) :
    Calls prog 57 #[v,u,.int .i64 n] w fun e w'=>J2v s p n e w' /\ Ext w w':=by
 obtain ⟨a,b,rfl,h2⟩:=hv;obtain ⟨rv,rfl,hr⟩:=hu;obtain ⟨A,Tq,rfl,-,-,-⟩:=h2.ships.opened;obtain ⟨B,Vq,rfl,-,-,-⟩:=h2.members.opened;obtain ⟨R,Fq,rfl,-,-,-⟩:=hr.opened;have H2:=hid h2;have HR:=hid hr;have HS:=hid hs;have Mw:Hid (∀ (W:World) (u:Value),Q0g W u [Q1k s p,Q0s (Q7f s n) 10] -> Calls prog 96 #[u] W fun e W'=>e=.returned (.int .i64 (Q6t s p n)) /\ W=W'):=hid (fun W u h=>first_any W u _ h);clear h2 hr hs;go_enter func57,ntmps57;go_upto_region 1 with fail;change Code.wp _ _ _ _ (((w.alloc (.cells #[.int .i64 s.limit,.slice A s.ships.length Tq,.slice B s.members.length Vq] 34)).alloc (.cells #[.slice R p.length Fq] 38)).alloc (.cells #[.slice none 0 0,.slice none 0 0] 96));obtain ⟨W,Mq,k0,k1,k2,Rq,eW⟩:=X0c w 34 #[.int .i64 s.limit,.slice A s.ships.length Tq,.slice B s.members.length Vq] 38 #[.slice R p.length Fq] 96 #[.slice none 0 0,.slice none 0 0];rw [Mq];clear Mq;have K0:=hid k0;have K1:=hid k1;have K2:=hid k2;clear k0 k1 k2;have Xq:=(Ext.refl W).drew;have Pz:Hid (∀ W',Ext W W' -> Q0i W' (.agg #[.int .i64 s.limit,.slice A s.ships.length Tq,.slice B s.members.length Vq]) s):=hid (fun W' hW=>⟨_,_,rfl,H2.out.ext (Rq.out.trans hW)⟩);have Wg:Hid (∀ W',Ext W W' -> Q0l W' (.agg #[.slice R p.length Fq]) p):=hid (fun W' hW=>⟨_,rfl,HR.out.ext (Rq.out.trans hW)⟩);refine Flow.Q1h [.w,.w,.w,.w,.p,.w,.w,.w,.p] [0,1,2,3,4,5,6,7,8] [[],[],[0,1],[],[],[2,3,4],[2,5],[5,6],[0,1,2,3,4,5,6,7]]
  [.c 0 (.agg #[.int .i64 s.limit,.slice A s.ships.length Tq,.slice B s.members.length Vq]),.c 1 (.agg #[.slice R p.length Fq]),.c 2 (.int .i64 (Q1k s p)),.c 3 (.agg #[.int .i64 s.limit,.slice A s.ships.length Tq,.slice B s.members.length Vq]),.c 4 (.int .i64 n),.c 5 (.int .i64 (Q0s (Q7f s n) 10)),⟨fun v wz=>(fun v w'=>Q0g w' (v 6) [Q1k s p,Q0s (Q7f s n) 10]) v wz,by intro v a b hx h; exact Q0g.ext h hx⟩,.c 7 (.int .i64 (Q6t s p n)),.c 8 (.int .i64 (Q6t s p n))]
  (by kernel_rfl) rfl (by kernel_rfl) ⟨?g0,?g1,?g2,?g3,?g4,?g5,?g6,?g7,?g8,trivial⟩ ?post
 case g0 | g3=>
  intro v w1 hx;intro bb hbb;intro K hK;have o1:bb.eval (.tmp 3)=.pointer (some ⟨w.heap.size,0,none⟩):=fze08
  exact Q0k (.tmp 3) _ rfl X7u Q8v o1 (K0.out.ext (Xq.trans hx)) rfl (hK _ _ (Ext.refl _) rfl)
 case g1=>
  intro v w1 hx;intro bb hbb;intro K hK;have o1:bb.eval (.tmp 4)=.pointer (some ⟨w.heap.size + 1,0,none⟩):=fze08
  exact Q0k (.tmp 4) _ rfl Q5z Q2w o1 (K1.out.ext (Xq.trans hx)) rfl (hK _ _ (Ext.refl _) rfl)
 case g2=>
  intro v w1 hx;(repeat intro (zq:v _=_));intro bb hbb;subst hbb;intro K hK;go_simp;refine Q0e (Q2g w1 _ _ s p (Pz.out w1 (Xq.trans hx)) (Wg.out w1 (Xq.trans hx)) HS.out hp) ?_;rintro e w2 ⟨rfl,Nq⟩;exact ⟨_,rfl,hK _ _ Nq rfl⟩
 case g4=>
  intro v w1 hx;intro bb hbb;subst hbb;refine ⟨_,fun w=>?_,rfl⟩;go_simp
 case g5=>
  intro v w1 hx;(repeat intro (zq:v _=_));intro bb hbb;subst hbb;intro K hK;go_simp;refine Q0e (Q4h w1 _ s n (Pz.out w1 (Xq.trans hx))) ?_;rintro e w2 ⟨rfl,Nq⟩;exact ⟨_,rfl,hK _ _ Nq rfl⟩
 case g6=>
  intro v w1 hx;(repeat intro (zq:v _=_));intro bb hbb;subst hbb;intro K hK;go_simp;exact hK _ _ (Ext.box _ _) (Q3d (l:=[Q1k s p,Q0s (Q7f s n) 10]) (by simp))
 case g7=>
  intro v w1 hx (q5:v 5=_) (q6:(fun v w'=>Q0g w' (v 6) [Q1k s p,Q0s (Q7f s n) 10]) v w1);intro bb hbb;subst hbb;intro K hK;go_simp;refine Q0e (Mw.out w1 _ q6) ?_;rintro e w2 ⟨rfl,rfl⟩;exact ⟨_,rfl,hK _ _ (Ext.refl _) rfl⟩
 case g8=>
  intro v w1 hx (q0:v 0=_) (q1:v 1=_) (q2:v 2=_) (q3:v 3=_) (q4:v 4=_) (q5:v 5=_) _ (q7:v 7=_);intro bb hbb;subst hbb;refine ⟨_,fun w=>?_,rfl⟩;go_simp
 case post =>
  intro v w1 hx;(iterate 6 intro (zq:v _=_));intro (q6:(fun v w'=>Q0g w' (v 6) [Q1k s p,Q0s (Q7f s n) 10]) v w1);(iterate 2 intro (zq:v _=_));simp only [Flow.All,Flow.acts,Act.put];go_simp;have vq:=hid (Rq.out.trans (Xq.trans hx));have Fx:=hid (K0.out.ext (Xq.trans hx));have vz:=hid (K1.out.ext (Xq.trans hx));have S2:=hid (K2.out.ext (Xq.trans hx));obtain ⟨w5,rfl⟩:∃ X,X=w1:=⟨_,rfl⟩;clear hx Xq q6;(repeat clear zq)
  by_cases he:Q6t s p n=0
  . obtain ⟨hV,Zz,Q5,Ty⟩:=Y3p he
    have h6:=hV.tides;have HF:Hid (Y6s s p n=Q0h p (Q0c s.members n.toNat) /\ Y9m s p n=(Q1g s n.toNat).Q2a (Q0h p (Q0c s.members n.toNat))):=hid ⟨if_pos he,if_pos he⟩;have hne:(Q6t s p n != 0)=false:=by simp [he]
    obtain ⟨i,rfl⟩:∃ i:Nat,n=(i:Int):=⟨n.toNat,by omega⟩
    have kz:i < s.members.length:=by omega
    rw [Int.toNat_natCast] at HF;have Vx:=hid he;have Vj:=X1t hV kz (n:=s.ships.length) (Nat.le_refl _);have hcl:(Q0h p (Q0c s.members i)).length=s.ships.length:=by rw [Q1l,(hV.shaped i kz).1]
    have Y0:=hid (Q7q w5 _ _ s p ⟨_,_,rfl,H2.out.ext vq.out⟩ ⟨_,rfl,HR.out.ext vq.out⟩ hV Zz);have Jj:=hid (fun (W:World) (v u:Value) (hv:X2i W v (Q1g s i)) (hu:Q1v W u (Q0h p (Q0c s.members i)))=>X0o W v u (Q1g s i) _ hv hu (by omega) (by rw [hcl]; exact Vj))
    have Wc:=hid (Q6b p kz);obtain ⟨E,hE⟩:∃ E,Q6t s p (i:Int)=E:=⟨_,rfl⟩;have Nz:=hid (hE.symm.trans he);have c0:=(Fx.out).cell 0;have c1:=(Fx.out).cell 1;have c2:=(Fx.out).cell 2;simp only [Go.Tw.gA,Go.Tw.gB,Go.Tw.gC] at c0 c1 c2;have d0:=(vz.out).cell 0;simp only [Go.Tw.gA,Go.Tw.gB] at d0;rw [hE] at hne ⊢;rw [Nz.out];clear hV Zz Q5 Ty he hE Vj hcl h6;go_wp2_with (go_at_call 109; refine Y0.out.mono ?_; rintro e w6 ⟨x6,rfl,h1,h2⟩; refine halted ?_);have bj:=hid h2;obtain ⟨Ab,cb,Z0,-,-,Sw⟩:=h1.opened;subst Z0;rw [Q3c] at Sw ⊢;obtain ⟨bu,ou,uk,hU,-,qv,xj⟩:=Sw i kz;subst hU;rw [Wc.out] at xj;obtain ⟨Uk,ck,hk,-,-,-⟩:=xj.opened;subst hk;have ly:=hid xj;obtain ⟨bm,off,Sq,Jq,Cq,X,Y,Z,rq⟩:=Q3e (H2.out.ext (vq.out.trans h2)).members kz;obtain rfl:=rq.addr;have Kg:=hid (rq.mem (Ext.refl w6));have e0:=rq.e0;have e1:=rq.e1;have e2:=rq.e2;have e3:=rq.e3;have e4:=rq.e4;have k6:=(Fx.out.ext h2).cell 2;simp only [Go.Tw.gA,Go.Tw.gB,Go.Tw.gC] at k6;have V0:(i:Int) < s.members.length:=by omega
    have fK:=S2.out.ext h2;have Vc:=hid (Jj.out w6 _ _ Kg.out ly.out);clear h1 h2 Sw xj rq c0 c1 c2 d0;unfold Q1o;go_wp2_with (go_at_call 127; refine Vc.out.mono ?_; rintro e w7 ⟨x7,rfl,h1,h2⟩; refine halted ?_);have mg:=hid h2;obtain ⟨R7,c7,oK,-,-,-⟩:=h1.opened;subst oK;have Uc:=hid h1;have lg:=fK.ext h2;clear h1 h2 fK e0 e1 e2 e3 e4 k6;unfold Q1o;go_wp2_with (with_reducible (refine Q5j ?_); refine Q0t rfl _ _ _ rfl X1w rfl rfl lg rfl rfl Q8a ?_; intro w9 Nj Wj cj);refine bodyPost_ret (Q2t results57 rfl Nj J3l X1w rfl) rfl ?_;exact ⟨⟨_,_,by rw [Vx.out]; rfl,by rw [HF.out.1]; exact Z0m (ly.out.ext mg.out) lg (fun k _ hk=>cj k hk),by rw [HF.out.2]; exact X1d Uc.out lg (fun k _ hk=>cj k hk)⟩,Below.trans (vq.out.trans (bj.out.trans mg.out)) (Wj _ (by omega))⟩
  . have HF:Hid (Y6s s p n=[] /\ Y9m s p n=[]):=hid ⟨if_neg he,if_neg he⟩
    have hne:(Q6t s p n != 0)=true:=by simp [he]
    obtain ⟨E,hE⟩:∃ E,Q6t s p n=E:=⟨_,rfl⟩;have Vx:=hid hE;have R6:=S2.out;rw [hE] at hne ⊢;clear he hE;go_wp2_with (with_reducible (refine Q5j ?_); refine Q0t rfl _ _ _ rfl X1w rfl rfl R6 rfl rfl Q8a ?_; intro w9 Nj Wj cj);refine bodyPost_ret (Q2t results57 rfl Nj J3l X1w rfl) rfl ?_;exact ⟨⟨_,_,by rw [Vx.out]; rfl,by rw [HF.out.1]; exact Go.Tw.Rows.nil _ _ _,by rw [HF.out.2]; exact Go.Tw.Rows.nil _ _ _⟩,Below.trans vq.out (Wj _ (by omega))⟩
theorem Z4x {w:World} {B:Nat} {T:TypeId} {v:Value} {vs:List Value} {i:Nat} (h:Q0q w B T idV v vs) (hi:i < vs.length):∃ g c,v=.slice (some ⟨g,0,none⟩) vs.length c /\ w.cell? ⟨g,i,none⟩=some (vs.getD i undef):=by
 rcases h.2 with ⟨_,hn⟩ | ⟨g,Qq,cur,hv,_,hg,hc,hm,hs,ht⟩
 . omega
 . refine ⟨g,Qq,hv,?_⟩
   have h1:=congrArg (fun l=>l[i]?) ht;simp only [Nat.mul_one,List.getElem?_take,hi,if_true] at h1;have h2:(vs.map idV)[i]?=some (vs.getD i undef):=by simp [idV,hi]
   rw [h2] at h1;simp only [World.cell?,hg]
   simpa using h1
theorem X6b {α:Type} {enc:α -> Value} {w w':World} {v:Value} {l:List α} {B g:Nat} {T S:TypeId} {cs:Array Value} (h:Q0q w B T enc v l) (hb:Blk w g S cs) (hT:S ≠ T) (ho:∀ k,k < w.heap.size -> k ≠ g -> w'.heap[k]?=w.heap[k]?):Q0q w' B T enc v l:=by
 obtain ⟨h1,h2⟩:=h;refine ⟨h1,?_⟩
 rcases h2 with h2 | ⟨g',Qq,cur,hv,hbb,Bj,r⟩
 . exact .inl h2
 . refine .inr ⟨g',Qq,cur,hv,hbb,?_,r⟩
   rw [ho g' (Array.getElem?_eq_some_iff.1 Bj).1 ?_]; exact Bj;rintro rfl;unfold Blk at hb;rw [hb] at Bj;injection Bj with Bj;injection Bj with _ h3 _;exact hT h3
theorem Y4i (w:World) (v u:Value) (s:Q0b) (p:List Rul) (hv:Q0i w v s) (hu:Q0l w u p) (hS:Q0r s) (hp:Q0x s.hist p=0) :
    Calls prog 109 #[v,u] w fun e w'=>∃ x vs,e=.returned x /\ Q0q w' 0 82 idV x vs /\ Q9m w' 4 .bool vs (Q3s s p) /\ Ext w w':=by
 have J8:=hid (X9q hS hp);have SZ:=hid (X7l hS hp);have iG:=hid (Y2r hS hp);have HS:=hid hS;obtain ⟨a,b,rfl,h2⟩:=hv;obtain ⟨rv,rfl,hr⟩:=hu;obtain ⟨A,Tq,rfl,-,-,-⟩:=h2.ships.opened;obtain ⟨M,Vq,rfl,-,-,-⟩:=h2.members.opened;have T0:=hid hr;obtain ⟨R,Fq,rfl,-,-,-⟩:=hr.opened;have H2:=hid h2;clear h2 hr hS hp;go_enter func109,ntmps109;go_upto_region 1 with fail;change Code.wp _ _ _ _ ((w.alloc (.cells #[.int .i64 s.limit,.slice A s.ships.length Tq,.slice M s.members.length Vq] 34)).alloc (.cells #[.slice R p.length Fq] 38));obtain ⟨W,Mq,k0,k1,Rq,eW⟩:=Q4p w 34 #[.int .i64 s.limit,.slice A s.ships.length Tq,.slice M s.members.length Vq] 38 #[.slice R p.length Fq];rw [Mq];clear Mq;have iy:=@run_makeMap prog;have T7:=Ext.box W (.map #[] 0);have yz:=Ext.box (W.alloc (.map #[] 0)) (.cells #[.map (some (w.heap.size + 1 + 1))] 245);have m0:=(Q5b.made W).ext yz;rw [eW] at m0;have kb:=Blk.made (W.alloc (.map #[] 0)) 245 #[.map (some (w.heap.size + 1 + 1))];have es:(W.alloc (.map #[] 0)).heap.size=W.heap.size + 1:=by simp
 have es2:((W.alloc (.map #[] 0)).alloc (.cells #[.map (some (w.heap.size + 1 + 1))] 245)).heap.size=W.heap.size + 1 + 1:=by simp
 rw [es,eW] at kb;rw [eW] at es2;have KS:=k0.ext (T7.trans yz);have KP:=k1.ext (T7.trans yz);have n1:=KP.cell 0;simp only [Go.Tw.gA,Go.Tw.gB] at n1;go_wp2;obtain ⟨V,hV⟩:∃ V,(W.alloc (.map #[] 0)).alloc (.cells #[.map (some (w.heap.size + 1 + 1))] 245)=V:=⟨_,rfl⟩;have RZ:Ext w V:=Rq.out.trans (by rw [<- hV]; exact T7.trans yz)
 rw [hV] at m0 kb KS KP es2 ⊢;obtain ⟨b,hb⟩:∃ b,w.heap.size + 1 + 1=b:=⟨_,rfl⟩;rw [hb] at m0 kb es2 ⊢;have Cz:w.heap.size < b:=by omega
 have VQ:w.heap.size + 1 < b:=by omega
 obtain ⟨gs,Rj⟩:∃ x,w.heap.size=x:=⟨_,rfl⟩;have rx:=hid Rj;rw [Rj] at KS KP Cz VQ ⊢;have R4:=hid KS;have yw:=hid RZ;have nJ:=hid m0;have UQ:=hid kb;have gG:=hid es2;clear T7 yz m0 kb es es2 KS KP n1 hV RZ hb eW Rq k0 k1 Rj iy
 go_loopw [12] (fun i wr=>∃ k:Nat,k <= p.length /\ i=.int .i64 k /\ Q5b wr b (Q5p p k) /\ Blk wr (b + 1) 245 #[.map (some b)] /\ Below b V wr) (fun i _=>p.length - (intOf i).toNat)
 case atStart=>exact ⟨0,Nat.zero_le _,rfl,nJ.out,UQ.out,Below.refl _ _⟩
 case round =>
  obtain ⟨k,hk,rfl,fw,Qz,ej⟩:=hrel;have N6:=hid fw;have zv:=hid Qz;have Qy:=hid ej
  by_cases Uq:k < p.length
  . obtain ⟨_,_,fG,_,_,hc⟩:=T0.out.opened
    cases fG;obtain ⟨br,orr,xr,rfl,Oy,Ej,aq,Wx⟩:=hc k Uq;have zg:br < b:=by have:=rx.out; omega
    have QZ:=(ej.cell (p:=⟨br,orr + k * 2,none⟩) zg).trans (yw.out.cell Ej);have Cv:=(ej.cell (p:=⟨br,orr + k * 2 + 1,none⟩) zg).trans (yw.out.cell aq);obtain ⟨Xr,cxr,rfl,-,-,-⟩:=Wx.opened;have Aw:Below w.heap.size w wr:=Below.trans yw.out (ej.mono (by have:=rx.out; omega))
    have G8:=hid (Wx.ext Aw);have PZ:=hid (SZ.out k Uq);have P6:Hid ((Q0m p k).length <= 4096):=hid (by have:=iG.out k Uq; omega)
    have Fj:Hid (Q5p p (k + 1)=Y7n (Q6j (Q0m p k)) (.bool (Q2h p k)) (Q5p p k)):=hid rfl;obtain ⟨lc,vj⟩:∃ x,Q0m p k=x:=⟨_,rfl⟩;obtain ⟨cb,Kj⟩:∃ x,Q2h p k=x:=⟨_,rfl⟩;obtain ⟨L,hL⟩:∃ x,Q5p p k=x:=⟨_,rfl⟩;rw [vj] at QZ G8 PZ P6 Fj;rw [Kj] at Cv Fj;rw [hL] at N6 Fj;have zj:(k:Int) < p.length:=by omega
    have hxb:=Ext.box wr (.cells #[.slice Xr lc.length cxr,.bool cb] 167);have kr:=Blk.made wr 167 #[.slice Xr lc.length cxr,.bool cb];have jq:=hid hxb;have TQ:b + 1 < wr.heap.size:=Qz.lt;clear hc Ej aq Wx Aw vj Kj hL fw Qz ej Oy zg hxb
    go_light
    go_wp2;obtain ⟨W5,Q4⟩:∃ X,wr.alloc (.cells #[.slice Xr lc.length cxr,.bool cb] 167)=X:=⟨_,rfl⟩;obtain ⟨g,hg⟩:∃ x,wr.heap.size=x:=⟨_,rfl⟩;rw [Q4] at jq kr ⊢;rw [hg] at kr TQ ⊢;have KR:=hid kr;have Xq:=(Ext.refl W5).drew;clear Q4 kr QZ Cv hg;refine Flow.Q3q [.w,.p,.w,.w,.p,.w,.last] [0,1,2,3,4,5,6] [[],[],[1],[1,2],[],[4],[0,1,2,3,4,5]] [6]
     [.c 0 (.map (some b)),.c 1 (.pointer (some ⟨g,0,none⟩)),.c 2 (.slice Xr lc.length cxr),.c 3 (.string (Q6j lc)),.c 4 (.pointer (some ⟨g,1,none⟩)),.c 5 (.bool cb),.none]
     [fun v w1 w'=>Q5b w' b (Y7n (Q6j lc) (.bool cb) L) /\ (∀ n,n <= b -> Below n w1 w') /\ w1.grownBy w' (some b)] (by kernel_rfl) rfl (by kernel_rfl) ⟨?g0,?g1,?g2,?g3,?g4,?g5,?g6,trivial⟩ ?post
    case g0=>
     intro v w1 hx;intro bb hbb;subst hbb;have n0:w1.cell? ⟨b + 1,0,none⟩=some (.map (some b)):=(zv.out.ext (jq.out.trans (Xq.trans hx))).cell 0;intro K hK;go_simp;exact hK _ _ (Ext.refl _) rfl
    case g1 | g4=>
     intro v w1 hx;intro bb hbb;subst hbb;refine ⟨_,fun w=>?_,rfl⟩;go_simp
    case g2 | g5=>
     intro v w1 hx;(repeat intro (zq:v _=_));intro bb hbb;subst hbb;have n0:w1.cell? ⟨g,0,none⟩=some (.slice Xr lc.length cxr):=(KR.out.ext (Xq.trans hx)).cell 0;have n1:w1.cell? ⟨g,1,none⟩=some (.bool cb):=(KR.out.ext (Xq.trans hx)).cell 1;intro K hK;go_simp;exact hK _ _ (Ext.refl _) rfl
    case g3=>
     intro v w1 hx;(repeat intro (zq:v _=_));intro bb hbb;subst hbb;intro K hK;go_simp;refine Q0e (X9b w1 _ lc (G8.out.ext (jq.out.trans (Xq.trans hx))) P6.out PZ.out) ?_;rintro e w2 ⟨rfl,Nq⟩;exact ⟨_,rfl,hK _ _ Nq rfl⟩
    case g6=>
     intro v w1 hx;(repeat intro (zq:v _=_));intro wl hT;obtain rfl:wl=w1:=hT;intro bb hbb;intro K hK;have o1:bb.eval (.tmp 16)=.map (some b):=fzg08
     have o2:bb.eval (.tmp 19)=.string (Q6j lc):=fzg08
     have o3:bb.eval (.tmp 21)=.bool cb:=fzg08
     obtain ⟨w2,Zv,V1,mz,Ny⟩:=Y0m (P:=prog) (N6.out.ext (jq.out.trans (Xq.trans hx))) Z7q J5c (Q6j lc) (.bool cb);exact Y9d (.tmp 16) (.tmp 19) (.tmp 21) rfl o1 o2 o3 Zv (fun vv=>hK _ _ ⟨V1,mz,Ny⟩)
    case post =>
     intro v w1 hx;(iterate 6 intro (zq:v _=_));intro w2 hE;replace hE:(fun v w1 w'=>Q5b w' b (Y7n (Q6j lc) (.bool cb) L) /\ (∀ n,n <= b -> Below n w1 w') /\ w1.grownBy w' (some b)) v w1 w2:=hE;simp only [Flow.acts,Act.put];go_simp;obtain ⟨V1,mz,Ny⟩:=hE;have Zq:=jq.out.trans (Xq.trans hx);have ew:=zv.out.ext Zq;have P4:Blk w2 (b + 1) 245 #[.map (some b)]:=by
      unfold Blk at ew ⊢;rw [Ny.block (b + 1) (Array.getElem?_eq_some_iff.1 ew).1 (by intro e; injection e with e; omega)]
      exact ew
     have O4:Below b V w2:=Below.trans Qy.out (Below.trans (Zq.mono (by have:=zv.out.lt; omega)) (mz b (Nat.le_refl _)))
     have Jz:=hid V1;have E2:=hid P4;have fy:=hid O4;clear hx Xq V1 mz Ny Zq ew P4 O4;(repeat clear zq);go_wp2;go_roundw
     case rel=>exact ⟨k + 1,by omega,by go_num,by rw [Fj.out]; exact Jz.out,E2.out,fy.out⟩
     case measure=>simp [intOf]; omega
  . have lj:k=p.length:=by omega
    subst lj;have ks:=R4.out.below ej Cz;have c2:=ks.cell 2;simp only [Go.Tw.gA,Go.Tw.gB,Go.Tw.gC] at c2;have Aw:Ext w wr:=Below.trans yw.out (ej.mono (by have:=rx.out; omega))
    have mJ:=hid (X1q wr _ s p (b + 1) b (H2.out.members.ext Aw) HS.out J8.out SZ.out (Qz.cell 0) fw);have OZ:=hid Aw;clear ks fw Qz ej Aw;go_wp2_with (go_at_call 167; refine mJ.out.mono ?_; rintro e w5 ⟨x,vs,rfl,aq,Nq,yq⟩; have kx:=hid aq; have N4:=hid Nq; have vq:=hid yq; clear aq Nq yq);go_ret;exact ⟨x,vs,rfl,Q0q.weaken kx.out (Nat.zero_le _),N4.out,OZ.out.trans vq.out⟩
def J9t (s:Q0b) (p:List Rul) (n:Int) (e:Ending) (w':World):Prop:=∃ x y,e=.returned (.tuple #[.agg #[x,y],.int .i64 (Q6t s p n)]) /\ Q0q w' 0 4 .bool x (Y6s s p n) /\ Q0g w' y (Y9m s p n)
theorem Z4t (w:World) (v u:Value) (s:Q0b) (p:List Rul) (n:Int) (hv:Q0i w v s) (hu:Q0l w u p) (hs:Q2r s) (hp:p.length <= 1000) :
    Calls prog 57 #[v,u,.int .i64 n] w fun e w'=>J9t s p n e w' /\ Ext w w':=by
 obtain ⟨a,b,rfl,h2⟩:=hv;obtain ⟨rv,rfl,hr⟩:=hu;obtain ⟨A,Tq,rfl,-,-,-⟩:=h2.ships.opened;obtain ⟨B,Vq,rfl,-,-,-⟩:=h2.members.opened;obtain ⟨R,Fq,rfl,-,-,-⟩:=hr.opened;have H2:=hid h2;have HR:=hid hr;have HS:=hid hs;have Mw:Hid (∀ (W:World) (u:Value),Q0g W u [Q1k s p,Q0s (Q7f s n) 10] -> Calls prog 96 #[u] W fun e W'=>e=.returned (.int .i64 (Q6t s p n)) /\ W=W'):=hid (fun W u h=>first_any W u _ h);clear h2 hr hs;go_enter func57,ntmps57;go_upto_region 1 with fail;change Code.wp _ _ _ _ (((w.alloc (.cells #[.int .i64 s.limit,.slice A s.ships.length Tq,.slice B s.members.length Vq] 34)).alloc (.cells #[.slice R p.length Fq] 38)).alloc (.cells #[.slice none 0 0,.slice none 0 0] 96));obtain ⟨W,Mq,k0,k1,k2,Rq,eW⟩:=X0c w 34 #[.int .i64 s.limit,.slice A s.ships.length Tq,.slice B s.members.length Vq] 38 #[.slice R p.length Fq] 96 #[.slice none 0 0,.slice none 0 0];rw [Mq];clear Mq;have K0:=hid k0;have K1:=hid k1;have K2:=hid k2;clear k0 k1 k2;have Xq:=(Ext.refl W).drew;have Pz:Hid (∀ W',Ext W W' -> Q0i W' (.agg #[.int .i64 s.limit,.slice A s.ships.length Tq,.slice B s.members.length Vq]) s):=hid (fun W' hW=>⟨_,_,rfl,H2.out.ext (Rq.out.trans hW)⟩);have Wg:Hid (∀ W',Ext W W' -> Q0l W' (.agg #[.slice R p.length Fq]) p):=hid (fun W' hW=>⟨_,rfl,HR.out.ext (Rq.out.trans hW)⟩);refine Flow.Q1h [.w,.w,.w,.w,.p,.w,.w,.w,.p] [0,1,2,3,4,5,6,7,8] [[],[],[0,1],[],[],[2,3,4],[2,5],[5,6],[0,1,2,3,4,5,6,7]]
  [.c 0 (.agg #[.int .i64 s.limit,.slice A s.ships.length Tq,.slice B s.members.length Vq]),.c 1 (.agg #[.slice R p.length Fq]),.c 2 (.int .i64 (Q1k s p)),.c 3 (.agg #[.int .i64 s.limit,.slice A s.ships.length Tq,.slice B s.members.length Vq]),.c 4 (.int .i64 n),.c 5 (.int .i64 (Q0s (Q7f s n) 10)),⟨fun v wz=>(fun v w'=>Q0g w' (v 6) [Q1k s p,Q0s (Q7f s n) 10]) v wz,by intro v a b hx h; exact Q0g.ext h hx⟩,.c 7 (.int .i64 (Q6t s p n)),.c 8 (.int .i64 (Q6t s p n))]
  (by kernel_rfl) rfl (by kernel_rfl) ⟨?g0,?g1,?g2,?g3,?g4,?g5,?g6,?g7,?g8,trivial⟩ ?post
 case g0 | g3=>
  intro v w1 hx;intro bb hbb;intro K hK;have o1:bb.eval (.tmp 3)=.pointer (some ⟨w.heap.size,0,none⟩):=fze08
  exact Q0k (.tmp 3) _ rfl X7u Q8v o1 (K0.out.ext (Xq.trans hx)) rfl (hK _ _ (Ext.refl _) rfl)
 case g1=>
  intro v w1 hx;intro bb hbb;intro K hK;have o1:bb.eval (.tmp 4)=.pointer (some ⟨w.heap.size + 1,0,none⟩):=fze08
  exact Q0k (.tmp 4) _ rfl Q5z Q2w o1 (K1.out.ext (Xq.trans hx)) rfl (hK _ _ (Ext.refl _) rfl)
 case g2=>
  intro v w1 hx;(repeat intro (zq:v _=_));intro bb hbb;subst hbb;intro K hK;go_simp;refine Q0e (Q2g w1 _ _ s p (Pz.out w1 (Xq.trans hx)) (Wg.out w1 (Xq.trans hx)) HS.out hp) ?_;rintro e w2 ⟨rfl,Nq⟩;exact ⟨_,rfl,hK _ _ Nq rfl⟩
 case g4=>
  intro v w1 hx;intro bb hbb;subst hbb;refine ⟨_,fun w=>?_,rfl⟩;go_simp
 case g5=>
  intro v w1 hx;(repeat intro (zq:v _=_));intro bb hbb;subst hbb;intro K hK;go_simp;refine Q0e (Q4h w1 _ s n (Pz.out w1 (Xq.trans hx))) ?_;rintro e w2 ⟨rfl,Nq⟩;exact ⟨_,rfl,hK _ _ Nq rfl⟩
 case g6=>
  intro v w1 hx;(repeat intro (zq:v _=_));intro bb hbb;subst hbb;intro K hK;go_simp;exact hK _ _ (Ext.box _ _) (Q3d (l:=[Q1k s p,Q0s (Q7f s n) 10]) (by simp))
 case g7=>
  intro v w1 hx (q5:v 5=_) (q6:(fun v w'=>Q0g w' (v 6) [Q1k s p,Q0s (Q7f s n) 10]) v w1);intro bb hbb;subst hbb;intro K hK;go_simp;refine Q0e (Mw.out w1 _ q6) ?_;rintro e w2 ⟨rfl,rfl⟩;exact ⟨_,rfl,hK _ _ (Ext.refl _) rfl⟩
 case g8=>
  intro v w1 hx (q0:v 0=_) (q1:v 1=_) (q2:v 2=_) (q3:v 3=_) (q4:v 4=_) (q5:v 5=_) _ (q7:v 7=_);intro bb hbb;subst hbb;refine ⟨_,fun w=>?_,rfl⟩;go_simp
 case post =>
  intro v w1 hx;(iterate 6 intro (zq:v _=_));intro (q6:(fun v w'=>Q0g w' (v 6) [Q1k s p,Q0s (Q7f s n) 10]) v w1);(iterate 2 intro (zq:v _=_));simp only [Flow.All,Flow.acts,Act.put];go_simp;have vq:=hid (Rq.out.trans (Xq.trans hx));have Fx:=hid (K0.out.ext (Xq.trans hx));have vz:=hid (K1.out.ext (Xq.trans hx));have S2:=hid (K2.out.ext (Xq.trans hx));obtain ⟨w5,rfl⟩:∃ X,X=w1:=⟨_,rfl⟩;clear hx Xq q6;(repeat clear zq)
  by_cases he:Q6t s p n=0
  . obtain ⟨hV,Zz,Q5,Ty⟩:=Y3p he
    have h6:=hV.tides;have HF:Hid (Y6s s p n=Q0h p (Q0c s.members n.toNat) /\ Y9m s p n=(Q1g s n.toNat).Q2a (Q0h p (Q0c s.members n.toNat))):=hid ⟨if_pos he,if_pos he⟩;have hne:(Q6t s p n != 0)=false:=by simp [he]
    obtain ⟨i,rfl⟩:∃ i:Nat,n=(i:Int):=⟨n.toNat,by omega⟩
    have kz:i < s.members.length:=by omega
    rw [Int.toNat_natCast] at HF;have Vx:=hid he;have Vj:=X1t hV kz (n:=s.ships.length) (Nat.le_refl _);have hcl:(Q0h p (Q0c s.members i)).length=s.ships.length:=by rw [Q1l,(hV.shaped i kz).1]
    have Y0:=hid (Y4i w5 _ _ s p ⟨_,_,rfl,H2.out.ext vq.out⟩ ⟨_,rfl,HR.out.ext vq.out⟩ hV Zz);have Jj:=hid (fun (W:World) (v u:Value) (hv:X2i W v (Q1g s i)) (hu:Q1v W u (Q0h p (Q0c s.members i)))=>X0o W v u (Q1g s i) _ hv hu (by omega) (by rw [hcl]; exact Vj))
    have Wc:=hid (Q6b p kz);have Tc:=hid hcl;have E5:=hid h6.2;obtain ⟨E,hE⟩:∃ E,Q6t s p (i:Int)=E:=⟨_,rfl⟩;have Nz:=hid (hE.symm.trans he);have c0:=(Fx.out).cell 0;have c1:=(Fx.out).cell 1;have c2:=(Fx.out).cell 2;simp only [Go.Tw.gA,Go.Tw.gB,Go.Tw.gC] at c0 c1 c2;have d0:=(vz.out).cell 0;simp only [Go.Tw.gA,Go.Tw.gB] at d0;rw [hE] at hne ⊢;rw [Nz.out];clear hV Zz Q5 Ty he hE Vj hcl h6;go_wp2_with (go_at_call 109; refine Y0.out.mono ?_; rintro e w6 ⟨x6,vs6,rfl,h1,r9,h2⟩; refine halted ?_);have bj:=hid h2;have Dv:vs6.length=s.members.length:=by rw [r9.1,Q3c]
    obtain ⟨bu,cb,rfl,qv⟩:=Z4x h1 (by rw [Dv]; exact kz:i < vs6.length)
    have Zx:=r9.2 i (by rw [Q3c]; exact kz)
    rw [Wc.out] at Zx;obtain ⟨uk,Oh⟩:∃ z,vs6.getD i undef=z:=⟨_,rfl⟩;rw [Oh] at qv Zx;rw [Dv];have xj:=Zx.bools (by rw [Tc.out]; have:=E5.out; omega)
    obtain ⟨Uk,ck,hk,-,-,-⟩:=xj.opened;subst hk;have ez:=hid Zx;clear Dv Oh Zx r9;have ly:=hid xj;obtain ⟨bm,off,Sq,Jq,Cq,X,Y,Z,rq⟩:=Q3e (H2.out.ext (vq.out.trans h2)).members kz;obtain rfl:=rq.addr;have Kg:=hid (rq.mem (Ext.refl w6));have e0:=rq.e0;have e1:=rq.e1;have e2:=rq.e2;have e3:=rq.e3;have e4:=rq.e4;have k6:=(Fx.out.ext h2).cell 2;simp only [Go.Tw.gA,Go.Tw.gB,Go.Tw.gC] at k6;have V0:(i:Int) < s.members.length:=by omega
    have fK:=S2.out.ext h2;have Vc:=hid (Jj.out w6 _ _ Kg.out ly.out);clear h1 h2 xj rq c0 c1 c2 d0;unfold Q1o;go_wp2_with (go_at_call 127; refine Vc.out.mono ?_; rintro e w7 ⟨x7,rfl,h1,h2⟩; refine halted ?_);have mg:=hid h2;obtain ⟨R7,c7,oK,-,-,-⟩:=h1.opened;subst oK;have Uc:=hid h1;have lg:=fK.ext h2;clear h1 h2 fK e0 e1 e2 e3 e4 k6;unfold Q1o;go_wp2_with (with_reducible (refine Q5j ?_); refine Q0t rfl _ _ _ rfl X1w rfl rfl lg rfl rfl Q8a ?_; intro w9 Nj Wj cj);refine bodyPost_ret (Q2t results57 rfl Nj J3l X1w rfl) rfl ?_;exact ⟨⟨_,_,by rw [Vx.out]; rfl,by rw [HF.out.1]; exact X6b (Q0q.below ez.out mg.out) lg (by decide) (fun k _ hk=>cj k hk),by rw [HF.out.2]; exact X1d Uc.out lg (fun k _ hk=>cj k hk)⟩,Below.trans (vq.out.trans (bj.out.trans mg.out)) (Wj _ (by omega))⟩
  . have HF:Hid (Y6s s p n=[] /\ Y9m s p n=[]):=hid ⟨if_neg he,if_neg he⟩
    have hne:(Q6t s p n != 0)=true:=by simp [he]
    obtain ⟨E,hE⟩:∃ E,Q6t s p n=E:=⟨_,rfl⟩;have Vx:=hid hE;have R6:=S2.out;rw [hE] at hne ⊢;clear he hE;go_wp2_with (with_reducible (refine Q5j ?_); refine Q0t rfl _ _ _ rfl X1w rfl rfl R6 rfl rfl Q8a ?_; intro w9 Nj Wj cj);refine bodyPost_ret (Q2t results57 rfl Nj J3l X1w rfl) rfl ?_;exact ⟨⟨_,_,by rw [Vx.out]; rfl,by rw [HF.out.1]; exact Q0q.nil _ _ _ _,by rw [HF.out.2]; exact Go.Tw.Rows.nil _ _ _⟩,Below.trans vq.out (Wj _ (by omega))⟩
end Go.Proofs
namespace Go.Proofs
open Go.RowKit Go.Tw Go.Flow
theorem J0d {lim:Int} {l:List Int} {k:Nat} (hk:k < l.length):Z2m lim (l.drop k)=(!(decide (lim < ix l k)) && Z2m lim (l.drop (k + 1))):=by
 unfold Z2m;rw [List.drop_eq_getElem_cons hk,List.any_cons,Bool.not_or,Q5g hk]
theorem Y5f (w:World) (v:Value) (lim:Int) (l:List Int) (hv:Q0g w v l) :
    Calls Tryz.prog 68 #[.int .i64 lim,v] w fun e w'=>e=.returned (.bool (Z2m lim l)) /\ w=w':=by
 obtain ⟨A,Qq,rfl,hl,Kq,hc⟩:=hv.opened;clear hv;go_enter Tryz.func68,Tryz.ntmps68;go_wp2
 go_loop [9] (fun i=>∃ k:Nat,k <= l.length /\ i=.int .i64 k /\ Z2m lim (l.drop k)=Z2m lim l) (fun i=>l.length - (intOf i).toNat)
 case atStart=>exact ⟨0,Nat.zero_le _,rfl,rfl⟩
 case round =>
  obtain ⟨k,hk,rfl,hr⟩:=hrel;have HR:=hid hr;clear hr
  by_cases Uq:k < l.length
  . obtain ⟨b,off,rfl,Wq⟩:=hc k Uq
    have HD:=hid (J0d (lim:=lim) Uq);have zj:(k:Int) < l.length:=by omega
    obtain ⟨y,hy⟩:∃ y,ix l k=y:=⟨_,rfl⟩;rw [hy] at Wq HD;clear hc hy
    by_cases hx:lim < y
    . have HF:Hid (Z2m lim l=false):=hid (by rw [<- HR.out,HD.out,decide_eq_true hx]; rfl)
      go_wp2;go_ret;exact ⟨by rw [HF.out]; rfl,rfl⟩
    . have HF:Hid (Z2m lim (l.drop (k + 1))=Z2m lim l):=hid (by rw [<- HR.out,HD.out,decide_eq_false hx]; rfl)
      go_wp2;go_round
      case rel=>exact ⟨k + 1,by omega,by go_num,HF.out⟩
      case measure=>simp [intOf]; omega
  . have HF:Hid (Z2m lim l=true):=hid (by rw [<- HR.out,List.drop_eq_nil_of_le (by omega)]; rfl)
    clear hc;go_wp2;go_ret;exact ⟨by rw [HF.out]; rfl,rfl⟩
end Go.Proofs
namespace Go.Proofs
open Go.RowKit Go.Tw Go.Flow Tryz
attribute [local go_sem] Oper.semAt_some
theorem X5h {α:Type} {k n:Nat} {R:World -> (Nat -> Value) -> α -> Prop} {w:World} {g:Nat} {T:TypeId} {cs:Array Value} {l:List α} (h:Blk w g T cs) (hl:l.length=n) (hn:n <= 1000) (oq:cs.size=n * k)
    (hR:∀ i (hi:i < l.length),R w (fun j=>cs.getD (i * k + j) undef) l[i]):Go.Tw.Rows k R w (.slice (some ⟨g,0,none⟩) n n) l:=by
 subst hl;refine ⟨fun j=>cs.getD j undef,⟨some ⟨g,0,none⟩,l.length,rfl,by omega,Nat.le_refl _,fun j hj=>⟨g,0,rfl,?_⟩⟩,hR⟩
 have Uw:j < cs.size:=by omega
 rw [Nat.zero_add,h.cell];show cs[j]?=some (cs.getD j undef);rw [Array.getD_eq_getD_getElem?,Array.getElem?_eq_getElem Uw];rfl
theorem Q1z {w:World} {g:Nat} {T:TypeId} {cs:Array Value} {l:List Int} {n:Nat} (h:Blk w g T cs) (hc:cs=(l.map (Value.int .i64)).toArray) (hl:l.length=n) (hn:n <= 1000):Q0g w (.slice (some ⟨g,0,none⟩) n n) l:=by
 subst hc;refine X5h (k:=1) h hl hn (by simp [hl]) fun i hi=>?_
 show (List.map (Value.int .i64) l).toArray.getD (i * 1 + 0) undef=_;simp [hi]
theorem Tryz.J7u (w:World):(isAgg 38).run prog w=.ok true w:=by kernel_rfl
theorem Tryz.J6r (w:World):(sizeOf 38).run prog w=.ok 1 w:=by kernel_rfl
theorem Z2y (b:UInt8):Short ⟨#[b]⟩:=by show (1:Nat) <= _; omega
theorem Q3i (w:World) :
    Calls prog 90 #[] w fun e w'=>∃ u,e=.returned u /\ Q0i w' u Q0w /\ Ext w w':=by
 go_enter func90,ntmps90;go_wp2_with fail;have k0:=Blk.made w 34 #[.int .i64 30,.slice (some ⟨w.heap.size + 1,0,none⟩) 2 2,.slice (some ⟨w.heap.size + 1 + 1 + 1 + 1 + 1 + 1 + 1 + 1 + 1 + 1 + 1,0,none⟩) 3 3];have x0:=Ext.box w (.cells #[.int .i64 30,.slice (some ⟨w.heap.size + 1,0,none⟩) 2 2,.slice (some ⟨w.heap.size + 1 + 1 + 1 + 1 + 1 + 1 + 1 + 1 + 1 + 1 + 1,0,none⟩) 3 3] 34);have es0:(w.alloc (.cells #[.int .i64 30,.slice (some ⟨w.heap.size + 1,0,none⟩) 2 2,.slice (some ⟨w.heap.size + 1 + 1 + 1 + 1 + 1 + 1 + 1 + 1 + 1 + 1 + 1,0,none⟩) 3 3] 34)).heap.size=w.heap.size + 1:=by simp
 obtain ⟨X0,V5⟩:∃ X,w.alloc (.cells #[.int .i64 30,.slice (some ⟨w.heap.size + 1,0,none⟩) 2 2,.slice (some ⟨w.heap.size + 1 + 1 + 1 + 1 + 1 + 1 + 1 + 1 + 1 + 1 + 1,0,none⟩) 3 3] 34)=X:=⟨_,rfl⟩;rw [V5] at k0 x0 es0 ⊢;clear V5;have k1:=Blk.made X0 3 #[.int .i64 5,.int .i64 7];have x1:=Ext.box X0 (.cells #[.int .i64 5,.int .i64 7] 3);have es1:(X0.alloc (.cells #[.int .i64 5,.int .i64 7] 3)).heap.size=X0.heap.size + 1:=by simp
 obtain ⟨X1,U5⟩:∃ X,X0.alloc (.cells #[.int .i64 5,.int .i64 7] 3)=X:=⟨_,rfl⟩;rw [U5] at k1 x1 es1 ⊢;clear U5;have k2:=Blk.made X1 3 #[.int .i64 0,.int .i64 0];have x2:=Ext.box X1 (.cells #[.int .i64 0,.int .i64 0] 3);have es2:(X1.alloc (.cells #[.int .i64 0,.int .i64 0] 3)).heap.size=X1.heap.size + 1:=by simp
 obtain ⟨X2,T5⟩:∃ X,X1.alloc (.cells #[.int .i64 0,.int .i64 0] 3)=X:=⟨_,rfl⟩;rw [T5] at k2 x2 es2 ⊢;clear T5;have k3:=Blk.made X2 3 #[.int .i64 20,.int .i64 40];have x3:=Ext.box X2 (.cells #[.int .i64 20,.int .i64 40] 3);have es3:(X2.alloc (.cells #[.int .i64 20,.int .i64 40] 3)).heap.size=X2.heap.size + 1:=by simp
 obtain ⟨X3,S5⟩:∃ X,X2.alloc (.cells #[.int .i64 20,.int .i64 40] 3)=X:=⟨_,rfl⟩;rw [S5] at k3 x3 es3 ⊢;clear S5;have k4:=Blk.made X3 3 #[.int .i64 10,.int .i64 10];have x4:=Ext.box X3 (.cells #[.int .i64 10,.int .i64 10] 3);have es4:(X3.alloc (.cells #[.int .i64 10,.int .i64 10] 3)).heap.size=X3.heap.size + 1:=by simp
 obtain ⟨X4,Z9⟩:∃ X,X3.alloc (.cells #[.int .i64 10,.int .i64 10] 3)=X:=⟨_,rfl⟩;rw [Z9] at k4 x4 es4 ⊢;clear Z9;have k5:=Blk.made X4 3 #[.int .i64 0,.int .i64 1];have x5:=Ext.box X4 (.cells #[.int .i64 0,.int .i64 1] 3);have es5:(X4.alloc (.cells #[.int .i64 0,.int .i64 1] 3)).heap.size=X4.heap.size + 1:=by simp
 obtain ⟨X5,eK⟩:∃ X,X4.alloc (.cells #[.int .i64 0,.int .i64 1] 3)=X:=⟨_,rfl⟩;rw [eK] at k5 x5 es5 ⊢;clear eK;have k6:=Blk.made X5 3 #[.int .i64 40,.int .i64 20];have x6:=Ext.box X5 (.cells #[.int .i64 40,.int .i64 20] 3);have es6:(X5.alloc (.cells #[.int .i64 40,.int .i64 20] 3)).heap.size=X5.heap.size + 1:=by simp
 obtain ⟨X6,Nh⟩:∃ X,X5.alloc (.cells #[.int .i64 40,.int .i64 20] 3)=X:=⟨_,rfl⟩;rw [Nh] at k6 x6 es6 ⊢;clear Nh;have k7:=Blk.made X6 3 #[.int .i64 10,.int .i64 25];have x7:=Ext.box X6 (.cells #[.int .i64 10,.int .i64 25] 3);have es7:(X6.alloc (.cells #[.int .i64 10,.int .i64 25] 3)).heap.size=X6.heap.size + 1:=by simp
 obtain ⟨X7,Mh⟩:∃ X,X6.alloc (.cells #[.int .i64 10,.int .i64 25] 3)=X:=⟨_,rfl⟩;rw [Mh] at k7 x7 es7 ⊢;clear Mh;have k8:=Blk.made X7 3 #[.int .i64 0,.int .i64 1];have x8:=Ext.box X7 (.cells #[.int .i64 0,.int .i64 1] 3);have es8:(X7.alloc (.cells #[.int .i64 0,.int .i64 1] 3)).heap.size=X7.heap.size + 1:=by simp
 obtain ⟨X8,Lh⟩:∃ X,X7.alloc (.cells #[.int .i64 0,.int .i64 1] 3)=X:=⟨_,rfl⟩;rw [Lh] at k8 x8 es8 ⊢;clear Lh;have k9:=Blk.made X8 3 #[.int .i64 20,.int .i64 20];have x9:=Ext.box X8 (.cells #[.int .i64 20,.int .i64 20] 3);have es9:(X8.alloc (.cells #[.int .i64 20,.int .i64 20] 3)).heap.size=X8.heap.size + 1:=by simp
 obtain ⟨X9,o6⟩:∃ X,X8.alloc (.cells #[.int .i64 20,.int .i64 20] 3)=X:=⟨_,rfl⟩;rw [o6] at k9 x9 es9 ⊢;clear o6;have k10:=Blk.made X9 3 #[.int .i64 10,.int .i64 10];have x10:=Ext.box X9 (.cells #[.int .i64 10,.int .i64 10] 3);have es10:(X9.alloc (.cells #[.int .i64 10,.int .i64 10] 3)).heap.size=X9.heap.size + 1:=by simp
 obtain ⟨X10,dK⟩:∃ X,X9.alloc (.cells #[.int .i64 10,.int .i64 10] 3)=X:=⟨_,rfl⟩;rw [dK] at k10 x10 es10 ⊢;clear dK;have k11:=Blk.made X10 69 #[.string ⟨#[97]⟩,.int .i64 2,.slice (some ⟨w.heap.size + 1 + 1,0,none⟩) 2 2,.slice (some ⟨w.heap.size + 1 + 1 + 1,0,none⟩) 2 2,.slice (some ⟨w.heap.size + 1 + 1 + 1 + 1,0,none⟩) 2 2,.string ⟨#[98]⟩,.int .i64 1,.slice (some ⟨w.heap.size + 1 + 1 + 1 + 1 + 1,0,none⟩) 2 2,.slice (some ⟨w.heap.size + 1 + 1 + 1 + 1 + 1 + 1,0,none⟩) 2 2,.slice (some ⟨w.heap.size + 1 + 1 + 1 + 1 + 1 + 1 + 1,0,none⟩) 2 2,.string ⟨#[99]⟩,.int .i64 1,.slice (some ⟨w.heap.size + 1 + 1 + 1 + 1 + 1 + 1 + 1 + 1,0,none⟩) 2 2,.slice (some ⟨w.heap.size + 1 + 1 + 1 + 1 + 1 + 1 + 1 + 1 + 1,0,none⟩) 2 2,.slice (some ⟨w.heap.size + 1 + 1 + 1 + 1 + 1 + 1 + 1 + 1 + 1 + 1,0,none⟩) 2 2];have x11:=Ext.box X10 (.cells #[.string ⟨#[97]⟩,.int .i64 2,.slice (some ⟨w.heap.size + 1 + 1,0,none⟩) 2 2,.slice (some ⟨w.heap.size + 1 + 1 + 1,0,none⟩) 2 2,.slice (some ⟨w.heap.size + 1 + 1 + 1 + 1,0,none⟩) 2 2,.string ⟨#[98]⟩,.int .i64 1,.slice (some ⟨w.heap.size + 1 + 1 + 1 + 1 + 1,0,none⟩) 2 2,.slice (some ⟨w.heap.size + 1 + 1 + 1 + 1 + 1 + 1,0,none⟩) 2 2,.slice (some ⟨w.heap.size + 1 + 1 + 1 + 1 + 1 + 1 + 1,0,none⟩) 2 2,.string ⟨#[99]⟩,.int .i64 1,.slice (some ⟨w.heap.size + 1 + 1 + 1 + 1 + 1 + 1 + 1 + 1,0,none⟩) 2 2,.slice (some ⟨w.heap.size + 1 + 1 + 1 + 1 + 1 + 1 + 1 + 1 + 1,0,none⟩) 2 2,.slice (some ⟨w.heap.size + 1 + 1 + 1 + 1 + 1 + 1 + 1 + 1 + 1 + 1,0,none⟩) 2 2] 69);have es11:(X10.alloc (.cells #[.string ⟨#[97]⟩,.int .i64 2,.slice (some ⟨w.heap.size + 1 + 1,0,none⟩) 2 2,.slice (some ⟨w.heap.size + 1 + 1 + 1,0,none⟩) 2 2,.slice (some ⟨w.heap.size + 1 + 1 + 1 + 1,0,none⟩) 2 2,.string ⟨#[98]⟩,.int .i64 1,.slice (some ⟨w.heap.size + 1 + 1 + 1 + 1 + 1,0,none⟩) 2 2,.slice (some ⟨w.heap.size + 1 + 1 + 1 + 1 + 1 + 1,0,none⟩) 2 2,.slice (some ⟨w.heap.size + 1 + 1 + 1 + 1 + 1 + 1 + 1,0,none⟩) 2 2,.string ⟨#[99]⟩,.int .i64 1,.slice (some ⟨w.heap.size + 1 + 1 + 1 + 1 + 1 + 1 + 1 + 1,0,none⟩) 2 2,.slice (some ⟨w.heap.size + 1 + 1 + 1 + 1 + 1 + 1 + 1 + 1 + 1,0,none⟩) 2 2,.slice (some ⟨w.heap.size + 1 + 1 + 1 + 1 + 1 + 1 + 1 + 1 + 1 + 1,0,none⟩) 2 2] 69)).heap.size=X10.heap.size + 1:=by simp
 obtain ⟨X11,bK⟩:∃ X,X10.alloc (.cells #[.string ⟨#[97]⟩,.int .i64 2,.slice (some ⟨w.heap.size + 1 + 1,0,none⟩) 2 2,.slice (some ⟨w.heap.size + 1 + 1 + 1,0,none⟩) 2 2,.slice (some ⟨w.heap.size + 1 + 1 + 1 + 1,0,none⟩) 2 2,.string ⟨#[98]⟩,.int .i64 1,.slice (some ⟨w.heap.size + 1 + 1 + 1 + 1 + 1,0,none⟩) 2 2,.slice (some ⟨w.heap.size + 1 + 1 + 1 + 1 + 1 + 1,0,none⟩) 2 2,.slice (some ⟨w.heap.size + 1 + 1 + 1 + 1 + 1 + 1 + 1,0,none⟩) 2 2,.string ⟨#[99]⟩,.int .i64 1,.slice (some ⟨w.heap.size + 1 + 1 + 1 + 1 + 1 + 1 + 1 + 1,0,none⟩) 2 2,.slice (some ⟨w.heap.size + 1 + 1 + 1 + 1 + 1 + 1 + 1 + 1 + 1,0,none⟩) 2 2,.slice (some ⟨w.heap.size + 1 + 1 + 1 + 1 + 1 + 1 + 1 + 1 + 1 + 1,0,none⟩) 2 2] 69)=X:=⟨_,rfl⟩;rw [bK] at k11 x11 es11 ⊢;clear bK;replace k0:=((((((((((k0.ext x1).ext x2).ext x3).ext x4).ext x5).ext x6).ext x7).ext x8).ext x9).ext x10).ext x11;replace k1:=(((((((((k1.ext x2).ext x3).ext x4).ext x5).ext x6).ext x7).ext x8).ext x9).ext x10).ext x11;replace k2:=((((((((k2.ext x3).ext x4).ext x5).ext x6).ext x7).ext x8).ext x9).ext x10).ext x11;replace k3:=(((((((k3.ext x4).ext x5).ext x6).ext x7).ext x8).ext x9).ext x10).ext x11;replace k4:=((((((k4.ext x5).ext x6).ext x7).ext x8).ext x9).ext x10).ext x11;replace k5:=(((((k5.ext x6).ext x7).ext x8).ext x9).ext x10).ext x11;replace k6:=((((k6.ext x7).ext x8).ext x9).ext x10).ext x11;replace k7:=(((k7.ext x8).ext x9).ext x10).ext x11;replace k8:=((k8.ext x9).ext x10).ext x11;replace k9:=(k9.ext x10).ext x11;replace k10:=k10.ext x11;have e0:X0.heap.size=w.heap.size + 1:=by omega
 have e1:X1.heap.size=w.heap.size + 1 + 1:=by omega
 have e2:X2.heap.size=w.heap.size + 1 + 1 + 1:=by omega
 have e3:X3.heap.size=w.heap.size + 1 + 1 + 1 + 1:=by omega
 have e4:X4.heap.size=w.heap.size + 1 + 1 + 1 + 1 + 1:=by omega
 have e5:X5.heap.size=w.heap.size + 1 + 1 + 1 + 1 + 1 + 1:=by omega
 have e6:X6.heap.size=w.heap.size + 1 + 1 + 1 + 1 + 1 + 1 + 1:=by omega
 have e7:X7.heap.size=w.heap.size + 1 + 1 + 1 + 1 + 1 + 1 + 1 + 1:=by omega
 have e8:X8.heap.size=w.heap.size + 1 + 1 + 1 + 1 + 1 + 1 + 1 + 1 + 1:=by omega
 have e9:X9.heap.size=w.heap.size + 1 + 1 + 1 + 1 + 1 + 1 + 1 + 1 + 1 + 1:=by omega
 have e10:X10.heap.size=w.heap.size + 1 + 1 + 1 + 1 + 1 + 1 + 1 + 1 + 1 + 1 + 1:=by omega
 have e11:X11.heap.size=w.heap.size + 1 + 1 + 1 + 1 + 1 + 1 + 1 + 1 + 1 + 1 + 1 + 1:=by omega
 rw [e0] at k1;rw [e1] at k2;rw [e2] at k3;rw [e3] at k4;rw [e4] at k5;rw [e5] at k6;rw [e6] at k7;rw [e7] at k8;rw [e8] at k9;rw [e9] at k10;rw [e10] at k11;have Rq:Hid (Ext w X11):=hid (Ext.trans (Ext.trans (Ext.trans (Ext.trans (Ext.trans (Ext.trans (Ext.trans (Ext.trans (Ext.trans (Ext.trans (Ext.trans (x0) x1) x2) x3) x4) x5) x6) x7) x8) x9) x10) x11);have eW:X11.heap.size=w.heap.size + 1 + 1 + 1 + 1 + 1 + 1 + 1 + 1 + 1 + 1 + 1 + 1:=e11;clear x0 es0 e0 x1 es1 e1 x2 es2 e2 x3 es3 e3 x4 es4 e4 x5 es5 e5 x6 es6 e6 x7 es7 e7 x8 es8 e8 x9 es9 e9 x10 es10 e10 x11 es11 e11;obtain ⟨W,Mq⟩:∃ W,X11=W:=⟨_,rfl⟩;rw [Mq] at Rq eW ⊢ k0 k1 k2 k3 k4 k5 k6 k7 k8 k9 k10 k11;clear Mq;refine bodyPost_ret (Q2e results90 rfl k0 X7u Q8v) rfl ?_;refine ⟨_,rfl,⟨_,_,rfl,⟨Q1z (l:=[5,7]) k1 rfl rfl (by omega),?_⟩⟩,Rq.out⟩
 refine X5h k11 rfl (by omega) rfl fun i hi=>?_
 have:i=0 ∨ i=1 ∨ i=2:=by simp [Q0w] at hi; omega
 rcases this with rfl | rfl | rfl
 . exact ⟨rfl,rfl,Q1z (l:=[0,0]) k2 rfl rfl (by omega),Q1z (l:=[20,40]) k3 rfl rfl (by omega),Q1z (l:=[10,10]) k4 rfl rfl (by omega),Z2y _⟩
 . exact ⟨rfl,rfl,Q1z (l:=[0,1]) k5 rfl rfl (by omega),Q1z (l:=[40,20]) k6 rfl rfl (by omega),Q1z (l:=[10,25]) k7 rfl rfl (by omega),Z2y _⟩
 . exact ⟨rfl,rfl,Q1z (l:=[0,1]) k8 rfl rfl (by omega),Q1z (l:=[20,20]) k9 rfl rfl (by omega),Q1z (l:=[10,10]) k10 rfl rfl (by omega),Z2y _⟩
theorem Q6g (w:World) (a b c:Bool) :
    Calls prog 91 #[.bool a,.bool b,.bool c] w fun e w'=>∃ u,e=.returned u /\ Q0l w' u (X3h a b c) /\ Ext w w':=by
 go_enter func91,ntmps91;go_wp2_with fail;have k0:=Blk.made w 38 #[.slice (some ⟨w.heap.size + 1 + 1 + 1 + 1,0,none⟩) 3 3];have x0:=Ext.box w (.cells #[.slice (some ⟨w.heap.size + 1 + 1 + 1 + 1,0,none⟩) 3 3] 38);have es0:(w.alloc (.cells #[.slice (some ⟨w.heap.size + 1 + 1 + 1 + 1,0,none⟩) 3 3] 38)).heap.size=w.heap.size + 1:=by simp
 obtain ⟨X0,V5⟩:∃ X,w.alloc (.cells #[.slice (some ⟨w.heap.size + 1 + 1 + 1 + 1,0,none⟩) 3 3] 38)=X:=⟨_,rfl⟩;rw [V5] at k0 x0 es0 ⊢;clear V5;have k1:=Blk.made X0 3 #[.int .i64 0];have x1:=Ext.box X0 (.cells #[.int .i64 0] 3);have es1:(X0.alloc (.cells #[.int .i64 0] 3)).heap.size=X0.heap.size + 1:=by simp
 obtain ⟨X1,U5⟩:∃ X,X0.alloc (.cells #[.int .i64 0] 3)=X:=⟨_,rfl⟩;rw [U5] at k1 x1 es1 ⊢;clear U5;have k2:=Blk.made X1 3 #[.int .i64 0,.int .i64 0];have x2:=Ext.box X1 (.cells #[.int .i64 0,.int .i64 0] 3);have es2:(X1.alloc (.cells #[.int .i64 0,.int .i64 0] 3)).heap.size=X1.heap.size + 1:=by simp
 obtain ⟨X2,T5⟩:∃ X,X1.alloc (.cells #[.int .i64 0,.int .i64 0] 3)=X:=⟨_,rfl⟩;rw [T5] at k2 x2 es2 ⊢;clear T5;have k3:=Blk.made X2 3 #[.int .i64 0,.int .i64 1];have x3:=Ext.box X2 (.cells #[.int .i64 0,.int .i64 1] 3);have es3:(X2.alloc (.cells #[.int .i64 0,.int .i64 1] 3)).heap.size=X2.heap.size + 1:=by simp
 obtain ⟨X3,S5⟩:∃ X,X2.alloc (.cells #[.int .i64 0,.int .i64 1] 3)=X:=⟨_,rfl⟩;rw [S5] at k3 x3 es3 ⊢;clear S5;have k4:=Blk.made X3 167 #[.slice (some ⟨w.heap.size + 1,0,none⟩) 1 1,.bool a,.slice (some ⟨w.heap.size + 1 + 1,0,none⟩) 2 2,.bool b,.slice (some ⟨w.heap.size + 1 + 1 + 1,0,none⟩) 2 2,.bool c];have x4:=Ext.box X3 (.cells #[.slice (some ⟨w.heap.size + 1,0,none⟩) 1 1,.bool a,.slice (some ⟨w.heap.size + 1 + 1,0,none⟩) 2 2,.bool b,.slice (some ⟨w.heap.size + 1 + 1 + 1,0,none⟩) 2 2,.bool c] 167);have es4:(X3.alloc (.cells #[.slice (some ⟨w.heap.size + 1,0,none⟩) 1 1,.bool a,.slice (some ⟨w.heap.size + 1 + 1,0,none⟩) 2 2,.bool b,.slice (some ⟨w.heap.size + 1 + 1 + 1,0,none⟩) 2 2,.bool c] 167)).heap.size=X3.heap.size + 1:=by simp
 obtain ⟨X4,Z9⟩:∃ X,X3.alloc (.cells #[.slice (some ⟨w.heap.size + 1,0,none⟩) 1 1,.bool a,.slice (some ⟨w.heap.size + 1 + 1,0,none⟩) 2 2,.bool b,.slice (some ⟨w.heap.size + 1 + 1 + 1,0,none⟩) 2 2,.bool c] 167)=X:=⟨_,rfl⟩;rw [Z9] at k4 x4 es4 ⊢;clear Z9;replace k0:=(((k0.ext x1).ext x2).ext x3).ext x4;replace k1:=((k1.ext x2).ext x3).ext x4;replace k2:=(k2.ext x3).ext x4;replace k3:=k3.ext x4;have e0:X0.heap.size=w.heap.size + 1:=by omega
 have e1:X1.heap.size=w.heap.size + 1 + 1:=by omega
 have e2:X2.heap.size=w.heap.size + 1 + 1 + 1:=by omega
 have e3:X3.heap.size=w.heap.size + 1 + 1 + 1 + 1:=by omega
 have e4:X4.heap.size=w.heap.size + 1 + 1 + 1 + 1 + 1:=by omega
 rw [e0] at k1;rw [e1] at k2;rw [e2] at k3;rw [e3] at k4;have Rq:Hid (Ext w X4):=hid (Ext.trans (Ext.trans (Ext.trans (Ext.trans (x0) x1) x2) x3) x4);have eW:X4.heap.size=w.heap.size + 1 + 1 + 1 + 1 + 1:=e4;clear x0 es0 e0 x1 es1 e1 x2 es2 e2 x3 es3 e3 x4 es4 e4;obtain ⟨W,Mq⟩:∃ W,X4=W:=⟨_,rfl⟩;rw [Mq] at Rq eW ⊢ k0 k1 k2 k3 k4;clear Mq;refine bodyPost_ret (Q2e results91 rfl k0 J7u J6r) rfl ?_;refine ⟨_,rfl,⟨_,rfl,?_⟩,Rq.out⟩;refine X5h k4 rfl (by omega) rfl fun i hi=>?_
 have:i=0 ∨ i=1 ∨ i=2:=by simp [X3h] at hi; omega
 rcases this with rfl | rfl | rfl
 . exact ⟨Q1z (l:=[0]) k1 rfl rfl (by omega),rfl⟩
 . exact ⟨Q1z (l:=[0,0]) k2 rfl rfl (by omega),rfl⟩
 . exact ⟨Q1z (l:=[0,1]) k3 rfl rfl (by omega),rfl⟩
end Go.Proofs
namespace Go.Proofs
open Go.RowKit Go.Tw Go.Flow Tryz
theorem X0a (w:World) (v:Value) (l:List Int) (hv:Q0g w v l) (Uv:l.length <= 4096) :
    Calls prog 63 #[v] w fun e w'=>∃ u,e=.returned u /\ Q0q w' w.heap.size 3 (.int .i64) u l /\ Ext w w':=by
 obtain ⟨i0,hi,dq,fq,Zj⟩:=info_parts info3;obtain ⟨A,Qq,rfl,hl,Kq,hc⟩:=hv.opened;have hx:=Ext.box w (.cells #[] 3);have Yq:Q0q (w.alloc (.cells #[] 3)) w.heap.size 3 (Value.int .i64) (.slice (some ⟨w.heap.size,0,none⟩) 0 0) []:=World.ownsRow_made w #[] 0 (Nat.le_refl _) (by unfold maxLen; omega) rfl
 cases A with
 | none =>
   have hz:l=[]:=by
    cases l with
    | nil=>rfl
    | cons x l=>obtain ⟨b,off,he,_⟩:=hc 0 (by simp); cases he
   subst hz;clear hv hc;go_enter func63,ntmps63;go_wp2;go_ret;exact ⟨_,rfl,Yq,hx⟩
 | some a =>
   have j1:Hid (∀ j u,(l.map (Value.int .i64))[j]?=some u -> (w.alloc (.cells #[] 3)).cell? (a.add j)=some u):=by
    exact (by
     intro j u hj;rw [List.getElem?_map] at hj;obtain ⟨y,hy,rfl⟩:=Option.map_eq_some_iff.1 hj;obtain ⟨Qj,rfl⟩:=List.getElem?_eq_some_iff.1 hy;obtain ⟨b,off,he,Wq⟩:=hc j Qj;cases he;rw [addr_add,hx.cell Wq,Q5g Qj]:∀ j u,(l.map (Value.int .i64))[j]?=some u -> (w.alloc (.cells #[] 3)).cell? (a.add j)=some u)
   have dj:Hid (∀ u ∈ l.map (Value.int .i64),u.oneCell'=true):=by
    exact (by intro u hu; obtain ⟨y,_,rfl⟩:=List.mem_map.1 hu; rfl:∀ u ∈ l.map (Value.int .i64),u.oneCell'=true)
   have O7:Hid ((l.map (Value.int .i64)).length=l.length * 1):=hid (by simp)
   clear hv hc;go_enter func63,ntmps63;go_wp2_with (at_builtin; refine wpList_append_own _ rfl _ _ 22 rfl (w.heap.size) 3 i0 (.int .i64 0) 1 8 underlying22 hi dq fq Zj rfl (by decide) _ _ _ rfl Yq a l.length Qq (l.map (Value.int .i64)) rfl O7.out j1.out dj.out ?_ ?_ ?_ ?_; (focus (unfold maxLen; simp; omega)); (focus (simp; omega)); (focus (simp)); intro v' w4 Oq Pq _; refine halted ?_)
   have fk:Ext w w4:=Below.trans hx (below_grown Yq Pq (Nat.le_refl _) hx.size);have r4:Q0q w4 w.heap.size 3 (.int .i64) v' l:=by
    unfold Q0q;rw [show l.length=0 + l.length from (Nat.zero_add _).symm]
    exact Oq
   clear Oq Pq Yq hx;unfold Q1o;go_wp2;go_ret;exact ⟨_,rfl,r4,fk⟩
end Go.Proofs
namespace Go.Proofs
open Go.RowKit Go.Tw Go.Flow Tryz
attribute [local go_sem] Oper.semAt_some
theorem Tryz.J4o:(prog.info? 115).map (fun i=>(i.zero,i.size,i.bytes))=some (some (.agg #[.slice none 0 0,.bool false]),2,32):=by kernel_rfl
def Q5m (q:Value × Rul):List Value:=[q.1,.bool q.2.close]
theorem Q4b (q:Value × Rul):(Q5m q).length=2:=rfl
theorem X6g {w w0:World} {B:Nat} {T:TypeId} {v:Value} {qs:List (Value × Rul)} (h:Q1d w B T 2 Q5m v qs) (hl:qs.length <= 100000) (hr:∀ q ∈ qs,Q0g w0 q.1 q.2.classes) (hx:Ext w0 w):Q1j w v (qs.map (·.2)):=by
 refine h.rowsOf (by simp) (by simp; omega) Q4b (fun j h1 h2=>?_) (fun c c' x hc h=>?_)
 . have hq:=List.getElem_mem h1
   simp only [List.getElem_map];exact ⟨(hr _ hq).ext hx,rfl⟩
 . exact ⟨by rw [<- hc 0 (by omega)]; exact h.1,by rw [<- hc 1 (by omega)]; exact h.2⟩
theorem Y6u {w w':World} {base n size B:Nat} {e:TypeId} {v:Value} {xs:List Value} {o:Obj} (Yq:w.ownsRow base e size v n xs) (hg:(w.alloc o).grownBy w' v.ownBlock) (hb:B <= base) (hB:B <= w.heap.size):Below B w w' :=
 Below.grown ((Below.refl B w).alloc hB o) hg (by simp; omega) (fun k hk=>Nat.le_trans hb (Yq.lt k hk).1)
theorem _root_.Go.Tw.Q1d.Q8n {α:Type} {w:World} {base k:Nat} {e:TypeId} {enc:α -> List Value} {v:Value} {l:List α} (h:Q1d w base e k enc v l) {p:Addr} (hp:p.block < base) (u:Value):Q1d (w.setCell p u) base e k enc v l:=h.only hp (Q3u _ _ _)
theorem _root_.Go.Tw.Ext.X0u {w w':World} (h:Ext w w') {p:Addr} (hp:w.heap.size <= p.block) (u:Value):Ext w (w'.setCell p u):=Below.setCell h hp u
theorem Y5e (w:World) (v:Value) (p:List Rul) (hv:Q0l w v p) (hl:p.length <= 4096) :
    Calls prog 26 #[v] w fun e w'=>∃ u,e=.returned u /\ Q0l w' u p /\ Ext w w':=by
 obtain ⟨i0,hi,dq,fq,Zj⟩:=info_parts J4o;obtain ⟨a,rfl,h2⟩:=hv;obtain ⟨A,Qq,rfl,-,Kq,hc⟩:=h2.opened;have HC:=hid hc;obtain ⟨n,hn⟩:∃ n,p.length=n:=⟨_,rfl⟩;have HN:=hid hn;rw [hn] at hl HC ⊢;clear h2 hc hn Kq;go_enter func26,ntmps26;go_wp2_with fail;obtain ⟨W,Mq,k0,k1,k2,Rq,eW⟩:=X0c w 38 #[.slice A n Qq] 47 #[.slice none 0 0] 47 #[.slice none 0 0];rw [Mq];clear Mq;obtain ⟨gp,lz⟩:∃ x,w.heap.size=x:=⟨_,rfl⟩;have Gy:=hid lz;rw [lz] at k1 k2 eW ⊢;have K1:=hid k1;clear k0 k1 lz
 go_loopw [9] (fun i wr=>∃ (k:Nat) (vo:Value) (qs:List (Value × Rul)),k <= n /\ i=.int .i64 k /\ Blk wr (gp + 1 + 1) 47 #[vo] /\ Q1d wr (gp + 1 + 1 + 1) 115 2 Q5m vo qs /\ qs.map (·.2)=p.take k /\ (∀ q ∈ qs,Q0g w q.1 q.2.classes) /\ Below (gp + 1 + 1) W wr /\ gp + 1 + 1 + 1 <= wr.heap.size) (fun i _=>n - (intOf i).toNat)
 case atStart=>exact ⟨0,_,[],Nat.zero_le _,rfl,k2,Q1d.nil _ _ _ _ _,rfl,(fun q hq=>by simp at hq),Below.refl _ _,by omega⟩
 case round =>
  obtain ⟨k,vo,qs,hk,rfl,Zx,Yq,qx,aQ,Yj,oq⟩:=hrel;have Gq:Ext w wr:=Below.trans Rq.out (Yj.mono (by have:=Gy.out; omega))
  have xz:qs.length=k:=by rw [<- List.length_map (f:=(·.2)),qx,List.length_take,HN.out]; omega
  have aK:=hid aQ;have Ey:=hid qx;have L3:=hid Yj
  by_cases Uq:k < n
  . have zj:(k:Int) < n:=by omega
    obtain ⟨b,off,x,rfl,hb,e0,e1,Jk⟩:=HC.out k Uq;replace e0:=Gq.cell e0;replace e1:=Gq.cell e1;obtain ⟨X,Sq,rfl,-,-,-⟩:=Jk.opened;have jx:p.take (k + 1)=p.take k ++ [⟨Q0m p k,Q2h p k⟩]:=by
     rw [List.take_succ_eq_append_getElem (by rw [HN.out]; exact Uq),Q0m,Q2h,Q0u _ (by rw [HN.out]; exact Uq)]
    have HI:=hid Jk;have Jj:=hid jx;obtain ⟨cs,Dk⟩:∃ c,Q0m p k=c:=⟨_,rfl⟩;obtain ⟨cb,Kj⟩:∃ c,Q2h p k=c:=⟨_,rfl⟩;rw [Dk] at e0 HI Jj;rw [Kj] at e1 Jj;have ij:=Ext.box wr (.cells #[.slice X cs.length Sq,.bool cb] 167);have c2:(wr.alloc (.cells #[.slice X cs.length Sq,.bool cb] 167)).cell? ⟨gp + 1 + 1,0,none⟩=some vo:=(Zx.ext ij).cell 0;obtain ⟨wq,rfl⟩:∃ Z,Z=wr:=⟨_,rfl⟩;clear qx aQ Yj Gq Jk jx Dk Kj;go_wp2_with (at_builtin; refine halted ?_);unfold Q1o;have ZJ:(wq.alloc (.cells #[.slice X cs.length Sq,.bool cb] 167)).heap.size=wq.heap.size + 1:=by simp
    obtain ⟨wb,Cz⟩:∃ Z,wq.alloc (.cells #[.slice X cs.length Sq,.bool cb] 167)=Z:=⟨_,rfl⟩;rw [Cz] at ij ZJ ⊢;rw [<- ZJ];have Gv:=Yq.below ij;have ZV:=Zx.ext ij;have ez:=hid ZV;have D2:=hid ij;have YJ:gp + 1 + 1 + 1 <= wb.heap.size:=by omega
    clear Zx Yq Cz c2 ZV
    (at_builtin; refine wpList_append_own _ rfl _ _ 45 rfl (gp + 1 + 1 + 1) 115 i0 (.agg #[.slice none 0 0,.bool false]) 2 32 underlying45 hi dq fq Zj rfl (by decide) _ _ _ rfl (World.ownsRow.alloc Gv _) ⟨wb.heap.size,0,none⟩ 1 1 [.slice X cs.length Sq,.bool cb] rfl rfl ?_ ?_ ?_ ?_ ?_ ?_; exact X7y _ _ _; (focus (simp [Value.oneCell'])); (focus (unfold maxLen; omega)); (focus omega); (focus (have:=ij.size; simp at this ⊢; omega)); intro v' w1 Oq Pq _)
    refine halted ?_;have mx:=Y6u Gv Pq (Nat.le_refl _) YJ;have yz:=ez.out.below mx (by omega)
    have c1':w1.cell? ⟨gp + 1 + 1,0,none⟩=some vo:=yz.cell 0;have f1:=yz.frozen 0;have jk:=hid yz;have zv:=hid mx;have XJ:Hid (gp + 1 + 1 + 1 <= w1.heap.size):=hid (by have:=mx.size; omega)
    have kq:=hid (show Q1d w1 (gp + 1 + 1 + 1) 115 2 Q5m v' (qs ++ [(.slice X cs.length Sq,⟨cs,cb⟩)]) from Q1d.snoc Oq)
    obtain ⟨Av,cv',rfl,-⟩:=kq.out.shape;clear Pq yz mx Oq Gv ij e0 e1;unfold Q1o;go_wp2;go_roundw
    case rel=>exact ⟨k + 1,_,qs ++ [(.slice X cs.length Sq,⟨cs,cb⟩)],by omega,by go_num,jk.out.set 0 _,by have h:=kq.out; rw [List.length_append,xz] at h; exact h.Q8n (p:=⟨gp + 1 + 1,0,none⟩) (Nat.lt_succ_self _) _,by rw [List.map_append,Ey.out,Jj.out]; rfl,
     (fun q hq=>by
      rcases List.mem_append.1 hq with hq | hq
      . exact aK.out q hq
      . rw [List.mem_singleton.1 hq]; exact HI.out),
     (Below.trans L3.out (Below.trans (D2.out.mono (by omega)) (zv.out.mono (Nat.le_succ _)))).setCell (p:=⟨gp + 1 + 1,0,none⟩) (Nat.le_refl _) _,by have:=XJ.out; simp; omega⟩
    case measure=>simp [intOf]; omega
  . have zj:¬ (k:Int) < n:=by omega
    have rj:k=n:=by omega
    subst rj;have hp:p.take k=p:=by rw [List.take_of_length_le (by rw [HN.out]; omega)]
    obtain ⟨Av,cv',rfl,-⟩:=Yq.shape;rw [xz] at Yq Zx;have Rz:=hid Yq;have Z2:=hid xz;have c0:wr.cell? ⟨gp + 1 + 1,0,none⟩=_:=Zx.cell 0;simp only [Go.Tw.gA,Go.Tw.gB] at c0;have nz:=K1.out.below L3.out (by omega)
    have c1:wr.cell? ⟨gp + 1,0,none⟩=some (.slice none 0 0):=nz.cell 0;have f1:=nz.frozen 0;have vz:=hid nz;have Pj:=hid Gq;clear Zx Yq qx aQ Yj Gq nz;go_wp2;refine bodyPost_ret (Q2e results26 rfl (vz.out.set 0 _) X7c Q9i) rfl ?_;refine ⟨_,rfl,⟨_,rfl,?_⟩,Pj.out.X0u (p:=⟨gp + 1,0,none⟩) (by show w.heap.size <= gp + 1; have:=Gy.out; omega) _⟩
    have h:=X6g (Rz.out.Q8n (p:=⟨gp + 1,0,none⟩) (by show gp + 1 < gp + 1 + 1 + 1; omega) (.slice Av k cv')) (by rw [Z2.out]; omega) aK.out (Pj.out.X0u (p:=⟨gp + 1,0,none⟩) (by show w.heap.size <= gp + 1; have:=Gy.out; omega) _)
    rw [Ey.out,hp] at h;exact h
abbrev MV:=Mem × Value × Value × Value
def Z0d (q:MV):List Value:=[.string q.1.name,.int .i64 q.1.weight,q.2.1,q.2.2.1,q.2.2.2]
theorem Z3s (q:MV):(Z0d q).length=5:=rfl
structure Y7j (w:World) (q:MV):Prop where
 c:Q0q w 0 3 (.int .i64) q.2.1 q.1.classes
 o:Q0q w 0 3 (.int .i64) q.2.2.1 q.1.outside
 i:Q0q w 0 3 (.int .i64) q.2.2.2 q.1.inflow
def J9m (w:World) (qs:List MV):Prop:=∀ q ∈ qs,Y7j w q
theorem Y7j.ext {w w':World} {q:MV} (h:Y7j w q) (hx:Ext w w'):Y7j w' q:=⟨h.c.below hx,h.o.below hx,h.i.below hx⟩
theorem Y7j.one {w:World} {q:MV} (h:Y7j w q):∀ u ∈ Z0d q,u.oneCell'=true:=by
 obtain ⟨_,_,e1,_⟩:=h.c.shape;obtain ⟨_,_,e2,_⟩:=h.o.shape;obtain ⟨_,_,e3,_⟩:=h.i.shape;intro u hu;simp only [Z0d,List.mem_cons,List.not_mem_nil,or_false] at hu
 rcases hu with rfl | rfl | rfl | rfl | rfl
 . rfl
 . rfl
 . rw [e1]; rfl
 . rw [e2]; rfl
 . rw [e3]; rfl
theorem Y7j.grown {w w':World} {q:MV} {base n size:Nat} {e:TypeId} {cv:Value} {xs:List Value} (h:Y7j w q) (Yq:w.ownsRow base e size cv n xs) (he:e ≠ 3) (hg:w.grownBy w' cv.ownBlock):Y7j w' q:=⟨Q4e h.c Yq he hg,Q4e h.o Yq he hg,Q4e h.i Yq he hg⟩
theorem Y7j.set {w:World} {q:MV} {O k:Nat} {u:Value} {S:TypeId} {cs:Array Value} (h:Y7j w q) (hb:Blk w O S cs) (hT:S ≠ 3):Y7j (w.setCell ⟨O,k,none⟩ u) q:=⟨Q7g h.c hb hT,Q7g h.o hb hT,Q7g h.i hb hT⟩
theorem Q7v {w w':World} {v:Value} {l:List Int} {g:Nat} {T S:TypeId} {cs:Array Value} (h:Q0q w 0 T (Value.int .i64) v l) (hb:Blk w g S cs) (hT:S ≠ T) (ho:∀ k,k ≠ g -> w'.heap[k]?=w.heap[k]?):Q0q w' 0 T (Value.int .i64) v l:=by
 obtain ⟨h1,h2⟩:=h;refine ⟨h1,?_⟩
 rcases h2 with h2 | ⟨g',Qq,cur,hv,hbb,Bj,r⟩
 . exact .inl h2
 . refine .inr ⟨g',Qq,cur,hv,hbb,?_,r⟩
   rw [ho g' ?_]; exact Bj;rintro rfl;unfold Blk at hb;rw [hb] at Bj;injection Bj with Bj;injection Bj with _ h3 _;exact hT h3
theorem Y7j.only {w w':World} {q:MV} {g:Nat} {S:TypeId} {cs:Array Value} (h:Y7j w q) (hb:Blk w g S cs) (hT:S ≠ 3) (ho:∀ k,k ≠ g -> w'.heap[k]?=w.heap[k]?):Y7j w' q:=⟨Q7v h.c hb hT ho,Q7v h.o hb hT ho,Q7v h.i hb hT ho⟩
theorem Z8l {w:World} {B:Nat} {T:TypeId} {v:Value} {qs:List MV} (h:Q1d w B T 5 Z0d v qs) (hl:qs.length <= 100000) (hr:J9m w qs) (hs:∀ q ∈ qs,Short q.1.name /\ q.1.classes.length <= 1000 /\ q.1.outside.length <= 1000 /\ q.1.inflow.length <= 1000):X0b w v (qs.map (·.1)):=by
 refine h.rowsOf (by simp) (by simp; omega) Z3s (fun j h1 h2=>?_) (fun c c' x hc h=>?_)
 . have hq:=List.getElem_mem h1
   have hm:=hr _ hq;obtain ⟨s1,s2,s3,s4⟩:=hs _ hq;simp only [List.getElem_map];exact ⟨rfl,rfl,hm.c.ints (by omega),hm.o.ints (by omega),hm.i.ints (by omega),s1⟩
 . exact ⟨by rw [<- hc 0 (by omega)]; exact h.1,by rw [<- hc 1 (by omega)]; exact h.2.1,by rw [<- hc 2 (by omega)]; exact h.2.2.1,by rw [<- hc 3 (by omega)]; exact h.2.2.2.1,by rw [<- hc 4 (by omega)]; exact h.2.2.2.2.1,h.2.2.2.2.2⟩
theorem Tryz.J8u:(prog.info? 69).map (fun i=>(i.zero,i.size,i.bytes))=some (some (.agg #[.string ⟨#[]⟩,.int .i64 0,.slice none 0 0,.slice none 0 0,.slice none 0 0]),5,96):=by kernel_rfl
theorem Tryz.J5v (w:World):(sizeOf 68).run prog w=.ok 5 w:=by kernel_rfl
theorem Tryz.J6z (w:World):(sizeOf 32).run prog w=.ok 1 w:=by kernel_rfl
theorem Tryz.X8f (w:World):(sizeOf 34).run prog w=.ok 3 w:=by kernel_rfl
theorem Tryz.J1h (w:World):(isAgg 34).run prog w=.ok true w:=by kernel_rfl
theorem Y4v (w:World) (i:Int) (a:Option Addr) (n c:Nat):(Instr.build 34 #[(0,.int .i64 i),(1,.slice a n c)]).run prog w=.ok (.agg #[.int .i64 i,.slice a n c,.slice none 0 0]) w:=by kernel_rfl
theorem Y7e (w:World) (s:ByteArray) (i:Int) (a b d:Option Addr) (n1 c1 n2 c2 n3 c3:Nat):(Instr.build 69 #[(0,.string s),(1,.int .i64 i),(2,.slice a n1 c1),(3,.slice b n2 c2),(4,.slice d n3 c3)]).run prog w=.ok (.agg #[.string s,.int .i64 i,.slice a n1 c1,.slice b n2 c2,.slice d n3 c3]) w:=by kernel_rfl
theorem J0e (w:World) (s:ByteArray) (i:Int) (a b d:Option Addr) (n1 c1 n2 c2 n3 c3:Nat):(Instr.buildSlice 32 1 #[(0,.agg #[.string s,.int .i64 i,.slice a n1 c1,.slice b n2 c2,.slice d n3 c3])]).run prog w=.ok (.slice (some ⟨w.heap.size,0,none⟩) 1 1) (w.alloc (.cells #[.string s,.int .i64 i,.slice a n1 c1,.slice b n2 c2,.slice d n3 c3] 69)):=by kernel_rfl
theorem X5u {w:World} {o:Oper} {a:Act} (T:TypeId) (x y:Operand) (Ow:o.op=.build T #[(0,x),(1,y)]) {u1 u2 r:Value} (h1:a.eval x=u1) (h2:a.eval y=u2) (hr:∀ w,(Instr.build T #[(0,u1),(1,u2)]).run prog w=.ok r w):(execOp a.eval o).run prog w=.ok (.value r) w:=by
 unfold execOp;simp only [Ow,List.map_toArray,List.map_cons,List.map_nil,h1,h2,Sem.run_bind,hr,Result.andThen_ok,Sem.run_pure]
theorem Z5z {w:World} {o:Oper} {a:Act} (T:TypeId) (x y z p q:Operand) (Ow:o.op=.build T #[(0,x),(1,y),(2,z),(3,p),(4,q)]) {u1 u2 u3 u4 u5 r:Value} (h1:a.eval x=u1) (h2:a.eval y=u2) (h3:a.eval z=u3) (h4:a.eval p=u4) (h5:a.eval q=u5) (hr:∀ w,(Instr.build T #[(0,u1),(1,u2),(2,u3),(3,u4),(4,u5)]).run prog w=.ok r w):(execOp a.eval o).run prog w=.ok (.value r) w:=by
 unfold execOp;simp only [Ow,List.map_toArray,List.map_cons,List.map_nil,h1,h2,h3,h4,h5,Sem.run_bind,hr,Result.andThen_ok,Sem.run_pure]
theorem Z7m {P:Program} {ops:Array Oper} {Q:Exit -> Act -> World -> Prop} {rest:List Oper} {a:Act} {w:World} {T ty:TypeId} {p x:Operand} {pos} {after} (h:wpList P ops Q (⟨none,.store T p x,ty,pos,after,none⟩ :: rest) a w):wpList P ops Q (⟨none,.store T p x,ty,pos,after,none⟩ :: rest) a w:=h
theorem K0s {a:ByteArray} {b:Int} {X Y Z:Option Addr} {l m n c d e:Nat}:∀ u ∈ (#[Value.string a,.int .i64 b,.slice X l c,.slice Y m d,.slice Z n e]:Array Value).toList,u.oneCell'=true:=by
 intro u hu;simp only [List.mem_cons,List.not_mem_nil,or_false] at hu
 rcases hu with rfl | rfl | rfl | rfl | rfl <;> rfl
theorem Q5o (w:World) (v:Value) (s:Q0b) (hv:Q0i w v s) (hs:Q2r s) :
    Calls prog 20 #[v] w fun e w'=>∃ u,e=.returned u /\ Q0i w' u s /\ Ext w w':=by
 obtain ⟨l0,li,lz0,lz1,lz2⟩:=info_parts J8u;obtain ⟨a,b,rfl,h2⟩:=hv;obtain ⟨A,Tq,rfl,-,-,-⟩:=h2.ships.opened;obtain ⟨B,Vq,rfl,-,-,hc⟩:=h2.members.opened;have H2:=hid h2;have HC:=hid hc;have HS:=hid hs;have Yo:=hs.ships;have Wo:=hs.members;obtain ⟨n,hn⟩:∃ n,s.members.length=n:=⟨_,rfl⟩;have HN:=hid hn;obtain ⟨T,hT⟩:∃ n,s.ships.length=n:=⟨_,rfl⟩;have HT:=hid hT;obtain ⟨lim,Mz⟩:∃ n,s.limit=n:=⟨_,rfl⟩;have Gw:=hid Mz;have Fk:=h2.ships;rw [hT] at Fk Yo;rw [hn] at HC Wo;rw [hn,hT,Mz];have T8:=hid Fk;clear h2 hc hs hn hT Mz Fk;go_enter func20,ntmps20;go_wp2_with fail;obtain ⟨W,Mq,k0,k1,Rq,eW⟩:=Q4p w 25 #[.int .i64 lim,.slice A T Tq,.slice B n Vq] 34 #[.int .i64 0,.slice none 0 0,.slice none 0 0];rw [Mq];clear Mq;obtain ⟨gs,Rj⟩:∃ x,w.heap.size=x:=⟨_,rfl⟩;have rx:=hid Rj;rw [Rj] at k0 k1 eW ⊢;have K0:=hid k0;have K1:=hid k1;clear k0 k1 Rj;have Xq:=(Ext.refl W).drew;refine Flow.Q3q [.p,.w,.p,.w,.w,.p,.w,.last] [0,1,2,3,4,5,6,7] [[],[0],[],[2],[2,3],[0,1,2,3,4],[],[0,1,2,3,4,5,6]] [7]
  [.c 0 (.pointer (some ⟨gs,0,none⟩)),.c 1 (.int .i64 lim),.c 2 (.pointer (some ⟨gs,1,none⟩)),.c 3 (.slice A T Tq),⟨fun v wz=>(fun v w'=>Q0q w' 0 3 (.int .i64) (v 4) s.ships) v wz,fun _ _ _ hx h=>Q0q.below h hx⟩,⟨fun v wz=>(fun v w'=>v 5=.agg #[.int .i64 lim,v 4,.slice none 0 0]) v wz,by intro _ _ _ _ h; exact h⟩,⟨fun v wz=>(fun v w'=>∃ g,v 6=.pointer (some ⟨g,0,none⟩) /\ Blk w' g 34 #[.int .i64 0,.slice none 0 0,.slice none 0 0] /\ W.heap.size <= g) v wz,by rintro v a b hx ⟨g,h1,h2,h3⟩; exact ⟨g,h1,h2.ext hx,h3⟩⟩,.none]
  [fun v w1 w'=>∃ g,v 6=.pointer (some ⟨g,0,none⟩) /\ Blk w1 g 34 #[.int .i64 0,.slice none 0 0,.slice none 0 0] /\ Blk w' g 34 #[.int .i64 lim,v 4,.slice none 0 0] /\ (∀ n,n <= g -> Below n w1 w') /\ (∀ k,k ≠ g -> w'.heap[k]?=w1.heap[k]?) /\ W.heap.size <= g /\ Q0q w1 0 3 (.int .i64) (v 4) s.ships] (by kernel_rfl) rfl (by kernel_rfl) ⟨?g0,?g1,?g2,?g3,?g4,?g5,?g6,?g7,trivial⟩ ?post
 case g0 | g2=>
  intro v w1 hx;intro bb hbb;subst hbb;refine ⟨_,fun w=>?_,rfl⟩;go_simp
 case g1 | g3=>
  intro v w1 hx;(repeat intro (zq:v _=_));intro bb hbb;subst hbb;have n0:w1.cell? ⟨gs,0,none⟩=some (.int .i64 lim):=(K0.out.ext (Xq.trans hx)).cell 0;have n1:w1.cell? ⟨gs,1,none⟩=some (.slice A T Tq):=(K0.out.ext (Xq.trans hx)).cell 1;intro K hK;go_simp;exact hK _ _ (Ext.refl _) rfl
 case g4=>
  intro v w1 hx;(repeat intro (zq:v _=_));intro bb hbb;subst hbb;intro K hK;go_simp;refine Q0e (X0a w1 _ _ (T8.out.ext (Rq.out.trans (Xq.trans hx))) (by rw [HT.out]; omega)) ?_
  rintro e w2 ⟨u,rfl,Yq,Nq⟩;exact ⟨_,rfl,hK _ _ Nq (Q0q.weaken Yq (Nat.zero_le _))⟩
 case g5=>
  intro v w1 hx (q0:v 0=_) (q1:v 1=_) (q2:v 2=_) (q3:v 3=_) (q4:(fun v w'=>Q0q w' 0 3 (.int .i64) (v 4) s.ships) v w1);intro bb hbb;obtain ⟨s9,c9,e9,_⟩:=Q0q.shape q4;have o1:bb.eval (.tmp 7)=.int .i64 lim:=fzg08
  have o2:bb.eval (.tmp 10)=v 4:=fzg08
  rw [e9] at o2;exact ⟨_,fun w=>X5u _ (.tmp 7) (.tmp 10) rfl o1 o2 (fun w=>Y4v w _ _ _ _),by show Value.agg #[.int .i64 lim,.slice s9 s.ships.length c9,.slice none 0 0]=Value.agg #[.int .i64 lim,v 4,.slice none 0 0]; rw [e9]⟩
 case g6=>
  intro v w1 hx;intro bb hbb;subst hbb;intro K hK;go_simp;exact hK _ _ (Ext.box _ _) ⟨_,rfl,Blk.made _ _ _,(Xq.trans hx).size⟩
 case g7=>
  intro v w1 hx (q0:v 0=_) (q1:v 1=_) (q2:v 2=_) (q3:v 3=_) (q4:(fun v w'=>Q0q w' 0 3 (.int .i64) (v 4) s.ships) v w1) (q5:(fun v w'=>v 5=.agg #[.int .i64 lim,v 4,.slice none 0 0]) v w1) (q6:(fun v w'=>∃ g,v 6=.pointer (some ⟨g,0,none⟩) /\ Blk w' g 34 #[.int .i64 0,.slice none 0 0,.slice none 0 0] /\ W.heap.size <= g) v w1);intro wl hT;obtain rfl:wl=w1:=hT;intro bb hbb;intro K hK;obtain ⟨g,e13,Q3,L5⟩:=q6;obtain ⟨s9,c9,e9,_⟩:=Q0q.shape q4;have o1:bb.eval (.tmp 3)=.pointer (some ⟨g,0,none⟩):=fzg08
  have o2:bb.eval (.tmp 11)=.agg #[.int .i64 lim,v 4,.slice none 0 0]:=fzg08
  exact Q1q (.tmp 3) (.tmp 11) _ rfl X8f o1 o2 Q3 rfl rfl (by intro u hu; rw [e9] at hu; simp only [List.mem_cons,List.not_mem_nil,or_false] at hu; rcases hu with rfl | rfl | rfl <;> rfl) (fun vv w' hb hl ho=>hK _ _ ⟨g,e13,Q3,hb,hl,ho,L5,q4⟩)
 case post =>
  intro v w1 hx (q0:v 0=_) (q1:v 1=_) (q2:v 2=_) (q3:v 3=_) (q4:(fun v w'=>Q0q w' 0 3 (.int .i64) (v 4) s.ships) v w1) (q5:(fun v w'=>v 5=.agg #[.int .i64 lim,v 4,.slice none 0 0]) v w1) (q6:(fun v w'=>∃ g,v 6=.pointer (some ⟨g,0,none⟩) /\ Blk w' g 34 #[.int .i64 0,.slice none 0 0,.slice none 0 0] /\ W.heap.size <= g) v w1);intro w2 hE;replace hE:(fun v w1 w'=>∃ g,v 6=.pointer (some ⟨g,0,none⟩) /\ Blk w1 g 34 #[.int .i64 0,.slice none 0 0,.slice none 0 0] /\ Blk w' g 34 #[.int .i64 lim,v 4,.slice none 0 0] /\ (∀ n,n <= g -> Below n w1 w') /\ (∀ k,k ≠ g -> w'.heap[k]?=w1.heap[k]?) /\ W.heap.size <= g /\ Q0q w1 0 3 (.int .i64) (v 4) s.ships) v w1 w2:=hE;simp only [Flow.acts,Act.put];go_simp;obtain ⟨O,e6,Kh,Nj,Wj,cj,Sc,Jh⟩:=hE;have Zq:=Xq.trans hx;have Nq:Ext W w2:=Below.trans Zq (Wj _ Sc);have tY:=Q7v Jh Kh (by decide) cj
  obtain ⟨su,cu,eu,_⟩:=tY.shape;have Wz:=hid Nq;have Fx:=hid (K0.out.ext Nq);have vz:=hid (K1.out.ext Nq);have kq:Hid (W.heap.size <= O):=hid Sc;rw [e6];obtain ⟨uv,Gh⟩:∃ z,v 4=z:=⟨_,rfl⟩;rw [Gh] at Nj tY eu ⊢;have HU:=hid tY;have ez:=hid Nj;have Vo:=hid eu;have Uo:gs + 1 + 1 <= O:=by omega
  have Cr:O + 1 <= w2.heap.size:=by have:=Nj.lt; omega
  have c2:w2.cell? ⟨gs,2,none⟩=some (.slice B n Vq):=Fx.out.cell 2;obtain ⟨wb,rfl⟩:∃ Z,Z=w2:=⟨_,rfl⟩;clear hx Xq Zq Nq tY eu Kh Nj Wj cj Sc Jh e6 Gh eW q0 q1 q2 q3 q4 q5 q6;go_wp2_with fail;clear c2
  go_loopw [15] (fun i wr=>∃ (k:Nat) (xv:Value) (qs:List MV),k <= n /\ i=.int .i64 k /\ Q1d wr wb.heap.size 69 5 Z0d xv qs /\ qs.map (·.1)=s.members.take k /\ J9m wr qs /\ Q0q wr 0 3 (.int .i64) uv s.ships /\ Blk wr O 34 #[.int .i64 lim,uv,xv] /\ Off O wb wr) (fun i _=>n - (intOf i).toNat)
  case atStart=>exact ⟨0,_,[],Nat.zero_le _,rfl,Q1d.nil _ _ _ _ _,rfl,(fun q hq=>by simp at hq),HU.out,ez.out,Off.refl _ _⟩
  case round =>
   obtain ⟨k,xv,qs,hk,rfl,Yq,qx,Jw,hu,Zx,qg⟩:=hrel;have xz:qs.length=k:=by rw [<- List.length_map (f:=(·.1)),qx,List.length_take,HN.out]; omega
   have Gq:Ext w wr:=Below.trans Rq.out (Below.trans (Wz.out.mono (by have:=rx.out; have:=Rq.out.size; omega)) (qg.1.mono (by have:=rx.out; omega)))
   have Ey:=hid qx;have A3:=hid Jw;have Fh:=hid hu;have Rz:=hid Yq;have ly:=hid Zx;have R5:=hid qg
   by_cases Uq:k < n
   . have zj:(k:Int) < n:=by omega
     obtain ⟨b1,off,x,y,z,rfl,hb,e0,e1,e2,e3,e4,Ww,Fk,WZ,oJ⟩:=HC.out k Uq;replace e0:=Gq.cell e0;replace e1:=Gq.cell e1;replace e2:=Gq.cell e2;replace e3:=Gq.cell e3;replace e4:=Gq.cell e4;obtain ⟨X,Sq,rfl,-,-,-⟩:=Ww.opened;obtain ⟨Y,Jq,rfl,-,-,-⟩:=Fk.opened;obtain ⟨Z,Cq,rfl,-,-,-⟩:=WZ.opened;have nj:=HS.out.each k (by rw [HN.out]; exact Uq)
     obtain ⟨-,To,Y9,So⟩:=nj;have ey:s.members.take (k + 1)=s.members.take k ++ [⟨Q1s s.members k,Q0n s.members k,Q0c s.members k,Q1c s.members k,Q1f s.members k⟩]:=by
      rw [List.take_succ_eq_append_getElem (by rw [HN.out]; exact Uq)]
      unfold Q1s Q0n Q0c Q1c Q1f;rw [Q0u _ (by rw [HN.out]; exact Uq)]
     have az:=hid ey;have YV:=hid (Ww.ext Gq);have Eh:=hid (Fk.ext Gq);have TY:=hid (WZ.ext Gq);obtain ⟨nm,Aj⟩:∃ x,Q1s s.members k=x:=⟨_,rfl⟩;obtain ⟨wt,lq⟩:∃ x,Q0n s.members k=x:=⟨_,rfl⟩;obtain ⟨l1,Pw⟩:∃ x,Q0c s.members k=x:=⟨_,rfl⟩;obtain ⟨l2,Qk⟩:∃ x,Q1c s.members k=x:=⟨_,rfl⟩;obtain ⟨l3,By⟩:∃ x,Q1f s.members k=x:=⟨_,rfl⟩;rw [Aj,lq,Pw,Qk,By] at az;rw [Aj] at e0;rw [lq] at e1;rw [Pw] at e2 YV To;rw [Qk] at e3 Eh Y9;rw [By] at e4 TY So;obtain ⟨wq,rfl⟩:∃ Z,Z=wr:=⟨_,rfl⟩;clear Yq qx Jw hu Zx qg Gq Ww Fk WZ oJ ey Aj lq Pw Qk By;go_wp2_with (with_reducible (refine Z7m ?_); refine Q0t rfl _ _ _ rfl J5v rfl rfl (Blk.made _ _ _) rfl rfl K0s ?_; intro w3 zk XV M3; refine halted ?_);obtain ⟨gm,fx⟩:∃ x,wq.heap.size=x:=⟨_,rfl⟩;have yj:Ext wq w3:=Below.trans (Ext.box wq _) (XV _ (Nat.le_refl _));rw [fx] at zk ⊢;have Uo:O < gm:=by have:=ly.out.lt; omega
     have KB:=hid zk;have Lg:=hid yj;have WJ:=hid (ly.out.ext yj);have Rv:=hid (Rz.out.below yj);have Rc:Hid (J9m w3 qs):=hid (fun q hq=>(A3.out q hq).ext yj);have Ro:=hid (Fh.out.below yj);have WV:=hid (R5.out.ext yj (by omega))
     have Qo:=hid (YV.out.ext yj);have sG:=hid (Eh.out.ext yj);have rG:=hid (TY.out.ext yj);have Xq:=(Ext.refl w3).drew;have Po:wb.heap.size <= w3.heap.size:=WV.out.2.1;clear zk XV M3 yj fx e0 e1 e2 e3 e4;unfold Q1o;go_wp2_with fail;refine Flow.Q3q [.p,.w,.p,.w,.p,.w,.p,.w,.w,.p,.w,.w,.p,.w,.w,.p,.w,.last,.last,.last] [0,1,2,3,4,5,6,7,8,9,10,11,12,13,14,15,16,17,18,19] [[],[0],[],[2],[],[4],[],[6],[6,7],[],[9],[6,7,8,9,10],[],[12],[6,7,8,9,10,11,12,13],[2,3,4,5,6,7,8,9,10,11,12,13,14],[2,3,4,5,6,7,8,9,10,11,12,13,14,15],[0,1,2,3,4,5,6,7,8,9,10,11,12,13,14,15,16],[0,1,2,3,4,5,6,7,8,9,10,11,12,13,14,15,16,17],[0,1,2,3,4,5,6,7,8,9,10,11,12,13,14,15,16,17,18]] [17,18,19]
      [.c 0 (.pointer (some ⟨O,2,none⟩)),.c 1 (xv),.c 2 (.pointer (some ⟨gm,0,none⟩)),.c 3 (.string nm),.c 4 (.pointer (some ⟨gm,1,none⟩)),.c 5 (.int .i64 wt),.c 6 (.pointer (some ⟨gm,2,none⟩)),.c 7 (.slice X l1.length Sq),⟨fun v wz=>(fun v w'=>Q0q w' 0 3 (.int .i64) (v 8) l1) v wz,fun _ _ _ hx h=>Q0q.below h hx⟩,.c 9 (.pointer (some ⟨gm,3,none⟩)),.c 10 (.slice Y l2.length Jq),⟨fun v wz=>(fun v w'=>Q0q w' 0 3 (.int .i64) (v 11) l2) v wz,fun _ _ _ hx h=>Q0q.below h hx⟩,.c 12 (.pointer (some ⟨gm,4,none⟩)),.c 13 (.slice Z l3.length Cq),⟨fun v wz=>(fun v w'=>Q0q w' 0 3 (.int .i64) (v 14) l3) v wz,fun _ _ _ hx h=>Q0q.below h hx⟩,⟨fun v wz=>(fun v w'=>v 15=.agg #[.string nm,.int .i64 wt,v 8,v 11,v 14]) v wz,by intro _ _ _ _ h; exact h⟩,⟨fun v wz=>(fun v w'=>∃ g,v 16=.slice (some ⟨g,0,none⟩) 1 1 /\ Blk w' g 69 (Z0d (⟨nm,wt,l1,l2,l3⟩,v 8,v 11,v 14)).toArray) v wz,by rintro v a b hx ⟨g,h1,h2⟩; exact ⟨g,h1,h2.ext hx⟩⟩,.none,.none,.none]
      [fun v w1 w'=>Q1d w' wb.heap.size 69 5 Z0d (v 17) (qs ++ [(⟨nm,wt,l1,l2,l3⟩,v 8,v 11,v 14)]) /\ w1.grownBy w' xv.ownBlock,fun v w1 w'=>v 18=.pointer (some ⟨O,2,none⟩) /\ Q1d w' wb.heap.size 69 5 Z0d (v 17) (qs ++ [(⟨nm,wt,l1,l2,l3⟩,v 8,v 11,v 14)]) /\ w1.grownBy w' xv.ownBlock,fun v w1 w'=>∃ x wm,Q1d wm wb.heap.size 69 5 Z0d x (qs ++ [(⟨nm,wt,l1,l2,l3⟩,v 8,v 11,v 14)]) /\ w1.grownBy wm xv.ownBlock /\ w'=wm.setCell ⟨O,2,none⟩ x] (by kernel_rfl) rfl (by kernel_rfl) ⟨?g0,?g1,?g2,?g3,?g4,?g5,?g6,?g7,?g8,?g9,?g10,?g11,?g12,?g13,?g14,?g15,?g16,?g17,?g18,?g19,trivial⟩ ?post
     case g0 | g2 | g4 | g6 | g9 | g12=>
      intro v w1 hx;intro bb hbb;subst hbb;refine ⟨_,fun w=>?_,rfl⟩;go_simp
     case g1 | g3 | g5 | g7 | g10 | g13=>
      intro v w1 hx;(repeat intro (zq:v _=_));intro bb hbb;subst hbb;have n0:w1.cell? ⟨O,2,none⟩=some xv:=(WJ.out.ext (Xq.trans hx)).cell 2;have n1:w1.cell? ⟨gm,0,none⟩=some (.string nm):=(KB.out.ext (Xq.trans hx)).cell 0;have n2:w1.cell? ⟨gm,1,none⟩=some (.int .i64 wt):=(KB.out.ext (Xq.trans hx)).cell 1;have n3:w1.cell? ⟨gm,2,none⟩=some (.slice X l1.length Sq):=(KB.out.ext (Xq.trans hx)).cell 2;have n4:w1.cell? ⟨gm,3,none⟩=some (.slice Y l2.length Jq):=(KB.out.ext (Xq.trans hx)).cell 3;have n5:w1.cell? ⟨gm,4,none⟩=some (.slice Z l3.length Cq):=(KB.out.ext (Xq.trans hx)).cell 4;intro K hK;go_simp;exact hK _ _ (Ext.refl _) rfl
     case g8=>
      intro v w1 hx;(repeat intro (zq:v _=_));intro bb hbb;subst hbb;intro K hK;go_simp;refine Q0e (X0a w1 _ _ (Qo.out.ext (Xq.trans hx)) (by omega)) ?_
      rintro e w2 ⟨u,rfl,Yq,Nq⟩;exact ⟨_,rfl,hK _ _ Nq (Q0q.weaken Yq (Nat.zero_le _))⟩
     case g11=>
      intro v w1 hx (q6:v 6=_) (q7:v 7=_) _ (q9:v 9=_) (q10:v 10=_);intro bb hbb;subst hbb;intro K hK;go_simp;refine Q0e (X0a w1 _ _ (sG.out.ext (Xq.trans hx)) (by omega)) ?_
      rintro e w2 ⟨u,rfl,Yq,Nq⟩;exact ⟨_,rfl,hK _ _ Nq (Q0q.weaken Yq (Nat.zero_le _))⟩
     case g14=>
      intro v w1 hx (q6:v 6=_) (q7:v 7=_) _ (q9:v 9=_) (q10:v 10=_) _ (q12:v 12=_) (q13:v 13=_);intro bb hbb;subst hbb;intro K hK;go_simp;refine Q0e (X0a w1 _ _ (rG.out.ext (Xq.trans hx)) (by omega)) ?_
      rintro e w2 ⟨u,rfl,Yq,Nq⟩;exact ⟨_,rfl,hK _ _ Nq (Q0q.weaken Yq (Nat.zero_le _))⟩
     case g15=>
      intro v w1 hx (q2:v 2=_) (q3:v 3=_) (q4:v 4=_) (q5:v 5=_) (q6:v 6=_) (q7:v 7=_) (q8:(fun v w'=>Q0q w' 0 3 (.int .i64) (v 8) l1) v w1) (q9:v 9=_) (q10:v 10=_) (q11:(fun v w'=>Q0q w' 0 3 (.int .i64) (v 11) l2) v w1) (q12:v 12=_) (q13:v 13=_) (q14:(fun v w'=>Q0q w' 0 3 (.int .i64) (v 14) l3) v w1);intro bb hbb;obtain ⟨s9,c9,e9,_⟩:=Q0q.shape q8;obtain ⟨s10,c10,e10,_⟩:=Q0q.shape q11;obtain ⟨s11,c11,e11,_⟩:=Q0q.shape q14;have o1:bb.eval (.tmp 22)=.string nm:=fzg08
      have o2:bb.eval (.tmp 24)=.int .i64 wt:=fzg08
      have o3:bb.eval (.tmp 27)=v 8:=fzg08
      have o4:bb.eval (.tmp 30)=v 11:=fzg08
      have o5:bb.eval (.tmp 33)=v 14:=fzg08
      rw [e9] at o3;rw [e10] at o4;rw [e11] at o5;exact ⟨_,fun w=>Z5z _ (.tmp 22) (.tmp 24) (.tmp 27) (.tmp 30) (.tmp 33) rfl o1 o2 o3 o4 o5 (fun w=>Y7e w _ _ _ _ _ _ _ _ _ _ _),by show Value.agg #[.string nm,.int .i64 wt,.slice s9 l1.length c9,.slice s10 l2.length c10,.slice s11 l3.length c11]=Value.agg #[.string nm,.int .i64 wt,v 8,v 11,v 14]; rw [e9,e10,e11]⟩
     case g16=>
      intro v w1 hx (q2:v 2=_) (q3:v 3=_) (q4:v 4=_) (q5:v 5=_) (q6:v 6=_) (q7:v 7=_) (q8:(fun v w'=>Q0q w' 0 3 (.int .i64) (v 8) l1) v w1) (q9:v 9=_) (q10:v 10=_) (q11:(fun v w'=>Q0q w' 0 3 (.int .i64) (v 11) l2) v w1) (q12:v 12=_) (q13:v 13=_) (q14:(fun v w'=>Q0q w' 0 3 (.int .i64) (v 14) l3) v w1) (q15:(fun v w'=>v 15=.agg #[.string nm,.int .i64 wt,v 8,v 11,v 14]) v w1);intro bb hbb;intro K hK;obtain ⟨s9,c9,e9,_⟩:=Q0q.shape q8;obtain ⟨s10,c10,e10,_⟩:=Q0q.shape q11;obtain ⟨s11,c11,e11,_⟩:=Q0q.shape q14;have o1:bb.eval (.tmp 34)=.agg #[.string nm,.int .i64 wt,v 8,v 11,v 14]:=fzg08
      rw [e9,e10,e11] at o1;have mx:Blk (w1.alloc (.cells (Value.agg #[.string nm,.int .i64 wt,.slice s9 l1.length c9,.slice s10 l2.length c10,.slice s11 l3.length c11]).cells 69)) w1.heap.size 69 (Z0d (⟨nm,wt,l1,l2,l3⟩,v 8,v 11,v 14)).toArray:=by rw [e9,e10,e11]; exact Blk.made _ _ _
      exact Q3o 32 69 (.tmp 34) rfl o1 (J0e w1 _ _ _ _ _ _ _ _ _ _ _) (hK _ _ (Ext.box _ _) ⟨_,rfl,mx⟩)
     case g17=>
      intro v w1 hx (q0:v 0=_) (q1:v 1=_) (q2:v 2=_) (q3:v 3=_) (q4:v 4=_) (q5:v 5=_) (q6:v 6=_) (q7:v 7=_) (q8:(fun v w'=>Q0q w' 0 3 (.int .i64) (v 8) l1) v w1) (q9:v 9=_) (q10:v 10=_) (q11:(fun v w'=>Q0q w' 0 3 (.int .i64) (v 11) l2) v w1) (q12:v 12=_) (q13:v 13=_) (q14:(fun v w'=>Q0q w' 0 3 (.int .i64) (v 14) l3) v w1) _ (q16:(fun v w'=>∃ g,v 16=.slice (some ⟨g,0,none⟩) 1 1 /\ Blk w' g 69 (Z0d (⟨nm,wt,l1,l2,l3⟩,v 8,v 11,v 14)).toArray) v w1);intro wl hT;obtain rfl:wl=w1:=hT;intro bb hbb;intro K hK;obtain ⟨g,VV,D5⟩:=q16;have o1:bb.eval (.tmp 20)=xv:=fzg08
      have o2:bb.eval (.tmp 35)=.slice (some ⟨g,0,none⟩) 1 1:=fzg08
      have Zq:=Xq.trans hx;exact Q2y _ _ 32 rfl wb.heap.size 69 l0 (.agg #[.string ⟨#[]⟩,.int .i64 0,.slice none 0 0,.slice none 0 0,.slice none 0 0]) 5 96 underlying32 li lz0 lz1 lz2 rfl (by decide) Z0d Z3s xv _ (⟨nm,wt,l1,l2,l3⟩,v 8,v 11,v 14) o1 (Rv.out.below Zq) ⟨g,0,none⟩ 1 o2 (Q6d D5) (Y7j.one (q:=(⟨nm,wt,l1,l2,l3⟩,v 8,v 11,v 14)) ⟨q8,q11,q14⟩) (by omega) (by decide) (by have:=Zq.size; omega) (fun v' w' h1 h2=>hK _ _ ⟨h1,h2⟩)
     case g18=>
      intro v w1 hx (q0:v 0=_) (q1:v 1=_) (q2:v 2=_) (q3:v 3=_) (q4:v 4=_) (q5:v 5=_) (q6:v 6=_) (q7:v 7=_) _ (q9:v 9=_) (q10:v 10=_) _ (q12:v 12=_) (q13:v 13=_) _ _ _;intro wl hT;replace hT:(fun v w1 w'=>Q1d w' wb.heap.size 69 5 Z0d (v 17) (qs ++ [(⟨nm,wt,l1,l2,l3⟩,v 8,v 11,v 14)]) /\ w1.grownBy w' xv.ownBlock) v w1 wl:=hT;intro bb hbb;subst hbb;intro K hK;go_simp;exact hK _ _ ⟨rfl,hT⟩
     case g19=>
      intro v w1 hx (q0:v 0=_) (q1:v 1=_) (q2:v 2=_) (q3:v 3=_) (q4:v 4=_) (q5:v 5=_) (q6:v 6=_) (q7:v 7=_) _ (q9:v 9=_) (q10:v 10=_) _ (q12:v 12=_) (q13:v 13=_) _ _ _;intro wl hT;replace hT:(fun v w1 w'=>v 18=.pointer (some ⟨O,2,none⟩) /\ Q1d w' wb.heap.size 69 5 Z0d (v 17) (qs ++ [(⟨nm,wt,l1,l2,l3⟩,v 8,v 11,v 14)]) /\ w1.grownBy w' xv.ownBlock) v w1 wl:=hT;intro bb hbb;intro K hK;obtain ⟨cG,Tg,Wy⟩:=hT;have Zq:=Xq.trans hx;obtain ⟨bp,cp,nj,_⟩:=Tg.shape;have o1:bb.eval (.tmp 37)=.pointer (some ⟨O,2,none⟩):=fzg08
      have o2:bb.eval (.tmp 36)=v 17:=fzg08
      have mx:=Go.Tw.Q5f (WJ.out.ext Zq) (Rv.out.below Zq) (by omega) Wy
      exact Q3t _ _ rfl J6z (g:=O) (k:=2) o1 o2 (by rw [nj]; rfl) (by rw [nj]; rfl) mx (by show 2 < 3; omega) (fun v'=>hK _ _ ⟨v 17,wl,Tg,Wy,rfl⟩)
     case post =>
      intro v w1 hx;(iterate 8 intro (zq:v _=_));intro (q8:(fun v w'=>Q0q w' 0 3 (.int .i64) (v 8) l1) v w1);(iterate 2 intro (zq:v _=_));intro (q11:(fun v w'=>Q0q w' 0 3 (.int .i64) (v 11) l2) v w1);(iterate 2 intro (zq:v _=_));intro (q14:(fun v w'=>Q0q w' 0 3 (.int .i64) (v 14) l3) v w1) (q15:(fun v w'=>v 15=.agg #[.string nm,.int .i64 wt,v 8,v 11,v 14]) v w1) (q16:(fun v w'=>∃ g,v 16=.slice (some ⟨g,0,none⟩) 1 1 /\ Blk w' g 69 (Z0d (⟨nm,wt,l1,l2,l3⟩,v 8,v 11,v 14)).toArray) v w1);intro w2 hE;replace hE:(fun v w1 w'=>∃ x wm,Q1d wm wb.heap.size 69 5 Z0d x (qs ++ [(⟨nm,wt,l1,l2,l3⟩,v 8,v 11,v 14)]) /\ w1.grownBy wm xv.ownBlock /\ w'=wm.setCell ⟨O,2,none⟩ x) v w1 w2:=hE;simp only [Flow.acts,Act.put];go_simp;obtain ⟨x,wm,W9,fx,rfl⟩:=hE;have Zq:=Xq.trans hx;have Tk:=Go.Tw.Q5f (WJ.out.ext Zq) (Rv.out.below Zq) (by omega) fx
      have O0:=((WV.out.ext Zq (by omega)).grown (Rv.out.below Zq) (by omega) (by omega) fx).set 2 x
      have N3:=hid (W9.Q8n (p:=⟨O,2,none⟩) (by show O < wb.heap.size; omega) x)
      have m6:=hid (Tk.set 2 x);have UV:=hid O0;have Dh:=hid (Q7g (u:=x) (k:=2) (Q4e (Ro.out.below Zq) (Rv.out.below Zq) (by decide) fx) Tk (by decide))
      have j8:Hid (J9m (wm.setCell ⟨O,2,none⟩ x) (qs ++ [(⟨nm,wt,l1,l2,l3⟩,v 8,v 11,v 14)])):=hid (fun q hq=>by
       rcases List.mem_append.1 hq with hq | hq
       . exact (((Rc.out q hq).ext Zq).grown (Rv.out.below Zq) (by decide) fx).set Tk (by decide)
       . rw [List.mem_singleton.1 hq]
         exact (Y7j.grown (q:=(⟨nm,wt,l1,l2,l3⟩,v 8,v 11,v 14)) ⟨q8,q11,q14⟩ (Rv.out.below Zq) (by decide) fx).set Tk (by decide))
      obtain ⟨w6,V9⟩:∃ y,wm.setCell ⟨O,2,none⟩ x=y:=⟨_,rfl⟩;rw [V9] at N3 m6 UV Dh j8 ⊢;clear V9 W9 fx Zq hx Tk O0 Xq q8 q11 q14 q15 q16;(repeat clear zq);go_wp2;go_roundw
      case rel=>exact ⟨k + 1,x,qs ++ [(⟨nm,wt,l1,l2,l3⟩,v 8,v 11,v 14)],by omega,by go_num,N3.out,by rw [List.map_append,Ey.out,az.out]; rfl,j8.out,Dh.out,m6.out,UV.out⟩
      case measure=>simp [intOf]; omega
   . have zj:¬ (k:Int) < n:=by omega
     have rj:k=n:=by omega
     have mq:s.members.take k=s.members:=by rw [List.take_of_length_le (by rw [HN.out]; omega)]
     rw [mq] at qx;have hsm:∀ q ∈ qs,Short q.1.name /\ q.1.classes.length <= 1000 /\ q.1.outside.length <= 1000 /\ q.1.inflow.length <= 1000:=fun q hq=>by
      have hm:q.1 ∈ s.members:=by rw [<- qx]; exact List.mem_map_of_mem hq
      obtain ⟨j,hj,he⟩:=List.getElem_of_mem hm;obtain ⟨_,_,_,_,_,_,_,_,_,_,_,_,_,_,_,oJ⟩:=HC.out j (by rw [<- HN.out]; exact hj)
      obtain ⟨-,h1,h2,h3⟩:=HS.out.each j hj;unfold Q1s at oJ;unfold Q0c at h1;unfold Q1c at h2;unfold Q1f at h3;rw [Q0u _ hj,he] at oJ h1 h2 h3;exact ⟨oJ,by omega,by omega,by omega⟩
     have Xg:=hid hsm;have hr:=vz.out.below R5.out.1 (by omega)
     have N4:=hid hr;have Pj:=hid Gq;have EX:=hid qx;have Rz:=hid Yq;have Qc:=hid Zx;obtain ⟨ax,cx,ex,-⟩:=Yq.shape;have Z2:=hid xz;have Pv:∀ u ∈ (#[Value.int .i64 lim,uv,xv]:Array Value).toList,u.oneCell'=true:=by
      intro u hu;simp only [List.mem_cons,List.not_mem_nil,or_false] at hu
      rcases hu with rfl | rfl | rfl
      . rfl
      . rw [Vo.out]; rfl
      . rw [ex]; rfl
     have dj:=hid Pv;clear Yq qx Jw hu Zx qg Gq mq hsm Pv ex xz;go_wp2_with (first | (refine Q9g rfl _ _ rfl J1h X8f rfl Qc.out rfl ?_) | (refine Q0t rfl _ _ 34 rfl X8f rfl rfl hr rfl rfl dj.out ?_; intro w9 Nj Wj cj))
     refine bodyPost_ret (Q2e results20 rfl Nj J1h X8f) rfl ?_;refine ⟨_,rfl,⟨_,_,by rw [<- Gw.out],⟨?_,?_⟩⟩,Below.trans Pj.out (Wj _ (by have:=rx.out; omega))⟩
     . exact (Q7v Fh.out N4.out (by decide) cj).ints (by rw [HT.out]; omega)
     . have h:=Z8l (Rz.out.only (g:=gs + 1) (by omega) cj) (by rw [Z2.out]; omega) (fun q hq=>(A3.out q hq).only N4.out (by decide) cj) Xg.out
       rw [EX.out] at h;exact h
end Go.Proofs
namespace Go.Proofs
open Go.RowKit Go.Tw Go.Flow Tryz
theorem Tryz.info22:(prog.info? 22).map (fun i=>(i.zero,i.size,i.bytes))=some (some (.slice none 0 0),1,24):=by kernel_rfl
def RL (w:World) (vs:List Value) (ll:List (List Int)):Prop:=vs.length=ll.length /\ ∀ j,j < ll.length -> Q0q w 0 3 (.int .i64) (vs.getD j undef) (ll.getD j [])
def LL (w:World) (B:Nat) (v:Value) (ll:List (List Int)):Prop:=∃ vs,Q0q w B 22 idV v vs /\ RL w vs ll
theorem RL.ext {w w':World} {vs:List Value} {ll:List (List Int)} (h:RL w vs ll) (hx:Ext w w'):RL w' vs ll:=⟨h.1,fun j hj=>(h.2 j hj).below hx⟩
theorem LL.ext {w w':World} {B:Nat} {v:Value} {ll:List (List Int)} (h:LL w B v ll) (hx:Ext w w'):LL w' B v ll:=let ⟨vs,h1,h2⟩:=h; ⟨vs,h1.below hx,h2.ext hx⟩
theorem LL.weaken {w:World} {B B':Nat} {v:Value} {ll:List (List Int)} (h:LL w B v ll) (hb:B' <= B):LL w B' v ll:=let ⟨vs,h1,h2⟩:=h; ⟨vs,h1.weaken hb,h2⟩
theorem LL.nil (w:World) (B:Nat):LL w B (.slice none 0 0) []:=⟨[],Q0q.nil _ _ _ _,rfl,fun j hj=>by simp at hj⟩
theorem J3h {w:World} {v:Value} {l:List Int} (h:Q0q w 0 3 (.int .i64) v l):(idV v).oneCell'=true:=by
 obtain ⟨b,c,rfl,_⟩:=h.shape;rfl
theorem RL.one {w:World} {vs:List Value} {ll:List (List Int)} (h:RL w vs ll):∀ y ∈ vs,(idV y).oneCell'=true:=by
 intro y hy;obtain ⟨i,hi,rfl⟩:=List.getElem_of_mem hy;have h2:=h.2 i (by rw [<- h.1]; exact hi)
 rw [Q0u _ hi] at h2;exact J3h h2
theorem RL.insert {w:World} {vs:List Value} {ll:List (List Int)} {v:Value} {l:List Int} {n:Nat} (h:RL w vs ll) (hv:Q0q w 0 3 (.int .i64) v l) (hn:n <= ll.length):RL w (vs.take n ++ [v] ++ vs.drop n) (ll.take n ++ [l] ++ ll.drop n):=by
 obtain ⟨h1,h2⟩:=h;refine ⟨by simp [h1],fun i hi=>?_⟩
 have Dq:(ll.take n ++ [l] ++ ll.drop n).length=ll.length + 1:=by simp; omega
 rw [Dq] at hi;rw [X9j v undef n vs i (by omega),X9j l [] n ll i hn]
 by_cases h3:i < n
 . rw [if_pos h3,if_pos h3]; exact h2 i (by omega)
 . rw [if_neg h3,if_neg h3]
   by_cases h4:i=n
   . rw [if_pos h4,if_pos h4]; exact hv
   . rw [if_neg h4,if_neg h4]; exact h2 (i - 1) (by omega)
theorem Z3e {α:Type} (a b:List α) (d:α) (j:Nat):(a ++ b).getD j d=if j < a.length then a.getD j d else b.getD (j - a.length) d:=by
 by_cases h:j < a.length
 . rw [if_pos h]; simp [List.getElem?_append_left h]
 . rw [if_neg h]; simp [List.getElem?_append_right (show a.length <= j by omega)]
theorem RL.app {w:World} {vs us:List Value} {ll mm:List (List Int)} (h:RL w vs ll) (k:RL w us mm):RL w (vs ++ us) (ll ++ mm):=by
 refine ⟨by simp [h.1,k.1],fun j hj=>?_⟩
 rw [Z3e,Z3e,h.1];rw [List.length_append] at hj
 by_cases h3:j < ll.length
 . rw [if_pos h3,if_pos h3]; exact h.2 j h3
 . rw [if_neg h3,if_neg h3]; exact k.2 _ (by omega)
theorem RL.grown {w w':World} {vs:List Value} {ll:List (List Int)} {base n size:Nat} {cv:Value} {xs:List Value} {e:TypeId} (h:RL w vs ll) (Yq:w.ownsRow base e size cv n xs) (he:e ≠ 3) (hg:w.grownBy w' cv.ownBlock):RL w' vs ll :=
 ⟨h.1,fun j hj=>Q4e (h.2 j hj) Yq he hg⟩
theorem RL.reads {w:World} {vs:List Value} {ll:List (List Int)} (h:RL w vs ll) (hs:∀ j,j < ll.length -> (ll.getD j []).length <= 1000):Reads w vs ll:=⟨h.1,fun j hj=>(h.2 j hj).ints (by have:=hs j hj; omega)⟩
theorem LL.read {w:World} {B:Nat} {v:Value} {ll:List (List Int)} (h:LL w B v ll) (hl:ll.length <= 2000) (hs:∀ j,j < ll.length -> (ll.getD j []).length <= 1000):Q3z w v ll :=
 let ⟨_,h1,h2⟩:=h; h1.J8q (h2.reads hs) (by omega)
theorem X8s {K:Value -> World -> Prop} {o:Oper} {a:Act} {w:World} (s x:Operand) (ho:o.op=.call { callee:=.builtin .append,args:=#[s,x],argTypes:=#[72,72] })
    {B:Nat} {v u:Value} {L M:List (List Int)} (hs:a.eval s=v) (h1:LL w B v L) (hx:a.eval x=u) (h2:LL w B u M) (hL:L.length <= 2000) (hM:M.length <= 2000) (hB:B <= w.heap.size)
    (hK:∀ v' w',LL w' B v' (L ++ M) -> Below B w w' -> K v' w'):gives prog K ((execOp a.eval o).run prog w):=by
 obtain ⟨i0,hi,dq,fq,Zj⟩:=info_parts info22;obtain ⟨vs,o1,m1⟩:=h1;obtain ⟨us,o2,m2⟩:=h2;have l1:=m1.1;have l2:=m2.1;exact Q1r s x 72 ho B 22 i0 (.slice none 0 0) 24 underlying72 hi dq fq Zj rfl idV v u vs us hs o1 hx (Y4h o2) m2.one (by omega) (by decide) hB fun v' w' Yq hg=>hK _ _ ⟨vs ++ us,Yq,(m1.grown o1 (by decide) hg).app (m2.grown o1 (by decide) hg)⟩ (below_grown o1 hg (Nat.le_refl _) hB)
theorem Z5c {w:World} {b o n c:Nat} {l:List Int} (h:Q0g w (.slice (some ⟨b,o,none⟩) n c) l) (hn:l.length=n):∀ j u,(l.map (Value.int .i64))[j]?=some u -> w.cell? ((⟨b,o,none⟩:Addr).add j)=some u:=by
 subst hn;obtain ⟨A,Qq,hv,hl,Kq,hc⟩:=h.opened;cases hv;intro j u hj;rw [List.getElem?_map] at hj;obtain ⟨y,hy,rfl⟩:=Option.map_eq_some_iff.1 hj;obtain ⟨Qj,rfl⟩:=List.getElem?_eq_some_iff.1 hy;obtain ⟨b',off',he,Wq⟩:=hc j Qj;cases he;rw [addr_add,Wq,Q5g Qj]
theorem Z2t {h:List Int} {row:List (List Int)} {n:Nat} (hn:n=Q2b h row row.length) (h0:n=0 ∨ row.getD (n - 1) [] ≠ h):Q7d h row=row.take n ++ [h] ++ row.drop n:=by
 unfold Q7d;simp only [<- hn];rw [if_neg];rintro ⟨h1,h2⟩
 rcases h0 with h0 | h0
 . omega
 . exact h0 h2
theorem J3g {h:List Int} {row:List (List Int)} {n:Nat} (hn:n=Q2b h row row.length) (h0:0 < n) (he:row.getD (n - 1) []=h):Q7d h row=row:=by
 unfold Q7d;simp only [<- hn];rw [if_pos ⟨h0,he⟩]
theorem Z6w {s:Q0b} {t i:Nat} (hi:i <= s.members.length) (h:∀ k,k < s.members.length -> t + 1 <= (Q0c s.members k).length):∀ j,j < (s.Q5v t i).length -> ((s.Q5v t i).getD j []).length=t + 1:=by
 intro j hj;rw [Q0u _ hj];obtain ⟨k,hk,he⟩:=(Q0b.X2x t _ i).1 (List.getElem_mem hj);rw [he,List.length_take];have:=h k (by omega)
 omega
theorem Z8r {s:Q0b} (hS:Q0r s) {w:World} {B:Nat} {x:Value} (h:LL w B x s.hist):Q3z w x s.hist:=by
 refine h.read (by have:=Q7o hS; omega) fun j hj=>?_
 rw [Q0u _ hj];have:=Q6i hS _ (List.getElem_mem hj);omega
theorem Y4f {s:Q0b} (hS:Q0r s):0 < s.hist.length:=by
 refine List.length_pos_of_mem (a:=(Q0c s.members 0).take (0 + 1)) ?_;exact (Q0b.Q4k _ _).2 ⟨0,hS.tides.1,0,hS.some.1,rfl⟩
def RuR (w:World) (qs:List (Value × Rul)):Prop:=∀ q ∈ qs,Q0q w 0 3 (.int .i64) q.1 q.2.classes
theorem RuR.ext {w w':World} {qs:List (Value × Rul)} (h:RuR w qs) (hx:Ext w w'):RuR w' qs:=fun q hq=>(h q hq).below hx
theorem RuR.set {w:World} {qs:List (Value × Rul)} {O k:Nat} {u:Value} {S:TypeId} {cs:Array Value} (h:RuR w qs) (hb:Blk w O S cs) (hT:S ≠ 3):RuR (w.setCell ⟨O,k,none⟩ u) qs:=fun q hq=>Q7g (h q hq) hb hT
theorem RuR.grown {w w':World} {qs:List (Value × Rul)} {base n size:Nat} {e:TypeId} {cv:Value} {xs:List Value} (h:RuR w qs) (Yq:w.ownsRow base e size cv n xs) (he:e ≠ 3) (hg:w.grownBy w' cv.ownBlock):RuR w' qs:=fun q hq=>Q4e (h q hq) Yq he hg
theorem RuR.snoc {w:World} {qs:List (Value × Rul)} {q:Value × Rul} (h:RuR w qs) (hq:Q0q w 0 3 (.int .i64) q.1 q.2.classes):RuR w (qs ++ [q]):=fun x hx=>by
 rcases List.mem_append.1 hx with hx | hx
 . exact h x hx
 . rw [List.mem_singleton.1 hx]; exact hq
theorem Z4f {w:World} {q:Value × Rul} (h:Q0q w 0 3 (.int .i64) q.1 q.2.classes):∀ u ∈ Q5m q,u.oneCell'=true:=by
 obtain ⟨b,c,e,_⟩:=h.shape;intro u hu;simp only [Q5m,List.mem_cons,List.not_mem_nil,or_false] at hu
 rcases hu with rfl | rfl
 . rw [e]; rfl
 . rfl
theorem X5q {w:World} {B:Nat} {T:TypeId} {v:Value} {qs:List (Value × Rul)} (h:Q1d w B T 2 Q5m v qs) (hl:qs.length <= 100000) (hr:RuR w qs) (hs:∀ q ∈ qs,q.2.classes.length <= 4096):Q1j w v (qs.map (·.2)) :=
 X6g h hl (fun q hq=>(hr q hq).ints (by have:=hs q hq; omega)) (Ext.refl _)
theorem Z2d {α:Type} {w:World} {base base' k:Nat} {e:TypeId} {enc:α -> List Value} {v:Value} {l:List α} (h:Q1d w base e k enc v l) (hb:base' <= base):Q1d w base' e k enc v l:=by
 obtain ⟨h1,h2⟩:=h;refine ⟨h1,?_⟩
 rcases h2 with h2 | ⟨g,Qq,cur,hv,Ux,r⟩
 . exact .inl h2
 . exact .inr ⟨g,Qq,cur,hv,Nat.le_trans hb Ux,r⟩
def J4j (T:TypeId) (w w':World) (x:Value) (p:List Rul):Prop:=∃ vo qs,x=.agg #[vo] /\ Q1d w' w.heap.size T 2 Q5m vo qs /\ qs.map (·.2)=p /\ RuR w' qs
theorem J4j.is {T:TypeId} {w w':World} {x:Value} {p:List Rul} (h:J4j T w w' x p) (hl:p.length <= 4096) (hs:∀ r ∈ p,r.classes.length <= 4096):Q0l w' x p:=by
 obtain ⟨vo,qs,rfl,ho,rfl,hr⟩:=h;exact ⟨vo,rfl,X5q ho (by rw [List.length_map] at hl; omega) hr fun q hq=>hs _ (List.mem_map_of_mem hq)⟩
theorem Tryz.Z9w:(prog.info? 167).map (fun i=>(i.zero,i.size,i.bytes))=some (some (.agg #[.slice none 0 0,.bool false]),2,32):=by kernel_rfl
theorem Y6r (w:World) (a:Option Addr) (n c:Nat) (b:Bool):(Instr.build 115 #[(0,.slice a n c),(1,.bool b)]).run prog w=.ok (.agg #[.slice a n c,.bool b]) w:=by kernel_rfl
theorem Y7h (w:World) (a:Option Addr) (n c:Nat) (b:Bool):(Instr.build 167 #[(0,.slice a n c),(1,.bool b)]).run prog w=.ok (.agg #[.slice a n c,.bool b]) w:=by kernel_rfl
theorem Z9l (w:World) (a:Option Addr) (n c:Nat) (b:Bool):(Instr.buildSlice 45 1 #[(0,.agg #[.slice a n c,.bool b])]).run prog w=.ok (.slice (some ⟨w.heap.size,0,none⟩) 1 1) (w.alloc (.cells #[.slice a n c,.bool b] 115)):=by kernel_rfl
theorem Z9j (w:World) (a:Option Addr) (n c:Nat) (b:Bool):(Instr.buildSlice 36 1 #[(0,.agg #[.slice a n c,.bool b])]).run prog w=.ok (.slice (some ⟨w.heap.size,0,none⟩) 1 1) (w.alloc (.cells #[.slice a n c,.bool b] 167)):=by kernel_rfl
theorem Tryz.J5y (w:World):(sizeOf 45).run prog w=.ok 1 w:=by kernel_rfl
theorem Tryz.J6s (w:World):(sizeOf 36).run prog w=.ok 1 w:=by kernel_rfl
theorem J0q {α:Type} {w:World} {base k:Nat} {e:TypeId} {enc:α -> List Value} {v:Value} {l:List α} (h:Q1d w base e k enc v l) (h0:0 < l.length) :
    ∃ g Qq cur,v=.slice (some ⟨g,0,none⟩) l.length Qq /\ base <= g /\ Blk w g e cur /\ l.length <= Qq /\ Qq <= maxLen /\ cur.size=Qq * k /\ cur.toList.take (l.length * k)=l.flatMap enc:=by
 rcases h.2 with ⟨_,hn⟩ | ⟨g,Qq,cur,hv,hb,hg,hc,hm,hs,ht⟩
 . omega
 . exact ⟨g,Qq,cur,hv,hb,hg,hc,hm,hs,ht⟩
theorem Z7y {α:Type} {w:World} {g k:Nat} {e:TypeId} {enc:α -> List Value} {cur:Array Value} {l:List α} (hk:∀ x,(enc x).length=k) (hb:Blk w g e cur) (ht:cur.toList.take (l.length * k)=l.flatMap enc) {i j:Nat} (hi:i < l.length) (hj:j < k):w.cell? ⟨g,i * k + j,none⟩=(enc l[i])[j]?:=by
 rw [hb.cell,<- flat_get hk l i j hi hj,<- ht,List.getElem?_take,if_pos,Array.getElem?_toList];have:(i + 1) * k <= l.length * k:=Nat.mul_le_mul_right k hi;rw [Nat.add_mul] at this;omega
end Go.Proofs
namespace Go.Proofs
open Go.RowKit Go.Tw Go.Flow Tryz
attribute [local go_sem] Oper.semAt_some
theorem X5b (w:World) (v:Value) (p:List Rul) (hv:Q0l w v p) (hl:p.length <= 4096) (h8:∀ k,k < p.length -> (Q0m p k).length <= 4096) :
    Calls prog 34 #[v] w fun e w'=>∃ u,e=.returned u /\ Q0l w' u p /\ Ext w w':=by
 obtain ⟨i0,hi,dq,fq,Zj⟩:=info_parts Z9w;obtain ⟨a,rfl,h2⟩:=hv;obtain ⟨A,Qq,rfl,-,Kq,hc⟩:=h2.opened;have HC:=hid hc;obtain ⟨n,hn⟩:∃ n,p.length=n:=⟨_,rfl⟩;have HN:=hid hn;rw [hn] at hl HC h8 ⊢;have H8:=hid h8;clear h2 hc hn Kq h8;go_enter func34,ntmps34;go_wp2_with fail;obtain ⟨W,Mq,k0,k1,k2,Rq,eW⟩:=X0c w 47 #[.slice A n Qq] 38 #[.slice none 0 0] 38 #[.slice none 0 0];rw [Mq];clear Mq;obtain ⟨gs,Rj⟩:∃ x,w.heap.size=x:=⟨_,rfl⟩;have rx:=hid Rj;rw [Rj] at k1 k2 eW ⊢;have K1:=hid k1;clear k0 k1 Rj;obtain ⟨gp,lz⟩:∃ x,gs + 1 + 1=x:=⟨_,rfl⟩;have Gy:=hid lz;rw [lz] at k2 eW ⊢;clear lz
 go_loopw [9] (fun i wr=>∃ (k:Nat) (vo:Value) (qs:List (Value × Rul)),k <= n /\ i=.int .i64 k /\ Blk wr gp 38 #[vo] /\ Q1d wr (gp + 1) 167 2 Q5m vo qs /\ qs.map (·.2)=p.take k /\ RuR wr qs /\ Below gp W wr /\ gp + 1 <= wr.heap.size) (fun i _=>n - (intOf i).toNat)
 case atStart=>exact ⟨0,_,[],Nat.zero_le _,rfl,k2,Q1d.nil _ _ _ _ _,rfl,(fun q hq=>by simp at hq),Below.refl _ _,by omega⟩
 case round =>
  obtain ⟨k,vo,qs,hk,rfl,Zx,Yq,qx,Vw,Yj,oq⟩:=hrel;have Gq:Ext w wr:=Below.trans Rq.out (Yj.mono (by have:=rx.out; have:=Gy.out; omega))
  have xz:qs.length=k:=by rw [<- List.length_map (f:=(·.2)),qx,List.length_take,HN.out]; omega
  have Ey:=hid qx;have L3:=hid Yj;have T0:=hid Vw
  by_cases Uq:k < n
  . have zj:(k:Int) < n:=by omega
    obtain ⟨b,off,x,rfl,hb,e0,e1,Jk⟩:=HC.out k Uq;replace e0:=Gq.cell e0;replace e1:=Gq.cell e1;obtain ⟨X,Sq,rfl,-,-,-⟩:=Jk.opened;have jx:p.take (k + 1)=p.take k ++ [⟨Q0m p k,Q2h p k⟩]:=by
     rw [List.take_succ_eq_append_getElem (by rw [HN.out]; exact Uq),Q0m,Q2h,Q0u _ (by rw [HN.out]; exact Uq)]
    have dJ:=H8.out k Uq;have HI:=hid (Jk.ext Gq);have Jj:=hid jx;obtain ⟨cs,Dk⟩:∃ c,Q0m p k=c:=⟨_,rfl⟩;obtain ⟨cb,Kj⟩:∃ c,Q2h p k=c:=⟨_,rfl⟩;rw [Dk] at e0 HI Jj dJ;rw [Kj] at e1 Jj;have ij:=Ext.box wr (.cells #[.slice X cs.length Sq,.bool cb] 115);have xj:=Blk.made wr 115 #[.slice X cs.length Sq,.bool cb];have ez:=hid (Zx.ext ij);have kq:=hid (Yq.below ij);have Ch:=hid (Vw.ext ij);have YV:=hid (HI.out.ext ij);have YJ:gp + 1 <= (wr.alloc (.cells #[.slice X cs.length Sq,.bool cb] 115)).heap.size:=by have:=ij.size; omega
    clear qx Vw Yj Gq Jk jx Dk Kj Zx Yq;go_wp2_with fail;obtain ⟨gx,Pc⟩:∃ x,wr.heap.size=x:=⟨_,rfl⟩;obtain ⟨wb,Cz⟩:∃ Z,wr.alloc (.cells #[.slice X cs.length Sq,.bool cb] 115)=Z:=⟨_,rfl⟩;rw [Cz,Pc] at xj;rw [Cz] at ij YJ;rw [Cz] at ez kq Ch YV;rw [Cz,Pc];have KX:=hid xj;have D2:=hid ij;have Oo:gp < gx:=by omega
    have Xq:=(Ext.refl wb).drew;clear Cz Pc xj ij e0 e1 hb;refine Flow.Q3q [.p,.w,.p,.w,.w,.p,.w,.p,.w,.last,.last,.last] [0,1,2,3,4,5,6,7,8,9,10,11] [[],[0],[],[2],[2,3],[],[5],[2,3,4,5,6],[2,3,4,5,6,7],[0,1,2,3,4,5,6,7,8],[0,1,2,3,4,5,6,7,8,9],[0,1,2,3,4,5,6,7,8,9,10]] [9,10,11]
     [.c 0 (.pointer (some ⟨gp,0,none⟩)),.c 1 (vo),.c 2 (.pointer (some ⟨gx,0,none⟩)),.c 3 (.slice X cs.length Sq),⟨fun v wz=>(fun v w'=>Q0q w' 0 3 (.int .i64) (v 4) cs) v wz,by intro v a b hx h; exact Q0q.below h hx⟩,.c 5 (.pointer (some ⟨gx,1,none⟩)),.c 6 (.bool cb),⟨fun v wz=>(fun v w'=>v 7=.agg #[v 4,.bool cb]) v wz,by intro _ _ _ _ h; exact h⟩,⟨fun v wz=>(fun v w'=>∃ g,v 8=.slice (some ⟨g,0,none⟩) 1 1 /\ Blk w' g 167 (Q5m (v 4,⟨cs,cb⟩)).toArray) v wz,by rintro v a b hx ⟨g,h1,h2⟩; exact ⟨g,h1,h2.ext hx⟩⟩,.none,.none,.none]
     [fun v w1 w'=>Q1d w' (gp + 1) 167 2 Q5m (v 9) (qs ++ [(v 4,⟨cs,cb⟩)]) /\ w1.grownBy w' vo.ownBlock,fun v w1 w'=>v 10=.pointer (some ⟨gp,0,none⟩) /\ Q1d w' (gp + 1) 167 2 Q5m (v 9) (qs ++ [(v 4,⟨cs,cb⟩)]) /\ w1.grownBy w' vo.ownBlock,fun v w1 w'=>∃ x wm,Q1d wm (gp + 1) 167 2 Q5m x (qs ++ [(v 4,⟨cs,cb⟩)]) /\ w1.grownBy wm vo.ownBlock /\ w'=wm.setCell ⟨gp,0,none⟩ x] (by kernel_rfl) rfl (by kernel_rfl) ⟨?g0,?g1,?g2,?g3,?g4,?g5,?g6,?g7,?g8,?g9,?g10,?g11,trivial⟩ ?post
    case g0 | g2 | g5=>
     intro v w1 hx;intro bb hbb;subst hbb;refine ⟨_,fun w=>?_,rfl⟩;go_simp
    case g1 | g3 | g6=>
     intro v w1 hx;(repeat intro (zq:v _=_));intro bb hbb;subst hbb;have n0:w1.cell? ⟨gp,0,none⟩=some vo:=(ez.out.ext (Xq.trans hx)).cell 0;have n1:w1.cell? ⟨gx,0,none⟩=some (.slice X cs.length Sq):=(KX.out.ext (Xq.trans hx)).cell 0;have n2:w1.cell? ⟨gx,1,none⟩=some (.bool cb):=(KX.out.ext (Xq.trans hx)).cell 1;intro K hK;go_simp;exact hK _ _ (Ext.refl _) rfl
    case g4=>
     intro v w1 hx;(repeat intro (zq:v _=_));intro bb hbb;subst hbb;intro K hK;go_simp;refine Q0e (X0a w1 _ _ (YV.out.ext (Xq.trans hx)) (by omega)) ?_
     rintro e w2 ⟨u,rfl,Yq,Nq⟩;exact ⟨_,rfl,hK _ _ Nq (Q0q.weaken Yq (Nat.zero_le _))⟩
    case g7=>
     intro v w1 hx (q2:v 2=_) (q3:v 3=_) (q4:(fun v w'=>Q0q w' 0 3 (.int .i64) (v 4) cs) v w1) (q5:v 5=_) (q6:v 6=_);intro bb hbb;obtain ⟨s9,c9,e9,_⟩:=Q0q.shape q4;have o1:bb.eval (.tmp 17)=v 4:=fzg08
     have o2:bb.eval (.tmp 19)=.bool cb:=fzg08
     rw [e9] at o1;exact ⟨_,fun w=>X5u _ (.tmp 17) (.tmp 19) rfl o1 o2 (fun w=>Y7h w _ _ _ _),by show Value.agg #[.slice s9 cs.length c9,.bool cb]=Value.agg #[v 4,.bool cb]; rw [e9]⟩
    case g8=>
     intro v w1 hx (q2:v 2=_) (q3:v 3=_) (q4:(fun v w'=>Q0q w' 0 3 (.int .i64) (v 4) cs) v w1) (q5:v 5=_) (q6:v 6=_) (q7:(fun v w'=>v 7=.agg #[v 4,.bool cb]) v w1);intro bb hbb;intro K hK;obtain ⟨s9,c9,e9,_⟩:=Q0q.shape q4;have o1:bb.eval (.tmp 20)=.agg #[v 4,.bool cb]:=fzg08
     rw [e9] at o1;have mx:Blk (w1.alloc (.cells (Value.agg #[.slice s9 cs.length c9,.bool cb]).cells 167)) w1.heap.size 167 (Q5m (v 4,⟨cs,cb⟩)).toArray:=by rw [e9]; exact Blk.made _ _ _
     exact Q3o 36 167 (.tmp 20) rfl o1 (Z9j w1 _ _ _ _) (hK _ _ (Ext.box _ _) ⟨_,rfl,mx⟩)
    case g9=>
     intro v w1 hx (q0:v 0=_) (q1:v 1=_) (q2:v 2=_) (q3:v 3=_) (q4:(fun v w'=>Q0q w' 0 3 (.int .i64) (v 4) cs) v w1) (q5:v 5=_) (q6:v 6=_) _ (q8:(fun v w'=>∃ g,v 8=.slice (some ⟨g,0,none⟩) 1 1 /\ Blk w' g 167 (Q5m (v 4,⟨cs,cb⟩)).toArray) v w1);intro wl hT;obtain rfl:wl=w1:=hT;intro bb hbb;intro K hK;obtain ⟨g,VV,D5⟩:=q8;have o1:bb.eval (.tmp 14)=vo:=fzg08
     have o2:bb.eval (.tmp 21)=.slice (some ⟨g,0,none⟩) 1 1:=fzg08
     have Zq:=Xq.trans hx;exact Q2y _ _ 36 rfl (gp + 1) 167 i0 (.agg #[.slice none 0 0,.bool false]) 2 32 underlying36 hi dq fq Zj rfl (by decide) Q5m Q4b vo _ (v 4,⟨cs,cb⟩) o1 (kq.out.below Zq) ⟨g,0,none⟩ 1 o2 (Q6d D5) (Z4f (q:=(v 4,⟨cs,cb⟩)) q4) (by omega) (by decide) (by have:=Zq.size; omega) (fun v' w' h1 h2=>hK _ _ ⟨h1,h2⟩)
    case g10=>
     intro v w1 hx (q0:v 0=_) (q1:v 1=_) (q2:v 2=_) (q3:v 3=_) _ (q5:v 5=_) (q6:v 6=_) _ _;intro wl hT;replace hT:(fun v w1 w'=>Q1d w' (gp + 1) 167 2 Q5m (v 9) (qs ++ [(v 4,⟨cs,cb⟩)]) /\ w1.grownBy w' vo.ownBlock) v w1 wl:=hT;intro bb hbb;subst hbb;intro K hK;go_simp;exact hK _ _ ⟨rfl,hT⟩
    case g11=>
     intro v w1 hx (q0:v 0=_) (q1:v 1=_) (q2:v 2=_) (q3:v 3=_) _ (q5:v 5=_) (q6:v 6=_) _ _;intro wl hT;replace hT:(fun v w1 w'=>v 10=.pointer (some ⟨gp,0,none⟩) /\ Q1d w' (gp + 1) 167 2 Q5m (v 9) (qs ++ [(v 4,⟨cs,cb⟩)]) /\ w1.grownBy w' vo.ownBlock) v w1 wl:=hT;intro bb hbb;intro K hK;obtain ⟨cG,Tg,Wy⟩:=hT;have Zq:=Xq.trans hx;obtain ⟨bp,cp,nj,_⟩:=Tg.shape;have o1:bb.eval (.tmp 23)=.pointer (some ⟨gp,0,none⟩):=fzg08
     have o2:bb.eval (.tmp 22)=v 9:=fzg08
     have mx:=Go.Tw.Q5f (ez.out.ext Zq) (kq.out.below Zq) (by omega) Wy
     exact Q3t _ _ rfl J6s (g:=gp) (k:=0) o1 o2 (by rw [nj]; rfl) (by rw [nj]; rfl) mx (by show 0 < 1; omega) (fun v'=>hK _ _ ⟨v 9,wl,Tg,Wy,rfl⟩)
    case post =>
     intro v w1 hx;(iterate 4 intro (zq:v _=_));intro (q4:(fun v w'=>Q0q w' 0 3 (.int .i64) (v 4) cs) v w1);(iterate 2 intro (zq:v _=_));intro (q7:(fun v w'=>v 7=.agg #[v 4,.bool cb]) v w1) (q8:(fun v w'=>∃ g,v 8=.slice (some ⟨g,0,none⟩) 1 1 /\ Blk w' g 167 (Q5m (v 4,⟨cs,cb⟩)).toArray) v w1);intro w2 hE;replace hE:(fun v w1 w'=>∃ x wm,Q1d wm (gp + 1) 167 2 Q5m x (qs ++ [(v 4,⟨cs,cb⟩)]) /\ w1.grownBy wm vo.ownBlock /\ w'=wm.setCell ⟨gp,0,none⟩ x) v w1 w2:=hE;simp only [Flow.acts,Act.put];go_simp;obtain ⟨x,wm,W9,fx,rfl⟩:=hE;have Zq:=Xq.trans hx;have Vy:=kq.out.below Zq;have Tk:=Go.Tw.Q5f (ez.out.ext Zq) Vy (by omega) fx
     have N3:=hid (W9.Q8n (p:=⟨gp,0,none⟩) (Nat.lt_succ_self gp) x);have m6:=hid (Tk.set 0 x);have TV:Below gp W wm:=Below.trans L3.out (Below.grown ((D2.out.trans Zq).mono (by omega)) fx (by have:=Zq.size; omega) (fun j hj=>by have:=(Vy.lt j hj).1; omega))
     have bj:=hid (TV.setCell (p:=⟨gp,0,none⟩) (Nat.le_refl _) x);have SV:=hid ((((Ch.out.ext Zq).snoc (q:=(v 4,⟨cs,cb⟩)) q4).grown Vy (by decide) fx).set (k:=0) (u:=x) Tk (by decide))
     have RV:Hid (gp + 1 <= (wm.setCell ⟨gp,0,none⟩ x).heap.size):=hid (by have:=Tk.lt; simp; omega)
     obtain ⟨w6,V9⟩:∃ y,wm.setCell ⟨gp,0,none⟩ x=y:=⟨_,rfl⟩;rw [V9] at N3 m6 bj SV RV ⊢;clear V9 W9 fx Zq hx Tk TV Vy Xq q4 q7 q8;(repeat clear zq);go_wp2;go_roundw
     case rel=>exact ⟨k + 1,x,qs ++ [(v 4,⟨cs,cb⟩)],by omega,by go_num,m6.out,N3.out,by rw [List.map_append,Ey.out,Jj.out]; rfl,SV.out,bj.out,RV.out⟩
     case measure=>simp [intOf]; omega
  . have zj:¬ (k:Int) < n:=by omega
    have rj:k=n:=by omega
    subst rj;have hp:p.take k=p:=by rw [List.take_of_length_le (by rw [HN.out]; omega)]
    rw [hp] at qx;obtain ⟨Av,cv',rfl,-⟩:=Yq.shape;rw [xz] at Zx;have Rz:=hid Yq;have Z2:=hid xz;have c0:wr.cell? ⟨gp,0,none⟩=some (.slice Av k cv'):=Zx.cell 0;have nz:=K1.out.below Yj (by have:=Gy.out; omega)
    have c1:wr.cell? ⟨gs + 1,0,none⟩=some (.slice none 0 0):=nz.cell 0;have f1:=nz.frozen 0;have vz:=hid nz;have Pj:=hid Gq;have M7:=hid qx;have ZY:Hid (gs + 1 < gp + 1):=hid (by have:=Gy.out; omega)
    clear Zx Yq qx Vw Gq nz Yj hp;go_wp2;refine bodyPost_ret (Q2e results34 rfl (vz.out.set 0 _) Q5z Q2w) rfl ?_;have rW:=Rz.out.Q8n (p:=⟨gs + 1,0,none⟩) ZY.out (.slice Av k cv');have sY:=T0.out.set (k:=0) (u:=.slice Av k cv') vz.out (by decide)
    rw [Z2.out] at rW;have h:=X5q rW (by rw [Z2.out]; omega) sY (fun q hq=>by
     have hm:q.2 ∈ p:=by rw [<- M7.out]; exact List.mem_map_of_mem hq
     obtain ⟨j,hj,he⟩:=List.getElem_of_mem hm;have:=H8.out j (by rw [<- HN.out]; exact hj)
     unfold Q0m at this;rw [Q0u _ hj,he] at this;exact this)
    rw [M7.out] at h;exact ⟨_,rfl,⟨_,rfl,h⟩,Pj.out.X0u (p:=⟨gs + 1,0,none⟩) (by show w.heap.size <= gs + 1; have:=rx.out; omega) _⟩
theorem Z2v (w:World) (gS gM k:Nat) (a b:Value) (s:Q0b) (m0 m1 m3 m4 mc:Value) (cl:List Int) (hS:Blk w gS 34 #[.int .i64 s.limit,a,b]) (hs:Q3b w a b s) (hM:Blk w gM 69 #[m0,m1,mc,m3,m4]) (hc:Q0g w mc cl) (hk:k < s.members.length) :
    Calls prog 169 #[.int .i64 (k:Int),.pointer (some ⟨gS,0,none⟩),.pointer (some ⟨gM,0,none⟩)] w fun e w'=>e=.returned (.bool (decide (Q0c s.members k=cl))) /\ Ext w w':=by
 obtain ⟨B,Vq,rfl,-,-,-⟩:=hs.members.opened;obtain ⟨bm,off,Sq,Jq,Cq,X,Y,Z,rq⟩:=Q3e hs.members hk;have hA:=rq.addr;subst hA;have fy:=hid rq.e2;have Z5:=hid (fun (w1:World) (hx:Ext w w1)=>Z6y w1 _ _ _ cl (rq.x.ext hx) (hc.ext hx));obtain ⟨lc,vj⟩:∃ x,(Q0c s.members k).length=x:=⟨_,rfl⟩;rw [vj] at fy Z5;obtain ⟨q,hq⟩:∃ q,decide (Q0c s.members k=cl)=q:=⟨_,rfl⟩;rw [hq] at Z5 ⊢;have Zk:=hid hS;have Mo:=hid hM;have zj:(k:Int) < s.members.length:=by omega
 obtain ⟨M,Bh⟩:∃ M,s.members.length=M:=⟨_,rfl⟩;rw [Bh] at Zk zj hk;have Xq:=(Ext.refl w).drew;clear rq vj hq hS hM hs hc Bh;go_enter func169,ntmps169;go_wp2_with fail;refine Flow.Q1h [.p,.w,.p,.p,.p,.w,.p,.w,.w,.p] [0,1,2,3,4,5,6,7,8,9] [[],[0],[],[1,2],[3],[4],[],[6],[5,7],[0,1,2,3,4,5,6,7,8]]
  [.c 0 (.pointer (some ⟨gS,2,none⟩)),.c 1 (.slice (some ⟨bm,off,none⟩) M Vq),.c 2 (.int .i64 (k:Int)),.c 3 (.pointer (some ⟨bm,off + k * 5,none⟩)),.c 4 (.pointer (some ⟨bm,off + k * 5 + 2,none⟩)),.c 5 (.slice X lc Sq),.c 6 (.pointer (some ⟨gM,2,none⟩)),.c 7 (mc),.c 8 (.bool q),.c 9 (.bool q)]
  (by kernel_rfl) rfl (by kernel_rfl) ⟨?g0,?g1,?g2,?g3,?g4,?g5,?g6,?g7,?g8,?g9,trivial⟩ ?post
 case g0 | g2 | g6=>
  intro v w1 hx;intro bb hbb;subst hbb;refine ⟨_,fun w=>?_,rfl⟩;go_simp
 case g1 | g5 | g7=>
  intro v w1 hx;(repeat intro (zq:v _=_));intro bb hbb;subst hbb;have n0:w1.cell? ⟨gS,2,none⟩=some (.slice (some ⟨bm,off,none⟩) M Vq):=(Zk.out.ext (Xq.trans hx)).cell 2;have n1:w1.cell? ⟨bm,off + k * 5 + 2,none⟩=some (.slice X lc Sq):=(Xq.trans hx).cell fy.out;have n2:w1.cell? ⟨gM,2,none⟩=some mc:=(Mo.out.ext (Xq.trans hx)).cell 2;intro K hK;go_simp;exact hK _ _ (Ext.refl _) rfl
 case g3 | g4 | g9=>
  intro v w1 hx;(repeat intro (zq:v _=_));intro bb hbb;subst hbb;refine ⟨_,fun w=>?_,rfl⟩;go_simp
 case g8=>
  intro v w1 hx;(repeat intro (zq:v _=_));intro bb hbb;subst hbb;intro K hK;go_simp;refine Q0e (Z5.out w1 (Xq.trans hx)) ?_;rintro e w2 ⟨rfl,Nq⟩;exact ⟨_,rfl,hK _ _ Nq rfl⟩
 case post =>
  intro v w1 hx;(iterate 10 intro (zq:v _=_));simp only [Flow.All,Flow.acts,Act.put];go_simp;have HX:=hid (Xq.trans hx);clear hx Xq;(repeat clear zq);go_wp2;go_ret;exact ⟨rfl,HX.out⟩
end Go.Proofs
namespace Go.Flow
open Go.RowKit Go.Tw
def J8y (D:Nat):Deferred:={ target:=.collected D,args:=#[] }
def marks (l:List Nat):List Deferred:=l.map J8y
structure Marked (W:World) (l:List Nat):Prop where
 nd:l.Nodup
 all:∀ D,D ∈ l -> W.heap[D]?=some (.deferred (some []))
theorem Marked.nil (W:World):Marked W []:=⟨List.nodup_nil,fun D h=>by cases h⟩
theorem Marked.lt {W:World} {l:List Nat} (h:Marked W l) {D:Nat} (hD:D ∈ l):D < W.heap.size:=(Array.getElem?_eq_some_iff.1 (h.all D hD)).1
theorem Marked.ext {W W':World} {l:List Nat} (h:Marked W l) (hx:Ext W W'):Marked W' l:=⟨h.nd,fun D hD=>by rw [Below.block hx _ (h.lt hD)]; exact h.all D hD⟩
theorem Marked.keeps {W W':World} {l:List Nat} (h:Marked W l) (hx:KeepsOthers W W'):Marked W' l:=⟨h.nd,fun D hD=>hx.same _ _ (h.all D hD) rfl⟩
theorem Marked.turns {B:Nat} {W W':World} {l:List Nat} (h:Marked W l) (hB:∀ D,D ∈ l -> D < B) (hx:Turns B W W'):Marked W' l:=⟨h.nd,fun D hD=>by rw [hx.same (hB D hD)]; exact h.all D hD⟩
theorem Marked.cons {W:World} {l:List Nat} {D:Nat} (h:Marked W l) (hD:W.heap[D]?=some (.deferred (some []))) (hn:∀ E,E ∈ l -> E < D):Marked W (D :: l):=by
 refine ⟨List.nodup_cons.2 ⟨fun hm=>Nat.lt_irrefl _ (hn D hm),h.nd⟩,fun E hE=>?_⟩
 rcases List.mem_cons.1 hE with rfl | hE
 . exact hD
 . exact h.all E hE
theorem Q6f {F:Fence} {n:Nat} {P:Program} {fn:Func} {tmps:Array Value} {R:Ending -> World -> Prop} {n0:Nat} (J:World -> Prop) (hJ:∀ A B,J A -> Turns n0 A B -> J B)
    (hR:∀ W,J W -> ∃ v,(results fn tmps).run P W=.ok v W /\ R (.returned v) W) :
    ∀ (l:List Nat) (W:World),Marked W l -> (∀ D,D ∈ l -> n0 <= D) -> J W -> LeavesInM F n P fn tmps R (marks l) .returning W
 | [],W,_,_,h=>hR W h
 | D :: l,W,hm,hn,h=>by
   have hD:=hm.all D (List.mem_cons_self ..);have Uq:=hm.lt (List.mem_cons_self ..);refine ⟨by simp,.inl ⟨D,_,rfl,run_takeDeferred hD,Q6f J hJ hR l _ ⟨(List.nodup_cons.1 hm.nd).2,fun E hE=>?_⟩ (fun E hE=>hn E (List.mem_cons_of_mem _ hE)) (hJ _ _ h ⟨D,_,_,hn D (List.mem_cons_self ..),hD,rfl,rfl⟩)⟩⟩
   have hne:E ≠ D:=fun e=>(List.nodup_cons.1 hm.nd).1 (e ▸ hE);rw [World.putObj_heap_other hne];exact hm.all E (List.mem_cons_of_mem _ hE)
theorem Z2g {F:Fence} {n:Nat} {P:Program} {Q:Exit -> Act -> World -> Prop} {a:Act} {w:World} {c:Code} (j N k0:Nat) (I:Nat -> Act -> World -> Prop)
    (hj:∀ k a w,I k a w -> intOf (a.tmps.getD j undef)=(k:Int)) (h0:I k0 a w)
    (round:∀ k a w,I k a w -> ∀ K:Act -> World -> Prop,(∀ a' w',k < N -> I (k + 1) a' w' -> K a' w') -> c.wpIn F n P (Exit.then K Q) a w):(Code.loop c).wpIn F n P Q a w:=by
 refine wpIn_loop (fun a w=>∃ k,I k a w) (fun a _=>N - (intOf (a.tmps.getD j undef)).toNat) ⟨k0,h0⟩ ?_;rintro a w ⟨k,hk⟩;refine round k a w hk _ fun a' w' Uq h'=>⟨⟨k + 1,h'⟩,?_⟩;rw [hj _ _ _ h',hj _ _ _ hk];omega
def X6m (A:Array Value) (js:List Nat) (u:Nat -> Value):Array Value:=js.foldl (fun A j=>A.setIfInBounds j (u j)) A
theorem Y0e {F:Fence} {n:Nat} {P:Program} {Q:Exit -> Act -> World -> Prop} {tmps:Array Value} {ds0:List Deferred} {w:World} {c:Code} (j N k0:Nat) (js:List Nat) (Ds0:List Nat) (R:Nat -> Act -> List Nat -> World -> Prop)
    (hj:∀ k a Ds w,R k a Ds w -> intOf (a.tmps.getD j undef)=(k:Int)) (Lo:ds0=marks Ds0) (QV:X6m tmps js (fun i=>tmps.getD i undef)=tmps) (h0:R k0 ⟨tmps,ds0⟩ Ds0 w)
    (round:∀ k u Ds w,R k ⟨X6m tmps js u,marks Ds⟩ Ds w -> ∀ K:Act -> World -> Prop,
     (∀ a' w' Ds',k < N -> a'.tmps=X6m tmps js (fun i=>a'.tmps.getD i undef) -> a'.defers=marks Ds' -> R (k + 1) a' Ds' w' -> K a' w') -> c.wpIn F n P (Exit.then K Q) ⟨X6m tmps js u,marks Ds⟩ w) :
    (Code.loop c).wpIn F n P Q ⟨tmps,ds0⟩ w:=by
 refine Z2g j N k0 (fun k a w=>∃ Ds,a=⟨X6m tmps js (fun i=>a.tmps.getD i undef),marks Ds⟩ /\ R k a Ds w) (fun k a w ⟨Ds,_,h⟩=>hj k a Ds w h) ⟨Ds0,by rw [QV,Lo],h0⟩ ?_
 rintro k a w ⟨Ds,ha,hR⟩ K hK;have key:∀ u,a=⟨X6m tmps js u,marks Ds⟩ -> c.wpIn F n P (Exit.then K Q) a w:=by
  rintro u rfl;refine round k u Ds w hR K fun a' w' Ds' Uq h1 h2 h3=>hK a' w' Uq ⟨Ds',?_,h3⟩;rw [<- h1,<- h2]
 exact key _ ha
theorem Z5j {n:Nat} {P:Program} {Q:Exit -> Act -> World -> Prop} {a:Act} {w:World} {c:Code} (h:c.wpIn Fence.wide n P (Exit.noGoto Q) a w):(Code.scope c).wpIn Fence.wide n P Q a w :=
 wpIn_wide.2 (wp_scope_straight (wpIn_wide.1 h))
end Go.Flow
namespace Go.Proofs
open Go.RowKit Go.Tw Go.Flow Tryz
attribute [local go_sem] Oper.semAt_some
def Y4x (q:Value × Grp):List Value:=[q.1,.int .i64 q.2.weight]
theorem Y6e (q:Value × Grp):(Y4x q).length=2:=rfl
def GrR (w:World) (gl:List (Value × Grp)):Prop:=∀ q ∈ gl,Q0q w 0 3 (.int .i64) q.1 q.2.members
theorem GrR.nil (w:World):GrR w []:=fun _ hq=>by simp at hq
theorem GrR.ext {w w':World} {gl:List (Value × Grp)} (h:GrR w gl) (hx:Ext w w'):GrR w' gl:=fun q hq=>(h q hq).below hx
theorem GrR.snoc {w:World} {gl:List (Value × Grp)} {q:Value × Grp} (h:GrR w gl) (hq:Q0q w 0 3 (.int .i64) q.1 q.2.members):GrR w (gl ++ [q]):=fun z hz=>by
 rcases List.mem_append.1 hz with hz | hz
 . exact h z hz
 . rw [List.mem_singleton.1 hz]; exact hq
def X9e (s:Q0b) (i:Nat):List Int:=(X1o s i).map Int.ofNat
def Z0u (s:Q0b) (i:Nat):Grp:=⟨X9e s i,Y6w s (X1o s i)⟩
def Q6k (s:Q0b) (k:Nat):List Grp:=(X3n (Y8u s) k).map (Z0u s)
theorem Z7a (s:Q0b):Q6k s s.members.length=Q6o s:=by rw [X5e]; rfl
theorem Z7b {s:Q0b} {k:Nat} (h:Z5t (Y8u s) k=true):Q6k s (k + 1)=Q6k s k ++ [Z0u s k]:=by
 unfold Q6k; rw [X2d,if_pos h,List.map_append]; rfl
theorem Z8g {s:Q0b} {k:Nat} (h:Z5t (Y8u s) k=false):Q6k s (k + 1)=Q6k s k:=by
 unfold Q6k; rw [X2d,if_neg (by simp [h]),List.append_nil]
def X7r (s:Q0b) (j i:Nat):List Int:=(Q6l (Y8u s) j i).map Int.ofNat
theorem Y2w (s:Q0b) (j i:Nat):X7r s (j + 1) i=X7r s j i ++ if decide (Q0c s.members j=Q0c s.members i) then [(j:Int)] else []:=by
 unfold X7r;rw [Y0f,List.map_append]
 by_cases h:Q0c s.members j=Q0c s.members i
 . rw [if_pos (by simpa [Y8u] using h),if_pos (by simpa using h)]; rfl
 . rw [if_neg (by simpa [Y8u] using h),if_neg (by simpa using h)]; rfl
theorem Y0v (s:Q0b) (i:Nat):∀ j,(X7r s j i).length <= j
 | 0=>by simp [X7r,Q6l]
 | j + 1=>by
   have h:=Y0v s i j;rw [Y2w,List.length_append]
   split <;> simp <;> omega
def Y1v (s:Q0b) (l:List Nat) (c j:Nat):Int:=((l.take j).map fun k=>if (Q1g s k).keeps s.limit (Q6n c s.ships.length) then Q0n s.members k else 0).sum
theorem Y2l {s:Q0b} {l:List Nat} {c j:Nat} (hj:j < l.length):Y1v s l c (j + 1)=Y1v s l c j + if (Q1g s l[j]).keeps s.limit (Q6n c s.ships.length) then Q0n s.members l[j] else 0:=by
 unfold Y1v;rw [List.take_succ_eq_append_getElem hj,List.map_append,List.sum_append]; simp
theorem Y7c (s:Q0b) (l:List Nat) (c:Nat):Y1v s l c l.length=Y2p s l c:=by unfold Y1v Y2p; rw [List.take_length]
theorem Y5h {s:Q0b} (hv:Q0r s) {l:List Nat} (hl:∀ k ∈ l,k < s.members.length) (c:Nat):∀ j,j <= l.length -> 0 <= Y1v s l c j /\ Y1v s l c j <= 1000 * j
 | 0,_=>by simp [Y1v]
 | j + 1,h=>by
   have ih:=Y5h hv hl c j (by omega)
   have hw:=hv.weights l[j] (hl _ (List.getElem_mem (by omega)))
   rw [Y2l (by omega)]
   split <;> omega
def Z7t (s:Q0b) (l:List Nat) (j:Nat):Int:=(List.range j).foldl (fun m n=>max m (Y2p s l n)) 0
theorem Y8j (s:Q0b) (l:List Nat) (j:Nat):Z7t s l (j + 1)=max (Z7t s l j) (Y2p s l j):=by
 unfold Z7t; rw [List.range_succ,List.foldl_append]; rfl
theorem Z1w {s:Q0b} (hv:Q0r s) {l:List Nat} (hl:∀ k ∈ l,k < s.members.length) (h8:l.length <= 8):∀ j,0 <= Z7t s l j /\ Z7t s l j <= 8000
 | 0=>by simp [Z7t]
 | j + 1=>by
   have ih:=Z1w hv hl h8 j;have h:=Y5h hv hl j l.length (Nat.le_refl _);rw [Y7c] at h;rw [Y8j];omega
theorem X1i (f:Nat -> List Int):∀ k,(X3n f k).length <= k
 | 0=>by simp [X3n]
 | k + 1=>by
   have:=X1i f k;rw [X2d,List.length_append]
   split <;> simp <;> omega
theorem J7b {s:Q0b} (hv:Q0r s) (k:Nat):0 <= ((Q6k s k).map Grp.weight).sum /\ ((Q6k s k).map Grp.weight).sum <= 8000 * k:=by
 have hl:∀ i,0 <= (Z0u s i).weight /\ (Z0u s i).weight <= 8000:=fun i=>by
  have hm:∀ x ∈ X1o s i,x < s.members.length:=fun x hx=>List.mem_range.1 (List.mem_filter.1 hx).1;have h8:(X1o s i).length <= 8:=by
   have h1:(X1o s i).length <= (List.range s.members.length).length:=List.length_filter_le ..;rw [List.length_range] at h1;have:=hv.some; omega
  exact Z1w hv hm h8 _
 have key:∀ l:List Nat,0 <= ((l.map (Z0u s)).map Grp.weight).sum /\ ((l.map (Z0u s)).map Grp.weight).sum <= 8000 * l.length:=by
  intro l
  induction l with
  | nil=>simp
  | cons x l ih =>
    have:=hl x;simp only [List.map_cons,List.sum_cons,List.length_cons];omega
 have h1:=key (X3n (Y8u s) k);have h2:=X1i (Y8u s) k;unfold Q6k;omega
theorem Tryz.J9f:(prog.info? 153).map (fun i=>(i.zero,i.size,i.bytes))=some (some (.agg #[.slice none 0 0,.int .i64 0]),2,32):=by kernel_rfl
theorem Z5l {w w0:World} {B:Nat} {T:TypeId} {v:Value} {qs:List (Value × Grp)} (h:Q1d w B T 2 Y4x v qs) (hl:qs.length <= 100000) (hr:∀ q ∈ qs,Q0g w0 q.1 q.2.members) (hx:Ext w0 w):Q5s w v (qs.map (·.2)):=by
 refine h.rowsOf (by simp) (by simp; omega) Y6e (fun j h1 h2=>?_) (fun c c' x hc h=>?_)
 . have hq:=List.getElem_mem h1
   simp only [List.getElem_map];exact ⟨(hr _ hq).ext hx,rfl⟩
 . exact ⟨by rw [<- hc 0 (by omega)]; exact h.1,by rw [<- hc 1 (by omega)]; exact h.2⟩
theorem Z0w (w:World) (v:Value) (p:List Grp) (hv:Q5s w v p) (hl:p.length <= 4096) :
    Calls prog 75 #[v] w fun e w'=>∃ u,e=.returned u /\ Q5s w' u p /\ Ext w w':=by
 obtain ⟨i0,hi,dq,fq,Zj⟩:=info_parts J9f;obtain ⟨A,Qq,rfl,-,Kq,hc⟩:=hv.opened;have HC:=hid hc;obtain ⟨n,hn⟩:∃ n,p.length=n:=⟨_,rfl⟩;have HN:=hid hn;rw [hn] at hl HC ⊢;clear hv hc hn Kq;go_enter func75,ntmps75;go_wp2_with fail
 go_loopw [3,8] (fun vo i wr=>∃ (k:Nat) (qs:List (Value × Grp)),k <= n /\ i=.int .i64 k /\ Q1d wr w.heap.size 153 2 Y4x vo qs /\ qs.map (·.2)=p.take k /\ (∀ q ∈ qs,Q0g w q.1 q.2.members) /\ Ext w wr) (fun _ i _=>n - (intOf i).toNat)
 case atStart=>exact ⟨0,[],Nat.zero_le _,rfl,Q1d.nil _ _ _ _ _,rfl,(fun q hq=>by simp at hq),Ext.refl _⟩
 case round =>
  obtain ⟨k,qs,hk,rfl,Yq,qx,aQ,Gq⟩:=hrel;have xz:qs.length=k:=by rw [<- List.length_map (f:=(·.2)),qx,List.length_take,HN.out]; omega
  have aK:=hid aQ;have Ey:=hid qx
  by_cases Uq:k < n
  . have zj:(k:Int) < n:=by omega
    obtain ⟨b,off,x,rfl,hb,e0,e1,Jk⟩:=HC.out k Uq;replace e0:=Gq.cell e0;replace e1:=Gq.cell e1;obtain ⟨X,Sq,rfl,-,-,-⟩:=Jk.opened;have jx:p.take (k + 1)=p.take k ++ [⟨Q6x p k,X0e p k⟩]:=by
     rw [List.take_succ_eq_append_getElem (by rw [HN.out]; exact Uq),Q6x,X0e,Q0u _ (by rw [HN.out]; exact Uq)]
    have HI:=hid Jk;have Jj:=hid jx;obtain ⟨cs,Dk⟩:∃ c,Q6x p k=c:=⟨_,rfl⟩;obtain ⟨cb,Kj⟩:∃ c,X0e p k=c:=⟨_,rfl⟩;rw [Dk] at e0 HI Jj;rw [Kj] at e1 Jj;have ij:=Ext.box wr (.cells #[.slice X cs.length Sq,.int .i64 cb] 64);have Pj:=hid Gq;obtain ⟨wq,rfl⟩:∃ Z,Z=wr:=⟨_,rfl⟩;clear qx aQ Jk jx Dk Kj;go_wp2_with (at_builtin; refine halted ?_);unfold Q1o;have ZJ:(wq.alloc (.cells #[.slice X cs.length Sq,.int .i64 cb] 64)).heap.size=wq.heap.size + 1:=by simp
    obtain ⟨wb,Cz⟩:∃ Z,wq.alloc (.cells #[.slice X cs.length Sq,.int .i64 cb] 64)=Z:=⟨_,rfl⟩;rw [Cz] at ij ZJ ⊢;rw [<- ZJ];have Gv:=Yq.below ij;have hxb:=Gq.trans ij;have jq:=hid hxb;clear Yq Cz
    (at_builtin; refine wpList_append_own _ rfl _ _ 119 rfl (w.heap.size) 153 i0 (.agg #[.slice none 0 0,.int .i64 0]) 2 32 underlying119 hi dq fq Zj rfl (by decide) _ _ _ rfl (World.ownsRow.alloc Gv _) ⟨wb.heap.size,0,none⟩ 1 1 [.slice X cs.length Sq,.int .i64 cb] rfl rfl ?_ ?_ ?_ ?_ ?_ ?_; exact X7y _ _ _; (focus (simp [Value.oneCell'])); (focus (unfold maxLen; omega)); (focus omega); (focus (have:=hxb.size; simp at this ⊢; omega)); intro v' w1 Oq Pq _)
    have rk:=hid (Q3r hxb Gv (Nat.le_refl _) Pq);have kq:=hid (show Q1d w1 w.heap.size 153 2 Y4x v' (qs ++ [(.slice X cs.length Sq,⟨cs,cb⟩)]) from Q1d.snoc Oq)
    clear Pq Oq Gv ij e0 e1 hxb;go_wp2;go_roundw
    case rel=>exact ⟨k + 1,qs ++ [(.slice X cs.length Sq,⟨cs,cb⟩)],by omega,by go_num,kq.out,by rw [List.map_append,Ey.out,Jj.out]; rfl,
     (fun q hq=>by
      rcases List.mem_append.1 hq with hq | hq
      . exact aK.out q hq
      . rw [List.mem_singleton.1 hq]; exact HI.out),rk.out⟩
    case measure=>simp [intOf]; omega
  . have zj:¬ (k:Int) < n:=by omega
    have rj:k=n:=by omega
    subst rj;have hp:p.take k=p:=by rw [List.take_of_length_le (by rw [HN.out]; omega)]
    have hr:=Z5l Yq (by omega) aK.out Gq
    rw [Ey.out,hp] at hr;have HR:=hid hr;clear Yq qx aQ hr hp;go_wp2;go_ret;exact ⟨_,rfl,HR.out,Gq⟩
end Go.Proofs
