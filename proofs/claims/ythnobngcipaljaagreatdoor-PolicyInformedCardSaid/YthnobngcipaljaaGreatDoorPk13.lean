/- Part of the proof of a law. -/
import Derived.Test.YthnobngcipaljaaGreatDoorPk12
set_option maxRecDepth 1000000
set_option maxHeartbeats 64000000
set_option linter.unusedVariables false
set_option linter.unusedSimpArgs false
set_option linter.constructorNameAsVariable false
open Go.Lib (hid)
namespace Go.Tw
theorem fzg13 {u:Type} {a b:u} (h:a=b:=by rw [hbb]; dsimp only; (try simp (discharger:=decide) only [Flow.eval_put_ne]); rw [Flow.Q0a (by (try simp only [Flow.size_put]); exact of_decide_eq_true rfl)]; try assumption):a=b:=h
theorem fzh13 {a b:Nat} (h:a < b:=by rw [hbb]; simp only [Flow.size_put]; exact of_decide_eq_true rfl):a < b:=h
theorem fze13 {u:Type} {a b:u} (h:a=b:=by rw [hbb]; dsimp only; (try simp (discharger:=decide) only [Flow.eval_put_ne]); rfl):a=b:=h
theorem J2f {p:List Rul} {n:Nat} (h:n < p.length):p.set n ⟨p[n].classes,!p[n].close⟩=Q1u p n:=by
 apply List.ext_getElem
 . rw [List.length_set,X0r]
 . intro i h1 h2
   rw [List.length_set] at h1;have e:(Q1u p n)[i]=⟨Q0m p i,Q2h p i != (i == n)⟩:=by simp [Q1u]
   rw [e,List.getElem_set]
   split
   . rename_i hi; subst hi
     rw [Q2p h1,X3l h1];cases p[n].close <;> simp
   . rename_i hi
     rw [Q2p h1,X3l h1];have:(i == n)=false:=by simp; omega
     rw [this];cases hc:p[i].close <;> simp [<- hc]
end Go.Tw
namespace Go.Proofs
open Go.RowKit Go.Tw Go.Flow Tryz
attribute [local go_sem] Oper.semAt_some
def X7n (p:List Rul) (n:Int):Bool:=decide (n < 0) || decide ((p.length:Int) <= n)
def Z2f (s:Q0b) (p:List Rul) (n:Int):Int:=Q0o [Q1k s p,Q0s (X7n p n) 10]
def J1y (s:Q0b) (p:List Rul) (n:Int):List Rul:=if Z2f s p n=0 then Q1u p n.toNat else []
theorem Z5f {s:Q0b} {p:List Rul} {n:Int} (h:Z2f s p n=0):Q0r s /\ Q0x s.hist p=0 /\ 0 <= n /\ n < p.length:=by
 obtain ⟨h1,h2⟩:=Q2c h;obtain ⟨h3,h4⟩:=Q4z h1;refine ⟨h3,h4,?_⟩;unfold X7n Q0s at h2
 by_cases h0:n < 0 <;> by_cases h1:(p.length:Int) <= n <;> simp [h0,h1] at h2 ⊢ <;> omega
theorem J3a {qs:List (Value × Rul)} {p:List Rul} {m:Nat} (h:qs.map (·.2)=p) (hm:m < qs.length) {c:Bool} (hc:qs[m].2.close=c):(qs.set m (qs[m].1,⟨qs[m].2.classes,!c⟩)).map (·.2)=Q1u p m:=by
 subst h;subst hc;rw [<- J2f (by rw [List.length_map]; exact hm),List.map_set,List.getElem_map]
def J3f (s:Q0b) (p:List Rul) (n:Int) (e:Ending) (w':World):Prop:=∃ x,e=.returned (.tuple #[.agg #[x],.int .i64 (Z2f s p n)]) /\ Q1j w' x (J1y s p n)
theorem Z9s:∀ (qs:List (Value × Rul)) {k:Nat} (hk:k < qs.length) {c:Bool},(qs.flatMap Q5m).toArray.setIfInBounds (k * 2 + 1) (.bool c)=((qs.set k (qs[k].1,⟨qs[k].2.classes,c⟩)).flatMap Q5m).toArray:=by
 intro qs
 induction qs with
 | nil=>intro k hk; simp at hk
 | cons q qs ih =>
   intro k hk c;cases k with
   | zero=>simp [Q5m]
   | succ k =>
     have h:=ih (k:=k) (by simpa using hk) (c:=c)
     simp only [List.setIfInBounds_toArray,Array.mk.injEq] at h;simp only [List.flatMap_cons,List.setIfInBounds_toArray,List.set_cons_succ,List.getElem_cons_succ,Q5m,Array.mk.injEq];rw [<- h,show (k + 1) * 2 + 1=k * 2 + 1 + 1 + 1 by omega]
     rfl
theorem RuR.K0v {w:World} {qs:List (Value × Rul)} {k:Nat} {c:Bool} (h:RuR w qs) (hk:k < qs.length):RuR w (qs.set k (qs[k].1,⟨qs[k].2.classes,c⟩)):=by
 intro q hq
 rcases List.mem_or_eq_of_mem_set hq with hq | rfl
 . exact h q hq
 . exact (show Q0q w 0 3 (.int .i64) qs[k].1 qs[k].2.classes from h _ (List.getElem_mem hk))
theorem Z8y (w:World) (v u:Value) (s:Q0b) (p:List Rul) (n:Int) (hv:Q0i w v s) (hu:Q0l w u p) (hs:Q2r s) (hp:p.length <= 1000) :
    Calls prog 56 #[v,u,.int .i64 n] w fun e w'=>J3f s p n e w' /\ Ext w w':=by
 obtain ⟨a,b,rfl,h2⟩:=hv;obtain ⟨rv,rfl,hr⟩:=hu;obtain ⟨A,Tq,rfl,-,-,-⟩:=h2.ships.opened;obtain ⟨B,Vq,rfl,-,-,-⟩:=h2.members.opened;obtain ⟨R,Fq,rfl,-,-,-⟩:=hr.opened;have H2:=hid h2;have HR:=hid hr;have HS:=hid hs;obtain ⟨E,hE⟩:∃ z,Q1k s p=z:=⟨_,rfl⟩;obtain ⟨F,hF⟩:∃ z,Z2f s p n=z:=⟨_,rfl⟩;have HE:=hid hE;have HF:=hid hF;obtain ⟨N,hN⟩:∃ z,p.length=z:=⟨_,rfl⟩;have HN:=hid hN;have Rk:=hid hp;have Lv:Hid (∀ b,X7n p n=b -> Q0o [E,Q0s b 10]=F):=hid (fun b hb=>by rw [<- hF,<- hE,<- hb]; rfl)
 rw [hN] at HR hp ⊢;clear h2 hr hs hE hF hN;go_enter func56,ntmps56;go_upto_region 1 with fail;change Code.wp _ _ _ _ (((w.alloc (.cells #[.int .i64 s.limit,.slice A s.ships.length Tq,.slice B s.members.length Vq] 34)).alloc (.cells #[.slice R N Fq] 38)).alloc (.cells #[.slice none 0 0] 38));obtain ⟨W,Mq,k0,k1,k2,Rq,eW⟩:=X0c w 34 #[.int .i64 s.limit,.slice A s.ships.length Tq,.slice B s.members.length Vq] 38 #[.slice R N Fq] 38 #[.slice none 0 0];rw [Mq];clear Mq;obtain ⟨gs,Rj⟩:∃ x,w.heap.size=x:=⟨_,rfl⟩;have rx:=hid Rj;rw [Rj] at k0 k1 k2 eW ⊢;have K0:=hid k0;have K1:=hid k1;have K2:=hid k2;clear k0 k1 k2 Rj;have Pz:Hid (∀ W',Ext W W' -> Q0i W' (.agg #[.int .i64 s.limit,.slice A s.ships.length Tq,.slice B s.members.length Vq]) s):=hid (fun W' hW=>⟨_,_,rfl,H2.out.ext (Rq.out.trans hW)⟩);have Wg:Hid (∀ W',Ext W W' -> Q0l W' (.agg #[.slice R N Fq]) p):=hid (fun W' hW=>⟨_,rfl,HR.out.ext (Rq.out.trans hW)⟩)
 go_cut [8] (fun x wx=>x=.int .i64 F /\ Ext W wx)
 case first =>
  have c0:=(K0.out).cell 0;have c1:=(K0.out).cell 1;have c2:=(K0.out).cell 2;simp only [Go.Tw.gA,Go.Tw.gB,Go.Tw.gC] at c0 c1 c2;have d0:=(K1.out).cell 0;simp only [Go.Tw.gA,Go.Tw.gB] at d0
  by_cases h0:n < 0
  . have SG:decide (n < 0)=true:=decide_eq_true h0
    have HB:Hid (X7n p n=true):=hid (by unfold X7n; rw [SG]; rfl)
    go_wp2_with fail;refine (Q2g _ _ _ s p (Pz.out _ (Ext.refl _)) (Wg.out _ (Ext.refl _)) HS.out Rk.out).mono ?_;rintro e w5 ⟨rfl,yq⟩;rw [HE.out];have vq:=hid yq;clear yq c0 c1 c2 d0;go_wp2_with fail;refine (Q4u _ true 10).mono ?_;rintro e w6 ⟨rfl,rfl⟩;go_wp2_with fail;refine (first_any _ _ [E,Q0s true 10] (Q3d (by simp))).mono ?_
    rw [Lv.out _ HB.out];rintro e w7 ⟨rfl,rfl⟩;go_wp2_with fail;go_meet;exact ⟨rfl,vq.out.trans (Ext.box _ _)⟩
  . have SG:decide (n < 0)=false:=decide_eq_false h0
    by_cases h1:(N:Int) <= n
    . have kd:decide ((N:Int) <= n)=true:=decide_eq_true h1
      have HB:Hid (X7n p n=true):=hid (by unfold X7n; rw [SG,HN.out,kd]; rfl)
      go_wp2_with fail;refine (Q2g _ _ _ s p (Pz.out _ (Ext.refl _)) (Wg.out _ (Ext.refl _)) HS.out Rk.out).mono ?_;rintro e w5 ⟨rfl,yq⟩;rw [HE.out];have vq:=hid yq;have d5:=yq.cell d0;clear yq c0 c1 c2 d0;go_wp2_with fail;refine (Q4u _ true 10).mono ?_;rintro e w6 ⟨rfl,rfl⟩;clear d5;go_wp2_with fail;refine (first_any _ _ [E,Q0s true 10] (Q3d (by simp))).mono ?_
      rw [Lv.out _ HB.out];rintro e w7 ⟨rfl,rfl⟩;go_wp2_with fail;go_meet;exact ⟨rfl,vq.out.trans (Ext.box _ _)⟩
    . have kd:decide ((N:Int) <= n)=false:=decide_eq_false h1
      have HB:Hid (X7n p n=false):=hid (by unfold X7n; rw [SG,HN.out,kd]; rfl)
      go_wp2_with fail;refine (Q2g _ _ _ s p (Pz.out _ (Ext.refl _)) (Wg.out _ (Ext.refl _)) HS.out Rk.out).mono ?_;rintro e w5 ⟨rfl,yq⟩;rw [HE.out];have vq:=hid yq;have d5:=yq.cell d0;clear yq c0 c1 c2 d0;go_wp2_with fail;refine (Q4u _ false 10).mono ?_;rintro e w6 ⟨rfl,rfl⟩;clear d5;go_wp2_with fail;refine (first_any _ _ [E,Q0s false 10] (Q3d (by simp))).mono ?_
      rw [Lv.out _ HB.out];rintro e w7 ⟨rfl,rfl⟩;go_wp2_with fail;go_meet;exact ⟨rfl,vq.out.trans (Ext.box _ _)⟩
 case rest =>
  obtain ⟨rfl,hcut⟩:=hcut;obtain ⟨w8,rfl⟩:∃ X,X=wc:=⟨_,rfl⟩;have uw:=hid hcut;have S2:=hid (K2.out.ext hcut);have d0:=(K1.out.ext hcut).cell 0;simp only [Go.Tw.gA,Go.Tw.gB] at d0;clear hcut
  by_cases h0:F=0
  . obtain ⟨hV,Zz,Q5,Ty⟩:=Z5f (HF.out.trans h0)
    have RG:Hid (J1y s p n=Q1u p n.toNat):=hid (if_pos (HF.out.trans h0));have HV:=hid hV;have sx:=hid Zz;have hne:(F != 0)=false:=by simp [h0]
    obtain ⟨m,rfl⟩:∃ i:Nat,n=(i:Int):=⟨n.toNat,by omega⟩
    rw [HN.out] at Ty;have hm:m < N:=by omega
    have VJ:=hid h0;rw [Int.toNat_natCast] at RG;clear h0 hV Zz Q5;go_wp2_with fail;refine (Z9x _ _ p (Wg.out _ uw.out) Rk.out (fun k hk=>by
     have h:=Q1n.1 sx.out;have iy:p[k].classes ∈ s.hist:=by rw [<- h]; exact List.mem_map_of_mem (List.getElem_mem hk)
     have:=Q6i HV.out _ iy;rw [Q2p hk]; omega)).mono ?_
    rintro e w9 ho;unfold Y0q at ho;rw [HN.out] at ho;obtain ⟨go,qs,rfl,hb,pp,qx,Vw,sj⟩:=ho;have jd:m < qs.length:=by rw [<- List.length_map (f:=(·.2)),qx,HN.out]; exact hm
    have ij:=Ext.box w9 (.cells #[.slice (some ⟨go,0,none⟩) N N] 38);have xj:=Blk.made w9 38 #[.slice (some ⟨go,0,none⟩) N N];have ez:=hid (hb.ext ij);have My:=hid ((S2.out.ext sj).ext ij);have uj:=hid (sj.trans ij);have Ey:=hid qx;have T0:=hid (Vw.ext ij);have gd:=hid jd;have np:=hid pp;have OX:go < w9.heap.size:=hb.lt;obtain ⟨qc,QG⟩:∃ z,qs[m].2.close=z:=⟨_,rfl⟩;have tr:=hid QG;have fz:=J3a qx jd QG;have Xg:=hid fz;clear fz;have hcl:w9.cell? ⟨go,m * 2 + 1,none⟩=some (.bool qc):=by
     rw [hb.cell,List.getElem?_toArray,flat_get Q4b qs m 1 jd (by omega)]
     show some (Value.bool qs[m].2.close)=some (.bool qc);rw [QG]
    have pz:=hid (ij.cell hcl);clear hb qx Vw sj d0 hcl QG;go_wp2_with fail;obtain ⟨g9,tJ⟩:∃ x,w9.heap.size=x:=⟨_,rfl⟩;obtain ⟨wb,Cz⟩:∃ Z,w9.alloc (.cells #[.slice (some ⟨go,0,none⟩) N N] 38)=Z:=⟨_,rfl⟩;rw [Cz,tJ] at xj;rw [Cz] at ij ez My uj T0 pz;rw [Cz,tJ];have K9:=hid xj;have kY:go < g9:=by omega
    have sr:g9 ≠ gs + 1 + 1:=by have:=S2.out.lt; have:=(uj.out).size; have:=uw.out.size; omega
    have Xq:=(Ext.refl wb).drew;clear xj ij Cz tJ OX;refine Flow.Q3q [.p,.w,.p,.p,.w,.p,.p,.p,.w,.p,.p,.p,.last] [0,1,2,3,4,5,6,7,8,9,10,11,12] [[],[0],[],[],[3],[],[3,4,5],[3,4,5,6],[3,4,5,6,7],[3,4,5,6,7,8],[0,1,2,3,4,5,6,7,8,9],[0,1,2,3,4,5,6,7,8,9,10],[0,1,2,3,4,5,6,7,8,9,10,11]] [12]
     [.c 0 (.pointer (some ⟨g9,0,none⟩)),.c 1 (.slice (some ⟨go,0,none⟩) N N),.c 2 (.int .i64 (m:Int)),.c 3 (.pointer (some ⟨g9,0,none⟩)),.c 4 (.slice (some ⟨go,0,none⟩) N N),.c 5 (.int .i64 (m:Int)),.c 6 (.pointer (some ⟨go,m * 2,none⟩)),.c 7 (.pointer (some ⟨go,m * 2 + 1,none⟩)),.c 8 (.bool qc),.c 9 (.bool (!qc)),.c 10 (.pointer (some ⟨go,m * 2,none⟩)),.c 11 (.pointer (some ⟨go,m * 2 + 1,none⟩)),.none]
     [fun v w1 w'=>w'=w1.setCell ⟨go,m * 2 + 1,none⟩ (.bool (!qc))] (by kernel_rfl) rfl (by kernel_rfl) ⟨?g0,?g1,?g2,?g3,?g4,?g5,?g6,?g7,?g8,?g9,?g10,?g11,?g12,trivial⟩ ?post
    case g0 | g2 | g3 | g5=>
     intro v w1 hx;intro bb hbb;subst hbb;refine ⟨_,fun w=>?_,rfl⟩;go_simp
    case g1 | g4=>
     intro v w1 hx;(repeat intro (zq:v _=_));intro bb hbb;subst hbb;have n0:w1.cell? ⟨g9,0,none⟩=some (.slice (some ⟨go,0,none⟩) N N):=(K9.out.ext (Xq.trans hx)).cell 0;intro K hK;go_simp;exact hK _ _ (Ext.refl _) rfl
    case g6 | g7 | g9 | g10 | g11=>
     intro v w1 hx;(repeat intro (zq:v _=_));intro bb hbb;subst hbb;refine ⟨_,fun w=>?_,rfl⟩;go_simp
    case g8=>
     intro v w1 hx;(repeat intro (zq:v _=_));intro bb hbb;subst hbb;have n0:=(Xq.trans hx).cell pz.out;intro K hK;go_simp;exact hK _ _ (Ext.refl _) rfl
    case g12=>
     intro v w1 hx;(repeat intro (zq:v _=_));intro wl hT;obtain rfl:wl=w1:=hT;intro bb hbb;intro K hK;have o1:bb.eval (.tmp 42)=.pointer (some ⟨go,m * 2 + 1,none⟩):=fzg13
     have o2:bb.eval (.tmp 40)=.bool (!qc):=fzg13
     exact Q3t _ _ rfl Y5j (g:=go) (k:=m * 2 + 1) o1 o2 rfl rfl (ez.out.ext (Xq.trans hx)) (by have:=gd.out; rw [List.size_toArray,Q4c Q4b]; omega) (fun v'=>hK _ _ rfl)
    case post =>
     intro v w1 hx;(iterate 12 intro (zq:v _=_));intro w2 hE;replace hE:(fun v w1 w'=>w'=w1.setCell ⟨go,m * 2 + 1,none⟩ (.bool (!qc))) v w1 w2:=hE;simp only [Flow.acts,Act.put];go_simp;subst hE;have Zq:=Xq.trans hx;have PG:=(ez.out.ext Zq).set (m * 2 + 1) (.bool (!qc));rw [Z9s qs gd.out] at PG;have fd:=((T0.out.ext Zq).K0v (c:=!qc) gd.out).set (k:=m * 2 + 1) (u:=.bool (!qc)) (ez.out.ext Zq) (by decide)
     have ed:=Y0o (K9.out.ext Zq) (p:=⟨go,m * 2 + 1,none⟩) (show g9 ≠ go by omega) (.bool (!qc))
     have cd:=Y0o (My.out.ext Zq) (p:=⟨go,m * 2 + 1,none⟩) (show gs + 1 + 1 ≠ go by have:=np.out; have:=S2.out.lt; omega) (.bool (!qc))
     have Ze:Ext w (w1.setCell ⟨go,m * 2 + 1,none⟩ (.bool (!qc))):=Below.setCell (Rq.out.trans (uw.out.trans (uj.out.trans Zq))) (by have:=uw.out.size; have:=Rq.out.size; show w.heap.size <= go; omega) _
     obtain ⟨wS,gi⟩:∃ Z,w1.setCell ⟨go,m * 2 + 1,none⟩ (.bool (!qc))=Z:=⟨_,rfl⟩;rw [gi] at PG fd ed cd Ze ⊢;have jk:=hid PG;have mp:=hid fd;have Lq:=hid Ze;have e0:=ed.cell 0;simp only [Go.Tw.gA,Go.Tw.gB] at e0;clear gi Zq hx Xq PG fd Ze;(repeat clear zq);have hp:=cd;clear cd ed;go_wp2_with (with_reducible (refine Q5j ?_); refine Q0t rfl _ _ _ rfl Q2w rfl rfl hp rfl rfl X0z ?_; intro wz Nj Wj cj);refine bodyPost_ret (Q2t results56 rfl Nj Q5z Q2w rfl) rfl ?_;have hS:=Xg.out;have Ov:=X5q (Q1d.J7w (base:=0) (n:=N) Q4b jk.out (by rw [List.length_set,<- List.length_map (f:=(·.2)),Ey.out,HN.out]) (Nat.zero_le _) (by unfold maxLen; omega)) (by rw [List.length_set,<- List.length_map (f:=(·.2)),Ey.out,HN.out]; omega) mp.out (fun q hq=>by
      have V1:q.2 ∈ Q1u p m:=by rw [<- hS]; exact List.mem_map_of_mem hq
      have h:=Q1n.1 (X0t (n:=m) sx.out);have iy:q.2.classes ∈ s.hist:=by rw [<- h]; exact List.mem_map_of_mem V1
      have:=Q6i HV.out _ iy;omega)
     have Ye:Q1j wS (.slice (some ⟨go,0,none⟩) N N) (Q1u p m):=by rw [<- hS]; exact Ov
     exact ⟨⟨_,by rw [HF.out,VJ.out]; rfl,by rw [RG.out]; exact X4z Ye hp (fun k _ hk=>cj k hk)⟩,Below.trans Lq.out (Wj _ (by have:=rx.out; omega))⟩
  . have RG:Hid (J1y s p n=[]):=hid (if_neg (by rw [HF.out]; exact h0))
    have hne:(F != 0)=true:=by simp [h0]
    have hp:=S2.out;clear h0;go_wp2_with (with_reducible (refine Q5j ?_); refine Q0t rfl _ _ _ rfl Q2w rfl rfl hp rfl rfl X0z ?_; intro w9 Nj Wj cj);refine bodyPost_ret (Q2t results56 rfl Nj Q5z Q2w rfl) rfl ?_;exact ⟨⟨_,by rw [HF.out]; rfl,by rw [RG.out]; exact Go.Tw.Rows.nil _ _ _⟩,Below.trans (Rq.out.trans uw.out) (Wj _ (by have:=rx.out; omega))⟩
end Go.Proofs
namespace Go.Proofs
open Go.RowKit Go.Tw Go.Flow
theorem Z1t {a b:Int} (h:a=0):Q0o [a,b]=b:=by
 subst h;unfold Q0o;rw [if_pos rfl];unfold Q0o
 by_cases hb:b=0
 . rw [if_pos hb,hb]; rfl
 . rw [if_neg hb]
theorem J7g {s:Q0b} {p:List Rul} {n:Int} (h:Q1k s p=0) (hb:X7n p n=false):Z2f s p n=0 /\ J1y s p n=Q1u p n.toNat:=by
 have h1:Z2f s p n=0:=by unfold Z2f; rw [Z1t h,hb]; rfl
 exact ⟨h1,if_pos h1⟩
theorem J4j.rules {s:Q0b} {p:List Rul} {n:Nat} {w w':World} {x:Value} (hS:Q0r s) (hp:Q0x s.hist p=0) (h:J4j 115 w w' x (Q1u p n)):Q0l w' x (Q1u p n):=by
 have hf:=Q1n.1 (X0t (n:=n) hp);refine h.is (by have:=J5g hS hp; rw [X0r]; omega) fun r hr=>?_
 have hm:r.classes ∈ s.hist:=by rw [<- hf]; exact List.mem_map_of_mem hr
 have:=Q6i hS _ hm;omega
end Go.Proofs
namespace Go.Proofs
open Go.RowKit Go.Tw Go.Flow Tryz
attribute [local go_sem] Oper.semAt_some
theorem Z4u (w:World) (v u:Value) (s:Q0b) (p:List Rul) (hv:Q0i w v s) (hu:Q0l w u p) (hs:Q2r s) (he:s.err=0) (hp:Q0x s.hist p=0) :
    Calls prog 64 #[v,u] w fun e w'=>e=.returned (.tuple #[.agg #[.int .i64 (Q7h s p).num,.int .i64 (Q7h s p).den],.int .i64 0]) /\ Ext w w':=by
 have h:=X7e w v u s p hv hu hs (X0n (Q0r.of he) hp);rw [X1x he hp,show X5l s p=Q7h s p from if_pos (X1x he hp)] at h
 exact h
theorem J2s (w:World) (v u:Value) (s:Q0b) (p:List Rul) (r:Nat) (hv:Q0i w v s) (hu:Q0l w u p) (hs:Q2r s) (he:s.err=0) (hp:Q0x s.hist p=0) (hr:r < p.length) :
    Calls prog 56 #[v,u,.int .i64 (r:Int)] w fun e w'=>∃ x,e=.returned (.tuple #[.agg #[x],.int .i64 0]) /\ Q1j w' x (Q1u p r) /\ Ext w w':=by
 have h:=Z8y w v u s p (r:Int) hv hu hs (X0n (Q0r.of he) hp);have hb:X7n p (r:Int)=false:=by
  unfold X7n;rw [Bool.or_eq_false_iff];exact ⟨decide_eq_false (by omega),decide_eq_false (by omega)⟩
 obtain ⟨h1,h2⟩:=J7g (X1x he hp) hb;refine h.mono ?_;rintro e w' ⟨⟨x,rfl,hx⟩,Nq⟩;rw [h1];rw [h2,Int.toNat_natCast] at hx;exact ⟨x,rfl,hx,Nq⟩
theorem Z9g {w z0:World} {s:Q0b} {A B:Option Addr} {T M Tq Vq gs cN nu:Nat} {lim:Int} (Lq:Hid (Ext w z0)) (uq:Hid (Words z0)) (H2:Hid (Q3b z0 (.slice A T Tq) (.slice B M Vq) s)) (KB:Hid (Blk z0 gs 25 #[.int .i64 lim,.slice A T Tq,.slice B M Vq])) (Ex:Hid (∀ W,Q3b W (.slice A T Tq) (.slice B M Vq) s -> Q0i W (.agg #[.int .i64 lim,.slice A T Tq,.slice B M Vq]) s)) (HS:Hid (Q2r s)) (HE:Hid (s.err=0)) (HT:Hid (s.ships.length=T)) (HM:Hid (s.members.length=M)) (Gw:Hid (s.limit=lim)) (Xe:Hid (cN < 2 ^ 63)) (We:Hid (nu < 256))
    (F:Array Value) (hF:F.size=392) (f1:F[1]?=some (.int .i64 (cN:Int))) (f2:F[2]?=some (.int .u8 (nu:Int))) (f3:F[3]?=some (.pointer (some ⟨gs,0,none⟩))) :
    (codeFrom Tryz.f10 3).wp prog (bodyPost prog Tryz.f10 (fun e w'=>e=.returned (.bool true) /\ Ext w w')) ⟨F,[]⟩ z0:=by
 obtain ⟨u,rfl⟩:=Z3k hF;replace f1:u 1=_:=Option.some.inj f1;replace f2:u 2=_:=Option.some.inj f2;replace f3:u 3=_:=Option.some.inj f3;rw [f1,f2,f3];clear hF f1 f2 f3
 conv=>arg 2; whnf
 obtain ⟨p,pX⟩:∃ z,Q4f s cN=z:=⟨_,rfl⟩;have XQ:=hid pX;have HV:=hid (Q0r.of HE.out);have sx:Hid (Q0x s.hist p=0):=hid (by rw [<- pX]; exact (X8n s cN))
 have J3:Hid (p.length <= 4096):=hid (by have:=Q7o HV.out; rw [<- pX,X3r]; omega)
 have i6:Hid (∀ k,k < p.length -> (Q0m p k).length <= 4096):=hid (by rw [<- pX]; exact Z7e HV.out cN)
 have jp:Hid (0 < p.length):=hid (by rw [<- pX,X3r]; exact Y4f HV.out)
 clear pX;have d0:=KB.out.cell 0;have d1:=KB.out.cell 1;have d2:=KB.out.cell 2;simp only [Go.Tw.gA,Go.Tw.gB,Go.Tw.gC] at d0 d1 d2;go_wp2_with fail;refine (Z2a _ _ s cN (Ex.out _ H2.out) HE.out Xe.out).mono ?_;rintro e z1 ⟨xc,rfl,hu,hx⟩;have Zq:Ext z0 z1:=hx;replace Lq:=hid (Lq.out.trans Zq);replace uq:=hid (uq.out.ext Zq);replace H2:=hid (H2.out.ext Zq);replace KB:=hid (KB.out.ext Zq);clear hx Zq;clear d0 d1 d2;have hp:=J4j.policy HV.out hu;rw [XQ.out] at hp;obtain ⟨ux,rfl,hr⟩:=hp;obtain ⟨R,Fq,rfl,-,-,-⟩:=hr.opened;obtain ⟨NR,Ve⟩:∃ z,p.length=z:=⟨_,rfl⟩;have ZX:=hid Ve;rw [Ve] at hr ⊢;clear Ve hu;have FQ:=hid hr;clear hr;have Ev:=Ext.box z1 (.cells #[.slice R NR Fq] 47);have N0:=Blk.made z1 47 #[.slice R NR Fq];replace Lq:=hid (Lq.out.trans Ev);replace uq:=hid (uq.out.ext Ev);replace H2:=hid (H2.out.ext Ev);replace KB:=hid (KB.out.ext Ev);replace FQ:=hid (FQ.out.ext Ev);go_upto_region 4 with fail;obtain ⟨gq,Ue⟩:∃ z,z1.heap.size=z:=⟨_,rfl⟩;obtain ⟨z2,lq⟩:∃ Z,z1.alloc (.cells #[.slice R NR Fq] 47)=Z:=⟨_,rfl⟩;rw [lq,Ue] at N0;rw [lq] at Lq uq H2 KB FQ;rw [lq,Ue];have KQ:=hid N0;clear N0 lq Ue Ev;have Fw:Hid (∀ W,Q1j W (.slice R NR Fq) p -> Q0l W (.agg #[.slice R NR Fq]) p):=hid (fun W h=>⟨_,rfl,h⟩);obtain ⟨r,Nw⟩:∃ z,nu % NR=z:=⟨_,rfl⟩;have Ov:r < NR:=by rw [<- Nw]; exact Nat.mod_lt _ (by rw [<- ZX.out]; exact jp.out)
 have Te:(nu:Int).tmod (NR:Int)=(r:Int):=by rw [<- Nw]; exact (Int.ofNat_tmod _ _).symm
 have GW:¬ ((NR:Int)=0):=by omega
 have M2:IntKind.i64.wrap (nu:Int)=(nu:Int):=Q2j _ (by omega) (by have:=We.out; omega)
 have Dx:Hid (r < p.length):=hid (by rw [ZX.out]; exact Ov)
 clear Nw Ov;have d0:=KQ.out.cell 0;simp only [Go.Tw.gA,Go.Tw.gB] at d0;go_upto_region 5 with fail;clear Te GW M2 d0;obtain ⟨cw,rX⟩:∃ z,Q2u s p=z:=⟨_,rfl⟩;obtain ⟨dw,qX⟩:∃ z,Q6q s p=z:=⟨_,rfl⟩;obtain ⟨⟨rn,rd⟩,sY⟩:∃ z,Q7h s p=z:=⟨_,rfl⟩;have i5:Hid (Q7h s p=⟨rn,rd⟩ /\ Q2u s p=cw /\ Q6q s p=dw):=hid ⟨sY,rX,qX⟩;clear sY rX qX;have Xq:=(Ext.refl z2).drew;refine Flow.Q1h [.w,.w,.w,.w,.w,.p,.p,.p,.p,.p] [0,1,2,3,4,5,6,7,8,9] [[],[0],[],[1,2],[1,3],[4],[4,5],[4,5],[0,1,2,3,4,5,6],[0,1,2,3,4,5,6,7,8]]
  [.c 0 (.agg #[.int .i64 lim,.slice A T Tq,.slice B M Vq]),⟨fun v wz=>(fun v w'=>Q0i w' (v 1) s) v wz,by intro v a b hx h; exact Q0i.ext h hx⟩,.c 2 (.agg #[.slice R NR Fq]),⟨fun v wz=>(fun v w'=>Q0l w' (v 3) p) v wz,by intro v a b hx h; exact Q0l.ext h hx⟩,⟨fun v wz=>(fun v w'=>∃ x,v 4=.tuple #[x,.int .i64 0] /\ Q0g w' x (Q1w s p)) v wz,by rintro v a b hx ⟨x,h1,h2⟩; exact ⟨x,h1,h2.ext hx⟩⟩,⟨fun v wz=>(fun v w'=>v 5=v 4) v wz,by intro v a b hx h; exact h⟩,⟨fun v wz=>(fun v w'=>v 4=.tuple #[v 6,.int .i64 0]) v wz,by intro v a b hx h; exact h⟩,.c 7 (.int .i64 0),⟨fun v wz=>(fun v w'=>v 8=v 6) v wz,by intro v a b hx h; exact h⟩,.c 9 (.int .i64 0)]
  (by kernel_rfl) rfl (by kernel_rfl) ⟨?g0,?g1,?g2,?g3,?g4,?g5,?g6,?g7,?g8,?g9,trivial⟩ ?post
 case g0=>
  intro v w1 hx;intro bb hbb;intro K2 tq;have o1:bb.eval (.tmp 3)=.pointer (some ⟨gs,0,none⟩):=fze13
  exact Q0k (.tmp 3) _ rfl X3o Q8g o1 (KB.out.ext (Xq.trans hx)) rfl (tq _ _ (Ext.refl _) rfl)
 case g1=>
  intro v w1 hx;(repeat intro (zq:v _=_));intro bb hbb;subst hbb;intro K2 tq;go_simp;refine Q0e (Q5o w1 _ s (Ex.out _ (H2.out.ext (Xq.trans hx))) HS.out) ?_;rintro e w2 ⟨u,rfl,hu,Nq⟩;exact ⟨_,rfl,tq _ _ Nq hu⟩
 case g2=>
  intro v w1 hx;intro bb hbb;intro K2 tq;have o1:bb.eval (.tmp 7)=.pointer (some ⟨gq,0,none⟩):=fze13
  exact Q0k (.tmp 7) _ rfl X7c Q9i o1 (KQ.out.ext (Xq.trans hx)) rfl (tq _ _ (Ext.refl _) rfl)
 case g3=>
  intro v w1 hx _ (q2:v 2=_);intro bb hbb;subst hbb;intro K2 tq;go_simp;refine Q0e (X5b w1 _ p (Fw.out _ (FQ.out.ext (Xq.trans hx))) J3.out i6.out) ?_;rintro e w2 ⟨u,rfl,hu,Nq⟩;exact ⟨_,rfl,tq _ _ Nq hu⟩
 case g4=>
  intro v w1 hx (q1:(fun v w'=>Q0i w' (v 1) s) v w1) (q3:(fun v w'=>Q0l w' (v 3) p) v w1);intro bb hbb;subst hbb;intro K2 tq;go_simp;refine Q0e (J2g w1 _ _ s _ q1 q3 HS.out HE.out sx.out) ?_;rintro e w2 ⟨u,rfl,hu,Nq⟩;exact ⟨_,rfl,tq _ _ Nq ⟨_,rfl,hu⟩⟩
 case g5=>
  intro v w1 hx _;intro bb hbb;have o1:bb.eval (.tmp 67)=v 4:=fzg13
  exact ⟨_,fun w=>Q9y (.tmp 67) rfl o1,rfl⟩
 case g6=>
  intro v w1 hx (q4:(fun v w'=>∃ x,v 4=.tuple #[x,.int .i64 0] /\ Q0g w' x (Q1w s p)) v w1) (q5:(fun v w'=>v 5=v 4) v w1);intro bb hbb;obtain ⟨x,h5,_⟩:=q4;have o1:bb.eval (.tmp 62)=.tuple #[x,.int .i64 0]:=by rw [<- h5,<- q5]; rw [hbb]; dsimp only; (try simp (discharger:=decide) only [eval_put_ne]); rw [Q0a (by simp only [size_put]; exact (by decide:62 < 392))]
  exact ⟨_,fun w=>Q3k (.tmp 62) 0 rfl o1 (fun w=>Z9a w _ _),h5⟩
 case g7=>
  intro v w1 hx (q4:(fun v w'=>∃ x,v 4=.tuple #[x,.int .i64 0] /\ Q0g w' x (Q1w s p)) v w1) (q5:(fun v w'=>v 5=v 4) v w1);intro bb hbb;obtain ⟨x,h5,_⟩:=q4;have o1:bb.eval (.tmp 62)=.tuple #[x,.int .i64 0]:=by rw [<- h5,<- q5]; rw [hbb]; dsimp only; (try simp (discharger:=decide) only [eval_put_ne]); rw [Q0a (by simp only [size_put]; exact (by decide:62 < 392))]
  exact ⟨_,fun w=>Q3k (.tmp 62) 1 rfl o1 (fun w=>J0t w _ _),rfl⟩
 case g8=>
  intro v w1 hx (q0:v 0=_) _ (q2:v 2=_) _ _ _ _;intro bb hbb;have o1:bb.eval (.tmp 68)=v 6:=fzg13
  exact ⟨_,fun w=>Y0z (.tmp 68) rfl o1,rfl⟩
 case g9=>
  intro v w1 hx (q0:v 0=_) _ (q2:v 2=_) _ _ _ _ (q7:v 7=_) _;intro bb hbb;subst hbb;refine ⟨_,fun w=>?_,rfl⟩;go_simp
 case post =>
  intro v w1 hx (q0:v 0=_) (q1:(fun v w'=>Q0i w' (v 1) s) v w1) (q2:v 2=_) (q3:(fun v w'=>Q0l w' (v 3) p) v w1) (q4:(fun v w'=>∃ x,v 4=.tuple #[x,.int .i64 0] /\ Q0g w' x (Q1w s p)) v w1) (q5:(fun v w'=>v 5=v 4) v w1) (q6:(fun v w'=>v 4=.tuple #[v 6,.int .i64 0]) v w1) (q7:v 7=_) (q8:(fun v w'=>v 8=v 6) v w1) (q9:v 9=_);simp only [Flow.All,Flow.acts,Act.put];go_simp;obtain ⟨xk,h5,hik⟩:=q4;replace q6:v 4=.tuple #[v 6,.int .i64 0]:=q6;replace q8:v 8=v 6:=q8;rw [h5] at q6;simp only [Value.tuple.injEq,Array.mk.injEq,List.cons.injEq,and_true] at q6;obtain ⟨Xk,ckk,rfl,-,-,-⟩:=hik.opened;obtain ⟨nk,TW⟩:∃ z,(Q1w s p).length=z:=⟨_,rfl⟩;rw [TW] at q6 hik
  (try rw [q8])
  rw [<- q6];clear TW h5;have Zq:=Xq.trans hx;replace Lq:=hid (Lq.out.trans Zq);replace uq:=hid (uq.out.ext Zq);replace H2:=hid (H2.out.ext Zq);replace KB:=hid (KB.out.ext Zq);replace FQ:=hid (FQ.out.ext Zq);replace KQ:=hid (KQ.out.ext Zq);have GK:=hid (hik);obtain ⟨z3,rfl⟩:∃ Z,Z=w1:=⟨_,rfl⟩;clear hx Xq Zq q0 q1 q2 q3 q5 q6 q7 q8 q9 hik;go_upto_region 6 with fail;have Xq:=(Ext.refl z3).drew;refine Flow.Q1h [.w,.w,.w,.w,.w,.p,.p,.p,.p,.p] [0,1,2,3,4,5,6,7,8,9] [[],[0],[],[1,2],[1,3],[4],[5],[5],[0,1,2,3,4,5,6],[0,1,2,3,4,5,6,7,8]]
   [.c 0 (.agg #[.int .i64 lim,.slice A T Tq,.slice B M Vq]),⟨fun v wz=>(fun v w'=>Q0i w' (v 1) s) v wz,by intro v a b hx h; exact Q0i.ext h hx⟩,.c 2 (.agg #[.slice R NR Fq]),⟨fun v wz=>(fun v w'=>Q0l w' (v 3) p) v wz,by intro v a b hx h; exact Q0l.ext h hx⟩,.c 4 (.tuple #[.int .i64 cw,.int .i64 0]),.c 5 (.tuple #[.int .i64 cw,.int .i64 0]),.c 6 (.int .i64 cw),.c 7 (.int .i64 0),.c 8 (.int .i64 cw),.c 9 (.int .i64 0)]
   (by kernel_rfl) rfl (by kernel_rfl) ⟨?g0,?g1,?g2,?g3,?g4,?g5,?g6,?g7,?g8,?g9,trivial⟩ ?post
  case g0=>
   intro v w1 hx;intro bb hbb;intro K2 tq;have o1:bb.eval (.tmp 3)=.pointer (some ⟨gs,0,none⟩):=fze13
   exact Q0k (.tmp 3) _ rfl X3o Q8g o1 (KB.out.ext (Xq.trans hx)) rfl (tq _ _ (Ext.refl _) rfl)
  case g1=>
   intro v w1 hx;(repeat intro (zq:v _=_));intro bb hbb;subst hbb;intro K2 tq;go_simp;refine Q0e (Q5o w1 _ s (Ex.out _ (H2.out.ext (Xq.trans hx))) HS.out) ?_;rintro e w2 ⟨u,rfl,hu,Nq⟩;exact ⟨_,rfl,tq _ _ Nq hu⟩
  case g2=>
   intro v w1 hx;intro bb hbb;intro K2 tq;have o1:bb.eval (.tmp 7)=.pointer (some ⟨gq,0,none⟩):=fze13
   exact Q0k (.tmp 7) _ rfl X7c Q9i o1 (KQ.out.ext (Xq.trans hx)) rfl (tq _ _ (Ext.refl _) rfl)
  case g3=>
   intro v w1 hx _ (q2:v 2=_);intro bb hbb;subst hbb;intro K2 tq;go_simp;refine Q0e (X5b w1 _ p (Fw.out _ (FQ.out.ext (Xq.trans hx))) J3.out i6.out) ?_;rintro e w2 ⟨u,rfl,hu,Nq⟩;exact ⟨_,rfl,tq _ _ Nq hu⟩
  case g4=>
   intro v w1 hx (q1:(fun v w'=>Q0i w' (v 1) s) v w1) (q3:(fun v w'=>Q0l w' (v 3) p) v w1);intro bb hbb;subst hbb;intro K2 tq;go_simp;refine Q0e (Y8z w1 _ _ s _ q1 q3 HS.out HE.out sx.out) ?_;rintro e w2 ⟨rfl,Nq⟩;exact ⟨_,rfl,tq _ _ Nq (congrArg (fun z=>Value.tuple #[.int .i64 z,.int .i64 0]) i5.out.2.1)⟩
  case g5 | g6 | g7=>
   intro v w1 hx;(repeat intro (zq:v _=_));intro bb hbb;subst hbb;refine ⟨_,fun w=>?_,rfl⟩;go_simp
  case g8=>
   intro v w1 hx (q0:v 0=_) _ (q2:v 2=_) _ (q4:v 4=_) (q5:v 5=_) (q6:v 6=_);intro bb hbb;subst hbb;refine ⟨_,fun w=>?_,rfl⟩;go_simp
  case g9=>
   intro v w1 hx (q0:v 0=_) _ (q2:v 2=_) _ (q4:v 4=_) (q5:v 5=_) (q6:v 6=_) (q7:v 7=_) (q8:v 8=_);intro bb hbb;subst hbb;refine ⟨_,fun w=>?_,rfl⟩;go_simp
  case post =>
   intro v w1 hx (q0:v 0=_) (q1:(fun v w'=>Q0i w' (v 1) s) v w1) (q2:v 2=_) (q3:(fun v w'=>Q0l w' (v 3) p) v w1) (q4:v 4=_) (q5:v 5=_) (q6:v 6=_) (q7:v 7=_) (q8:v 8=_) (q9:v 9=_);simp only [Flow.All,Flow.acts,Act.put];go_simp;have Zq:=Xq.trans hx;replace Lq:=hid (Lq.out.trans Zq);replace uq:=hid (uq.out.ext Zq);replace H2:=hid (H2.out.ext Zq);replace KB:=hid (KB.out.ext Zq);replace FQ:=hid (FQ.out.ext Zq);replace KQ:=hid (KQ.out.ext Zq);replace GK:=hid (GK.out.ext Zq);obtain ⟨z4,rfl⟩:∃ Z,Z=w1:=⟨_,rfl⟩;clear hx Xq Zq q0 q1 q2 q3 q4 q5 q6 q7 q8 q9;go_upto_region 7 with fail;have Xq:=(Ext.refl z4).drew;refine Flow.Q1h [.w,.w,.w,.w,.w,.p,.p,.p,.p,.p] [0,1,2,3,4,5,6,7,8,9] [[],[0],[],[1,2],[1,3],[4],[5],[5],[0,1,2,3,4,5,6],[0,1,2,3,4,5,6,7,8]]
    [.c 0 (.agg #[.int .i64 lim,.slice A T Tq,.slice B M Vq]),⟨fun v wz=>(fun v w'=>Q0i w' (v 1) s) v wz,by intro v a b hx h; exact Q0i.ext h hx⟩,.c 2 (.agg #[.slice R NR Fq]),⟨fun v wz=>(fun v w'=>Q0l w' (v 3) p) v wz,by intro v a b hx h; exact Q0l.ext h hx⟩,.c 4 (.tuple #[.int .i64 dw,.int .i64 0]),.c 5 (.tuple #[.int .i64 dw,.int .i64 0]),.c 6 (.int .i64 dw),.c 7 (.int .i64 0),.c 8 (.int .i64 dw),.c 9 (.int .i64 0)]
    (by kernel_rfl) rfl (by kernel_rfl) ⟨?g0,?g1,?g2,?g3,?g4,?g5,?g6,?g7,?g8,?g9,trivial⟩ ?post
   case g0=>
    intro v w1 hx;intro bb hbb;intro K2 tq;have o1:bb.eval (.tmp 3)=.pointer (some ⟨gs,0,none⟩):=fze13
    exact Q0k (.tmp 3) _ rfl X3o Q8g o1 (KB.out.ext (Xq.trans hx)) rfl (tq _ _ (Ext.refl _) rfl)
   case g1=>
    intro v w1 hx;(repeat intro (zq:v _=_));intro bb hbb;subst hbb;intro K2 tq;go_simp;refine Q0e (Q5o w1 _ s (Ex.out _ (H2.out.ext (Xq.trans hx))) HS.out) ?_;rintro e w2 ⟨u,rfl,hu,Nq⟩;exact ⟨_,rfl,tq _ _ Nq hu⟩
   case g2=>
    intro v w1 hx;intro bb hbb;intro K2 tq;have o1:bb.eval (.tmp 7)=.pointer (some ⟨gq,0,none⟩):=fze13
    exact Q0k (.tmp 7) _ rfl X7c Q9i o1 (KQ.out.ext (Xq.trans hx)) rfl (tq _ _ (Ext.refl _) rfl)
   case g3=>
    intro v w1 hx _ (q2:v 2=_);intro bb hbb;subst hbb;intro K2 tq;go_simp;refine Q0e (X5b w1 _ p (Fw.out _ (FQ.out.ext (Xq.trans hx))) J3.out i6.out) ?_;rintro e w2 ⟨u,rfl,hu,Nq⟩;exact ⟨_,rfl,tq _ _ Nq hu⟩
   case g4=>
    intro v w1 hx (q1:(fun v w'=>Q0i w' (v 1) s) v w1) (q3:(fun v w'=>Q0l w' (v 3) p) v w1);intro bb hbb;subst hbb;intro K2 tq;go_simp;refine Q0e (Z7s w1 _ _ s _ q1 q3 HS.out HE.out sx.out) ?_;rintro e w2 ⟨rfl,Nq⟩;exact ⟨_,rfl,tq _ _ Nq (congrArg (fun z=>Value.tuple #[.int .i64 z,.int .i64 0]) i5.out.2.2)⟩
   case g5 | g6 | g7=>
    intro v w1 hx;(repeat intro (zq:v _=_));intro bb hbb;subst hbb;refine ⟨_,fun w=>?_,rfl⟩;go_simp
   case g8=>
    intro v w1 hx (q0:v 0=_) _ (q2:v 2=_) _ (q4:v 4=_) (q5:v 5=_) (q6:v 6=_);intro bb hbb;subst hbb;refine ⟨_,fun w=>?_,rfl⟩;go_simp
   case g9=>
    intro v w1 hx (q0:v 0=_) _ (q2:v 2=_) _ (q4:v 4=_) (q5:v 5=_) (q6:v 6=_) (q7:v 7=_) (q8:v 8=_);intro bb hbb;subst hbb;refine ⟨_,fun w=>?_,rfl⟩;go_simp
   case post =>
    intro v w1 hx (q0:v 0=_) (q1:(fun v w'=>Q0i w' (v 1) s) v w1) (q2:v 2=_) (q3:(fun v w'=>Q0l w' (v 3) p) v w1) (q4:v 4=_) (q5:v 5=_) (q6:v 6=_) (q7:v 7=_) (q8:v 8=_) (q9:v 9=_);simp only [Flow.All,Flow.acts,Act.put];go_simp;have Zq:=Xq.trans hx;replace Lq:=hid (Lq.out.trans Zq);replace uq:=hid (uq.out.ext Zq);replace H2:=hid (H2.out.ext Zq);replace KB:=hid (KB.out.ext Zq);replace FQ:=hid (FQ.out.ext Zq);replace KQ:=hid (KQ.out.ext Zq);replace GK:=hid (GK.out.ext Zq);obtain ⟨z5,rfl⟩:∃ Z,Z=w1:=⟨_,rfl⟩;clear hx Xq Zq q0 q1 q2 q3 q4 q5 q6 q7 q8 q9;go_upto_region 8 with fail;have Xq:=(Ext.refl z5).drew;refine Flow.Q3q [.w,.w,.w,.w,.w,.p,.p,.p,.w,.last,.last] [0,1,2,3,4,5,6,7,8,9,10] [[],[0],[],[0,1,2],[0,1,2,3],[0,1,2,3,4],[0,1,2,3,4,5],[0,1,2,3,4,5],[],[0,1,2,3,4,5,6,8],[0,1,2,3,4,5,6,7,8,9]] [9,10]
     [.c 0 (.agg #[.int .i64 lim,.slice A T Tq,.slice B M Vq]),⟨fun v wz=>(fun v w'=>Q0i w' (v 1) s) v wz,by intro v a b hx h; exact Q0i.ext h hx⟩,.c 2 (.agg #[.slice R NR Fq]),⟨fun v wz=>(fun v w'=>Q0l w' (v 3) p) v wz,by intro v a b hx h; exact Q0l.ext h hx⟩,.c 4 (.tuple #[.agg #[.int .i64 rn,.int .i64 rd],.int .i64 0]),.c 5 (.tuple #[.agg #[.int .i64 rn,.int .i64 rd],.int .i64 0]),.c 6 (.agg #[.int .i64 rn,.int .i64 rd]),.c 7 (.int .i64 0),⟨fun v wz=>(fun v w'=>∃ g,v 8=.pointer (some ⟨g,0,none⟩) /\ Blk w' g 107 #[.int .i64 0,.int .i64 0] /\ z5.heap.size <= g) v wz,by rintro v a b hx ⟨g,h1,h2,h3⟩; exact ⟨g,h1,h2.ext hx,h3⟩⟩,.none,.none]
     [fun v w1 w'=>∃ g,v 8=.pointer (some ⟨g,0,none⟩) /\ Blk w' g 107 #[.int .i64 rn,.int .i64 rd] /\ Ext z5 w',fun v w1 w'=>v 10=.int .i64 0 /\ ∃ g,v 8=.pointer (some ⟨g,0,none⟩) /\ Blk w' g 107 #[.int .i64 rn,.int .i64 rd] /\ Ext z5 w'] (by kernel_rfl) rfl (by kernel_rfl) ⟨?g0,?g1,?g2,?g3,?g4,?g5,?g6,?g7,?g8,?g9,?g10,trivial⟩ ?post
    case g0=>
     intro v w1 hx;intro bb hbb;intro K2 tq;have o1:bb.eval (.tmp 3)=.pointer (some ⟨gs,0,none⟩):=fze13
     exact Q0k (.tmp 3) _ rfl X3o Q8g o1 (KB.out.ext (Xq.trans hx)) rfl (tq _ _ (Ext.refl _) rfl)
    case g1=>
     intro v w1 hx;(repeat intro (zq:v _=_));intro bb hbb;subst hbb;intro K2 tq;go_simp;refine Q0e (Q5o w1 _ s (Ex.out _ (H2.out.ext (Xq.trans hx))) HS.out) ?_;rintro e w2 ⟨u,rfl,hu,Nq⟩;exact ⟨_,rfl,tq _ _ Nq hu⟩
    case g2=>
     intro v w1 hx;intro bb hbb;intro K2 tq;have o1:bb.eval (.tmp 7)=.pointer (some ⟨gq,0,none⟩):=fze13
     exact Q0k (.tmp 7) _ rfl X7c Q9i o1 (KQ.out.ext (Xq.trans hx)) rfl (tq _ _ (Ext.refl _) rfl)
    case g3=>
     intro v w1 hx (q0:v 0=_) _ (q2:v 2=_);intro bb hbb;subst hbb;intro K2 tq;go_simp;refine Q0e (X5b w1 _ p (Fw.out _ (FQ.out.ext (Xq.trans hx))) J3.out i6.out) ?_;rintro e w2 ⟨u,rfl,hu,Nq⟩;exact ⟨_,rfl,tq _ _ Nq hu⟩
    case g4=>
     intro v w1 hx (q0:v 0=_) (q1:(fun v w'=>Q0i w' (v 1) s) v w1) (q2:v 2=_) (q3:(fun v w'=>Q0l w' (v 3) p) v w1);intro bb hbb;subst hbb;intro K2 tq;go_simp;refine Q0e (Z4u w1 _ _ s _ q1 q3 HS.out HE.out sx.out) ?_;rintro e w2 ⟨rfl,Nq⟩;rw [i5.out.1];exact ⟨_,rfl,tq _ _ Nq rfl⟩
    case g5=>
     intro v w1 hx (q0:v 0=_) _ (q2:v 2=_) _ (q4:v 4=_);intro bb hbb;subst hbb;refine ⟨_,fun w=>?_,rfl⟩;go_simp
    case g6 | g7=>
     intro v w1 hx (q0:v 0=_) _ (q2:v 2=_) _ (q4:v 4=_) (q5:v 5=_);intro bb hbb;subst hbb;refine ⟨_,fun w=>?_,rfl⟩;go_simp
    case g8=>
     intro v w1 hx;intro bb hbb;subst hbb;intro K hK;go_simp;exact hK _ _ (Ext.box _ _) ⟨_,rfl,Blk.made _ _ _,(Xq.trans hx).size⟩
    case g9=>
     intro v w1 hx (q0:v 0=_) _ (q2:v 2=_) _ (q4:v 4=_) (q5:v 5=_) (q6:v 6=_) (q8:(fun v w'=>∃ g,v 8=.pointer (some ⟨g,0,none⟩) /\ Blk w' g 107 #[.int .i64 0,.int .i64 0] /\ z5.heap.size <= g) v w1);intro wl hT;obtain rfl:wl=w1:=hT;intro bb hbb;intro K hK;obtain ⟨g,e13,Q3,L5⟩:=q8;have o1:bb.eval (.tmp 15)=.pointer (some ⟨g,0,none⟩):=fzg13
     have o2:bb.eval (.tmp 92)=.agg #[.int .i64 rn,.int .i64 rd]:=fzg13
     exact Q1q (.tmp 15) (.tmp 92) _ rfl X5m o1 o2 Q3 rfl rfl (by intro u hu; simp only [List.mem_cons,List.not_mem_nil,or_false] at hu; rcases hu with rfl | rfl <;> rfl) (fun vv w' hb hl ho=>hK _ _ ⟨g,e13,hb,Below.trans (Xq.trans hx) (hl _ L5)⟩)
    case g10=>
     intro v w1 hx (q0:v 0=_) _ (q2:v 2=_) _ (q4:v 4=_) (q5:v 5=_) (q6:v 6=_) (q7:v 7=_) _;intro wl hT;replace hT:(fun v w1 w'=>∃ g,v 8=.pointer (some ⟨g,0,none⟩) /\ Blk w' g 107 #[.int .i64 rn,.int .i64 rd] /\ Ext z5 w') v w1 wl:=hT;intro bb hbb;subst hbb;intro K hK;go_simp;exact hK _ _ ⟨rfl,hT⟩
    case post =>
     intro v w1 hx (q0:v 0=_) (q1:(fun v w'=>Q0i w' (v 1) s) v w1) (q2:v 2=_) (q3:(fun v w'=>Q0l w' (v 3) p) v w1) (q4:v 4=_) (q5:v 5=_) (q6:v 6=_) (q7:v 7=_) (q8:(fun v w'=>∃ g,v 8=.pointer (some ⟨g,0,none⟩) /\ Blk w' g 107 #[.int .i64 0,.int .i64 0] /\ z5.heap.size <= g) v w1);intro w2 hE;replace hE:(fun v w1 w'=>v 10=.int .i64 0 /\ ∃ g,v 8=.pointer (some ⟨g,0,none⟩) /\ Blk w' g 107 #[.int .i64 rn,.int .i64 rd] /\ Ext z5 w') v w1 w2:=hE;simp only [Flow.acts,Act.put];go_simp;obtain ⟨mK,gr,e8,Gz,ak⟩:=hE
     try rw [mK]
     try rw [e8]
     have Zq:=ak;replace Lq:=hid (Lq.out.trans Zq);replace uq:=hid (uq.out.ext Zq);replace H2:=hid (H2.out.ext Zq);replace KB:=hid (KB.out.ext Zq);replace FQ:=hid (FQ.out.ext Zq);replace KQ:=hid (KQ.out.ext Zq);replace GK:=hid (GK.out.ext Zq);have KR:=hid (Gz);obtain ⟨z6,rfl⟩:∃ Z,Z=w2:=⟨_,rfl⟩;clear hx Xq Zq q0 q1 q2 q3 q4 q5 q6 q7 q8 Gz ak mK e8;go_upto_region 9 with fail;have Xq:=(Ext.refl z6).drew;refine Flow.Q3q [.w,.w,.w,.w,.p,.w,.p,.p,.p,.w,.last,.last] [0,1,2,3,4,5,6,7,8,9,10,11] [[],[0],[],[0,1,2],[],[0,1,2,3,4],[0,1,2,3,4,5],[0,1,2,3,4,5,6],[0,1,2,3,4,5,6],[],[0,1,2,3,4,5,6,7,9],[0,1,2,3,4,5,6,7,8,9,10]] [10,11]
      [.c 0 (.agg #[.int .i64 lim,.slice A T Tq,.slice B M Vq]),⟨fun v wz=>(fun v w'=>Q0i w' (v 1) s) v wz,by intro v a b hx h; exact Q0i.ext h hx⟩,.c 2 (.agg #[.slice R NR Fq]),⟨fun v wz=>(fun v w'=>Q0l w' (v 3) p) v wz,by intro v a b hx h; exact Q0l.ext h hx⟩,.c 4 (.int .i64 (r:Int)),⟨fun v wz=>(fun v w'=>∃ x,v 5=.tuple #[.agg #[x],.int .i64 0] /\ Q1j w' x (Q1u p r)) v wz,by rintro v a b hx ⟨x,h1,h2⟩; exact ⟨x,h1,h2.ext hx⟩⟩,⟨fun v wz=>(fun v w'=>v 6=v 5) v wz,by intro v a b hx h; exact h⟩,⟨fun v wz=>(fun v w'=>v 5=.tuple #[v 7,.int .i64 0]) v wz,by intro v a b hx h; exact h⟩,.c 8 (.int .i64 0),⟨fun v wz=>(fun v w'=>∃ g,v 9=.pointer (some ⟨g,0,none⟩) /\ Blk w' g 38 #[.slice none 0 0] /\ z6.heap.size <= g) v wz,by rintro v a b hx ⟨g,h1,h2,h3⟩; exact ⟨g,h1,h2.ext hx,h3⟩⟩,.none,.none]
      [fun v w1 w'=>∃ g X c,v 9=.pointer (some ⟨g,0,none⟩) /\ Blk w' g 38 #[.slice X (Q1u p r).length c] /\ Q1j w' (.slice X (Q1u p r).length c) (Q1u p r) /\ Ext z6 w',fun v w1 w'=>v 11=.int .i64 0 /\ ∃ g X c,v 9=.pointer (some ⟨g,0,none⟩) /\ Blk w' g 38 #[.slice X (Q1u p r).length c] /\ Q1j w' (.slice X (Q1u p r).length c) (Q1u p r) /\ Ext z6 w'] (by kernel_rfl) rfl (by kernel_rfl) ⟨?g0,?g1,?g2,?g3,?g4,?g5,?g6,?g7,?g8,?g9,?g10,?g11,trivial⟩ ?post
     case g0=>
      intro v w1 hx;intro bb hbb;intro K2 tq;have o1:bb.eval (.tmp 3)=.pointer (some ⟨gs,0,none⟩):=fze13
      exact Q0k (.tmp 3) _ rfl X3o Q8g o1 (KB.out.ext (Xq.trans hx)) rfl (tq _ _ (Ext.refl _) rfl)
     case g1=>
      intro v w1 hx;(repeat intro (zq:v _=_));intro bb hbb;subst hbb;intro K2 tq;go_simp;refine Q0e (Q5o w1 _ s (Ex.out _ (H2.out.ext (Xq.trans hx))) HS.out) ?_;rintro e w2 ⟨u,rfl,hu,Nq⟩;exact ⟨_,rfl,tq _ _ Nq hu⟩
     case g2=>
      intro v w1 hx;intro bb hbb;intro K2 tq;have o1:bb.eval (.tmp 7)=.pointer (some ⟨gq,0,none⟩):=fze13
      exact Q0k (.tmp 7) _ rfl X7c Q9i o1 (KQ.out.ext (Xq.trans hx)) rfl (tq _ _ (Ext.refl _) rfl)
     case g3=>
      intro v w1 hx (q0:v 0=_) _ (q2:v 2=_);intro bb hbb;subst hbb;intro K2 tq;go_simp;refine Q0e (X5b w1 _ p (Fw.out _ (FQ.out.ext (Xq.trans hx))) J3.out i6.out) ?_;rintro e w2 ⟨u,rfl,hu,Nq⟩;exact ⟨_,rfl,tq _ _ Nq hu⟩
     case g4=>
      intro v w1 hx;intro bb hbb;subst hbb;refine ⟨_,fun w=>?_,rfl⟩;go_simp
     case g5=>
      intro v w1 hx (q0:v 0=_) (q1:(fun v w'=>Q0i w' (v 1) s) v w1) (q2:v 2=_) (q3:(fun v w'=>Q0l w' (v 3) p) v w1) (q4:v 4=_);intro bb hbb;subst hbb;intro K2 tq;go_simp;refine Q0e (J2s w1 _ _ s p r q1 q3 HS.out HE.out sx.out Dx.out) ?_;rintro e w2 ⟨u,rfl,hu,Nq⟩;exact ⟨_,rfl,tq _ _ Nq ⟨_,rfl,hu⟩⟩
     case g6=>
      intro v w1 hx (q0:v 0=_) _ (q2:v 2=_) _ (q4:v 4=_) _;intro bb hbb;have o1:bb.eval (.tmp 100)=v 5:=fzg13
      exact ⟨_,fun w=>Q9y (.tmp 100) rfl o1,rfl⟩
     case g7=>
      intro v w1 hx (q0:v 0=_) _ (q2:v 2=_) _ (q4:v 4=_) (q5:(fun v w'=>∃ x,v 5=.tuple #[.agg #[x],.int .i64 0] /\ Q1j w' x (Q1u p r)) v w1) (q6:(fun v w'=>v 6=v 5) v w1);intro bb hbb;obtain ⟨x,h5,_⟩:=q5;have o1:bb.eval (.tmp 94)=.tuple #[.agg #[x],.int .i64 0]:=by rw [<- h5,<- q6]; rw [hbb]; dsimp only; (try simp (discharger:=decide) only [eval_put_ne]); rw [Q0a (by simp only [size_put]; exact (by decide:94 < 392))]
      exact ⟨_,fun w=>Q3k (.tmp 94) 0 rfl o1 (fun w=>Z9a w _ _),h5⟩
     case g8=>
      intro v w1 hx (q0:v 0=_) _ (q2:v 2=_) _ (q4:v 4=_) (q5:(fun v w'=>∃ x,v 5=.tuple #[.agg #[x],.int .i64 0] /\ Q1j w' x (Q1u p r)) v w1) (q6:(fun v w'=>v 6=v 5) v w1);intro bb hbb;obtain ⟨x,h5,_⟩:=q5;have o1:bb.eval (.tmp 94)=.tuple #[.agg #[x],.int .i64 0]:=by rw [<- h5,<- q6]; rw [hbb]; dsimp only; (try simp (discharger:=decide) only [eval_put_ne]); rw [Q0a (by simp only [size_put]; exact (by decide:94 < 392))]
      exact ⟨_,fun w=>Q3k (.tmp 94) 1 rfl o1 (fun w=>J0t w _ _),rfl⟩
     case g9=>
      intro v w1 hx;intro bb hbb;subst hbb;intro K hK;go_simp;exact hK _ _ (Ext.box _ _) ⟨_,rfl,Blk.made _ _ _,(Xq.trans hx).size⟩
     case g10=>
      intro v w1 hx (q0:v 0=_) _ (q2:v 2=_) _ (q4:v 4=_) (q5:(fun v w'=>∃ x,v 5=.tuple #[.agg #[x],.int .i64 0] /\ Q1j w' x (Q1u p r)) v w1) _ (q7:(fun v w'=>v 5=.tuple #[v 7,.int .i64 0]) v w1) (q9:(fun v w'=>∃ g,v 9=.pointer (some ⟨g,0,none⟩) /\ Blk w' g 38 #[.slice none 0 0] /\ z6.heap.size <= g) v w1);intro wl hT;obtain rfl:wl=w1:=hT;intro bb hbb;intro K hK;obtain ⟨x,h5,qw⟩:=q5;obtain ⟨g,e9,h9,NW⟩:=q9;obtain ⟨X,c,rfl,-,-,-⟩:=qw.opened;have h7:v 7=.agg #[.slice X (Q1u p r).length c]:=by have h:=h5.symm.trans q7; simp only [Value.tuple.injEq,Array.mk.injEq,List.cons.injEq,and_true] at h; exact h.symm
      have o1:bb.eval (.tmp 17)=.pointer (some ⟨g,0,none⟩):=fzg13
      have o2:bb.eval (.tmp 101)=.agg #[.slice X (Q1u p r).length c]:=fzg13
      exact Q1q (.tmp 17) (.tmp 101) _ rfl Q2w o1 o2 h9 rfl rfl X0z (fun vv w' hb hl ho=>hK _ _ ⟨g,_,_,e9,hb,X4z qw h9 (fun k _ hk=>ho k hk),Below.trans (Xq.trans hx) (hl _ NW)⟩)
     case g11=>
      intro v w1 hx (q0:v 0=_) _ (q2:v 2=_) _ (q4:v 4=_) _ _ _ (q8:v 8=_) _;intro wl hT;replace hT:(fun v w1 w'=>∃ g X c,v 9=.pointer (some ⟨g,0,none⟩) /\ Blk w' g 38 #[.slice X (Q1u p r).length c] /\ Q1j w' (.slice X (Q1u p r).length c) (Q1u p r) /\ Ext z6 w') v w1 wl:=hT;intro bb hbb;subst hbb;intro K hK;go_simp;exact hK _ _ ⟨rfl,hT⟩
     case post =>
      intro v w1 hx (q0:v 0=_) (q1:(fun v w'=>Q0i w' (v 1) s) v w1) (q2:v 2=_) (q3:(fun v w'=>Q0l w' (v 3) p) v w1) (q4:v 4=_) (q5:(fun v w'=>∃ x,v 5=.tuple #[.agg #[x],.int .i64 0] /\ Q1j w' x (Q1u p r)) v w1) (q6:(fun v w'=>v 6=v 5) v w1) (q7:(fun v w'=>v 5=.tuple #[v 7,.int .i64 0]) v w1) (q8:v 8=_) (q9:(fun v w'=>∃ g,v 9=.pointer (some ⟨g,0,none⟩) /\ Blk w' g 38 #[.slice none 0 0] /\ z6.heap.size <= g) v w1);intro w2 hE;replace hE:(fun v w1 w'=>v 11=.int .i64 0 /\ ∃ g X c,v 9=.pointer (some ⟨g,0,none⟩) /\ Blk w' g 38 #[.slice X (Q1u p r).length c] /\ Q1j w' (.slice X (Q1u p r).length c) (Q1u p r) /\ Ext z6 w') v w1 w2:=hE;simp only [Flow.acts,Act.put];go_simp;obtain ⟨MW,gf,Xf,cf,e9,hbf,Se,ak⟩:=hE
      try rw [MW]
      try rw [e9]
      rw [X0r,ZX.out] at hbf Se;have Zq:=ak;replace Lq:=hid (Lq.out.trans Zq);replace uq:=hid (uq.out.ext Zq);replace H2:=hid (H2.out.ext Zq);replace KB:=hid (KB.out.ext Zq);replace FQ:=hid (FQ.out.ext Zq);replace KQ:=hid (KQ.out.ext Zq);replace GK:=hid (GK.out.ext Zq);replace KR:=hid (KR.out.ext Zq);have KF:=hid (hbf);have FF:=hid (Se);obtain ⟨z7,rfl⟩:∃ Z,Z=w2:=⟨_,rfl⟩;clear hx Xq Zq q0 q1 q2 q3 q4 q5 q6 q7 q8 q9 hbf Se ak MW e9;have F6:IntKind.i64.wrap 0=0:=Q2j 0 (by decide) (by decide)
      have y8:Hid (Q0x s.hist (Q1u p r)=0):=hid (X0t sx.out);have ip:Hid ((Q1u p r).length <= 4096):=hid (by rw [X0r]; exact J3.out)
      go_upto_region 10 with fail;have Xq:=(Ext.refl z7).drew;refine Flow.Q1h [.p,.p,.p,.p,.p,.p,.p,.p,.p,.p,.p,.w,.w,.w,.w,.p,.p] [0,1,2,3,4,5,6,7,8,9,10,11,12,13,14,15,16] [[],[],[0,1],[],[2,3],[],[4,5],[],[6,7],[8],[9],[10],[10],[10,12],[10,11,13],[10,14],[10,15]]
       [.c 0 (.int .i64 0),.c 1 (.int .i64 0),.c 2 (.int .i64 0),.c 3 (.int .i64 0),.c 4 (.int .i64 0),.c 5 (.int .i64 0),.c 6 (.int .i64 0),.c 7 (.int .i64 0),.c 8 (.int .i64 0),.c 9 (.bool false),.c 10 (.bool false),.c 11 (.agg #[.int .i64 lim,.slice A T Tq,.slice B M Vq]),.c 12 (.agg #[.slice Xf NR cf]),⟨fun v wz=>(fun v w'=>Q0l w' (v 13) (Q1u p r)) v wz,by intro v a b hx h; exact Q0l.ext h hx⟩,.c 14 (.int .i64 0),.c 15 (.bool false),.c 16 (.bool false)]
       (by kernel_rfl) rfl (by kernel_rfl) ⟨?g0,?g1,?g2,?g3,?g4,?g5,?g6,?g7,?g8,?g9,?g10,?g11,?g12,?g13,?g14,?g15,?g16,trivial⟩ ?post
      case g0 | g1 | g3 | g5 | g7=>
       intro v w1 hx;intro bb hbb;subst hbb;refine ⟨_,fun w=>?_,rfl⟩;go_simp
      case g2 | g4 | g6 | g8 | g9 | g10 | g16=>
       intro v w1 hx;(repeat intro (zq:v _=_));intro bb hbb;subst hbb;refine ⟨_,fun w=>?_,rfl⟩;go_simp
      case g11=>
       intro v w1 hx;(repeat intro (zq:v _=_));intro bb hbb;refine Flow.Q0d (d:=113) rfl rfl fzh13 (fzg13) ?_
       intro K2 tq;have o1:bb.eval (.tmp 3)=.pointer (some ⟨gs,0,none⟩):=fze13
       exact Q0k (.tmp 3) _ rfl X3o Q8g o1 (KB.out.ext (Xq.trans hx)) rfl (tq _ _ (Ext.refl _) rfl)
      case g12=>
       intro v w1 hx;(repeat intro (zq:v _=_));intro bb hbb;refine Flow.Q0d (d:=113) rfl rfl fzh13 (fzg13) ?_
       intro K2 tq;have o1:bb.eval (.tmp 17)=.pointer (some ⟨gf,0,none⟩):=fze13
       exact Q0k (.tmp 17) _ rfl Q5z Q2w o1 (KF.out.ext (Xq.trans hx)) rfl (tq _ _ (Ext.refl _) rfl)
      case g13=>
       intro v w1 hx;(repeat intro (zq:v _=_));intro bb hbb;refine Flow.Q0d (d:=113) rfl rfl fzh13 (fzg13) ?_
       subst hbb;intro K2 tq;go_simp;refine Q0e (Y5e w1 _ (Q1u p r) ⟨_,rfl,FF.out.ext (Xq.trans hx)⟩ ip.out) ?_;rintro e w2 ⟨u,rfl,hu,Nq⟩;exact ⟨_,rfl,tq _ _ Nq hu⟩
      case g14=>
       intro v w1 hx (q10:v 10=_) (q11:v 11=_) (q13:(fun v w'=>Q0l w' (v 13) (Q1u p r)) v w1);intro bb hbb;refine Flow.Q0d (d:=113) rfl rfl fzh13 (fzg13) ?_
       subst hbb;intro K2 tq;go_simp;refine Q0e (Y0r w1 _ _ s _ (Ex.out _ (H2.out.ext (Xq.trans hx))) q13 HE.out) ?_;rintro e w2 ⟨rfl,Nq⟩;exact ⟨_,rfl,tq _ _ Nq (congrArg (Value.int .i64) y8.out)⟩
      case g15=>
       intro v w1 hx;(repeat intro (zq:v _=_));intro bb hbb;refine Flow.Q0d (d:=113) rfl rfl fzh13 (fzg13) ?_
       subst hbb;refine ⟨_,fun w=>?_,rfl⟩;go_simp
      case post =>
       intro v w1 hx;(iterate 13 intro (zq:v _=_));intro (q13:(fun v w'=>Q0l w' (v 13) (Q1u p r)) v w1);(iterate 3 intro (zq:v _=_));simp only [Flow.All,Flow.acts,Act.put];go_simp;have Zq:=Xq.trans hx;replace Lq:=hid (Lq.out.trans Zq);replace uq:=hid (uq.out.ext Zq);replace H2:=hid (H2.out.ext Zq);replace KB:=hid (KB.out.ext Zq);replace FQ:=hid (FQ.out.ext Zq);replace KQ:=hid (KQ.out.ext Zq);replace GK:=hid (GK.out.ext Zq);replace KR:=hid (KR.out.ext Zq);replace KF:=hid (KF.out.ext Zq);replace FF:=hid (FF.out.ext Zq);obtain ⟨z8,rfl⟩:∃ Z,Z=w1:=⟨_,rfl⟩;clear hx Xq Zq q13 F6;(repeat clear zq);go_upto_if 119 with fail
       repeat (first | exact Z7d Lq uq H2 KB KQ FQ KF FF GK KR Ex Fw HS HV HE HT HM Gw sx Dx J3 i6 i5 _ rfl rfl rfl rfl rfl rfl rfl rfl rfl | go_step)
theorem X4e (w:World) (v:Value) (s:Q0b) (code:Int) (nu:Nat) (hv:Q0i w v s) (U9:code < 2 ^ 63) (b8:nu < 256) (hW:Words w) :
    Calls prog 10 #[v,.int .i64 code,.int .u8 (nu:Int)] w fun e w'=>e=.returned (.bool true) /\ Ext w w':=by
 obtain ⟨a,b,rfl,h2⟩:=hv;obtain ⟨A,Tq,rfl,-,-,-⟩:=h2.ships.opened;obtain ⟨B,Vq,rfl,-,-,-⟩:=h2.members.opened;have Lq:=hid (Ext.refl w);have uq:=hid hW;have H2:=hid h2;obtain ⟨T,hT⟩:∃ T,s.ships.length=T:=⟨_,rfl⟩;have HT:=hid hT;obtain ⟨M,hM⟩:∃ M,s.members.length=M:=⟨_,rfl⟩;have HM:=hid hM;obtain ⟨lim,Mz⟩:∃ k,s.limit=k:=⟨_,rfl⟩;have Gw:=hid Mz;have Ex:Hid (∀ W,Q3b W (.slice A T Tq) (.slice B M Vq) s -> Q0i W (.agg #[.int .i64 lim,.slice A T Tq,.slice B M Vq]) s):=hid (fun W h=>⟨_,_,by rw [Mz],h⟩)
 rw [hT,hM] at H2;rw [hT,hM,Mz];clear hW h2 hT hM Mz;go_enter func10,ntmps10;have Re:=hid U9;have We:=hid b8;clear U9 b8;go_wp2_with fail;change Calls _ _ _ (w.alloc (.cells #[.int .i64 lim,.slice A T Tq,.slice B M Vq] 25)) _;obtain ⟨W,Mq,k0,Rq,eW⟩:=Q2q w 25 #[.int .i64 lim,.slice A T Tq,.slice B M Vq];rw [Mq];clear Mq;refine (Z5i _ _ s (Ex.out _ (H2.out.ext Rq.out))).mono ?_;rintro e z1 ⟨q,rfl,hq,hx⟩;have Zq:Ext w z1:=Rq.out.trans hx;replace Lq:=hid (Lq.out.trans Zq);replace uq:=hid (uq.out.ext Zq);replace H2:=hid (H2.out.ext Zq);have KB:=hid (k0.ext hx);clear hx Zq Rq eW k0;obtain ⟨gs,Rj⟩:∃ z,w.heap.size=z:=⟨_,rfl⟩;rw [Rj] at KB ⊢;clear Rj;cases q with
 | false =>
   clear hq;go_wp2_with fail;refine (X2u _ uq.out).mono ?_;rintro e z2 ⟨rfl,hx⟩;have Zq:Ext z1 z2:=hx;replace Lq:=hid (Lq.out.trans Zq);replace uq:=hid (uq.out.ext Zq);replace H2:=hid (H2.out.ext Zq);replace KB:=hid (KB.out.ext Zq);clear hx Zq;go_wp2;go_ret;exact ⟨rfl,Lq.out⟩
 | true =>
   have hs:Q2r s:=hq.1 rfl;have HS:=hid hs;clear hs hq;have d0KB:=KB.out.cell 0;have d1KB:=KB.out.cell 1;have d2KB:=KB.out.cell 2;simp only [Go.Tw.gA,Go.Tw.gB,Go.Tw.gC] at d0KB d1KB d2KB;go_wp2_with fail;refine (X7v _ _ s (Ex.out _ H2.out)).mono ?_;rintro e z2 ⟨rfl,hx⟩;have Zq:Ext z1 z2:=hx;replace Lq:=hid (Lq.out.trans Zq);replace uq:=hid (uq.out.ext Zq);replace H2:=hid (H2.out.ext Zq);replace KB:=hid (KB.out.ext Zq);clear hx Zq d0KB d1KB d2KB
   by_cases he:s.err=0
   . skip
     have HE:=hid he;rw [he];clear he
     by_cases Rw:code < 0
     . have U9:decide (code < 0)=true:=decide_eq_true Rw
       go_wp2_with fail;refine (X2u _ uq.out).mono ?_;rintro e z3 ⟨rfl,hx⟩;have Zq:Ext z2 z3:=hx;replace Lq:=hid (Lq.out.trans Zq);replace uq:=hid (uq.out.ext Zq);replace H2:=hid (H2.out.ext Zq);replace KB:=hid (KB.out.ext Zq);clear hx Zq;go_wp2;go_ret;exact ⟨rfl,Lq.out⟩
     have U9:decide (code < 0)=false:=decide_eq_false Rw;obtain ⟨cN,rfl⟩:∃ z:Nat,code=(z:Int):=⟨code.toNat,by omega⟩
     have Xe:Hid (cN < 2 ^ 63):=hid (by have:=Re.out; omega)
     clear Rw;go_upto_if 51 with fail
     repeat (first | exact Z9g Lq uq H2 KB Ex HS HE HT HM Gw Xe We _ rfl rfl rfl rfl | go_step)
   . have DG:(s.err != 0)=true:=by simp [he]
     obtain ⟨E,hE⟩:∃ z,s.err=z:=⟨_,rfl⟩;rw [hE] at DG he ⊢;have L6:E ≠ 0:=he;go_wp2_with fail;refine (X2u _ uq.out).mono ?_;rintro e z3 ⟨rfl,hx⟩;have Zq:Ext z2 z3:=hx;replace Lq:=hid (Lq.out.trans Zq);replace uq:=hid (uq.out.ext Zq);replace H2:=hid (H2.out.ext Zq);replace KB:=hid (KB.out.ext Zq);clear hx Zq;go_wp2;go_ret;exact ⟨rfl,Lq.out⟩
end Go.Proofs
namespace Go.Proofs.YthnobngcipaljaaGreatDoor
open Go.ChangeShapes Go.WideShapes Go.ChangeAt Go.RowKit Go.Tw
theorem Q9h (os:Os) (started:os.Started) (H:Type) (enc:TypeId × Value -> H) :
    ReturnsInHanded {} Tryz.checked os 10 .any (fun w args=>(Rows.policyInformedSpec.pre enc Tryz.prog Tryz.f10 Rows.policyInformedRow.domain false w args /\ laidMetH Tryz.prog Z6f w) /\ sizedMet enc Tryz.prog Tryz.f10 (OpenSpec.ofChange Rows.policyInformedSpec) false w args)
     (Rows.policyInformedSpec.post enc Tryz.prog Tryz.f10 false true false false):=by
 refine returnsInHanded_of_change_and (C:=Tryz.checked) (X:=fun w _=>laidMetH Tryz.prog Z6f w) (fun _ _ _ hh h=>h.of_heap hh) own started (by kernel_rfl) Tryz.func10
  (ChangeSpec.witness_shaped (enc:=enc) (C:=Tryz.checked) (os:=os) (X:=fun w _=>laidMetH Tryz.prog Z6f w) false (World.laidAll Tryz.prog os Z6f) #[.agg #[.int .i64 0,.slice none 0 0,.slice none 0 0],.int .i64 0,.int .u8 0] 8 (World.laidAll_os _ _ _)
   (World.shaped_of_ZipB (by kernel_rfl) (by kernel_rfl)) (by kernel_rfl) (by kernel_rfl) (by kernel_rfl)
   (by rw [MakeChecks.laidMetH_plain _ _ _ (by kernel_rfl)]; exact laidMet_laidAll _ (by kernel_rfl) (by kernel_rfl))) ?_
 intro W base args ds gs before L9 hW hc FW hL _;have V8:∀ (j:Nat) t v,Tryz.f10.params[j]?=some t -> args[j]?=some v -> Value.okWide Tryz.prog W .any base t v:=L9;have oq:(DataW.weightsEach Tryz.prog (Tryz.f10.params.toList ++ Rows.policyInformedSpec.plain.varTypes Tryz.prog) (ds ++ gs)).all (· <= reachBytes)=true:=FW;have fp:=hW;obtain ⟨p,q,fV,hV,rfl,rr,sy⟩:=hW;have hA:DataW.TrodAll enc Tryz.prog W 0 (fun _=>true) true Tryz.f10.params.toList args.toList ds p:=fV;rw [Tryz.params10] at hA V8 oq;obtain ⟨v0,vs0,d0,ds0,p0,q0,fi,rfl,rfl,h0,r0⟩:=trodAll_cons hA;obtain ⟨v1,vs1,d1,ds1,p1,q1,rfl,rfl,rfl,h1,r1⟩:=trodAll_cons r0;obtain ⟨v2,vs2,d2,ds2,p2,q2,rfl,rfl,rfl,h2,r2⟩:=trodAll_cons r1;obtain ⟨rfl,rfl,rfl⟩:=trodAll_nil r2;obtain rfl:args=#[v0,v1,v2]:=by cases args; simp_all
 obtain ⟨rfl,rfl⟩:=trodVars_none hV;have Fz:∀ x ∈ DataW.weightsEach Tryz.prog [25,3,5] [d0,d1,d2],x <= 140737488351232:=fun x hx=>by
  have:=List.all_eq_true.1 (show (DataW.weightsEach Tryz.prog [25,3,5] [d0,d1,d2]).all (· <= reachBytes)=true from oq) x hx
  exact Nat.le_trans (of_decide_eq_true this) (by decide)
 obtain ⟨f0,g0⟩:=Q4i Fz;obtain ⟨f1,g1⟩:=Q4i g0;obtain ⟨f2,g2⟩:=Q4i g1;have k0:=h0;have lt0:∀ x ∈ p0,x.block < W.heap.size:=by obtain ⟨m,hm⟩:=k0; exact DataW.trod_lt m _ _ _ hm
 obtain ⟨t0,ep⟩:=Y2d (V8 0 25 v0 rfl rfl) h0 f0;have k1:=h1;have lt1:∀ x ∈ p1,x.block < W.heap.size:=by obtain ⟨m,hm⟩:=k1; exact DataW.trod_lt m _ _ _ hm
 obtain ⟨z1,rfl,rfl,rfl,wz1⟩:=open_int Tryz.underlying3 (V8 1 3 v1 rfl rfl) h1;have k2:=h2;have lt2:∀ x ∈ p2,x.block < W.heap.size:=by obtain ⟨m,hm⟩:=k2; exact DataW.trod_lt m _ _ _ hm
 obtain ⟨z2,rfl,rfl,rfl,wz2⟩:=open_int Tryz.underlying5 (V8 2 5 v2 rfl rfl) h2;obtain ⟨nu2,Bv,rfl⟩:=J8g wz2;have EW:Calls Tryz.prog 10 #[v0,.int .i64 z1,.int .u8 (nu2:Int)] W fun e W'=>e=.returned (.bool true) /\ Ext W W':=by
  have fq:z1 < 2 ^ 63:=by have h:=wz1; unfold Lit.wf at h; rw [Bool.and_eq_true,decide_eq_true_eq,decide_eq_true_eq] at h; have h2:IntKind.max .i64=9223372036854775807:=(by decide); rw [h2] at h; omega
  exact X4e _ _ _ _ _ ep fq Bv (Y5p hL)
 clear fV L9 FW;refine EW.mono fun e W' ⟨he,bel⟩=>?_;subst he;exact ⟨_,rfl,_,_,_,[],_,[],fp,trodAll_mk1 (shut_bool Tryz.underlying4 _),(trodAll_cons_mk (Below.trod laidOut (by kernel_rfl) (of_decide_eq_true (by kernel_rfl)) k0 bel lt0) (trodAll_cons_mk (shut_int Tryz.underlying3 wz1) (trodAll_cons_mk (shut_int Tryz.underlying5 wz2) trodAll_mk0))),rfl,bel.frame _,fun h=>by cases h⟩
theorem Q6r:Tryz.pinned.checked.prog.funcNamed Rows.policyInformedRow.func=some 10:=by kernel_rfl
theorem Q8u:Tryz.f10.isInstance Tryz.pinned.checked.prog Rows.policyInformedRow.origin Rows.policyInformedRow.targs:=of_decide_eq_true (by kernel_rfl)
theorem X5i:(Rows.policyInformedRow.wf (OpenSpec.ofChange Rows.policyInformedSpec):Bool)=true:=by kernel_rfl
theorem X5a:(Tryz.f10.params.all (Tryz.prog.readableRec ·):Bool)=true:=by kernel_rfl
theorem X5z:(namedTie Tryz.prog Rows.policyInformedRow.named Rows.policyInformedSpec.vars:Bool)=true:=by kernel_rfl
theorem X5w:((Rows.policyInformedRow.stops == []):Bool)=true:=by kernel_rfl
theorem X6f:((Rows.policyInformedRow.knobs == []):Bool)=true:=by kernel_rfl
theorem X5d:((Rows.policyInformedRow.inPlace == Tryz.prog.inPlace 10):Bool)=true:=by kernel_rfl
theorem X3w:((Rows.policyInformedRow.unfollowed == Tryz.prog.unfollowed 10):Bool)=true:=by kernel_rfl
theorem X4r:((Rows.policyInformedRow.recurses == Tryz.prog.recurses 10):Bool)=true:=by kernel_rfl
theorem X3e:((Rows.policyInformedRow.named == Tryz.prog.varsNamed 10):Bool)=true:=by kernel_rfl
theorem X2v:((Rows.policyInformedRow.maps == (Tryz.f10.params.toList ++ Rows.policyInformedSpec.plain.varTypes Tryz.prog).any (Tryz.prog.mapsRec ·)):Bool)=true:=by kernel_rfl
theorem X4a:((Rows.policyInformedRow.ifaces == (Tryz.f10.params.toList ++ Rows.policyInformedSpec.plain.varTypes Tryz.prog).any (Tryz.prog.ifacesRec ·)):Bool)=true:=by kernel_rfl
theorem X4y:((Rows.policyInformedRow.mapsOut == Tryz.prog.mapsAmong Tryz.f10.resultTypes.toList):Bool)=true:=by kernel_rfl
theorem X3v:((Rows.policyInformedRow.loops == (Tryz.f10.params.toList ++ Rows.policyInformedSpec.plain.varTypes Tryz.prog).any (Tryz.prog.loopsFrom ·)):Bool)=true:=by kernel_rfl
theorem X4c:((Rows.policyInformedRow.wideKeys == (Tryz.f10.params.toList ++ Rows.policyInformedSpec.plain.varTypes Tryz.prog ++ Tryz.f10.resultTypes.toList).any (Tryz.prog.wideKeysFrom ·)):Bool)=true:=by kernel_rfl
theorem X2w:(Rows.policyInformedSpec.vars.all (Tryz.prog.varReadable ·):Bool)=true:=by kernel_rfl
theorem X4q:(Tryz.f10.resultTypes.all (fun t=>Tryz.prog.readableRec t && decide (t < Tryz.prog.types.size)):Bool)=true:=by kernel_rfl
theorem X3t:((Rows.policyInformedRow.ifacesOut == Tryz.f10.resultTypes.toList.any (Tryz.prog.ifacesRec ·)):Bool)=true:=by kernel_rfl
theorem X4f:((Rows.policyInformedRow.loopsOut == Tryz.f10.resultTypes.toList.any (Tryz.prog.loopsFrom ·)):Bool)=true:=by kernel_rfl
theorem X4j:((Rows.policyInformedRow.plainKeys == Tryz.prog.plainKeys):Bool)=true:=by kernel_rfl
theorem X4u:(Rows.policyInformedRow.shortTexts.isNone:Bool)=true:=by kernel_rfl
theorem X3p:((Rows.policyInformedRow.lifted == Tryz.prog.liftsFinal):Bool)=true:=by kernel_rfl
theorem X2t:((Tryz.prog.make == some Rows.policyInformedRow.make):Bool)=true:=by kernel_rfl
theorem X3k:(Rows.policyInformedRow.domain.isEmpty && (Rows.policyInformedRow.kinds == []):Bool)=true:=by kernel_rfl
theorem X4b:((Rows.policyInformedRow.pinned == Rows.policyInformedRow.pinnedBy):Bool)=true:=by kernel_rfl
theorem X2y:((Rows.policyInformedRow.veiled == (Tryz.f10.params.toList ++ Rows.policyInformedSpec.plain.varTypes Tryz.prog ++ Tryz.f10.resultTypes.toList).any (Tryz.prog.veiledRec ·)):Bool)=true:=by kernel_rfl
theorem X2s:(Rows.policyInformedRow.veiledFits Tryz.prog Tryz.f10.params.toList (Tryz.f10.params.toList ++ Rows.policyInformedSpec.plain.varTypes Tryz.prog ++ Tryz.f10.resultTypes.toList):Bool)=true:=by kernel_rfl
theorem X0g:joinedFacts Tryz.pinned.checked.prog 10 Tryz.f10 Rows.policyInformedSpec Rows.policyInformedRow=true :=
 Z7u Tryz.prog 10 Tryz.f10 Rows.policyInformedSpec Rows.policyInformedRow X5i J6g J7d X5a X5z X5w J6a X6f J5r X5d X3w X4r X3e X2v X4a X4y X3v X4c X2w X4q X3t X4f X4j X4u J1u J3u X3p X2t X3k X4b X2y X2s
theorem X1m:Rows.PolicyInformedSaid :=
 OpenClaim.holds_of_wide 10 Tryz.f10 rfl rfl rfl rfl rfl rfl rfl ⟨rfl,rfl,rfl,rfl,rfl⟩ rfl rfl rfl rfl rfl Q6r Tryz.func10 X0g
  Q8u (by unfold Func.isWrapper; first | (rw [if_pos (by decide +kernel)]; kernel_rfl) | (rw [if_neg (by decide +kernel)]; exact ⟨rfl,rfl⟩))
  (fun os started H enc _=>Q9h os started H enc)
theorem Q9e:Rows.policyInformedRow.wfByText (OpenSpec.ofChange Rows.policyInformedSpec)=true:=by kernel_rfl
theorem X2f:Tryz.pinned.checked.prog.mainIs=some (Rows.policyInformedCard.stood.harness.1,Rows.policyInformedCard.stood.harness.2.toList):=by kernel_rfl
theorem X1l:Rows.policyInformedCard.stood.looks=Tryz.pinned.checked.prog.looks []:=by kernel_rfl
theorem X2n:false=Rows.policyInformedRow.goesBy Tryz.pinned.checked.prog:=by kernel_rfl
theorem Q8z:([25,3,5].all fun u=>!Tryz.prog.wantsStandIn u)=true:=by kernel_rfl
theorem policyInformed_card:Rows.PolicyInformedCardSaid :=
 Claim7.holds_tied_plain_at .later [] [.data,.data,.data,.widerDeep] true _ false X1m (fun _ h=>by cases h) Q9e (fun _ h=>by cases h) policyInformed_row_tie rfl ⟨rfl,rfl⟩ X2f rfl
  (fun f fn hf vG=>by
   obtain rfl:f=10:=Option.some.inj (Q6r.symm.trans hf) |>.symm
   obtain rfl:fn=Tryz.f10:=(Option.some.inj (Tryz.func10.symm.trans vG)).symm;exact ⟨X1l,fun j t ht=>by
    have ht:#[25,3,5][j]?=some t:=Tryz.params10 ▸ ht;have hm:t ∈ [25,3,5]:=by simpa using Array.mem_of_getElem? ht
    exact (show Tryz.prog.wantsStandIn t=false by simpa using List.all_eq_true.1 Q8z t hm)⟩)
  X2n
#print axioms policyInformed_card
end Go.Proofs.YthnobngcipaljaaGreatDoor
