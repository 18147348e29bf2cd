/- The law PolicyPlays. -/
import Derived.Test.YthnobngcipaljaaGreatDoorPp35
import Derived.Test.YthnobngcipaljaaGreatDoorPl01
import Derived.Test.YthnobngcipaljaaGreatDoorPl02
import Derived.Test.YthnobngcipaljaaGreatDoorPl04
set_option maxRecDepth 1000000
set_option maxHeartbeats 64000000
set_option linter.unusedVariables false
set_option linter.unusedSimpArgs false
set_option linter.constructorNameAsVariable false
open Go.Lib (hid)
namespace Go.Proofs
open Go.RowKit Go.Tw Go.Flow
attribute [local go_sem] Oper.semAt_some
theorem J6n (p:List Rul):Value.bool (X5t p p)=.bool true:=by unfold X5t; simp
theorem J3o (w:World) (v:Value) (s:Q0b) (u:Value) (p:List Rul) (n:Int) (hv:Q0h w v s) (hu:Q0w w u p)  (hW:Words w) :
    Calls Tryz.prog 8 #[v,u,.int .i64 n] w fun e w'=>e=.returned (.bool true) /\ Ext w w':=by
 obtain ⟨a,b,rfl,h2⟩:=hv;obtain ⟨A,capa,rfl,-,-,-⟩:=h2.ships.opened;obtain ⟨B,capb,rfl,-,-,-⟩:=h2.members.opened;obtain ⟨rv,rfl,hr⟩:=hu;obtain ⟨R,capr,rfl,-,-,-⟩:=hr.opened;have HXA:=hid (Ext.refl w);have HWD:=hid hW;have H2:=hid h2;obtain ⟨T,hT⟩:∃ T,s.ships.length=T:=⟨_,rfl⟩;have HT:=hid hT;obtain ⟨M,hM⟩:∃ M,s.members.length=M:=⟨_,rfl⟩;have HM:=hid hM;obtain ⟨lim,hlim⟩:∃ k,s.limit=k:=⟨_,rfl⟩;have HLIM:=hid hlim;have HSEA:Hid (∀ W,Q7y W (.slice A T capa) (.slice B M capb) s -> Q0h W (.agg #[.int .i64 lim,.slice A T capa,.slice B M capb]) s):=hid (fun W h=>⟨_,_,by rw [hlim],h⟩)
 rw [hT,hM] at H2;have HR:=hid hr;obtain ⟨NR,hNR⟩:∃ k,p.length=k:=⟨_,rfl⟩;have HNR:=hid hNR;have HPOL:Hid (∀ W,Q3m W (.slice R NR capr) p -> Q0w W (.agg #[.slice R NR capr]) p):=hid (fun W h=>⟨_,rfl,h⟩);rw [hNR] at HR;rw [hT,hM,hlim,hNR];clear hW h2 hT hM hlim hr hNR;go_enter Tryz.func8,Tryz.ntmps8;go_wp2_with fail;change Calls _ _ _ ((w.alloc (.cells #[.int .i64 lim,.slice A T capa,.slice B M capb] 25)).alloc (.cells #[.slice R NR capr] 47)) _;obtain ⟨W,hWW,k0,k1,HXW,eW⟩:=Q4e w 25 #[.int .i64 lim,.slice A T capa,.slice B M capb] 47 #[.slice R NR capr];rw [hWW];clear hWW;refine (Z8x _ _ s (HSEA.out _ (H2.out.ext HXW.out))).mono ?_;rintro e z1 ⟨q,rfl,hq,hx⟩;have hxx:Ext w z1:=HXW.out.trans hx;replace HXA:=hid (HXA.out.trans hxx);replace HWD:=hid (HWD.out.ext hxx);replace H2:=hid (H2.out.ext hxx);replace HR:=hid (HR.out.ext hxx);have KB:=hid (k0.ext hx);have KQ:=hid (k1.ext hx);clear hx hxx HXW eW k0 k1;obtain ⟨gs,hgs⟩:∃ z,w.heap.size=z:=⟨_,rfl⟩;rw [hgs] at KB KQ ⊢;clear hgs;cases q with
 | false =>
   clear hq;go_wp2_with fail;refine (J0d _ HWD.out).mono ?_;rintro e z2 ⟨rfl,hx⟩;have hxx:Ext z1 z2:=hx;replace HXA:=hid (HXA.out.trans hxx);replace HWD:=hid (HWD.out.ext hxx);replace H2:=hid (H2.out.ext hxx);replace HR:=hid (HR.out.ext hxx);replace KB:=hid (KB.out.ext hxx);replace KQ:=hid (KQ.out.ext hxx);clear hx hxx;go_wp2;go_ret;exact ⟨rfl,HXA.out⟩
 | true =>
   have hs:Q3k s:=hq.1 rfl;have HS:=hid hs;clear hs hq;have d0KQ:=KQ.out.cell 0;simp only [Go.Tw.gA,Go.Tw.gB] at d0KQ;go_wp2_with fail;refine (Z0v _ _ p (HPOL.out _ HR.out)).mono ?_;rintro e z2 ⟨q,rfl,hq,hx⟩;have hxx:Ext z1 z2:=hx;replace HXA:=hid (HXA.out.trans hxx);replace HWD:=hid (HWD.out.ext hxx);replace H2:=hid (H2.out.ext hxx);replace HR:=hid (HR.out.ext hxx);replace KB:=hid (KB.out.ext hxx);replace KQ:=hid (KQ.out.ext hxx);clear hx hxx d0KQ;cases q with
   | false =>
     clear hq;go_wp2_with fail;refine (J0d _ HWD.out).mono ?_;rintro e z3 ⟨rfl,hx⟩;have hxx:Ext z2 z3:=hx;replace HXA:=hid (HXA.out.trans hxx);replace HWD:=hid (HWD.out.ext hxx);replace H2:=hid (H2.out.ext hxx);replace HR:=hid (HR.out.ext hxx);replace KB:=hid (KB.out.ext hxx);replace KQ:=hid (KQ.out.ext hxx);clear hx hxx;go_wp2;go_ret;exact ⟨rfl,HXA.out⟩
   | true =>
     have hs:Y7c p:=hq.1 rfl;have HSP:=hid hs;clear hs hq;have HPL:Hid (p.length <= 1000):=hid (by have:=HSP.out.rules; omega)
     have HP2:Hid (p.length <= 4096):=hid (by have:=HSP.out.rules; omega)
     have HP8:Hid (∀ k,k < p.length -> (Q0n p k).length <= 4096):=hid (fun k hk=>by have:=HSP.out.each k hk; omega)
     obtain ⟨E,hE⟩:∃ z,Q1g s p=z:=⟨_,rfl⟩;have HE:=hid hE;clear hE;obtain ⟨F1,hF1⟩:∃ z,J3c s p n=z:=⟨_,rfl⟩;have HF1:=hid hF1;clear hF1;obtain ⟨F2,hF2⟩:∃ z,X1r s p n=z:=⟨_,rfl⟩;have HF2:=hid hF2;clear hF2;go_wp2_with fail;have hdr:=(Ext.refl z2).drew;refine Flow.Q4m [.w,.w,.w,.w,.p,.w,.p,.p,.p,.w,.last,.last] [0,1,2,3,4,5,6,7,8,9,10,11] [[],[0],[],[0,1,2],[],[0,1,2,3,4],[0,1,2,3,4,5],[0,1,2,3,4,5,6],[0,1,2,3,4,5,6],[],[0,1,2,3,4,5,6,7,9],[0,1,2,3,4,5,6,7,8,9,10]] [10,11]
      [.c 0 (.agg #[.int .i64 lim,.slice A T capa,.slice B M capb]),⟨fun v wz=>(fun v w'=>Q0h w' (v 1) s) v wz,by intro v a b hx h; exact Q0h.ext h hx⟩,.c 2 (.agg #[.slice R NR capr]),⟨fun v wz=>(fun v w'=>Q0w w' (v 3) p) v wz,by intro v a b hx h; exact Q0w.ext h hx⟩,.c 4 (.int .i64 n),⟨fun v wz=>(fun v w'=>∃ x,v 5=.tuple #[.agg #[x],.int .i64 F1] /\ Q3m w' x (J2l s p n)) v wz,by rintro v a b hx ⟨x,h1,h2⟩; exact ⟨x,h1,h2.ext hx⟩⟩,⟨fun v wz=>(fun v w'=>v 6=v 5) v wz,by intro v a b hx h; exact h⟩,⟨fun v wz=>(fun v w'=>v 5=.tuple #[v 7,.int .i64 F1]) v wz,by intro v a b hx h; exact h⟩,.c 8 (.int .i64 F1),⟨fun v wz=>(fun v w'=>∃ g,v 9=.pointer (some ⟨g,0,none⟩) /\ Blk w' g 38 #[.slice none 0 0] /\ z2.heap.size <= g) v wz,by rintro v a b hx ⟨g,h1,h2,h3⟩; exact ⟨g,h1,h2.ext hx,h3⟩⟩,.none,.none]
      [fun v w1 w'=>∃ g X c,v 9=.pointer (some ⟨g,0,none⟩) /\ Blk w' g 38 #[.slice X (J2l s p n).length c] /\ Q3m w' (.slice X (J2l s p n).length c) (J2l s p n) /\ Ext z2 w',fun v w1 w'=>v 11=.int .i64 F1 /\ ∃ g X c,v 9=.pointer (some ⟨g,0,none⟩) /\ Blk w' g 38 #[.slice X (J2l s p n).length c] /\ Q3m w' (.slice X (J2l s p n).length c) (J2l s p n) /\ Ext z2 w'] (by kernel_rfl) rfl (by kernel_rfl) ⟨?g0,?g1,?g2,?g3,?g4,?g5,?g6,?g7,?g8,?g9,?g10,?g11,trivial⟩ ?post
     case g0=>
      intro v w1 hx;intro bb hbb;intro K2 hK2;have o1:bb.eval (.tmp 3)=.pointer (some ⟨gs,0,none⟩):=by rw [hbb]; dsimp only; (try simp (discharger:=decide) only [eval_put_ne]); rfl
      exact Q0p (.tmp 3) _ rfl Tryz.J6p Tryz.J5s o1 (KB.out.ext (hdr.trans hx)) rfl (hK2 _ _ (Ext.refl _) rfl)
     case g1=>
      intro v w1 hx;(repeat intro (zq:v _=_));intro bb hbb;subst hbb;intro K2 hK2;go_simp;refine Q0e (Z9u w1 _ s (HSEA.out _ (H2.out.ext (hdr.trans hx))) HS.out) ?_;rintro e w2 ⟨u,rfl,hu,hx2⟩;exact ⟨_,rfl,hK2 _ _ hx2 hu⟩
     case g2=>
      intro v w1 hx;intro bb hbb;intro K2 hK2;have o1:bb.eval (.tmp 4)=.pointer (some ⟨gs + 1,0,none⟩):=by rw [hbb]; dsimp only; (try simp (discharger:=decide) only [eval_put_ne]); rfl
      exact Q0p (.tmp 4) _ rfl Tryz.Z9i Tryz.Z7k o1 (KQ.out.ext (hdr.trans hx)) rfl (hK2 _ _ (Ext.refl _) rfl)
     case g3=>
      intro v w1 hx (q0:v 0=_) _ (q2:v 2=_);intro bb hbb;subst hbb;intro K2 hK2;go_simp;refine Q0e (J1w w1 _ p (HPOL.out _ (HR.out.ext (hdr.trans hx))) HP2.out HP8.out) ?_;rintro e w2 ⟨u,rfl,hu,hx2⟩;exact ⟨_,rfl,hK2 _ _ hx2 hu⟩
     case g4=>
      intro v w1 hx;intro bb hbb;subst hbb;refine ⟨_,fun w=>?_,rfl⟩;go_simp
     case g5=>
      intro v w1 hx (q0:v 0=_) (q1:(fun v w'=>Q0h w' (v 1) s) v w1) (q2:v 2=_) (q3:(fun v w'=>Q0w w' (v 3) p) v w1) (q4:v 4=_);intro bb hbb;subst hbb;intro K2 hK2;go_simp;refine Q0e (J6i w1 _ _ s p n q1 q3 HS.out HPL.out) ?_;rintro e w2 ⟨⟨u,rfl,hu⟩,hx2⟩;rw [HF1.out];exact ⟨_,rfl,hK2 _ _ hx2 ⟨_,rfl,hu⟩⟩
     case g6=>
      intro v w1 hx (q0:v 0=_) _ (q2:v 2=_) _ (q4:v 4=_) _;intro bb hbb;have o1:bb.eval (.tmp 31)=v 5:=by rw [hbb]; dsimp only; (try simp (discharger:=decide) only [eval_put_ne]); rw [Q0a (by simp only [size_put]; exact (by decide:31 < 115))]
      exact ⟨_,fun w=>J5j (.tmp 31) rfl o1,rfl⟩
     case g7=>
      intro v w1 hx (q0:v 0=_) _ (q2:v 2=_) _ (q4:v 4=_) (q5:(fun v w'=>∃ x,v 5=.tuple #[.agg #[x],.int .i64 F1] /\ Q3m w' x (J2l s p n)) v w1) (q6:(fun v w'=>v 6=v 5) v w1);intro bb hbb;obtain ⟨x,h5,_⟩:=q5;have o1:bb.eval (.tmp 25)=.tuple #[.agg #[x],.int .i64 F1]:=by rw [<- h5,<- q6]; rw [hbb]; dsimp only; (try simp (discharger:=decide) only [eval_put_ne]); rw [Q0a (by simp only [size_put]; exact (by decide:25 < 115))]
      exact ⟨_,fun w=>J2q (.tmp 25) 0 rfl o1 (fun w=>J7o w _ _),h5⟩
     case g8=>
      intro v w1 hx (q0:v 0=_) _ (q2:v 2=_) _ (q4:v 4=_) (q5:(fun v w'=>∃ x,v 5=.tuple #[.agg #[x],.int .i64 F1] /\ Q3m w' x (J2l s p n)) v w1) (q6:(fun v w'=>v 6=v 5) v w1);intro bb hbb;obtain ⟨x,h5,_⟩:=q5;have o1:bb.eval (.tmp 25)=.tuple #[.agg #[x],.int .i64 F1]:=by rw [<- h5,<- q6]; rw [hbb]; dsimp only; (try simp (discharger:=decide) only [eval_put_ne]); rw [Q0a (by simp only [size_put]; exact (by decide:25 < 115))]
      exact ⟨_,fun w=>J2q (.tmp 25) 1 rfl o1 (fun w=>J7n w _ _),rfl⟩
     case g9=>
      intro v w1 hx;intro bb hbb;subst hbb;intro K hK;go_simp;exact hK _ _ (Ext.box _ _) ⟨_,rfl,Blk.made _ _ _,(hdr.trans hx).size⟩
     case g10=>
      intro v w1 hx (q0:v 0=_) _ (q2:v 2=_) _ (q4:v 4=_) (q5:(fun v w'=>∃ x,v 5=.tuple #[.agg #[x],.int .i64 F1] /\ Q3m w' x (J2l s p n)) v w1) _ (q7:(fun v w'=>v 5=.tuple #[v 7,.int .i64 F1]) v w1) (q9:(fun v w'=>∃ g,v 9=.pointer (some ⟨g,0,none⟩) /\ Blk w' g 38 #[.slice none 0 0] /\ z2.heap.size <= g) v w1);intro wl hT;obtain rfl:wl=w1:=hT;intro bb hbb;intro K hK;obtain ⟨x,h5,hi5⟩:=q5;obtain ⟨g,e9,h9,h9s⟩:=q9;obtain ⟨X,c,rfl,-,-,-⟩:=hi5.opened;have h7:v 7=.agg #[.slice X (J2l s p n).length c]:=by have h:=h5.symm.trans q7; simp only [Value.tuple.injEq,Array.mk.injEq,List.cons.injEq,and_true] at h; exact h.symm
      have o1:bb.eval (.tmp 7)=.pointer (some ⟨g,0,none⟩):=by rw [hbb]; dsimp only; (try simp (discharger:=decide) only [eval_put_ne]); rw [Q0a (by simp only [size_put]; exact (by decide:7 < 115))]; exact e9
      have o2:bb.eval (.tmp 32)=.agg #[.slice X (J2l s p n).length c]:=by rw [hbb]; dsimp only; (try simp (discharger:=decide) only [eval_put_ne]); rw [Q0a (by simp only [size_put]; exact (by decide:32 < 115))]; exact h7
      exact Q2b (.tmp 7) (.tmp 32) _ rfl Tryz.Q4b o1 o2 h9 rfl rfl Y0c (fun vv w' hb hl ho=>hK _ _ ⟨g,_,_,e9,hb,Y8y hi5 h9 (fun k _ hk=>ho k hk),Below.trans (hdr.trans hx) (hl _ h9s)⟩)
     case g11=>
      intro v w1 hx (q0:v 0=_) _ (q2:v 2=_) _ (q4:v 4=_) _ _ _ (q8:v 8=_) _;intro wl hT;replace hT:(fun v w1 w'=>∃ g X c,v 9=.pointer (some ⟨g,0,none⟩) /\ Blk w' g 38 #[.slice X (J2l s p n).length c] /\ Q3m w' (.slice X (J2l s p n).length c) (J2l s p n) /\ Ext z2 w') v w1 wl:=hT;intro bb hbb;subst hbb;intro K hK;go_simp;exact hK _ _ ⟨rfl,hT⟩
     case post =>
      intro v w1 hx (q0:v 0=_) (q1:(fun v w'=>Q0h w' (v 1) s) v w1) (q2:v 2=_) (q3:(fun v w'=>Q0w w' (v 3) p) v w1) (q4:v 4=_) (q5:(fun v w'=>∃ x,v 5=.tuple #[.agg #[x],.int .i64 F1] /\ Q3m w' x (J2l s p n)) v w1) (q6:(fun v w'=>v 6=v 5) v w1) (q7:(fun v w'=>v 5=.tuple #[v 7,.int .i64 F1]) v w1) (q8:v 8=_) (q9:(fun v w'=>∃ g,v 9=.pointer (some ⟨g,0,none⟩) /\ Blk w' g 38 #[.slice none 0 0] /\ z2.heap.size <= g) v w1);intro w2 hE;replace hE:(fun v w1 w'=>v 11=.int .i64 F1 /\ ∃ g X c,v 9=.pointer (some ⟨g,0,none⟩) /\ Blk w' g 38 #[.slice X (J2l s p n).length c] /\ Q3m w' (.slice X (J2l s p n).length c) (J2l s p n) /\ Ext z2 w') v w1 w2:=hE;simp only [Flow.acts,Act.put];go_simp;obtain ⟨h11,gf,Xf,cf,e9,hbf,hif,hxz⟩:=hE
      try rw [h11]
      try rw [e9]
      obtain ⟨nf,hnf⟩:∃ z,(J2l s p n).length=z:=⟨_,rfl⟩;rw [hnf] at hbf hif;have hxx:=hxz;replace HXA:=hid (HXA.out.trans hxx);replace HWD:=hid (HWD.out.ext hxx);replace H2:=hid (H2.out.ext hxx);replace HR:=hid (HR.out.ext hxx);replace KB:=hid (KB.out.ext hxx);replace KQ:=hid (KQ.out.ext hxx);have KF:=hid (hbf);have FF:=hid (hif);obtain ⟨z3,rfl⟩:∃ Z,Z=w2:=⟨_,rfl⟩;clear hx hdr hxx q0 q1 q2 q3 q4 q5 q6 q7 q8 q9 hbf hif hxz h11 e9;have HNF:=hid hnf;clear hnf;go_wp2_with fail;have hdr:=(Ext.refl z3).drew;refine Flow.Q4m [.w,.w,.w,.w,.p,.w,.p,.p,.p,.w,.last,.last] [0,1,2,3,4,5,6,7,8,9,10,11] [[],[0],[],[0,1,2],[],[0,1,2,3,4],[0,1,2,3,4,5],[0,1,2,3,4,5,6],[0,1,2,3,4,5,6],[],[0,1,2,3,4,5,6,7,9],[0,1,2,3,4,5,6,7,8,9,10]] [10,11]
       [.c 0 (.agg #[.int .i64 lim,.slice A T capa,.slice B M capb]),⟨fun v wz=>(fun v w'=>Q0h w' (v 1) s) v wz,by intro v a b hx h; exact Q0h.ext h hx⟩,.c 2 (.agg #[.slice R NR capr]),⟨fun v wz=>(fun v w'=>Q0w w' (v 3) p) v wz,by intro v a b hx h; exact Q0w.ext h hx⟩,.c 4 (.int .i64 n),⟨fun v wz=>(fun v w'=>∃ x y,v 5=.tuple #[.agg #[x,y],.int .i64 F2] /\ Q1q w' x (Z5x s p n) /\ Q0d w' y (Z4j s p n)) v wz,by rintro v a b hx ⟨x,y,h1,h2,h3⟩; exact ⟨x,y,h1,h2.ext hx,h3.ext hx⟩⟩,⟨fun v wz=>(fun v w'=>v 6=v 5) v wz,by intro v a b hx h; exact h⟩,⟨fun v wz=>(fun v w'=>v 5=.tuple #[v 7,.int .i64 F2]) v wz,by intro v a b hx h; exact h⟩,.c 8 (.int .i64 F2),⟨fun v wz=>(fun v w'=>∃ g,v 9=.pointer (some ⟨g,0,none⟩) /\ Blk w' g 96 #[.slice none 0 0,.slice none 0 0] /\ z3.heap.size <= g) v wz,by rintro v a b hx ⟨g,h1,h2,h3⟩; exact ⟨g,h1,h2.ext hx,h3⟩⟩,.none,.none]
       [fun v w1 w'=>∃ g X c Y d,v 9=.pointer (some ⟨g,0,none⟩) /\ Blk w' g 96 #[.slice X (Z5x s p n).length c,.slice Y (Z4j s p n).length d] /\ Q1q w' (.slice X (Z5x s p n).length c) (Z5x s p n) /\ Q0d w' (.slice Y (Z4j s p n).length d) (Z4j s p n) /\ Ext z3 w',fun v w1 w'=>v 11=.int .i64 F2 /\ ∃ g X c Y d,v 9=.pointer (some ⟨g,0,none⟩) /\ Blk w' g 96 #[.slice X (Z5x s p n).length c,.slice Y (Z4j s p n).length d] /\ Q1q w' (.slice X (Z5x s p n).length c) (Z5x s p n) /\ Q0d w' (.slice Y (Z4j s p n).length d) (Z4j s p n) /\ Ext z3 w'] (by kernel_rfl) rfl (by kernel_rfl) ⟨?g0,?g1,?g2,?g3,?g4,?g5,?g6,?g7,?g8,?g9,?g10,?g11,trivial⟩ ?post
      case g0=>
       intro v w1 hx;intro bb hbb;intro K2 hK2;have o1:bb.eval (.tmp 3)=.pointer (some ⟨gs,0,none⟩):=by rw [hbb]; dsimp only; (try simp (discharger:=decide) only [eval_put_ne]); rfl
       exact Q0p (.tmp 3) _ rfl Tryz.J6p Tryz.J5s o1 (KB.out.ext (hdr.trans hx)) rfl (hK2 _ _ (Ext.refl _) rfl)
      case g1=>
       intro v w1 hx;(repeat intro (zq:v _=_));intro bb hbb;subst hbb;intro K2 hK2;go_simp;refine Q0e (Z9u w1 _ s (HSEA.out _ (H2.out.ext (hdr.trans hx))) HS.out) ?_;rintro e w2 ⟨u,rfl,hu,hx2⟩;exact ⟨_,rfl,hK2 _ _ hx2 hu⟩
      case g2=>
       intro v w1 hx;intro bb hbb;intro K2 hK2;have o1:bb.eval (.tmp 4)=.pointer (some ⟨gs + 1,0,none⟩):=by rw [hbb]; dsimp only; (try simp (discharger:=decide) only [eval_put_ne]); rfl
       exact Q0p (.tmp 4) _ rfl Tryz.Z9i Tryz.Z7k o1 (KQ.out.ext (hdr.trans hx)) rfl (hK2 _ _ (Ext.refl _) rfl)
      case g3=>
       intro v w1 hx (q0:v 0=_) _ (q2:v 2=_);intro bb hbb;subst hbb;intro K2 hK2;go_simp;refine Q0e (J1w w1 _ p (HPOL.out _ (HR.out.ext (hdr.trans hx))) HP2.out HP8.out) ?_;rintro e w2 ⟨u,rfl,hu,hx2⟩;exact ⟨_,rfl,hK2 _ _ hx2 hu⟩
      case g4=>
       intro v w1 hx;intro bb hbb;subst hbb;refine ⟨_,fun w=>?_,rfl⟩;go_simp
      case g5=>
       intro v w1 hx (q0:v 0=_) (q1:(fun v w'=>Q0h w' (v 1) s) v w1) (q2:v 2=_) (q3:(fun v w'=>Q0w w' (v 3) p) v w1) (q4:v 4=_);intro bb hbb;subst hbb;intro K2 hK2;go_simp;refine Q0e (Z1f w1 _ _ s p n q1 q3 HS.out HPL.out) ?_;rintro e w2 ⟨⟨u,v,rfl,hu,hv⟩,hx2⟩;rw [HF2.out];exact ⟨_,rfl,hK2 _ _ hx2 ⟨_,_,rfl,hu,hv⟩⟩
      case g6=>
       intro v w1 hx (q0:v 0=_) _ (q2:v 2=_) _ (q4:v 4=_) _;intro bb hbb;have o1:bb.eval (.tmp 40)=v 5:=by rw [hbb]; dsimp only; (try simp (discharger:=decide) only [eval_put_ne]); rw [Q0a (by simp only [size_put]; exact (by decide:40 < 115))]
       exact ⟨_,fun w=>J5j (.tmp 40) rfl o1,rfl⟩
      case g7=>
       intro v w1 hx (q0:v 0=_) _ (q2:v 2=_) _ (q4:v 4=_) (q5:(fun v w'=>∃ x y,v 5=.tuple #[.agg #[x,y],.int .i64 F2] /\ Q1q w' x (Z5x s p n) /\ Q0d w' y (Z4j s p n)) v w1) (q6:(fun v w'=>v 6=v 5) v w1);intro bb hbb;obtain ⟨x,y,h5,_⟩:=q5;have o1:bb.eval (.tmp 34)=.tuple #[.agg #[x,y],.int .i64 F2]:=by rw [<- h5,<- q6]; rw [hbb]; dsimp only; (try simp (discharger:=decide) only [eval_put_ne]); rw [Q0a (by simp only [size_put]; exact (by decide:34 < 115))]
       exact ⟨_,fun w=>J2q (.tmp 34) 0 rfl o1 (fun w=>J7o w _ _),h5⟩
      case g8=>
       intro v w1 hx (q0:v 0=_) _ (q2:v 2=_) _ (q4:v 4=_) (q5:(fun v w'=>∃ x y,v 5=.tuple #[.agg #[x,y],.int .i64 F2] /\ Q1q w' x (Z5x s p n) /\ Q0d w' y (Z4j s p n)) v w1) (q6:(fun v w'=>v 6=v 5) v w1);intro bb hbb;obtain ⟨x,y,h5,_⟩:=q5;have o1:bb.eval (.tmp 34)=.tuple #[.agg #[x,y],.int .i64 F2]:=by rw [<- h5,<- q6]; rw [hbb]; dsimp only; (try simp (discharger:=decide) only [eval_put_ne]); rw [Q0a (by simp only [size_put]; exact (by decide:34 < 115))]
       exact ⟨_,fun w=>J2q (.tmp 34) 1 rfl o1 (fun w=>J7n w _ _),rfl⟩
      case g9=>
       intro v w1 hx;intro bb hbb;subst hbb;intro K hK;go_simp;exact hK _ _ (Ext.box _ _) ⟨_,rfl,Blk.made _ _ _,(hdr.trans hx).size⟩
      case g10=>
       intro v w1 hx (q0:v 0=_) _ (q2:v 2=_) _ (q4:v 4=_) (q5:(fun v w'=>∃ x y,v 5=.tuple #[.agg #[x,y],.int .i64 F2] /\ Q1q w' x (Z5x s p n) /\ Q0d w' y (Z4j s p n)) v w1) _ (q7:(fun v w'=>v 5=.tuple #[v 7,.int .i64 F2]) v w1) (q9:(fun v w'=>∃ g,v 9=.pointer (some ⟨g,0,none⟩) /\ Blk w' g 96 #[.slice none 0 0,.slice none 0 0] /\ z3.heap.size <= g) v w1);intro wl hT;obtain rfl:wl=w1:=hT;intro bb hbb;intro K hK;obtain ⟨x,y,h5,hi5,hj5⟩:=q5;obtain ⟨g,e9,h9,h9s⟩:=q9;obtain ⟨X,c,rfl,-,-,-⟩:=hi5.opened;obtain ⟨Y,d,rfl,-,-,-⟩:=hj5.opened;have h7:v 7=.agg #[.slice X (Z5x s p n).length c,.slice Y (Z4j s p n).length d]:=by have h:=h5.symm.trans q7; simp only [Value.tuple.injEq,Array.mk.injEq,List.cons.injEq,and_true] at h; exact h.symm
       have o1:bb.eval (.tmp 9)=.pointer (some ⟨g,0,none⟩):=by rw [hbb]; dsimp only; (try simp (discharger:=decide) only [eval_put_ne]); rw [Q0a (by simp only [size_put]; exact (by decide:9 < 115))]; exact e9
       have o2:bb.eval (.tmp 41)=.agg #[.slice X (Z5x s p n).length c,.slice Y (Z4j s p n).length d]:=by rw [hbb]; dsimp only; (try simp (discharger:=decide) only [eval_put_ne]); rw [Q0a (by simp only [size_put]; exact (by decide:41 < 115))]; exact h7
       exact Q2b (.tmp 9) (.tmp 41) _ rfl Tryz.Y7b o1 o2 h9 rfl rfl Y1w (fun vv w' hb hl ho=>hK _ _ ⟨g,_,_,_,_,e9,hb,Y6m hi5 h9 (fun k _ hk=>ho k hk),Y9q hj5 h9 (fun k _ hk=>ho k hk),Below.trans (hdr.trans hx) (hl _ h9s)⟩)
      case g11=>
       intro v w1 hx (q0:v 0=_) _ (q2:v 2=_) _ (q4:v 4=_) _ _ _ (q8:v 8=_) _;intro wl hT;replace hT:(fun v w1 w'=>∃ g X c Y d,v 9=.pointer (some ⟨g,0,none⟩) /\ Blk w' g 96 #[.slice X (Z5x s p n).length c,.slice Y (Z4j s p n).length d] /\ Q1q w' (.slice X (Z5x s p n).length c) (Z5x s p n) /\ Q0d w' (.slice Y (Z4j s p n).length d) (Z4j s p n) /\ Ext z3 w') v w1 wl:=hT;intro bb hbb;subst hbb;intro K hK;go_simp;exact hK _ _ ⟨rfl,hT⟩
      case post =>
       intro v w1 hx (q0:v 0=_) (q1:(fun v w'=>Q0h w' (v 1) s) v w1) (q2:v 2=_) (q3:(fun v w'=>Q0w w' (v 3) p) v w1) (q4:v 4=_) (q5:(fun v w'=>∃ x y,v 5=.tuple #[.agg #[x,y],.int .i64 F2] /\ Q1q w' x (Z5x s p n) /\ Q0d w' y (Z4j s p n)) v w1) (q6:(fun v w'=>v 6=v 5) v w1) (q7:(fun v w'=>v 5=.tuple #[v 7,.int .i64 F2]) v w1) (q8:v 8=_) (q9:(fun v w'=>∃ g,v 9=.pointer (some ⟨g,0,none⟩) /\ Blk w' g 96 #[.slice none 0 0,.slice none 0 0] /\ z3.heap.size <= g) v w1);intro w2 hE;replace hE:(fun v w1 w'=>v 11=.int .i64 F2 /\ ∃ g X c Y d,v 9=.pointer (some ⟨g,0,none⟩) /\ Blk w' g 96 #[.slice X (Z5x s p n).length c,.slice Y (Z4j s p n).length d] /\ Q1q w' (.slice X (Z5x s p n).length c) (Z5x s p n) /\ Q0d w' (.slice Y (Z4j s p n).length d) (Z4j s p n) /\ Ext z3 w') v w1 w2:=hE;simp only [Flow.acts,Act.put];go_simp;obtain ⟨h11,gc,Xc,cc,Yc,dc,e9,hbc,hic,hjc,hxz⟩:=hE
       try rw [h11]
       try rw [e9]
       obtain ⟨nc,hnc⟩:∃ z,(Z5x s p n).length=z:=⟨_,rfl⟩;obtain ⟨mc,hmc⟩:∃ z,(Z4j s p n).length=z:=⟨_,rfl⟩;rw [hnc,hmc] at hbc;rw [hnc] at hic;rw [hmc] at hjc;have hxx:=hxz;replace HXA:=hid (HXA.out.trans hxx);replace HWD:=hid (HWD.out.ext hxx);replace H2:=hid (H2.out.ext hxx);replace HR:=hid (HR.out.ext hxx);replace KB:=hid (KB.out.ext hxx);replace KQ:=hid (KQ.out.ext hxx);replace KF:=hid (KF.out.ext hxx);replace FF:=hid (FF.out.ext hxx);have KC:=hid (hbc);have FC:=hid (hic);have FP:=hid (hjc);obtain ⟨z4,rfl⟩:∃ Z,Z=w2:=⟨_,rfl⟩;clear hx hdr hxx q0 q1 q2 q3 q4 q5 q6 q7 q8 q9 hbc hic hjc hxz h11 e9 hnc hmc;have d0KB:=KB.out.cell 0;have d1KB:=KB.out.cell 1;have d2KB:=KB.out.cell 2;simp only [Go.Tw.gA,Go.Tw.gB,Go.Tw.gC] at d0KB d1KB d2KB;have d0KQ:=KQ.out.cell 0;simp only [Go.Tw.gA,Go.Tw.gB] at d0KQ;go_wp2_with fail;refine (J3f _ _ _ s p (HSEA.out _ H2.out) (HPOL.out _ HR.out)).mono ?_;rintro e z5 ⟨rfl,hx⟩;have hxx:Ext z4 z5:=hx;replace HXA:=hid (HXA.out.trans hxx);replace HWD:=hid (HWD.out.ext hxx);replace H2:=hid (H2.out.ext hxx);replace HR:=hid (HR.out.ext hxx);replace KB:=hid (KB.out.ext hxx);replace KQ:=hid (KQ.out.ext hxx);replace KF:=hid (KF.out.ext hxx);replace FF:=hid (FF.out.ext hxx);replace KC:=hid (KC.out.ext hxx);replace FC:=hid (FC.out.ext hxx);replace FP:=hid (FP.out.ext hxx);clear hx hxx d0KB d1KB d2KB d0KQ;rw [HE.out];go_upto_if 49 with fail;change Code.wp _ _ _ _ ((z5.alloc (.cells #[.slice none 0 0] 47)).alloc (.cells #[.slice none 0 0,.slice none 0 0] 99));obtain ⟨W,hWW,k0,k1,HXW,eW⟩:=Q4e z5 47 #[.slice none 0 0] 99 #[.slice none 0 0,.slice none 0 0];rw [hWW];clear hWW;obtain ⟨gx,hgx⟩:∃ z,z5.heap.size=z:=⟨_,rfl⟩;have HGX:=hid hgx;rw [hgx] at k0 k1 eW ⊢;clear hgx;have KX:=hid k0;have KY:=hid k1;clear k0 k1
       go_cut [12,13] (fun x y wx=>x=.int .i64 F1 /\ y=.int .i64 F2 /\ (∃ X c,Blk wx gx 47 #[.slice X nf c] /\ Q3m wx (.slice X nf c) (J2l s p n)) /\ (∃ X c Y d,Blk wx (gx + 1) 99 #[.slice X (Z5x s p n).length c,.slice Y (Z4j s p n).length d] /\ Q1q wx (.slice X (Z5x s p n).length c) (Z5x s p n) /\ Q0d wx (.slice Y (Z4j s p n).length d) (Z4j s p n)) /\ Ext z5 wx)
       case first =>
        have H20:=H2;have HR0:=HR;have KB0:=KB;have KQ0:=KQ;have hXW:=HXW.out;replace HWD:=hid (HWD.out.ext hXW);replace H2:=hid (H2.out.ext hXW);replace HR:=hid (HR.out.ext hXW);replace KB:=hid (KB.out.ext hXW);replace KQ:=hid (KQ.out.ext hXW);replace KF:=hid (KF.out.ext hXW);replace FF:=hid (FF.out.ext hXW);replace KC:=hid (KC.out.ext hXW);replace FC:=hid (FC.out.ext hXW);replace FP:=hid (FP.out.ext hXW);clear hXW
        by_cases hE0:E=0
        . skip
          have hEb:(E == 0)=true:=by simp [hE0]
          have HE0:=hid (HE.out.trans hE0);obtain ⟨hV,hre⟩:=Q4o HE0.out;have HV:=hid hV;have HRE:=hid hre;have HE00:=hid hE0;clear hV hre hE0
          by_cases h0:n < 0
          . have h0d:decide (n < 0)=true:=decide_eq_true h0
            obtain ⟨hf1,hf2⟩:=J5y HE0.out (show J2r p n=true by unfold J2r; rw [h0d]; rfl)
            obtain ⟨hp1,hp2,hp3⟩:=J5e HE0.out (show X1k s n=true by unfold X1k; rw [h0d]; rfl)
            rw [HF1.out] at hf1;rw [HF2.out] at hp1;have hfn:nf=0:=by rw [<- HNF.out,hf2]; rfl
            have HA:Hid (F1=10 /\ F2=10 /\ nf=0 /\ J2l s p n=[] /\ Z5x s p n=[] /\ Z4j s p n=[]):=hid ⟨hf1,hp1,hfn,hf2,hp2,hp3⟩;clear hf1 hf2 hp1 hp2 hp3 hfn;go_wp2_with fail;go_meet;obtain ⟨e1,e2,e3,e4,e5,e6⟩:=HA.out;rw [e1,e2,e3,e4,e5,e6];exact ⟨rfl,rfl,⟨_,_,KX.out,Go.Tw.Rows.nil _ _ _⟩,⟨_,_,_,_,KY.out,Go.Tw.Rows.nil _ _ _,Go.Tw.Rows.nil _ _ _⟩,HXW.out⟩
          . have h0d:decide (n < 0)=false:=decide_eq_false h0
            obtain ⟨m,rfl⟩:∃ i:Nat,n=(i:Int):=⟨n.toNat,by omega⟩
            clear h0;have d0:=KQ.out.cell 0;have b0:=KB.out.cell 0;have b1:=KB.out.cell 1;have b2:=KB.out.cell 2;simp only [Go.Tw.gA,Go.Tw.gB,Go.Tw.gC] at d0 b0 b1 b2
            by_cases hN0:(NR:Int) <= (m:Int)
            . have hNd:decide ((NR:Int) <= (m:Int))=true:=decide_eq_true hN0
              have hNn:NR <= m:=by omega
              have hNnd:decide (NR <= m)=true:=decide_eq_true hNn;obtain ⟨hf1,hf2⟩:=J5y HE0.out (show J2r p m=true by unfold J2r; rw [h0d,HNR.out,hNd]; rfl)
              rw [HF1.out] at hf1;have hfn:nf=0:=by rw [<- HNF.out,hf2]; rfl
              have HFL:Hid (Value.int .i64 10=.int .i64 F1 /\ (∃ X c,Blk W gx 47 #[.slice X nf c] /\ Q3m W (.slice X nf c) (J2l s p m)) /\ Blk W (gx + 1) 99 #[.slice none 0 0,.slice none 0 0] /\ Ext z5 W):=hid ⟨by rw [hf1],⟨_,_,by rw [hfn]; exact KX.out,by rw [hf2,hfn]; exact Go.Tw.Rows.nil _ _ _⟩,KY.out,HXW.out⟩
              clear hf1 hf2 hfn hN0
              by_cases hM0:(M:Int) <= (m:Int)
              . have hMd:decide ((M:Int) <= (m:Int))=true:=decide_eq_true hM0
                have hMn:M <= m:=by omega
                have hMnd:decide (M <= m)=true:=decide_eq_true hMn;have HPO:=hid (J5e HE0.out (show X1k s m=true by unfold X1k; rw [h0d,HM.out,hMd]; rfl))
                rw [HF2.out] at HPO;clear hM0;go_wp2_with fail;go_meet;obtain ⟨e2,e5,e6⟩:=HPO.out;rw [e2,e5,e6];exact ⟨(by first | exact HFL.out.1 | (rw [HE00.out]; exact HFL.out.1)),(by first | rfl | rw [HE00.out]),HFL.out.2.1,⟨_,_,_,_,HFL.out.2.2.1,Go.Tw.Rows.nil _ _ _,Go.Tw.Rows.nil _ _ _⟩,HFL.out.2.2.2⟩
              . have hMd:decide ((M:Int) <= (m:Int))=false:=decide_eq_false hM0
                have hMn:¬ M <= m:=by omega
                have hMnd:decide (M <= m)=false:=decide_eq_false hMn;have HPO:=hid (J6o HE0.out (show X1k s m=false by unfold X1k; rw [h0d,HM.out,hMd]; rfl))
                rw [HF2.out,Int.toNat_natCast] at HPO;have hmM:m < s.members.length:=by rw [HM.out]; omega
                have HMM:=hid hmM;clear hM0 hmM;go_wp2_with fail;refine (J5n _ _ _ s p m (HSEA.out _ H2.out) (HPOL.out _ HR.out) HV.out HRE.out HMM.out).mono ?_;rintro e wp ⟨xc,yc,rfl,hic,hjc,hxp⟩;rw [<- HPO.out.2.1] at hic;rw [<- HPO.out.2.2] at hjc;obtain ⟨X1,c1,rfl,-,-,-⟩:=hic.opened;obtain ⟨Y1,c2,rfl,-,-,-⟩:=hjc.opened;have hp:=HFL.out.2.2.1.ext hxp;have HIC:=hid hic;have HJC:=hid hjc;have HXP:=hid hxp;clear hic hjc hxp d0 b0 b1 b2;go_wp2_with (with_reducible (refine Q7g ?_); refine Q0s rfl _ _ _ rfl Tryz.J5f rfl rfl hp rfl rfl Y1w ?_; intro wz hb9 hl9 ho9; refine halted ?_);unfold Q1i;obtain ⟨Xq,cq,hq1,hq2⟩:=HFL.out.2.1;have HZ:Hid (F1=F1 /\ (∃ X c,Blk wz gx 47 #[.slice X nf c] /\ Q3m wz (.slice X nf c) (J2l s p m)) /\ (∃ X c Y d,Blk wz (gx + 1) 99 #[.slice X (Z5x s p m).length c,.slice Y (Z4j s p m).length d] /\ Q1q wz (.slice X (Z5x s p m).length c) (Z5x s p m) /\ Q0d wz (.slice Y (Z4j s p m).length d) (Z4j s p m)) /\ Ext z5 wz):=hid ⟨rfl,⟨Xq,cq,J5b (hq1.ext HXP.out) (by omega) ho9,J3m (hq2.ext HXP.out) hp (fun k _ hk=>ho9 k hk)⟩,⟨_,_,_,_,hb9,Y6m HIC.out hp (fun k _ hk=>ho9 k hk),Y9q HJC.out hp (fun k _ hk=>ho9 k hk)⟩,Below.trans (HFL.out.2.2.2.trans HXP.out) (hl9 _ (by rw [HGX.out]; omega))⟩
                clear hb9 hl9 ho9 hp hq1 hq2;go_wp2_with fail;go_meet;obtain ⟨e2,-,-⟩:=HPO.out;rw [e2];exact ⟨(by first | exact HFL.out.1 | (rw [HE00.out]; exact HFL.out.1)),(by first | rfl | rw [HE00.out]),HZ.out.2.1,HZ.out.2.2.1,HZ.out.2.2.2⟩
            . have hNd:decide ((NR:Int) <= (m:Int))=false:=decide_eq_false hN0
              have hNn:¬ NR <= m:=by omega
              have hNnd:decide (NR <= m)=false:=decide_eq_false hNn;obtain ⟨hf1,hf2⟩:=J7i HE0.out (show J2r p m=false by unfold J2r; rw [h0d,HNR.out,hNd]; rfl)
              rw [HF1.out] at hf1;rw [Int.toNat_natCast] at hf2;have HA:=hid (And.intro hf1 hf2);clear hf1 hf2 hN0;go_wp2_with fail;refine (J6m _ _ p m (HPOL.out _ HR.out) HP2.out HP8.out).mono ?_;rintro e wf ⟨xu,rfl,hu,hxf⟩;have hu1:=J2d.rules HV.out HRE.out hu;rw [<- HA.out.2] at hu1;obtain ⟨ux,rfl,hr1⟩:=hu1;obtain ⟨X1,c1,rfl,-,-,-⟩:=hr1.opened;rw [HNF.out] at hr1 ⊢;have hp:=KX.out.ext hxf;have HR1:=hid hr1;have HXF:=hid hxf;replace d0:=hxf.cell d0;replace b0:=hxf.cell b0;replace b1:=hxf.cell b1;replace b2:=hxf.cell b2;clear hu hr1 hxf;go_wp2_with (with_reducible (refine Q7g ?_); refine Q0s rfl _ _ _ rfl Tryz.Z7k rfl rfl hp rfl rfl Y0c ?_; intro wz hb9 hl9 ho9; refine halted ?_);unfold Q1i;have HFL:Hid (Value.int .i64 0=.int .i64 F1 /\ (∃ X c,Blk wz gx 47 #[.slice X nf c] /\ Q3m wz (.slice X nf c) (J2l s p m)) /\ Blk wz (gx + 1) 99 #[.slice none 0 0,.slice none 0 0] /\ Ext z5 wz):=hid ⟨by rw [HA.out.1],⟨_,_,hb9,Y8y HR1.out hp (fun k _ hk=>ho9 k hk)⟩,J5b (KY.out.ext HXF.out) (by omega) ho9,Below.trans (HXW.out.trans HXF.out) (hl9 _ (by rw [HGX.out]; exact Nat.le_refl _))⟩
              have hxz:Ext z5 wz:=HFL.out.2.2.2;replace H2:=hid (H20.out.ext hxz);replace HR:=hid (HR0.out.ext hxz);replace KB:=hid (KB0.out.ext hxz);replace KQ:=hid (KQ0.out.ext hxz);clear d0 b0 b1 b2 hb9 hl9 ho9 hp;have d0:=KQ.out.cell 0;have b0:=KB.out.cell 0;have b1:=KB.out.cell 1;have b2:=KB.out.cell 2;simp only [Go.Tw.gA,Go.Tw.gB,Go.Tw.gC] at d0 b0 b1 b2
              by_cases hM0:(M:Int) <= (m:Int)
              . have hMd:decide ((M:Int) <= (m:Int))=true:=decide_eq_true hM0
                have hMn:M <= m:=by omega
                have hMnd:decide (M <= m)=true:=decide_eq_true hMn;have HPO:=hid (J5e HE0.out (show X1k s m=true by unfold X1k; rw [h0d,HM.out,hMd]; rfl))
                rw [HF2.out] at HPO;clear hM0;go_wp2_with fail;go_meet;obtain ⟨e2,e5,e6⟩:=HPO.out;rw [e2,e5,e6];exact ⟨(by first | exact HFL.out.1 | (rw [HE00.out]; exact HFL.out.1)),(by first | rfl | rw [HE00.out]),HFL.out.2.1,⟨_,_,_,_,HFL.out.2.2.1,Go.Tw.Rows.nil _ _ _,Go.Tw.Rows.nil _ _ _⟩,HFL.out.2.2.2⟩
              . have hMd:decide ((M:Int) <= (m:Int))=false:=decide_eq_false hM0
                have hMn:¬ M <= m:=by omega
                have hMnd:decide (M <= m)=false:=decide_eq_false hMn;have HPO:=hid (J6o HE0.out (show X1k s m=false by unfold X1k; rw [h0d,HM.out,hMd]; rfl))
                rw [HF2.out,Int.toNat_natCast] at HPO;have hmM:m < s.members.length:=by rw [HM.out]; omega
                have HMM:=hid hmM;clear hM0 hmM;go_wp2_with fail;refine (J5n _ _ _ s p m (HSEA.out _ H2.out) (HPOL.out _ HR.out) HV.out HRE.out HMM.out).mono ?_;rintro e wp ⟨xc,yc,rfl,hic,hjc,hxp⟩;rw [<- HPO.out.2.1] at hic;rw [<- HPO.out.2.2] at hjc;obtain ⟨X1,c1,rfl,-,-,-⟩:=hic.opened;obtain ⟨Y1,c2,rfl,-,-,-⟩:=hjc.opened;have hp:=HFL.out.2.2.1.ext hxp;have HIC:=hid hic;have HJC:=hid hjc;have HXP:=hid hxp;clear hic hjc hxp d0 b0 b1 b2;go_wp2_with (with_reducible (refine Q7g ?_); refine Q0s rfl _ _ _ rfl Tryz.J5f rfl rfl hp rfl rfl Y1w ?_; intro wz hb9 hl9 ho9; refine halted ?_);unfold Q1i;obtain ⟨Xq,cq,hq1,hq2⟩:=HFL.out.2.1;have HZ:Hid (F1=F1 /\ (∃ X c,Blk wz gx 47 #[.slice X nf c] /\ Q3m wz (.slice X nf c) (J2l s p m)) /\ (∃ X c Y d,Blk wz (gx + 1) 99 #[.slice X (Z5x s p m).length c,.slice Y (Z4j s p m).length d] /\ Q1q wz (.slice X (Z5x s p m).length c) (Z5x s p m) /\ Q0d wz (.slice Y (Z4j s p m).length d) (Z4j s p m)) /\ Ext z5 wz):=hid ⟨rfl,⟨Xq,cq,J5b (hq1.ext HXP.out) (by omega) ho9,J3m (hq2.ext HXP.out) hp (fun k _ hk=>ho9 k hk)⟩,⟨_,_,_,_,hb9,Y6m HIC.out hp (fun k _ hk=>ho9 k hk),Y9q HJC.out hp (fun k _ hk=>ho9 k hk)⟩,Below.trans (HFL.out.2.2.2.trans HXP.out) (hl9 _ (by rw [HGX.out]; omega))⟩
                clear hb9 hl9 ho9 hp hq1 hq2;go_wp2_with fail;go_meet;obtain ⟨e2,-,-⟩:=HPO.out;rw [e2];exact ⟨(by first | exact HFL.out.1 | (rw [HE00.out]; exact HFL.out.1)),(by first | rfl | rw [HE00.out]),HZ.out.2.1,HZ.out.2.2.1,HZ.out.2.2.2⟩
        . skip
          have hEb:(E == 0)=false:=by simp [hE0]
          obtain ⟨hf1,hf2⟩:=J6w (n:=n) (show Q1g s p ≠ 0 by rw [HE.out]; exact hE0)
          obtain ⟨hp1,hp2,hp3⟩:=J7b (n:=n) (show Q1g s p ≠ 0 by rw [HE.out]; exact hE0)
          rw [HF1.out,HE.out] at hf1;rw [HF2.out,HE.out] at hp1;have hfn:nf=0:=by rw [<- HNF.out,hf2]; rfl
          have HA:Hid (F1=E /\ F2=E /\ nf=0 /\ J2l s p n=[] /\ Z5x s p n=[] /\ Z4j s p n=[]):=hid ⟨hf1,hp1,hfn,hf2,hp2,hp3⟩;clear hf1 hf2 hp1 hp2 hp3 hfn hE0;go_wp2_with fail;go_meet;obtain ⟨e1,e2,e3,e4,e5,e6⟩:=HA.out;rw [e1,e2,e3,e4,e5,e6];exact ⟨rfl,rfl,⟨_,_,KX.out,Go.Tw.Rows.nil _ _ _⟩,⟨_,_,_,_,KY.out,Go.Tw.Rows.nil _ _ _,Go.Tw.Rows.nil _ _ _⟩,HXW.out⟩
       case rest =>
        obtain ⟨rfl,rfl,⟨X3,c3,hbx,hrx⟩,⟨X4,c4,Y4,d4,hby,hcy,hpy⟩,hcut⟩:=hcut;replace HXA:=hid (HXA.out.trans hcut);replace HWD:=hid (HWD.out.ext hcut);replace H2:=hid (H2.out.ext hcut);replace HR:=hid (HR.out.ext hcut);replace KB:=hid (KB.out.ext hcut);replace KQ:=hid (KQ.out.ext hcut);replace KF:=hid (KF.out.ext hcut);replace FF:=hid (FF.out.ext hcut);replace KC:=hid (KC.out.ext hcut);replace FC:=hid (FC.out.ext hcut);replace FP:=hid (FP.out.ext hcut);replace KX:=hid hbx;replace KY:=hid hby
        have FX:=hid hrx;have FCY:=hid hcy;have FPY:=hid hpy;obtain ⟨z6,rfl⟩:∃ X,X=wc:=⟨_,rfl⟩;clear hcut hbx hrx hby hcy hpy HXW eW;obtain ⟨nc2,hnc2⟩:∃ z,(Z5x s p n).length=z:=⟨_,rfl⟩;obtain ⟨mc2,hmc2⟩:∃ z,(Z4j s p n).length=z:=⟨_,rfl⟩;rw [hnc2,hmc2] at KY;rw [hnc2] at FCY;rw [hmc2] at FPY;clear hnc2 hmc2;have hEE:(E == E)=true:=by simp
        have hF1:(F1 == F1)=true:=by simp
        have hF2:(F2 == F2)=true:=by simp
        have HFU4:Hid ((J2l s p n).length <= 4096):=hid J6d;go_wp2_with fail;have hdr:=(Ext.refl z6).drew;refine Flow.Q1o [.w,.w,.w,.w,.w,.p,.p,.p,.w,.w,.w,.w,.p,.p,.p,.p,.p,.p,.p,.p,.w,.p,.w,.w,.p,.p,.p,.w,.p,.w,.w,.p,.p,.p,.p,.p,.p,.p,.w,.p,.p] [0,1,2,3,4,5,6,7,8,9,10,11,12,13,14,15,16,17,18,19,20,21,22,23,24,25,26,27,28,29,30,31,32,33,34,35,36,37,38,39,40] [[],[0],[],[1,2],[1,3],[],[4,5],[4,6],[7],[7,8],[7],[7,9,10],[7,11],[11,12],[13],[13],[13,14,15],[13,16],[13,17],[18],[18,19],[18],[18,21],[18,20,22],[18,23],[23,24],[25],[25,26],[25],[25,28],[25,27,29],[25,30],[30,31],[32],[32],[32,33,34],[32,35],[32,36],[37],[37,38],[0,1,2,3,4,5,6,7,8,9,10,11,12,13,14,15,16,17,18,19,20,21,22,23,24,25,26,27,28,29,30,31,32,33,34,35,36,37,38,39]]
         [.c 0 (.agg #[.int .i64 lim,.slice A T capa,.slice B M capb]),⟨fun v wz=>(fun v w'=>Q0h w' (v 1) s) v wz,by intro v a b hx h; exact Q0h.ext h hx⟩,.c 2 (.agg #[.slice R NR capr]),⟨fun v wz=>(fun v w'=>Q0w w' (v 3) p) v wz,by intro v a b hx h; exact Q0w.ext h hx⟩,.c 4 (.int .i64 E),.c 5 (.int .i64 E),.c 6 (.bool true),.c 7 (.bool true),.c 8 (.agg #[.slice Xf nf cf]),⟨fun v wz=>(fun v w'=>Q0w w' (v 9) (J2l s p n)) v wz,by intro v a b hx h; exact Q0w.ext h hx⟩,.c 10 (.agg #[.slice X3 nf c3]),.c 11 (.bool true),.c 12 (.bool true),.c 13 (.bool true),.c 14 (.int .i64 F1),.c 15 (.int .i64 F1),.c 16 (.bool true),.c 17 (.bool true),.c 18 (.bool true),.c 19 (.pointer (some ⟨gc,0,none⟩)),.c 20 (.slice Xc nc cc),.c 21 (.pointer (some ⟨gx + 1,0,none⟩)),.c 22 (.slice X4 nc2 c4),.c 23 (.bool true),.c 24 (.bool true),.c 25 (.bool true),.c 26 (.pointer (some ⟨gc,1,none⟩)),.c 27 (.slice Yc mc dc),.c 28 (.pointer (some ⟨gx + 1,1,none⟩)),.c 29 (.slice Y4 mc2 d4),.c 30 (.bool true),.c 31 (.bool true),.c 32 (.bool true),.c 33 (.int .i64 F2),.c 34 (.int .i64 F2),.c 35 (.bool true),.c 36 (.bool true),.c 37 (.bool true),.c 38 (.bool true),.c 39 (.bool true),.c 40 (.bool true)]
         (by kernel_rfl) rfl (by kernel_rfl) ?owed ?post
        case owed =>
         refine ⟨?g0,?g1,?g2,?g3,?g4,?g5,?g6,?g7,?g8,?g9,?g10,?g11,?g12,?g13,?g14,?g15,?g16,?g17,?g18,?g19,?g20,?g21,?g22,?g23,?g24,?g25,?g26,?g27,?g28,?g29,?g30,?g31,?g32,?g33,?g34,?g35,?g36,?g37,?g38,?g39,?g40,trivial⟩
         case g0=>
          intro v w1 hx;intro bb hbb;intro K2 hK2;have o1:bb.eval (.tmp 3)=.pointer (some ⟨gs,0,none⟩):=by rw [hbb]; dsimp only; (try simp (discharger:=decide) only [eval_put_ne]); rfl
          exact Q0p (.tmp 3) _ rfl Tryz.J6p Tryz.J5s o1 (KB.out.ext (hdr.trans hx)) rfl (hK2 _ _ (Ext.refl _) rfl)
         case g1=>
          intro v w1 hx;(repeat intro (zq:v _=_));intro bb hbb;subst hbb;intro K2 hK2;go_simp;refine Q0e (Z9u w1 _ s (HSEA.out _ (H2.out.ext (hdr.trans hx))) HS.out) ?_;rintro e w2 ⟨u,rfl,hu,hx2⟩;exact ⟨_,rfl,hK2 _ _ hx2 hu⟩
         case g2=>
          intro v w1 hx;intro bb hbb;intro K2 hK2;have o1:bb.eval (.tmp 4)=.pointer (some ⟨gs + 1,0,none⟩):=by rw [hbb]; dsimp only; (try simp (discharger:=decide) only [eval_put_ne]); rfl
          exact Q0p (.tmp 4) _ rfl Tryz.Z9i Tryz.Z7k o1 (KQ.out.ext (hdr.trans hx)) rfl (hK2 _ _ (Ext.refl _) rfl)
         case g3=>
          intro v w1 hx _ (q2:v 2=_);intro bb hbb;subst hbb;intro K2 hK2;go_simp;refine Q0e (J1w w1 _ p (HPOL.out _ (HR.out.ext (hdr.trans hx))) HP2.out HP8.out) ?_;rintro e w2 ⟨u,rfl,hu,hx2⟩;exact ⟨_,rfl,hK2 _ _ hx2 hu⟩
         case g4=>
          intro v w1 hx (q1:(fun v w'=>Q0h w' (v 1) s) v w1) (q3:(fun v w'=>Q0w w' (v 3) p) v w1);intro bb hbb;subst hbb;intro K2 hK2;go_simp;refine Q0e (Q3t w1 _ _ s p q1 q3 HS.out HPL.out) ?_;rintro e w2 ⟨rfl,hx2⟩;exact ⟨_,rfl,hK2 _ _ hx2 (congrArg (Value.int .i64) HE.out)⟩
         case g5=>
          intro v w1 hx;intro bb hbb;subst hbb;refine ⟨_,fun w=>?_,rfl⟩;go_simp
         case g6 | g7 | g12 | g13 | g17 | g18 | g24 | g25 | g31 | g32 | g36 | g37 | g39=>
          intro v w1 hx;(repeat intro (zq:v _=_));intro bb hbb;subst hbb;refine ⟨_,fun w=>?_,rfl⟩;go_simp
         case g8=>
          intro v w1 hx;(repeat intro (zq:v _=_));intro bb hbb;refine Flow.Q0l (d:=82) rfl rfl (by rw [hbb]; simp only [size_put]; exact (by decide:82 < 115)) (by rw [hbb]; dsimp only; (try simp (discharger:=decide) only [eval_put_ne]); rw [Q0a (by simp only [size_put]; exact (by decide:82 < 115))]; assumption) ?_
          intro K2 hK2;have o1:bb.eval (.tmp 7)=.pointer (some ⟨gf,0,none⟩):=by rw [hbb]; dsimp only; (try simp (discharger:=decide) only [eval_put_ne]); rfl
          exact Q0p (.tmp 7) _ rfl Tryz.Q8b Tryz.Q4b o1 (KF.out.ext (hdr.trans hx)) rfl (hK2 _ _ (Ext.refl _) rfl)
         case g9=>
          intro v w1 hx;(repeat intro (zq:v _=_));intro bb hbb;refine Flow.Q0l (d:=82) rfl rfl (by rw [hbb]; simp only [size_put]; exact (by decide:82 < 115)) (by rw [hbb]; dsimp only; (try simp (discharger:=decide) only [eval_put_ne]); rw [Q0a (by simp only [size_put]; exact (by decide:82 < 115))]; assumption) ?_
          subst hbb;intro K2 hK2;go_simp;refine Q0e (Y7d w1 _ (J2l s p n) ⟨_,rfl,FF.out.ext (hdr.trans hx)⟩ HFU4.out) ?_;rintro e w2 ⟨u,rfl,hu,hx2⟩;exact ⟨_,rfl,hK2 _ _ hx2 hu⟩
         case g10=>
          intro v w1 hx;(repeat intro (zq:v _=_));intro bb hbb;refine Flow.Q0l (d:=82) rfl rfl (by rw [hbb]; simp only [size_put]; exact (by decide:82 < 115)) (by rw [hbb]; dsimp only; (try simp (discharger:=decide) only [eval_put_ne]); rw [Q0a (by simp only [size_put]; exact (by decide:82 < 115))]; assumption) ?_
          intro K2 hK2;have o1:bb.eval (.tmp 14)=.pointer (some ⟨gx,0,none⟩):=by rw [hbb]; dsimp only; (try simp (discharger:=decide) only [eval_put_ne]); rfl
          exact Q0p (.tmp 14) _ rfl Tryz.Z9i Tryz.Z7k o1 (KX.out.ext (hdr.trans hx)) rfl (hK2 _ _ (Ext.refl _) rfl)
         case g11=>
          intro v w1 hx (q7:v 7=_) (q9:(fun v w'=>Q0w w' (v 9) (J2l s p n)) v w1) (q10:v 10=_);intro bb hbb;refine Flow.Q0l (d:=82) rfl rfl (by rw [hbb]; simp only [size_put]; exact (by decide:82 < 115)) (by rw [hbb]; dsimp only; (try simp (discharger:=decide) only [eval_put_ne]); rw [Q0a (by simp only [size_put]; exact (by decide:82 < 115))]; exact q7) ?_
          subst hbb;intro K2 hK2;go_simp;refine Q0e (X7h w1 _ _ _ _ q9 ⟨_,rfl,FX.out.ext (hdr.trans hx)⟩) ?_;rintro e w2 ⟨rfl,hx2⟩;exact ⟨_,rfl,hK2 _ _ hx2 (J6n _)⟩
         case g14 | g15 | g16=>
          intro v w1 hx;(repeat intro (zq:v _=_));intro bb hbb;refine Flow.Q0l (d:=88) rfl rfl (by rw [hbb]; simp only [size_put]; exact (by decide:88 < 115)) (by rw [hbb]; dsimp only; (try simp (discharger:=decide) only [eval_put_ne]); rw [Q0a (by simp only [size_put]; exact (by decide:88 < 115))]; assumption) ?_
          subst hbb;refine ⟨_,fun w=>?_,rfl⟩;go_simp
         case g19 | g21=>
          intro v w1 hx;(repeat intro (zq:v _=_));intro bb hbb;refine Flow.Q0l (d:=93) rfl rfl (by rw [hbb]; simp only [size_put]; exact (by decide:93 < 115)) (by rw [hbb]; dsimp only; (try simp (discharger:=decide) only [eval_put_ne]); rw [Q0a (by simp only [size_put]; exact (by decide:93 < 115))]; assumption) ?_
          subst hbb;refine ⟨_,fun w=>?_,rfl⟩;go_simp
         case g20 | g22=>
          intro v w1 hx;(repeat intro (zq:v _=_));intro bb hbb;refine Flow.Q0l (d:=93) rfl rfl (by rw [hbb]; simp only [size_put]; exact (by decide:93 < 115)) (by rw [hbb]; dsimp only; (try simp (discharger:=decide) only [eval_put_ne]); rw [Q0a (by simp only [size_put]; exact (by decide:93 < 115))]; assumption) ?_
          subst hbb;have n0:w1.cell? ⟨gc,0,none⟩=some (.slice Xc nc cc):=(KC.out.ext (hdr.trans hx)).cell 0;have n1:w1.cell? ⟨gx + 1,0,none⟩=some (.slice X4 nc2 c4):=(KY.out.ext (hdr.trans hx)).cell 0;intro K hK;go_simp;exact hK _ _ (Ext.refl _) rfl
         case g23=>
          intro v w1 hx;(repeat intro (zq:v _=_));intro bb hbb;refine Flow.Q0l (d:=93) rfl rfl (by rw [hbb]; simp only [size_put]; exact (by decide:93 < 115)) (by rw [hbb]; dsimp only; (try simp (discharger:=decide) only [eval_put_ne]); rw [Q0a (by simp only [size_put]; exact (by decide:93 < 115))]; assumption) ?_
          subst hbb;intro K2 hK2;go_simp;refine Q0e (Z2d w1 _ _ (Z5x s p n) (FC.out.ext (hdr.trans hx)) (FCY.out.ext (hdr.trans hx))) ?_;rintro e w2 ⟨rfl,hx2⟩;exact ⟨_,rfl,hK2 _ _ hx2 rfl⟩
         case g26 | g28=>
          intro v w1 hx;(repeat intro (zq:v _=_));intro bb hbb;refine Flow.Q0l (d:=100) rfl rfl (by rw [hbb]; simp only [size_put]; exact (by decide:100 < 115)) (by rw [hbb]; dsimp only; (try simp (discharger:=decide) only [eval_put_ne]); rw [Q0a (by simp only [size_put]; exact (by decide:100 < 115))]; assumption) ?_
          subst hbb;refine ⟨_,fun w=>?_,rfl⟩;go_simp
         case g27 | g29=>
          intro v w1 hx;(repeat intro (zq:v _=_));intro bb hbb;refine Flow.Q0l (d:=100) rfl rfl (by rw [hbb]; simp only [size_put]; exact (by decide:100 < 115)) (by rw [hbb]; dsimp only; (try simp (discharger:=decide) only [eval_put_ne]); rw [Q0a (by simp only [size_put]; exact (by decide:100 < 115))]; assumption) ?_
          subst hbb;have n0:w1.cell? ⟨gc,1,none⟩=some (.slice Yc mc dc):=(KC.out.ext (hdr.trans hx)).cell 1;have n1:w1.cell? ⟨gx + 1,1,none⟩=some (.slice Y4 mc2 d4):=(KY.out.ext (hdr.trans hx)).cell 1;intro K hK;go_simp;exact hK _ _ (Ext.refl _) rfl
         case g30=>
          intro v w1 hx;(repeat intro (zq:v _=_));intro bb hbb;refine Flow.Q0l (d:=100) rfl rfl (by rw [hbb]; simp only [size_put]; exact (by decide:100 < 115)) (by rw [hbb]; dsimp only; (try simp (discharger:=decide) only [eval_put_ne]); rw [Q0a (by simp only [size_put]; exact (by decide:100 < 115))]; assumption) ?_
          subst hbb;intro K2 hK2;go_simp;refine Q0e (X5v w1 _ _ (Z4j s p n) (FP.out.ext (hdr.trans hx)) (FPY.out.ext (hdr.trans hx))) ?_;rintro e w2 ⟨rfl,hx2⟩;exact ⟨_,rfl,hK2 _ _ hx2 rfl⟩
         case g33 | g34 | g35=>
          intro v w1 hx;(repeat intro (zq:v _=_));intro bb hbb;refine Flow.Q0l (d:=107) rfl rfl (by rw [hbb]; simp only [size_put]; exact (by decide:107 < 115)) (by rw [hbb]; dsimp only; (try simp (discharger:=decide) only [eval_put_ne]); rw [Q0a (by simp only [size_put]; exact (by decide:107 < 115))]; assumption) ?_
          subst hbb;refine ⟨_,fun w=>?_,rfl⟩;go_simp
         case g38=>
          intro v w1 hx;(repeat intro (zq:v _=_));intro bb hbb;refine Flow.Q0l (d:=112) rfl rfl (by rw [hbb]; simp only [size_put]; exact (by decide:112 < 115)) (by rw [hbb]; dsimp only; (try simp (discharger:=decide) only [eval_put_ne]); rw [Q0a (by simp only [size_put]; exact (by decide:112 < 115))]; assumption) ?_
          subst hbb;intro K hK;go_simp;refine Q0e (J0d w1 (HWD.out.ext (hdr.trans hx))) ?_;rintro e w2 ⟨rfl,hx2⟩;exact ⟨_,rfl,hK _ _ hx2 rfl⟩
         case g40=>
          intro v w1 hx (q0:v 0=_) _ (q2:v 2=_) _ (q4:v 4=_) (q5:v 5=_) (q6:v 6=_) (q7:v 7=_) (q8:v 8=_) _ (q10:v 10=_) (q11:v 11=_) (q12:v 12=_) (q13:v 13=_) (q14:v 14=_) (q15:v 15=_) (q16:v 16=_) (q17:v 17=_) (q18:v 18=_) (q19:v 19=_) (q20:v 20=_) (q21:v 21=_) (q22:v 22=_) (q23:v 23=_) (q24:v 24=_) (q25:v 25=_) (q26:v 26=_) (q27:v 27=_) (q28:v 28=_) (q29:v 29=_) (q30:v 30=_) (q31:v 31=_) (q32:v 32=_) (q33:v 33=_) (q34:v 34=_) (q35:v 35=_) (q36:v 36=_) (q37:v 37=_) (q38:v 38=_) (q39:v 39=_);intro bb hbb;subst hbb;refine ⟨_,fun w=>?_,rfl⟩;go_simp
        case post =>
         intro v w1 hx;(iterate 1 intro (zq:v _=_));intro (q1:(fun v w'=>Q0h w' (v 1) s) v w1);(iterate 1 intro (zq:v _=_));intro (q3:(fun v w'=>Q0w w' (v 3) p) v w1);(iterate 5 intro (zq:v _=_));intro (q9:(fun v w'=>Q0w w' (v 9) (J2l s p n)) v w1);(iterate 31 intro (zq:v _=_));simp only [Flow.All,Flow.acts,Act.put];go_simp;have hxz:=HXA.out.trans (hdr.trans hx);clear hx hdr q1 q3 q9;(repeat clear zq);go_wp2;go_ret;exact ⟨rfl,hxz⟩
end Go.Proofs
