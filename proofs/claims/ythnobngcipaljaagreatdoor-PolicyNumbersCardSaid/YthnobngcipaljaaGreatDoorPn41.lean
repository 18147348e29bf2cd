/- The law PolicyNumbers. -/
import Derived.Test.YthnobngcipaljaaGreatDoorPn35
import Derived.Test.YthnobngcipaljaaGreatDoorPn36
import Derived.Test.YthnobngcipaljaaGreatDoorPn40
import Derived.Test.YthnobngcipaljaaGreatDoorPn10
set_option maxRecDepth 1000000
set_option maxHeartbeats 64000000
set_option linter.unusedVariables false
set_option linter.unusedSimpArgs false
set_option linter.constructorNameAsVariable false
open Go.Lib (hid)
namespace Go.Proofs
open Go.RowKit Go.Tw Go.Flow
attribute [local go_sem] Oper.semAt_some
attribute [local go_sem ↓] Y8a
theorem _root_.Go.Tw.Ext.ext {a b c:World} (h:Ext a b) (k:Ext b c):Ext a c:=h.trans k
structure J4u (s:Q0b) (p:List Rul) (l:List Int) (E:Int) (KR:List Int) (c1 c2 cl dl rg pn pe:Int):Prop where
 e:Q1i s p=E
 kr:Y7x s p=KR
 c1:(Q6t s p).num=c1
 c2:(Q6t s p).den=c2
 cl:Q7w s p=cl
 dl:Y1u s p=dl
 rg:X4x s p=rg
 pn:pwN s l=pn
 pe:pwE s l=pe
theorem J4u.bad {s:Q0b} {p:List Rul} {l:List Int} {E:Int} {KR:List Int} {c1 c2 cl dl rg pn pe:Int} (h:J4u s p l E KR c1 c2 cl dl rg pn pe) (hE:E ≠ 0):KR=[] /\ c1=0 /\ c2=0 /\ cl=0 /\ dl=0 /\ rg=0:=by
 have hp:¬ Q1i s p=0:=by rw [h.e]; exact hE
 have hc:Q6t s p=⟨0,0⟩:=if_neg hp;exact ⟨by rw [<- h.kr]; exact if_neg hp,by rw [<- h.c1,hc],by rw [<- h.c2,hc],by rw [<- h.cl]; exact if_neg hp,by rw [<- h.dl]; exact if_neg hp,by rw [<- h.rg]; exact if_neg hp⟩
theorem J4u.good {s:Q0b} {p:List Rul} {l:List Int} {KR:List Int} {c1 c2 cl dl rg pn pe:Int} (h:J4u s p l 0 KR c1 c2 cl dl rg pn pe):Q2o s p=KR /\ (Q6a s p).num=c1 /\ (Q6a s p).den=c2 /\ Q4e s p=cl /\ Q9a s p=dl /\ X8l s p=rg /\ Q0u s /\ Q1c s.hist p=0:=by
 have hp:=h.e;have hc:Q6t s p=Q6a s p:=if_pos hp;obtain ⟨h1,h2⟩:=Q4v hp;exact ⟨by rw [<- h.kr]; exact (if_pos hp).symm,by rw [<- h.c1,hc],by rw [<- h.c2,hc],by rw [<- h.cl]; exact (if_pos hp).symm,by rw [<- h.dl]; exact (if_pos hp).symm,by rw [<- h.rg]; exact (if_pos hp).symm,h1,h2⟩
theorem Y3o {s:Q0b} {p:List Rul} (h:s.err ≠ 0):Q1i s p=s.err:=by unfold Q1i; rw [if_pos h]
theorem X4q (w:World) (v u x:Value) (s:Q0b) (p:List Rul) (l:List Int) (hv:Q0f w v s) (hu:Q0j w u p) (hx:Q0e w x l) (hW:Words w) :
    Calls Tryz.prog 9 #[v,u,x] w fun e w'=>e=.returned (.bool true) /\ Ext w w':=by
 obtain ⟨a,b,rfl,h2⟩:=hv;obtain ⟨A,capa,rfl,-,-,-⟩:=h2.ships.opened;obtain ⟨B,capb,rfl,-,-,-⟩:=h2.members.opened;obtain ⟨rv,rfl,hr⟩:=hu;obtain ⟨R,capr,rfl,-,-,-⟩:=hr.opened;obtain ⟨Lx,capl,rfl,-,-,-⟩:=hx.opened;have HXA:=hid (Ext.refl w);have HWD:=hid hW;have H2:=hid h2;have HR:=hid hr;have HL:=hid hx;obtain ⟨T,hT⟩:∃ T,s.ships.length=T:=⟨_,rfl⟩;have HT:=hid hT;obtain ⟨M,hM⟩:∃ M,s.members.length=M:=⟨_,rfl⟩;have HM:=hid hM;obtain ⟨lim,hlim⟩:∃ k,s.limit=k:=⟨_,rfl⟩;obtain ⟨NR,hNR⟩:∃ k,p.length=k:=⟨_,rfl⟩;have HNR:=hid hNR;obtain ⟨NL,hNL⟩:∃ k,l.length=k:=⟨_,rfl⟩;have HNL:=hid hNL;have HSEA:Hid (∀ W,Q7y W (.slice A T capa) (.slice B M capb) s -> Q0f W (.agg #[.int .i64 lim,.slice A T capa,.slice B M capb]) s):=hid (fun W h=>⟨_,_,by rw [hlim],h⟩)
 have HPOL:Hid (∀ W,Q3u W (.slice R NR capr) p -> Q0j W (.agg #[.slice R NR capr]) p):=hid (fun W h=>⟨_,rfl,h⟩);rw [hT,hM] at H2;rw [hNR] at HR;rw [hNL] at HL;rw [hT,hM,hlim,hNR,hNL];clear h2 hr hx hW hT hM hlim hNR hNL;go_enter Tryz.func9,Tryz.ntmps9;go_wp2_with fail;change Calls _ _ _ ((w.alloc (.cells #[.int .i64 lim,.slice A T capa,.slice B M capb] 25)).alloc (.cells #[.slice R NR capr] 47)) _;obtain ⟨W,hWW,k0,k1,HXW,eW⟩:=Q2t w 25 #[.int .i64 lim,.slice A T capa,.slice B M capb] 47 #[.slice R NR capr];rw [hWW];clear hWW;refine (Z5p _ _ s (HSEA.out _ (H2.out.ext HXW.out))).mono ?_;rintro e w1 ⟨q,rfl,hq,hx⟩;have hxx:Ext w w1:=HXW.out.trans hx;replace HXA:=hid (HXA.out.trans hxx);replace HWD:=hid (HWD.out.ext hxx);replace H2:=hid (H2.out.ext hxx);replace HR:=hid (HR.out.ext hxx);replace HL:=hid (HL.out.ext hxx);have KB:=hid (k0.ext hx);have KQ:=hid (k1.ext hx);clear hx hxx HXW eW k0 k1;obtain ⟨gs,hgs⟩:∃ z,w.heap.size=z:=⟨_,rfl⟩;rw [hgs] at KB KQ ⊢;clear hgs;cases q with
 | false =>
   clear hq;go_wp2_with fail;refine (Q5v _ HWD.out).mono ?_;rintro e w2 ⟨rfl,hx⟩;have hxx:Ext w1 w2:=hx;replace HXA:=hid (HXA.out.trans hxx);replace HWD:=hid (HWD.out.ext hxx);replace H2:=hid (H2.out.ext hxx);replace HR:=hid (HR.out.ext hxx);replace HL:=hid (HL.out.ext hxx);replace KB:=hid (KB.out.ext hxx);replace KQ:=hid (KQ.out.ext hxx);clear hx hxx;go_wp2;go_ret;exact ⟨rfl,HXA.out⟩
 | true =>
   have hs:Q3x s:=hq.1 rfl;have HS:=hid hs;clear hs hq;have d0KQ:=KQ.out.cell 0;simp only [Go.Tw.gA,Go.Tw.gB] at d0KQ;go_wp2_with fail;refine (X7g _ _ p (HPOL.out _ HR.out)).mono ?_;rintro e w2 ⟨q,rfl,hq,hx⟩;have hxx:Ext w1 w2:=hx;replace HXA:=hid (HXA.out.trans hxx);replace HWD:=hid (HWD.out.ext hxx);replace H2:=hid (H2.out.ext hxx);replace HR:=hid (HR.out.ext hxx);replace HL:=hid (HL.out.ext hxx);replace KB:=hid (KB.out.ext hxx);replace KQ:=hid (KQ.out.ext hxx);clear hx hxx d0KQ;cases q with
   | false =>
     clear hq;go_wp2_with fail;refine (Q5v _ HWD.out).mono ?_;rintro e w3 ⟨rfl,hx⟩;have hxx:Ext w2 w3:=hx;replace HXA:=hid (HXA.out.trans hxx);replace HWD:=hid (HWD.out.ext hxx);replace H2:=hid (H2.out.ext hxx);replace HR:=hid (HR.out.ext hxx);replace HL:=hid (HL.out.ext hxx);replace KB:=hid (KB.out.ext hxx);replace KQ:=hid (KQ.out.ext hxx);clear hx hxx;go_wp2;go_ret;exact ⟨rfl,HXA.out⟩
   | true =>
     have hs:Y9i p:=hq.1 rfl;have HSP:=hid hs;clear hs hq
     by_cases h9:9 < NL
     . have h9I:(9:Int) < NL:=by omega
       go_wp2_with fail;refine (Q5v _ HWD.out).mono ?_;rintro e w3 ⟨rfl,hx⟩;have hxx:Ext w2 w3:=hx;replace HXA:=hid (HXA.out.trans hxx);replace HWD:=hid (HWD.out.ext hxx);replace H2:=hid (H2.out.ext hxx);replace HR:=hid (HR.out.ext hxx);replace HL:=hid (HL.out.ext hxx);replace KB:=hid (KB.out.ext hxx);replace KQ:=hid (KQ.out.ext hxx);clear hx hxx;go_wp2;go_ret;exact ⟨rfl,HXA.out⟩
     . have h9I:¬ (9:Int) < NL:=by omega
       have HPL:Hid (p.length <= 1000):=hid (by have:=HSP.out.rules; omega)
       have HP2:Hid (p.length <= 4096):=hid (by have:=HSP.out.rules; omega)
       have HP8:Hid (∀ k,k < p.length -> (Q0n p k).length <= 4096):=hid (fun k hk=>by have:=HSP.out.each k hk; omega)
       have FK:=hid (fun (W:World) (a b:Value) (ha:Q0f W a s) (hb:Q0j W b p)=>X2y W a b s p ha hb HS.out HPL.out);have FC:=hid (fun (W:World) (a b:Value) (ha:Q0f W a s) (hb:Q0j W b p)=>X6k W a b s p ha hb HS.out HPL.out);have FN:=hid (fun (W:World) (a b:Value) (ha:Q0f W a s) (hb:Q0j W b p)=>X3p W a b s p ha hb HS.out HPL.out);have FD:=hid (fun (W:World) (a b:Value) (ha:Q0f W a s) (hb:Q0j W b p)=>Y2g W a b s p ha hb HS.out HPL.out);have FG:=hid (fun (W:World) (a b:Value) (ha:Q0f W a s) (hb:Q0j W b p)=>X9i W a b s p ha hb HS.out HPL.out);have FW:=hid (fun (W:World) (a b:Value) (ha:Q0f W a s) (hb:Q0e W b l)=>Z1j W a b s l ha HS.out hb);obtain ⟨E,hE⟩:∃ z,Q1i s p=z:=⟨_,rfl⟩;obtain ⟨KR,hKR⟩:∃ z,Y7x s p=z:=⟨_,rfl⟩;obtain ⟨c1,hc1⟩:∃ z,(Q6t s p).num=z:=⟨_,rfl⟩;obtain ⟨c2,hc2⟩:∃ z,(Q6t s p).den=z:=⟨_,rfl⟩;obtain ⟨cl,hcl⟩:∃ z,Q7w s p=z:=⟨_,rfl⟩;obtain ⟨dl,hdl⟩:∃ z,Y1u s p=z:=⟨_,rfl⟩;obtain ⟨rg,hrg⟩:∃ z,X4x s p=z:=⟨_,rfl⟩;obtain ⟨pn,hpn⟩:∃ z,pwN s l=z:=⟨_,rfl⟩;obtain ⟨pe,hpe⟩:∃ z,pwE s l=z:=⟨_,rfl⟩;have HNV:Hid (J4u s p l E KR c1 c2 cl dl rg pn pe):=hid ⟨hE,hKR,hc1,hc2,hcl,hdl,hrg,hpn,hpe⟩;rw [hE,hKR] at FK;rw [hc1,hc2,hE] at FC;rw [hcl,hE] at FN;rw [hdl,hE] at FD;rw [hrg,hE] at FG;rw [hpn,hpe] at FW;clear hE hKR hc1 hc2 hcl hdl hrg hpn hpe;go_wp2_with fail;have hdr:=(Ext.refl w2).drew;refine Flow.Q1d [.w,.w,.w,.w,.w,.p,.p,.p,.p,.p] [0,1,2,3,4,5,6,7,8,9] [[],[0],[],[1,2],[1,3],[4],[4,5],[4,5],[0,1,2,3,4,5,6],[0,1,2,3,4,5,6,7,8]]
        [.c 0 (.agg #[.int .i64 lim,.slice A T capa,.slice B M capb]),⟨fun v wz=>(fun v w'=>Q0f w' (v 1) s) v wz,by intro v a b hx h; exact Q0f.ext h hx⟩,.c 2 (.agg #[.slice R NR capr]),⟨fun v wz=>(fun v w'=>Q0j w' (v 3) p) v wz,by intro v a b hx h; exact Q0j.ext h hx⟩,⟨fun v wz=>(fun v w'=>∃ x,v 4=.tuple #[x,.int .i64 E] /\ Q0e w' x KR) v wz,by rintro v a b hx ⟨x,h1,h2⟩; exact ⟨x,h1,h2.ext hx⟩⟩,⟨fun v wz=>(fun v w'=>v 5=v 4) v wz,by intro v a b hx h; exact h⟩,⟨fun v wz=>(fun v w'=>v 4=.tuple #[v 6,.int .i64 E]) v wz,by intro v a b hx h; exact h⟩,.c 7 (.int .i64 E),⟨fun v wz=>(fun v w'=>v 8=v 6) v wz,by intro v a b hx h; exact h⟩,.c 9 (.int .i64 E)]
        (by kernel_rfl) rfl (by kernel_rfl) ⟨?g0,?g1,?g2,?g3,?g4,?g5,?g6,?g7,?g8,?g9,trivial⟩ ?post
       case g0=>
        intro v w1 hx;intro bb hbb;intro K2 hK2;have o1:bb.eval (.tmp 3)=.pointer (some ⟨gs,0,none⟩):=by rw [hbb]; dsimp only; (try simp (discharger:=decide) only [eval_put_ne]); rfl
        exact Q0g (.tmp 3) _ rfl Tryz.Q5h Tryz.Q3p o1 (KB.out.ext (hdr.trans hx)) rfl (hK2 _ _ (Ext.refl _) rfl)
       case g1=>
        intro v w1 hx;(repeat intro (zq:v _=_));intro bb hbb;subst hbb;intro K2 hK2;go_simp;refine Q0d (Q7z w1 _ s (HSEA.out _ (H2.out.ext (hdr.trans hx))) HS.out) ?_;rintro e w2 ⟨u,rfl,hu,hx2⟩;exact ⟨_,rfl,hK2 _ _ hx2 hu⟩
       case g2=>
        intro v w1 hx;intro bb hbb;intro K2 hK2;have o1:bb.eval (.tmp 4)=.pointer (some ⟨gs + 1,0,none⟩):=by rw [hbb]; dsimp only; (try simp (discharger:=decide) only [eval_put_ne]); rfl
        exact Q0g (.tmp 4) _ rfl Tryz.Q6w Tryz.Q4t o1 (KQ.out.ext (hdr.trans hx)) rfl (hK2 _ _ (Ext.refl _) rfl)
       case g3=>
        intro v w1 hx _ (q2:v 2=_);intro bb hbb;subst hbb;intro K2 hK2;go_simp;refine Q0d (Y0h w1 _ p (HPOL.out _ (HR.out.ext (hdr.trans hx))) HP2.out HP8.out) ?_;rintro e w2 ⟨u,rfl,hu,hx2⟩;exact ⟨_,rfl,hK2 _ _ hx2 hu⟩
       case g4=>
        intro v w1 hx (q1:(fun v w'=>Q0f w' (v 1) s) v w1) (q3:(fun v w'=>Q0j w' (v 3) p) v w1);intro bb hbb;subst hbb;intro K2 hK2;go_simp;refine Q0d (FK.out w1 _ _ q1 q3) ?_;rintro e w2 ⟨u,rfl,hu,hx2⟩;exact ⟨_,rfl,hK2 _ _ hx2 ⟨_,rfl,hu⟩⟩
       case g5=>
        intro v w1 hx _;intro bb hbb;have o1:bb.eval (.tmp 46)=v 4:=by rw [hbb]; dsimp only; (try simp (discharger:=decide) only [eval_put_ne]); rw [Q0a (by simp only [size_put]; exact (by decide:46 < 182))]
        exact ⟨_,fun w=>Y8p (.tmp 46) rfl o1,rfl⟩
       case g6=>
        intro v w1 hx (q4:(fun v w'=>∃ x,v 4=.tuple #[x,.int .i64 E] /\ Q0e w' x KR) v w1) (q5:(fun v w'=>v 5=v 4) v w1);intro bb hbb;obtain ⟨x,h5,_⟩:=q4;have o1:bb.eval (.tmp 41)=.tuple #[x,.int .i64 E]:=by rw [<- h5,<- q5]; rw [hbb]; dsimp only; (try simp (discharger:=decide) only [eval_put_ne]); rw [Q0a (by simp only [size_put]; exact (by decide:41 < 182))]
        exact ⟨_,fun w=>Q6n (.tmp 41) 0 rfl o1 (fun w=>J6j w _ _),h5⟩
       case g7=>
        intro v w1 hx (q4:(fun v w'=>∃ x,v 4=.tuple #[x,.int .i64 E] /\ Q0e w' x KR) v w1) (q5:(fun v w'=>v 5=v 4) v w1);intro bb hbb;obtain ⟨x,h5,_⟩:=q4;have o1:bb.eval (.tmp 41)=.tuple #[x,.int .i64 E]:=by rw [<- h5,<- q5]; rw [hbb]; dsimp only; (try simp (discharger:=decide) only [eval_put_ne]); rw [Q0a (by simp only [size_put]; exact (by decide:41 < 182))]
        exact ⟨_,fun w=>Q6n (.tmp 41) 1 rfl o1 (fun w=>J6z w _ _),rfl⟩
       case g8=>
        intro v w1 hx (q0:v 0=_) _ (q2:v 2=_) _ _ _ _;intro bb hbb;have o1:bb.eval (.tmp 47)=v 6:=by rw [hbb]; dsimp only; (try simp (discharger:=decide) only [eval_put_ne]); rw [Q0a (by simp only [size_put]; exact (by decide:47 < 182))]
        exact ⟨_,fun w=>X1o (.tmp 47) rfl o1,rfl⟩
       case g9=>
        intro v w1 hx (q0:v 0=_) _ (q2:v 2=_) _ _ _ _ (q7:v 7=_) _;intro bb hbb;subst hbb;refine ⟨_,fun w=>?_,rfl⟩;go_simp
       case post =>
        intro v w1 hx (q0:v 0=_) (q1:(fun v w'=>Q0f w' (v 1) s) v w1) (q2:v 2=_) (q3:(fun v w'=>Q0j w' (v 3) p) v w1) (q4:(fun v w'=>∃ x,v 4=.tuple #[x,.int .i64 E] /\ Q0e w' x KR) v w1) (q5:(fun v w'=>v 5=v 4) v w1) (q6:(fun v w'=>v 4=.tuple #[v 6,.int .i64 E]) v w1) (q7:v 7=_) (q8:(fun v w'=>v 8=v 6) v w1) (q9:v 9=_);simp only [Flow.All,Flow.acts,Act.put];go_simp;obtain ⟨xk,h5,hik⟩:=q4;replace q6:v 4=.tuple #[v 6,.int .i64 E]:=q6;replace q8:v 8=v 6:=q8;rw [h5] at q6;simp only [Value.tuple.injEq,Array.mk.injEq,List.cons.injEq,and_true] at q6;obtain ⟨Xk,ck,rfl,-,-,-⟩:=hik.opened;obtain ⟨nk,hnk⟩:∃ z,KR.length=z:=⟨_,rfl⟩;rw [hnk] at q6 hik
        (try rw [q8])
        rw [<- q6];clear hnk h5;have hxx:=hdr.trans hx;replace HXA:=hid (HXA.out.trans hxx);replace HWD:=hid (HWD.out.ext hxx);replace H2:=hid (H2.out.ext hxx);replace HR:=hid (HR.out.ext hxx);replace HL:=hid (HL.out.ext hxx);replace KB:=hid (KB.out.ext hxx);replace KQ:=hid (KQ.out.ext hxx);have GK:=hid (hik);obtain ⟨w3,rfl⟩:∃ Z,Z=w1:=⟨_,rfl⟩;clear hx hdr hxx q0 q1 q2 q3 q5 q6 q7 q8 q9;clear hik;have d0KB:=KB.out.cell 0;have d1KB:=KB.out.cell 1;have d2KB:=KB.out.cell 2;simp only [Go.Tw.gA,Go.Tw.gB,Go.Tw.gC] at d0KB d1KB d2KB;go_wp2_with fail;refine (Q7z _ _ s (HSEA.out _ H2.out) HS.out).mono ?_;rintro e w4 ⟨g1,rfl,hg,hx⟩;have hxx:Ext w3 w4:=hx;replace HXA:=hid (HXA.out.trans hxx);replace HWD:=hid (HWD.out.ext hxx);replace H2:=hid (H2.out.ext hxx);replace HR:=hid (HR.out.ext hxx);replace HL:=hid (HL.out.ext hxx);replace KB:=hid (KB.out.ext hxx);replace KQ:=hid (KQ.out.ext hxx);replace GK:=hid (GK.out.ext hxx);clear hx hxx d0KB d1KB d2KB;have HG:=hid hg;clear hg;go_wp2_with fail;refine (Q7s _ _ l HL.out (by rw [HNL.out]; omega)).mono ?_
        rintro e w5 ⟨gl,rfl,hg,hx⟩;have hxx:Ext w4 w5:=hx;replace HXA:=hid (HXA.out.trans hxx);replace HWD:=hid (HWD.out.ext hxx);replace H2:=hid (H2.out.ext hxx);replace HR:=hid (HR.out.ext hxx);replace HL:=hid (HL.out.ext hxx);replace KB:=hid (KB.out.ext hxx);replace KQ:=hid (KQ.out.ext hxx);replace GK:=hid (GK.out.ext hxx);replace HG:=hid (HG.out.ext hxx);clear hx hxx;have hgi:=hg.ints (by rw [HNL.out]; omega)
        clear hg;have HGL:=hid hgi;clear hgi;go_wp2_with fail;refine (FW.out _ _ _ HG.out HGL.out).mono ?_;rintro e w6 ⟨rfl,hx⟩;have hxx:Ext w5 w6:=hx;replace HXA:=hid (HXA.out.trans hxx);clear HG HGL;replace HWD:=hid (HWD.out.ext hxx);replace H2:=hid (H2.out.ext hxx);replace HR:=hid (HR.out.ext hxx);replace HL:=hid (HL.out.ext hxx);replace KB:=hid (KB.out.ext hxx);replace KQ:=hid (KQ.out.ext hxx);replace GK:=hid (GK.out.ext hxx);clear hx hxx;go_wp2_with fail;have hdr:=(Ext.refl w6).drew;refine Flow.Q4c [.w,.w,.w,.w,.w,.p,.p,.p,.w,.last,.last] [0,1,2,3,4,5,6,7,8,9,10] [[],[0],[],[0,1,2],[0,1,2,3],[0,1,2,3,4],[0,1,2,3,4,5],[0,1,2,3,4,5],[],[0,1,2,3,4,5,6,8],[0,1,2,3,4,5,6,7,8,9]] [9,10]
         [.c 0 (.agg #[.int .i64 lim,.slice A T capa,.slice B M capb]),⟨fun v wz=>(fun v w'=>Q0f w' (v 1) s) v wz,by intro v a b hx h; exact Q0f.ext h hx⟩,.c 2 (.agg #[.slice R NR capr]),⟨fun v wz=>(fun v w'=>Q0j w' (v 3) p) v wz,by intro v a b hx h; exact Q0j.ext h hx⟩,.c 4 (.tuple #[.agg #[.int .i64 c1,.int .i64 c2],.int .i64 E]),.c 5 (.tuple #[.agg #[.int .i64 c1,.int .i64 c2],.int .i64 E]),.c 6 (.agg #[.int .i64 c1,.int .i64 c2]),.c 7 (.int .i64 E),⟨fun v wz=>(fun v w'=>∃ g,v 8=.pointer (some ⟨g,0,none⟩) /\ Blk w' g 107 #[.int .i64 0,.int .i64 0] /\ w6.heap.size <= g) v wz,by rintro v a b hx ⟨g,h1,h2,h3⟩; exact ⟨g,h1,h2.ext hx,h3⟩⟩,.none,.none]
         [fun v w1 w'=>∃ g,v 8=.pointer (some ⟨g,0,none⟩) /\ Blk w' g 107 #[.int .i64 c1,.int .i64 c2] /\ Ext w6 w',fun v w1 w'=>v 10=.int .i64 E /\ ∃ g,v 8=.pointer (some ⟨g,0,none⟩) /\ Blk w' g 107 #[.int .i64 c1,.int .i64 c2] /\ Ext w6 w'] (by kernel_rfl) rfl (by kernel_rfl) ⟨?g0,?g1,?g2,?g3,?g4,?g5,?g6,?g7,?g8,?g9,?g10,trivial⟩ ?post
        case g0=>
         intro v w1 hx;intro bb hbb;intro K2 hK2;have o1:bb.eval (.tmp 3)=.pointer (some ⟨gs,0,none⟩):=by rw [hbb]; dsimp only; (try simp (discharger:=decide) only [eval_put_ne]); rfl
         exact Q0g (.tmp 3) _ rfl Tryz.Q5h Tryz.Q3p o1 (KB.out.ext (hdr.trans hx)) rfl (hK2 _ _ (Ext.refl _) rfl)
        case g1=>
         intro v w1 hx;(repeat intro (zq:v _=_));intro bb hbb;subst hbb;intro K2 hK2;go_simp;refine Q0d (Q7z w1 _ s (HSEA.out _ (H2.out.ext (hdr.trans hx))) HS.out) ?_;rintro e w2 ⟨u,rfl,hu,hx2⟩;exact ⟨_,rfl,hK2 _ _ hx2 hu⟩
        case g2=>
         intro v w1 hx;intro bb hbb;intro K2 hK2;have o1:bb.eval (.tmp 4)=.pointer (some ⟨gs + 1,0,none⟩):=by rw [hbb]; dsimp only; (try simp (discharger:=decide) only [eval_put_ne]); rfl
         exact Q0g (.tmp 4) _ rfl Tryz.Q6w Tryz.Q4t o1 (KQ.out.ext (hdr.trans hx)) rfl (hK2 _ _ (Ext.refl _) rfl)
        case g3=>
         intro v w1 hx (q0:v 0=_) _ (q2:v 2=_);intro bb hbb;subst hbb;intro K2 hK2;go_simp;refine Q0d (Y0h w1 _ p (HPOL.out _ (HR.out.ext (hdr.trans hx))) HP2.out HP8.out) ?_;rintro e w2 ⟨u,rfl,hu,hx2⟩;exact ⟨_,rfl,hK2 _ _ hx2 hu⟩
        case g4=>
         intro v w1 hx (q0:v 0=_) (q1:(fun v w'=>Q0f w' (v 1) s) v w1) (q2:v 2=_) (q3:(fun v w'=>Q0j w' (v 3) p) v w1);intro bb hbb;subst hbb;intro K2 hK2;go_simp;refine Q0d (FC.out w1 _ _ q1 q3) ?_;rintro e w2 ⟨rfl,hx2⟩;exact ⟨_,rfl,hK2 _ _ hx2 rfl⟩
        case g5=>
         intro v w1 hx (q0:v 0=_) _ (q2:v 2=_) _ (q4:v 4=_);intro bb hbb;subst hbb;refine ⟨_,fun w=>?_,rfl⟩;go_simp
        case g6 | g7=>
         intro v w1 hx (q0:v 0=_) _ (q2:v 2=_) _ (q4:v 4=_) (q5:v 5=_);intro bb hbb;subst hbb;refine ⟨_,fun w=>?_,rfl⟩;go_simp
        case g8=>
         intro v w1 hx;intro bb hbb;subst hbb;intro K hK;go_simp;exact hK _ _ (Ext.box _ _) ⟨_,rfl,Blk.made _ _ _,(hdr.trans hx).size⟩
        case g9=>
         intro v w1 hx (q0:v 0=_) _ (q2:v 2=_) _ (q4:v 4=_) (q5:v 5=_) (q6:v 6=_) (q8:(fun v w'=>∃ g,v 8=.pointer (some ⟨g,0,none⟩) /\ Blk w' g 107 #[.int .i64 0,.int .i64 0] /\ w6.heap.size <= g) v w1);intro wl hT;obtain rfl:wl=w1:=hT;intro bb hbb;intro K hK;obtain ⟨g,e13,h13,h13s⟩:=q8;have o1:bb.eval (.tmp 11)=.pointer (some ⟨g,0,none⟩):=by rw [hbb]; dsimp only; (try simp (discharger:=decide) only [eval_put_ne]); rw [Q0a (by simp only [size_put]; exact (by decide:11 < 182))]; exact e13
         have o2:bb.eval (.tmp 63)=.agg #[.int .i64 c1,.int .i64 c2]:=by rw [hbb]; dsimp only; (try simp (discharger:=decide) only [eval_put_ne]); rw [Q0a (by simp only [size_put]; exact (by decide:63 < 182))]; exact q6
         exact Q1m (.tmp 11) (.tmp 63) _ rfl Tryz.Q8d o1 o2 h13 rfl rfl (by intro u hu; simp only [List.mem_cons,List.not_mem_nil,or_false] at hu; rcases hu with rfl | rfl <;> rfl) (fun vv w' hb hl ho=>hK _ _ ⟨g,e13,hb,Below.trans (hdr.trans hx) (hl _ h13s)⟩)
        case g10=>
         intro v w1 hx (q0:v 0=_) _ (q2:v 2=_) _ (q4:v 4=_) (q5:v 5=_) (q6:v 6=_) (q7:v 7=_) _;intro wl hT;replace hT:(fun v w1 w'=>∃ g,v 8=.pointer (some ⟨g,0,none⟩) /\ Blk w' g 107 #[.int .i64 c1,.int .i64 c2] /\ Ext w6 w') v w1 wl:=hT;intro bb hbb;subst hbb;intro K hK;go_simp;exact hK _ _ ⟨rfl,hT⟩
        case post =>
         intro v w1 hx (q0:v 0=_) (q1:(fun v w'=>Q0f w' (v 1) s) v w1) (q2:v 2=_) (q3:(fun v w'=>Q0j w' (v 3) p) v w1) (q4:v 4=_) (q5:v 5=_) (q6:v 6=_) (q7:v 7=_) (q8:(fun v w'=>∃ g,v 8=.pointer (some ⟨g,0,none⟩) /\ Blk w' g 107 #[.int .i64 0,.int .i64 0] /\ w6.heap.size <= g) v w1);intro w2 hE;replace hE:(fun v w1 w'=>v 10=.int .i64 E /\ ∃ g,v 8=.pointer (some ⟨g,0,none⟩) /\ Blk w' g 107 #[.int .i64 c1,.int .i64 c2] /\ Ext w6 w') v w1 w2:=hE;simp only [Flow.acts,Act.put];go_simp;obtain ⟨h10,gc,e8,hbc,hxz⟩:=hE
         try rw [h10]
         try rw [e8]
         have hxx:=hxz;replace HXA:=hid (HXA.out.trans hxx);replace HWD:=hid (HWD.out.ext hxx);replace H2:=hid (H2.out.ext hxx);replace HR:=hid (HR.out.ext hxx);replace HL:=hid (HL.out.ext hxx);replace KB:=hid (KB.out.ext hxx);replace KQ:=hid (KQ.out.ext hxx);replace GK:=hid (GK.out.ext hxx);have KC:=hid (hbc);obtain ⟨w7,rfl⟩:∃ Z,Z=w2:=⟨_,rfl⟩;clear hx hdr hxx q0 q1 q2 q3 q4 q5 q6 q7 q8;clear hbc hxz h10 e8;go_wp2_with fail;have hdr:=(Ext.refl w7).drew;refine Flow.Q1d [.w,.w,.w,.w,.w,.p,.p,.p,.p,.p] [0,1,2,3,4,5,6,7,8,9] [[],[0],[],[1,2],[1,3],[4],[5],[5],[0,1,2,3,4,5,6],[0,1,2,3,4,5,6,7,8]]
          [.c 0 (.agg #[.int .i64 lim,.slice A T capa,.slice B M capb]),⟨fun v wz=>(fun v w'=>Q0f w' (v 1) s) v wz,by intro v a b hx h; exact Q0f.ext h hx⟩,.c 2 (.agg #[.slice R NR capr]),⟨fun v wz=>(fun v w'=>Q0j w' (v 3) p) v wz,by intro v a b hx h; exact Q0j.ext h hx⟩,.c 4 (.tuple #[.int .i64 cl,.int .i64 E]),.c 5 (.tuple #[.int .i64 cl,.int .i64 E]),.c 6 (.int .i64 cl),.c 7 (.int .i64 E),.c 8 (.int .i64 cl),.c 9 (.int .i64 E)]
          (by kernel_rfl) rfl (by kernel_rfl) ⟨?g0,?g1,?g2,?g3,?g4,?g5,?g6,?g7,?g8,?g9,trivial⟩ ?post
         case g0=>
          intro v w1 hx;intro bb hbb;intro K2 hK2;have o1:bb.eval (.tmp 3)=.pointer (some ⟨gs,0,none⟩):=by rw [hbb]; dsimp only; (try simp (discharger:=decide) only [eval_put_ne]); rfl
          exact Q0g (.tmp 3) _ rfl Tryz.Q5h Tryz.Q3p o1 (KB.out.ext (hdr.trans hx)) rfl (hK2 _ _ (Ext.refl _) rfl)
         case g1=>
          intro v w1 hx;(repeat intro (zq:v _=_));intro bb hbb;subst hbb;intro K2 hK2;go_simp;refine Q0d (Q7z w1 _ s (HSEA.out _ (H2.out.ext (hdr.trans hx))) HS.out) ?_;rintro e w2 ⟨u,rfl,hu,hx2⟩;exact ⟨_,rfl,hK2 _ _ hx2 hu⟩
         case g2=>
          intro v w1 hx;intro bb hbb;intro K2 hK2;have o1:bb.eval (.tmp 4)=.pointer (some ⟨gs + 1,0,none⟩):=by rw [hbb]; dsimp only; (try simp (discharger:=decide) only [eval_put_ne]); rfl
          exact Q0g (.tmp 4) _ rfl Tryz.Q6w Tryz.Q4t o1 (KQ.out.ext (hdr.trans hx)) rfl (hK2 _ _ (Ext.refl _) rfl)
         case g3=>
          intro v w1 hx _ (q2:v 2=_);intro bb hbb;subst hbb;intro K2 hK2;go_simp;refine Q0d (Y0h w1 _ p (HPOL.out _ (HR.out.ext (hdr.trans hx))) HP2.out HP8.out) ?_;rintro e w2 ⟨u,rfl,hu,hx2⟩;exact ⟨_,rfl,hK2 _ _ hx2 hu⟩
         case g4=>
          intro v w1 hx (q1:(fun v w'=>Q0f w' (v 1) s) v w1) (q3:(fun v w'=>Q0j w' (v 3) p) v w1);intro bb hbb;subst hbb;intro K2 hK2;go_simp;refine Q0d (FN.out w1 _ _ q1 q3) ?_;rintro e w2 ⟨rfl,hx2⟩;exact ⟨_,rfl,hK2 _ _ hx2 rfl⟩
         case g5 | g6 | g7=>
          intro v w1 hx;(repeat intro (zq:v _=_));intro bb hbb;subst hbb;refine ⟨_,fun w=>?_,rfl⟩;go_simp
         case g8=>
          intro v w1 hx (q0:v 0=_) _ (q2:v 2=_) _ (q4:v 4=_) (q5:v 5=_) (q6:v 6=_);intro bb hbb;subst hbb;refine ⟨_,fun w=>?_,rfl⟩;go_simp
         case g9=>
          intro v w1 hx (q0:v 0=_) _ (q2:v 2=_) _ (q4:v 4=_) (q5:v 5=_) (q6:v 6=_) (q7:v 7=_) (q8:v 8=_);intro bb hbb;subst hbb;refine ⟨_,fun w=>?_,rfl⟩;go_simp
         case post =>
          intro v w1 hx (q0:v 0=_) (q1:(fun v w'=>Q0f w' (v 1) s) v w1) (q2:v 2=_) (q3:(fun v w'=>Q0j w' (v 3) p) v w1) (q4:v 4=_) (q5:v 5=_) (q6:v 6=_) (q7:v 7=_) (q8:v 8=_) (q9:v 9=_);simp only [Flow.All,Flow.acts,Act.put];go_simp;have hxx:=hdr.trans hx;replace HXA:=hid (HXA.out.trans hxx);replace HWD:=hid (HWD.out.ext hxx);replace H2:=hid (H2.out.ext hxx);replace HR:=hid (HR.out.ext hxx);replace HL:=hid (HL.out.ext hxx);replace KB:=hid (KB.out.ext hxx);replace KQ:=hid (KQ.out.ext hxx);replace GK:=hid (GK.out.ext hxx);replace KC:=hid (KC.out.ext hxx);obtain ⟨w8,rfl⟩:∃ Z,Z=w1:=⟨_,rfl⟩;clear hx hdr hxx q0 q1 q2 q3 q4 q5 q6 q7 q8 q9;go_wp2_with fail;have hdr:=(Ext.refl w8).drew;refine Flow.Q1d [.w,.w,.w,.w,.w,.p,.p,.p,.p,.p] [0,1,2,3,4,5,6,7,8,9] [[],[0],[],[1,2],[1,3],[4],[5],[5],[0,1,2,3,4,5,6],[0,1,2,3,4,5,6,7,8]]
           [.c 0 (.agg #[.int .i64 lim,.slice A T capa,.slice B M capb]),⟨fun v wz=>(fun v w'=>Q0f w' (v 1) s) v wz,by intro v a b hx h; exact Q0f.ext h hx⟩,.c 2 (.agg #[.slice R NR capr]),⟨fun v wz=>(fun v w'=>Q0j w' (v 3) p) v wz,by intro v a b hx h; exact Q0j.ext h hx⟩,.c 4 (.tuple #[.int .i64 dl,.int .i64 E]),.c 5 (.tuple #[.int .i64 dl,.int .i64 E]),.c 6 (.int .i64 dl),.c 7 (.int .i64 E),.c 8 (.int .i64 dl),.c 9 (.int .i64 E)]
           (by kernel_rfl) rfl (by kernel_rfl) ⟨?g0,?g1,?g2,?g3,?g4,?g5,?g6,?g7,?g8,?g9,trivial⟩ ?post
          case g0=>
           intro v w1 hx;intro bb hbb;intro K2 hK2;have o1:bb.eval (.tmp 3)=.pointer (some ⟨gs,0,none⟩):=by rw [hbb]; dsimp only; (try simp (discharger:=decide) only [eval_put_ne]); rfl
           exact Q0g (.tmp 3) _ rfl Tryz.Q5h Tryz.Q3p o1 (KB.out.ext (hdr.trans hx)) rfl (hK2 _ _ (Ext.refl _) rfl)
          case g1=>
           intro v w1 hx;(repeat intro (zq:v _=_));intro bb hbb;subst hbb;intro K2 hK2;go_simp;refine Q0d (Q7z w1 _ s (HSEA.out _ (H2.out.ext (hdr.trans hx))) HS.out) ?_;rintro e w2 ⟨u,rfl,hu,hx2⟩;exact ⟨_,rfl,hK2 _ _ hx2 hu⟩
          case g2=>
           intro v w1 hx;intro bb hbb;intro K2 hK2;have o1:bb.eval (.tmp 4)=.pointer (some ⟨gs + 1,0,none⟩):=by rw [hbb]; dsimp only; (try simp (discharger:=decide) only [eval_put_ne]); rfl
           exact Q0g (.tmp 4) _ rfl Tryz.Q6w Tryz.Q4t o1 (KQ.out.ext (hdr.trans hx)) rfl (hK2 _ _ (Ext.refl _) rfl)
          case g3=>
           intro v w1 hx _ (q2:v 2=_);intro bb hbb;subst hbb;intro K2 hK2;go_simp;refine Q0d (Y0h w1 _ p (HPOL.out _ (HR.out.ext (hdr.trans hx))) HP2.out HP8.out) ?_;rintro e w2 ⟨u,rfl,hu,hx2⟩;exact ⟨_,rfl,hK2 _ _ hx2 hu⟩
          case g4=>
           intro v w1 hx (q1:(fun v w'=>Q0f w' (v 1) s) v w1) (q3:(fun v w'=>Q0j w' (v 3) p) v w1);intro bb hbb;subst hbb;intro K2 hK2;go_simp;refine Q0d (FD.out w1 _ _ q1 q3) ?_;rintro e w2 ⟨rfl,hx2⟩;exact ⟨_,rfl,hK2 _ _ hx2 rfl⟩
          case g5 | g6 | g7=>
           intro v w1 hx;(repeat intro (zq:v _=_));intro bb hbb;subst hbb;refine ⟨_,fun w=>?_,rfl⟩;go_simp
          case g8=>
           intro v w1 hx (q0:v 0=_) _ (q2:v 2=_) _ (q4:v 4=_) (q5:v 5=_) (q6:v 6=_);intro bb hbb;subst hbb;refine ⟨_,fun w=>?_,rfl⟩;go_simp
          case g9=>
           intro v w1 hx (q0:v 0=_) _ (q2:v 2=_) _ (q4:v 4=_) (q5:v 5=_) (q6:v 6=_) (q7:v 7=_) (q8:v 8=_);intro bb hbb;subst hbb;refine ⟨_,fun w=>?_,rfl⟩;go_simp
          case post =>
           intro v w1 hx (q0:v 0=_) (q1:(fun v w'=>Q0f w' (v 1) s) v w1) (q2:v 2=_) (q3:(fun v w'=>Q0j w' (v 3) p) v w1) (q4:v 4=_) (q5:v 5=_) (q6:v 6=_) (q7:v 7=_) (q8:v 8=_) (q9:v 9=_);simp only [Flow.All,Flow.acts,Act.put];go_simp;have hxx:=hdr.trans hx;replace HXA:=hid (HXA.out.trans hxx);replace HWD:=hid (HWD.out.ext hxx);replace H2:=hid (H2.out.ext hxx);replace HR:=hid (HR.out.ext hxx);replace HL:=hid (HL.out.ext hxx);replace KB:=hid (KB.out.ext hxx);replace KQ:=hid (KQ.out.ext hxx);replace GK:=hid (GK.out.ext hxx);replace KC:=hid (KC.out.ext hxx);obtain ⟨w9,rfl⟩:∃ Z,Z=w1:=⟨_,rfl⟩;clear hx hdr hxx q0 q1 q2 q3 q4 q5 q6 q7 q8 q9;go_wp2_with fail;have hdr:=(Ext.refl w9).drew;refine Flow.Q1d [.w,.w,.w,.w,.w,.p,.p,.p,.p,.p] [0,1,2,3,4,5,6,7,8,9] [[],[0],[],[1,2],[1,3],[4],[5],[5],[0,1,2,3,4,5,6],[0,1,2,3,4,5,6,7,8]]
            [.c 0 (.agg #[.int .i64 lim,.slice A T capa,.slice B M capb]),⟨fun v wz=>(fun v w'=>Q0f w' (v 1) s) v wz,by intro v a b hx h; exact Q0f.ext h hx⟩,.c 2 (.agg #[.slice R NR capr]),⟨fun v wz=>(fun v w'=>Q0j w' (v 3) p) v wz,by intro v a b hx h; exact Q0j.ext h hx⟩,.c 4 (.tuple #[.int .i64 rg,.int .i64 E]),.c 5 (.tuple #[.int .i64 rg,.int .i64 E]),.c 6 (.int .i64 rg),.c 7 (.int .i64 E),.c 8 (.int .i64 rg),.c 9 (.int .i64 E)]
            (by kernel_rfl) rfl (by kernel_rfl) ⟨?g0,?g1,?g2,?g3,?g4,?g5,?g6,?g7,?g8,?g9,trivial⟩ ?post
           case g0=>
            intro v w1 hx;intro bb hbb;intro K2 hK2;have o1:bb.eval (.tmp 3)=.pointer (some ⟨gs,0,none⟩):=by rw [hbb]; dsimp only; (try simp (discharger:=decide) only [eval_put_ne]); rfl
            exact Q0g (.tmp 3) _ rfl Tryz.Q5h Tryz.Q3p o1 (KB.out.ext (hdr.trans hx)) rfl (hK2 _ _ (Ext.refl _) rfl)
           case g1=>
            intro v w1 hx;(repeat intro (zq:v _=_));intro bb hbb;subst hbb;intro K2 hK2;go_simp;refine Q0d (Q7z w1 _ s (HSEA.out _ (H2.out.ext (hdr.trans hx))) HS.out) ?_;rintro e w2 ⟨u,rfl,hu,hx2⟩;exact ⟨_,rfl,hK2 _ _ hx2 hu⟩
           case g2=>
            intro v w1 hx;intro bb hbb;intro K2 hK2;have o1:bb.eval (.tmp 4)=.pointer (some ⟨gs + 1,0,none⟩):=by rw [hbb]; dsimp only; (try simp (discharger:=decide) only [eval_put_ne]); rfl
            exact Q0g (.tmp 4) _ rfl Tryz.Q6w Tryz.Q4t o1 (KQ.out.ext (hdr.trans hx)) rfl (hK2 _ _ (Ext.refl _) rfl)
           case g3=>
            intro v w1 hx _ (q2:v 2=_);intro bb hbb;subst hbb;intro K2 hK2;go_simp;refine Q0d (Y0h w1 _ p (HPOL.out _ (HR.out.ext (hdr.trans hx))) HP2.out HP8.out) ?_;rintro e w2 ⟨u,rfl,hu,hx2⟩;exact ⟨_,rfl,hK2 _ _ hx2 hu⟩
           case g4=>
            intro v w1 hx (q1:(fun v w'=>Q0f w' (v 1) s) v w1) (q3:(fun v w'=>Q0j w' (v 3) p) v w1);intro bb hbb;subst hbb;intro K2 hK2;go_simp;refine Q0d (FG.out w1 _ _ q1 q3) ?_;rintro e w2 ⟨rfl,hx2⟩;exact ⟨_,rfl,hK2 _ _ hx2 rfl⟩
           case g5 | g6 | g7=>
            intro v w1 hx;(repeat intro (zq:v _=_));intro bb hbb;subst hbb;refine ⟨_,fun w=>?_,rfl⟩;go_simp
           case g8=>
            intro v w1 hx (q0:v 0=_) _ (q2:v 2=_) _ (q4:v 4=_) (q5:v 5=_) (q6:v 6=_);intro bb hbb;subst hbb;refine ⟨_,fun w=>?_,rfl⟩;go_simp
           case g9=>
            intro v w1 hx (q0:v 0=_) _ (q2:v 2=_) _ (q4:v 4=_) (q5:v 5=_) (q6:v 6=_) (q7:v 7=_) (q8:v 8=_);intro bb hbb;subst hbb;refine ⟨_,fun w=>?_,rfl⟩;go_simp
           case post =>
            intro v w1 hx (q0:v 0=_) (q1:(fun v w'=>Q0f w' (v 1) s) v w1) (q2:v 2=_) (q3:(fun v w'=>Q0j w' (v 3) p) v w1) (q4:v 4=_) (q5:v 5=_) (q6:v 6=_) (q7:v 7=_) (q8:v 8=_) (q9:v 9=_);simp only [Flow.All,Flow.acts,Act.put];go_simp;have hxx:=hdr.trans hx;replace HXA:=hid (HXA.out.trans hxx);replace HWD:=hid (HWD.out.ext hxx);replace H2:=hid (H2.out.ext hxx);replace HR:=hid (HR.out.ext hxx);replace HL:=hid (HL.out.ext hxx);replace KB:=hid (KB.out.ext hxx);replace KQ:=hid (KQ.out.ext hxx);replace GK:=hid (GK.out.ext hxx);replace KC:=hid (KC.out.ext hxx);obtain ⟨w10,rfl⟩:∃ Z,Z=w1:=⟨_,rfl⟩;clear hx hdr hxx q0 q1 q2 q3 q4 q5 q6 q7 q8 q9;go_wp2_with fail;have hdr:=(Ext.refl w10).drew;refine Flow.Q1d [.w,.w,.w,.w,.w,.p,.p] [0,1,2,3,4,5,6] [[],[],[0,1],[],[2,3],[0,1,2,4],[0,1,2,3,4,5]]
             [.c 0 (.agg #[.int .i64 lim,.slice A T capa,.slice B M capb]),.c 1 (.agg #[.slice R NR capr]),.c 2 (.int .i64 E),.c 3 (.agg #[.int .i64 lim,.slice A T capa,.slice B M capb]),.c 4 (.int .i64 s.err),.c 5 (.int .i64 E),.c 6 (.int .i64 s.err)]
             (by kernel_rfl) rfl (by kernel_rfl) ⟨?g0,?g1,?g2,?g3,?g4,?g5,?g6,trivial⟩ ?post
            case g0 | g3=>
             intro v w1 hx;intro bb hbb;intro K2 hK2;have o1:bb.eval (.tmp 3)=.pointer (some ⟨gs,0,none⟩):=by rw [hbb]; dsimp only; (try simp (discharger:=decide) only [eval_put_ne]); rfl
             exact Q0g (.tmp 3) _ rfl Tryz.Q5h Tryz.Q3p o1 (KB.out.ext (hdr.trans hx)) rfl (hK2 _ _ (Ext.refl _) rfl)
            case g1=>
             intro v w1 hx;intro bb hbb;intro K2 hK2;have o1:bb.eval (.tmp 4)=.pointer (some ⟨gs + 1,0,none⟩):=by rw [hbb]; dsimp only; (try simp (discharger:=decide) only [eval_put_ne]); rfl
             exact Q0g (.tmp 4) _ rfl Tryz.Q6w Tryz.Q4t o1 (KQ.out.ext (hdr.trans hx)) rfl (hK2 _ _ (Ext.refl _) rfl)
            case g2=>
             intro v w1 hx;(repeat intro (zq:v _=_));intro bb hbb;subst hbb;intro K2 hK2;go_simp;refine Q0d (X7f w1 _ _ s p (HSEA.out _ (H2.out.ext (hdr.trans hx))) (HPOL.out _ (HR.out.ext (hdr.trans hx)))) ?_;rintro e w2 ⟨rfl,hx2⟩;exact ⟨_,rfl,hK2 _ _ hx2 (congrArg (Value.int .i64) HNV.out.e)⟩
            case g4=>
             intro v w1 hx;(repeat intro (zq:v _=_));intro bb hbb;subst hbb;intro K2 hK2;go_simp;refine Q0d (Q8s w1 _ s (HSEA.out _ (H2.out.ext (hdr.trans hx)))) ?_;rintro e w2 ⟨rfl,hx2⟩;exact ⟨_,rfl,hK2 _ _ hx2 rfl⟩
            case g5 | g6=>
             intro v w1 hx;(repeat intro (zq:v _=_));intro bb hbb;subst hbb;refine ⟨_,fun w=>?_,rfl⟩;go_simp
            case post =>
             intro v w1 hx (q0:v 0=_) (q1:v 1=_) (q2:v 2=_) (q3:v 3=_) (q4:v 4=_) (q5:v 5=_) (q6:v 6=_);simp only [Flow.All,Flow.acts,Act.put];go_simp;have hxx:=hdr.trans hx;replace HXA:=hid (HXA.out.trans hxx);replace HWD:=hid (HWD.out.ext hxx);replace H2:=hid (H2.out.ext hxx);replace HR:=hid (HR.out.ext hxx);replace HL:=hid (HL.out.ext hxx);replace KB:=hid (KB.out.ext hxx);replace KQ:=hid (KQ.out.ext hxx);replace GK:=hid (GK.out.ext hxx);replace KC:=hid (KC.out.ext hxx);obtain ⟨w11,rfl⟩:∃ Z,Z=w1:=⟨_,rfl⟩;clear hx hdr hxx q0 q1 q2 q3 q4 q5 q6;obtain ⟨se,hse⟩:∃ z,s.err=z:=⟨_,rfl⟩;have HSE:=hid hse;rw [hse];clear hse;have HWD0:=HWD;have GK0:=GK;have KC0:=KC;have HXA0:=HXA;have HXB:=hid (Ext.refl w11)
             by_cases hz:se=0
             . skip
               subst hz;have HVS0:=hid (Q0u.of HSE.out);have hpe:pe=Q3t s l:=by rw [<- HNV.out.pe]; unfold pwE; rw [if_neg (by simpa using HSE.out)]
               have HPE:=hid hpe;clear hpe;have hbx:=Ext.box w11 (.cells #[.int .i64 0,.int .i64 0] 107);have d0KB:=(KB.out.ext hbx).cell 0;have d1KB:=(KB.out.ext hbx).cell 1;have d2KB:=(KB.out.ext hbx).cell 2;simp only [Go.Tw.gA,Go.Tw.gB,Go.Tw.gC] at d0KB d1KB d2KB;go_wp2_with fail;change Calls _ _ _ (w11.alloc (.cells #[.int .i64 0,.int .i64 0] 107)) _;obtain ⟨W,hWW,k0,HXW,eW⟩:=Q1u w11 107 #[.int .i64 0,.int .i64 0];rw [hWW];clear hWW;refine (X6t _ _ _ s l (HSEA.out _ (H2.out.ext HXW.out)) (HL.out.ext HXW.out)).mono ?_;rintro e w12 ⟨rfl,hx⟩;have hxx:Ext w11 w12:=HXW.out.trans hx;replace HXA:=hid (HXA.out.trans hxx);replace HWD:=hid (HWD.out.ext hxx);replace H2:=hid (H2.out.ext hxx);replace HR:=hid (HR.out.ext hxx);replace HL:=hid (HL.out.ext hxx);replace KB:=hid (KB.out.ext hxx);replace KQ:=hid (KQ.out.ext hxx);replace GK:=hid (GK.out.ext hxx);replace KC:=hid (KC.out.ext hxx);replace HXB:=hid (HXB.out.ext hxx);have KX:=hid (k0.ext hx);clear hx hxx HXW eW k0 hbx d0KB d1KB d2KB;obtain ⟨gx,hgx⟩:∃ z,w11.heap.size=z:=⟨_,rfl⟩;have HGX:=hid hgx;rw [hgx] at KX ⊢;clear hgx;rw [<- HPE.out]
               by_cases hm:pe=0
               . skip
                 have hr:=Y2y (HPE.out.symm.trans hm);have HR1:=hid hr.1;have HR2:Hid (l.length <= 4096):=hid (by omega)
                 have hpn:Q1k s l=pn:=by rw [<- HNV.out.pn]; unfold pwN; rw [if_pos (HNV.out.pe.trans hm)]
                 have HPN:=hid hpn;subst hm;clear hr hpn;have d0KB:=KB.out.cell 0;have d1KB:=KB.out.cell 1;have d2KB:=KB.out.cell 2;simp only [Go.Tw.gA,Go.Tw.gB,Go.Tw.gC] at d0KB d1KB d2KB;go_wp2_with fail;refine (X1u _ _ _ s l (HSEA.out _ H2.out) HL.out HVS0.out HR1.out HR2.out).mono ?_;rintro e w13 ⟨rfl,hx⟩;have hxx:Ext w12 w13:=hx;replace HXA:=hid (HXA.out.trans hxx);replace HWD:=hid (HWD.out.ext hxx);replace H2:=hid (H2.out.ext hxx);replace HR:=hid (HR.out.ext hxx);replace HL:=hid (HL.out.ext hxx);replace KB:=hid (KB.out.ext hxx);replace KQ:=hid (KQ.out.ext hxx);replace GK:=hid (GK.out.ext hxx);replace KC:=hid (KC.out.ext hxx);replace HXB:=hid (HXB.out.ext hxx);replace KX:=hid (KX.out.ext hxx);clear hx hxx d0KB d1KB d2KB;rw [HPN.out]
                 by_cases hE0:E=0
                 . skip
                   subst hE0;obtain ⟨e1,e2,e3,e4,e5,e6,hvs,hpz⟩:=HNV.out.good;have HVS:=hid hvs;have HPZ:=hid hpz;have HK1:=hid e1;have HC1:=hid e2;have HC2:=hid e3;have HN1:=hid e4;have HD1:=hid e5;have HG1:=hid e6;clear e1 e2 e3 e4 e5 e6 hvs hpz;go_wp2_with fail;have hdr:=(Ext.refl w13).drew;refine Flow.Q4c [.w,.w,.w,.w,.w,.w,.w,.w,.w,.w,.w,.w,.w,.w,.w,.last,.last,.last,.last,.last] [0,1,2,3,4,5,6,7,8,9,10,11,12,13,14,15,16,17,18,19] [[],[],[0,1],[],[],[0,1,2,3,4],[],[],[0,1,2,3,4,5,6,7],[],[],[0,1,2,3,4,5,6,7,8,9,10],[],[],[0,1,2,3,4,5,6,7,8,9,10,11,12,13],[0,1,2,3,4,5,6,7,8,9,10,11,12,13,14],[0,1,2,3,4,5,6,7,8,9,10,11,12,13,14,15],[0,1,2,3,4,5,6,7,8,9,10,11,12,13,14,15,16],[0,1,2,3,4,5,6,7,8,9,10,11,12,13,14,15,16,17],[0,1,2,3,4,5,6,7,8,9,10,11,12,13,14,15,16,17,18]] [15,16,17,18,19]
                    [.c 0 (.agg #[.int .i64 lim,.slice A T capa,.slice B M capb]),.c 1 (.agg #[.slice R NR capr]),⟨fun v wz=>(fun v w'=>Q0m w' 0 3 (.int .i64) (v 2) KR) v wz,by intro v a b hx h; exact Q0m.below h hx⟩,.c 3 (.agg #[.int .i64 lim,.slice A T capa,.slice B M capb]),.c 4 (.agg #[.slice R NR capr]),.c 5 (.agg #[.int .i64 c1,.int .i64 c2]),.c 6 (.agg #[.int .i64 lim,.slice A T capa,.slice B M capb]),.c 7 (.agg #[.slice R NR capr]),.c 8 (.int .i64 cl),.c 9 (.agg #[.int .i64 lim,.slice A T capa,.slice B M capb]),.c 10 (.agg #[.slice R NR capr]),.c 11 (.int .i64 dl),.c 12 (.agg #[.int .i64 lim,.slice A T capa,.slice B M capb]),.c 13 (.agg #[.slice R NR capr]),.c 14 (.int .i64 rg),.none,.none,.none,.none,.none]
                    [fun v w1 w'=>v 15=v 2 /\ w'=w1 /\ Q0m w' 0 3 (.int .i64) (v 2) KR /\ Ext w13 w',fun v w1 w'=>v 15=v 2 /\ Q0m w' 0 3 (.int .i64) (v 2) KR /\ Blk w' gx 107 #[.int .i64 c1,.int .i64 c2] /\ Below gx w13 w',fun v w1 w'=>v 17=.int .i64 cl /\ v 15=v 2 /\ Q0m w' 0 3 (.int .i64) (v 2) KR /\ Blk w' gx 107 #[.int .i64 c1,.int .i64 c2] /\ Below gx w13 w',fun v w1 w'=>v 18=.int .i64 dl /\ v 17=.int .i64 cl /\ v 15=v 2 /\ Q0m w' 0 3 (.int .i64) (v 2) KR /\ Blk w' gx 107 #[.int .i64 c1,.int .i64 c2] /\ Below gx w13 w',fun v w1 w'=>v 19=.int .i64 rg /\ v 18=.int .i64 dl /\ v 17=.int .i64 cl /\ v 15=v 2 /\ Q0m w' 0 3 (.int .i64) (v 2) KR /\ Blk w' gx 107 #[.int .i64 c1,.int .i64 c2] /\ Below gx w13 w'] (by kernel_rfl) rfl (by kernel_rfl) ⟨?g0,?g1,?g2,?g3,?g4,?g5,?g6,?g7,?g8,?g9,?g10,?g11,?g12,?g13,?g14,?g15,?g16,?g17,?g18,?g19,trivial⟩ ?post
                   case g0 | g3 | g6 | g9 | g12=>
                    intro v w1 hx;intro bb hbb;intro K2 hK2;have o1:bb.eval (.tmp 3)=.pointer (some ⟨gs,0,none⟩):=by rw [hbb]; dsimp only; (try simp (discharger:=decide) only [eval_put_ne]); rfl
                    exact Q0g (.tmp 3) _ rfl Tryz.Q5h Tryz.Q3p o1 (KB.out.ext (hdr.trans hx)) rfl (hK2 _ _ (Ext.refl _) rfl)
                   case g1 | g4 | g7 | g10 | g13=>
                    intro v w1 hx;intro bb hbb;intro K2 hK2;have o1:bb.eval (.tmp 4)=.pointer (some ⟨gs + 1,0,none⟩):=by rw [hbb]; dsimp only; (try simp (discharger:=decide) only [eval_put_ne]); rfl
                    exact Q0g (.tmp 4) _ rfl Tryz.Q6w Tryz.Q4t o1 (KQ.out.ext (hdr.trans hx)) rfl (hK2 _ _ (Ext.refl _) rfl)
                   case g2=>
                    intro v w1 hx;(repeat intro (zq:v _=_));intro bb hbb;subst hbb;intro K2 hK2;go_simp;refine Q0d (Y2j w1 _ _ s p (HSEA.out _ (H2.out.ext (hdr.trans hx))) (HPOL.out _ (HR.out.ext (hdr.trans hx))) HVS.out HPZ.out) ?_;rintro e w2 ⟨u,rfl,hu,hx2⟩;rw [HK1.out] at hu;exact ⟨_,rfl,hK2 _ _ hx2 (hu.weaken (Nat.zero_le _))⟩
                   case g5=>
                    intro v w1 hx (q0:v 0=_) (q1:v 1=_) _ (q3:v 3=_) (q4:v 4=_);intro bb hbb;subst hbb;intro K2 hK2;go_simp;refine Q0d (X8u w1 _ _ s p (HSEA.out _ (H2.out.ext (hdr.trans hx))) (HPOL.out _ (HR.out.ext (hdr.trans hx))) HVS.out HPZ.out) ?_;rintro e w2 ⟨rfl,hx2⟩;rw [HC1.out,HC2.out];exact ⟨_,rfl,hK2 _ _ hx2 rfl⟩
                   case g8=>
                    intro v w1 hx (q0:v 0=_) (q1:v 1=_) _ (q3:v 3=_) (q4:v 4=_) (q5:v 5=_) (q6:v 6=_) (q7:v 7=_);intro bb hbb;subst hbb;intro K2 hK2;go_simp;refine Q0d (X3j w1 _ _ s p (HSEA.out _ (H2.out.ext (hdr.trans hx))) (HPOL.out _ (HR.out.ext (hdr.trans hx))) HVS.out HPZ.out) ?_;rintro e w2 ⟨rfl,hx2⟩;exact ⟨_,rfl,hK2 _ _ hx2 (congrArg (Value.int .i64) HN1.out)⟩
                   case g11=>
                    intro v w1 hx (q0:v 0=_) (q1:v 1=_) _ (q3:v 3=_) (q4:v 4=_) (q5:v 5=_) (q6:v 6=_) (q7:v 7=_) (q8:v 8=_) (q9:v 9=_) (q10:v 10=_);intro bb hbb;subst hbb;intro K2 hK2;go_simp;refine Q0d (Y2m w1 _ _ s p (HSEA.out _ (H2.out.ext (hdr.trans hx))) (HPOL.out _ (HR.out.ext (hdr.trans hx))) HVS.out HPZ.out) ?_;rintro e w2 ⟨rfl,hx2⟩;exact ⟨_,rfl,hK2 _ _ hx2 (congrArg (Value.int .i64) HD1.out)⟩
                   case g14=>
                    intro v w1 hx (q0:v 0=_) (q1:v 1=_) _ (q3:v 3=_) (q4:v 4=_) (q5:v 5=_) (q6:v 6=_) (q7:v 7=_) (q8:v 8=_) (q9:v 9=_) (q10:v 10=_) (q11:v 11=_) (q12:v 12=_) (q13:v 13=_);intro bb hbb;subst hbb;intro K2 hK2;go_simp;refine Q0d (X9y w1 _ _ s p (HSEA.out _ (H2.out.ext (hdr.trans hx))) (HPOL.out _ (HR.out.ext (hdr.trans hx))) HVS.out HPZ.out) ?_;rintro e w2 ⟨rfl,hx2⟩;exact ⟨_,rfl,hK2 _ _ hx2 (congrArg (Value.int .i64) HG1.out)⟩
                   case g15=>
                    intro v w1 hx (q0:v 0=_) (q1:v 1=_) (q2:(fun v w'=>Q0m w' 0 3 (.int .i64) (v 2) KR) v w1) (q3:v 3=_) (q4:v 4=_) (q5:v 5=_) (q6:v 6=_) (q7:v 7=_) (q8:v 8=_) (q9:v 9=_) (q10:v 10=_) (q11:v 11=_) (q12:v 12=_) (q13:v 13=_) (q14:v 14=_);intro wl hT;obtain rfl:wl=w1:=hT;intro bb hbb;intro K hK;have o1:bb.eval (.tmp 108)=v 2:=by rw [hbb]; dsimp only; (try simp (discharger:=decide) only [eval_put_ne]); rw [Q0a (by simp only [size_put]; exact (by decide:108 < 182))]
                    go_simp;exact hK _ _ ⟨by first | rfl | exact o1,rfl,q2,hdr.trans hx⟩
                   case g16=>
                    intro v w1 hx (q0:v 0=_) (q1:v 1=_) _ (q3:v 3=_) (q4:v 4=_) (q5:v 5=_) (q6:v 6=_) (q7:v 7=_) (q8:v 8=_) (q9:v 9=_) (q10:v 10=_) (q11:v 11=_) (q12:v 12=_) (q13:v 13=_) (q14:v 14=_);intro wl hT;replace hT:(fun v w1 w'=>v 15=v 2 /\ w'=w1 /\ Q0m w' 0 3 (.int .i64) (v 2) KR /\ Ext w13 w') v w1 wl:=hT;intro bb hbb;intro K hK;obtain ⟨hT0,rfl,hT1,hT2⟩:=hT;have o1:bb.eval (.tmp 22)=.pointer (some ⟨gx,0,none⟩):=by rw [hbb]; dsimp only; (try simp (discharger:=decide) only [eval_put_ne]); rfl
                    have o2:bb.eval (.tmp 111)=.agg #[.int .i64 c1,.int .i64 c2]:=by rw [hbb]; dsimp only; (try simp (discharger:=decide) only [eval_put_ne]); rw [Q0a (by simp only [size_put]; exact (by decide:111 < 182))]; exact q5
                    exact Q1m (.tmp 22) (.tmp 111) _ rfl Tryz.Q8d o1 o2 (KX.out.ext hT2) rfl rfl (by intro u hu; simp only [List.mem_cons,List.not_mem_nil,or_false] at hu; rcases hu with rfl | rfl <;> rfl) (fun vv w' hb hl ho=>hK _ _ ⟨hT0,Q5m hT1 (KX.out.ext hT2) (by decide) ho,hb,Below.trans (hT2.mono (by have:=KX.out.lt; omega)) (hl gx (Nat.le_refl _))⟩)
                   case g17=>
                    intro v w1 hx (q0:v 0=_) (q1:v 1=_) _ (q3:v 3=_) (q4:v 4=_) (q5:v 5=_) (q6:v 6=_) (q7:v 7=_) (q8:v 8=_) (q9:v 9=_) (q10:v 10=_) (q11:v 11=_) (q12:v 12=_) (q13:v 13=_) (q14:v 14=_);intro wl hT;replace hT:(fun v w1 w'=>v 15=v 2 /\ Q0m w' 0 3 (.int .i64) (v 2) KR /\ Blk w' gx 107 #[.int .i64 c1,.int .i64 c2] /\ Below gx w13 w') v w1 wl:=hT;intro bb hbb;subst hbb;intro K hK;go_simp;exact hK _ _ ⟨rfl,hT⟩
                   case g18=>
                    intro v w1 hx (q0:v 0=_) (q1:v 1=_) _ (q3:v 3=_) (q4:v 4=_) (q5:v 5=_) (q6:v 6=_) (q7:v 7=_) (q8:v 8=_) (q9:v 9=_) (q10:v 10=_) (q11:v 11=_) (q12:v 12=_) (q13:v 13=_) (q14:v 14=_);intro wl hT;replace hT:(fun v w1 w'=>v 17=.int .i64 cl /\ v 15=v 2 /\ Q0m w' 0 3 (.int .i64) (v 2) KR /\ Blk w' gx 107 #[.int .i64 c1,.int .i64 c2] /\ Below gx w13 w') v w1 wl:=hT;intro bb hbb;subst hbb;intro K hK;go_simp;exact hK _ _ ⟨rfl,hT⟩
                   case g19=>
                    intro v w1 hx (q0:v 0=_) (q1:v 1=_) _ (q3:v 3=_) (q4:v 4=_) (q5:v 5=_) (q6:v 6=_) (q7:v 7=_) (q8:v 8=_) (q9:v 9=_) (q10:v 10=_) (q11:v 11=_) (q12:v 12=_) (q13:v 13=_) (q14:v 14=_);intro wl hT;replace hT:(fun v w1 w'=>v 18=.int .i64 dl /\ v 17=.int .i64 cl /\ v 15=v 2 /\ Q0m w' 0 3 (.int .i64) (v 2) KR /\ Blk w' gx 107 #[.int .i64 c1,.int .i64 c2] /\ Below gx w13 w') v w1 wl:=hT;intro bb hbb;subst hbb;intro K hK;go_simp;exact hK _ _ ⟨rfl,hT⟩
                   case post =>
                    intro v w1 hx;(iterate 2 intro (zq:v _=_));intro (q2:(fun v w'=>Q0m w' 0 3 (.int .i64) (v 2) KR) v w1);(iterate 12 intro (zq:v _=_));intro w2 hE;replace hE:(fun v w1 w'=>v 19=.int .i64 rg /\ v 18=.int .i64 dl /\ v 17=.int .i64 cl /\ v 15=v 2 /\ Q0m w' 0 3 (.int .i64) (v 2) KR /\ Blk w' gx 107 #[.int .i64 c1,.int .i64 c2] /\ Below gx w13 w') v w1 w2:=hE;simp only [Flow.acts,Act.put];go_simp;obtain ⟨h19,h18,h17,h15,hok,hbc,hbl⟩:=hE
                    try rw [h19]
                    try rw [h18]
                    try rw [h17]
                    try rw [h15]
                    obtain ⟨Xr,cr,exr,-⟩:=hok.shape;rw [exr] at hok ⊢;have hkl:=kept_len s p;rw [HK1.out] at hkl;have hoi:=hok.ints (by have:=HVS.out.some.2; omega)
                    have hx0:Ext w11 w2:=Below.trans HXB.out (hbl.mono (by rw [<- HGX.out]; exact Nat.le_refl _))
                    replace HXA:=hid (HXA0.out.trans hx0);replace HWD:=hid (HWD0.out.ext hx0);replace GK:=hid (GK0.out.ext hx0);replace KC:=hid (KC0.out.ext hx0);replace KX:=hid hbc;have FR:=hid hoi;obtain ⟨w14,rfl⟩:∃ Z,Z=w2:=⟨_,rfl⟩;clear hx hdr hok hbc hbl hoi hx0 exr hkl h15 h17 h18 h19 q2;(repeat clear zq);go_wp2_with fail;refine (Q7m _ _ _ KR GK.out FR.out).mono ?_;rintro e w15 ⟨rfl,hx⟩;have hxx:Ext w14 w15:=hx;replace HXA:=hid (HXA.out.trans hxx);replace HWD:=hid (HWD.out.ext hxx);replace GK:=hid (GK.out.ext hxx);replace KC:=hid (KC.out.ext hxx);replace KX:=hid (KX.out.ext hxx);replace FR:=hid (FR.out.ext hxx);clear hx hxx;have a0:=KC.out.cell 0;have a1:=KC.out.cell 1;have b0:=KX.out.cell 0;have b1:=KX.out.cell 1;simp only [Go.Tw.gA,Go.Tw.gB,Go.Tw.gC] at a0 a1 b0 b1;go_wp2_with fail;refine (Q5v _ HWD.out).mono ?_;rintro e w16 ⟨rfl,hx⟩;have hxx:Ext w15 w16:=hx;replace HXA:=hid (HXA.out.trans hxx);replace HWD:=hid (HWD.out.ext hxx);replace GK:=hid (GK.out.ext hxx);replace KC:=hid (KC.out.ext hxx);replace KX:=hid (KX.out.ext hxx);replace FR:=hid (FR.out.ext hxx);clear hx hxx;go_wp2;go_ret;exact ⟨rfl,HXA.out⟩
                 . skip
                   obtain ⟨e1,e2,e3,e4,e5,e6⟩:=HNV.out.bad hE0;subst e2 e3 e4 e5 e6;have HKR:=hid e1;have hEE:(E == 0)=false:=by simp [hE0]
                   clear e1;have NIL:Hid (Q0e w13 (.slice none 0 0) KR):=hid (by rw [HKR.out]; exact Go.Tw.Rows.nil _ _ _)
                   clear hE0;go_wp2_with fail;refine (Q7m _ _ _ KR GK.out NIL.out).mono ?_;rintro e w14 ⟨rfl,hx⟩;have hxx:Ext w13 w14:=hx;replace HXA:=hid (HXA.out.trans hxx);replace HWD:=hid (HWD.out.ext hxx);replace H2:=hid (H2.out.ext hxx);replace HR:=hid (HR.out.ext hxx);replace HL:=hid (HL.out.ext hxx);replace KB:=hid (KB.out.ext hxx);replace KQ:=hid (KQ.out.ext hxx);replace GK:=hid (GK.out.ext hxx);replace KC:=hid (KC.out.ext hxx);replace HXB:=hid (HXB.out.ext hxx);replace KX:=hid (KX.out.ext hxx);replace NIL:=hid (NIL.out.ext hxx);clear hx hxx;have a0:=KC.out.cell 0;have a1:=KC.out.cell 1;have b0:=KX.out.cell 0;have b1:=KX.out.cell 1;simp only [Go.Tw.gA,Go.Tw.gB,Go.Tw.gC] at a0 a1 b0 b1;go_wp2_with fail;refine (Q5v _ HWD.out).mono ?_;rintro e w15 ⟨rfl,hx⟩;have hxx:Ext w14 w15:=hx;replace HXA:=hid (HXA.out.trans hxx);replace HWD:=hid (HWD.out.ext hxx);replace H2:=hid (H2.out.ext hxx);replace HR:=hid (HR.out.ext hxx);replace HL:=hid (HL.out.ext hxx);replace KB:=hid (KB.out.ext hxx);replace KQ:=hid (KQ.out.ext hxx);replace GK:=hid (GK.out.ext hxx);replace KC:=hid (KC.out.ext hxx);replace HXB:=hid (HXB.out.ext hxx);replace KX:=hid (KX.out.ext hxx);replace NIL:=hid (NIL.out.ext hxx);clear hx hxx;go_wp2;go_ret;exact ⟨rfl,HXA.out⟩
               . skip
                 have hpn:pn=0:=by rw [<- HNV.out.pn]; unfold pwN; rw [if_neg (by rw [HNV.out.pe]; exact hm)]
                 subst hpn;have hmm:(pe == 0)=false:=by simp [hm]
                 by_cases hE0:E=0
                 . skip
                   subst hE0;obtain ⟨e1,e2,e3,e4,e5,e6,hvs,hpz⟩:=HNV.out.good;have HVS:=hid hvs;have HPZ:=hid hpz;have HK1:=hid e1;have HC1:=hid e2;have HC2:=hid e3;have HN1:=hid e4;have HD1:=hid e5;have HG1:=hid e6;clear e1 e2 e3 e4 e5 e6 hvs hpz;go_wp2_with fail;have hdr:=(Ext.refl w12).drew;refine Flow.Q4c [.w,.w,.w,.w,.w,.w,.w,.w,.w,.w,.w,.w,.w,.w,.w,.last,.last,.last,.last,.last] [0,1,2,3,4,5,6,7,8,9,10,11,12,13,14,15,16,17,18,19] [[],[],[0,1],[],[],[0,1,2,3,4],[],[],[0,1,2,3,4,5,6,7],[],[],[0,1,2,3,4,5,6,7,8,9,10],[],[],[0,1,2,3,4,5,6,7,8,9,10,11,12,13],[0,1,2,3,4,5,6,7,8,9,10,11,12,13,14],[0,1,2,3,4,5,6,7,8,9,10,11,12,13,14,15],[0,1,2,3,4,5,6,7,8,9,10,11,12,13,14,15,16],[0,1,2,3,4,5,6,7,8,9,10,11,12,13,14,15,16,17],[0,1,2,3,4,5,6,7,8,9,10,11,12,13,14,15,16,17,18]] [15,16,17,18,19]
                    [.c 0 (.agg #[.int .i64 lim,.slice A T capa,.slice B M capb]),.c 1 (.agg #[.slice R NR capr]),⟨fun v wz=>(fun v w'=>Q0m w' 0 3 (.int .i64) (v 2) KR) v wz,by intro v a b hx h; exact Q0m.below h hx⟩,.c 3 (.agg #[.int .i64 lim,.slice A T capa,.slice B M capb]),.c 4 (.agg #[.slice R NR capr]),.c 5 (.agg #[.int .i64 c1,.int .i64 c2]),.c 6 (.agg #[.int .i64 lim,.slice A T capa,.slice B M capb]),.c 7 (.agg #[.slice R NR capr]),.c 8 (.int .i64 cl),.c 9 (.agg #[.int .i64 lim,.slice A T capa,.slice B M capb]),.c 10 (.agg #[.slice R NR capr]),.c 11 (.int .i64 dl),.c 12 (.agg #[.int .i64 lim,.slice A T capa,.slice B M capb]),.c 13 (.agg #[.slice R NR capr]),.c 14 (.int .i64 rg),.none,.none,.none,.none,.none]
                    [fun v w1 w'=>v 15=v 2 /\ w'=w1 /\ Q0m w' 0 3 (.int .i64) (v 2) KR /\ Ext w12 w',fun v w1 w'=>v 15=v 2 /\ Q0m w' 0 3 (.int .i64) (v 2) KR /\ Blk w' gx 107 #[.int .i64 c1,.int .i64 c2] /\ Below gx w12 w',fun v w1 w'=>v 17=.int .i64 cl /\ v 15=v 2 /\ Q0m w' 0 3 (.int .i64) (v 2) KR /\ Blk w' gx 107 #[.int .i64 c1,.int .i64 c2] /\ Below gx w12 w',fun v w1 w'=>v 18=.int .i64 dl /\ v 17=.int .i64 cl /\ v 15=v 2 /\ Q0m w' 0 3 (.int .i64) (v 2) KR /\ Blk w' gx 107 #[.int .i64 c1,.int .i64 c2] /\ Below gx w12 w',fun v w1 w'=>v 19=.int .i64 rg /\ v 18=.int .i64 dl /\ v 17=.int .i64 cl /\ v 15=v 2 /\ Q0m w' 0 3 (.int .i64) (v 2) KR /\ Blk w' gx 107 #[.int .i64 c1,.int .i64 c2] /\ Below gx w12 w'] (by kernel_rfl) rfl (by kernel_rfl) ⟨?g0,?g1,?g2,?g3,?g4,?g5,?g6,?g7,?g8,?g9,?g10,?g11,?g12,?g13,?g14,?g15,?g16,?g17,?g18,?g19,trivial⟩ ?post
                   case g0 | g3 | g6 | g9 | g12=>
                    intro v w1 hx;intro bb hbb;intro K2 hK2;have o1:bb.eval (.tmp 3)=.pointer (some ⟨gs,0,none⟩):=by rw [hbb]; dsimp only; (try simp (discharger:=decide) only [eval_put_ne]); rfl
                    exact Q0g (.tmp 3) _ rfl Tryz.Q5h Tryz.Q3p o1 (KB.out.ext (hdr.trans hx)) rfl (hK2 _ _ (Ext.refl _) rfl)
                   case g1 | g4 | g7 | g10 | g13=>
                    intro v w1 hx;intro bb hbb;intro K2 hK2;have o1:bb.eval (.tmp 4)=.pointer (some ⟨gs + 1,0,none⟩):=by rw [hbb]; dsimp only; (try simp (discharger:=decide) only [eval_put_ne]); rfl
                    exact Q0g (.tmp 4) _ rfl Tryz.Q6w Tryz.Q4t o1 (KQ.out.ext (hdr.trans hx)) rfl (hK2 _ _ (Ext.refl _) rfl)
                   case g2=>
                    intro v w1 hx;(repeat intro (zq:v _=_));intro bb hbb;subst hbb;intro K2 hK2;go_simp;refine Q0d (Y2j w1 _ _ s p (HSEA.out _ (H2.out.ext (hdr.trans hx))) (HPOL.out _ (HR.out.ext (hdr.trans hx))) HVS.out HPZ.out) ?_;rintro e w2 ⟨u,rfl,hu,hx2⟩;rw [HK1.out] at hu;exact ⟨_,rfl,hK2 _ _ hx2 (hu.weaken (Nat.zero_le _))⟩
                   case g5=>
                    intro v w1 hx (q0:v 0=_) (q1:v 1=_) _ (q3:v 3=_) (q4:v 4=_);intro bb hbb;subst hbb;intro K2 hK2;go_simp;refine Q0d (X8u w1 _ _ s p (HSEA.out _ (H2.out.ext (hdr.trans hx))) (HPOL.out _ (HR.out.ext (hdr.trans hx))) HVS.out HPZ.out) ?_;rintro e w2 ⟨rfl,hx2⟩;rw [HC1.out,HC2.out];exact ⟨_,rfl,hK2 _ _ hx2 rfl⟩
                   case g8=>
                    intro v w1 hx (q0:v 0=_) (q1:v 1=_) _ (q3:v 3=_) (q4:v 4=_) (q5:v 5=_) (q6:v 6=_) (q7:v 7=_);intro bb hbb;subst hbb;intro K2 hK2;go_simp;refine Q0d (X3j w1 _ _ s p (HSEA.out _ (H2.out.ext (hdr.trans hx))) (HPOL.out _ (HR.out.ext (hdr.trans hx))) HVS.out HPZ.out) ?_;rintro e w2 ⟨rfl,hx2⟩;exact ⟨_,rfl,hK2 _ _ hx2 (congrArg (Value.int .i64) HN1.out)⟩
                   case g11=>
                    intro v w1 hx (q0:v 0=_) (q1:v 1=_) _ (q3:v 3=_) (q4:v 4=_) (q5:v 5=_) (q6:v 6=_) (q7:v 7=_) (q8:v 8=_) (q9:v 9=_) (q10:v 10=_);intro bb hbb;subst hbb;intro K2 hK2;go_simp;refine Q0d (Y2m w1 _ _ s p (HSEA.out _ (H2.out.ext (hdr.trans hx))) (HPOL.out _ (HR.out.ext (hdr.trans hx))) HVS.out HPZ.out) ?_;rintro e w2 ⟨rfl,hx2⟩;exact ⟨_,rfl,hK2 _ _ hx2 (congrArg (Value.int .i64) HD1.out)⟩
                   case g14=>
                    intro v w1 hx (q0:v 0=_) (q1:v 1=_) _ (q3:v 3=_) (q4:v 4=_) (q5:v 5=_) (q6:v 6=_) (q7:v 7=_) (q8:v 8=_) (q9:v 9=_) (q10:v 10=_) (q11:v 11=_) (q12:v 12=_) (q13:v 13=_);intro bb hbb;subst hbb;intro K2 hK2;go_simp;refine Q0d (X9y w1 _ _ s p (HSEA.out _ (H2.out.ext (hdr.trans hx))) (HPOL.out _ (HR.out.ext (hdr.trans hx))) HVS.out HPZ.out) ?_;rintro e w2 ⟨rfl,hx2⟩;exact ⟨_,rfl,hK2 _ _ hx2 (congrArg (Value.int .i64) HG1.out)⟩
                   case g15=>
                    intro v w1 hx (q0:v 0=_) (q1:v 1=_) (q2:(fun v w'=>Q0m w' 0 3 (.int .i64) (v 2) KR) v w1) (q3:v 3=_) (q4:v 4=_) (q5:v 5=_) (q6:v 6=_) (q7:v 7=_) (q8:v 8=_) (q9:v 9=_) (q10:v 10=_) (q11:v 11=_) (q12:v 12=_) (q13:v 13=_) (q14:v 14=_);intro wl hT;obtain rfl:wl=w1:=hT;intro bb hbb;intro K hK;have o1:bb.eval (.tmp 108)=v 2:=by rw [hbb]; dsimp only; (try simp (discharger:=decide) only [eval_put_ne]); rw [Q0a (by simp only [size_put]; exact (by decide:108 < 182))]
                    go_simp;exact hK _ _ ⟨by first | rfl | exact o1,rfl,q2,hdr.trans hx⟩
                   case g16=>
                    intro v w1 hx (q0:v 0=_) (q1:v 1=_) _ (q3:v 3=_) (q4:v 4=_) (q5:v 5=_) (q6:v 6=_) (q7:v 7=_) (q8:v 8=_) (q9:v 9=_) (q10:v 10=_) (q11:v 11=_) (q12:v 12=_) (q13:v 13=_) (q14:v 14=_);intro wl hT;replace hT:(fun v w1 w'=>v 15=v 2 /\ w'=w1 /\ Q0m w' 0 3 (.int .i64) (v 2) KR /\ Ext w12 w') v w1 wl:=hT;intro bb hbb;intro K hK;obtain ⟨hT0,rfl,hT1,hT2⟩:=hT;have o1:bb.eval (.tmp 22)=.pointer (some ⟨gx,0,none⟩):=by rw [hbb]; dsimp only; (try simp (discharger:=decide) only [eval_put_ne]); rfl
                    have o2:bb.eval (.tmp 111)=.agg #[.int .i64 c1,.int .i64 c2]:=by rw [hbb]; dsimp only; (try simp (discharger:=decide) only [eval_put_ne]); rw [Q0a (by simp only [size_put]; exact (by decide:111 < 182))]; exact q5
                    exact Q1m (.tmp 22) (.tmp 111) _ rfl Tryz.Q8d o1 o2 (KX.out.ext hT2) rfl rfl (by intro u hu; simp only [List.mem_cons,List.not_mem_nil,or_false] at hu; rcases hu with rfl | rfl <;> rfl) (fun vv w' hb hl ho=>hK _ _ ⟨hT0,Q5m hT1 (KX.out.ext hT2) (by decide) ho,hb,Below.trans (hT2.mono (by have:=KX.out.lt; omega)) (hl gx (Nat.le_refl _))⟩)
                   case g17=>
                    intro v w1 hx (q0:v 0=_) (q1:v 1=_) _ (q3:v 3=_) (q4:v 4=_) (q5:v 5=_) (q6:v 6=_) (q7:v 7=_) (q8:v 8=_) (q9:v 9=_) (q10:v 10=_) (q11:v 11=_) (q12:v 12=_) (q13:v 13=_) (q14:v 14=_);intro wl hT;replace hT:(fun v w1 w'=>v 15=v 2 /\ Q0m w' 0 3 (.int .i64) (v 2) KR /\ Blk w' gx 107 #[.int .i64 c1,.int .i64 c2] /\ Below gx w12 w') v w1 wl:=hT;intro bb hbb;subst hbb;intro K hK;go_simp;exact hK _ _ ⟨rfl,hT⟩
                   case g18=>
                    intro v w1 hx (q0:v 0=_) (q1:v 1=_) _ (q3:v 3=_) (q4:v 4=_) (q5:v 5=_) (q6:v 6=_) (q7:v 7=_) (q8:v 8=_) (q9:v 9=_) (q10:v 10=_) (q11:v 11=_) (q12:v 12=_) (q13:v 13=_) (q14:v 14=_);intro wl hT;replace hT:(fun v w1 w'=>v 17=.int .i64 cl /\ v 15=v 2 /\ Q0m w' 0 3 (.int .i64) (v 2) KR /\ Blk w' gx 107 #[.int .i64 c1,.int .i64 c2] /\ Below gx w12 w') v w1 wl:=hT;intro bb hbb;subst hbb;intro K hK;go_simp;exact hK _ _ ⟨rfl,hT⟩
                   case g19=>
                    intro v w1 hx (q0:v 0=_) (q1:v 1=_) _ (q3:v 3=_) (q4:v 4=_) (q5:v 5=_) (q6:v 6=_) (q7:v 7=_) (q8:v 8=_) (q9:v 9=_) (q10:v 10=_) (q11:v 11=_) (q12:v 12=_) (q13:v 13=_) (q14:v 14=_);intro wl hT;replace hT:(fun v w1 w'=>v 18=.int .i64 dl /\ v 17=.int .i64 cl /\ v 15=v 2 /\ Q0m w' 0 3 (.int .i64) (v 2) KR /\ Blk w' gx 107 #[.int .i64 c1,.int .i64 c2] /\ Below gx w12 w') v w1 wl:=hT;intro bb hbb;subst hbb;intro K hK;go_simp;exact hK _ _ ⟨rfl,hT⟩
                   case post =>
                    intro v w1 hx;(iterate 2 intro (zq:v _=_));intro (q2:(fun v w'=>Q0m w' 0 3 (.int .i64) (v 2) KR) v w1);(iterate 12 intro (zq:v _=_));intro w2 hE;replace hE:(fun v w1 w'=>v 19=.int .i64 rg /\ v 18=.int .i64 dl /\ v 17=.int .i64 cl /\ v 15=v 2 /\ Q0m w' 0 3 (.int .i64) (v 2) KR /\ Blk w' gx 107 #[.int .i64 c1,.int .i64 c2] /\ Below gx w12 w') v w1 w2:=hE;simp only [Flow.acts,Act.put];go_simp;obtain ⟨h19,h18,h17,h15,hok,hbc,hbl⟩:=hE
                    try rw [h19]
                    try rw [h18]
                    try rw [h17]
                    try rw [h15]
                    obtain ⟨Xr,cr,exr,-⟩:=hok.shape;rw [exr] at hok ⊢;have hkl:=kept_len s p;rw [HK1.out] at hkl;have hoi:=hok.ints (by have:=HVS.out.some.2; omega)
                    have hx0:Ext w11 w2:=Below.trans HXB.out (hbl.mono (by rw [<- HGX.out]; exact Nat.le_refl _))
                    replace HXA:=hid (HXA0.out.trans hx0);replace HWD:=hid (HWD0.out.ext hx0);replace GK:=hid (GK0.out.ext hx0);replace KC:=hid (KC0.out.ext hx0);replace KX:=hid hbc;have FR:=hid hoi;obtain ⟨w13,rfl⟩:∃ Z,Z=w2:=⟨_,rfl⟩;clear hx hdr hok hbc hbl hoi hx0 exr hkl h15 h17 h18 h19 q2;(repeat clear zq);go_wp2_with fail;refine (Q7m _ _ _ KR GK.out FR.out).mono ?_;rintro e w14 ⟨rfl,hx⟩;have hxx:Ext w13 w14:=hx;replace HXA:=hid (HXA.out.trans hxx);replace HWD:=hid (HWD.out.ext hxx);replace GK:=hid (GK.out.ext hxx);replace KC:=hid (KC.out.ext hxx);replace KX:=hid (KX.out.ext hxx);replace FR:=hid (FR.out.ext hxx);clear hx hxx;have a0:=KC.out.cell 0;have a1:=KC.out.cell 1;have b0:=KX.out.cell 0;have b1:=KX.out.cell 1;simp only [Go.Tw.gA,Go.Tw.gB,Go.Tw.gC] at a0 a1 b0 b1;go_wp2_with fail;refine (Q5v _ HWD.out).mono ?_;rintro e w15 ⟨rfl,hx⟩;have hxx:Ext w14 w15:=hx;replace HXA:=hid (HXA.out.trans hxx);replace HWD:=hid (HWD.out.ext hxx);replace GK:=hid (GK.out.ext hxx);replace KC:=hid (KC.out.ext hxx);replace KX:=hid (KX.out.ext hxx);replace FR:=hid (FR.out.ext hxx);clear hx hxx;go_wp2;go_ret;exact ⟨rfl,HXA.out⟩
                 . skip
                   obtain ⟨e1,e2,e3,e4,e5,e6⟩:=HNV.out.bad hE0;subst e2 e3 e4 e5 e6;have HKR:=hid e1;have hEE:(E == 0)=false:=by simp [hE0]
                   clear e1;have NIL:Hid (Q0e w12 (.slice none 0 0) KR):=hid (by rw [HKR.out]; exact Go.Tw.Rows.nil _ _ _)
                   clear hE0;go_wp2_with fail;refine (Q7m _ _ _ KR GK.out NIL.out).mono ?_;rintro e w13 ⟨rfl,hx⟩;have hxx:Ext w12 w13:=hx;replace HXA:=hid (HXA.out.trans hxx);replace HWD:=hid (HWD.out.ext hxx);replace H2:=hid (H2.out.ext hxx);replace HR:=hid (HR.out.ext hxx);replace HL:=hid (HL.out.ext hxx);replace KB:=hid (KB.out.ext hxx);replace KQ:=hid (KQ.out.ext hxx);replace GK:=hid (GK.out.ext hxx);replace KC:=hid (KC.out.ext hxx);replace HXB:=hid (HXB.out.ext hxx);replace KX:=hid (KX.out.ext hxx);replace NIL:=hid (NIL.out.ext hxx);clear hx hxx;have a0:=KC.out.cell 0;have a1:=KC.out.cell 1;have b0:=KX.out.cell 0;have b1:=KX.out.cell 1;simp only [Go.Tw.gA,Go.Tw.gB,Go.Tw.gC] at a0 a1 b0 b1;go_wp2_with fail;refine (Q5v _ HWD.out).mono ?_;rintro e w14 ⟨rfl,hx⟩;have hxx:Ext w13 w14:=hx;replace HXA:=hid (HXA.out.trans hxx);replace HWD:=hid (HWD.out.ext hxx);replace H2:=hid (H2.out.ext hxx);replace HR:=hid (HR.out.ext hxx);replace HL:=hid (HL.out.ext hxx);replace KB:=hid (KB.out.ext hxx);replace KQ:=hid (KQ.out.ext hxx);replace GK:=hid (GK.out.ext hxx);replace KC:=hid (KC.out.ext hxx);replace HXB:=hid (HXB.out.ext hxx);replace KX:=hid (KX.out.ext hxx);replace NIL:=hid (NIL.out.ext hxx);clear hx hxx;go_wp2;go_ret;exact ⟨rfl,HXA.out⟩
             . skip
               have hes:s.err ≠ 0:=by rw [HSE.out]; exact hz
               have hE1:E=se:=by rw [<- HNV.out.e,Y3o hes,HSE.out]
               have hpe:pe=se:=by rw [<- HNV.out.pe]; unfold pwE; rw [if_pos hes,HSE.out]
               have hpn:pn=0:=by rw [<- HNV.out.pn]; unfold pwN; rw [if_neg (by rw [HNV.out.pe,hpe]; exact hz)]
               subst hpn;subst hpe;subst hE1;have hE0:E ≠ 0:=hz;have hzz:(E == 0)=false:=by simp [hz]
               clear hes;obtain ⟨e1,e2,e3,e4,e5,e6⟩:=HNV.out.bad hE0;subst e2 e3 e4 e5 e6;have HKR:=hid e1;have hEE:(E == 0)=false:=by simp [hE0]
               clear e1;have NIL:Hid (Q0e w11 (.slice none 0 0) KR):=hid (by rw [HKR.out]; exact Go.Tw.Rows.nil _ _ _)
               clear hE0 hz;go_wp2_with fail;change Calls _ _ _ (w11.alloc (.cells #[.int .i64 0,.int .i64 0] 107)) _;obtain ⟨W,hWW,k0,HXW,eW⟩:=Q1u w11 107 #[.int .i64 0,.int .i64 0];rw [hWW];clear hWW;refine (Q7m _ _ _ KR (GK.out.ext HXW.out) (NIL.out.ext HXW.out)).mono ?_;rintro e w12 ⟨rfl,hx⟩;have hxx:Ext w11 w12:=HXW.out.trans hx;replace HXA:=hid (HXA.out.trans hxx);replace HWD:=hid (HWD.out.ext hxx);replace H2:=hid (H2.out.ext hxx);replace HR:=hid (HR.out.ext hxx);replace HL:=hid (HL.out.ext hxx);replace KB:=hid (KB.out.ext hxx);replace KQ:=hid (KQ.out.ext hxx);replace GK:=hid (GK.out.ext hxx);replace KC:=hid (KC.out.ext hxx);replace HXB:=hid (HXB.out.ext hxx);replace NIL:=hid (NIL.out.ext hxx);have KX:=hid (k0.ext hx);clear hx hxx HXW eW k0;obtain ⟨gx,hgx⟩:∃ z,w11.heap.size=z:=⟨_,rfl⟩;rw [hgx] at KX ⊢;clear hgx;have a0:=KC.out.cell 0;have a1:=KC.out.cell 1;have b0:=KX.out.cell 0;have b1:=KX.out.cell 1;simp only [Go.Tw.gA,Go.Tw.gB,Go.Tw.gC] at a0 a1 b0 b1;go_wp2_with fail;refine (Q5v _ HWD.out).mono ?_;rintro e w13 ⟨rfl,hx⟩;have hxx:Ext w12 w13:=hx;replace HXA:=hid (HXA.out.trans hxx);replace HWD:=hid (HWD.out.ext hxx);replace H2:=hid (H2.out.ext hxx);replace HR:=hid (HR.out.ext hxx);replace HL:=hid (HL.out.ext hxx);replace KB:=hid (KB.out.ext hxx);replace KQ:=hid (KQ.out.ext hxx);replace GK:=hid (GK.out.ext hxx);replace KC:=hid (KC.out.ext hxx);replace HXB:=hid (HXB.out.ext hxx);replace NIL:=hid (NIL.out.ext hxx);replace KX:=hid (KX.out.ext hxx);clear hx hxx;go_wp2;go_ret;exact ⟨rfl,HXA.out⟩
end Go.Proofs
