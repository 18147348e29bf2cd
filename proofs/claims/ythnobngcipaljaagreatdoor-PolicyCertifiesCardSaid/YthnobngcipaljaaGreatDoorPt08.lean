/- The law PolicyCertifies. -/
import Derived.Test.YthnobngcipaljaaGreatDoorPp35
import Derived.Test.YthnobngcipaljaaGreatDoorPt07
set_option maxRecDepth 1000000
set_option maxHeartbeats 64000000
set_option linter.unusedVariables false
set_option linter.unusedSimpArgs false
set_option linter.constructorNameAsVariable false
open Go.Lib (hid)
namespace Go.Proofs
open Go.RowKit Go.Tw Go.Flow
attribute [local go_sem] Oper.semAt_some
theorem fza08 {u:Type} {a b:u} (h:a=b:=by rw [hbb]; dsimp only; (try simp (discharger:=decide) only [Flow.eval_put_ne,Flow.J2k]); rw [Flow.Q0a (by simp only [Flow.size_put]; show _ < 212; decide)]; assumption):a=b:=h
theorem fzb08 {a b:Nat} (h:a < b:=by rw [hbb]; simp only [Flow.size_put]; show _ < 212; decide):a < b:=h
theorem fzc08 {u:Type} {a b:u} (h:a=b:=by rw [hbb]; dsimp only; (try simp (discharger:=decide) only [Flow.eval_put_ne]); rw [Flow.Q0a (by simp only [Flow.size_put]; show _ < 212; decide)]; assumption):a=b:=h
theorem fzd08 {u:Type} {a b:u} (h:a=b:=by rw [hbb]; dsimp only; (try simp (discharger:=decide) only [Flow.eval_put_ne,Flow.J2k]); rfl):a=b:=h
theorem fze08 {u:Type} {a b:u} (h:a=b:=by rw [hbb]; dsimp only; (try simp (discharger:=decide) only [Flow.eval_put_ne]); rfl):a=b:=h
theorem J3m (w:World) (v:Value) (s:Q0b) (need:Int) (hv:Q0h w v s)  (hW:Words w) :
    Calls Tryz.prog 12 #[v,.int .i64 need] w fun e w'=>e=.returned (.bool true) /\ Ext w w':=by
 obtain ⟨a,b,rfl,h2⟩:=hv;obtain ⟨A,capa,rfl,-,-,-⟩:=h2.ships.opened;obtain ⟨B,capb,rfl,-,-,-⟩:=h2.members.opened;have HXA:=hid (Ext.refl w);have HWD:=hid hW;have H2:=hid h2;obtain ⟨T,hT⟩:∃ T,s.ships.length=T:=⟨_,rfl⟩;have HT:=hid hT;obtain ⟨M,hM⟩:∃ M,s.members.length=M:=⟨_,rfl⟩;have HM:=hid hM;obtain ⟨lim,hlim⟩:∃ k,s.limit=k:=⟨_,rfl⟩;have HLIM:=hid hlim;have HSEA:Hid (∀ W,Q7y W (.slice A T capa) (.slice B M capb) s -> Q0h W (.agg #[.int .i64 lim,.slice A T capa,.slice B M capb]) s):=hid (fun W h=>⟨_,_,by rw [hlim],h⟩)
 rw [hT,hM] at H2;rw [hT,hM,hlim];clear hW h2 hT hM hlim;go_enter Tryz.func12,Tryz.ntmps12;go_wp2_with fail;change Calls _ _ _ (w.alloc (.cells #[.int .i64 lim,.slice A T capa,.slice B M capb] 25)) _;obtain ⟨W,hWW,k0,HXW,eW⟩:=Q1t w 25 #[.int .i64 lim,.slice A T capa,.slice B M capb];rw [hWW];clear hWW;refine (Z8x _ _ s (HSEA.out _ (H2.out.ext HXW.out))).mono ?_;rintro e z1 ⟨q,rfl,hq,hx⟩;have hxx:Ext w z1:=HXW.out.trans hx;replace HXA:=hid (HXA.out.trans hxx);replace HWD:=hid (HWD.out.ext hxx);replace H2:=hid (H2.out.ext hxx);have KB:=hid (k0.ext hx);clear hx hxx HXW eW k0;obtain ⟨gs,hgs⟩:∃ z,w.heap.size=z:=⟨_,rfl⟩;rw [hgs] at KB ⊢;clear hgs;cases q with
 | false =>
   clear hq;go_wp2_with fail;refine (J0d _ HWD.out).mono ?_;rintro e z2 ⟨rfl,hx⟩;have hxx:Ext z1 z2:=hx;replace HXA:=hid (HXA.out.trans hxx);replace HWD:=hid (HWD.out.ext hxx);replace H2:=hid (H2.out.ext hxx);replace KB:=hid (KB.out.ext hxx);clear hx hxx;go_wp2;go_ret;exact ⟨rfl,HXA.out⟩
 | true =>
   have hs:Q3k s:=hq.1 rfl;have HS:=hid hs;clear hs hq;have d0KB:=KB.out.cell 0;have d1KB:=KB.out.cell 1;have d2KB:=KB.out.cell 2;simp only [Go.Tw.gA,Go.Tw.gB,Go.Tw.gC] at d0KB d1KB d2KB;go_wp2_with fail;refine (Z0w _ _ s (HSEA.out _ H2.out)).mono ?_;rintro e z2 ⟨rfl,hx⟩;have hxx:Ext z1 z2:=hx;replace HXA:=hid (HXA.out.trans hxx);replace HWD:=hid (HWD.out.ext hxx);replace H2:=hid (H2.out.ext hxx);replace KB:=hid (KB.out.ext hxx);clear hx hxx d0KB d1KB d2KB
   by_cases he:s.err=0
   . skip
     have HE:=hid he;have hvs:=Q1b.of he;have HVS:=hid hvs;rw [he];clear he hvs;have d0KB:=KB.out.cell 0;have d1KB:=KB.out.cell 1;have d2KB:=KB.out.cell 2;simp only [Go.Tw.gA,Go.Tw.gB,Go.Tw.gC] at d0KB d1KB d2KB;go_wp2_with fail;refine (J8v _ _ s (HSEA.out _ H2.out) HE.out).mono ?_;rintro e z3 ⟨rfl,hx⟩;have hxx:Ext z2 z3:=hx;replace HXA:=hid (HXA.out.trans hxx);replace HWD:=hid (HWD.out.ext hxx);replace H2:=hid (H2.out.ext hxx);replace KB:=hid (KB.out.ext hxx);clear hx hxx d0KB d1KB d2KB;obtain ⟨fb,hfb⟩:∃ z,J9l s=z:=⟨_,rfl⟩;have HFB:=hid hfb;rw [hfb];clear hfb;cases fb with
     | false =>
       go_wp2_with fail;refine (J0d _ HWD.out).mono ?_;rintro e z4 ⟨rfl,hx⟩;have hxx:Ext z3 z4:=hx;replace HXA:=hid (HXA.out.trans hxx);replace HWD:=hid (HWD.out.ext hxx);replace H2:=hid (H2.out.ext hxx);replace KB:=hid (KB.out.ext hxx);clear hx hxx;go_wp2;go_ret;exact ⟨rfl,HXA.out⟩
     | true =>
       have HF9:Hid (s.hist.length <= 9):=hid (of_decide_eq_true HFB.out);go_wp2_with fail;refine (J7w _ need).mono ?_;rintro e z4 ⟨rfl,hx⟩;have hxx:Ext z3 z4:=hx;replace HXA:=hid (HXA.out.trans hxx);replace HWD:=hid (HWD.out.ext hxx);replace H2:=hid (H2.out.ext hxx);replace KB:=hid (KB.out.ext hxx);clear hx hxx
       by_cases hr:Q0f need 0 8000=0
       . skip
         have HRN:=hid hr;rw [hr];clear hr;obtain ⟨x1,hx1,hb1,hb2,hb3⟩:=J9f HVS.out HE.out;clear hx1;obtain ⟨me,hme⟩:∃ z,Z5c s=z:=⟨_,rfl⟩;have hme2:Z5e s=me:=by rw [<- hme]; exact if_pos HE.out
         have HM0:=hid (show 0 <= me /\ me <= 8000 by rw [<- hme]; exact ⟨J5e,J6f HVS.out⟩)
         have HMB:Hid (me <= Y7i s):=hid (by rw [<- hme]; exact J7f HVS.out)
         rw [hme] at hb1 hb2 hb3;have HB1:=hid hb1;have HB2:=hid hb2;have HME:=hid hme2;obtain ⟨p1,hp1⟩:∃ z,X7b s x1=z:=⟨_,rfl⟩;rw [hp1] at hb3 HB2;have HPR:Hid (Q2d s.hist p1=0):=hid (by rw [<- hp1]; exact J6k s x1)
         have HCF:=hid (J8a HVS.out HE.out HPR.out hb3 HM0.out);clear hb1 hb2 hb3 hme hme2 hp1;have d0KB:=KB.out.cell 0;have d1KB:=KB.out.cell 1;have d2KB:=KB.out.cell 2;simp only [Go.Tw.gA,Go.Tw.gB,Go.Tw.gC] at d0KB d1KB d2KB;go_wp2_with fail;refine (Z9u _ _ s (HSEA.out _ H2.out) HS.out).mono ?_;rintro e z5 ⟨g1,rfl,hg,hx⟩;have hxx:Ext z4 z5:=hx;replace HXA:=hid (HXA.out.trans hxx);replace HWD:=hid (HWD.out.ext hxx);replace H2:=hid (H2.out.ext hxx);replace KB:=hid (KB.out.ext hxx);clear hx hxx d0KB d1KB d2KB;have HG:=hid hg;clear hg;go_wp2_with fail;refine (Z1m _ _ s HG.out HS.out HF9.out).mono ?_;rintro e z6 ⟨rfl,hx⟩;have hxx:Ext z5 z6:=hx;replace HXA:=hid (HXA.out.trans hxx);clear HG;replace HWD:=hid (HWD.out.ext hxx);replace H2:=hid (H2.out.ext hxx);replace KB:=hid (KB.out.ext hxx);clear hx hxx;rw [HE.out,HME.out];have d0KB:=KB.out.cell 0;have d1KB:=KB.out.cell 1;have d2KB:=KB.out.cell 2;simp only [Go.Tw.gA,Go.Tw.gB,Go.Tw.gC] at d0KB d1KB d2KB;go_wp2_with fail;refine (Z9u _ _ s (HSEA.out _ H2.out) HS.out).mono ?_;rintro e z7 ⟨g2,rfl,hg,hx⟩;have hxx:Ext z6 z7:=hx;replace HXA:=hid (HXA.out.trans hxx);replace HWD:=hid (HWD.out.ext hxx);replace H2:=hid (H2.out.ext hxx);replace KB:=hid (KB.out.ext hxx);clear hx hxx d0KB d1KB d2KB;have HG:=hid hg;clear hg;go_wp2_with fail;refine (Y1e _ _ s me HG.out HS.out HF9.out).mono ?_;rintro e z8 ⟨⟨xb,rfl,hb⟩,hx⟩;have hxx:Ext z7 z8:=hx;replace HXA:=hid (HXA.out.trans hxx);clear HG;replace HWD:=hid (HWD.out.ext hxx);replace H2:=hid (H2.out.ext hxx);replace KB:=hid (KB.out.ext hxx);clear hx hxx;rw [HB1.out];rw [HB2.out] at hb;obtain ⟨Xb,cb,rfl,-,-,-⟩:=hb.opened;obtain ⟨nb,hnb⟩:∃ z,p1.length=z:=⟨_,rfl⟩;have HNB:=hid hnb;rw [hnb] at hb ⊢;clear hnb;have FB:=hid hb;clear hb;obtain ⟨n1,hn1⟩:∃ z,x1.closings=z:=⟨_,rfl⟩;obtain ⟨d1,hd1⟩:∃ z,x1.delay=z:=⟨_,rfl⟩;rw [hn1,hd1];clear hn1 hd1;have hxp:=Ext.box z8 (.cells #[.slice Xb nb cb] 38);have hbp:=Blk.made z8 38 #[.slice Xb nb cb];replace HXA:=hid (HXA.out.trans hxp);replace HWD:=hid (HWD.out.ext hxp);replace H2:=hid (H2.out.ext hxp);replace KB:=hid (KB.out.ext hxp);replace FB:=hid (FB.out.ext hxp);go_wp2_with fail;obtain ⟨gp,hgp⟩:∃ z,z8.heap.size=z:=⟨_,rfl⟩;obtain ⟨z9,hwt⟩:∃ Z,z8.alloc (.cells #[.slice Xb nb cb] 38)=Z:=⟨_,rfl⟩;rw [hwt,hgp] at hbp;rw [hwt] at HXA HWD H2 KB FB;rw [hwt,hgp];have KP:=hid hbp;clear hbp hwt hgp hxp;have HPL:Hid (p1.length <= 4096):=hid (by have:=J4h HVS.out HPR.out; omega)
         have HP8:Hid (∀ k,k < p1.length -> (Q0n p1 k).length <= 4096):=hid (fun k hk=>by have:=J5n HVS.out HPR.out k hk; omega)
         have HKL:Hid ((Q3r s p1).length <= s.members.length):=hid (kept_len s p1);have hdr:=(Ext.refl z9).drew;refine Flow.Q4m [.w,.w,.w,.w,.w,.w,.p,.p,.p,.w,.last,.last] [0,1,2,3,4,5,6,7,8,9,10,11] [[],[0],[],[0,1,2],[0,1,2,3],[0,1,2,3,4],[0,1,2,3,4,5],[0,1,2,3,4,5,6],[0,1,2,3,4,5,6],[],[0,1,2,3,4,5,6,7,9],[0,1,2,3,4,5,6,7,8,9,10]] [10,11]
          [.c 0 (.agg #[.int .i64 lim,.slice A T capa,.slice B M capb]),⟨fun v wz=>(fun v w'=>Q0h w' (v 1) s) v wz,by intro v a b hx h; exact Q0h.ext h hx⟩,.c 2 (.agg #[.slice Xb nb cb]),⟨fun v wz=>(fun v w'=>Q0w w' (v 3) p1) v wz,by intro v a b hx h; exact Q0w.ext h hx⟩,⟨fun v wz=>(fun v w'=>Q0w w' (v 4) p1) v wz,by intro v a b hx h; exact Q0w.ext h hx⟩,⟨fun v wz=>(fun v w'=>∃ x y,v 5=.tuple #[.agg #[x,y],.int .i64 0] /\ Q3m w' x p1 /\ Q0d w' y (Q3r s p1)) v wz,by rintro v a b hx ⟨x,y,h1,h2,h3⟩; exact ⟨x,y,h1,h2.ext hx,h3.ext hx⟩⟩,⟨fun v wz=>(fun v w'=>v 6=v 5) v wz,by intro v a b hx h; exact h⟩,⟨fun v wz=>(fun v w'=>v 5=.tuple #[v 7,.int .i64 0]) v wz,by intro v a b hx h; exact h⟩,.c 8 (.int .i64 0),⟨fun v wz=>(fun v w'=>∃ g,v 9=.pointer (some ⟨g,0,none⟩) /\ Blk w' g 124 #[.slice none 0 0,.slice none 0 0] /\ z9.heap.size <= g) v wz,by rintro v a b hx ⟨g,h1,h2,h3⟩; exact ⟨g,h1,h2.ext hx,h3⟩⟩,.none,.none]
          [fun v w1 w'=>∃ g X c Y d,v 9=.pointer (some ⟨g,0,none⟩) /\ Blk w' g 124 #[.slice X p1.length c,.slice Y (Q3r s p1).length d] /\ Q3m w' (.slice X p1.length c) p1 /\ Q0d w' (.slice Y (Q3r s p1).length d) (Q3r s p1) /\ Ext z9 w',fun v w1 w'=>v 11=.int .i64 0 /\ ∃ g X c Y d,v 9=.pointer (some ⟨g,0,none⟩) /\ Blk w' g 124 #[.slice X p1.length c,.slice Y (Q3r s p1).length d] /\ Q3m w' (.slice X p1.length c) p1 /\ Q0d w' (.slice Y (Q3r s p1).length d) (Q3r s p1) /\ Ext z9 w'] (by kernel_rfl) rfl (by kernel_rfl) ⟨?g0,?g1,?g2,?g3,?g4,?g5,?g6,?g7,?g8,?g9,?g10,?g11,trivial⟩ ?post
         case g0=>
          intro v w1 hx;intro bb hbb;intro K2 hK2;have o1:bb.eval (.tmp 2)=.pointer (some ⟨gs,0,none⟩):=fze08
          exact Q0p (.tmp 2) _ rfl Tryz.J4p Tryz.J3d o1 (KB.out.ext (hdr.trans hx)) rfl (hK2 _ _ (Ext.refl _) rfl)
         case g1=>
          intro v w1 hx;(repeat intro (zq:v _=_));intro bb hbb;subst hbb;intro K2 hK2;go_simp;refine Q0e (Z9u w1 _ s (HSEA.out _ (H2.out.ext (hdr.trans hx))) HS.out) ?_;rintro e w2 ⟨u,rfl,hu,hx2⟩;exact ⟨_,rfl,hK2 _ _ hx2 hu⟩
         case g2=>
          intro v w1 hx;intro bb hbb;intro K2 hK2;have o1:bb.eval (.tmp 7)=.pointer (some ⟨gp,0,none⟩):=fze08
          exact Q0p (.tmp 7) _ rfl Tryz.Q8b Tryz.Q4b o1 (KP.out.ext (hdr.trans hx)) rfl (hK2 _ _ (Ext.refl _) rfl)
         case g3=>
          intro v w1 hx (q0:v 0=_) _ (q2:v 2=_);intro bb hbb;subst hbb;intro K2 hK2;go_simp;refine Q0e (Y7d w1 _ p1 ⟨_,rfl,FB.out.ext (hdr.trans hx)⟩ HPL.out) ?_;rintro e w2 ⟨u,rfl,hu,hx2⟩;exact ⟨_,rfl,hK2 _ _ hx2 hu⟩
         case g4=>
          intro v w1 hx (q0:v 0=_) _ (q2:v 2=_) (q3:(fun v w'=>Q0w w' (v 3) p1) v w1);intro bb hbb;subst hbb;intro K2 hK2;go_simp;refine Q0e (J1w w1 _ p1 q3 HPL.out HP8.out) ?_;rintro e w2 ⟨u,rfl,hu,hx2⟩;exact ⟨_,rfl,hK2 _ _ hx2 hu⟩
         case g5=>
          intro v w1 hx (q0:v 0=_) (q1:(fun v w'=>Q0h w' (v 1) s) v w1) (q2:v 2=_) _ (q4:(fun v w'=>Q0w w' (v 4) p1) v w1);intro bb hbb;subst hbb;intro K2 hK2;go_simp;refine Q0e (J6p w1 _ _ s p1 q1 q4 HS.out HE.out HPR.out) ?_;rintro e w2 ⟨u,v,rfl,hu,hv,hx2⟩;exact ⟨_,rfl,hK2 _ _ hx2 ⟨_,_,rfl,hu,hv⟩⟩
         case g6=>
          intro v w1 hx (q0:v 0=_) _ (q2:v 2=_) _ _ _;intro bb hbb;have o1:bb.eval (.tmp 59)=v 5:=by rw [hbb]; dsimp only; (try simp (discharger:=decide) only [eval_put_ne]); rw [Q0a (by simp only [size_put]; exact (by decide:59 < 212))]
          exact ⟨_,fun w=>J7t (.tmp 59) rfl o1,rfl⟩
         case g7=>
          intro v w1 hx (q0:v 0=_) _ (q2:v 2=_) _ _ (q5:(fun v w'=>∃ x y,v 5=.tuple #[.agg #[x,y],.int .i64 0] /\ Q3m w' x p1 /\ Q0d w' y (Q3r s p1)) v w1) (q6:(fun v w'=>v 6=v 5) v w1);intro bb hbb;obtain ⟨x,y,h5,_⟩:=q5;have o1:bb.eval (.tmp 53)=.tuple #[.agg #[x,y],.int .i64 0]:=by rw [<- h5,<- q6]; rw [hbb]; dsimp only; (try simp (discharger:=decide) only [eval_put_ne]); rw [Q0a (by simp only [size_put]; exact (by decide:53 < 212))]
          exact ⟨_,fun w=>J4z (.tmp 53) 0 rfl o1 (fun w=>J9m w _ _),h5⟩
         case g8=>
          intro v w1 hx (q0:v 0=_) _ (q2:v 2=_) _ _ (q5:(fun v w'=>∃ x y,v 5=.tuple #[.agg #[x,y],.int .i64 0] /\ Q3m w' x p1 /\ Q0d w' y (Q3r s p1)) v w1) (q6:(fun v w'=>v 6=v 5) v w1);intro bb hbb;obtain ⟨x,y,h5,_⟩:=q5;have o1:bb.eval (.tmp 53)=.tuple #[.agg #[x,y],.int .i64 0]:=by rw [<- h5,<- q6]; rw [hbb]; dsimp only; (try simp (discharger:=decide) only [eval_put_ne]); rw [Q0a (by simp only [size_put]; exact (by decide:53 < 212))]
          exact ⟨_,fun w=>J4z (.tmp 53) 1 rfl o1 (fun w=>J9n w _ _),rfl⟩
         case g9=>
          intro v w1 hx;intro bb hbb;subst hbb;intro K hK;go_simp;exact hK _ _ (Ext.box _ _) ⟨_,rfl,Blk.made _ _ _,(hdr.trans hx).size⟩
         case g10=>
          intro v w1 hx (q0:v 0=_) _ (q2:v 2=_) _ _ (q5:(fun v w'=>∃ x y,v 5=.tuple #[.agg #[x,y],.int .i64 0] /\ Q3m w' x p1 /\ Q0d w' y (Q3r s p1)) v w1) _ (q7:(fun v w'=>v 5=.tuple #[v 7,.int .i64 0]) v w1) (q9:(fun v w'=>∃ g,v 9=.pointer (some ⟨g,0,none⟩) /\ Blk w' g 124 #[.slice none 0 0,.slice none 0 0] /\ z9.heap.size <= g) v w1);intro wl hT;obtain rfl:wl=w1:=hT;intro bb hbb;intro K hK;obtain ⟨x,y,h5,hi5,hj5⟩:=q5;obtain ⟨g,e9,h9,h9s⟩:=q9;obtain ⟨X,c,rfl,-,-,-⟩:=hi5.opened;obtain ⟨Y,d,rfl,-,-,-⟩:=hj5.opened;have h7:v 7=.agg #[.slice X p1.length c,.slice Y (Q3r s p1).length d]:=by have h:=h5.symm.trans q7; simp only [Value.tuple.injEq,Array.mk.injEq,List.cons.injEq,and_true] at h; exact h.symm
          have o1:bb.eval (.tmp 11)=.pointer (some ⟨g,0,none⟩):=by rw [hbb]; dsimp only; (try simp (discharger:=decide) only [eval_put_ne]); rw [Q0a (by simp only [size_put]; exact (by decide:11 < 212))]; exact e9
          have o2:bb.eval (.tmp 60)=.agg #[.slice X p1.length c,.slice Y (Q3r s p1).length d]:=by rw [hbb]; dsimp only; (try simp (discharger:=decide) only [eval_put_ne]); rw [Q0a (by simp only [size_put]; exact (by decide:60 < 212))]; exact h7
          exact Q2b (.tmp 11) (.tmp 60) _ rfl Tryz.J2x o1 o2 h9 rfl rfl Y1w (fun vv w' hb hl ho=>hK _ _ ⟨g,_,_,_,_,e9,hb,J3i hi5 h9 (fun k _ hk=>ho k hk),Y9q hj5 h9 (fun k _ hk=>ho k hk),Below.trans (hdr.trans hx) (hl _ h9s)⟩)
         case g11=>
          intro v w1 hx (q0:v 0=_) _ (q2:v 2=_) _ _ _ _ _ (q8:v 8=_) _;intro wl hT;replace hT:(fun v w1 w'=>∃ g X c Y d,v 9=.pointer (some ⟨g,0,none⟩) /\ Blk w' g 124 #[.slice X p1.length c,.slice Y (Q3r s p1).length d] /\ Q3m w' (.slice X p1.length c) p1 /\ Q0d w' (.slice Y (Q3r s p1).length d) (Q3r s p1) /\ Ext z9 w') v w1 wl:=hT;intro bb hbb;subst hbb;intro K hK;go_simp;exact hK _ _ ⟨rfl,hT⟩
         case post =>
          intro v w1 hx (q0:v 0=_) (q1:(fun v w'=>Q0h w' (v 1) s) v w1) (q2:v 2=_) (q3:(fun v w'=>Q0w w' (v 3) p1) v w1) (q4:(fun v w'=>Q0w w' (v 4) p1) v w1) (q5:(fun v w'=>∃ x y,v 5=.tuple #[.agg #[x,y],.int .i64 0] /\ Q3m w' x p1 /\ Q0d w' y (Q3r s p1)) v w1) (q6:(fun v w'=>v 6=v 5) v w1) (q7:(fun v w'=>v 5=.tuple #[v 7,.int .i64 0]) v w1) (q8:v 8=_) (q9:(fun v w'=>∃ g,v 9=.pointer (some ⟨g,0,none⟩) /\ Blk w' g 124 #[.slice none 0 0,.slice none 0 0] /\ z9.heap.size <= g) v w1);intro w2 hE;replace hE:(fun v w1 w'=>v 11=.int .i64 0 /\ ∃ g X c Y d,v 9=.pointer (some ⟨g,0,none⟩) /\ Blk w' g 124 #[.slice X p1.length c,.slice Y (Q3r s p1).length d] /\ Q3m w' (.slice X p1.length c) p1 /\ Q0d w' (.slice Y (Q3r s p1).length d) (Q3r s p1) /\ Ext z9 w') v w1 w2:=hE;simp only [Flow.acts,Act.put];go_simp;obtain ⟨h11,gc,Xp,cp,Xk,ck,e9,hbc,hic,hjc,hxz⟩:=hE
          try rw [h11]
          try rw [e9]
          obtain ⟨nk,hnk⟩:∃ z,(Q3r s p1).length=z:=⟨_,rfl⟩;rw [HNB.out,hnk] at hbc;rw [HNB.out] at hic;rw [hnk] at hjc;have HNK:=hid hnk;have hxx:=hxz;replace HXA:=hid (HXA.out.trans hxx);replace HWD:=hid (HWD.out.ext hxx);replace H2:=hid (H2.out.ext hxx);replace KB:=hid (KB.out.ext hxx);replace FB:=hid (FB.out.ext hxx);replace KP:=hid (KP.out.ext hxx);have KC:=hid (hbc);have FR:=hid (hic);have FK:=hid (hjc);obtain ⟨z10,rfl⟩:∃ Z,Z=w2:=⟨_,rfl⟩;clear hx hdr hxx q0 q1 q2 q3 q4 q5 q6 q7 q8 q9 hbc hic hjc hxz h11 e9 hnk;have hnM:¬ (M:Int) < (nk:Int):=by have:=HKL.out; have:=HNK.out; have:=HM.out; omega
          have hnMd:decide ((M:Int) < (nk:Int))=false:=decide_eq_false hnM;have hnN:¬ M < nk:=by omega
          have hnNd:decide (M < nk)=false:=decide_eq_false hnN;have HK4:Hid ((Q3r s p1).length <= 4096):=hid (by have:=HKL.out; have:=HVS.out.some.2; omega)
          have HP1:Hid (p1.length <= 1000):=hid (J4h HVS.out HPR.out);go_upto_region 6 with fail
          go_cut [99] (fun x wx=>x=.bool false /\ Ext z10 wx)
          case first =>
           by_cases hm8:me < 8000
           . have hmd:decide (me < 8000)=true:=decide_eq_true hm8
             have hwi:IntKind.i64.wrap (me + 1)=me + 1:=Q2v _ (by have:=HM0.out; omega) (by have:=HM0.out; omega)
             go_wp2_with fail;have hdr:=(Ext.refl z10).drew;refine Flow.Q1o [.p,.p,.p,.p,.p,.p,.p,.p,.w,.p,.p,.w,.p,.p,.p,.p,.w,.w,.p,.w,.w,.w,.p,.p,.p,.p,.p,.p,.w,.w,.p,.p,.w,.w,.w,.p,.p,.p] [0,1,2,3,4,5,6,7,8,9,10,11,12,13,14,15,16,17,18,19,20,21,22,23,24,25,26,27,28,29,30,31,32,33,34,35,36,37] [[],[],[0,1],[],[2,3],[4],[5],[6],[6,7],[6,8],[6],[6,10],[6,11],[6,9,12],[6,13],[6,14],[15],[15,16],[15],[15],[15,17,19],[15,17,18,20],[15,21],[15,22],[21,23],[24],[24,25],[24,26],[27],[27,28],[27],[27,30],[27],[27,29,32],[27,29,31,33],[27,34],[24,27,35],[24,36]]
              [.c 0 (.int .i64 0),.c 1 (.int .i64 0),.c 2 (.int .i64 0),.c 3 (.int .i64 0),.c 4 (.int .i64 0),.c 5 (.bool false),.c 6 (.bool false),.c 7 (.pointer (some ⟨gc,1,none⟩)),.c 8 (.slice Xk nk ck),.c 9 (.int .i64 ((nk:Nat):Int)),.c 10 (.pointer (some ⟨gs,2,none⟩)),.c 11 (.slice B M capb),.c 12 (.int .i64 ((M:Nat):Int)),.c 13 (.bool false),.c 14 (.bool false),.c 15 (.bool false),.c 16 (.agg #[.int .i64 lim,.slice A T capa,.slice B M capb]),⟨fun v wz=>(fun v w'=>Q0h w' (v 17) s) v wz,by intro v a b hx h; exact Q0h.ext h hx⟩,.c 18 (.int .i64 me),.c 19 (.agg #[.slice Xp nb cp,.slice Xk nk ck]),⟨fun v wz=>(fun v w'=>∃ x y,v 20=.agg #[x,y] /\ Q3m w' x p1 /\ Q0d w' y (Q3r s p1)) v wz,by rintro v a b hx ⟨x,y,h1,h2,h3⟩; exact ⟨x,y,h1,h2.ext hx,h3.ext hx⟩⟩,.c 21 (.int .i64 0),.c 22 (.bool false),.c 23 (.bool false),.c 24 (.bool false),.c 25 (.int .i64 me),.c 26 (.bool true),.c 27 (.bool true),.c 28 (.agg #[.int .i64 lim,.slice A T capa,.slice B M capb]),⟨fun v wz=>(fun v w'=>Q0h w' (v 29) s) v wz,by intro v a b hx h; exact Q0h.ext h hx⟩,.c 30 (.int .i64 me),.c 31 (.int .i64 (me + 1)),.c 32 (.agg #[.slice Xp nb cp,.slice Xk nk ck]),⟨fun v wz=>(fun v w'=>∃ x y,v 33=.agg #[x,y] /\ Q3m w' x p1 /\ Q0d w' y (Q3r s p1)) v wz,by rintro v a b hx ⟨x,y,h1,h2,h3⟩; exact ⟨x,y,h1,h2.ext hx,h3.ext hx⟩⟩,.c 34 (.int .i64 22),.c 35 (.bool false),.c 36 (.bool false),.c 37 (.bool false)]
              (by kernel_rfl) rfl (by kernel_rfl) ?owed ?post
             case owed =>
              refine ⟨?g0,?g1,?g2,?g3,?g4,?g5,?g6,?g7,?g8,?g9,?g10,?g11,?g12,?g13,?g14,?g15,?g16,?g17,?g18,?g19,?g20,?g21,?g22,?g23,?g24,?g25,?g26,?g27,?g28,?g29,?g30,?g31,?g32,?g33,?g34,?g35,?g36,?g37,trivial⟩
              case g0=>
               as_aux_lemma =>
               intro v w1 hx;intro bb hbb;have fo0:bb.eval (.tmp 6)=.int .i64 0:=fzd08
               clear hbb;refine ⟨_,fun w=>?_,rfl⟩;unfold execOp;simp only [fo0];clear fo0;go_simp
              case g1=>
               as_aux_lemma =>
               intro v w1 hx;intro bb hbb;have fo0:bb.eval (.tmp 10)=.int .i64 0:=fzd08
               clear hbb;refine ⟨_,fun w=>?_,rfl⟩;unfold execOp;simp only [fo0];clear fo0;go_simp
              case g2=>
               intro v w1 hx;(repeat intro (zq:v _=_));intro bb hbb;have fo0:bb.eval (.tmp 62)=.int .i64 0:=fza08
               have fo1:bb.eval (.tmp 63)=.int .i64 0:=fza08
               clear hbb;refine ⟨_,fun w=>?_,rfl⟩;unfold execOp;simp only [fo0,fo1];clear fo0 fo1;go_simp
               all_goals (first | rfl | decide | assumption)
              case g3=>
               as_aux_lemma =>
               intro v w1 hx;intro bb hbb;have fo0:bb.eval (.tmp 12)=.int .i64 0:=fzd08
               clear hbb;refine ⟨_,fun w=>?_,rfl⟩;unfold execOp;simp only [fo0];clear fo0;go_simp
              case g4=>
               intro v w1 hx;(repeat intro (zq:v _=_));intro bb hbb;have fo0:bb.eval (.tmp 64)=.int .i64 0:=fza08
               have fo1:bb.eval (.tmp 65)=.int .i64 0:=fza08
               clear hbb;refine ⟨_,fun w=>?_,rfl⟩;unfold execOp;simp only [fo0,fo1];clear fo0 fo1;go_simp
               all_goals (first | rfl | decide | assumption)
              case g5=>
               as_aux_lemma =>
               intro v w1 hx;(repeat intro (zq:v _=_));intro bb hbb;have fo0:bb.eval (.tmp 66)=.int .i64 0:=fza08
               clear hbb;refine ⟨_,fun w=>?_,rfl⟩;unfold execOp;simp only [fo0];clear fo0;go_simp
              case g6=>
               as_aux_lemma =>
               intro v w1 hx;(repeat intro (zq:v _=_));intro bb hbb;have fo0:bb.eval (.tmp 67)=.bool false:=fza08
               clear hbb;refine ⟨_,fun w=>?_,rfl⟩;unfold execOp;simp only [fo0];clear fo0;go_simp
              case g7=>
               as_aux_lemma =>
               intro v w1 hx;(repeat intro (zq:v _=_));intro bb hbb;refine Flow.Q0l (d:=68) rfl rfl fzb08 fzc08 ?_
               have fo0:bb.eval (.tmp 11)=.pointer (some ⟨gc,0,none⟩):=fzd08
               clear hbb;refine ⟨_,fun w=>?_,rfl⟩;unfold execOp;simp only [fo0];clear fo0;go_simp
              case g8=>
               as_aux_lemma =>
               intro v w1 hx;(repeat intro (zq:v _=_));intro bb hbb;have n0:w1.cell? ⟨gc,1,none⟩=some (.slice Xk nk ck):=(KC.out.ext (hdr.trans hx)).cell 1;refine Flow.Q0l (d:=68) rfl rfl fzb08 fzc08 ?_
               have fo0:bb.eval (.tmp 69)=.pointer (some ⟨gc,1,none⟩):=fza08
               clear hbb;intro K hK;unfold execOp;simp only [fo0];clear fo0;go_simp;exact hK _ _ (Ext.refl _) rfl
              case g9 | g12=>
               as_aux_lemma =>
               intro v w1 hx;(repeat intro (zq:v _=_));intro bb hbb;refine Flow.Q0l (d:=68) rfl rfl fzb08 fzc08 ?_
               subst hbb;refine ⟨_,fun w=>?_,rfl⟩;go_simp
              case g10=>
               as_aux_lemma =>
               intro v w1 hx;(repeat intro (zq:v _=_));intro bb hbb;refine Flow.Q0l (d:=68) rfl rfl fzb08 fzc08 ?_
               have fo0:bb.eval (.tmp 2)=.pointer (some ⟨gs,0,none⟩):=fzd08
               clear hbb;refine ⟨_,fun w=>?_,rfl⟩;unfold execOp;simp only [fo0];clear fo0;go_simp
              case g11=>
               as_aux_lemma =>
               intro v w1 hx;(repeat intro (zq:v _=_));intro bb hbb;have n0:w1.cell? ⟨gs,2,none⟩=some (.slice B M capb):=(KB.out.ext (hdr.trans hx)).cell 2;refine Flow.Q0l (d:=68) rfl rfl fzb08 fzc08 ?_
               have fo0:bb.eval (.tmp 72)=.pointer (some ⟨gs,2,none⟩):=fza08
               clear hbb;intro K hK;unfold execOp;simp only [fo0];clear fo0;go_simp;exact hK _ _ (Ext.refl _) rfl
              case g13=>
               as_aux_lemma =>
               intro v w1 hx;(repeat intro (zq:v _=_));intro bb hbb;refine Flow.Q0l (d:=68) rfl rfl fzb08 fzc08 ?_
               have fo0:bb.eval (.tmp 71)=.int .i64 ((nk:Nat):Int):=fza08
               have fo1:bb.eval (.tmp 74)=.int .i64 ((M:Nat):Int):=fza08
               clear hbb;refine ⟨_,fun w=>?_,rfl⟩;unfold execOp;simp only [fo0,fo1];clear fo0 fo1;go_simp
              case g14=>
               as_aux_lemma =>
               intro v w1 hx;(repeat intro (zq:v _=_));intro bb hbb;have fo0:bb.eval (.tmp 68)=.bool false:=fza08
               have fo1:bb.eval (.tmp 75)=.bool false:=fza08
               clear hbb;refine ⟨_,fun w=>?_,rfl⟩;unfold execOp;simp only [fo0,fo1];clear fo0 fo1;go_simp
              case g15=>
               as_aux_lemma =>
               intro v w1 hx;(repeat intro (zq:v _=_));intro bb hbb;have fo0:bb.eval (.tmp 76)=.bool false:=fza08
               clear hbb;refine ⟨_,fun w=>?_,rfl⟩;unfold execOp;simp only [fo0];clear fo0;go_simp
              case g16=>
               as_aux_lemma =>
               intro v w1 hx;(repeat intro (zq:v _=_));intro bb hbb;refine Flow.Q0l (d:=77) rfl rfl fzb08 fzc08 ?_
               intro K2 hK2;have o1:bb.eval (.tmp 2)=.pointer (some ⟨gs,0,none⟩):=fze08
               exact Q0p (.tmp 2) _ rfl Tryz.J4p Tryz.J3d o1 (KB.out.ext (hdr.trans hx)) rfl (hK2 _ _ (Ext.refl _) rfl)
              case g17=>
               as_aux_lemma =>
               intro v w1 hx;(repeat intro (zq:v _=_));intro bb hbb;refine Flow.Q0l (d:=77) rfl rfl fzb08 fzc08 ?_
               subst hbb;intro K2 hK2;go_simp;refine Q0e (Z9u w1 _ s (HSEA.out _ (H2.out.ext (hdr.trans hx))) HS.out) ?_;rintro e w2 ⟨u,rfl,hu,hx2⟩;exact ⟨_,rfl,hK2 _ _ hx2 hu⟩
              case g18=>
               as_aux_lemma =>
               intro v w1 hx;(repeat intro (zq:v _=_));intro bb hbb;refine Flow.Q0l (d:=77) rfl rfl fzb08 fzc08 ?_
               have fo0:bb.eval (.tmp 5)=.int .i64 me:=fzd08
               clear hbb;refine ⟨_,fun w=>?_,rfl⟩;unfold execOp;simp only [fo0];clear fo0;go_simp
              case g19=>
               as_aux_lemma =>
               intro v w1 hx;(repeat intro (zq:v _=_));intro bb hbb;refine Flow.Q0l (d:=77) rfl rfl fzb08 fzc08 ?_
               intro K2 hK2;have o1:bb.eval (.tmp 11)=.pointer (some ⟨gc,0,none⟩):=fze08
               exact Q0p (.tmp 11) _ rfl Tryz.J6c Tryz.J2x o1 (KC.out.ext (hdr.trans hx)) rfl (hK2 _ _ (Ext.refl _) rfl)
              case g20=>
               as_aux_lemma =>
               intro v w1 hx (q15:v 15=_) _ (q19:v 19=_);intro bb hbb;refine Flow.Q0l (d:=77) rfl rfl fzb08 (by rw [hbb]; dsimp only; (try simp (discharger:=decide) only [eval_put_ne]); rw [Q0a (by simp only [size_put]; exact (by decide:77 < 212))]; exact q15) ?_
               intro K2 hK2;have o1:bb.eval (.tmp 81)=.agg #[.slice Xp nb cp,.slice Xk nk ck]:=by rw [hbb]; dsimp only; (try simp (discharger:=decide) only [eval_put_ne]); rw [Q0a (by simp only [size_put]; exact (by decide:81 < 212))]; exact q19
               refine X5o (x:=.tmp 81) rfl (enters_of Tryz.func80 (by kernel_rfl) rfl) o1 (J2n w1 _ _ p1 (Q3r s p1) (FR.out.ext (hdr.trans hx)) (FK.out.ext (hdr.trans hx)) HPL.out HP8.out HK4.out) ?_
               rintro e w2 ⟨⟨u,v,rfl,hu,hv⟩,hx2⟩;exact ⟨_,rfl,hK2 _ _ hx2 ⟨_,_,rfl,hu,hv⟩⟩
              case g21=>
               as_aux_lemma =>
               intro v w1 hx (q15:v 15=_) (q17:(fun v w'=>Q0h w' (v 17) s) v w1) (q18:v 18=_) (q20:(fun v w'=>∃ x y,v 20=.agg #[x,y] /\ Q3m w' x p1 /\ Q0d w' y (Q3r s p1)) v w1);intro bb hbb;refine Flow.Q0l (d:=77) rfl rfl fzb08 (by rw [hbb]; dsimp only; (try simp (discharger:=decide) only [eval_put_ne]); rw [Q0a (by simp only [size_put]; exact (by decide:77 < 212))]; exact q15) ?_
               intro K2 hK2;obtain ⟨x,y,e20,hx20,hy20⟩:=q20;have o0:bb.eval (.tmp 79)=v 17:=by rw [hbb]; dsimp only; (try simp (discharger:=decide) only [eval_put_ne]); rw [Q0a (by simp only [size_put]; exact (by decide:79 < 212))]
               have o1:bb.eval (.tmp 80)=.int .i64 (me):=by rw [hbb]; dsimp only; (try simp (discharger:=decide) only [eval_put_ne]); rw [Q0a (by simp only [size_put]; exact (by decide:80 < 212))]; exact q18
               have o2:bb.eval (.tmp 82)=.agg #[x,y]:=by rw [hbb]; dsimp only; (try simp (discharger:=decide) only [eval_put_ne]); rw [Q0a (by simp only [size_put]; exact (by decide:82 < 212))]; exact e20
               refine X4o (x:=.tmp 79) (y:=(.tmp 80)) (z:=.tmp 82) rfl (enters_of Tryz.func76 (by kernel_rfl) rfl) o0 o1 o2 (J2o w1 (v 17) x y s (me) p1 (Q3r s p1) q17 hx20 hy20 HS.out HP1.out) ?_
               rintro e w2 ⟨rfl,hx2⟩;exact ⟨_,rfl,hK2 _ _ hx2 (congrArg (Value.int .i64) (HCF.out.1))⟩
              case g22=>
               as_aux_lemma =>
               intro v w1 hx;(repeat intro (zq:v _=_));intro bb hbb;refine Flow.Q0l (d:=77) rfl rfl fzb08 fzc08 ?_
               have fo0:bb.eval (.tmp 83)=.int .i64 0:=fza08
               clear hbb;refine ⟨_,fun w=>?_,rfl⟩;unfold execOp;simp only [fo0];clear fo0;go_simp
              case g23=>
               as_aux_lemma =>
               intro v w1 hx;(repeat intro (zq:v _=_));intro bb hbb;have fo0:bb.eval (.tmp 77)=.bool false:=fza08
               have fo1:bb.eval (.tmp 84)=.bool false:=fza08
               clear hbb;refine ⟨_,fun w=>?_,rfl⟩;unfold execOp;simp only [fo0,fo1];clear fo0 fo1;go_simp
              case g24=>
               as_aux_lemma =>
               intro v w1 hx;(repeat intro (zq:v _=_));intro bb hbb;have fo0:bb.eval (.tmp 85)=.bool false:=fza08
               clear hbb;refine ⟨_,fun w=>?_,rfl⟩;unfold execOp;simp only [fo0];clear fo0;go_simp
              case g25=>
               as_aux_lemma =>
               intro v w1 hx;(repeat intro (zq:v _=_));intro bb hbb;refine Flow.Q0l (d:=86) rfl rfl fzb08 fzc08 ?_
               have fo0:bb.eval (.tmp 5)=.int .i64 me:=fzd08
               clear hbb;refine ⟨_,fun w=>?_,rfl⟩;unfold execOp;simp only [fo0];clear fo0;go_simp
              case g26=>
               as_aux_lemma =>
               intro v w1 hx;(repeat intro (zq:v _=_));intro bb hbb;refine Flow.Q0l (d:=86) rfl rfl fzb08 fzc08 ?_
               have fo0:bb.eval (.tmp 87)=.int .i64 me:=fza08
               clear hbb;refine ⟨_,fun w=>?_,rfl⟩;unfold execOp;simp only [fo0];clear fo0;go_simp
              case g27=>
               as_aux_lemma =>
               intro v w1 hx;(repeat intro (zq:v _=_));intro bb hbb;refine Flow.Q0l (d:=86) rfl rfl fzb08 fzc08 ?_
               have fo0:bb.eval (.tmp 88)=.bool true:=fza08
               clear hbb;refine ⟨_,fun w=>?_,rfl⟩;unfold execOp;simp only [fo0];clear fo0;go_simp
              case g28=>
               as_aux_lemma =>
               intro v w1 hx;(repeat intro (zq:v _=_));intro bb hbb;refine Flow.Q0l (d:=89) rfl rfl fzb08 fzc08 ?_
               intro K2 hK2;have o1:bb.eval (.tmp 2)=.pointer (some ⟨gs,0,none⟩):=fze08
               exact Q0p (.tmp 2) _ rfl Tryz.J4p Tryz.J3d o1 (KB.out.ext (hdr.trans hx)) rfl (hK2 _ _ (Ext.refl _) rfl)
              case g29=>
               as_aux_lemma =>
               intro v w1 hx;(repeat intro (zq:v _=_));intro bb hbb;refine Flow.Q0l (d:=89) rfl rfl fzb08 fzc08 ?_
               subst hbb;intro K2 hK2;go_simp;refine Q0e (Z9u w1 _ s (HSEA.out _ (H2.out.ext (hdr.trans hx))) HS.out) ?_;rintro e w2 ⟨u,rfl,hu,hx2⟩;exact ⟨_,rfl,hK2 _ _ hx2 hu⟩
              case g30=>
               as_aux_lemma =>
               intro v w1 hx;(repeat intro (zq:v _=_));intro bb hbb;refine Flow.Q0l (d:=89) rfl rfl fzb08 fzc08 ?_
               have fo0:bb.eval (.tmp 5)=.int .i64 me:=fzd08
               clear hbb;refine ⟨_,fun w=>?_,rfl⟩;unfold execOp;simp only [fo0];clear fo0;go_simp
              case g31=>
               intro v w1 hx;(repeat intro (zq:v _=_));intro bb hbb;refine Flow.Q0l (d:=89) rfl rfl fzb08 fzc08 ?_
               have fo0:bb.eval (.tmp 92)=.int .i64 me:=fza08
               clear hbb;refine ⟨_,fun w=>?_,rfl⟩;unfold execOp;simp only [fo0];clear fo0;go_simp
               all_goals (first | rfl | decide | assumption)
              case g32=>
               as_aux_lemma =>
               intro v w1 hx;(repeat intro (zq:v _=_));intro bb hbb;refine Flow.Q0l (d:=89) rfl rfl fzb08 fzc08 ?_
               intro K2 hK2;have o1:bb.eval (.tmp 11)=.pointer (some ⟨gc,0,none⟩):=fze08
               exact Q0p (.tmp 11) _ rfl Tryz.J6c Tryz.J2x o1 (KC.out.ext (hdr.trans hx)) rfl (hK2 _ _ (Ext.refl _) rfl)
              case g33=>
               as_aux_lemma =>
               intro v w1 hx (q27:v 27=_) _ (q32:v 32=_);intro bb hbb;refine Flow.Q0l (d:=89) rfl rfl fzb08 (by rw [hbb]; dsimp only; (try simp (discharger:=decide) only [eval_put_ne]); rw [Q0a (by simp only [size_put]; exact (by decide:89 < 212))]; exact q27) ?_
               intro K2 hK2;have o1:bb.eval (.tmp 94)=.agg #[.slice Xp nb cp,.slice Xk nk ck]:=by rw [hbb]; dsimp only; (try simp (discharger:=decide) only [eval_put_ne]); rw [Q0a (by simp only [size_put]; exact (by decide:94 < 212))]; exact q32
               refine X5o (x:=.tmp 94) rfl (enters_of Tryz.func80 (by kernel_rfl) rfl) o1 (J2n w1 _ _ p1 (Q3r s p1) (FR.out.ext (hdr.trans hx)) (FK.out.ext (hdr.trans hx)) HPL.out HP8.out HK4.out) ?_
               rintro e w2 ⟨⟨u,v,rfl,hu,hv⟩,hx2⟩;exact ⟨_,rfl,hK2 _ _ hx2 ⟨_,_,rfl,hu,hv⟩⟩
              case g34=>
               as_aux_lemma =>
               intro v w1 hx (q27:v 27=_) (q29:(fun v w'=>Q0h w' (v 29) s) v w1) (q31:v 31=_) (q33:(fun v w'=>∃ x y,v 33=.agg #[x,y] /\ Q3m w' x p1 /\ Q0d w' y (Q3r s p1)) v w1);intro bb hbb;refine Flow.Q0l (d:=89) rfl rfl fzb08 (by rw [hbb]; dsimp only; (try simp (discharger:=decide) only [eval_put_ne]); rw [Q0a (by simp only [size_put]; exact (by decide:89 < 212))]; exact q27) ?_
               intro K2 hK2;obtain ⟨x,y,e20,hx20,hy20⟩:=q33;have o0:bb.eval (.tmp 91)=v 29:=by rw [hbb]; dsimp only; (try simp (discharger:=decide) only [eval_put_ne]); rw [Q0a (by simp only [size_put]; exact (by decide:91 < 212))]
               have o1:bb.eval (.tmp 93)=.int .i64 (me + 1):=by rw [hbb]; dsimp only; (try simp (discharger:=decide) only [eval_put_ne]); rw [Q0a (by simp only [size_put]; exact (by decide:93 < 212))]; exact q31
               have o2:bb.eval (.tmp 95)=.agg #[x,y]:=by rw [hbb]; dsimp only; (try simp (discharger:=decide) only [eval_put_ne]); rw [Q0a (by simp only [size_put]; exact (by decide:95 < 212))]; exact e20
               refine X4o (x:=.tmp 91) (y:=(.tmp 93)) (z:=.tmp 95) rfl (enters_of Tryz.func76 (by kernel_rfl) rfl) o0 o1 o2 (J2o w1 (v 29) x y s (me + 1) p1 (Q3r s p1) q29 hx20 hy20 HS.out HP1.out) ?_
               rintro e w2 ⟨rfl,hx2⟩;exact ⟨_,rfl,hK2 _ _ hx2 (congrArg (Value.int .i64) (HCF.out.2 hm8))⟩
              case g35=>
               as_aux_lemma =>
               intro v w1 hx;(repeat intro (zq:v _=_));intro bb hbb;refine Flow.Q0l (d:=89) rfl rfl fzb08 fzc08 ?_
               have fo0:bb.eval (.tmp 96)=.int .i64 22:=fza08
               clear hbb;refine ⟨_,fun w=>?_,rfl⟩;unfold execOp;simp only [fo0];clear fo0;go_simp
              case g36=>
               as_aux_lemma =>
               intro v w1 hx;(repeat intro (zq:v _=_));intro bb hbb;refine Flow.Q0l (d:=86) rfl rfl fzb08 fzc08 ?_
               have fo0:bb.eval (.tmp 89)=.bool true:=fza08
               have fo1:bb.eval (.tmp 97)=.bool false:=fza08
               clear hbb;refine ⟨_,fun w=>?_,rfl⟩;unfold execOp;simp only [fo0,fo1];clear fo0 fo1;go_simp
              case g37=>
               as_aux_lemma =>
               intro v w1 hx;(repeat intro (zq:v _=_));intro bb hbb;have fo0:bb.eval (.tmp 86)=.bool false:=fza08
               have fo1:bb.eval (.tmp 98)=.bool false:=fza08
               clear hbb;refine ⟨_,fun w=>?_,rfl⟩;unfold execOp;simp only [fo0,fo1];clear fo0 fo1;go_simp
             case post =>
              intro v w1 hx;(iterate 17 intro (zq:v _=_));intro (q17:(fun v w'=>Q0h w' (v 17) s) v w1);(iterate 2 intro (zq:v _=_));intro (q20:(fun v w'=>∃ x y,v 20=.agg #[x,y] /\ Q3m w' x p1 /\ Q0d w' y (Q3r s p1)) v w1);(iterate 8 intro (zq:v _=_));intro (q29:(fun v w'=>Q0h w' (v 29) s) v w1);(iterate 3 intro (zq:v _=_));intro (q33:(fun v w'=>∃ x y,v 33=.agg #[x,y] /\ Q3m w' x p1 /\ Q0d w' y (Q3r s p1)) v w1);(iterate 4 intro (zq:v _=_));simp only [Flow.All,Flow.acts,Act.put];go_simp;go_wp2_with fail;go_meet;exact ⟨rfl,hdr.trans hx⟩
           . have hmd:decide (me < 8000)=false:=decide_eq_false hm8
             go_wp2_with fail;have hdr:=(Ext.refl z10).drew;refine Flow.Q1o [.p,.p,.p,.p,.p,.p,.p,.p,.w,.p,.p,.w,.p,.p,.p,.p,.w,.w,.p,.w,.w,.w,.p,.p,.p,.p,.p,.p,.w,.w,.p,.p,.w,.w,.w,.p,.p,.p] [0,1,2,3,4,5,6,7,8,9,10,11,12,13,14,15,16,17,18,19,20,21,22,23,24,25,26,27,28,29,30,31,32,33,34,35,36,37] [[],[],[0,1],[],[2,3],[4],[5],[6],[6,7],[6,8],[6],[6,10],[6,11],[6,9,12],[6,13],[6,14],[15],[15,16],[15],[15],[15,17,19],[15,17,18,20],[15,21],[15,22],[21,23],[24],[24,25],[24,26],[27],[27,28],[27],[27,30],[27],[27,29,32],[27,29,31,33],[27,34],[24,27,35],[24,36]]
              [.c 0 (.int .i64 0),.c 1 (.int .i64 0),.c 2 (.int .i64 0),.c 3 (.int .i64 0),.c 4 (.int .i64 0),.c 5 (.bool false),.c 6 (.bool false),.c 7 (.pointer (some ⟨gc,1,none⟩)),.c 8 (.slice Xk nk ck),.c 9 (.int .i64 ((nk:Nat):Int)),.c 10 (.pointer (some ⟨gs,2,none⟩)),.c 11 (.slice B M capb),.c 12 (.int .i64 ((M:Nat):Int)),.c 13 (.bool false),.c 14 (.bool false),.c 15 (.bool false),.c 16 (.agg #[.int .i64 lim,.slice A T capa,.slice B M capb]),⟨fun v wz=>(fun v w'=>Q0h w' (v 17) s) v wz,by intro v a b hx h; exact Q0h.ext h hx⟩,.c 18 (.int .i64 me),.c 19 (.agg #[.slice Xp nb cp,.slice Xk nk ck]),⟨fun v wz=>(fun v w'=>∃ x y,v 20=.agg #[x,y] /\ Q3m w' x p1 /\ Q0d w' y (Q3r s p1)) v wz,by rintro v a b hx ⟨x,y,h1,h2,h3⟩; exact ⟨x,y,h1,h2.ext hx,h3.ext hx⟩⟩,.c 21 (.int .i64 0),.c 22 (.bool false),.c 23 (.bool false),.c 24 (.bool false),.c 25 (.int .i64 me),.c 26 (.bool false),.c 27 (.bool false),.c 28 (undef),.c 29 (undef),.c 30 (undef),.c 31 (undef),.c 32 (undef),.c 33 (undef),.c 34 (undef),.c 35 (undef),.c 36 (.bool false),.c 37 (.bool false)]
              (by kernel_rfl) rfl (by kernel_rfl) ?owed ?post
             case owed =>
              refine ⟨?g0,?g1,?g2,?g3,?g4,?g5,?g6,?g7,?g8,?g9,?g10,?g11,?g12,?g13,?g14,?g15,?g16,?g17,?g18,?g19,?g20,?g21,?g22,?g23,?g24,?g25,?g26,?g27,?g28,?g29,?g30,?g31,?g32,?g33,?g34,?g35,?g36,?g37,trivial⟩
              case g0=>
               as_aux_lemma =>
               intro v w1 hx;intro bb hbb;have fo0:bb.eval (.tmp 6)=.int .i64 0:=fzd08
               clear hbb;refine ⟨_,fun w=>?_,rfl⟩;unfold execOp;simp only [fo0];clear fo0;go_simp
              case g1=>
               as_aux_lemma =>
               intro v w1 hx;intro bb hbb;have fo0:bb.eval (.tmp 10)=.int .i64 0:=fzd08
               clear hbb;refine ⟨_,fun w=>?_,rfl⟩;unfold execOp;simp only [fo0];clear fo0;go_simp
              case g2=>
               intro v w1 hx;(repeat intro (zq:v _=_));intro bb hbb;have fo0:bb.eval (.tmp 62)=.int .i64 0:=fza08
               have fo1:bb.eval (.tmp 63)=.int .i64 0:=fza08
               clear hbb;refine ⟨_,fun w=>?_,rfl⟩;unfold execOp;simp only [fo0,fo1];clear fo0 fo1;go_simp
               all_goals (first | rfl | decide | assumption)
              case g3=>
               as_aux_lemma =>
               intro v w1 hx;intro bb hbb;have fo0:bb.eval (.tmp 12)=.int .i64 0:=fzd08
               clear hbb;refine ⟨_,fun w=>?_,rfl⟩;unfold execOp;simp only [fo0];clear fo0;go_simp
              case g4=>
               intro v w1 hx;(repeat intro (zq:v _=_));intro bb hbb;have fo0:bb.eval (.tmp 64)=.int .i64 0:=fza08
               have fo1:bb.eval (.tmp 65)=.int .i64 0:=fza08
               clear hbb;refine ⟨_,fun w=>?_,rfl⟩;unfold execOp;simp only [fo0,fo1];clear fo0 fo1;go_simp
               all_goals (first | rfl | decide | assumption)
              case g5=>
               as_aux_lemma =>
               intro v w1 hx;(repeat intro (zq:v _=_));intro bb hbb;have fo0:bb.eval (.tmp 66)=.int .i64 0:=fza08
               clear hbb;refine ⟨_,fun w=>?_,rfl⟩;unfold execOp;simp only [fo0];clear fo0;go_simp
              case g6=>
               as_aux_lemma =>
               intro v w1 hx;(repeat intro (zq:v _=_));intro bb hbb;have fo0:bb.eval (.tmp 67)=.bool false:=fza08
               clear hbb;refine ⟨_,fun w=>?_,rfl⟩;unfold execOp;simp only [fo0];clear fo0;go_simp
              case g7=>
               as_aux_lemma =>
               intro v w1 hx;(repeat intro (zq:v _=_));intro bb hbb;refine Flow.Q0l (d:=68) rfl rfl fzb08 fzc08 ?_
               have fo0:bb.eval (.tmp 11)=.pointer (some ⟨gc,0,none⟩):=fzd08
               clear hbb;refine ⟨_,fun w=>?_,rfl⟩;unfold execOp;simp only [fo0];clear fo0;go_simp
              case g8=>
               as_aux_lemma =>
               intro v w1 hx;(repeat intro (zq:v _=_));intro bb hbb;have n0:w1.cell? ⟨gc,1,none⟩=some (.slice Xk nk ck):=(KC.out.ext (hdr.trans hx)).cell 1;refine Flow.Q0l (d:=68) rfl rfl fzb08 fzc08 ?_
               have fo0:bb.eval (.tmp 69)=.pointer (some ⟨gc,1,none⟩):=fza08
               clear hbb;intro K hK;unfold execOp;simp only [fo0];clear fo0;go_simp;exact hK _ _ (Ext.refl _) rfl
              case g9 | g12=>
               as_aux_lemma =>
               intro v w1 hx;(repeat intro (zq:v _=_));intro bb hbb;refine Flow.Q0l (d:=68) rfl rfl fzb08 fzc08 ?_
               subst hbb;refine ⟨_,fun w=>?_,rfl⟩;go_simp
              case g10=>
               as_aux_lemma =>
               intro v w1 hx;(repeat intro (zq:v _=_));intro bb hbb;refine Flow.Q0l (d:=68) rfl rfl fzb08 fzc08 ?_
               have fo0:bb.eval (.tmp 2)=.pointer (some ⟨gs,0,none⟩):=fzd08
               clear hbb;refine ⟨_,fun w=>?_,rfl⟩;unfold execOp;simp only [fo0];clear fo0;go_simp
              case g11=>
               as_aux_lemma =>
               intro v w1 hx;(repeat intro (zq:v _=_));intro bb hbb;have n0:w1.cell? ⟨gs,2,none⟩=some (.slice B M capb):=(KB.out.ext (hdr.trans hx)).cell 2;refine Flow.Q0l (d:=68) rfl rfl fzb08 fzc08 ?_
               have fo0:bb.eval (.tmp 72)=.pointer (some ⟨gs,2,none⟩):=fza08
               clear hbb;intro K hK;unfold execOp;simp only [fo0];clear fo0;go_simp;exact hK _ _ (Ext.refl _) rfl
              case g13=>
               as_aux_lemma =>
               intro v w1 hx;(repeat intro (zq:v _=_));intro bb hbb;refine Flow.Q0l (d:=68) rfl rfl fzb08 fzc08 ?_
               have fo0:bb.eval (.tmp 71)=.int .i64 ((nk:Nat):Int):=fza08
               have fo1:bb.eval (.tmp 74)=.int .i64 ((M:Nat):Int):=fza08
               clear hbb;refine ⟨_,fun w=>?_,rfl⟩;unfold execOp;simp only [fo0,fo1];clear fo0 fo1;go_simp
              case g14=>
               as_aux_lemma =>
               intro v w1 hx;(repeat intro (zq:v _=_));intro bb hbb;have fo0:bb.eval (.tmp 68)=.bool false:=fza08
               have fo1:bb.eval (.tmp 75)=.bool false:=fza08
               clear hbb;refine ⟨_,fun w=>?_,rfl⟩;unfold execOp;simp only [fo0,fo1];clear fo0 fo1;go_simp
              case g15=>
               as_aux_lemma =>
               intro v w1 hx;(repeat intro (zq:v _=_));intro bb hbb;have fo0:bb.eval (.tmp 76)=.bool false:=fza08
               clear hbb;refine ⟨_,fun w=>?_,rfl⟩;unfold execOp;simp only [fo0];clear fo0;go_simp
              case g16=>
               as_aux_lemma =>
               intro v w1 hx;(repeat intro (zq:v _=_));intro bb hbb;refine Flow.Q0l (d:=77) rfl rfl fzb08 fzc08 ?_
               intro K2 hK2;have o1:bb.eval (.tmp 2)=.pointer (some ⟨gs,0,none⟩):=fze08
               exact Q0p (.tmp 2) _ rfl Tryz.J4p Tryz.J3d o1 (KB.out.ext (hdr.trans hx)) rfl (hK2 _ _ (Ext.refl _) rfl)
              case g17=>
               as_aux_lemma =>
               intro v w1 hx;(repeat intro (zq:v _=_));intro bb hbb;refine Flow.Q0l (d:=77) rfl rfl fzb08 fzc08 ?_
               subst hbb;intro K2 hK2;go_simp;refine Q0e (Z9u w1 _ s (HSEA.out _ (H2.out.ext (hdr.trans hx))) HS.out) ?_;rintro e w2 ⟨u,rfl,hu,hx2⟩;exact ⟨_,rfl,hK2 _ _ hx2 hu⟩
              case g18=>
               as_aux_lemma =>
               intro v w1 hx;(repeat intro (zq:v _=_));intro bb hbb;refine Flow.Q0l (d:=77) rfl rfl fzb08 fzc08 ?_
               have fo0:bb.eval (.tmp 5)=.int .i64 me:=fzd08
               clear hbb;refine ⟨_,fun w=>?_,rfl⟩;unfold execOp;simp only [fo0];clear fo0;go_simp
              case g19=>
               as_aux_lemma =>
               intro v w1 hx;(repeat intro (zq:v _=_));intro bb hbb;refine Flow.Q0l (d:=77) rfl rfl fzb08 fzc08 ?_
               intro K2 hK2;have o1:bb.eval (.tmp 11)=.pointer (some ⟨gc,0,none⟩):=fze08
               exact Q0p (.tmp 11) _ rfl Tryz.J6c Tryz.J2x o1 (KC.out.ext (hdr.trans hx)) rfl (hK2 _ _ (Ext.refl _) rfl)
              case g20=>
               as_aux_lemma =>
               intro v w1 hx (q15:v 15=_) _ (q19:v 19=_);intro bb hbb;refine Flow.Q0l (d:=77) rfl rfl fzb08 (by rw [hbb]; dsimp only; (try simp (discharger:=decide) only [eval_put_ne]); rw [Q0a (by simp only [size_put]; exact (by decide:77 < 212))]; exact q15) ?_
               intro K2 hK2;have o1:bb.eval (.tmp 81)=.agg #[.slice Xp nb cp,.slice Xk nk ck]:=by rw [hbb]; dsimp only; (try simp (discharger:=decide) only [eval_put_ne]); rw [Q0a (by simp only [size_put]; exact (by decide:81 < 212))]; exact q19
               refine X5o (x:=.tmp 81) rfl (enters_of Tryz.func80 (by kernel_rfl) rfl) o1 (J2n w1 _ _ p1 (Q3r s p1) (FR.out.ext (hdr.trans hx)) (FK.out.ext (hdr.trans hx)) HPL.out HP8.out HK4.out) ?_
               rintro e w2 ⟨⟨u,v,rfl,hu,hv⟩,hx2⟩;exact ⟨_,rfl,hK2 _ _ hx2 ⟨_,_,rfl,hu,hv⟩⟩
              case g21=>
               as_aux_lemma =>
               intro v w1 hx (q15:v 15=_) (q17:(fun v w'=>Q0h w' (v 17) s) v w1) (q18:v 18=_) (q20:(fun v w'=>∃ x y,v 20=.agg #[x,y] /\ Q3m w' x p1 /\ Q0d w' y (Q3r s p1)) v w1);intro bb hbb;refine Flow.Q0l (d:=77) rfl rfl fzb08 (by rw [hbb]; dsimp only; (try simp (discharger:=decide) only [eval_put_ne]); rw [Q0a (by simp only [size_put]; exact (by decide:77 < 212))]; exact q15) ?_
               intro K2 hK2;obtain ⟨x,y,e20,hx20,hy20⟩:=q20;have o0:bb.eval (.tmp 79)=v 17:=by rw [hbb]; dsimp only; (try simp (discharger:=decide) only [eval_put_ne]); rw [Q0a (by simp only [size_put]; exact (by decide:79 < 212))]
               have o1:bb.eval (.tmp 80)=.int .i64 (me):=by rw [hbb]; dsimp only; (try simp (discharger:=decide) only [eval_put_ne]); rw [Q0a (by simp only [size_put]; exact (by decide:80 < 212))]; exact q18
               have o2:bb.eval (.tmp 82)=.agg #[x,y]:=by rw [hbb]; dsimp only; (try simp (discharger:=decide) only [eval_put_ne]); rw [Q0a (by simp only [size_put]; exact (by decide:82 < 212))]; exact e20
               refine X4o (x:=.tmp 79) (y:=(.tmp 80)) (z:=.tmp 82) rfl (enters_of Tryz.func76 (by kernel_rfl) rfl) o0 o1 o2 (J2o w1 (v 17) x y s (me) p1 (Q3r s p1) q17 hx20 hy20 HS.out HP1.out) ?_
               rintro e w2 ⟨rfl,hx2⟩;exact ⟨_,rfl,hK2 _ _ hx2 (congrArg (Value.int .i64) (HCF.out.1))⟩
              case g22=>
               as_aux_lemma =>
               intro v w1 hx;(repeat intro (zq:v _=_));intro bb hbb;refine Flow.Q0l (d:=77) rfl rfl fzb08 fzc08 ?_
               have fo0:bb.eval (.tmp 83)=.int .i64 0:=fza08
               clear hbb;refine ⟨_,fun w=>?_,rfl⟩;unfold execOp;simp only [fo0];clear fo0;go_simp
              case g23=>
               as_aux_lemma =>
               intro v w1 hx;(repeat intro (zq:v _=_));intro bb hbb;have fo0:bb.eval (.tmp 77)=.bool false:=fza08
               have fo1:bb.eval (.tmp 84)=.bool false:=fza08
               clear hbb;refine ⟨_,fun w=>?_,rfl⟩;unfold execOp;simp only [fo0,fo1];clear fo0 fo1;go_simp
              case g24=>
               as_aux_lemma =>
               intro v w1 hx;(repeat intro (zq:v _=_));intro bb hbb;have fo0:bb.eval (.tmp 85)=.bool false:=fza08
               clear hbb;refine ⟨_,fun w=>?_,rfl⟩;unfold execOp;simp only [fo0];clear fo0;go_simp
              case g25=>
               as_aux_lemma =>
               intro v w1 hx;(repeat intro (zq:v _=_));intro bb hbb;refine Flow.Q0l (d:=86) rfl rfl fzb08 fzc08 ?_
               have fo0:bb.eval (.tmp 5)=.int .i64 me:=fzd08
               clear hbb;refine ⟨_,fun w=>?_,rfl⟩;unfold execOp;simp only [fo0];clear fo0;go_simp
              case g26=>
               as_aux_lemma =>
               intro v w1 hx;(repeat intro (zq:v _=_));intro bb hbb;refine Flow.Q0l (d:=86) rfl rfl fzb08 fzc08 ?_
               have fo0:bb.eval (.tmp 87)=.int .i64 me:=fza08
               clear hbb;refine ⟨_,fun w=>?_,rfl⟩;unfold execOp;simp only [fo0];clear fo0;go_simp
              case g27=>
               as_aux_lemma =>
               intro v w1 hx;(repeat intro (zq:v _=_));intro bb hbb;refine Flow.Q0l (d:=86) rfl rfl fzb08 fzc08 ?_
               have fo0:bb.eval (.tmp 88)=.bool false:=fza08
               clear hbb;refine ⟨_,fun w=>?_,rfl⟩;unfold execOp;simp only [fo0];clear fo0;go_simp
              case g28 | g29 | g30 | g32 | g33 | g34 | g35=>
               as_aux_lemma =>
               intro v w1 hx;(repeat intro (zq:v _=_));intro bb hbb;exact Flow.Q1c (d:=89) rfl rfl fzb08 fzc08 rfl
              case g31=>
               intro v w1 hx;(repeat intro (zq:v _=_));intro bb hbb;exact Flow.Q1c (d:=89) rfl rfl fzb08 fzc08 rfl
              case g36=>
               as_aux_lemma =>
               intro v w1 hx;(repeat intro (zq:v _=_));intro bb hbb;refine Flow.Q0l (d:=86) rfl rfl fzb08 fzc08 ?_
               have fo0:bb.eval (.tmp 89)=.bool false:=fza08
               have fo1:bb.eval (.tmp 97)=undef:=fza08
               clear hbb;refine ⟨_,fun w=>?_,rfl⟩;unfold execOp;simp only [fo0,fo1];clear fo0 fo1;go_simp
              case g37=>
               as_aux_lemma =>
               intro v w1 hx;(repeat intro (zq:v _=_));intro bb hbb;have fo0:bb.eval (.tmp 86)=.bool false:=fza08
               have fo1:bb.eval (.tmp 98)=.bool false:=fza08
               clear hbb;refine ⟨_,fun w=>?_,rfl⟩;unfold execOp;simp only [fo0,fo1];clear fo0 fo1;go_simp
             case post =>
              intro v w1 hx;(iterate 17 intro (zq:v _=_));intro (q17:(fun v w'=>Q0h w' (v 17) s) v w1);(iterate 2 intro (zq:v _=_));intro (q20:(fun v w'=>∃ x y,v 20=.agg #[x,y] /\ Q3m w' x p1 /\ Q0d w' y (Q3r s p1)) v w1);(iterate 17 intro (zq:v _=_));simp only [Flow.All,Flow.acts,Act.put];go_simp;go_wp2_with fail;go_meet;exact ⟨rfl,hdr.trans hx⟩
          case rest =>
           obtain ⟨rfl,hcut⟩:=hcut;replace HXA:=hid (HXA.out.trans hcut);replace HWD:=hid (HWD.out.ext hcut);replace H2:=hid (H2.out.ext hcut);replace KB:=hid (KB.out.ext hcut);replace FB:=hid (FB.out.ext hcut);replace KP:=hid (KP.out.ext hcut);replace KC:=hid (KC.out.ext hcut);replace FR:=hid (FR.out.ext hcut);replace FK:=hid (FK.out.ext hcut);obtain ⟨z11,rfl⟩:∃ X,X=wc:=⟨_,rfl⟩;clear hcut;go_upto_if 99 with fail
           go_step
           go_step
           go_step
           go_step
           exact J9i HXA HWD H2 KB KC FR FK HSEA HS HE HVS HM HPR HRN HMB HNB HNK _ rfl rfl rfl rfl rfl
       . skip
         obtain ⟨rn,hrn⟩:∃ z,Q0f need 0 8000=z:=⟨_,rfl⟩;rw [hrn] at hr ⊢;have hr0:(rn != 0)=true:=by simp [hr]
         clear hrn;go_wp2_with fail;refine (J0d _ HWD.out).mono ?_;rintro e z5 ⟨rfl,hx⟩;have hxx:Ext z4 z5:=hx;replace HXA:=hid (HXA.out.trans hxx);replace HWD:=hid (HWD.out.ext hxx);replace H2:=hid (H2.out.ext hxx);replace KB:=hid (KB.out.ext hxx);clear hx hxx;go_wp2;go_ret;exact ⟨rfl,HXA.out⟩
   . skip
     obtain ⟨E,hE⟩:∃ E,s.err=E:=⟨_,rfl⟩;rw [hE] at he ⊢;have hE0:(E != 0)=true:=by simp [he]
     clear hE;go_wp2_with fail;refine (J0d _ HWD.out).mono ?_;rintro e z3 ⟨rfl,hx⟩;have hxx:Ext z2 z3:=hx;replace HXA:=hid (HXA.out.trans hxx);replace HWD:=hid (HWD.out.ext hxx);replace H2:=hid (H2.out.ext hxx);replace KB:=hid (KB.out.ext hxx);clear hx hxx;go_wp2;go_ret;exact ⟨rfl,HXA.out⟩
end Go.Proofs
