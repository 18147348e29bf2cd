/- The law PolicyBest. -/
import Derived.Test.YthnobngcipaljaaGreatDoorPp35
import Derived.Test.YthnobngcipaljaaGreatDoorPb04
set_option maxRecDepth 1000000
set_option maxHeartbeats 64000000
set_option linter.unusedVariables false
set_option linter.unusedSimpArgs false
set_option linter.constructorNameAsVariable false
open Go.Lib (hid)
namespace Go.Proofs
open Go.RowKit Go.Tw Go.Flow
attribute [local go_sem] Oper.semAt_some
theorem J4k (w:World) (v:Value) (s:Q0b) (c0 c1 c2 c3:Int) (need:Int) (hv:Q0h w v s) (hcd:∀ c ∈ [c0,c1,c2,c3],c < 2 ^ 63) (hW:Words w) :
    Calls Tryz.prog 4 #[v,.agg #[.int .i64 c0,.int .i64 c1,.int .i64 c2,.int .i64 c3],.int .i64 need] w fun e w'=>e=.returned (.bool true) /\ Ext w w':=by
 obtain ⟨a,b,rfl,h2⟩:=hv;obtain ⟨A,capa,rfl,-,-,-⟩:=h2.ships.opened;obtain ⟨B,capb,rfl,-,-,-⟩:=h2.members.opened;have HXA:=hid (Ext.refl w);have HWD:=hid hW;have H2:=hid h2;obtain ⟨T,hT⟩:∃ T,s.ships.length=T:=⟨_,rfl⟩;have HT:=hid hT;obtain ⟨M,hM⟩:∃ M,s.members.length=M:=⟨_,rfl⟩;have HM:=hid hM;obtain ⟨lim,hlim⟩:∃ k,s.limit=k:=⟨_,rfl⟩;have HLIM:=hid hlim;have HSEA:Hid (∀ W,Q7y W (.slice A T capa) (.slice B M capb) s -> Q0h W (.agg #[.int .i64 lim,.slice A T capa,.slice B M capb]) s):=hid (fun W h=>⟨_,_,by rw [hlim],h⟩)
 rw [hT,hM] at H2;rw [hT,hM,hlim];clear hW h2 hT hM hlim;go_enter Tryz.func4,Tryz.ntmps4;have HCD:=hid (J7t hcd);clear hcd;go_wp2_with fail;change Calls _ _ _ ((w.alloc (.cells #[.int .i64 lim,.slice A T capa,.slice B M capb] 25)).alloc (.cells #[.int .i64 c0,.int .i64 c1,.int .i64 c2,.int .i64 c3] 54)) _;obtain ⟨W,hWW,k0,k1,HXW,eW⟩:=Q4e w 25 #[.int .i64 lim,.slice A T capa,.slice B M capb] 54 #[.int .i64 c0,.int .i64 c1,.int .i64 c2,.int .i64 c3];rw [hWW];clear hWW;refine (Z8x _ _ s (HSEA.out _ (H2.out.ext HXW.out))).mono ?_;rintro e w1 ⟨q,rfl,hq,hx⟩;have hxx:Ext w w1:=HXW.out.trans hx;replace HXA:=hid (HXA.out.trans hxx);replace HWD:=hid (HWD.out.ext hxx);replace H2:=hid (H2.out.ext hxx);have KB:=hid (k0.ext hx);have KA:=hid (k1.ext hx);clear hx hxx HXW eW k0 k1;obtain ⟨gs,hgs⟩:∃ z,w.heap.size=z:=⟨_,rfl⟩;rw [hgs] at KB KA ⊢;clear hgs;cases q with
 | false =>
   clear hq;go_wp2_with fail;refine (J0d _ HWD.out).mono ?_;rintro e w2 ⟨rfl,hx⟩;have hxx:Ext w1 w2:=hx;replace HXA:=hid (HXA.out.trans hxx);replace HWD:=hid (HWD.out.ext hxx);replace H2:=hid (H2.out.ext hxx);replace KB:=hid (KB.out.ext hxx);replace KA:=hid (KA.out.ext hxx);clear hx hxx;go_wp2;go_ret;exact ⟨rfl,HXA.out⟩
 | true =>
   have hs:Q3k s:=hq.1 rfl;have HS:=hid hs;clear hs hq;have d0KB:=KB.out.cell 0;have d1KB:=KB.out.cell 1;have d2KB:=KB.out.cell 2;simp only [Go.Tw.gA,Go.Tw.gB,Go.Tw.gC] at d0KB d1KB d2KB;go_wp2_with fail;refine (Z0w _ _ s (HSEA.out _ H2.out)).mono ?_;rintro e w2 ⟨rfl,hx⟩;have hxx:Ext w1 w2:=hx;replace HXA:=hid (HXA.out.trans hxx);replace HWD:=hid (HWD.out.ext hxx);replace H2:=hid (H2.out.ext hxx);replace KB:=hid (KB.out.ext hxx);replace KA:=hid (KA.out.ext hxx);clear hx hxx d0KB d1KB d2KB
   by_cases he:s.err=0
   . skip
     have HE:=hid he;have hvs:=Q1b.of he;have HVS:=hid hvs;rw [he];clear he hvs;have d0KB:=KB.out.cell 0;have d1KB:=KB.out.cell 1;have d2KB:=KB.out.cell 2;simp only [Go.Tw.gA,Go.Tw.gB,Go.Tw.gC] at d0KB d1KB d2KB;go_wp2_with fail;refine (J7g _ _ s (HSEA.out _ H2.out) HE.out).mono ?_;rintro e w3 ⟨rfl,hx⟩;have hxx:Ext w2 w3:=hx;replace HXA:=hid (HXA.out.trans hxx);replace HWD:=hid (HWD.out.ext hxx);replace H2:=hid (H2.out.ext hxx);replace KB:=hid (KB.out.ext hxx);replace KA:=hid (KA.out.ext hxx);clear hx hxx d0KB d1KB d2KB;obtain ⟨fb,hfb⟩:∃ z,J7x s=z:=⟨_,rfl⟩;have HFB:=hid hfb;rw [hfb];clear hfb;cases fb with
     | false =>
       go_wp2_with fail;refine (J0d _ HWD.out).mono ?_;rintro e w4 ⟨rfl,hx⟩;have hxx:Ext w3 w4:=hx;replace HXA:=hid (HXA.out.trans hxx);replace HWD:=hid (HWD.out.ext hxx);replace H2:=hid (H2.out.ext hxx);replace KB:=hid (KB.out.ext hxx);replace KA:=hid (KA.out.ext hxx);clear hx hxx;go_wp2;go_ret;exact ⟨rfl,HXA.out⟩
     | true =>
       have HF9:Hid (s.hist.length <= 9):=hid (of_decide_eq_true HFB.out);go_wp2_with fail;refine (J6o _ need).mono ?_;rintro e w4 ⟨rfl,hx⟩;have hxx:Ext w3 w4:=hx;replace HXA:=hid (HXA.out.trans hxx);replace HWD:=hid (HWD.out.ext hxx);replace H2:=hid (H2.out.ext hxx);replace KB:=hid (KB.out.ext hxx);replace KA:=hid (KA.out.ext hxx);clear hx hxx
       by_cases hr:Q0f need 0 8000=0
       . skip
         have HRN:=hid hr;rw [hr];clear hr;obtain ⟨x1,hx1,hb1,hb2,hb3⟩:=J7o HVS.out HE.out;have hbl:=J6z HVS.out HE.out HRN.out hx1;obtain ⟨hr1,hr2⟩:=J5y HVS.out HE.out;obtain ⟨me,hme⟩:∃ z,Z5c s=z:=⟨_,rfl⟩;have hme2:Z5e s=me:=by rw [<- hme]; exact if_pos HE.out
         have HM0:=hid (show 0 <= me /\ me <= 8000 by rw [<- hme]; exact ⟨J2y,J3r HVS.out⟩)
         have HKM:Hid (∀ p,Q2c s (Q3r s p) <= me):=hid (fun p=>by rw [<- hme]; exact J5p HVS.out.toFine p)
         have HMB:Hid (me <= Y7i s):=hid (by rw [<- hme]; exact J4z HVS.out)
         rw [hme] at hb1 hb2 hb3 hbl hr1 hr2;have HB1:=hid hb1;have HB2:=hid hb2;have HB3:=hid hb3;have HBL:=hid hbl;have HR1:=hid hr1;have HR2:=hid hr2;have HME:=hid hme2;clear hx1 hb1 hb2 hb3 hbl hr1 hr2 hme hme2;have d0KB:=KB.out.cell 0;have d1KB:=KB.out.cell 1;have d2KB:=KB.out.cell 2;simp only [Go.Tw.gA,Go.Tw.gB,Go.Tw.gC] at d0KB d1KB d2KB;go_wp2_with fail;refine (Z9u _ _ s (HSEA.out _ H2.out) HS.out).mono ?_;rintro e w5 ⟨g1,rfl,hg,hx⟩;have hxx:Ext w4 w5:=hx;replace HXA:=hid (HXA.out.trans hxx);replace HWD:=hid (HWD.out.ext hxx);replace H2:=hid (H2.out.ext hxx);replace KB:=hid (KB.out.ext hxx);replace KA:=hid (KA.out.ext hxx);clear hx hxx d0KB d1KB d2KB;have HG:=hid hg;clear hg;go_wp2_with fail;refine (Z1m _ _ s HG.out HS.out HF9.out).mono ?_;rintro e w6 ⟨rfl,hx⟩;have hxx:Ext w5 w6:=hx;replace HXA:=hid (HXA.out.trans hxx);clear HG;replace HWD:=hid (HWD.out.ext hxx);replace H2:=hid (H2.out.ext hxx);replace KB:=hid (KB.out.ext hxx);replace KA:=hid (KA.out.ext hxx);clear hx hxx;rw [HE.out,HME.out];have d0KB:=KB.out.cell 0;have d1KB:=KB.out.cell 1;have d2KB:=KB.out.cell 2;simp only [Go.Tw.gA,Go.Tw.gB,Go.Tw.gC] at d0KB d1KB d2KB;go_wp2_with fail;refine (Z9u _ _ s (HSEA.out _ H2.out) HS.out).mono ?_;rintro e w7 ⟨g2,rfl,hg,hx⟩;have hxx:Ext w6 w7:=hx;replace HXA:=hid (HXA.out.trans hxx);replace HWD:=hid (HWD.out.ext hxx);replace H2:=hid (H2.out.ext hxx);replace KB:=hid (KB.out.ext hxx);replace KA:=hid (KA.out.ext hxx);clear hx hxx d0KB d1KB d2KB;have HG:=hid hg;clear hg;go_wp2_with fail;refine (Y1e _ _ s me HG.out HS.out HF9.out).mono ?_;rintro e w8 ⟨⟨xb,rfl,hb⟩,hx⟩;have hxx:Ext w7 w8:=hx;replace HXA:=hid (HXA.out.trans hxx);clear HG;replace HWD:=hid (HWD.out.ext hxx);replace H2:=hid (H2.out.ext hxx);replace KB:=hid (KB.out.ext hxx);replace KA:=hid (KA.out.ext hxx);clear hx hxx;rw [HB1.out];rw [HB2.out] at hb;obtain ⟨Xb,cb,rfl,-,-,-⟩:=hb.opened;obtain ⟨nb,hnb⟩:∃ z,(X7b s x1).length=z:=⟨_,rfl⟩;have HNB:=hid hnb;rw [hnb] at hb ⊢;clear hnb;have FB:=hid hb;clear hb;obtain ⟨n1,hn1⟩:∃ z,x1.closings=z:=⟨_,rfl⟩;obtain ⟨d1,hd1⟩:∃ z,x1.delay=z:=⟨_,rfl⟩;rw [hn1,hd1] at HBL;rw [hn1,hd1];clear hn1 hd1;have hbx:=Ext.box w8 (.cells #[.slice Xb nb cb] 38);have d0KB:=(KB.out.ext hbx).cell 0;have d1KB:=(KB.out.ext hbx).cell 1;have d2KB:=(KB.out.ext hbx).cell 2;simp only [Go.Tw.gA,Go.Tw.gB,Go.Tw.gC] at d0KB d1KB d2KB;go_wp2_with fail;change Calls _ _ _ (w8.alloc (.cells #[.slice Xb nb cb] 38)) _;obtain ⟨W,hWW,k0,HXW,eW⟩:=Q1t w8 38 #[.slice Xb nb cb];rw [hWW];clear hWW;refine (Z9u _ _ s (HSEA.out _ (H2.out.ext HXW.out)) HS.out).mono ?_;rintro e w9 ⟨g3,rfl,hg,hx⟩;have hxx:Ext w8 w9:=HXW.out.trans hx;replace HXA:=hid (HXA.out.trans hxx);replace HWD:=hid (HWD.out.ext hxx);replace H2:=hid (H2.out.ext hxx);replace KB:=hid (KB.out.ext hxx);replace KA:=hid (KA.out.ext hxx);replace FB:=hid (FB.out.ext hxx);have KP:=hid (k0.ext hx);clear hx hxx HXW eW k0 hbx d0KB d1KB d2KB;have HG:=hid hg;clear hg;obtain ⟨gp,hgp⟩:∃ z,w8.heap.size=z:=⟨_,rfl⟩;rw [hgp] at KP ⊢;clear hgp;go_wp2_with fail;refine (Y1e _ _ s need HG.out HS.out HF9.out).mono ?_;rintro e w10 ⟨⟨xn,rfl,hb⟩,hx⟩;have hxx:Ext w9 w10:=hx;replace HXA:=hid (HXA.out.trans hxx);clear HG;replace HWD:=hid (HWD.out.ext hxx);replace H2:=hid (H2.out.ext hxx);replace KB:=hid (KB.out.ext hxx);replace KA:=hid (KA.out.ext hxx);replace FB:=hid (FB.out.ext hxx);replace KP:=hid (KP.out.ext hxx);clear hx hxx;obtain ⟨Xn,cn,rfl,-,-,-⟩:=hb.opened;clear hb;obtain ⟨n2,hn2⟩:∃ z,(X9c s need).1=z:=⟨_,rfl⟩;obtain ⟨d2,hd2⟩:∃ z,(X9c s need).2.1=z:=⟨_,rfl⟩;obtain ⟨e3,he3⟩:∃ z,(X9c s need).2.2=z:=⟨_,rfl⟩;obtain ⟨nn,hnn⟩:∃ z,(Y1g s need).length=z:=⟨_,rfl⟩;rw [hn2,hd2,he3] at HBL;rw [hn2,hd2,he3,hnn];clear hn2 hd2 he3 hnn;have hxp:=Ext.box w10 (.cells #[.slice Xn nn cn] 38);have hbp:=Blk.made w10 38 #[.slice Xn nn cn];replace HXA:=hid (HXA.out.trans hxp)
         replace HWD:=hid (HWD.out.ext hxp);replace H2:=hid (H2.out.ext hxp);replace KB:=hid (KB.out.ext hxp);replace KA:=hid (KA.out.ext hxp);replace FB:=hid (FB.out.ext hxp);replace KP:=hid (KP.out.ext hxp);go_upto_region 6 with fail;obtain ⟨gn,hgn⟩:∃ z,w10.heap.size=z:=⟨_,rfl⟩;obtain ⟨w11,hwt⟩:∃ Z,w10.alloc (.cells #[.slice Xn nn cn] 38)=Z:=⟨_,rfl⟩;rw [hwt,hgn] at hbp;rw [hwt] at HXA HWD H2 KB KA FB KP;rw [hwt,hgn];have KN:=hid hbp;clear hbp hwt hgn hxp
         go_cut [126] (fun x wx=>x=.bool false /\ Ext w11 wx)
         case first =>
          have HPB:Hid (∀ W,Q3m W (.slice Xb nb cb) (X7b s x1) -> Q0w W (.agg #[.slice Xb nb cb]) (X7b s x1)):=hid (fun W h=>⟨_,rfl,h⟩);have HPL:Hid ((X7b s x1).length <= 4096):=hid (by have:=Z5n HVS.out; unfold X7b; rw [List.length_map]; omega)
          rcases HBL.out.two with ⟨rfl,hlt⟩ | ⟨rfl,hle,hcc⟩
          . skip
            have hd:decide (need <= me)=false:=decide_eq_false hlt;go_wp2_with fail;have hdr:=(Ext.refl w11).drew;refine Flow.Q1o [.p,.p,.p,.p,.p,.p,.p,.w,.w,.w,.w,.p,.p,.p,.p,.p,.p,.p,.p,.p,.p,.p,.p,.p,.p,.p,.p,.p,.p,.p,.p,.p,.p,.p,.p,.p,.p,.p,.p,.p,.p,.p,.p,.p,.p,.p,.p,.p] [0,1,2,3,4,5,6,7,8,9,10,11,12,13,14,15,16,17,18,19,20,21,22,23,24,25,26,27,28,29,30,31,32,33,34,35,36,37,38,39,40,41,42,43,44,45,46,47] [[],[0],[1],[2],[2,3],[2,4],[2,5],[6],[6],[6,8],[6,7,9],[6,10],[6,11],[10,12],[13],[13,14],[13],[13],[13,16,17],[13,15,18],[13,19],[13,20],[21],[21,22],[21,23],[24],[24,25],[21,24,26],[21,27],[24,28],[29],[29,30],[29,31],[32],[32],[32,33,34],[32,35],[36],[36],[36,37,38],[36,39],[40],[40],[40,41,42],[36,40,43],[32,36,44],[29,32,45],[29,46]]
             [.c 0 (.int .i64 0),.c 1 (.bool false),.c 2 (.bool false),.c 3 (.int .i64 0),.c 4 (.bool false),.c 5 (.bool false),.c 6 (.bool false),.c 7 (.agg #[.int .i64 lim,.slice A T capa,.slice B M capb]),.c 8 (.agg #[.slice Xb nb cb]),⟨fun v wz=>(fun v w'=>Q0w w' (v 9) (X7b s x1)) v wz,by intro v a b hx h; exact Q0w.ext h hx⟩,.c 10 (.int .i64 0),.c 11 (.bool false),.c 12 (.bool false),.c 13 (.bool false),.c 14 (.int .i64 24),.c 15 (.bool false),.c 16 (.int .i64 need),.c 17 (.int .i64 me),.c 18 (.bool false),.c 19 (.bool false),.c 20 (.bool false),.c 21 (.bool false),.c 22 (.int .i64 24),.c 23 (.bool true),.c 24 (.bool true),.c 25 (.int .i64 24),.c 26 (.bool false),.c 27 (.bool false),.c 28 (.bool false),.c 29 (.bool false),.c 30 (.int .i64 24),.c 31 (.bool false),.c 32 (.bool false),.c 33 (undef),.c 34 (undef),.c 35 (undef),.c 36 (undef),.c 37 (undef),.c 38 (undef),.c 39 (undef),.c 40 (undef),.c 41 (undef),.c 42 (undef),.c 43 (undef),.c 44 (undef),.c 45 (undef),.c 46 (.bool false),.c 47 (.bool false)]
             (by kernel_rfl) rfl (by kernel_rfl) ?owed ?post
            case owed =>
             refine ⟨?g0,?g1,?g2,?g3,?g4,?g5,?g6,?g7,?g8,?g9,?g10,?g11,?g12,?g13,?g14,?g15,?g16,?g17,?g18,?g19,?g20,?g21,?g22,?g23,?g24,?g25,?g26,?g27,?g28,?g29,?g30,?g31,?g32,?g33,?g34,?g35,?g36,?g37,?g38,?g39,?g40,?g41,?g42,?g43,?g44,?g45,?g46,?g47,trivial⟩
             case g0=>
              as_aux_lemma =>
              intro v w1 hx;intro bb hbb;have fo0:bb.eval (.tmp 8)=.int .i64 0:=by rw [hbb]; dsimp only; (try simp (discharger:=decide) only [Flow.eval_put_ne,Flow.J2k]); rfl
              clear hbb;refine ⟨_,fun w=>?_,rfl⟩;unfold execOp;simp only [fo0];clear fo0;go_simp
             case g1=>
              as_aux_lemma =>
              intro v w1 hx;(repeat intro (zq:v _=_));intro bb hbb;have fo0:bb.eval (.tmp 79)=.int .i64 0:=by rw [hbb]; dsimp only; (try simp (discharger:=decide) only [Flow.eval_put_ne,Flow.J2k]); rw [Flow.Q0a (by simp only [Flow.size_put]; exact (by decide:79 < 279))]; assumption
              clear hbb;refine ⟨_,fun w=>?_,rfl⟩;unfold execOp;simp only [fo0];clear fo0;go_simp
             case g2=>
              as_aux_lemma =>
              intro v w1 hx;(repeat intro (zq:v _=_));intro bb hbb;have fo0:bb.eval (.tmp 80)=.bool false:=by rw [hbb]; dsimp only; (try simp (discharger:=decide) only [Flow.eval_put_ne,Flow.J2k]); rw [Flow.Q0a (by simp only [Flow.size_put]; exact (by decide:80 < 279))]; assumption
              clear hbb;refine ⟨_,fun w=>?_,rfl⟩;unfold execOp;simp only [fo0];clear fo0;go_simp
             case g3=>
              as_aux_lemma =>
              intro v w1 hx;(repeat intro (zq:v _=_));intro bb hbb;refine Flow.Q0l (d:=81) rfl rfl (by rw [hbb]; simp only [size_put]; exact (by decide:81 < 279)) (by rw [hbb]; dsimp only; (try simp (discharger:=decide) only [eval_put_ne]); rw [Q0a (by simp only [size_put]; exact (by decide:81 < 279))]; assumption) ?_
              have fo0:bb.eval (.tmp 12)=.int .i64 0:=by rw [hbb]; dsimp only; (try simp (discharger:=decide) only [Flow.eval_put_ne,Flow.J2k]); rfl
              clear hbb;refine ⟨_,fun w=>?_,rfl⟩;unfold execOp;simp only [fo0];clear fo0;go_simp
             case g4=>
              as_aux_lemma =>
              intro v w1 hx;(repeat intro (zq:v _=_));intro bb hbb;refine Flow.Q0l (d:=81) rfl rfl (by rw [hbb]; simp only [size_put]; exact (by decide:81 < 279)) (by rw [hbb]; dsimp only; (try simp (discharger:=decide) only [eval_put_ne]); rw [Q0a (by simp only [size_put]; exact (by decide:81 < 279))]; assumption) ?_
              have fo0:bb.eval (.tmp 82)=.int .i64 0:=by rw [hbb]; dsimp only; (try simp (discharger:=decide) only [Flow.eval_put_ne,Flow.J2k]); rw [Flow.Q0a (by simp only [Flow.size_put]; exact (by decide:82 < 279))]; assumption
              clear hbb;refine ⟨_,fun w=>?_,rfl⟩;unfold execOp;simp only [fo0];clear fo0;go_simp
             case g5=>
              as_aux_lemma =>
              intro v w1 hx;(repeat intro (zq:v _=_));intro bb hbb;have fo0:bb.eval (.tmp 81)=.bool false:=by rw [hbb]; dsimp only; (try simp (discharger:=decide) only [Flow.eval_put_ne,Flow.J2k]); rw [Flow.Q0a (by simp only [Flow.size_put]; exact (by decide:81 < 279))]; assumption
              have fo1:bb.eval (.tmp 83)=.bool false:=by rw [hbb]; dsimp only; (try simp (discharger:=decide) only [Flow.eval_put_ne,Flow.J2k]); rw [Flow.Q0a (by simp only [Flow.size_put]; exact (by decide:83 < 279))]; assumption
              clear hbb;refine ⟨_,fun w=>?_,rfl⟩;unfold execOp;simp only [fo0,fo1];clear fo0 fo1;go_simp
             case g6=>
              as_aux_lemma =>
              intro v w1 hx;(repeat intro (zq:v _=_));intro bb hbb;have fo0:bb.eval (.tmp 84)=.bool false:=by rw [hbb]; dsimp only; (try simp (discharger:=decide) only [Flow.eval_put_ne,Flow.J2k]); rw [Flow.Q0a (by simp only [Flow.size_put]; exact (by decide:84 < 279))]; assumption
              clear hbb;refine ⟨_,fun w=>?_,rfl⟩;unfold execOp;simp only [fo0];clear fo0;go_simp
             case g7=>
              as_aux_lemma =>
              intro v w1 hx;(repeat intro (zq:v _=_));intro bb hbb;refine Flow.Q0l (d:=85) rfl rfl (by rw [hbb]; simp only [size_put]; exact (by decide:85 < 279)) (by rw [hbb]; dsimp only; (try simp (discharger:=decide) only [eval_put_ne]); rw [Q0a (by simp only [size_put]; exact (by decide:85 < 279))]; assumption) ?_
              intro K2 hK2;have o1:bb.eval (.tmp 3)=.pointer (some ⟨gs,0,none⟩):=by rw [hbb]; dsimp only; (try simp (discharger:=decide) only [eval_put_ne]); rfl
              exact Q0p (.tmp 3) _ rfl Tryz.J3v Tryz.J2x o1 (KB.out.ext (hdr.trans hx)) rfl (hK2 _ _ (Ext.refl _) rfl)
             case g8=>
              as_aux_lemma =>
              intro v w1 hx;(repeat intro (zq:v _=_));intro bb hbb;refine Flow.Q0l (d:=85) rfl rfl (by rw [hbb]; simp only [size_put]; exact (by decide:85 < 279)) (by rw [hbb]; dsimp only; (try simp (discharger:=decide) only [eval_put_ne]); rw [Q0a (by simp only [size_put]; exact (by decide:85 < 279))]; assumption) ?_
              intro K2 hK2;have o1:bb.eval (.tmp 9)=.pointer (some ⟨gp,0,none⟩):=by rw [hbb]; dsimp only; (try simp (discharger:=decide) only [eval_put_ne]); rfl
              exact Q0p (.tmp 9) _ rfl Tryz.Q8b Tryz.Q4b o1 (KP.out.ext (hdr.trans hx)) rfl (hK2 _ _ (Ext.refl _) rfl)
             case g9=>
              as_aux_lemma =>
              intro v w1 hx;(repeat intro (zq:v _=_));intro bb hbb;refine Flow.Q0l (d:=85) rfl rfl (by rw [hbb]; simp only [size_put]; exact (by decide:85 < 279)) (by rw [hbb]; dsimp only; (try simp (discharger:=decide) only [eval_put_ne]); rw [Q0a (by simp only [size_put]; exact (by decide:85 < 279))]; assumption) ?_
              subst hbb;intro K hK;go_simp;refine Q0e (Y7d w1 _ (X7b s x1) (HPB.out _ (FB.out.ext (hdr.trans hx))) HPL.out) ?_;rintro e w2 ⟨u,rfl,hu,hx2⟩;exact ⟨_,rfl,hK _ _ hx2 hu⟩
             case g10=>
              as_aux_lemma =>
              intro v w1 hx (q6:v 6=_) (q7:v 7=_) (q9:(fun v w'=>Q0w w' (v 9) (X7b s x1)) v w1);intro bb hbb;refine Flow.Q0l (d:=85) rfl rfl (by rw [hbb]; simp only [size_put]; exact (by decide:85 < 279)) (by rw [hbb]; dsimp only; (try simp (discharger:=decide) only [eval_put_ne]); rw [Q0a (by simp only [size_put]; exact (by decide:85 < 279))]; exact q6) ?_
              subst hbb;intro K hK;go_simp;refine Q0e (J2n w1 _ _ s (X7b s x1) (HSEA.out _ (H2.out.ext (hdr.trans hx))) q9 HE.out) ?_;rintro e w2 ⟨rfl,hx2⟩;exact ⟨_,rfl,hK _ _ hx2 (congrArg (Value.int .i64) (J2r s x1))⟩
             case g11=>
              as_aux_lemma =>
              intro v w1 hx;(repeat intro (zq:v _=_));intro bb hbb;refine Flow.Q0l (d:=85) rfl rfl (by rw [hbb]; simp only [size_put]; exact (by decide:85 < 279)) (by rw [hbb]; dsimp only; (try simp (discharger:=decide) only [eval_put_ne]); rw [Q0a (by simp only [size_put]; exact (by decide:85 < 279))]; assumption) ?_
              have fo0:bb.eval (.tmp 89)=.int .i64 0:=by rw [hbb]; dsimp only; (try simp (discharger:=decide) only [Flow.eval_put_ne,Flow.J2k]); rw [Flow.Q0a (by simp only [Flow.size_put]; exact (by decide:89 < 279))]; assumption
              clear hbb;refine ⟨_,fun w=>?_,rfl⟩;unfold execOp;simp only [fo0];clear fo0;go_simp
             case g12=>
              as_aux_lemma =>
              intro v w1 hx;(repeat intro (zq:v _=_));intro bb hbb;have fo0:bb.eval (.tmp 85)=.bool false:=by rw [hbb]; dsimp only; (try simp (discharger:=decide) only [Flow.eval_put_ne,Flow.J2k]); rw [Flow.Q0a (by simp only [Flow.size_put]; exact (by decide:85 < 279))]; assumption
              have fo1:bb.eval (.tmp 90)=.bool false:=by rw [hbb]; dsimp only; (try simp (discharger:=decide) only [Flow.eval_put_ne,Flow.J2k]); rw [Flow.Q0a (by simp only [Flow.size_put]; exact (by decide:90 < 279))]; assumption
              clear hbb;refine ⟨_,fun w=>?_,rfl⟩;unfold execOp;simp only [fo0,fo1];clear fo0 fo1;go_simp
             case g13=>
              as_aux_lemma =>
              intro v w1 hx;(repeat intro (zq:v _=_));intro bb hbb;have fo0:bb.eval (.tmp 91)=.bool false:=by rw [hbb]; dsimp only; (try simp (discharger:=decide) only [Flow.eval_put_ne,Flow.J2k]); rw [Flow.Q0a (by simp only [Flow.size_put]; exact (by decide:91 < 279))]; assumption
              clear hbb;refine ⟨_,fun w=>?_,rfl⟩;unfold execOp;simp only [fo0];clear fo0;go_simp
             case g14=>
              as_aux_lemma =>
              intro v w1 hx;(repeat intro (zq:v _=_));intro bb hbb;refine Flow.Q0l (d:=92) rfl rfl (by rw [hbb]; simp only [size_put]; exact (by decide:92 < 279)) (by rw [hbb]; dsimp only; (try simp (discharger:=decide) only [eval_put_ne]); rw [Q0a (by simp only [size_put]; exact (by decide:92 < 279))]; assumption) ?_
              have fo0:bb.eval (.tmp 16)=.int .i64 24:=by rw [hbb]; dsimp only; (try simp (discharger:=decide) only [Flow.eval_put_ne,Flow.J2k]); rfl
              clear hbb;refine ⟨_,fun w=>?_,rfl⟩;unfold execOp;simp only [fo0];clear fo0;go_simp
             case g15=>
              as_aux_lemma =>
              intro v w1 hx;(repeat intro (zq:v _=_));intro bb hbb;refine Flow.Q0l (d:=92) rfl rfl (by rw [hbb]; simp only [size_put]; exact (by decide:92 < 279)) (by rw [hbb]; dsimp only; (try simp (discharger:=decide) only [eval_put_ne]); rw [Q0a (by simp only [size_put]; exact (by decide:92 < 279))]; assumption) ?_
              have fo0:bb.eval (.tmp 93)=.int .i64 24:=by rw [hbb]; dsimp only; (try simp (discharger:=decide) only [Flow.eval_put_ne,Flow.J2k]); rw [Flow.Q0a (by simp only [Flow.size_put]; exact (by decide:93 < 279))]; assumption
              clear hbb;refine ⟨_,fun w=>?_,rfl⟩;unfold execOp;simp only [fo0];clear fo0;go_simp
             case g16=>
              as_aux_lemma =>
              intro v w1 hx;(repeat intro (zq:v _=_));intro bb hbb;refine Flow.Q0l (d:=92) rfl rfl (by rw [hbb]; simp only [size_put]; exact (by decide:92 < 279)) (by rw [hbb]; dsimp only; (try simp (discharger:=decide) only [eval_put_ne]); rw [Q0a (by simp only [size_put]; exact (by decide:92 < 279))]; assumption) ?_
              have fo0:bb.eval (.tmp 2)=.int .i64 need:=by rw [hbb]; dsimp only; (try simp (discharger:=decide) only [Flow.eval_put_ne,Flow.J2k]); rfl
              clear hbb;refine ⟨_,fun w=>?_,rfl⟩;unfold execOp;simp only [fo0];clear fo0;go_simp
             case g17=>
              as_aux_lemma =>
              intro v w1 hx;(repeat intro (zq:v _=_));intro bb hbb;refine Flow.Q0l (d:=92) rfl rfl (by rw [hbb]; simp only [size_put]; exact (by decide:92 < 279)) (by rw [hbb]; dsimp only; (try simp (discharger:=decide) only [eval_put_ne]); rw [Q0a (by simp only [size_put]; exact (by decide:92 < 279))]; assumption) ?_
              have fo0:bb.eval (.tmp 7)=.int .i64 me:=by rw [hbb]; dsimp only; (try simp (discharger:=decide) only [Flow.eval_put_ne,Flow.J2k]); rfl
              clear hbb;refine ⟨_,fun w=>?_,rfl⟩;unfold execOp;simp only [fo0];clear fo0;go_simp
             case g18=>
              as_aux_lemma =>
              intro v w1 hx;(repeat intro (zq:v _=_));intro bb hbb;refine Flow.Q0l (d:=92) rfl rfl (by rw [hbb]; simp only [size_put]; exact (by decide:92 < 279)) (by rw [hbb]; dsimp only; (try simp (discharger:=decide) only [eval_put_ne]); rw [Q0a (by simp only [size_put]; exact (by decide:92 < 279))]; assumption) ?_
              have fo0:bb.eval (.tmp 95)=.int .i64 need:=by rw [hbb]; dsimp only; (try simp (discharger:=decide) only [Flow.eval_put_ne,Flow.J2k]); rw [Flow.Q0a (by simp only [Flow.size_put]; exact (by decide:95 < 279))]; assumption
              have fo1:bb.eval (.tmp 96)=.int .i64 me:=by rw [hbb]; dsimp only; (try simp (discharger:=decide) only [Flow.eval_put_ne,Flow.J2k]); rw [Flow.Q0a (by simp only [Flow.size_put]; exact (by decide:96 < 279))]; assumption
              clear hbb;refine ⟨_,fun w=>?_,rfl⟩;unfold execOp;simp only [fo0,fo1];clear fo0 fo1;go_simp
             case g19=>
              as_aux_lemma =>
              intro v w1 hx;(repeat intro (zq:v _=_));intro bb hbb;refine Flow.Q0l (d:=92) rfl rfl (by rw [hbb]; simp only [size_put]; exact (by decide:92 < 279)) (by rw [hbb]; dsimp only; (try simp (discharger:=decide) only [eval_put_ne]); rw [Q0a (by simp only [size_put]; exact (by decide:92 < 279))]; assumption) ?_
              have fo0:bb.eval (.tmp 94)=.bool false:=by rw [hbb]; dsimp only; (try simp (discharger:=decide) only [Flow.eval_put_ne,Flow.J2k]); rw [Flow.Q0a (by simp only [Flow.size_put]; exact (by decide:94 < 279))]; assumption
              have fo1:bb.eval (.tmp 97)=.bool false:=by rw [hbb]; dsimp only; (try simp (discharger:=decide) only [Flow.eval_put_ne,Flow.J2k]); rw [Flow.Q0a (by simp only [Flow.size_put]; exact (by decide:97 < 279))]; assumption
              clear hbb;refine ⟨_,fun w=>?_,rfl⟩;unfold execOp;simp only [fo0,fo1];clear fo0 fo1;go_simp
             case g20=>
              as_aux_lemma =>
              intro v w1 hx;(repeat intro (zq:v _=_));intro bb hbb;have fo0:bb.eval (.tmp 92)=.bool false:=by rw [hbb]; dsimp only; (try simp (discharger:=decide) only [Flow.eval_put_ne,Flow.J2k]); rw [Flow.Q0a (by simp only [Flow.size_put]; exact (by decide:92 < 279))]; assumption
              have fo1:bb.eval (.tmp 98)=.bool false:=by rw [hbb]; dsimp only; (try simp (discharger:=decide) only [Flow.eval_put_ne,Flow.J2k]); rw [Flow.Q0a (by simp only [Flow.size_put]; exact (by decide:98 < 279))]; assumption
              clear hbb;refine ⟨_,fun w=>?_,rfl⟩;unfold execOp;simp only [fo0,fo1];clear fo0 fo1;go_simp
             case g21=>
              as_aux_lemma =>
              intro v w1 hx;(repeat intro (zq:v _=_));intro bb hbb;have fo0:bb.eval (.tmp 99)=.bool false:=by rw [hbb]; dsimp only; (try simp (discharger:=decide) only [Flow.eval_put_ne,Flow.J2k]); rw [Flow.Q0a (by simp only [Flow.size_put]; exact (by decide:99 < 279))]; assumption
              clear hbb;refine ⟨_,fun w=>?_,rfl⟩;unfold execOp;simp only [fo0];clear fo0;go_simp
             case g22=>
              as_aux_lemma =>
              intro v w1 hx;(repeat intro (zq:v _=_));intro bb hbb;refine Flow.Q0l (d:=100) rfl rfl (by rw [hbb]; simp only [size_put]; exact (by decide:100 < 279)) (by rw [hbb]; dsimp only; (try simp (discharger:=decide) only [eval_put_ne]); rw [Q0a (by simp only [size_put]; exact (by decide:100 < 279))]; assumption) ?_
              have fo0:bb.eval (.tmp 16)=.int .i64 24:=by rw [hbb]; dsimp only; (try simp (discharger:=decide) only [Flow.eval_put_ne,Flow.J2k]); rfl
              clear hbb;refine ⟨_,fun w=>?_,rfl⟩;unfold execOp;simp only [fo0];clear fo0;go_simp
             case g23=>
              as_aux_lemma =>
              intro v w1 hx;(repeat intro (zq:v _=_));intro bb hbb;refine Flow.Q0l (d:=100) rfl rfl (by rw [hbb]; simp only [size_put]; exact (by decide:100 < 279)) (by rw [hbb]; dsimp only; (try simp (discharger:=decide) only [eval_put_ne]); rw [Q0a (by simp only [size_put]; exact (by decide:100 < 279))]; assumption) ?_
              have fo0:bb.eval (.tmp 101)=.int .i64 24:=by rw [hbb]; dsimp only; (try simp (discharger:=decide) only [Flow.eval_put_ne,Flow.J2k]); rw [Flow.Q0a (by simp only [Flow.size_put]; exact (by decide:101 < 279))]; assumption
              clear hbb;refine ⟨_,fun w=>?_,rfl⟩;unfold execOp;simp only [fo0];clear fo0;go_simp
             case g24=>
              as_aux_lemma =>
              intro v w1 hx;(repeat intro (zq:v _=_));intro bb hbb;refine Flow.Q0l (d:=100) rfl rfl (by rw [hbb]; simp only [size_put]; exact (by decide:100 < 279)) (by rw [hbb]; dsimp only; (try simp (discharger:=decide) only [eval_put_ne]); rw [Q0a (by simp only [size_put]; exact (by decide:100 < 279))]; assumption) ?_
              have fo0:bb.eval (.tmp 102)=.bool true:=by rw [hbb]; dsimp only; (try simp (discharger:=decide) only [Flow.eval_put_ne,Flow.J2k]); rw [Flow.Q0a (by simp only [Flow.size_put]; exact (by decide:102 < 279))]; assumption
              clear hbb;refine ⟨_,fun w=>?_,rfl⟩;unfold execOp;simp only [fo0];clear fo0;go_simp
             case g25=>
              as_aux_lemma =>
              intro v w1 hx;(repeat intro (zq:v _=_));intro bb hbb;refine Flow.Q0l (d:=103) rfl rfl (by rw [hbb]; simp only [size_put]; exact (by decide:103 < 279)) (by rw [hbb]; dsimp only; (try simp (discharger:=decide) only [eval_put_ne]); rw [Q0a (by simp only [size_put]; exact (by decide:103 < 279))]; assumption) ?_
              have fo0:bb.eval (.tmp 16)=.int .i64 24:=by rw [hbb]; dsimp only; (try simp (discharger:=decide) only [Flow.eval_put_ne,Flow.J2k]); rfl
              clear hbb;refine ⟨_,fun w=>?_,rfl⟩;unfold execOp;simp only [fo0];clear fo0;go_simp
             case g26=>
              as_aux_lemma =>
              intro v w1 hx;(repeat intro (zq:v _=_));intro bb hbb;refine Flow.Q0l (d:=103) rfl rfl (by rw [hbb]; simp only [size_put]; exact (by decide:103 < 279)) (by rw [hbb]; dsimp only; (try simp (discharger:=decide) only [eval_put_ne]); rw [Q0a (by simp only [size_put]; exact (by decide:103 < 279))]; assumption) ?_
              have fo0:bb.eval (.tmp 104)=.int .i64 24:=by rw [hbb]; dsimp only; (try simp (discharger:=decide) only [Flow.eval_put_ne,Flow.J2k]); rw [Flow.Q0a (by simp only [Flow.size_put]; exact (by decide:104 < 279))]; assumption
              clear hbb;refine ⟨_,fun w=>?_,rfl⟩;unfold execOp;simp only [fo0];clear fo0;go_simp
             case g27=>
              as_aux_lemma =>
              intro v w1 hx;(repeat intro (zq:v _=_));intro bb hbb;refine Flow.Q0l (d:=100) rfl rfl (by rw [hbb]; simp only [size_put]; exact (by decide:100 < 279)) (by rw [hbb]; dsimp only; (try simp (discharger:=decide) only [eval_put_ne]); rw [Q0a (by simp only [size_put]; exact (by decide:100 < 279))]; assumption) ?_
              have fo0:bb.eval (.tmp 103)=.bool true:=by rw [hbb]; dsimp only; (try simp (discharger:=decide) only [Flow.eval_put_ne,Flow.J2k]); rw [Flow.Q0a (by simp only [Flow.size_put]; exact (by decide:103 < 279))]; assumption
              have fo1:bb.eval (.tmp 105)=.bool false:=by rw [hbb]; dsimp only; (try simp (discharger:=decide) only [Flow.eval_put_ne,Flow.J2k]); rw [Flow.Q0a (by simp only [Flow.size_put]; exact (by decide:105 < 279))]; assumption
              clear hbb;refine ⟨_,fun w=>?_,rfl⟩;unfold execOp;simp only [fo0,fo1];clear fo0 fo1;go_simp
             case g28=>
              as_aux_lemma =>
              intro v w1 hx;(repeat intro (zq:v _=_));intro bb hbb;have fo0:bb.eval (.tmp 100)=.bool false:=by rw [hbb]; dsimp only; (try simp (discharger:=decide) only [Flow.eval_put_ne,Flow.J2k]); rw [Flow.Q0a (by simp only [Flow.size_put]; exact (by decide:100 < 279))]; assumption
              have fo1:bb.eval (.tmp 106)=.bool false:=by rw [hbb]; dsimp only; (try simp (discharger:=decide) only [Flow.eval_put_ne,Flow.J2k]); rw [Flow.Q0a (by simp only [Flow.size_put]; exact (by decide:106 < 279))]; assumption
              clear hbb;refine ⟨_,fun w=>?_,rfl⟩;unfold execOp;simp only [fo0,fo1];clear fo0 fo1;go_simp
             case g29=>
              as_aux_lemma =>
              intro v w1 hx;(repeat intro (zq:v _=_));intro bb hbb;have fo0:bb.eval (.tmp 107)=.bool false:=by rw [hbb]; dsimp only; (try simp (discharger:=decide) only [Flow.eval_put_ne,Flow.J2k]); rw [Flow.Q0a (by simp only [Flow.size_put]; exact (by decide:107 < 279))]; assumption
              clear hbb;refine ⟨_,fun w=>?_,rfl⟩;unfold execOp;simp only [fo0];clear fo0;go_simp
             case g30=>
              as_aux_lemma =>
              intro v w1 hx;(repeat intro (zq:v _=_));intro bb hbb;refine Flow.Q0l (d:=108) rfl rfl (by rw [hbb]; simp only [size_put]; exact (by decide:108 < 279)) (by rw [hbb]; dsimp only; (try simp (discharger:=decide) only [eval_put_ne]); rw [Q0a (by simp only [size_put]; exact (by decide:108 < 279))]; assumption) ?_
              have fo0:bb.eval (.tmp 16)=.int .i64 24:=by rw [hbb]; dsimp only; (try simp (discharger:=decide) only [Flow.eval_put_ne,Flow.J2k]); rfl
              clear hbb;refine ⟨_,fun w=>?_,rfl⟩;unfold execOp;simp only [fo0];clear fo0;go_simp
             case g31=>
              as_aux_lemma =>
              intro v w1 hx;(repeat intro (zq:v _=_));intro bb hbb;refine Flow.Q0l (d:=108) rfl rfl (by rw [hbb]; simp only [size_put]; exact (by decide:108 < 279)) (by rw [hbb]; dsimp only; (try simp (discharger:=decide) only [eval_put_ne]); rw [Q0a (by simp only [size_put]; exact (by decide:108 < 279))]; assumption) ?_
              have fo0:bb.eval (.tmp 109)=.int .i64 24:=by rw [hbb]; dsimp only; (try simp (discharger:=decide) only [Flow.eval_put_ne,Flow.J2k]); rw [Flow.Q0a (by simp only [Flow.size_put]; exact (by decide:109 < 279))]; assumption
              clear hbb;refine ⟨_,fun w=>?_,rfl⟩;unfold execOp;simp only [fo0];clear fo0;go_simp
             case g32=>
              as_aux_lemma =>
              intro v w1 hx;(repeat intro (zq:v _=_));intro bb hbb;refine Flow.Q0l (d:=108) rfl rfl (by rw [hbb]; simp only [size_put]; exact (by decide:108 < 279)) (by rw [hbb]; dsimp only; (try simp (discharger:=decide) only [eval_put_ne]); rw [Q0a (by simp only [size_put]; exact (by decide:108 < 279))]; assumption) ?_
              have fo0:bb.eval (.tmp 110)=.bool false:=by rw [hbb]; dsimp only; (try simp (discharger:=decide) only [Flow.eval_put_ne,Flow.J2k]); rw [Flow.Q0a (by simp only [Flow.size_put]; exact (by decide:110 < 279))]; assumption
              clear hbb;refine ⟨_,fun w=>?_,rfl⟩;unfold execOp;simp only [fo0];clear fo0;go_simp
             case g33 | g34 | g35 | g36 | g45=>
              as_aux_lemma =>
              intro v w1 hx;(repeat intro (zq:v _=_));intro bb hbb;exact Flow.Q1c (d:=111) rfl rfl (by rw [hbb]; simp only [size_put]; exact (by decide:111 < 279)) (by rw [hbb]; dsimp only; (try simp (discharger:=decide) only [eval_put_ne]); rw [Q0a (by simp only [size_put]; exact (by decide:111 < 279))]; assumption) rfl
             case g37 | g38 | g39 | g40 | g44=>
              as_aux_lemma =>
              intro v w1 hx;(repeat intro (zq:v _=_));intro bb hbb;exact Flow.X9j (d:=115) rfl rfl (by rw [hbb]; simp only [size_put]; exact (by decide:115 < 279)) (by rw [hbb]; dsimp only; (try simp (discharger:=decide) only [eval_put_ne]); rw [Q0a (by simp only [size_put]; exact (by decide:115 < 279))]; assumption) rfl
             case g41 | g42 | g43=>
              as_aux_lemma =>
              intro v w1 hx;(repeat intro (zq:v _=_));intro bb hbb;exact Flow.X9j (d:=119) rfl rfl (by rw [hbb]; simp only [size_put]; exact (by decide:119 < 279)) (by rw [hbb]; dsimp only; (try simp (discharger:=decide) only [eval_put_ne]); rw [Q0a (by simp only [size_put]; exact (by decide:119 < 279))]; assumption) rfl
             case g46=>
              as_aux_lemma =>
              intro v w1 hx;(repeat intro (zq:v _=_));intro bb hbb;refine Flow.Q0l (d:=108) rfl rfl (by rw [hbb]; simp only [size_put]; exact (by decide:108 < 279)) (by rw [hbb]; dsimp only; (try simp (discharger:=decide) only [eval_put_ne]); rw [Q0a (by simp only [size_put]; exact (by decide:108 < 279))]; assumption) ?_
              have fo0:bb.eval (.tmp 111)=.bool false:=by rw [hbb]; dsimp only; (try simp (discharger:=decide) only [Flow.eval_put_ne,Flow.J2k]); rw [Flow.Q0a (by simp only [Flow.size_put]; exact (by decide:111 < 279))]; assumption
              have fo1:bb.eval (.tmp 124)=undef:=by rw [hbb]; dsimp only; (try simp (discharger:=decide) only [Flow.eval_put_ne,Flow.J2k]); rw [Flow.Q0a (by simp only [Flow.size_put]; exact (by decide:124 < 279))]; assumption
              clear hbb;refine ⟨_,fun w=>?_,rfl⟩;unfold execOp;simp only [fo0,fo1];clear fo0 fo1;go_simp
             case g47=>
              as_aux_lemma =>
              intro v w1 hx;(repeat intro (zq:v _=_));intro bb hbb;have fo0:bb.eval (.tmp 108)=.bool false:=by rw [hbb]; dsimp only; (try simp (discharger:=decide) only [Flow.eval_put_ne,Flow.J2k]); rw [Flow.Q0a (by simp only [Flow.size_put]; exact (by decide:108 < 279))]; assumption
              have fo1:bb.eval (.tmp 125)=.bool false:=by rw [hbb]; dsimp only; (try simp (discharger:=decide) only [Flow.eval_put_ne,Flow.J2k]); rw [Flow.Q0a (by simp only [Flow.size_put]; exact (by decide:125 < 279))]; assumption
              clear hbb;refine ⟨_,fun w=>?_,rfl⟩;unfold execOp;simp only [fo0,fo1];clear fo0 fo1;go_simp
            case post =>
             intro v w1 hx;(iterate 9 intro (zq:v _=_));intro (q9:(fun v w'=>Q0w w' (v 9) (X7b s x1)) v w1);(iterate 38 intro (zq:v _=_));simp only [Flow.All,Flow.acts,Act.put];go_simp;go_wp2_with fail;go_meet;exact ⟨rfl,hdr.trans hx⟩
          . have hd:decide (need <= me)=true:=decide_eq_true hle
            rcases hcc with hcc | ⟨rfl,hcc⟩
            . skip
              have h1:¬ n1 < n2:=by omega
              have h1d:decide (n1 < n2)=false:=decide_eq_false h1;have h2:(n2 == n1)=false:=by simp; omega
              clear hcc;go_wp2_with fail;have hdr:=(Ext.refl w11).drew;refine Flow.Q1o [.p,.p,.p,.p,.p,.p,.p,.w,.w,.w,.w,.p,.p,.p,.p,.p,.p,.p,.p,.p,.p,.p,.p,.p,.p,.p,.p,.p,.p,.p,.p,.p,.p,.p,.p,.p,.p,.p,.p,.p,.p,.p,.p,.p,.p,.p,.p,.p] [0,1,2,3,4,5,6,7,8,9,10,11,12,13,14,15,16,17,18,19,20,21,22,23,24,25,26,27,28,29,30,31,32,33,34,35,36,37,38,39,40,41,42,43,44,45,46,47] [[],[0],[1],[2],[2,3],[2,4],[2,5],[6],[6],[6,8],[6,7,9],[6,10],[6,11],[10,12],[13],[13,14],[13],[13],[13,16,17],[13,15,18],[13,19],[13,20],[21],[21,22],[21,23],[24],[24,25],[21,24,26],[21,27],[24,28],[29],[29,30],[29,31],[32],[32],[32,33,34],[32,35],[36],[36],[36,37,38],[36,39],[40],[40],[40,41,42],[36,40,43],[32,36,44],[29,32,45],[29,46]]
               [.c 0 (.int .i64 0),.c 1 (.bool false),.c 2 (.bool false),.c 3 (.int .i64 0),.c 4 (.bool false),.c 5 (.bool false),.c 6 (.bool false),.c 7 (.agg #[.int .i64 lim,.slice A T capa,.slice B M capb]),.c 8 (.agg #[.slice Xb nb cb]),⟨fun v wz=>(fun v w'=>Q0w w' (v 9) (X7b s x1)) v wz,by intro v a b hx h; exact Q0w.ext h hx⟩,.c 10 (.int .i64 0),.c 11 (.bool false),.c 12 (.bool false),.c 13 (.bool false),.c 14 (.int .i64 0),.c 15 (.bool true),.c 16 (.int .i64 need),.c 17 (.int .i64 me),.c 18 (.bool true),.c 19 (.bool false),.c 20 (.bool false),.c 21 (.bool false),.c 22 (.int .i64 0),.c 23 (.bool false),.c 24 (.bool false),.c 25 (undef),.c 26 (undef),.c 27 (.bool false),.c 28 (.bool false),.c 29 (.bool false),.c 30 (.int .i64 0),.c 31 (.bool true),.c 32 (.bool true),.c 33 (.int .i64 n2),.c 34 (.int .i64 n1),.c 35 (.bool false),.c 36 (.bool false),.c 37 (.int .i64 n2),.c 38 (.int .i64 n1),.c 39 (.bool false),.c 40 (.bool false),.c 41 (undef),.c 42 (undef),.c 43 (undef),.c 44 (.bool false),.c 45 (.bool false),.c 46 (.bool false),.c 47 (.bool false)]
               (by kernel_rfl) rfl (by kernel_rfl) ?owed ?post
              case owed =>
               refine ⟨?g0,?g1,?g2,?g3,?g4,?g5,?g6,?g7,?g8,?g9,?g10,?g11,?g12,?g13,?g14,?g15,?g16,?g17,?g18,?g19,?g20,?g21,?g22,?g23,?g24,?g25,?g26,?g27,?g28,?g29,?g30,?g31,?g32,?g33,?g34,?g35,?g36,?g37,?g38,?g39,?g40,?g41,?g42,?g43,?g44,?g45,?g46,?g47,trivial⟩
               case g0=>
                as_aux_lemma =>
                intro v w1 hx;intro bb hbb;have fo0:bb.eval (.tmp 8)=.int .i64 0:=by rw [hbb]; dsimp only; (try simp (discharger:=decide) only [Flow.eval_put_ne,Flow.J2k]); rfl
                clear hbb;refine ⟨_,fun w=>?_,rfl⟩;unfold execOp;simp only [fo0];clear fo0;go_simp
               case g1=>
                as_aux_lemma =>
                intro v w1 hx;(repeat intro (zq:v _=_));intro bb hbb;have fo0:bb.eval (.tmp 79)=.int .i64 0:=by rw [hbb]; dsimp only; (try simp (discharger:=decide) only [Flow.eval_put_ne,Flow.J2k]); rw [Flow.Q0a (by simp only [Flow.size_put]; exact (by decide:79 < 279))]; assumption
                clear hbb;refine ⟨_,fun w=>?_,rfl⟩;unfold execOp;simp only [fo0];clear fo0;go_simp
               case g2=>
                as_aux_lemma =>
                intro v w1 hx;(repeat intro (zq:v _=_));intro bb hbb;have fo0:bb.eval (.tmp 80)=.bool false:=by rw [hbb]; dsimp only; (try simp (discharger:=decide) only [Flow.eval_put_ne,Flow.J2k]); rw [Flow.Q0a (by simp only [Flow.size_put]; exact (by decide:80 < 279))]; assumption
                clear hbb;refine ⟨_,fun w=>?_,rfl⟩;unfold execOp;simp only [fo0];clear fo0;go_simp
               case g3=>
                as_aux_lemma =>
                intro v w1 hx;(repeat intro (zq:v _=_));intro bb hbb;refine Flow.Q0l (d:=81) rfl rfl (by rw [hbb]; simp only [size_put]; exact (by decide:81 < 279)) (by rw [hbb]; dsimp only; (try simp (discharger:=decide) only [eval_put_ne]); rw [Q0a (by simp only [size_put]; exact (by decide:81 < 279))]; assumption) ?_
                have fo0:bb.eval (.tmp 12)=.int .i64 0:=by rw [hbb]; dsimp only; (try simp (discharger:=decide) only [Flow.eval_put_ne,Flow.J2k]); rfl
                clear hbb;refine ⟨_,fun w=>?_,rfl⟩;unfold execOp;simp only [fo0];clear fo0;go_simp
               case g4=>
                as_aux_lemma =>
                intro v w1 hx;(repeat intro (zq:v _=_));intro bb hbb;refine Flow.Q0l (d:=81) rfl rfl (by rw [hbb]; simp only [size_put]; exact (by decide:81 < 279)) (by rw [hbb]; dsimp only; (try simp (discharger:=decide) only [eval_put_ne]); rw [Q0a (by simp only [size_put]; exact (by decide:81 < 279))]; assumption) ?_
                have fo0:bb.eval (.tmp 82)=.int .i64 0:=by rw [hbb]; dsimp only; (try simp (discharger:=decide) only [Flow.eval_put_ne,Flow.J2k]); rw [Flow.Q0a (by simp only [Flow.size_put]; exact (by decide:82 < 279))]; assumption
                clear hbb;refine ⟨_,fun w=>?_,rfl⟩;unfold execOp;simp only [fo0];clear fo0;go_simp
               case g5=>
                as_aux_lemma =>
                intro v w1 hx;(repeat intro (zq:v _=_));intro bb hbb;have fo0:bb.eval (.tmp 81)=.bool false:=by rw [hbb]; dsimp only; (try simp (discharger:=decide) only [Flow.eval_put_ne,Flow.J2k]); rw [Flow.Q0a (by simp only [Flow.size_put]; exact (by decide:81 < 279))]; assumption
                have fo1:bb.eval (.tmp 83)=.bool false:=by rw [hbb]; dsimp only; (try simp (discharger:=decide) only [Flow.eval_put_ne,Flow.J2k]); rw [Flow.Q0a (by simp only [Flow.size_put]; exact (by decide:83 < 279))]; assumption
                clear hbb;refine ⟨_,fun w=>?_,rfl⟩;unfold execOp;simp only [fo0,fo1];clear fo0 fo1;go_simp
               case g6=>
                as_aux_lemma =>
                intro v w1 hx;(repeat intro (zq:v _=_));intro bb hbb;have fo0:bb.eval (.tmp 84)=.bool false:=by rw [hbb]; dsimp only; (try simp (discharger:=decide) only [Flow.eval_put_ne,Flow.J2k]); rw [Flow.Q0a (by simp only [Flow.size_put]; exact (by decide:84 < 279))]; assumption
                clear hbb;refine ⟨_,fun w=>?_,rfl⟩;unfold execOp;simp only [fo0];clear fo0;go_simp
               case g7=>
                as_aux_lemma =>
                intro v w1 hx;(repeat intro (zq:v _=_));intro bb hbb;refine Flow.Q0l (d:=85) rfl rfl (by rw [hbb]; simp only [size_put]; exact (by decide:85 < 279)) (by rw [hbb]; dsimp only; (try simp (discharger:=decide) only [eval_put_ne]); rw [Q0a (by simp only [size_put]; exact (by decide:85 < 279))]; assumption) ?_
                intro K2 hK2;have o1:bb.eval (.tmp 3)=.pointer (some ⟨gs,0,none⟩):=by rw [hbb]; dsimp only; (try simp (discharger:=decide) only [eval_put_ne]); rfl
                exact Q0p (.tmp 3) _ rfl Tryz.J3v Tryz.J2x o1 (KB.out.ext (hdr.trans hx)) rfl (hK2 _ _ (Ext.refl _) rfl)
               case g8=>
                as_aux_lemma =>
                intro v w1 hx;(repeat intro (zq:v _=_));intro bb hbb;refine Flow.Q0l (d:=85) rfl rfl (by rw [hbb]; simp only [size_put]; exact (by decide:85 < 279)) (by rw [hbb]; dsimp only; (try simp (discharger:=decide) only [eval_put_ne]); rw [Q0a (by simp only [size_put]; exact (by decide:85 < 279))]; assumption) ?_
                intro K2 hK2;have o1:bb.eval (.tmp 9)=.pointer (some ⟨gp,0,none⟩):=by rw [hbb]; dsimp only; (try simp (discharger:=decide) only [eval_put_ne]); rfl
                exact Q0p (.tmp 9) _ rfl Tryz.Q8b Tryz.Q4b o1 (KP.out.ext (hdr.trans hx)) rfl (hK2 _ _ (Ext.refl _) rfl)
               case g9=>
                as_aux_lemma =>
                intro v w1 hx;(repeat intro (zq:v _=_));intro bb hbb;refine Flow.Q0l (d:=85) rfl rfl (by rw [hbb]; simp only [size_put]; exact (by decide:85 < 279)) (by rw [hbb]; dsimp only; (try simp (discharger:=decide) only [eval_put_ne]); rw [Q0a (by simp only [size_put]; exact (by decide:85 < 279))]; assumption) ?_
                subst hbb;intro K hK;go_simp;refine Q0e (Y7d w1 _ (X7b s x1) (HPB.out _ (FB.out.ext (hdr.trans hx))) HPL.out) ?_;rintro e w2 ⟨u,rfl,hu,hx2⟩;exact ⟨_,rfl,hK _ _ hx2 hu⟩
               case g10=>
                as_aux_lemma =>
                intro v w1 hx (q6:v 6=_) (q7:v 7=_) (q9:(fun v w'=>Q0w w' (v 9) (X7b s x1)) v w1);intro bb hbb;refine Flow.Q0l (d:=85) rfl rfl (by rw [hbb]; simp only [size_put]; exact (by decide:85 < 279)) (by rw [hbb]; dsimp only; (try simp (discharger:=decide) only [eval_put_ne]); rw [Q0a (by simp only [size_put]; exact (by decide:85 < 279))]; exact q6) ?_
                subst hbb;intro K hK;go_simp;refine Q0e (J2n w1 _ _ s (X7b s x1) (HSEA.out _ (H2.out.ext (hdr.trans hx))) q9 HE.out) ?_;rintro e w2 ⟨rfl,hx2⟩;exact ⟨_,rfl,hK _ _ hx2 (congrArg (Value.int .i64) (J2r s x1))⟩
               case g11=>
                as_aux_lemma =>
                intro v w1 hx;(repeat intro (zq:v _=_));intro bb hbb;refine Flow.Q0l (d:=85) rfl rfl (by rw [hbb]; simp only [size_put]; exact (by decide:85 < 279)) (by rw [hbb]; dsimp only; (try simp (discharger:=decide) only [eval_put_ne]); rw [Q0a (by simp only [size_put]; exact (by decide:85 < 279))]; assumption) ?_
                have fo0:bb.eval (.tmp 89)=.int .i64 0:=by rw [hbb]; dsimp only; (try simp (discharger:=decide) only [Flow.eval_put_ne,Flow.J2k]); rw [Flow.Q0a (by simp only [Flow.size_put]; exact (by decide:89 < 279))]; assumption
                clear hbb;refine ⟨_,fun w=>?_,rfl⟩;unfold execOp;simp only [fo0];clear fo0;go_simp
               case g12=>
                as_aux_lemma =>
                intro v w1 hx;(repeat intro (zq:v _=_));intro bb hbb;have fo0:bb.eval (.tmp 85)=.bool false:=by rw [hbb]; dsimp only; (try simp (discharger:=decide) only [Flow.eval_put_ne,Flow.J2k]); rw [Flow.Q0a (by simp only [Flow.size_put]; exact (by decide:85 < 279))]; assumption
                have fo1:bb.eval (.tmp 90)=.bool false:=by rw [hbb]; dsimp only; (try simp (discharger:=decide) only [Flow.eval_put_ne,Flow.J2k]); rw [Flow.Q0a (by simp only [Flow.size_put]; exact (by decide:90 < 279))]; assumption
                clear hbb;refine ⟨_,fun w=>?_,rfl⟩;unfold execOp;simp only [fo0,fo1];clear fo0 fo1;go_simp
               case g13=>
                as_aux_lemma =>
                intro v w1 hx;(repeat intro (zq:v _=_));intro bb hbb;have fo0:bb.eval (.tmp 91)=.bool false:=by rw [hbb]; dsimp only; (try simp (discharger:=decide) only [Flow.eval_put_ne,Flow.J2k]); rw [Flow.Q0a (by simp only [Flow.size_put]; exact (by decide:91 < 279))]; assumption
                clear hbb;refine ⟨_,fun w=>?_,rfl⟩;unfold execOp;simp only [fo0];clear fo0;go_simp
               case g14=>
                as_aux_lemma =>
                intro v w1 hx;(repeat intro (zq:v _=_));intro bb hbb;refine Flow.Q0l (d:=92) rfl rfl (by rw [hbb]; simp only [size_put]; exact (by decide:92 < 279)) (by rw [hbb]; dsimp only; (try simp (discharger:=decide) only [eval_put_ne]); rw [Q0a (by simp only [size_put]; exact (by decide:92 < 279))]; assumption) ?_
                have fo0:bb.eval (.tmp 16)=.int .i64 0:=by rw [hbb]; dsimp only; (try simp (discharger:=decide) only [Flow.eval_put_ne,Flow.J2k]); rfl
                clear hbb;refine ⟨_,fun w=>?_,rfl⟩;unfold execOp;simp only [fo0];clear fo0;go_simp
               case g15=>
                as_aux_lemma =>
                intro v w1 hx;(repeat intro (zq:v _=_));intro bb hbb;refine Flow.Q0l (d:=92) rfl rfl (by rw [hbb]; simp only [size_put]; exact (by decide:92 < 279)) (by rw [hbb]; dsimp only; (try simp (discharger:=decide) only [eval_put_ne]); rw [Q0a (by simp only [size_put]; exact (by decide:92 < 279))]; assumption) ?_
                have fo0:bb.eval (.tmp 93)=.int .i64 0:=by rw [hbb]; dsimp only; (try simp (discharger:=decide) only [Flow.eval_put_ne,Flow.J2k]); rw [Flow.Q0a (by simp only [Flow.size_put]; exact (by decide:93 < 279))]; assumption
                clear hbb;refine ⟨_,fun w=>?_,rfl⟩;unfold execOp;simp only [fo0];clear fo0;go_simp
               case g16=>
                as_aux_lemma =>
                intro v w1 hx;(repeat intro (zq:v _=_));intro bb hbb;refine Flow.Q0l (d:=92) rfl rfl (by rw [hbb]; simp only [size_put]; exact (by decide:92 < 279)) (by rw [hbb]; dsimp only; (try simp (discharger:=decide) only [eval_put_ne]); rw [Q0a (by simp only [size_put]; exact (by decide:92 < 279))]; assumption) ?_
                have fo0:bb.eval (.tmp 2)=.int .i64 need:=by rw [hbb]; dsimp only; (try simp (discharger:=decide) only [Flow.eval_put_ne,Flow.J2k]); rfl
                clear hbb;refine ⟨_,fun w=>?_,rfl⟩;unfold execOp;simp only [fo0];clear fo0;go_simp
               case g17=>
                as_aux_lemma =>
                intro v w1 hx;(repeat intro (zq:v _=_));intro bb hbb;refine Flow.Q0l (d:=92) rfl rfl (by rw [hbb]; simp only [size_put]; exact (by decide:92 < 279)) (by rw [hbb]; dsimp only; (try simp (discharger:=decide) only [eval_put_ne]); rw [Q0a (by simp only [size_put]; exact (by decide:92 < 279))]; assumption) ?_
                have fo0:bb.eval (.tmp 7)=.int .i64 me:=by rw [hbb]; dsimp only; (try simp (discharger:=decide) only [Flow.eval_put_ne,Flow.J2k]); rfl
                clear hbb;refine ⟨_,fun w=>?_,rfl⟩;unfold execOp;simp only [fo0];clear fo0;go_simp
               case g18=>
                as_aux_lemma =>
                intro v w1 hx;(repeat intro (zq:v _=_));intro bb hbb;refine Flow.Q0l (d:=92) rfl rfl (by rw [hbb]; simp only [size_put]; exact (by decide:92 < 279)) (by rw [hbb]; dsimp only; (try simp (discharger:=decide) only [eval_put_ne]); rw [Q0a (by simp only [size_put]; exact (by decide:92 < 279))]; assumption) ?_
                have fo0:bb.eval (.tmp 95)=.int .i64 need:=by rw [hbb]; dsimp only; (try simp (discharger:=decide) only [Flow.eval_put_ne,Flow.J2k]); rw [Flow.Q0a (by simp only [Flow.size_put]; exact (by decide:95 < 279))]; assumption
                have fo1:bb.eval (.tmp 96)=.int .i64 me:=by rw [hbb]; dsimp only; (try simp (discharger:=decide) only [Flow.eval_put_ne,Flow.J2k]); rw [Flow.Q0a (by simp only [Flow.size_put]; exact (by decide:96 < 279))]; assumption
                clear hbb;refine ⟨_,fun w=>?_,rfl⟩;unfold execOp;simp only [fo0,fo1];clear fo0 fo1;go_simp
               case g19=>
                as_aux_lemma =>
                intro v w1 hx;(repeat intro (zq:v _=_));intro bb hbb;refine Flow.Q0l (d:=92) rfl rfl (by rw [hbb]; simp only [size_put]; exact (by decide:92 < 279)) (by rw [hbb]; dsimp only; (try simp (discharger:=decide) only [eval_put_ne]); rw [Q0a (by simp only [size_put]; exact (by decide:92 < 279))]; assumption) ?_
                have fo0:bb.eval (.tmp 94)=.bool true:=by rw [hbb]; dsimp only; (try simp (discharger:=decide) only [Flow.eval_put_ne,Flow.J2k]); rw [Flow.Q0a (by simp only [Flow.size_put]; exact (by decide:94 < 279))]; assumption
                have fo1:bb.eval (.tmp 97)=.bool true:=by rw [hbb]; dsimp only; (try simp (discharger:=decide) only [Flow.eval_put_ne,Flow.J2k]); rw [Flow.Q0a (by simp only [Flow.size_put]; exact (by decide:97 < 279))]; assumption
                clear hbb;refine ⟨_,fun w=>?_,rfl⟩;unfold execOp;simp only [fo0,fo1];clear fo0 fo1;go_simp
               case g20=>
                as_aux_lemma =>
                intro v w1 hx;(repeat intro (zq:v _=_));intro bb hbb;have fo0:bb.eval (.tmp 92)=.bool false:=by rw [hbb]; dsimp only; (try simp (discharger:=decide) only [Flow.eval_put_ne,Flow.J2k]); rw [Flow.Q0a (by simp only [Flow.size_put]; exact (by decide:92 < 279))]; assumption
                have fo1:bb.eval (.tmp 98)=.bool false:=by rw [hbb]; dsimp only; (try simp (discharger:=decide) only [Flow.eval_put_ne,Flow.J2k]); rw [Flow.Q0a (by simp only [Flow.size_put]; exact (by decide:98 < 279))]; assumption
                clear hbb;refine ⟨_,fun w=>?_,rfl⟩;unfold execOp;simp only [fo0,fo1];clear fo0 fo1;go_simp
               case g21=>
                as_aux_lemma =>
                intro v w1 hx;(repeat intro (zq:v _=_));intro bb hbb;have fo0:bb.eval (.tmp 99)=.bool false:=by rw [hbb]; dsimp only; (try simp (discharger:=decide) only [Flow.eval_put_ne,Flow.J2k]); rw [Flow.Q0a (by simp only [Flow.size_put]; exact (by decide:99 < 279))]; assumption
                clear hbb;refine ⟨_,fun w=>?_,rfl⟩;unfold execOp;simp only [fo0];clear fo0;go_simp
               case g22=>
                as_aux_lemma =>
                intro v w1 hx;(repeat intro (zq:v _=_));intro bb hbb;refine Flow.Q0l (d:=100) rfl rfl (by rw [hbb]; simp only [size_put]; exact (by decide:100 < 279)) (by rw [hbb]; dsimp only; (try simp (discharger:=decide) only [eval_put_ne]); rw [Q0a (by simp only [size_put]; exact (by decide:100 < 279))]; assumption) ?_
                have fo0:bb.eval (.tmp 16)=.int .i64 0:=by rw [hbb]; dsimp only; (try simp (discharger:=decide) only [Flow.eval_put_ne,Flow.J2k]); rfl
                clear hbb;refine ⟨_,fun w=>?_,rfl⟩;unfold execOp;simp only [fo0];clear fo0;go_simp
               case g23=>
                as_aux_lemma =>
                intro v w1 hx;(repeat intro (zq:v _=_));intro bb hbb;refine Flow.Q0l (d:=100) rfl rfl (by rw [hbb]; simp only [size_put]; exact (by decide:100 < 279)) (by rw [hbb]; dsimp only; (try simp (discharger:=decide) only [eval_put_ne]); rw [Q0a (by simp only [size_put]; exact (by decide:100 < 279))]; assumption) ?_
                have fo0:bb.eval (.tmp 101)=.int .i64 0:=by rw [hbb]; dsimp only; (try simp (discharger:=decide) only [Flow.eval_put_ne,Flow.J2k]); rw [Flow.Q0a (by simp only [Flow.size_put]; exact (by decide:101 < 279))]; assumption
                clear hbb;refine ⟨_,fun w=>?_,rfl⟩;unfold execOp;simp only [fo0];clear fo0;go_simp
               case g24=>
                as_aux_lemma =>
                intro v w1 hx;(repeat intro (zq:v _=_));intro bb hbb;refine Flow.Q0l (d:=100) rfl rfl (by rw [hbb]; simp only [size_put]; exact (by decide:100 < 279)) (by rw [hbb]; dsimp only; (try simp (discharger:=decide) only [eval_put_ne]); rw [Q0a (by simp only [size_put]; exact (by decide:100 < 279))]; assumption) ?_
                have fo0:bb.eval (.tmp 102)=.bool false:=by rw [hbb]; dsimp only; (try simp (discharger:=decide) only [Flow.eval_put_ne,Flow.J2k]); rw [Flow.Q0a (by simp only [Flow.size_put]; exact (by decide:102 < 279))]; assumption
                clear hbb;refine ⟨_,fun w=>?_,rfl⟩;unfold execOp;simp only [fo0];clear fo0;go_simp
               case g25 | g26=>
                as_aux_lemma =>
                intro v w1 hx;(repeat intro (zq:v _=_));intro bb hbb;exact Flow.Q1c (d:=103) rfl rfl (by rw [hbb]; simp only [size_put]; exact (by decide:103 < 279)) (by rw [hbb]; dsimp only; (try simp (discharger:=decide) only [eval_put_ne]); rw [Q0a (by simp only [size_put]; exact (by decide:103 < 279))]; assumption) rfl
               case g27=>
                as_aux_lemma =>
                intro v w1 hx;(repeat intro (zq:v _=_));intro bb hbb;refine Flow.Q0l (d:=100) rfl rfl (by rw [hbb]; simp only [size_put]; exact (by decide:100 < 279)) (by rw [hbb]; dsimp only; (try simp (discharger:=decide) only [eval_put_ne]); rw [Q0a (by simp only [size_put]; exact (by decide:100 < 279))]; assumption) ?_
                have fo0:bb.eval (.tmp 103)=.bool false:=by rw [hbb]; dsimp only; (try simp (discharger:=decide) only [Flow.eval_put_ne,Flow.J2k]); rw [Flow.Q0a (by simp only [Flow.size_put]; exact (by decide:103 < 279))]; assumption
                have fo1:bb.eval (.tmp 105)=undef:=by rw [hbb]; dsimp only; (try simp (discharger:=decide) only [Flow.eval_put_ne,Flow.J2k]); rw [Flow.Q0a (by simp only [Flow.size_put]; exact (by decide:105 < 279))]; assumption
                clear hbb;refine ⟨_,fun w=>?_,rfl⟩;unfold execOp;simp only [fo0,fo1];clear fo0 fo1;go_simp
               case g28=>
                as_aux_lemma =>
                intro v w1 hx;(repeat intro (zq:v _=_));intro bb hbb;have fo0:bb.eval (.tmp 100)=.bool false:=by rw [hbb]; dsimp only; (try simp (discharger:=decide) only [Flow.eval_put_ne,Flow.J2k]); rw [Flow.Q0a (by simp only [Flow.size_put]; exact (by decide:100 < 279))]; assumption
                have fo1:bb.eval (.tmp 106)=.bool false:=by rw [hbb]; dsimp only; (try simp (discharger:=decide) only [Flow.eval_put_ne,Flow.J2k]); rw [Flow.Q0a (by simp only [Flow.size_put]; exact (by decide:106 < 279))]; assumption
                clear hbb;refine ⟨_,fun w=>?_,rfl⟩;unfold execOp;simp only [fo0,fo1];clear fo0 fo1;go_simp
               case g29=>
                as_aux_lemma =>
                intro v w1 hx;(repeat intro (zq:v _=_));intro bb hbb;have fo0:bb.eval (.tmp 107)=.bool false:=by rw [hbb]; dsimp only; (try simp (discharger:=decide) only [Flow.eval_put_ne,Flow.J2k]); rw [Flow.Q0a (by simp only [Flow.size_put]; exact (by decide:107 < 279))]; assumption
                clear hbb;refine ⟨_,fun w=>?_,rfl⟩;unfold execOp;simp only [fo0];clear fo0;go_simp
               case g30=>
                as_aux_lemma =>
                intro v w1 hx;(repeat intro (zq:v _=_));intro bb hbb;refine Flow.Q0l (d:=108) rfl rfl (by rw [hbb]; simp only [size_put]; exact (by decide:108 < 279)) (by rw [hbb]; dsimp only; (try simp (discharger:=decide) only [eval_put_ne]); rw [Q0a (by simp only [size_put]; exact (by decide:108 < 279))]; assumption) ?_
                have fo0:bb.eval (.tmp 16)=.int .i64 0:=by rw [hbb]; dsimp only; (try simp (discharger:=decide) only [Flow.eval_put_ne,Flow.J2k]); rfl
                clear hbb;refine ⟨_,fun w=>?_,rfl⟩;unfold execOp;simp only [fo0];clear fo0;go_simp
               case g31=>
                as_aux_lemma =>
                intro v w1 hx;(repeat intro (zq:v _=_));intro bb hbb;refine Flow.Q0l (d:=108) rfl rfl (by rw [hbb]; simp only [size_put]; exact (by decide:108 < 279)) (by rw [hbb]; dsimp only; (try simp (discharger:=decide) only [eval_put_ne]); rw [Q0a (by simp only [size_put]; exact (by decide:108 < 279))]; assumption) ?_
                have fo0:bb.eval (.tmp 109)=.int .i64 0:=by rw [hbb]; dsimp only; (try simp (discharger:=decide) only [Flow.eval_put_ne,Flow.J2k]); rw [Flow.Q0a (by simp only [Flow.size_put]; exact (by decide:109 < 279))]; assumption
                clear hbb;refine ⟨_,fun w=>?_,rfl⟩;unfold execOp;simp only [fo0];clear fo0;go_simp
               case g32=>
                as_aux_lemma =>
                intro v w1 hx;(repeat intro (zq:v _=_));intro bb hbb;refine Flow.Q0l (d:=108) rfl rfl (by rw [hbb]; simp only [size_put]; exact (by decide:108 < 279)) (by rw [hbb]; dsimp only; (try simp (discharger:=decide) only [eval_put_ne]); rw [Q0a (by simp only [size_put]; exact (by decide:108 < 279))]; assumption) ?_
                have fo0:bb.eval (.tmp 110)=.bool true:=by rw [hbb]; dsimp only; (try simp (discharger:=decide) only [Flow.eval_put_ne,Flow.J2k]); rw [Flow.Q0a (by simp only [Flow.size_put]; exact (by decide:110 < 279))]; assumption
                clear hbb;refine ⟨_,fun w=>?_,rfl⟩;unfold execOp;simp only [fo0];clear fo0;go_simp
               case g33=>
                as_aux_lemma =>
                intro v w1 hx;(repeat intro (zq:v _=_));intro bb hbb;refine Flow.Q0l (d:=111) rfl rfl (by rw [hbb]; simp only [size_put]; exact (by decide:111 < 279)) (by rw [hbb]; dsimp only; (try simp (discharger:=decide) only [eval_put_ne]); rw [Q0a (by simp only [size_put]; exact (by decide:111 < 279))]; assumption) ?_
                have fo0:bb.eval (.tmp 14)=.int .i64 n2:=by rw [hbb]; dsimp only; (try simp (discharger:=decide) only [Flow.eval_put_ne,Flow.J2k]); rfl
                clear hbb;refine ⟨_,fun w=>?_,rfl⟩;unfold execOp;simp only [fo0];clear fo0;go_simp
               case g34=>
                as_aux_lemma =>
                intro v w1 hx;(repeat intro (zq:v _=_));intro bb hbb;refine Flow.Q0l (d:=111) rfl rfl (by rw [hbb]; simp only [size_put]; exact (by decide:111 < 279)) (by rw [hbb]; dsimp only; (try simp (discharger:=decide) only [eval_put_ne]); rw [Q0a (by simp only [size_put]; exact (by decide:111 < 279))]; assumption) ?_
                have fo0:bb.eval (.tmp 10)=.int .i64 n1:=by rw [hbb]; dsimp only; (try simp (discharger:=decide) only [Flow.eval_put_ne,Flow.J2k]); rfl
                clear hbb;refine ⟨_,fun w=>?_,rfl⟩;unfold execOp;simp only [fo0];clear fo0;go_simp
               case g35=>
                as_aux_lemma =>
                intro v w1 hx;(repeat intro (zq:v _=_));intro bb hbb;refine Flow.Q0l (d:=111) rfl rfl (by rw [hbb]; simp only [size_put]; exact (by decide:111 < 279)) (by rw [hbb]; dsimp only; (try simp (discharger:=decide) only [eval_put_ne]); rw [Q0a (by simp only [size_put]; exact (by decide:111 < 279))]; assumption) ?_
                have fo0:bb.eval (.tmp 112)=.int .i64 n2:=by rw [hbb]; dsimp only; (try simp (discharger:=decide) only [Flow.eval_put_ne,Flow.J2k]); rw [Flow.Q0a (by simp only [Flow.size_put]; exact (by decide:112 < 279))]; assumption
                have fo1:bb.eval (.tmp 113)=.int .i64 n1:=by rw [hbb]; dsimp only; (try simp (discharger:=decide) only [Flow.eval_put_ne,Flow.J2k]); rw [Flow.Q0a (by simp only [Flow.size_put]; exact (by decide:113 < 279))]; assumption
                clear hbb;refine ⟨_,fun w=>?_,rfl⟩;unfold execOp;simp only [fo0,fo1];clear fo0 fo1;go_simp
               case g36=>
                as_aux_lemma =>
                intro v w1 hx;(repeat intro (zq:v _=_));intro bb hbb;refine Flow.Q0l (d:=111) rfl rfl (by rw [hbb]; simp only [size_put]; exact (by decide:111 < 279)) (by rw [hbb]; dsimp only; (try simp (discharger:=decide) only [eval_put_ne]); rw [Q0a (by simp only [size_put]; exact (by decide:111 < 279))]; assumption) ?_
                have fo0:bb.eval (.tmp 114)=.bool false:=by rw [hbb]; dsimp only; (try simp (discharger:=decide) only [Flow.eval_put_ne,Flow.J2k]); rw [Flow.Q0a (by simp only [Flow.size_put]; exact (by decide:114 < 279))]; assumption
                clear hbb;refine ⟨_,fun w=>?_,rfl⟩;unfold execOp;simp only [fo0];clear fo0;go_simp
               case g37=>
                as_aux_lemma =>
                intro v w1 hx;(repeat intro (zq:v _=_));intro bb hbb;refine Flow.Q0l (d:=115) rfl rfl (by rw [hbb]; simp only [size_put]; exact (by decide:115 < 279)) (by rw [hbb]; dsimp only; (try simp (discharger:=decide) only [eval_put_ne]); rw [Q0a (by simp only [size_put]; exact (by decide:115 < 279))]; assumption) ?_
                have fo0:bb.eval (.tmp 14)=.int .i64 n2:=by rw [hbb]; dsimp only; (try simp (discharger:=decide) only [Flow.eval_put_ne,Flow.J2k]); rfl
                clear hbb;refine ⟨_,fun w=>?_,rfl⟩;unfold execOp;simp only [fo0];clear fo0;go_simp
               case g38=>
                as_aux_lemma =>
                intro v w1 hx;(repeat intro (zq:v _=_));intro bb hbb;refine Flow.Q0l (d:=115) rfl rfl (by rw [hbb]; simp only [size_put]; exact (by decide:115 < 279)) (by rw [hbb]; dsimp only; (try simp (discharger:=decide) only [eval_put_ne]); rw [Q0a (by simp only [size_put]; exact (by decide:115 < 279))]; assumption) ?_
                have fo0:bb.eval (.tmp 10)=.int .i64 n1:=by rw [hbb]; dsimp only; (try simp (discharger:=decide) only [Flow.eval_put_ne,Flow.J2k]); rfl
                clear hbb;refine ⟨_,fun w=>?_,rfl⟩;unfold execOp;simp only [fo0];clear fo0;go_simp
               case g39=>
                as_aux_lemma =>
                intro v w1 hx;(repeat intro (zq:v _=_));intro bb hbb;refine Flow.Q0l (d:=115) rfl rfl (by rw [hbb]; simp only [size_put]; exact (by decide:115 < 279)) (by rw [hbb]; dsimp only; (try simp (discharger:=decide) only [eval_put_ne]); rw [Q0a (by simp only [size_put]; exact (by decide:115 < 279))]; assumption) ?_
                have fo0:bb.eval (.tmp 116)=.int .i64 n2:=by rw [hbb]; dsimp only; (try simp (discharger:=decide) only [Flow.eval_put_ne,Flow.J2k]); rw [Flow.Q0a (by simp only [Flow.size_put]; exact (by decide:116 < 279))]; assumption
                have fo1:bb.eval (.tmp 117)=.int .i64 n1:=by rw [hbb]; dsimp only; (try simp (discharger:=decide) only [Flow.eval_put_ne,Flow.J2k]); rw [Flow.Q0a (by simp only [Flow.size_put]; exact (by decide:117 < 279))]; assumption
                clear hbb;refine ⟨_,fun w=>?_,rfl⟩;unfold execOp;simp only [fo0,fo1];clear fo0 fo1;go_simp
               case g40=>
                as_aux_lemma =>
                intro v w1 hx;(repeat intro (zq:v _=_));intro bb hbb;refine Flow.Q0l (d:=115) rfl rfl (by rw [hbb]; simp only [size_put]; exact (by decide:115 < 279)) (by rw [hbb]; dsimp only; (try simp (discharger:=decide) only [eval_put_ne]); rw [Q0a (by simp only [size_put]; exact (by decide:115 < 279))]; assumption) ?_
                have fo0:bb.eval (.tmp 118)=.bool false:=by rw [hbb]; dsimp only; (try simp (discharger:=decide) only [Flow.eval_put_ne,Flow.J2k]); rw [Flow.Q0a (by simp only [Flow.size_put]; exact (by decide:118 < 279))]; assumption
                clear hbb;refine ⟨_,fun w=>?_,rfl⟩;unfold execOp;simp only [fo0];clear fo0;go_simp
               case g41 | g42 | g43=>
                as_aux_lemma =>
                intro v w1 hx;(repeat intro (zq:v _=_));intro bb hbb;exact Flow.Q1c (d:=119) rfl rfl (by rw [hbb]; simp only [size_put]; exact (by decide:119 < 279)) (by rw [hbb]; dsimp only; (try simp (discharger:=decide) only [eval_put_ne]); rw [Q0a (by simp only [size_put]; exact (by decide:119 < 279))]; assumption) rfl
               case g44=>
                as_aux_lemma =>
                intro v w1 hx;(repeat intro (zq:v _=_));intro bb hbb;refine Flow.Q0l (d:=115) rfl rfl (by rw [hbb]; simp only [size_put]; exact (by decide:115 < 279)) (by rw [hbb]; dsimp only; (try simp (discharger:=decide) only [eval_put_ne]); rw [Q0a (by simp only [size_put]; exact (by decide:115 < 279))]; assumption) ?_
                have fo0:bb.eval (.tmp 119)=.bool false:=by rw [hbb]; dsimp only; (try simp (discharger:=decide) only [Flow.eval_put_ne,Flow.J2k]); rw [Flow.Q0a (by simp only [Flow.size_put]; exact (by decide:119 < 279))]; assumption
                have fo1:bb.eval (.tmp 122)=undef:=by rw [hbb]; dsimp only; (try simp (discharger:=decide) only [Flow.eval_put_ne,Flow.J2k]); rw [Flow.Q0a (by simp only [Flow.size_put]; exact (by decide:122 < 279))]; assumption
                clear hbb;refine ⟨_,fun w=>?_,rfl⟩;unfold execOp;simp only [fo0,fo1];clear fo0 fo1;go_simp
               case g45=>
                as_aux_lemma =>
                intro v w1 hx;(repeat intro (zq:v _=_));intro bb hbb;refine Flow.Q0l (d:=111) rfl rfl (by rw [hbb]; simp only [size_put]; exact (by decide:111 < 279)) (by rw [hbb]; dsimp only; (try simp (discharger:=decide) only [eval_put_ne]); rw [Q0a (by simp only [size_put]; exact (by decide:111 < 279))]; assumption) ?_
                have fo0:bb.eval (.tmp 115)=.bool false:=by rw [hbb]; dsimp only; (try simp (discharger:=decide) only [Flow.eval_put_ne,Flow.J2k]); rw [Flow.Q0a (by simp only [Flow.size_put]; exact (by decide:115 < 279))]; assumption
                have fo1:bb.eval (.tmp 123)=.bool false:=by rw [hbb]; dsimp only; (try simp (discharger:=decide) only [Flow.eval_put_ne,Flow.J2k]); rw [Flow.Q0a (by simp only [Flow.size_put]; exact (by decide:123 < 279))]; assumption
                clear hbb;refine ⟨_,fun w=>?_,rfl⟩;unfold execOp;simp only [fo0,fo1];clear fo0 fo1;go_simp
               case g46=>
                as_aux_lemma =>
                intro v w1 hx;(repeat intro (zq:v _=_));intro bb hbb;refine Flow.Q0l (d:=108) rfl rfl (by rw [hbb]; simp only [size_put]; exact (by decide:108 < 279)) (by rw [hbb]; dsimp only; (try simp (discharger:=decide) only [eval_put_ne]); rw [Q0a (by simp only [size_put]; exact (by decide:108 < 279))]; assumption) ?_
                have fo0:bb.eval (.tmp 111)=.bool true:=by rw [hbb]; dsimp only; (try simp (discharger:=decide) only [Flow.eval_put_ne,Flow.J2k]); rw [Flow.Q0a (by simp only [Flow.size_put]; exact (by decide:111 < 279))]; assumption
                have fo1:bb.eval (.tmp 124)=.bool false:=by rw [hbb]; dsimp only; (try simp (discharger:=decide) only [Flow.eval_put_ne,Flow.J2k]); rw [Flow.Q0a (by simp only [Flow.size_put]; exact (by decide:124 < 279))]; assumption
                clear hbb;refine ⟨_,fun w=>?_,rfl⟩;unfold execOp;simp only [fo0,fo1];clear fo0 fo1;go_simp
               case g47=>
                as_aux_lemma =>
                intro v w1 hx;(repeat intro (zq:v _=_));intro bb hbb;have fo0:bb.eval (.tmp 108)=.bool false:=by rw [hbb]; dsimp only; (try simp (discharger:=decide) only [Flow.eval_put_ne,Flow.J2k]); rw [Flow.Q0a (by simp only [Flow.size_put]; exact (by decide:108 < 279))]; assumption
                have fo1:bb.eval (.tmp 125)=.bool false:=by rw [hbb]; dsimp only; (try simp (discharger:=decide) only [Flow.eval_put_ne,Flow.J2k]); rw [Flow.Q0a (by simp only [Flow.size_put]; exact (by decide:125 < 279))]; assumption
                clear hbb;refine ⟨_,fun w=>?_,rfl⟩;unfold execOp;simp only [fo0,fo1];clear fo0 fo1;go_simp
              case post =>
               intro v w1 hx;(iterate 9 intro (zq:v _=_));intro (q9:(fun v w'=>Q0w w' (v 9) (X7b s x1)) v w1);(iterate 38 intro (zq:v _=_));simp only [Flow.All,Flow.acts,Act.put];go_simp;go_wp2_with fail;go_meet;exact ⟨rfl,hdr.trans hx⟩
            . skip
              have h1:¬ d1 < d2:=by omega
              have h1d:decide (d1 < d2)=false:=decide_eq_false h1;have h2:¬ n2 < n2:=by omega
              have h2d:decide (n2 < n2)=false:=decide_eq_false h2;clear hcc;go_wp2_with fail;have hdr:=(Ext.refl w11).drew;refine Flow.Q1o [.p,.p,.p,.p,.p,.p,.p,.w,.w,.w,.w,.p,.p,.p,.p,.p,.p,.p,.p,.p,.p,.p,.p,.p,.p,.p,.p,.p,.p,.p,.p,.p,.p,.p,.p,.p,.p,.p,.p,.p,.p,.p,.p,.p,.p,.p,.p,.p] [0,1,2,3,4,5,6,7,8,9,10,11,12,13,14,15,16,17,18,19,20,21,22,23,24,25,26,27,28,29,30,31,32,33,34,35,36,37,38,39,40,41,42,43,44,45,46,47] [[],[0],[1],[2],[2,3],[2,4],[2,5],[6],[6],[6,8],[6,7,9],[6,10],[6,11],[10,12],[13],[13,14],[13],[13],[13,16,17],[13,15,18],[13,19],[13,20],[21],[21,22],[21,23],[24],[24,25],[21,24,26],[21,27],[24,28],[29],[29,30],[29,31],[32],[32],[32,33,34],[32,35],[36],[36],[36,37,38],[36,39],[40],[40],[40,41,42],[36,40,43],[32,36,44],[29,32,45],[29,46]]
               [.c 0 (.int .i64 0),.c 1 (.bool false),.c 2 (.bool false),.c 3 (.int .i64 0),.c 4 (.bool false),.c 5 (.bool false),.c 6 (.bool false),.c 7 (.agg #[.int .i64 lim,.slice A T capa,.slice B M capb]),.c 8 (.agg #[.slice Xb nb cb]),⟨fun v wz=>(fun v w'=>Q0w w' (v 9) (X7b s x1)) v wz,by intro v a b hx h; exact Q0w.ext h hx⟩,.c 10 (.int .i64 0),.c 11 (.bool false),.c 12 (.bool false),.c 13 (.bool false),.c 14 (.int .i64 0),.c 15 (.bool true),.c 16 (.int .i64 need),.c 17 (.int .i64 me),.c 18 (.bool true),.c 19 (.bool false),.c 20 (.bool false),.c 21 (.bool false),.c 22 (.int .i64 0),.c 23 (.bool false),.c 24 (.bool false),.c 25 (undef),.c 26 (undef),.c 27 (.bool false),.c 28 (.bool false),.c 29 (.bool false),.c 30 (.int .i64 0),.c 31 (.bool true),.c 32 (.bool true),.c 33 (.int .i64 n2),.c 34 (.int .i64 n2),.c 35 (.bool false),.c 36 (.bool false),.c 37 (.int .i64 n2),.c 38 (.int .i64 n2),.c 39 (.bool true),.c 40 (.bool true),.c 41 (.int .i64 d2),.c 42 (.int .i64 d1),.c 43 (.bool false),.c 44 (.bool false),.c 45 (.bool false),.c 46 (.bool false),.c 47 (.bool false)]
               (by kernel_rfl) rfl (by kernel_rfl) ?owed ?post
              case owed =>
               refine ⟨?g0,?g1,?g2,?g3,?g4,?g5,?g6,?g7,?g8,?g9,?g10,?g11,?g12,?g13,?g14,?g15,?g16,?g17,?g18,?g19,?g20,?g21,?g22,?g23,?g24,?g25,?g26,?g27,?g28,?g29,?g30,?g31,?g32,?g33,?g34,?g35,?g36,?g37,?g38,?g39,?g40,?g41,?g42,?g43,?g44,?g45,?g46,?g47,trivial⟩
               case g0=>
                as_aux_lemma =>
                intro v w1 hx;intro bb hbb;have fo0:bb.eval (.tmp 8)=.int .i64 0:=by rw [hbb]; dsimp only; (try simp (discharger:=decide) only [Flow.eval_put_ne,Flow.J2k]); rfl
                clear hbb;refine ⟨_,fun w=>?_,rfl⟩;unfold execOp;simp only [fo0];clear fo0;go_simp
               case g1=>
                as_aux_lemma =>
                intro v w1 hx;(repeat intro (zq:v _=_));intro bb hbb;have fo0:bb.eval (.tmp 79)=.int .i64 0:=by rw [hbb]; dsimp only; (try simp (discharger:=decide) only [Flow.eval_put_ne,Flow.J2k]); rw [Flow.Q0a (by simp only [Flow.size_put]; exact (by decide:79 < 279))]; assumption
                clear hbb;refine ⟨_,fun w=>?_,rfl⟩;unfold execOp;simp only [fo0];clear fo0;go_simp
               case g2=>
                as_aux_lemma =>
                intro v w1 hx;(repeat intro (zq:v _=_));intro bb hbb;have fo0:bb.eval (.tmp 80)=.bool false:=by rw [hbb]; dsimp only; (try simp (discharger:=decide) only [Flow.eval_put_ne,Flow.J2k]); rw [Flow.Q0a (by simp only [Flow.size_put]; exact (by decide:80 < 279))]; assumption
                clear hbb;refine ⟨_,fun w=>?_,rfl⟩;unfold execOp;simp only [fo0];clear fo0;go_simp
               case g3=>
                as_aux_lemma =>
                intro v w1 hx;(repeat intro (zq:v _=_));intro bb hbb;refine Flow.Q0l (d:=81) rfl rfl (by rw [hbb]; simp only [size_put]; exact (by decide:81 < 279)) (by rw [hbb]; dsimp only; (try simp (discharger:=decide) only [eval_put_ne]); rw [Q0a (by simp only [size_put]; exact (by decide:81 < 279))]; assumption) ?_
                have fo0:bb.eval (.tmp 12)=.int .i64 0:=by rw [hbb]; dsimp only; (try simp (discharger:=decide) only [Flow.eval_put_ne,Flow.J2k]); rfl
                clear hbb;refine ⟨_,fun w=>?_,rfl⟩;unfold execOp;simp only [fo0];clear fo0;go_simp
               case g4=>
                as_aux_lemma =>
                intro v w1 hx;(repeat intro (zq:v _=_));intro bb hbb;refine Flow.Q0l (d:=81) rfl rfl (by rw [hbb]; simp only [size_put]; exact (by decide:81 < 279)) (by rw [hbb]; dsimp only; (try simp (discharger:=decide) only [eval_put_ne]); rw [Q0a (by simp only [size_put]; exact (by decide:81 < 279))]; assumption) ?_
                have fo0:bb.eval (.tmp 82)=.int .i64 0:=by rw [hbb]; dsimp only; (try simp (discharger:=decide) only [Flow.eval_put_ne,Flow.J2k]); rw [Flow.Q0a (by simp only [Flow.size_put]; exact (by decide:82 < 279))]; assumption
                clear hbb;refine ⟨_,fun w=>?_,rfl⟩;unfold execOp;simp only [fo0];clear fo0;go_simp
               case g5=>
                as_aux_lemma =>
                intro v w1 hx;(repeat intro (zq:v _=_));intro bb hbb;have fo0:bb.eval (.tmp 81)=.bool false:=by rw [hbb]; dsimp only; (try simp (discharger:=decide) only [Flow.eval_put_ne,Flow.J2k]); rw [Flow.Q0a (by simp only [Flow.size_put]; exact (by decide:81 < 279))]; assumption
                have fo1:bb.eval (.tmp 83)=.bool false:=by rw [hbb]; dsimp only; (try simp (discharger:=decide) only [Flow.eval_put_ne,Flow.J2k]); rw [Flow.Q0a (by simp only [Flow.size_put]; exact (by decide:83 < 279))]; assumption
                clear hbb;refine ⟨_,fun w=>?_,rfl⟩;unfold execOp;simp only [fo0,fo1];clear fo0 fo1;go_simp
               case g6=>
                as_aux_lemma =>
                intro v w1 hx;(repeat intro (zq:v _=_));intro bb hbb;have fo0:bb.eval (.tmp 84)=.bool false:=by rw [hbb]; dsimp only; (try simp (discharger:=decide) only [Flow.eval_put_ne,Flow.J2k]); rw [Flow.Q0a (by simp only [Flow.size_put]; exact (by decide:84 < 279))]; assumption
                clear hbb;refine ⟨_,fun w=>?_,rfl⟩;unfold execOp;simp only [fo0];clear fo0;go_simp
               case g7=>
                as_aux_lemma =>
                intro v w1 hx;(repeat intro (zq:v _=_));intro bb hbb;refine Flow.Q0l (d:=85) rfl rfl (by rw [hbb]; simp only [size_put]; exact (by decide:85 < 279)) (by rw [hbb]; dsimp only; (try simp (discharger:=decide) only [eval_put_ne]); rw [Q0a (by simp only [size_put]; exact (by decide:85 < 279))]; assumption) ?_
                intro K2 hK2;have o1:bb.eval (.tmp 3)=.pointer (some ⟨gs,0,none⟩):=by rw [hbb]; dsimp only; (try simp (discharger:=decide) only [eval_put_ne]); rfl
                exact Q0p (.tmp 3) _ rfl Tryz.J3v Tryz.J2x o1 (KB.out.ext (hdr.trans hx)) rfl (hK2 _ _ (Ext.refl _) rfl)
               case g8=>
                as_aux_lemma =>
                intro v w1 hx;(repeat intro (zq:v _=_));intro bb hbb;refine Flow.Q0l (d:=85) rfl rfl (by rw [hbb]; simp only [size_put]; exact (by decide:85 < 279)) (by rw [hbb]; dsimp only; (try simp (discharger:=decide) only [eval_put_ne]); rw [Q0a (by simp only [size_put]; exact (by decide:85 < 279))]; assumption) ?_
                intro K2 hK2;have o1:bb.eval (.tmp 9)=.pointer (some ⟨gp,0,none⟩):=by rw [hbb]; dsimp only; (try simp (discharger:=decide) only [eval_put_ne]); rfl
                exact Q0p (.tmp 9) _ rfl Tryz.Q8b Tryz.Q4b o1 (KP.out.ext (hdr.trans hx)) rfl (hK2 _ _ (Ext.refl _) rfl)
               case g9=>
                as_aux_lemma =>
                intro v w1 hx;(repeat intro (zq:v _=_));intro bb hbb;refine Flow.Q0l (d:=85) rfl rfl (by rw [hbb]; simp only [size_put]; exact (by decide:85 < 279)) (by rw [hbb]; dsimp only; (try simp (discharger:=decide) only [eval_put_ne]); rw [Q0a (by simp only [size_put]; exact (by decide:85 < 279))]; assumption) ?_
                subst hbb;intro K hK;go_simp;refine Q0e (Y7d w1 _ (X7b s x1) (HPB.out _ (FB.out.ext (hdr.trans hx))) HPL.out) ?_;rintro e w2 ⟨u,rfl,hu,hx2⟩;exact ⟨_,rfl,hK _ _ hx2 hu⟩
               case g10=>
                as_aux_lemma =>
                intro v w1 hx (q6:v 6=_) (q7:v 7=_) (q9:(fun v w'=>Q0w w' (v 9) (X7b s x1)) v w1);intro bb hbb;refine Flow.Q0l (d:=85) rfl rfl (by rw [hbb]; simp only [size_put]; exact (by decide:85 < 279)) (by rw [hbb]; dsimp only; (try simp (discharger:=decide) only [eval_put_ne]); rw [Q0a (by simp only [size_put]; exact (by decide:85 < 279))]; exact q6) ?_
                subst hbb;intro K hK;go_simp;refine Q0e (J2n w1 _ _ s (X7b s x1) (HSEA.out _ (H2.out.ext (hdr.trans hx))) q9 HE.out) ?_;rintro e w2 ⟨rfl,hx2⟩;exact ⟨_,rfl,hK _ _ hx2 (congrArg (Value.int .i64) (J2r s x1))⟩
               case g11=>
                as_aux_lemma =>
                intro v w1 hx;(repeat intro (zq:v _=_));intro bb hbb;refine Flow.Q0l (d:=85) rfl rfl (by rw [hbb]; simp only [size_put]; exact (by decide:85 < 279)) (by rw [hbb]; dsimp only; (try simp (discharger:=decide) only [eval_put_ne]); rw [Q0a (by simp only [size_put]; exact (by decide:85 < 279))]; assumption) ?_
                have fo0:bb.eval (.tmp 89)=.int .i64 0:=by rw [hbb]; dsimp only; (try simp (discharger:=decide) only [Flow.eval_put_ne,Flow.J2k]); rw [Flow.Q0a (by simp only [Flow.size_put]; exact (by decide:89 < 279))]; assumption
                clear hbb;refine ⟨_,fun w=>?_,rfl⟩;unfold execOp;simp only [fo0];clear fo0;go_simp
               case g12=>
                as_aux_lemma =>
                intro v w1 hx;(repeat intro (zq:v _=_));intro bb hbb;have fo0:bb.eval (.tmp 85)=.bool false:=by rw [hbb]; dsimp only; (try simp (discharger:=decide) only [Flow.eval_put_ne,Flow.J2k]); rw [Flow.Q0a (by simp only [Flow.size_put]; exact (by decide:85 < 279))]; assumption
                have fo1:bb.eval (.tmp 90)=.bool false:=by rw [hbb]; dsimp only; (try simp (discharger:=decide) only [Flow.eval_put_ne,Flow.J2k]); rw [Flow.Q0a (by simp only [Flow.size_put]; exact (by decide:90 < 279))]; assumption
                clear hbb;refine ⟨_,fun w=>?_,rfl⟩;unfold execOp;simp only [fo0,fo1];clear fo0 fo1;go_simp
               case g13=>
                as_aux_lemma =>
                intro v w1 hx;(repeat intro (zq:v _=_));intro bb hbb;have fo0:bb.eval (.tmp 91)=.bool false:=by rw [hbb]; dsimp only; (try simp (discharger:=decide) only [Flow.eval_put_ne,Flow.J2k]); rw [Flow.Q0a (by simp only [Flow.size_put]; exact (by decide:91 < 279))]; assumption
                clear hbb;refine ⟨_,fun w=>?_,rfl⟩;unfold execOp;simp only [fo0];clear fo0;go_simp
               case g14=>
                as_aux_lemma =>
                intro v w1 hx;(repeat intro (zq:v _=_));intro bb hbb;refine Flow.Q0l (d:=92) rfl rfl (by rw [hbb]; simp only [size_put]; exact (by decide:92 < 279)) (by rw [hbb]; dsimp only; (try simp (discharger:=decide) only [eval_put_ne]); rw [Q0a (by simp only [size_put]; exact (by decide:92 < 279))]; assumption) ?_
                have fo0:bb.eval (.tmp 16)=.int .i64 0:=by rw [hbb]; dsimp only; (try simp (discharger:=decide) only [Flow.eval_put_ne,Flow.J2k]); rfl
                clear hbb;refine ⟨_,fun w=>?_,rfl⟩;unfold execOp;simp only [fo0];clear fo0;go_simp
               case g15=>
                as_aux_lemma =>
                intro v w1 hx;(repeat intro (zq:v _=_));intro bb hbb;refine Flow.Q0l (d:=92) rfl rfl (by rw [hbb]; simp only [size_put]; exact (by decide:92 < 279)) (by rw [hbb]; dsimp only; (try simp (discharger:=decide) only [eval_put_ne]); rw [Q0a (by simp only [size_put]; exact (by decide:92 < 279))]; assumption) ?_
                have fo0:bb.eval (.tmp 93)=.int .i64 0:=by rw [hbb]; dsimp only; (try simp (discharger:=decide) only [Flow.eval_put_ne,Flow.J2k]); rw [Flow.Q0a (by simp only [Flow.size_put]; exact (by decide:93 < 279))]; assumption
                clear hbb;refine ⟨_,fun w=>?_,rfl⟩;unfold execOp;simp only [fo0];clear fo0;go_simp
               case g16=>
                as_aux_lemma =>
                intro v w1 hx;(repeat intro (zq:v _=_));intro bb hbb;refine Flow.Q0l (d:=92) rfl rfl (by rw [hbb]; simp only [size_put]; exact (by decide:92 < 279)) (by rw [hbb]; dsimp only; (try simp (discharger:=decide) only [eval_put_ne]); rw [Q0a (by simp only [size_put]; exact (by decide:92 < 279))]; assumption) ?_
                have fo0:bb.eval (.tmp 2)=.int .i64 need:=by rw [hbb]; dsimp only; (try simp (discharger:=decide) only [Flow.eval_put_ne,Flow.J2k]); rfl
                clear hbb;refine ⟨_,fun w=>?_,rfl⟩;unfold execOp;simp only [fo0];clear fo0;go_simp
               case g17=>
                as_aux_lemma =>
                intro v w1 hx;(repeat intro (zq:v _=_));intro bb hbb;refine Flow.Q0l (d:=92) rfl rfl (by rw [hbb]; simp only [size_put]; exact (by decide:92 < 279)) (by rw [hbb]; dsimp only; (try simp (discharger:=decide) only [eval_put_ne]); rw [Q0a (by simp only [size_put]; exact (by decide:92 < 279))]; assumption) ?_
                have fo0:bb.eval (.tmp 7)=.int .i64 me:=by rw [hbb]; dsimp only; (try simp (discharger:=decide) only [Flow.eval_put_ne,Flow.J2k]); rfl
                clear hbb;refine ⟨_,fun w=>?_,rfl⟩;unfold execOp;simp only [fo0];clear fo0;go_simp
               case g18=>
                as_aux_lemma =>
                intro v w1 hx;(repeat intro (zq:v _=_));intro bb hbb;refine Flow.Q0l (d:=92) rfl rfl (by rw [hbb]; simp only [size_put]; exact (by decide:92 < 279)) (by rw [hbb]; dsimp only; (try simp (discharger:=decide) only [eval_put_ne]); rw [Q0a (by simp only [size_put]; exact (by decide:92 < 279))]; assumption) ?_
                have fo0:bb.eval (.tmp 95)=.int .i64 need:=by rw [hbb]; dsimp only; (try simp (discharger:=decide) only [Flow.eval_put_ne,Flow.J2k]); rw [Flow.Q0a (by simp only [Flow.size_put]; exact (by decide:95 < 279))]; assumption
                have fo1:bb.eval (.tmp 96)=.int .i64 me:=by rw [hbb]; dsimp only; (try simp (discharger:=decide) only [Flow.eval_put_ne,Flow.J2k]); rw [Flow.Q0a (by simp only [Flow.size_put]; exact (by decide:96 < 279))]; assumption
                clear hbb;refine ⟨_,fun w=>?_,rfl⟩;unfold execOp;simp only [fo0,fo1];clear fo0 fo1;go_simp
               case g19=>
                as_aux_lemma =>
                intro v w1 hx;(repeat intro (zq:v _=_));intro bb hbb;refine Flow.Q0l (d:=92) rfl rfl (by rw [hbb]; simp only [size_put]; exact (by decide:92 < 279)) (by rw [hbb]; dsimp only; (try simp (discharger:=decide) only [eval_put_ne]); rw [Q0a (by simp only [size_put]; exact (by decide:92 < 279))]; assumption) ?_
                have fo0:bb.eval (.tmp 94)=.bool true:=by rw [hbb]; dsimp only; (try simp (discharger:=decide) only [Flow.eval_put_ne,Flow.J2k]); rw [Flow.Q0a (by simp only [Flow.size_put]; exact (by decide:94 < 279))]; assumption
                have fo1:bb.eval (.tmp 97)=.bool true:=by rw [hbb]; dsimp only; (try simp (discharger:=decide) only [Flow.eval_put_ne,Flow.J2k]); rw [Flow.Q0a (by simp only [Flow.size_put]; exact (by decide:97 < 279))]; assumption
                clear hbb;refine ⟨_,fun w=>?_,rfl⟩;unfold execOp;simp only [fo0,fo1];clear fo0 fo1;go_simp
               case g20=>
                as_aux_lemma =>
                intro v w1 hx;(repeat intro (zq:v _=_));intro bb hbb;have fo0:bb.eval (.tmp 92)=.bool false:=by rw [hbb]; dsimp only; (try simp (discharger:=decide) only [Flow.eval_put_ne,Flow.J2k]); rw [Flow.Q0a (by simp only [Flow.size_put]; exact (by decide:92 < 279))]; assumption
                have fo1:bb.eval (.tmp 98)=.bool false:=by rw [hbb]; dsimp only; (try simp (discharger:=decide) only [Flow.eval_put_ne,Flow.J2k]); rw [Flow.Q0a (by simp only [Flow.size_put]; exact (by decide:98 < 279))]; assumption
                clear hbb;refine ⟨_,fun w=>?_,rfl⟩;unfold execOp;simp only [fo0,fo1];clear fo0 fo1;go_simp
               case g21=>
                as_aux_lemma =>
                intro v w1 hx;(repeat intro (zq:v _=_));intro bb hbb;have fo0:bb.eval (.tmp 99)=.bool false:=by rw [hbb]; dsimp only; (try simp (discharger:=decide) only [Flow.eval_put_ne,Flow.J2k]); rw [Flow.Q0a (by simp only [Flow.size_put]; exact (by decide:99 < 279))]; assumption
                clear hbb;refine ⟨_,fun w=>?_,rfl⟩;unfold execOp;simp only [fo0];clear fo0;go_simp
               case g22=>
                as_aux_lemma =>
                intro v w1 hx;(repeat intro (zq:v _=_));intro bb hbb;refine Flow.Q0l (d:=100) rfl rfl (by rw [hbb]; simp only [size_put]; exact (by decide:100 < 279)) (by rw [hbb]; dsimp only; (try simp (discharger:=decide) only [eval_put_ne]); rw [Q0a (by simp only [size_put]; exact (by decide:100 < 279))]; assumption) ?_
                have fo0:bb.eval (.tmp 16)=.int .i64 0:=by rw [hbb]; dsimp only; (try simp (discharger:=decide) only [Flow.eval_put_ne,Flow.J2k]); rfl
                clear hbb;refine ⟨_,fun w=>?_,rfl⟩;unfold execOp;simp only [fo0];clear fo0;go_simp
               case g23=>
                as_aux_lemma =>
                intro v w1 hx;(repeat intro (zq:v _=_));intro bb hbb;refine Flow.Q0l (d:=100) rfl rfl (by rw [hbb]; simp only [size_put]; exact (by decide:100 < 279)) (by rw [hbb]; dsimp only; (try simp (discharger:=decide) only [eval_put_ne]); rw [Q0a (by simp only [size_put]; exact (by decide:100 < 279))]; assumption) ?_
                have fo0:bb.eval (.tmp 101)=.int .i64 0:=by rw [hbb]; dsimp only; (try simp (discharger:=decide) only [Flow.eval_put_ne,Flow.J2k]); rw [Flow.Q0a (by simp only [Flow.size_put]; exact (by decide:101 < 279))]; assumption
                clear hbb;refine ⟨_,fun w=>?_,rfl⟩;unfold execOp;simp only [fo0];clear fo0;go_simp
               case g24=>
                as_aux_lemma =>
                intro v w1 hx;(repeat intro (zq:v _=_));intro bb hbb;refine Flow.Q0l (d:=100) rfl rfl (by rw [hbb]; simp only [size_put]; exact (by decide:100 < 279)) (by rw [hbb]; dsimp only; (try simp (discharger:=decide) only [eval_put_ne]); rw [Q0a (by simp only [size_put]; exact (by decide:100 < 279))]; assumption) ?_
                have fo0:bb.eval (.tmp 102)=.bool false:=by rw [hbb]; dsimp only; (try simp (discharger:=decide) only [Flow.eval_put_ne,Flow.J2k]); rw [Flow.Q0a (by simp only [Flow.size_put]; exact (by decide:102 < 279))]; assumption
                clear hbb;refine ⟨_,fun w=>?_,rfl⟩;unfold execOp;simp only [fo0];clear fo0;go_simp
               case g25 | g26=>
                as_aux_lemma =>
                intro v w1 hx;(repeat intro (zq:v _=_));intro bb hbb;exact Flow.Q1c (d:=103) rfl rfl (by rw [hbb]; simp only [size_put]; exact (by decide:103 < 279)) (by rw [hbb]; dsimp only; (try simp (discharger:=decide) only [eval_put_ne]); rw [Q0a (by simp only [size_put]; exact (by decide:103 < 279))]; assumption) rfl
               case g27=>
                as_aux_lemma =>
                intro v w1 hx;(repeat intro (zq:v _=_));intro bb hbb;refine Flow.Q0l (d:=100) rfl rfl (by rw [hbb]; simp only [size_put]; exact (by decide:100 < 279)) (by rw [hbb]; dsimp only; (try simp (discharger:=decide) only [eval_put_ne]); rw [Q0a (by simp only [size_put]; exact (by decide:100 < 279))]; assumption) ?_
                have fo0:bb.eval (.tmp 103)=.bool false:=by rw [hbb]; dsimp only; (try simp (discharger:=decide) only [Flow.eval_put_ne,Flow.J2k]); rw [Flow.Q0a (by simp only [Flow.size_put]; exact (by decide:103 < 279))]; assumption
                have fo1:bb.eval (.tmp 105)=undef:=by rw [hbb]; dsimp only; (try simp (discharger:=decide) only [Flow.eval_put_ne,Flow.J2k]); rw [Flow.Q0a (by simp only [Flow.size_put]; exact (by decide:105 < 279))]; assumption
                clear hbb;refine ⟨_,fun w=>?_,rfl⟩;unfold execOp;simp only [fo0,fo1];clear fo0 fo1;go_simp
               case g28=>
                as_aux_lemma =>
                intro v w1 hx;(repeat intro (zq:v _=_));intro bb hbb;have fo0:bb.eval (.tmp 100)=.bool false:=by rw [hbb]; dsimp only; (try simp (discharger:=decide) only [Flow.eval_put_ne,Flow.J2k]); rw [Flow.Q0a (by simp only [Flow.size_put]; exact (by decide:100 < 279))]; assumption
                have fo1:bb.eval (.tmp 106)=.bool false:=by rw [hbb]; dsimp only; (try simp (discharger:=decide) only [Flow.eval_put_ne,Flow.J2k]); rw [Flow.Q0a (by simp only [Flow.size_put]; exact (by decide:106 < 279))]; assumption
                clear hbb;refine ⟨_,fun w=>?_,rfl⟩;unfold execOp;simp only [fo0,fo1];clear fo0 fo1;go_simp
               case g29=>
                as_aux_lemma =>
                intro v w1 hx;(repeat intro (zq:v _=_));intro bb hbb;have fo0:bb.eval (.tmp 107)=.bool false:=by rw [hbb]; dsimp only; (try simp (discharger:=decide) only [Flow.eval_put_ne,Flow.J2k]); rw [Flow.Q0a (by simp only [Flow.size_put]; exact (by decide:107 < 279))]; assumption
                clear hbb;refine ⟨_,fun w=>?_,rfl⟩;unfold execOp;simp only [fo0];clear fo0;go_simp
               case g30=>
                as_aux_lemma =>
                intro v w1 hx;(repeat intro (zq:v _=_));intro bb hbb;refine Flow.Q0l (d:=108) rfl rfl (by rw [hbb]; simp only [size_put]; exact (by decide:108 < 279)) (by rw [hbb]; dsimp only; (try simp (discharger:=decide) only [eval_put_ne]); rw [Q0a (by simp only [size_put]; exact (by decide:108 < 279))]; assumption) ?_
                have fo0:bb.eval (.tmp 16)=.int .i64 0:=by rw [hbb]; dsimp only; (try simp (discharger:=decide) only [Flow.eval_put_ne,Flow.J2k]); rfl
                clear hbb;refine ⟨_,fun w=>?_,rfl⟩;unfold execOp;simp only [fo0];clear fo0;go_simp
               case g31=>
                as_aux_lemma =>
                intro v w1 hx;(repeat intro (zq:v _=_));intro bb hbb;refine Flow.Q0l (d:=108) rfl rfl (by rw [hbb]; simp only [size_put]; exact (by decide:108 < 279)) (by rw [hbb]; dsimp only; (try simp (discharger:=decide) only [eval_put_ne]); rw [Q0a (by simp only [size_put]; exact (by decide:108 < 279))]; assumption) ?_
                have fo0:bb.eval (.tmp 109)=.int .i64 0:=by rw [hbb]; dsimp only; (try simp (discharger:=decide) only [Flow.eval_put_ne,Flow.J2k]); rw [Flow.Q0a (by simp only [Flow.size_put]; exact (by decide:109 < 279))]; assumption
                clear hbb;refine ⟨_,fun w=>?_,rfl⟩;unfold execOp;simp only [fo0];clear fo0;go_simp
               case g32=>
                as_aux_lemma =>
                intro v w1 hx;(repeat intro (zq:v _=_));intro bb hbb;refine Flow.Q0l (d:=108) rfl rfl (by rw [hbb]; simp only [size_put]; exact (by decide:108 < 279)) (by rw [hbb]; dsimp only; (try simp (discharger:=decide) only [eval_put_ne]); rw [Q0a (by simp only [size_put]; exact (by decide:108 < 279))]; assumption) ?_
                have fo0:bb.eval (.tmp 110)=.bool true:=by rw [hbb]; dsimp only; (try simp (discharger:=decide) only [Flow.eval_put_ne,Flow.J2k]); rw [Flow.Q0a (by simp only [Flow.size_put]; exact (by decide:110 < 279))]; assumption
                clear hbb;refine ⟨_,fun w=>?_,rfl⟩;unfold execOp;simp only [fo0];clear fo0;go_simp
               case g33=>
                as_aux_lemma =>
                intro v w1 hx;(repeat intro (zq:v _=_));intro bb hbb;refine Flow.Q0l (d:=111) rfl rfl (by rw [hbb]; simp only [size_put]; exact (by decide:111 < 279)) (by rw [hbb]; dsimp only; (try simp (discharger:=decide) only [eval_put_ne]); rw [Q0a (by simp only [size_put]; exact (by decide:111 < 279))]; assumption) ?_
                have fo0:bb.eval (.tmp 14)=.int .i64 n2:=by rw [hbb]; dsimp only; (try simp (discharger:=decide) only [Flow.eval_put_ne,Flow.J2k]); rfl
                clear hbb;refine ⟨_,fun w=>?_,rfl⟩;unfold execOp;simp only [fo0];clear fo0;go_simp
               case g34=>
                as_aux_lemma =>
                intro v w1 hx;(repeat intro (zq:v _=_));intro bb hbb;refine Flow.Q0l (d:=111) rfl rfl (by rw [hbb]; simp only [size_put]; exact (by decide:111 < 279)) (by rw [hbb]; dsimp only; (try simp (discharger:=decide) only [eval_put_ne]); rw [Q0a (by simp only [size_put]; exact (by decide:111 < 279))]; assumption) ?_
                have fo0:bb.eval (.tmp 10)=.int .i64 n2:=by rw [hbb]; dsimp only; (try simp (discharger:=decide) only [Flow.eval_put_ne,Flow.J2k]); rfl
                clear hbb;refine ⟨_,fun w=>?_,rfl⟩;unfold execOp;simp only [fo0];clear fo0;go_simp
               case g35=>
                as_aux_lemma =>
                intro v w1 hx;(repeat intro (zq:v _=_));intro bb hbb;refine Flow.Q0l (d:=111) rfl rfl (by rw [hbb]; simp only [size_put]; exact (by decide:111 < 279)) (by rw [hbb]; dsimp only; (try simp (discharger:=decide) only [eval_put_ne]); rw [Q0a (by simp only [size_put]; exact (by decide:111 < 279))]; assumption) ?_
                have fo0:bb.eval (.tmp 112)=.int .i64 n2:=by rw [hbb]; dsimp only; (try simp (discharger:=decide) only [Flow.eval_put_ne,Flow.J2k]); rw [Flow.Q0a (by simp only [Flow.size_put]; exact (by decide:112 < 279))]; assumption
                have fo1:bb.eval (.tmp 113)=.int .i64 n2:=by rw [hbb]; dsimp only; (try simp (discharger:=decide) only [Flow.eval_put_ne,Flow.J2k]); rw [Flow.Q0a (by simp only [Flow.size_put]; exact (by decide:113 < 279))]; assumption
                clear hbb;refine ⟨_,fun w=>?_,rfl⟩;unfold execOp;simp only [fo0,fo1];clear fo0 fo1;go_simp
               case g36=>
                as_aux_lemma =>
                intro v w1 hx;(repeat intro (zq:v _=_));intro bb hbb;refine Flow.Q0l (d:=111) rfl rfl (by rw [hbb]; simp only [size_put]; exact (by decide:111 < 279)) (by rw [hbb]; dsimp only; (try simp (discharger:=decide) only [eval_put_ne]); rw [Q0a (by simp only [size_put]; exact (by decide:111 < 279))]; assumption) ?_
                have fo0:bb.eval (.tmp 114)=.bool false:=by rw [hbb]; dsimp only; (try simp (discharger:=decide) only [Flow.eval_put_ne,Flow.J2k]); rw [Flow.Q0a (by simp only [Flow.size_put]; exact (by decide:114 < 279))]; assumption
                clear hbb;refine ⟨_,fun w=>?_,rfl⟩;unfold execOp;simp only [fo0];clear fo0;go_simp
               case g37=>
                as_aux_lemma =>
                intro v w1 hx;(repeat intro (zq:v _=_));intro bb hbb;refine Flow.Q0l (d:=115) rfl rfl (by rw [hbb]; simp only [size_put]; exact (by decide:115 < 279)) (by rw [hbb]; dsimp only; (try simp (discharger:=decide) only [eval_put_ne]); rw [Q0a (by simp only [size_put]; exact (by decide:115 < 279))]; assumption) ?_
                have fo0:bb.eval (.tmp 14)=.int .i64 n2:=by rw [hbb]; dsimp only; (try simp (discharger:=decide) only [Flow.eval_put_ne,Flow.J2k]); rfl
                clear hbb;refine ⟨_,fun w=>?_,rfl⟩;unfold execOp;simp only [fo0];clear fo0;go_simp
               case g38=>
                as_aux_lemma =>
                intro v w1 hx;(repeat intro (zq:v _=_));intro bb hbb;refine Flow.Q0l (d:=115) rfl rfl (by rw [hbb]; simp only [size_put]; exact (by decide:115 < 279)) (by rw [hbb]; dsimp only; (try simp (discharger:=decide) only [eval_put_ne]); rw [Q0a (by simp only [size_put]; exact (by decide:115 < 279))]; assumption) ?_
                have fo0:bb.eval (.tmp 10)=.int .i64 n2:=by rw [hbb]; dsimp only; (try simp (discharger:=decide) only [Flow.eval_put_ne,Flow.J2k]); rfl
                clear hbb;refine ⟨_,fun w=>?_,rfl⟩;unfold execOp;simp only [fo0];clear fo0;go_simp
               case g39=>
                as_aux_lemma =>
                intro v w1 hx;(repeat intro (zq:v _=_));intro bb hbb;refine Flow.Q0l (d:=115) rfl rfl (by rw [hbb]; simp only [size_put]; exact (by decide:115 < 279)) (by rw [hbb]; dsimp only; (try simp (discharger:=decide) only [eval_put_ne]); rw [Q0a (by simp only [size_put]; exact (by decide:115 < 279))]; assumption) ?_
                have fo0:bb.eval (.tmp 116)=.int .i64 n2:=by rw [hbb]; dsimp only; (try simp (discharger:=decide) only [Flow.eval_put_ne,Flow.J2k]); rw [Flow.Q0a (by simp only [Flow.size_put]; exact (by decide:116 < 279))]; assumption
                have fo1:bb.eval (.tmp 117)=.int .i64 n2:=by rw [hbb]; dsimp only; (try simp (discharger:=decide) only [Flow.eval_put_ne,Flow.J2k]); rw [Flow.Q0a (by simp only [Flow.size_put]; exact (by decide:117 < 279))]; assumption
                clear hbb;refine ⟨_,fun w=>?_,rfl⟩;unfold execOp;simp only [fo0,fo1];clear fo0 fo1;go_simp
               case g40=>
                as_aux_lemma =>
                intro v w1 hx;(repeat intro (zq:v _=_));intro bb hbb;refine Flow.Q0l (d:=115) rfl rfl (by rw [hbb]; simp only [size_put]; exact (by decide:115 < 279)) (by rw [hbb]; dsimp only; (try simp (discharger:=decide) only [eval_put_ne]); rw [Q0a (by simp only [size_put]; exact (by decide:115 < 279))]; assumption) ?_
                have fo0:bb.eval (.tmp 118)=.bool true:=by rw [hbb]; dsimp only; (try simp (discharger:=decide) only [Flow.eval_put_ne,Flow.J2k]); rw [Flow.Q0a (by simp only [Flow.size_put]; exact (by decide:118 < 279))]; assumption
                clear hbb;refine ⟨_,fun w=>?_,rfl⟩;unfold execOp;simp only [fo0];clear fo0;go_simp
               case g41=>
                as_aux_lemma =>
                intro v w1 hx;(repeat intro (zq:v _=_));intro bb hbb;refine Flow.Q0l (d:=119) rfl rfl (by rw [hbb]; simp only [size_put]; exact (by decide:119 < 279)) (by rw [hbb]; dsimp only; (try simp (discharger:=decide) only [eval_put_ne]); rw [Q0a (by simp only [size_put]; exact (by decide:119 < 279))]; assumption) ?_
                have fo0:bb.eval (.tmp 15)=.int .i64 d2:=by rw [hbb]; dsimp only; (try simp (discharger:=decide) only [Flow.eval_put_ne,Flow.J2k]); rfl
                clear hbb;refine ⟨_,fun w=>?_,rfl⟩;unfold execOp;simp only [fo0];clear fo0;go_simp
               case g42=>
                as_aux_lemma =>
                intro v w1 hx;(repeat intro (zq:v _=_));intro bb hbb;refine Flow.Q0l (d:=119) rfl rfl (by rw [hbb]; simp only [size_put]; exact (by decide:119 < 279)) (by rw [hbb]; dsimp only; (try simp (discharger:=decide) only [eval_put_ne]); rw [Q0a (by simp only [size_put]; exact (by decide:119 < 279))]; assumption) ?_
                have fo0:bb.eval (.tmp 11)=.int .i64 d1:=by rw [hbb]; dsimp only; (try simp (discharger:=decide) only [Flow.eval_put_ne,Flow.J2k]); rfl
                clear hbb;refine ⟨_,fun w=>?_,rfl⟩;unfold execOp;simp only [fo0];clear fo0;go_simp
               case g43=>
                as_aux_lemma =>
                intro v w1 hx;(repeat intro (zq:v _=_));intro bb hbb;refine Flow.Q0l (d:=119) rfl rfl (by rw [hbb]; simp only [size_put]; exact (by decide:119 < 279)) (by rw [hbb]; dsimp only; (try simp (discharger:=decide) only [eval_put_ne]); rw [Q0a (by simp only [size_put]; exact (by decide:119 < 279))]; assumption) ?_
                have fo0:bb.eval (.tmp 120)=.int .i64 d2:=by rw [hbb]; dsimp only; (try simp (discharger:=decide) only [Flow.eval_put_ne,Flow.J2k]); rw [Flow.Q0a (by simp only [Flow.size_put]; exact (by decide:120 < 279))]; assumption
                have fo1:bb.eval (.tmp 121)=.int .i64 d1:=by rw [hbb]; dsimp only; (try simp (discharger:=decide) only [Flow.eval_put_ne,Flow.J2k]); rw [Flow.Q0a (by simp only [Flow.size_put]; exact (by decide:121 < 279))]; assumption
                clear hbb;refine ⟨_,fun w=>?_,rfl⟩;unfold execOp;simp only [fo0,fo1];clear fo0 fo1;go_simp
               case g44=>
                as_aux_lemma =>
                intro v w1 hx;(repeat intro (zq:v _=_));intro bb hbb;refine Flow.Q0l (d:=115) rfl rfl (by rw [hbb]; simp only [size_put]; exact (by decide:115 < 279)) (by rw [hbb]; dsimp only; (try simp (discharger:=decide) only [eval_put_ne]); rw [Q0a (by simp only [size_put]; exact (by decide:115 < 279))]; assumption) ?_
                have fo0:bb.eval (.tmp 119)=.bool true:=by rw [hbb]; dsimp only; (try simp (discharger:=decide) only [Flow.eval_put_ne,Flow.J2k]); rw [Flow.Q0a (by simp only [Flow.size_put]; exact (by decide:119 < 279))]; assumption
                have fo1:bb.eval (.tmp 122)=.bool false:=by rw [hbb]; dsimp only; (try simp (discharger:=decide) only [Flow.eval_put_ne,Flow.J2k]); rw [Flow.Q0a (by simp only [Flow.size_put]; exact (by decide:122 < 279))]; assumption
                clear hbb;refine ⟨_,fun w=>?_,rfl⟩;unfold execOp;simp only [fo0,fo1];clear fo0 fo1;go_simp
               case g45=>
                as_aux_lemma =>
                intro v w1 hx;(repeat intro (zq:v _=_));intro bb hbb;refine Flow.Q0l (d:=111) rfl rfl (by rw [hbb]; simp only [size_put]; exact (by decide:111 < 279)) (by rw [hbb]; dsimp only; (try simp (discharger:=decide) only [eval_put_ne]); rw [Q0a (by simp only [size_put]; exact (by decide:111 < 279))]; assumption) ?_
                have fo0:bb.eval (.tmp 115)=.bool false:=by rw [hbb]; dsimp only; (try simp (discharger:=decide) only [Flow.eval_put_ne,Flow.J2k]); rw [Flow.Q0a (by simp only [Flow.size_put]; exact (by decide:115 < 279))]; assumption
                have fo1:bb.eval (.tmp 123)=.bool false:=by rw [hbb]; dsimp only; (try simp (discharger:=decide) only [Flow.eval_put_ne,Flow.J2k]); rw [Flow.Q0a (by simp only [Flow.size_put]; exact (by decide:123 < 279))]; assumption
                clear hbb;refine ⟨_,fun w=>?_,rfl⟩;unfold execOp;simp only [fo0,fo1];clear fo0 fo1;go_simp
               case g46=>
                as_aux_lemma =>
                intro v w1 hx;(repeat intro (zq:v _=_));intro bb hbb;refine Flow.Q0l (d:=108) rfl rfl (by rw [hbb]; simp only [size_put]; exact (by decide:108 < 279)) (by rw [hbb]; dsimp only; (try simp (discharger:=decide) only [eval_put_ne]); rw [Q0a (by simp only [size_put]; exact (by decide:108 < 279))]; assumption) ?_
                have fo0:bb.eval (.tmp 111)=.bool true:=by rw [hbb]; dsimp only; (try simp (discharger:=decide) only [Flow.eval_put_ne,Flow.J2k]); rw [Flow.Q0a (by simp only [Flow.size_put]; exact (by decide:111 < 279))]; assumption
                have fo1:bb.eval (.tmp 124)=.bool false:=by rw [hbb]; dsimp only; (try simp (discharger:=decide) only [Flow.eval_put_ne,Flow.J2k]); rw [Flow.Q0a (by simp only [Flow.size_put]; exact (by decide:124 < 279))]; assumption
                clear hbb;refine ⟨_,fun w=>?_,rfl⟩;unfold execOp;simp only [fo0,fo1];clear fo0 fo1;go_simp
               case g47=>
                as_aux_lemma =>
                intro v w1 hx;(repeat intro (zq:v _=_));intro bb hbb;have fo0:bb.eval (.tmp 108)=.bool false:=by rw [hbb]; dsimp only; (try simp (discharger:=decide) only [Flow.eval_put_ne,Flow.J2k]); rw [Flow.Q0a (by simp only [Flow.size_put]; exact (by decide:108 < 279))]; assumption
                have fo1:bb.eval (.tmp 125)=.bool false:=by rw [hbb]; dsimp only; (try simp (discharger:=decide) only [Flow.eval_put_ne,Flow.J2k]); rw [Flow.Q0a (by simp only [Flow.size_put]; exact (by decide:125 < 279))]; assumption
                clear hbb;refine ⟨_,fun w=>?_,rfl⟩;unfold execOp;simp only [fo0,fo1];clear fo0 fo1;go_simp
              case post =>
               intro v w1 hx;(iterate 9 intro (zq:v _=_));intro (q9:(fun v w'=>Q0w w' (v 9) (X7b s x1)) v w1);(iterate 38 intro (zq:v _=_));simp only [Flow.All,Flow.acts,Act.put];go_simp;go_wp2_with fail;go_meet;exact ⟨rfl,hdr.trans hx⟩
         case rest =>
          obtain ⟨rfl,hcut⟩:=hcut;replace HXA:=hid (HXA.out.trans hcut);replace HWD:=hid (HWD.out.ext hcut);replace H2:=hid (H2.out.ext hcut);replace KB:=hid (KB.out.ext hcut);replace KA:=hid (KA.out.ext hcut);replace FB:=hid (FB.out.ext hcut);replace KP:=hid (KP.out.ext hcut);replace KN:=hid (KN.out.ext hcut);obtain ⟨w12,rfl⟩:∃ X,X=wc:=⟨_,rfl⟩;clear hcut;go_upto_if 126 with fail
          go_step
          go_step
          go_step
          go_step
          exact J7u HXA HWD H2 KB KA FB KP HSEA HS HE HVS HM HCD HBL HKM HMB HB3 HR1 HR2 _ rfl rfl rfl rfl rfl rfl rfl rfl rfl
       . skip
         obtain ⟨rn,hrn⟩:∃ z,Q0f need 0 8000=z:=⟨_,rfl⟩;rw [hrn] at hr ⊢;have hr0:(rn != 0)=true:=by simp [hr]
         clear hrn;go_wp2_with fail;refine (J0d _ HWD.out).mono ?_;rintro e w5 ⟨rfl,hx⟩;have hxx:Ext w4 w5:=hx;replace HXA:=hid (HXA.out.trans hxx);replace HWD:=hid (HWD.out.ext hxx);replace H2:=hid (H2.out.ext hxx);replace KB:=hid (KB.out.ext hxx);replace KA:=hid (KA.out.ext hxx);clear hx hxx;go_wp2;go_ret;exact ⟨rfl,HXA.out⟩
   . skip
     obtain ⟨E,hE⟩:∃ E,s.err=E:=⟨_,rfl⟩;rw [hE] at he ⊢;have hE0:(E != 0)=true:=by simp [he]
     clear hE;go_wp2_with fail;refine (J0d _ HWD.out).mono ?_;rintro e w3 ⟨rfl,hx⟩;have hxx:Ext w2 w3:=hx;replace HXA:=hid (HXA.out.trans hxx);replace HWD:=hid (HWD.out.ext hxx);replace H2:=hid (H2.out.ext hxx);replace KB:=hid (KB.out.ext hxx);replace KA:=hid (KA.out.ext hxx);clear hx hxx;go_wp2;go_ret;exact ⟨rfl,HXA.out⟩
end Go.Proofs
