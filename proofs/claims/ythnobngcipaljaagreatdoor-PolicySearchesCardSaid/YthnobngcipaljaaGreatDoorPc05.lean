/- The law PolicySearches. The law PolicySearches: for every input the call returns true, and each argument reads afterwards as before: the row's statement, and its tied card. The listed tables of math/bits, strconv and policy are as the program's text lays them. -/
import Derived.Test.YthnobngcipaljaaGreatDoorPo34
import Derived.Test.YthnobngcipaljaaGreatDoorPo36
import Derived.Test.YthnobngcipaljaaGreatDoorPc01
import Derived.Test.YthnobngcipaljaaGreatDoorPc02
import Derived.Test.YthnobngcipaljaaGreatDoorPc04
set_option maxRecDepth 1000000
set_option maxHeartbeats 64000000
set_option linter.unusedVariables false
set_option linter.unusedSimpArgs false
set_option linter.constructorNameAsVariable false
namespace Go.Proofs
open Go.RowKit Go.Tw Go.Flow
attribute [local go_sem] Oper.semAt_some
theorem J6a (w:World) (v:Value) (s:Q0b) (need:Int) (hv:Q0h w v s) (hW:Words w) :
    Calls Tryz.prog 3 #[v,.int .i64 need] w fun e w'=>e = .returned (.bool true) /\ Ext w w':=by
 obtain ⟨a,b,rfl,h2⟩:=hv;obtain ⟨A,capa,rfl,-,-,-⟩:=h2.ships.opened;obtain ⟨B,capb,rfl,-,-,-⟩:=h2.members.opened;have HXA:=Lib.hid (Ext.refl w);have HWD:=Lib.hid hW;have H2:=Lib.hid h2;obtain ⟨T,hT⟩:∃ T,s.ships.length = T:=⟨_,rfl⟩;have HT:=Lib.hid hT;obtain ⟨M,hM⟩:∃ M,s.members.length = M:=⟨_,rfl⟩;have HM:=Lib.hid hM;obtain ⟨lim,hlim⟩:∃ k,s.limit = k:=⟨_,rfl⟩;have HSEA:Hid (∀ W,Q4m W (.slice A T capa) (.slice B M capb) s -> Q0h W (.agg #[.int .i64 lim,.slice A T capa,.slice B M capb]) s):=Lib.hid (fun W h=>⟨_,_,by rw [hlim],h⟩)
 rw [hT,hM] at H2;rw [hT,hM,hlim];clear h2 hW hT hM hlim;go_enter Tryz.func3,Tryz.ntmps3;go_wp2_with fail;change Calls _ _ _ (w.alloc (.cells #[.int .i64 lim,.slice A T capa,.slice B M capb] 25)) _;obtain ⟨W,hWW,k0,HXW,eW⟩:=Q1q w 25 #[.int .i64 lim,.slice A T capa,.slice B M capb];rw [hWW];clear hWW;refine (Y0v _ _ s (HSEA.out _ (H2.out.ext HXW.out))).mono ?_;rintro e w1 ⟨q,rfl,hq,hx⟩;have hxx:Ext w w1:=HXW.out.trans hx;replace HXA:=Lib.hid (HXA.out.trans hxx);replace HWD:=Lib.hid (HWD.out.ext hxx);replace H2:=Lib.hid (H2.out.ext hxx);have KB:=Lib.hid (k0.ext hx);clear hx hxx HXW eW k0;obtain ⟨gs,hgs⟩:∃ z,w.heap.size = z:=⟨_,rfl⟩;rw [hgs] at KB ⊢;clear hgs;cases q with
 | false =>
   clear hq;go_wp2_with fail;refine (Q4o _ HWD.out).mono ?_;rintro e w2 ⟨rfl,hx⟩;have hxx:Ext w1 w2:=hx;replace HXA:=Lib.hid (HXA.out.trans hxx);replace HWD:=Lib.hid (HWD.out.ext hxx);replace H2:=Lib.hid (H2.out.ext hxx);replace KB:=Lib.hid (KB.out.ext hxx);clear hx hxx;go_wp2;go_ret;exact ⟨rfl,HXA.out⟩
 | true =>
   have hs:Q3d s:=hq.1 rfl;have HS:=Lib.hid hs;clear hs hq;have d0KB:=KB.out.cell 0;have d1KB:=KB.out.cell 1;have d2KB:=KB.out.cell 2;simp only [Go.Tw.gA,Go.Tw.gB,Go.Tw.gC] at d0KB d1KB d2KB;go_wp2_with fail;refine (X5k _ _ s (HSEA.out _ H2.out)).mono ?_;rintro e w2 ⟨rfl,hx⟩;have hxx:Ext w1 w2:=hx;replace HXA:=Lib.hid (HXA.out.trans hxx);replace HWD:=Lib.hid (HWD.out.ext hxx);replace H2:=Lib.hid (H2.out.ext hxx);replace KB:=Lib.hid (KB.out.ext hxx);clear hx hxx d0KB d1KB d2KB
   by_cases he:s.err = 0
   . skip
     have HE:=Lib.hid he;have hvs:=Q0y.of he;have HVS:=Lib.hid hvs;have HFI:=Lib.hid hvs.toFine;rw [he];clear he hvs;have d0KB:=KB.out.cell 0;have d1KB:=KB.out.cell 1;have d2KB:=KB.out.cell 2;simp only [Go.Tw.gA,Go.Tw.gB,Go.Tw.gC] at d0KB d1KB d2KB;go_wp2_with fail;refine (J9b _ _ s (HSEA.out _ H2.out) HE.out).mono ?_;rintro e w3 ⟨rfl,hx⟩;have hxx:Ext w2 w3:=hx;replace HXA:=Lib.hid (HXA.out.trans hxx);replace HWD:=Lib.hid (HWD.out.ext hxx);replace H2:=Lib.hid (H2.out.ext hxx);replace KB:=Lib.hid (KB.out.ext hxx);clear hx hxx d0KB d1KB d2KB;obtain ⟨fb,hfb⟩:∃ z,J9v s = z:=⟨_,rfl⟩;have HFB:=Lib.hid hfb;rw [hfb];clear hfb;cases fb with
     | false =>
       go_wp2_with fail;refine (Q4o _ HWD.out).mono ?_;rintro e w4 ⟨rfl,hx⟩;have hxx:Ext w3 w4:=hx;replace HXA:=Lib.hid (HXA.out.trans hxx);replace HWD:=Lib.hid (HWD.out.ext hxx);replace H2:=Lib.hid (H2.out.ext hxx);replace KB:=Lib.hid (KB.out.ext hxx);clear hx hxx;go_wp2;go_ret;exact ⟨rfl,HXA.out⟩
     | true =>
       have HF9:Hid (s.hist.length <= 9):=Lib.hid (of_decide_eq_true HFB.out);have d0KB:=KB.out.cell 0;have d1KB:=KB.out.cell 1;have d2KB:=KB.out.cell 2;simp only [Go.Tw.gA,Go.Tw.gB,Go.Tw.gC] at d0KB d1KB d2KB;go_wp2_with fail;refine (X7v _ _ s (HSEA.out _ H2.out) HS.out).mono ?_;rintro e w4 ⟨g1,rfl,hg,hx⟩;have hxx:Ext w3 w4:=hx;replace HXA:=Lib.hid (HXA.out.trans hxx);replace HWD:=Lib.hid (HWD.out.ext hxx);replace H2:=Lib.hid (H2.out.ext hxx);replace KB:=Lib.hid (KB.out.ext hxx);clear hx hxx d0KB d1KB d2KB;have HG:=Lib.hid hg;clear hg;go_wp2_with fail;refine (Z5d _ _ s HG.out HS.out HF9.out).mono ?_;rintro e w5 ⟨rfl,hx⟩;have hxx:Ext w4 w5:=hx;replace HXA:=Lib.hid (HXA.out.trans hxx);clear HG;replace HWD:=Lib.hid (HWD.out.ext hxx);replace H2:=Lib.hid (H2.out.ext hxx);replace KB:=Lib.hid (KB.out.ext hxx);clear hx hxx;have d0KB:=KB.out.cell 0;have d1KB:=KB.out.cell 1;have d2KB:=KB.out.cell 2;simp only [Go.Tw.gA,Go.Tw.gB,Go.Tw.gC] at d0KB d1KB d2KB;go_wp2_with fail;refine (X7v _ _ s (HSEA.out _ H2.out) HS.out).mono ?_;rintro e w6 ⟨g2,rfl,hg,hx⟩;have hxx:Ext w5 w6:=hx;replace HXA:=Lib.hid (HXA.out.trans hxx);replace HWD:=Lib.hid (HWD.out.ext hxx);replace H2:=Lib.hid (H2.out.ext hxx);replace KB:=Lib.hid (KB.out.ext hxx);clear hx hxx d0KB d1KB d2KB;have HG:=Lib.hid hg;clear hg;go_wp2_with fail;refine (Y6s _ _ s need HG.out HS.out HF9.out).mono ?_;rintro e w7 ⟨⟨xb,rfl,hb⟩,hx⟩;have hxx:Ext w6 w7:=hx;replace HXA:=Lib.hid (HXA.out.trans hxx);clear HG;replace HWD:=Lib.hid (HWD.out.ext hxx);replace H2:=Lib.hid (H2.out.ext hxx);replace KB:=Lib.hid (KB.out.ext hxx);clear hx hxx;obtain ⟨Xb,cb,rfl,-,-,-⟩:=hb.opened;obtain ⟨nb,hnb⟩:∃ z,(Y4v s need).length = z:=⟨_,rfl⟩;have HNB:=Lib.hid hnb;rw [hnb] at hb ⊢;clear hnb;have FB:=Lib.hid hb;clear hb;have hbx:=Ext.box w7 (.cells #[.slice Xb nb cb] 38);have d0KB:=(KB.out.ext hbx).cell 0;have d1KB:=(KB.out.ext hbx).cell 1;have d2KB:=(KB.out.ext hbx).cell 2;simp only [Go.Tw.gA,Go.Tw.gB,Go.Tw.gC] at d0KB d1KB d2KB;go_wp2_with fail;change Calls _ _ _ (w7.alloc (.cells #[.slice Xb nb cb] 38)) _;obtain ⟨W,hWW,k0,HXW,eW⟩:=Q1q w7 38 #[.slice Xb nb cb];rw [hWW];clear hWW;refine (X5k _ _ s (HSEA.out _ (H2.out.ext HXW.out))).mono ?_;rintro e w8 ⟨rfl,hx⟩;have hxx:Ext w7 w8:=HXW.out.trans hx;replace HXA:=Lib.hid (HXA.out.trans hxx);replace HWD:=Lib.hid (HWD.out.ext hxx);replace H2:=Lib.hid (H2.out.ext hxx);replace KB:=Lib.hid (KB.out.ext hxx);replace FB:=Lib.hid (FB.out.ext hxx);have KP:=Lib.hid (k0.ext hx);clear hx hxx HXW eW k0 hbx d0KB d1KB d2KB;obtain ⟨gp,hgp⟩:∃ z,w7.heap.size = z:=⟨_,rfl⟩;rw [hgp] at KP ⊢;clear hgp;go_wp2_with fail;refine (J7n _ need).mono ?_;rintro e w9 ⟨rfl,hx⟩;have hxx:Ext w8 w9:=hx;replace HXA:=Lib.hid (HXA.out.trans hxx);replace HWD:=Lib.hid (HWD.out.ext hxx);replace H2:=Lib.hid (H2.out.ext hxx);replace KB:=Lib.hid (KB.out.ext hxx);replace FB:=Lib.hid (FB.out.ext hxx);replace KP:=Lib.hid (KP.out.ext hxx);clear hx hxx;obtain ⟨R,hR⟩:∃ z,Q0f need 0 8000 = z:=⟨_,rfl⟩;have HR:=Lib.hid hR;rw [hR];clear hR;rw [HE.out];obtain ⟨me,hme⟩:∃ z,Z7s s = z:=⟨_,rfl⟩;have hmr:J8i s = me:=by rw [<- hme,<- J9l HFI.out]; exact (if_pos HE.out).symm
       have HMR:=Lib.hid hmr;rw [hme];clear hme hmr;go_wp2_with fail;change Calls _ _ _ (w9.alloc (.cells #[.int .i64 0,.int .i64 R] 3)) _;obtain ⟨W,hWW,k0,HXW,eW⟩:=Q1q w9 3 #[.int .i64 0,.int .i64 R];rw [hWW];clear hWW;refine (J7w _ _ _ 0 R k0).mono ?_;rintro e w10 ⟨rfl,hx⟩;have hxx:Ext w9 w10:=HXW.out.trans hx;replace HXA:=Lib.hid (HXA.out.trans hxx);replace HWD:=Lib.hid (HWD.out.ext hxx);replace H2:=Lib.hid (H2.out.ext hxx);replace KB:=Lib.hid (KB.out.ext hxx);replace FB:=Lib.hid (FB.out.ext hxx);replace KP:=Lib.hid (KP.out.ext hxx);clear hx hxx HXW eW k0;have hff:Q0j [0,R] = Z5b s need:=by unfold Z5b; rw [HE.out,HR.out]
       obtain ⟨F,hF⟩:∃ z,Z5b s need = z:=⟨_,rfl⟩;have HF:=Lib.hid hF;rw [hff,hF];clear hff hF;have d0KB:=KB.out.cell 0;have d1KB:=KB.out.cell 1;have d2KB:=KB.out.cell 2;simp only [Go.Tw.gA,Go.Tw.gB,Go.Tw.gC] at d0KB d1KB d2KB;go_wp2_with fail;refine (J8u _ _ s (HSEA.out _ H2.out) HE.out HF9.out).mono ?_;rintro e w11 ⟨rfl,hx⟩;have hxx:Ext w10 w11:=hx;replace HXA:=Lib.hid (HXA.out.trans hxx);replace HWD:=Lib.hid (HWD.out.ext hxx);replace H2:=Lib.hid (H2.out.ext hxx);replace KB:=Lib.hid (KB.out.ext hxx);replace FB:=Lib.hid (FB.out.ext hxx);replace KP:=Lib.hid (KP.out.ext hxx);clear hx hxx d0KB d1KB d2KB;rw [HMR.out];have hmm:(me != me) = false:=by simp
       by_cases hF0:F = 0
       . skip
         have HF0:=Lib.hid (HF.out.trans hF0);rw [hF0];clear hF0;have d0KB:=KB.out.cell 0;have d1KB:=KB.out.cell 1;have d2KB:=KB.out.cell 2;simp only [Go.Tw.gA,Go.Tw.gB,Go.Tw.gC] at d0KB d1KB d2KB;go_wp2_with fail;refine (J8t _ _ s need (HSEA.out _ H2.out) HE.out HF9.out).mono ?_;rintro e w12 ⟨rfl,hx⟩;have hxx:Ext w11 w12:=hx;replace HXA:=Lib.hid (HXA.out.trans hxx);replace HWD:=Lib.hid (HWD.out.ext hxx);replace H2:=Lib.hid (H2.out.ext hxx);replace KB:=Lib.hid (KB.out.ext hxx);replace FB:=Lib.hid (FB.out.ext hxx);replace KP:=Lib.hid (KP.out.ext hxx);clear hx hxx d0KB d1KB d2KB;obtain ⟨ob,hob⟩:∃ z,Y4m s need = z:=⟨_,rfl⟩;cases ob with
         | none =>
           obtain ⟨e1,e2,e3⟩:=J9t HFI.out hob;obtain ⟨e4,e5⟩:=J8n HF0.out hob;have hn0:nb = 0:=by rw [<- HNB.out,e5]; rfl
           subst hn0;rw [e1,e2,e3,e4];clear e1 e2 e3 e4 e5 hob;have d0KP:=KP.out.cell 0;simp only [Go.Tw.gA,Go.Tw.gB] at d0KP;go_wp2_with fail;refine (Q4o _ HWD.out).mono ?_;rintro e w13 ⟨rfl,hx⟩;have hxx:Ext w12 w13:=hx;replace HXA:=Lib.hid (HXA.out.trans hxx);replace HWD:=Lib.hid (HWD.out.ext hxx);replace H2:=Lib.hid (H2.out.ext hxx);replace KB:=Lib.hid (KB.out.ext hxx);replace FB:=Lib.hid (FB.out.ext hxx);replace KP:=Lib.hid (KP.out.ext hxx);clear hx hxx;go_wp2;go_ret;exact ⟨rfl,HXA.out⟩
         | some x =>
           obtain ⟨e1,e2,e3⟩:=J9s HFI.out hob;obtain ⟨e4,e5⟩:=J8p HF0.out hob;obtain ⟨f1,f2,f3,f4⟩:=J0l HFI.out hob;rw [<- f2] at f1;rw [e5] at FB;rw [e1,e2,e3,e4];have HF1:=Lib.hid f1;have hlen:(X9u s x).length = nb:=by rw [<- e5]; exact HNB.out
           have HLEN:=Lib.hid hlen;have HF3:=Lib.hid f3;have HF4:=Lib.hid f4;obtain ⟨xc,hxc⟩:∃ z,x.closings = z:=⟨_,rfl⟩;obtain ⟨xd,hxd⟩:∃ z,x.delay = z:=⟨_,rfl⟩;rw [hxc] at HF3 ⊢;rw [hxd] at HF4 ⊢;clear e1 e2 e3 e4 e5 f1 f2 f3 f4 hob hlen hxc hxd;have hcc:(xc != xc) = false:=by simp
           have hdd:(xd != xd) = false:=by simp
           have d0KP:=KP.out.cell 0;simp only [Go.Tw.gA,Go.Tw.gB] at d0KP;go_wp2_with fail;refine (Z0a _ _ (X9u s x) ⟨_,rfl,FB.out⟩ (by rw [HLEN.out]; have:=Z7m HVS.out; have hl:=HLEN.out; unfold X9u at hl; rw [List.length_map] at hl; omega)).mono ?_
           rintro e w13 ⟨ut,rfl,hu,hx⟩;have hxx:Ext w12 w13:=hx;replace HXA:=Lib.hid (HXA.out.trans hxx);replace HWD:=Lib.hid (HWD.out.ext hxx);replace H2:=Lib.hid (H2.out.ext hxx);replace KB:=Lib.hid (KB.out.ext hxx);replace FB:=Lib.hid (FB.out.ext hxx);replace KP:=Lib.hid (KP.out.ext hxx);clear hx hxx;clear d0KP hmm hcc hdd;obtain ⟨ut,rfl,hr⟩:=hu;obtain ⟨Xt,ct,rfl,-,-,-⟩:=hr.opened;rw [HLEN.out] at hr ⊢;have hxp:=Ext.box w13 (.cells #[.slice Xt nb ct] 47);have hbp:=Blk.made w13 47 #[.slice Xt nb ct];have HPT:Hid (Q1c _ (.agg #[.slice Xt nb ct]) (X9u s x)):=Lib.hid ⟨_,rfl,hr.ext hxp⟩;replace HXA:=Lib.hid (HXA.out.trans hxp);replace HWD:=Lib.hid (HWD.out.ext hxp);replace H2:=Lib.hid (H2.out.ext hxp);replace KB:=Lib.hid (KB.out.ext hxp);clear hr;go_wp2_with fail;obtain ⟨gt,hgt⟩:∃ z,w13.heap.size = z:=⟨_,rfl⟩;obtain ⟨wt,hwt⟩:∃ Z,w13.alloc (.cells #[.slice Xt nb ct] 47) = Z:=⟨_,rfl⟩;rw [hwt,hgt] at hbp;rw [hwt] at HPT HXA HWD H2 KB;rw [hwt,hgt];have KT:=Lib.hid hbp;clear hbp hwt hgt hxp;have hdr:=(Ext.refl wt).drew;have HKR:Hid (∀ z ∈ Q3r s (X9u s x),0 <= z /\ z < s.members.length):=Q9s s (X9u s x);have HKL:Hid ((Q3r s (X9u s x)).length <= 4096):=Lib.hid (by have:=kept_len s (X9u s x); have:=HVS.out.some.2; omega)
           obtain ⟨wg,hwg⟩:∃ z,Q2e s (Q3r s (X9u s x)) = z:=⟨_,rfl⟩;have HWG:=Lib.hid hwg;rw [hwg] at HF1;have hnw:need <= wg:=HF1.out;clear hwg;refine Flow.Q1h [.w,.w,.p,.w,.w,.w,.p,.p,.p,.w,.w,.w,.w,.w,.p,.p,.p,.p,.w,.w,.w,.p,.p,.p,.p,.w,.w,.w,.p,.p,.p,.p,.w,.p,.p] [0,1,2,3,4,5,6,7,8,9,10,11,12,13,14,15,16,17,18,19,20,21,22,23,24,25,26,27,28,29,30,31,32,33,34] [[],[0],[1],[2],[2],[2,3,4],[2,5],[2,6],[5,7],[8],[8],[8],[8,10,11],[8,9,12],[8],[8,13,14],[8,15],[13,16],[17],[17],[17,18,19],[17],[17,20,21],[17,22],[20,23],[24],[24],[24,25,26],[24],[24,27,28],[24,29],[27,30],[31],[31,32],[0,1,2,3,4,5,6,7,8,9,10,11,12,13,14,15,16,17,18,19,20,21,22,23,24,25,26,27,28,29,30,31,32,33]]
            [.c 0 (.agg #[.slice Xt nb ct]),.c 1 (.bool true),.c 2 (.bool true),.c 3 (.agg #[.int .i64 lim,.slice A T capa,.slice B M capb]),.c 4 (.agg #[.slice Xt nb ct]),.c 5 (.int .i64 0),.c 6 (.bool true),.c 7 (.bool true),.c 8 (.bool true),.c 9 (.agg #[.int .i64 lim,.slice A T capa,.slice B M capb]),.c 10 (.agg #[.int .i64 lim,.slice A T capa,.slice B M capb]),.c 11 (.agg #[.slice Xt nb ct]),⟨fun v wz=>(fun v w'=>Q0d w' (v 12) (Q3r s (X9u s x))) v wz,by intro v a b hx h; exact Q0d.ext h hx⟩,.c 13 (.int .i64 wg),.c 14 (.int .i64 need),.c 15 (.bool true),.c 16 (.bool true),.c 17 (.bool true),.c 18 (.agg #[.int .i64 lim,.slice A T capa,.slice B M capb]),.c 19 (.agg #[.slice Xt nb ct]),.c 20 (.int .i64 xc),.c 21 (.int .i64 xc),.c 22 (.bool true),.c 23 (.bool true),.c 24 (.bool true),.c 25 (.agg #[.int .i64 lim,.slice A T capa,.slice B M capb]),.c 26 (.agg #[.slice Xt nb ct]),.c 27 (.int .i64 xd),.c 28 (.int .i64 xd),.c 29 (.bool true),.c 30 (.bool true),.c 31 (.bool true),.c 32 (.bool true),.c 33 (.bool true),.c 34 (.bool true)]
            (by kernel_rfl) rfl (by kernel_rfl) ?owed ?post
           case owed =>
            refine ⟨?g0,?g1,?g2,?g3,?g4,?g5,?g6,?g7,?g8,?g9,?g10,?g11,?g12,?g13,?g14,?g15,?g16,?g17,?g18,?g19,?g20,?g21,?g22,?g23,?g24,?g25,?g26,?g27,?g28,?g29,?g30,?g31,?g32,?g33,?g34,trivial⟩
            case g0=>
             intro v w1 hx;intro bb hbb;intro K2 hK2;have o1:bb.eval (.tmp 16) = .pointer (some ⟨gt,0,none⟩):=by rw [hbb]; dsimp only; (try simp (discharger:=decide) only [eval_put_ne]); rfl
             exact Q0l (.tmp 16) _ rfl Tryz.J2n Tryz.J0b o1 (KT.out.ext (hdr.trans hx)) rfl (hK2 _ _ (Ext.refl _) rfl)
            case g1=>
             intro v w1 hx;(repeat intro (zq:v _ = _));intro bb hbb;subst hbb;intro K hK;go_simp;refine Q0e (J6u w1 _ (X9u s x) (HPT.out.ext (hdr.trans hx))) ?_;rintro e w2 ⟨qb,rfl,hqb,hx2⟩;have hq1:qb = true:=hqb.2 (J7x HVS.out x);subst hq1;exact ⟨_,rfl,hK _ _ hx2 rfl⟩
            case g2 | g7 | g8 | g16 | g17 | g23 | g24 | g30 | g31 | g33=>
             intro v w1 hx;(repeat intro (zq:v _ = _));intro bb hbb;subst hbb;refine ⟨_,fun w=>?_,rfl⟩;go_simp
            case g3=>
             intro v w1 hx;(repeat intro (zq:v _ = _));intro bb hbb;refine Flow.Q0i (d:=102) rfl rfl (by rw [hbb]; simp only [size_put]; exact (by decide:102 < 134)) (by rw [hbb]; dsimp only; (try simp (discharger:=decide) only [eval_put_ne]); rw [Q0a (by simp only [size_put]; exact (by decide:102 < 134))]; assumption) ?_
             intro K2 hK2;have o1:bb.eval (.tmp 2) = .pointer (some ⟨gs,0,none⟩):=by rw [hbb]; dsimp only; (try simp (discharger:=decide) only [eval_put_ne]); rfl
             exact Q0l (.tmp 2) _ rfl Tryz.Y9z Tryz.Y2p o1 (KB.out.ext (hdr.trans hx)) rfl (hK2 _ _ (Ext.refl _) rfl)
            case g4=>
             intro v w1 hx;(repeat intro (zq:v _ = _));intro bb hbb;refine Flow.Q0i (d:=102) rfl rfl (by rw [hbb]; simp only [size_put]; exact (by decide:102 < 134)) (by rw [hbb]; dsimp only; (try simp (discharger:=decide) only [eval_put_ne]); rw [Q0a (by simp only [size_put]; exact (by decide:102 < 134))]; assumption) ?_
             intro K2 hK2;have o1:bb.eval (.tmp 16) = .pointer (some ⟨gt,0,none⟩):=by rw [hbb]; dsimp only; (try simp (discharger:=decide) only [eval_put_ne]); rfl
             exact Q0l (.tmp 16) _ rfl Tryz.J2n Tryz.J0b o1 (KT.out.ext (hdr.trans hx)) rfl (hK2 _ _ (Ext.refl _) rfl)
            case g5=>
             intro v w1 hx;(repeat intro (zq:v _ = _));intro bb hbb;refine Flow.Q0i (d:=102) rfl rfl (by rw [hbb]; simp only [size_put]; exact (by decide:102 < 134)) (by rw [hbb]; dsimp only; (try simp (discharger:=decide) only [eval_put_ne]); rw [Q0a (by simp only [size_put]; exact (by decide:102 < 134))]; assumption) ?_
             subst hbb;intro K hK;go_simp;refine Q0e (J7g w1 _ _ s (X9u s x) (HSEA.out _ (H2.out.ext (hdr.trans hx))) (HPT.out.ext (hdr.trans hx)) HE.out) ?_;rintro e w2 ⟨rfl,hx2⟩;exact ⟨_,rfl,hK _ _ hx2 (congrArg (Value.int .i64) (J5b s x))⟩
            case g6=>
             intro v w1 hx;(repeat intro (zq:v _ = _));intro bb hbb;refine Flow.Q0i (d:=102) rfl rfl (by rw [hbb]; simp only [size_put]; exact (by decide:102 < 134)) (by rw [hbb]; dsimp only; (try simp (discharger:=decide) only [eval_put_ne]); rw [Q0a (by simp only [size_put]; exact (by decide:102 < 134))]; assumption) ?_
             subst hbb;refine ⟨_,fun w=>?_,rfl⟩;go_simp
            case g9 | g10=>
             intro v w1 hx;(repeat intro (zq:v _ = _));intro bb hbb;refine Flow.Q0i (d:=108) rfl rfl (by rw [hbb]; simp only [size_put]; exact (by decide:108 < 134)) (by rw [hbb]; dsimp only; (try simp (discharger:=decide) only [eval_put_ne]); rw [Q0a (by simp only [size_put]; exact (by decide:108 < 134))]; assumption) ?_
             intro K2 hK2;have o1:bb.eval (.tmp 2) = .pointer (some ⟨gs,0,none⟩):=by rw [hbb]; dsimp only; (try simp (discharger:=decide) only [eval_put_ne]); rfl
             exact Q0l (.tmp 2) _ rfl Tryz.Y9z Tryz.Y2p o1 (KB.out.ext (hdr.trans hx)) rfl (hK2 _ _ (Ext.refl _) rfl)
            case g11=>
             intro v w1 hx;(repeat intro (zq:v _ = _));intro bb hbb;refine Flow.Q0i (d:=108) rfl rfl (by rw [hbb]; simp only [size_put]; exact (by decide:108 < 134)) (by rw [hbb]; dsimp only; (try simp (discharger:=decide) only [eval_put_ne]); rw [Q0a (by simp only [size_put]; exact (by decide:108 < 134))]; assumption) ?_
             intro K2 hK2;have o1:bb.eval (.tmp 16) = .pointer (some ⟨gt,0,none⟩):=by rw [hbb]; dsimp only; (try simp (discharger:=decide) only [eval_put_ne]); rfl
             exact Q0l (.tmp 16) _ rfl Tryz.J2n Tryz.J0b o1 (KT.out.ext (hdr.trans hx)) rfl (hK2 _ _ (Ext.refl _) rfl)
            case g12=>
             intro v w1 hx;(repeat intro (zq:v _ = _));intro bb hbb;refine Flow.Q0i (d:=108) rfl rfl (by rw [hbb]; simp only [size_put]; exact (by decide:108 < 134)) (by rw [hbb]; dsimp only; (try simp (discharger:=decide) only [eval_put_ne]); rw [Q0a (by simp only [size_put]; exact (by decide:108 < 134))]; assumption) ?_
             subst hbb;intro K hK;go_simp;refine Q0e (J5w w1 _ _ s (X9u s x) (HSEA.out _ (H2.out.ext (hdr.trans hx))) (HPT.out.ext (hdr.trans hx)) HVS.out (J5b s x)) ?_;rintro e w2 ⟨u,rfl,hu,hx2⟩;exact ⟨_,rfl,hK _ _ hx2 hu⟩
            case g13=>
             intro v w1 hx (q8:v 8 = _) (q9:v 9 = _) (q12:(fun v w'=>Q0d w' (v 12) (Q3r s (X9u s x))) v w1);intro bb hbb;refine Flow.Q0i (d:=108) rfl rfl (by rw [hbb]; simp only [size_put]; exact (by decide:108 < 134)) (by rw [hbb]; dsimp only; (try simp (discharger:=decide) only [eval_put_ne]); rw [Q0a (by simp only [size_put]; exact (by decide:108 < 134))]; exact q8) ?_
             subst hbb;intro K hK;go_simp;refine Q0e (J4z w1 _ _ s _ (HSEA.out _ (H2.out.ext (hdr.trans hx))) q12 HVS.out HKR.out HKL.out) ?_;rintro e w2 ⟨rfl,hx2⟩;exact ⟨_,rfl,hK _ _ hx2 (congrArg (Value.int .i64) HWG.out)⟩
            case g14 | g15=>
             intro v w1 hx;(repeat intro (zq:v _ = _));intro bb hbb;refine Flow.Q0i (d:=108) rfl rfl (by rw [hbb]; simp only [size_put]; exact (by decide:108 < 134)) (by rw [hbb]; dsimp only; (try simp (discharger:=decide) only [eval_put_ne]); rw [Q0a (by simp only [size_put]; exact (by decide:108 < 134))]; assumption) ?_
             subst hbb;refine ⟨_,fun w=>?_,rfl⟩;go_simp
            case g18=>
             intro v w1 hx;(repeat intro (zq:v _ = _));intro bb hbb;refine Flow.Q0i (d:=117) rfl rfl (by rw [hbb]; simp only [size_put]; exact (by decide:117 < 134)) (by rw [hbb]; dsimp only; (try simp (discharger:=decide) only [eval_put_ne]); rw [Q0a (by simp only [size_put]; exact (by decide:117 < 134))]; assumption) ?_
             intro K2 hK2;have o1:bb.eval (.tmp 2) = .pointer (some ⟨gs,0,none⟩):=by rw [hbb]; dsimp only; (try simp (discharger:=decide) only [eval_put_ne]); rfl
             exact Q0l (.tmp 2) _ rfl Tryz.Y9z Tryz.Y2p o1 (KB.out.ext (hdr.trans hx)) rfl (hK2 _ _ (Ext.refl _) rfl)
            case g19=>
             intro v w1 hx;(repeat intro (zq:v _ = _));intro bb hbb;refine Flow.Q0i (d:=117) rfl rfl (by rw [hbb]; simp only [size_put]; exact (by decide:117 < 134)) (by rw [hbb]; dsimp only; (try simp (discharger:=decide) only [eval_put_ne]); rw [Q0a (by simp only [size_put]; exact (by decide:117 < 134))]; assumption) ?_
             intro K2 hK2;have o1:bb.eval (.tmp 16) = .pointer (some ⟨gt,0,none⟩):=by rw [hbb]; dsimp only; (try simp (discharger:=decide) only [eval_put_ne]); rfl
             exact Q0l (.tmp 16) _ rfl Tryz.J2n Tryz.J0b o1 (KT.out.ext (hdr.trans hx)) rfl (hK2 _ _ (Ext.refl _) rfl)
            case g20=>
             intro v w1 hx;(repeat intro (zq:v _ = _));intro bb hbb;refine Flow.Q0i (d:=117) rfl rfl (by rw [hbb]; simp only [size_put]; exact (by decide:117 < 134)) (by rw [hbb]; dsimp only; (try simp (discharger:=decide) only [eval_put_ne]); rw [Q0a (by simp only [size_put]; exact (by decide:117 < 134))]; assumption) ?_
             subst hbb;intro K hK;go_simp;refine Q0e (J5u w1 _ _ s (X9u s x) (HSEA.out _ (H2.out.ext (hdr.trans hx))) (HPT.out.ext (hdr.trans hx)) HVS.out (J5b s x)) ?_;rintro e w2 ⟨rfl,hx2⟩;exact ⟨_,rfl,hK _ _ hx2 (congrArg (Value.int .i64) HF3.out)⟩
            case g21 | g22=>
             intro v w1 hx;(repeat intro (zq:v _ = _));intro bb hbb;refine Flow.Q0i (d:=117) rfl rfl (by rw [hbb]; simp only [size_put]; exact (by decide:117 < 134)) (by rw [hbb]; dsimp only; (try simp (discharger:=decide) only [eval_put_ne]); rw [Q0a (by simp only [size_put]; exact (by decide:117 < 134))]; assumption) ?_
             subst hbb;refine ⟨_,fun w=>?_,rfl⟩;go_simp
            case g25=>
             intro v w1 hx;(repeat intro (zq:v _ = _));intro bb hbb;refine Flow.Q0i (d:=124) rfl rfl (by rw [hbb]; simp only [size_put]; exact (by decide:124 < 134)) (by rw [hbb]; dsimp only; (try simp (discharger:=decide) only [eval_put_ne]); rw [Q0a (by simp only [size_put]; exact (by decide:124 < 134))]; assumption) ?_
             intro K2 hK2;have o1:bb.eval (.tmp 2) = .pointer (some ⟨gs,0,none⟩):=by rw [hbb]; dsimp only; (try simp (discharger:=decide) only [eval_put_ne]); rfl
             exact Q0l (.tmp 2) _ rfl Tryz.Y9z Tryz.Y2p o1 (KB.out.ext (hdr.trans hx)) rfl (hK2 _ _ (Ext.refl _) rfl)
            case g26=>
             intro v w1 hx;(repeat intro (zq:v _ = _));intro bb hbb;refine Flow.Q0i (d:=124) rfl rfl (by rw [hbb]; simp only [size_put]; exact (by decide:124 < 134)) (by rw [hbb]; dsimp only; (try simp (discharger:=decide) only [eval_put_ne]); rw [Q0a (by simp only [size_put]; exact (by decide:124 < 134))]; assumption) ?_
             intro K2 hK2;have o1:bb.eval (.tmp 16) = .pointer (some ⟨gt,0,none⟩):=by rw [hbb]; dsimp only; (try simp (discharger:=decide) only [eval_put_ne]); rfl
             exact Q0l (.tmp 16) _ rfl Tryz.J2n Tryz.J0b o1 (KT.out.ext (hdr.trans hx)) rfl (hK2 _ _ (Ext.refl _) rfl)
            case g27=>
             intro v w1 hx;(repeat intro (zq:v _ = _));intro bb hbb;refine Flow.Q0i (d:=124) rfl rfl (by rw [hbb]; simp only [size_put]; exact (by decide:124 < 134)) (by rw [hbb]; dsimp only; (try simp (discharger:=decide) only [eval_put_ne]); rw [Q0a (by simp only [size_put]; exact (by decide:124 < 134))]; assumption) ?_
             subst hbb;intro K hK;go_simp;refine Q0e (J7k w1 _ _ s (X9u s x) (HSEA.out _ (H2.out.ext (hdr.trans hx))) (HPT.out.ext (hdr.trans hx)) HVS.out (J5b s x)) ?_;rintro e w2 ⟨rfl,hx2⟩;exact ⟨_,rfl,hK _ _ hx2 (congrArg (Value.int .i64) HF4.out)⟩
            case g28 | g29=>
             intro v w1 hx;(repeat intro (zq:v _ = _));intro bb hbb;refine Flow.Q0i (d:=124) rfl rfl (by rw [hbb]; simp only [size_put]; exact (by decide:124 < 134)) (by rw [hbb]; dsimp only; (try simp (discharger:=decide) only [eval_put_ne]); rw [Q0a (by simp only [size_put]; exact (by decide:124 < 134))]; assumption) ?_
             subst hbb;refine ⟨_,fun w=>?_,rfl⟩;go_simp
            case g32=>
             intro v w1 hx;(repeat intro (zq:v _ = _));intro bb hbb;refine Flow.Q0i (d:=131) rfl rfl (by rw [hbb]; simp only [size_put]; exact (by decide:131 < 134)) (by rw [hbb]; dsimp only; (try simp (discharger:=decide) only [eval_put_ne]); rw [Q0a (by simp only [size_put]; exact (by decide:131 < 134))]; assumption) ?_
             subst hbb;intro K hK;go_simp;refine Q0e (Q4o w1 (HWD.out.ext (hdr.trans hx))) ?_;rintro e w2 ⟨rfl,hx2⟩;exact ⟨_,rfl,hK _ _ hx2 rfl⟩
            case g34=>
             intro v w1 hx (q0:v 0 = _) (q1:v 1 = _) (q2:v 2 = _) (q3:v 3 = _) (q4:v 4 = _) (q5:v 5 = _) (q6:v 6 = _) (q7:v 7 = _) (q8:v 8 = _) (q9:v 9 = _) (q10:v 10 = _) (q11:v 11 = _) _ (q13:v 13 = _) (q14:v 14 = _) (q15:v 15 = _) (q16:v 16 = _) (q17:v 17 = _) (q18:v 18 = _) (q19:v 19 = _) (q20:v 20 = _) (q21:v 21 = _) (q22:v 22 = _) (q23:v 23 = _) (q24:v 24 = _) (q25:v 25 = _) (q26:v 26 = _) (q27:v 27 = _) (q28:v 28 = _) (q29:v 29 = _) (q30:v 30 = _) (q31:v 31 = _) (q32:v 32 = _) (q33:v 33 = _);intro bb hbb;subst hbb;refine ⟨_,fun w=>?_,rfl⟩;go_simp
           case post =>
            intro v w1 hx;(iterate 12 intro (zq:v _ = _));intro (q12:(fun v w'=>Q0d w' (v 12) (Q3r s (X9u s x))) v w1);(iterate 22 intro (zq:v _ = _));simp only [Flow.All,Flow.acts,Act.put];go_simp;have hxz:=HXA.out.trans (hdr.trans hx);clear hx hdr q12;(repeat clear zq);go_wp2;go_ret;exact ⟨rfl,hxz⟩
       . skip
         have hFz:(F == 0) = false:=by simp [hF0]
         have hFn:(F != 0) = true:=by simp [hF0]
         have hFF:(F != F) = false:=by simp
         obtain ⟨e4,e5⟩:=J7p (s:=s) (need:=need) (by rw [HF.out]; exact hF0)
         rw [HF.out] at e4;have hn0:nb = 0:=by rw [<- HNB.out,e5]; rfl
         subst hn0;rw [e4];clear e4 e5 hF0;have d0KP:=KP.out.cell 0;simp only [Go.Tw.gA,Go.Tw.gB] at d0KP;go_wp2_with fail;refine (Q4o _ HWD.out).mono ?_;rintro e w12 ⟨rfl,hx⟩;have hxx:Ext w11 w12:=hx;replace HXA:=Lib.hid (HXA.out.trans hxx);replace HWD:=Lib.hid (HWD.out.ext hxx);replace H2:=Lib.hid (H2.out.ext hxx);replace KB:=Lib.hid (KB.out.ext hxx);replace FB:=Lib.hid (FB.out.ext hxx);replace KP:=Lib.hid (KP.out.ext hxx);clear hx hxx;go_wp2;go_ret;exact ⟨rfl,HXA.out⟩
   . skip
     have HE:Hid (s.err ≠ 0):=Lib.hid he;obtain ⟨E,hE⟩:∃ E,s.err = E:=⟨_,rfl⟩;have HER:=Lib.hid hE;rw [hE];have hE0:(E == 0) = false:=by rw [<- hE]; simp [he]
     clear he hE;have d0KB:=KB.out.cell 0;have d1KB:=KB.out.cell 1;have d2KB:=KB.out.cell 2;simp only [Go.Tw.gA,Go.Tw.gB,Go.Tw.gC] at d0KB d1KB d2KB;go_wp2_with fail;refine (X7v _ _ s (HSEA.out _ H2.out) HS.out).mono ?_;rintro e w3 ⟨g1,rfl,hg,hx⟩;have hxx:Ext w2 w3:=hx;replace HXA:=Lib.hid (HXA.out.trans hxx);replace HWD:=Lib.hid (HWD.out.ext hxx);replace H2:=Lib.hid (H2.out.ext hxx);replace KB:=Lib.hid (KB.out.ext hxx);clear hx hxx d0KB d1KB d2KB;have HG:=Lib.hid hg;clear hg;go_wp2_with fail;refine (J8z _ _ s HG.out HS.out HE.out).mono ?_;rintro e w4 ⟨rfl,hx⟩;have hxx:Ext w3 w4:=hx;replace HXA:=Lib.hid (HXA.out.trans hxx);clear HG;replace HWD:=Lib.hid (HWD.out.ext hxx);replace H2:=Lib.hid (H2.out.ext hxx);replace KB:=Lib.hid (KB.out.ext hxx);clear hx hxx;have d0KB:=KB.out.cell 0;have d1KB:=KB.out.cell 1;have d2KB:=KB.out.cell 2;simp only [Go.Tw.gA,Go.Tw.gB,Go.Tw.gC] at d0KB d1KB d2KB;go_wp2_with fail;refine (X7v _ _ s (HSEA.out _ H2.out) HS.out).mono ?_;rintro e w5 ⟨g2,rfl,hg,hx⟩;have hxx:Ext w4 w5:=hx;replace HXA:=Lib.hid (HXA.out.trans hxx);replace HWD:=Lib.hid (HWD.out.ext hxx);replace H2:=Lib.hid (H2.out.ext hxx);replace KB:=Lib.hid (KB.out.ext hxx);clear hx hxx d0KB d1KB d2KB;have HG:=Lib.hid hg;clear hg;go_wp2_with fail;refine (J8y _ _ s need HG.out HS.out HE.out).mono ?_;rintro e w6 ⟨⟨xb,rfl,hb⟩,hx⟩;have hxx:Ext w5 w6:=hx;replace HXA:=Lib.hid (HXA.out.trans hxx);clear HG;replace HWD:=Lib.hid (HWD.out.ext hxx);replace H2:=Lib.hid (H2.out.ext hxx);replace KB:=Lib.hid (KB.out.ext hxx);clear hx hxx;obtain ⟨Xb,cb,rfl,-,-,-⟩:=hb.opened;obtain ⟨nb,hnb⟩:∃ z,(Y4v s need).length = z:=⟨_,rfl⟩;have HNB:=Lib.hid hnb;rw [hnb] at hb ⊢;clear hnb;have FB:=Lib.hid hb;clear hb;have hbx:=Ext.box w6 (.cells #[.slice Xb nb cb] 38);have d0KB:=(KB.out.ext hbx).cell 0;have d1KB:=(KB.out.ext hbx).cell 1;have d2KB:=(KB.out.ext hbx).cell 2;simp only [Go.Tw.gA,Go.Tw.gB,Go.Tw.gC] at d0KB d1KB d2KB;go_wp2_with fail;change Calls _ _ _ (w6.alloc (.cells #[.slice Xb nb cb] 38)) _;obtain ⟨W,hWW,k0,HXW,eW⟩:=Q1q w6 38 #[.slice Xb nb cb];rw [hWW];clear hWW;refine (X5k _ _ s (HSEA.out _ (H2.out.ext HXW.out))).mono ?_;rintro e w7 ⟨rfl,hx⟩;have hxx:Ext w6 w7:=HXW.out.trans hx;replace HXA:=Lib.hid (HXA.out.trans hxx);replace HWD:=Lib.hid (HWD.out.ext hxx);replace H2:=Lib.hid (H2.out.ext hxx);replace KB:=Lib.hid (KB.out.ext hxx);replace FB:=Lib.hid (FB.out.ext hxx);have KP:=Lib.hid (k0.ext hx);clear hx hxx HXW eW k0 hbx d0KB d1KB d2KB;obtain ⟨gp,hgp⟩:∃ z,w6.heap.size = z:=⟨_,rfl⟩;rw [hgp] at KP ⊢;clear hgp;go_wp2_with fail;refine (J7n _ need).mono ?_;rintro e w8 ⟨rfl,hx⟩;have hxx:Ext w7 w8:=hx;replace HXA:=Lib.hid (HXA.out.trans hxx);replace HWD:=Lib.hid (HWD.out.ext hxx);replace H2:=Lib.hid (H2.out.ext hxx);replace KB:=Lib.hid (KB.out.ext hxx);replace FB:=Lib.hid (FB.out.ext hxx);replace KP:=Lib.hid (KP.out.ext hxx);clear hx hxx;obtain ⟨R,hR⟩:∃ z,Q0f need 0 8000 = z:=⟨_,rfl⟩;have HR:=Lib.hid hR;rw [hR];clear hR;rw [HER.out];go_wp2_with fail;change Calls _ _ _ (w8.alloc (.cells #[.int .i64 E,.int .i64 R] 3)) _;obtain ⟨W,hWW,k0,HXW,eW⟩:=Q1q w8 3 #[.int .i64 E,.int .i64 R];rw [hWW];clear hWW;refine (J7w _ _ _ E R k0).mono ?_;rintro e w9 ⟨rfl,hx⟩;have hxx:Ext w8 w9:=HXW.out.trans hx;replace HXA:=Lib.hid (HXA.out.trans hxx);replace HWD:=Lib.hid (HWD.out.ext hxx);replace H2:=Lib.hid (H2.out.ext hxx);replace KB:=Lib.hid (KB.out.ext hxx);replace FB:=Lib.hid (FB.out.ext hxx);replace KP:=Lib.hid (KP.out.ext hxx);clear hx hxx HXW eW k0;have hff:Q0j [E,R] = E:=by rw [<- HER.out]; unfold Q0j; rw [if_neg HE.out]
     rw [hff];clear hff;have hEn:(E != 0) = true:=by rw [<- HER.out]; simp [HE.out]
     have hEE:(E != E) = false:=by simp
     obtain ⟨e4,e5⟩:=J7p (s:=s) (need:=need) (by rw [J6z HE.out]; exact HE.out)
     rw [J6z HE.out,HER.out] at e4;have hn0:nb = 0:=by rw [<- HNB.out,e5]; rfl
     subst hn0;rw [e4];clear e4 e5;have d0KP:=KP.out.cell 0;simp only [Go.Tw.gA,Go.Tw.gB] at d0KP;go_wp2_with fail;refine (Q4o _ HWD.out).mono ?_;rintro e w10 ⟨rfl,hx⟩;have hxx:Ext w9 w10:=hx;replace HXA:=Lib.hid (HXA.out.trans hxx);replace HWD:=Lib.hid (HWD.out.ext hxx);replace H2:=Lib.hid (H2.out.ext hxx);replace KB:=Lib.hid (KB.out.ext hxx);replace FB:=Lib.hid (FB.out.ext hxx);replace KP:=Lib.hid (KP.out.ext hxx);clear hx hxx;go_wp2;go_ret;exact ⟨rfl,HXA.out⟩
end Go.Proofs
namespace Go.Proofs.YthnobngcipaljaaGreatDoor
open Go.ChangeShapes Go.WideShapes Go.ChangeAt Go.RowKit Go.Tw
theorem J5f (os:Os) (started:os.Started) (H:Type) (enc:TypeId × Value -> H) :
    ReturnsInHanded {} Tryz.checked os 3 .any (fun w args=>(Rows.policySearchesSpec.pre enc Tryz.prog Tryz.f3 Rows.policySearchesRow.domain false w args /\ laidMetH Tryz.prog Z2r w) /\ sizedMet enc Tryz.prog Tryz.f3 (OpenSpec.ofChange Rows.policySearchesSpec) false w args)
     (Rows.policySearchesSpec.post enc Tryz.prog Tryz.f3 false true false false):=by
 refine returnsInHanded_of_change_and (C:=Tryz.checked) (X:=fun w _=>laidMetH Tryz.prog Z2r w) (fun _ _ _ hh h=>h.of_heap hh) own started (by kernel_rfl) Tryz.func3
  (ChangeSpec.witness_shaped (enc:=enc) (C:=Tryz.checked) (os:=os) (X:=fun w _=>laidMetH Tryz.prog Z2r w) false (World.laidAll Tryz.prog os Z2r) #[.agg #[.int .i64 0,.slice none 0 0,.slice none 0 0],.int .i64 0] 8 (World.laidAll_os _ _ _)
   (World.shaped_of_ZipB (by kernel_rfl) (by kernel_rfl)) (by kernel_rfl) (by kernel_rfl) (by kernel_rfl)
   (by rw [MakeChecks.laidMetH_plain _ _ _ (by kernel_rfl)]; exact laidMet_laidAll _ (by kernel_rfl) (by kernel_rfl))) ?_
 intro W base args ds gs before hval0 hW hc hsz0 hL _;have hval:∀ (j:Nat) t v,Tryz.f3.params[j]? = some t -> args[j]? = some v -> Value.okWide Tryz.prog W .any base t v:=hval0;have hsz:(DataW.weightsEach Tryz.prog (Tryz.f3.params.toList ++ Rows.policySearchesSpec.plain.varTypes Tryz.prog) (ds ++ gs)).all (· <= reachBytes) = true:=hsz0;have hW':=hW;obtain ⟨p,q,hA0,hV,rfl,hfz,hnd⟩:=hW;have hA:DataW.TrodAll enc Tryz.prog W 0 (fun _=>true) true Tryz.f3.params.toList args.toList ds p:=hA0;rw [Tryz.params3] at hA hval hsz;obtain ⟨v0,vs0,d0,ds0,p0,q0,hargs,rfl,rfl,h0,r0⟩:=trodAll_cons hA;obtain ⟨v1,vs1,d1,ds1,p1,q1,rfl,rfl,rfl,h1,r1⟩:=trodAll_cons r0;obtain ⟨rfl,rfl,rfl⟩:=trodAll_nil r1;obtain rfl:args = #[v0,v1]:=by cases args; simp_all
 obtain ⟨rfl,rfl⟩:=trodVars_none hV;have hfit:∀ x ∈ DataW.weightsEach Tryz.prog [25,3] [d0,d1],x <= 140737488351232:=fun x hx=>by
  have:=List.all_eq_true.1 (show (DataW.weightsEach Tryz.prog [25,3] [d0,d1]).all (· <= reachBytes) = true from hsz) x hx
  exact Nat.le_trans (of_decide_eq_true this) (by decide)
 obtain ⟨f0,g0⟩:=Q3g hfit;obtain ⟨f1,g1⟩:=Q3g g0;have k0:=h0;have lt0:∀ x ∈ p0,x.block < W.heap.size:=by obtain ⟨m,hm⟩:=k0; exact DataW.trod_lt m _ _ _ hm
 obtain ⟨t0,HI0⟩:=X8x (hval 0 25 v0 rfl rfl) h0 f0;have k1:=h1;have lt1:∀ x ∈ p1,x.block < W.heap.size:=by obtain ⟨m,hm⟩:=k1; exact DataW.trod_lt m _ _ _ hm
 obtain ⟨z1,rfl,rfl,rfl,wz1⟩:=open_int Tryz.underlying3 (hval 1 3 v1 rfl rfl) h1;have hcall:Calls Tryz.prog 3 #[v0,.int .i64 z1] W fun e W'=>e = .returned (.bool true) /\ Ext W W':=J6a _ _ _ _ HI0 (X1n hL);clear hA0 hval0 hsz0;refine hcall.mono fun e W' ⟨he,bel⟩=>?_;subst he;exact ⟨_,rfl,_,_,_,[],_,[],hW',trodAll_mk1 (shut_bool Tryz.underlying4 _),(trodAll_cons_mk (Below.trod laidOut (by kernel_rfl) (of_decide_eq_true (by kernel_rfl)) k0 bel lt0) (trodAll_cons_mk (shut_int Tryz.underlying3 wz1) trodAll_mk0)),rfl,bel.frame _,fun h=>by cases h⟩
theorem J4v:Tryz.pinned.checked.prog.funcNamed Rows.policySearchesRow.func = some 3:=by kernel_rfl
theorem J5a:Tryz.f3.isInstance Tryz.pinned.checked.prog Rows.policySearchesRow.origin Rows.policySearchesRow.targs:=of_decide_eq_true (by kernel_rfl)
theorem J6m:(Rows.policySearchesRow.wf (OpenSpec.ofChange Rows.policySearchesSpec):Bool) = true:=by kernel_rfl
theorem J6p:(Tryz.f3.params.all (Tryz.prog.readableRec ·):Bool) = true:=by kernel_rfl
theorem J6l:(namedTie Tryz.prog Rows.policySearchesRow.named Rows.policySearchesSpec.vars:Bool) = true:=by kernel_rfl
theorem J6n:((Rows.policySearchesRow.stops == []):Bool) = true:=by kernel_rfl
theorem J6k:((Rows.policySearchesRow.knobs == []):Bool) = true:=by kernel_rfl
theorem J6o:((Rows.policySearchesRow.inPlace == Tryz.prog.inPlace 3):Bool) = true:=by kernel_rfl
theorem J5o:((Rows.policySearchesRow.unfollowed == Tryz.prog.unfollowed 3):Bool) = true:=by kernel_rfl
theorem J6j:((Rows.policySearchesRow.recurses == Tryz.prog.recurses 3):Bool) = true:=by kernel_rfl
theorem J5r:((Rows.policySearchesRow.named == Tryz.prog.varsNamed 3):Bool) = true:=by kernel_rfl
theorem J6f:((Rows.policySearchesRow.maps == (Tryz.f3.params.toList ++ Rows.policySearchesSpec.plain.varTypes Tryz.prog).any (Tryz.prog.mapsRec ·)):Bool) = true:=by kernel_rfl
theorem J5p:((Rows.policySearchesRow.ifaces == (Tryz.f3.params.toList ++ Rows.policySearchesSpec.plain.varTypes Tryz.prog).any (Tryz.prog.ifacesRec ·)):Bool) = true:=by kernel_rfl
theorem J5y:((Rows.policySearchesRow.mapsOut == Tryz.prog.mapsAmong Tryz.f3.resultTypes.toList):Bool) = true:=by kernel_rfl
theorem J6g:((Rows.policySearchesRow.loops == (Tryz.f3.params.toList ++ Rows.policySearchesSpec.plain.varTypes Tryz.prog).any (Tryz.prog.loopsFrom ·)):Bool) = true:=by kernel_rfl
theorem J5q:((Rows.policySearchesRow.wideKeys == (Tryz.f3.params.toList ++ Rows.policySearchesSpec.plain.varTypes Tryz.prog ++ Tryz.f3.resultTypes.toList).any (Tryz.prog.wideKeysFrom ·)):Bool) = true:=by kernel_rfl
theorem J5n:(Rows.policySearchesSpec.vars.all (Tryz.prog.varReadable ·):Bool) = true:=by kernel_rfl
theorem J6e:(Tryz.f3.resultTypes.all (fun t=>Tryz.prog.readableRec t && decide (t < Tryz.prog.types.size)):Bool) = true:=by kernel_rfl
theorem J6i:((Rows.policySearchesRow.ifacesOut == Tryz.f3.resultTypes.toList.any (Tryz.prog.ifacesRec ·)):Bool) = true:=by kernel_rfl
theorem J5z:((Rows.policySearchesRow.loopsOut == Tryz.f3.resultTypes.toList.any (Tryz.prog.loopsFrom ·)):Bool) = true:=by kernel_rfl
theorem J6c:((Rows.policySearchesRow.plainKeys == Tryz.prog.plainKeys):Bool) = true:=by kernel_rfl
theorem J5x:(Rows.policySearchesRow.shortTexts.isNone:Bool) = true:=by kernel_rfl
theorem J6h:((Rows.policySearchesRow.lifted == Tryz.prog.liftsFinal):Bool) = true:=by kernel_rfl
theorem J5t:((Tryz.prog.make == some Rows.policySearchesRow.make):Bool) = true:=by kernel_rfl
theorem J6d:(Rows.policySearchesRow.domain.isEmpty && (Rows.policySearchesRow.kinds == []):Bool) = true:=by kernel_rfl
theorem J5s:((Rows.policySearchesRow.pinned == Rows.policySearchesRow.pinnedBy):Bool) = true:=by kernel_rfl
theorem J5v:((Rows.policySearchesRow.veiled == (Tryz.f3.params.toList ++ Rows.policySearchesSpec.plain.varTypes Tryz.prog ++ Tryz.f3.resultTypes.toList).any (Tryz.prog.veiledRec ·)):Bool) = true:=by kernel_rfl
theorem J6b:(Rows.policySearchesRow.veiledFits Tryz.prog Tryz.f3.params.toList (Tryz.f3.params.toList ++ Rows.policySearchesSpec.plain.varTypes Tryz.prog ++ Tryz.f3.resultTypes.toList):Bool) = true:=by kernel_rfl
theorem J5g:joinedFacts Tryz.pinned.checked.prog 3 Tryz.f3 Rows.policySearchesSpec Rows.policySearchesRow = true :=
 Z6d Tryz.prog 3 Tryz.f3 Rows.policySearchesSpec Rows.policySearchesRow J6m J0u J0q J6p J6l J6n Z9u J6k J0a J6o J5o J6j J5r J6f J5p J5y J6g J5q J5n J6e J6i J5z J6c J5x Z8q Z8b J6h J5t J6d J5s J5v J6b
theorem J5i:Rows.PolicySearchesSaid :=
 OpenClaim.holds_of_wide 3 Tryz.f3 rfl rfl rfl rfl rfl rfl rfl ⟨rfl,rfl,rfl,rfl,rfl⟩ rfl rfl rfl rfl rfl J4v Tryz.func3 J5g
  J5a (by unfold Func.isWrapper; first | (rw [if_pos (by decide +kernel)]; kernel_rfl) | (rw [if_neg (by decide +kernel)]; exact ⟨rfl,rfl⟩))
  (fun os started H enc _=>J5f os started H enc)
theorem J5d:Rows.policySearchesRow.wfByText (OpenSpec.ofChange Rows.policySearchesSpec) = true:=by kernel_rfl
theorem J5k:Tryz.pinned.checked.prog.mainIs = some (Rows.policySearchesCard.stood.harness.1,Rows.policySearchesCard.stood.harness.2.toList):=by kernel_rfl
theorem J5h:Rows.policySearchesCard.stood.looks = Tryz.pinned.checked.prog.looks []:=by kernel_rfl
theorem J5j:false = Rows.policySearchesRow.goesBy Tryz.pinned.checked.prog:=by kernel_rfl
theorem J5c:([25,3].all fun u=>!Tryz.prog.wantsStandIn u) = true:=by kernel_rfl
theorem policySearches_card:Rows.PolicySearchesCardSaid :=
 Claim7.holds_tied_plain_at .later [] [.data,.data,.data,.widerDeep] true _ false J5i (fun _ h=>by cases h) J5d (fun _ h=>by cases h) policySearches_row_tie rfl ⟨rfl,rfl⟩ J5k rfl
  (fun f fn hf hfn=>by
   obtain rfl:f = 3:=Option.some.inj (J4v.symm.trans hf) |>.symm
   obtain rfl:fn = Tryz.f3:=(Option.some.inj (Tryz.func3.symm.trans hfn)).symm;exact ⟨J5h,fun j t ht=>by
    have ht:#[25,3][j]? = some t:=Tryz.params3 ▸ ht;have hm:t ∈ [25,3]:=by simpa using Array.mem_of_getElem? ht
    exact (show Tryz.prog.wantsStandIn t = false by simpa using List.all_eq_true.1 J5c t hm)⟩)
  J5j
#print axioms policySearches_card
end Go.Proofs.YthnobngcipaljaaGreatDoor
