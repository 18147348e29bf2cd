/- The law PolicyFiner from its third region on. The law PolicyFiner. The law PolicyFiner: for every input the call returns true, and each argument reads afterwards as before: the row's statement, and its tied card. The listed tables of math/bits, strconv and policy are as the program's text lays them. -/
import Derived.Test.YthnobngcipaljaaGreatDoorPp35
import Derived.Test.YthnobngcipaljaaGreatDoorPz07
import Derived.Test.YthnobngcipaljaaGreatDoorPz08
import Derived.Test.YthnobngcipaljaaGreatDoorPz01
import Derived.Test.YthnobngcipaljaaGreatDoorPz04
set_option maxRecDepth 1000000
set_option maxHeartbeats 64000000
set_option linter.unusedVariables false
set_option linter.unusedSimpArgs false
set_option linter.constructorNameAsVariable false
open Go.Lib (hid)
namespace Go.Proofs
open Go.RowKit Go.Tw Go.Flow
attribute [local go_sem] Oper.semAt_some
theorem J6a {s:Q0b} (h:Q3k s) {n:Int}:Q3k (higher s n):=⟨h.ships,h.members,h.each⟩
theorem J3r (s:Q0b) (n:Int) (t:Nat):∀ i,(higher s n).X0s t i=s.X0s t i
 | 0=>rfl
 | i + 1=>by unfold Q0b.X0s; rw [J3r s n t i]; rfl
theorem J6q (s:Q0b) (n:Int):(higher s n).hist=s.hist:=by
 have h:∀ t,(higher s n).Q7i t=s.Q7i t:=by
  intro t
  induction t with
  | zero=>rfl
  | succ t ih=>unfold Q0b.Q7i; rw [ih,J3r]; rfl
 exact h _
theorem J9c {w z0:World} {s:Q0b} {A B:Option Addr} {T M capa capb gs cN nu:Nat} {lim:Int} (HXA:Hid (Ext w z0)) (HWD:Hid (Words z0)) (H2:Hid (Q7y z0 (.slice A T capa) (.slice B M capb) s)) (KB:Hid (Blk z0 gs 25 #[.int .i64 lim,.slice A T capa,.slice B M capb])) (HSEA:Hid (∀ W,Q7y W (.slice A T capa) (.slice B M capb) s -> Q0h W (.agg #[.int .i64 lim,.slice A T capa,.slice B M capb]) s)) (HS:Hid (Q3k s)) (HE:Hid (s.err=0)) (HT:Hid (s.ships.length=T)) (HM:Hid (s.members.length=M)) (HLIM:Hid (s.limit=lim)) (HM4:Hid (M <= 4)) (HT3:Hid (T <= 3)) (HFW:Hid (s.hist.length <= 9)) (H63:Hid (cN < 2 ^ 63)) (HN8:Hid (nu < 256))
    (F:Array Value) (hF:F.size=223) (f1:F[1]?=some (.int .i64 (cN:Int))) (f2:F[2]?=some (.int .u8 (nu:Int))) (f3:F[3]?=some (.pointer (some ⟨gs,0,none⟩))) :
    (codeFrom Tryz.f5 3).wp Tryz.prog (bodyPost Tryz.prog Tryz.f5 (fun e w'=>e=.returned (.bool true) /\ Ext w w')) ⟨F,[]⟩ z0:=by
 obtain ⟨u,rfl⟩:=J7e hF;replace f1:u 1=_:=Option.some.inj f1;replace f2:u 2=_:=Option.some.inj f2;replace f3:u 3=_:=Option.some.inj f3;rw [f1,f2,f3];clear hF f1 f2 f3
 conv=>arg 2; whnf
 have HV:=hid (Q1b.of HE.out);obtain ⟨m,hm⟩:∃ z,Z5c s=z:=⟨_,rfl⟩;have HMO:=hid hm;have HME:Hid (Z5e s=m):=hid (by rw [<- hm]; exact if_pos HE.out)
 clear hm;have ps0:=KB.out.cell 0;have ps1:=KB.out.cell 1;have ps2:=KB.out.cell 2;simp only [Go.Tw.gA,Go.Tw.gB,Go.Tw.gC] at ps0 ps1 ps2;go_wp2_with fail;refine (Z9u _ _ s (HSEA.out _ H2.out) HS.out).mono ?_;rintro e z1 ⟨xs,rfl,hs2,hx⟩;have hxx:Ext z0 z1:=hx;replace HXA:=hid (HXA.out.trans hxx);replace HWD:=hid (HWD.out.ext hxx);replace H2:=hid (H2.out.ext hxx);replace KB:=hid (KB.out.ext hxx);clear hx hxx;have HSV:=hid hs2;clear hs2 ps0 ps1 ps2;go_wp2_with fail;refine (Z1m _ _ s HSV.out HS.out HFW.out).mono ?_;rintro e z2 ⟨rfl,hx⟩;have hxx:Ext z1 z2:=hx;replace HXA:=hid (HXA.out.trans hxx);clear HSV;replace HWD:=hid (HWD.out.ext hxx);replace H2:=hid (H2.out.ext hxx);replace KB:=hid (KB.out.ext hxx);clear hx hxx;rw [HME.out,HE.out];have hlb:=HV.out.limit;rw [HLIM.out] at hlb;have hnu:=HN8.out;obtain ⟨hn,hhn⟩:∃ z:Int,(if 1024 <= lim + (nu:Int) then 1024 else lim + (nu:Int))=z:=⟨_,rfl⟩
 have HHN:Hid (lim <= hn /\ hn <= 1024):=hid (by rw [<- hhn]; split <;> omega)
 have HHE:=hid hhn;have hb1:IntKind.i64.wrap (nu:Int)=(nu:Int):=Q2v _ (by omega) (by omega)
 have hb2:IntKind.i64.wrap (lim + (nu:Int))=lim + (nu:Int):=Q2v _ (by omega) (by omega)
 clear hlb hnu;have ps0:=KB.out.cell 0;have ps1:=KB.out.cell 1;have ps2:=KB.out.cell 2;simp only [Go.Tw.gA,Go.Tw.gB,Go.Tw.gC] at ps0 ps1 ps2;go_wp2_with fail;refine (Z9u _ _ s (HSEA.out _ H2.out) HS.out).mono ?_;rintro e z3 ⟨xs,rfl,hs2,hx⟩;have hxx:Ext z2 z3:=hx;replace HXA:=hid (HXA.out.trans hxx);replace HWD:=hid (HWD.out.ext hxx);replace H2:=hid (H2.out.ext hxx);replace KB:=hid (KB.out.ext hxx);clear hx hxx;have HSV:=hid hs2;clear hs2 ps0 ps1 ps2;obtain ⟨xa,xb,hxe,hx2⟩:=HSV.out;subst hxe;obtain ⟨A2,c2,rfl,-,-,-⟩:=hx2.ships.opened;obtain ⟨B2,c3,rfl,-,-,-⟩:=hx2.members.opened;rw [HT.out,HM.out] at hx2;rw [HT.out,HM.out,HLIM.out];have HH2:=hid hx2;clear hx2 HSV;clear hhn;have HSF:Hid (Q3k (higher s hn)):=hid (J6a HS.out);have HHF:Hid ((higher s hn).hist=s.hist):=hid (J6q s hn);have HHV:Hid (Q1b (higher s hn)):=hid (J3q HV.out ⟨by have:=HV.out.limit; have:=HHN.out; rw [HLIM.out] at *; omega,HHN.out.2⟩)
 have hxp:=Ext.box z3 (.cells #[.int .i64 lim,.slice A2 T c2,.slice B2 M c3] 34);have hbp:=Blk.made z3 34 #[.int .i64 lim,.slice A2 T c2,.slice B2 M c3];have KBn:=hid (KB.out.ext hxp);go_upto_region 5 with fail;obtain ⟨gh,hgh⟩:∃ z,z3.heap.size=z:=⟨_,rfl⟩;obtain ⟨zn,hwt⟩:∃ Z,z3.alloc (.cells #[.int .i64 lim,.slice A2 T c2,.slice B2 M c3] 34)=Z:=⟨_,rfl⟩;rw [hwt,hgh] at hbp;rw [hwt] at hxp KBn;rw [hwt,hgh];clear hwt;have hfz:=hbp.frozen 0;have ps0:=KBn.out.cell 0;have ph0:=hbp.cell 0;have ps1:=KBn.out.cell 1;have ph1:=hbp.cell 1;have ps2:=KBn.out.cell 2;have ph2:=hbp.cell 2;simp only [Go.Tw.gA,Go.Tw.gB,Go.Tw.gC] at ps0 ps1 ps2 ph0 ph1 ph2;go_upto_region 6 with fail;rw [show min 1024 (lim + (nu:Int))=hn from HHE.out]
 have hbs:=hbp.set 0 (.int .i64 hn);have hx5:Ext z3 (zn.setCell ⟨gh,0,none⟩ (.int .i64 hn)):=Below.setCell hxp (p:=⟨gh,0,none⟩) (by show z3.heap.size <= gh; omega) _
 obtain ⟨z4,hz5⟩:∃ y,zn.setCell ⟨gh,0,none⟩ (.int .i64 hn)=y:=⟨_,rfl⟩;rw [hz5] at hbs hx5 ⊢;replace HXA:=hid (HXA.out.trans hx5);replace HWD:=hid (HWD.out.ext hx5);replace H2:=hid (H2.out.ext hx5);replace KB:=hid (KB.out.ext hx5);replace HH2:=hid (HH2.out.ext hx5);have KH:Hid (Blk z4 gh 34 #[.int .i64 hn,.slice A2 T c2,.slice B2 M c3]):=hid hbs;clear hbs hx5 hz5 hxp hbp hgh hfz KBn ps0 ps1 ps2 ph0 ph1 ph2;obtain ⟨om,hom⟩:∃ z,Z5c (higher s hn)=z:=⟨_,rfl⟩;have HOM:Hid (Z5e (higher s hn)=om /\ (higher s hn).err=0 /\ m <= om):=hid ⟨by rw [<- hom]; exact if_pos HHV.out.err,HHV.out.err,by rw [<- hom,<- HMO.out]; exact J6j HV.out (by rw [HLIM.out]; exact HHN.out)⟩
 clear hom;go_wp2_with (refine Q7z rfl _ _ rfl Tryz.Z3u Tryz.X3r rfl KH.out rfl ?_);refine (Z1m _ _ (higher s hn) (⟨_,_,rfl,⟨HH2.out.ships,HH2.out.members⟩⟩:Q0h _ (.agg #[.int .i64 hn,.slice A2 T c2,.slice B2 M c3]) (higher s hn)) HSF.out (by rw [HHF.out]; exact HFW.out)).mono ?_
 rintro e z5 ⟨rfl,hx⟩;have hxx:Ext z4 z5:=hx;replace HXA:=hid (HXA.out.trans hxx);clear HH2 KH;replace HWD:=hid (HWD.out.ext hxx);replace H2:=hid (H2.out.ext hxx);replace KB:=hid (KB.out.ext hxx);clear hx hxx;rw [HOM.out.1,HOM.out.2.1];obtain ⟨p,hp0⟩:∃ z,J2l s cN=z:=⟨_,rfl⟩;have HPD:=hid hp0;have HRE:Hid (Q2d s.hist p=0):=hid (by rw [<- hp0]; exact (J5d s cN))
 have HP2:Hid (p.length <= 4096):=hid (by have:=Z5n HV.out; rw [<- hp0,J3w]; omega)
 have HP8:Hid (∀ k,k < p.length -> (Q0n p k).length <= 4096):=hid (by rw [<- hp0]; exact J7g HV.out cN)
 clear hp0;have d0:=KB.out.cell 0;have d1:=KB.out.cell 1;have d2:=KB.out.cell 2;simp only [Go.Tw.gA,Go.Tw.gB,Go.Tw.gC] at d0 d1 d2;go_wp2_with fail;refine (J6p _ _ s cN (HSEA.out _ H2.out) HE.out H63.out).mono ?_;rintro e z6 ⟨xc,rfl,hu,hx⟩;have hxx:Ext z5 z6:=hx;replace HXA:=hid (HXA.out.trans hxx);replace HWD:=hid (HWD.out.ext hxx);replace H2:=hid (H2.out.ext hxx);replace KB:=hid (KB.out.ext hxx);clear hx hxx;clear d0 d1 d2;have hp:=J2d.policy HV.out hu;rw [HPD.out] at hp;obtain ⟨ux,rfl,hr⟩:=hp;obtain ⟨R,capr,rfl,-,-,-⟩:=hr.opened;obtain ⟨NR,hNR⟩:∃ z,p.length=z:=⟨_,rfl⟩;rw [hNR] at hr ⊢;clear hNR hu;have FQ:=hid hr;clear hr;have hxp:=Ext.box z6 (.cells #[.slice R NR capr] 47);have hbp:=Blk.made z6 47 #[.slice R NR capr];replace HXA:=hid (HXA.out.trans hxp);replace HWD:=hid (HWD.out.ext hxp);replace H2:=hid (H2.out.ext hxp);replace KB:=hid (KB.out.ext hxp);replace FQ:=hid (FQ.out.ext hxp);go_upto_region 8 with fail;obtain ⟨gq,hgq⟩:∃ z,z6.heap.size=z:=⟨_,rfl⟩;obtain ⟨z7,hwt⟩:∃ Z,z6.alloc (.cells #[.slice R NR capr] 47)=Z:=⟨_,rfl⟩;rw [hwt,hgq] at hbp;rw [hwt] at HXA HWD H2 KB FQ;rw [hwt,hgq];have KQ:=hid hbp;clear hbp hwt hgq hxp;have HPOL:Hid (∀ W,Q3m W (.slice R NR capr) p -> Q0w W (.agg #[.slice R NR capr]) p):=hid (fun W h=>⟨_,rfl,h⟩);have hdr:=(Ext.refl z7).drew;refine Flow.Q1o [.w,.w,.w,.w,.w,.p,.p,.p,.p,.p] [0,1,2,3,4,5,6,7,8,9] [[],[0],[],[1,2],[1,3],[4],[4,5],[4,5],[0,1,2,3,4,5,6],[0,1,2,3,4,5,6,7,8]]
  [.c 0 (.agg #[.int .i64 lim,.slice A T capa,.slice B M capb]),⟨fun v wz=>(fun v w'=>Q0h w' (v 1) s) v wz,by intro v a b hx h; exact Q0h.ext h hx⟩,.c 2 (.agg #[.slice R NR capr]),⟨fun v wz=>(fun v w'=>Q0w w' (v 3) p) v wz,by intro v a b hx h; exact Q0w.ext h hx⟩,⟨fun v wz=>(fun v w'=>∃ x,v 4=.tuple #[x,.int .i64 0] /\ Q0d w' x (Q3r s p)) v wz,by rintro v a b hx ⟨x,h1,h2⟩; exact ⟨x,h1,h2.ext hx⟩⟩,⟨fun v wz=>(fun v w'=>v 5=v 4) v wz,by intro v a b hx h; exact h⟩,⟨fun v wz=>(fun v w'=>v 4=.tuple #[v 6,.int .i64 0]) v wz,by intro v a b hx h; exact h⟩,.c 7 (.int .i64 0),⟨fun v wz=>(fun v w'=>v 8=v 6) v wz,by intro v a b hx h; exact h⟩,.c 9 (.int .i64 0)]
  (by kernel_rfl) rfl (by kernel_rfl) ⟨?g0,?g1,?g2,?g3,?g4,?g5,?g6,?g7,?g8,?g9,trivial⟩ ?post
 case g0=>
  intro v w1 hx;intro bb hbb;intro K2 hK2;have o1:bb.eval (.tmp 3)=.pointer (some ⟨gs,0,none⟩):=by rw [hbb]; dsimp only; (try simp (discharger:=decide) only [eval_put_ne]); rfl
  exact Q0p (.tmp 3) _ rfl Tryz.J8o Tryz.J7y o1 (KB.out.ext (hdr.trans hx)) rfl (hK2 _ _ (Ext.refl _) rfl)
 case g1=>
  intro v w1 hx;(repeat intro (zq:v _=_));intro bb hbb;subst hbb;intro K2 hK2;go_simp;refine Q0e (Z9u w1 _ s (HSEA.out _ (H2.out.ext (hdr.trans hx))) HS.out) ?_;rintro e w2 ⟨u,rfl,hu,hx2⟩;exact ⟨_,rfl,hK2 _ _ hx2 hu⟩
 case g2=>
  intro v w1 hx;intro bb hbb;intro K2 hK2;have o1:bb.eval (.tmp 12)=.pointer (some ⟨gq,0,none⟩):=by rw [hbb]; dsimp only; (try simp (discharger:=decide) only [eval_put_ne]); rfl
  exact Q0p (.tmp 12) _ rfl Tryz.Z9i Tryz.Z7k o1 (KQ.out.ext (hdr.trans hx)) rfl (hK2 _ _ (Ext.refl _) rfl)
 case g3=>
  intro v w1 hx _ (q2:v 2=_);intro bb hbb;subst hbb;intro K2 hK2;go_simp;refine Q0e (J1w w1 _ p (HPOL.out _ (FQ.out.ext (hdr.trans hx))) HP2.out HP8.out) ?_;rintro e w2 ⟨u,rfl,hu,hx2⟩;exact ⟨_,rfl,hK2 _ _ hx2 hu⟩
 case g4=>
  intro v w1 hx (q1:(fun v w'=>Q0h w' (v 1) s) v w1) (q3:(fun v w'=>Q0w w' (v 3) p) v w1);intro bb hbb;subst hbb;intro K2 hK2;go_simp;refine Q0e (J7a w1 _ _ s _ q1 q3 HS.out HE.out HRE.out) ?_;rintro e w2 ⟨u,rfl,hu,hx2⟩;exact ⟨_,rfl,hK2 _ _ hx2 ⟨_,rfl,hu⟩⟩
 case g5=>
  intro v w1 hx _;intro bb hbb;have o1:bb.eval (.tmp 90)=v 4:=by rw [hbb]; dsimp only; (try simp (discharger:=decide) only [eval_put_ne]); rw [Q0a (by simp only [size_put]; exact (by decide:90 < 223))]
  exact ⟨_,fun w=>J6e (.tmp 90) rfl o1,rfl⟩
 case g6=>
  intro v w1 hx (q4:(fun v w'=>∃ x,v 4=.tuple #[x,.int .i64 0] /\ Q0d w' x (Q3r s p)) v w1) (q5:(fun v w'=>v 5=v 4) v w1);intro bb hbb;obtain ⟨x,h5,_⟩:=q4;have o1:bb.eval (.tmp 85)=.tuple #[x,.int .i64 0]:=by rw [<- h5,<- q5]; rw [hbb]; dsimp only; (try simp (discharger:=decide) only [eval_put_ne]); rw [Q0a (by simp only [size_put]; exact (by decide:85 < 223))]
  exact ⟨_,fun w=>J2t (.tmp 85) 0 rfl o1 (fun w=>J8z w _ _),h5⟩
 case g7=>
  intro v w1 hx (q4:(fun v w'=>∃ x,v 4=.tuple #[x,.int .i64 0] /\ Q0d w' x (Q3r s p)) v w1) (q5:(fun v w'=>v 5=v 4) v w1);intro bb hbb;obtain ⟨x,h5,_⟩:=q4;have o1:bb.eval (.tmp 85)=.tuple #[x,.int .i64 0]:=by rw [<- h5,<- q5]; rw [hbb]; dsimp only; (try simp (discharger:=decide) only [eval_put_ne]); rw [Q0a (by simp only [size_put]; exact (by decide:85 < 223))]
  exact ⟨_,fun w=>J2t (.tmp 85) 1 rfl o1 (fun w=>J8y w _ _),rfl⟩
 case g8=>
  intro v w1 hx (q0:v 0=_) _ (q2:v 2=_) _ _ _ _;intro bb hbb;have o1:bb.eval (.tmp 91)=v 6:=by rw [hbb]; dsimp only; (try simp (discharger:=decide) only [eval_put_ne]); rw [Q0a (by simp only [size_put]; exact (by decide:91 < 223))]
  exact ⟨_,fun w=>J4i (.tmp 91) rfl o1,rfl⟩
 case g9=>
  intro v w1 hx (q0:v 0=_) _ (q2:v 2=_) _ _ _ _ (q7:v 7=_) _;intro bb hbb;subst hbb;refine ⟨_,fun w=>?_,rfl⟩;go_simp
 case post =>
  intro v w1 hx (q0:v 0=_) (q1:(fun v w'=>Q0h w' (v 1) s) v w1) (q2:v 2=_) (q3:(fun v w'=>Q0w w' (v 3) p) v w1) (q4:(fun v w'=>∃ x,v 4=.tuple #[x,.int .i64 0] /\ Q0d w' x (Q3r s p)) v w1) (q5:(fun v w'=>v 5=v 4) v w1) (q6:(fun v w'=>v 4=.tuple #[v 6,.int .i64 0]) v w1) (q7:v 7=_) (q8:(fun v w'=>v 8=v 6) v w1) (q9:v 9=_);simp only [Flow.All,Flow.acts,Act.put];go_simp;obtain ⟨xk,h5,hik⟩:=q4;replace q6:v 4=.tuple #[v 6,.int .i64 0]:=q6;replace q8:v 8=v 6:=q8;rw [h5] at q6;simp only [Value.tuple.injEq,Array.mk.injEq,List.cons.injEq,and_true] at q6;obtain ⟨Xk,ck,rfl,-,-,-⟩:=hik.opened;obtain ⟨nk,hnk⟩:∃ z,(Q3r s p).length=z:=⟨_,rfl⟩;rw [hnk] at q6 hik
  (try rw [q8])
  rw [<- q6];clear h5;have hxx:=hdr.trans hx;replace HXA:=hid (HXA.out.trans hxx);replace HWD:=hid (HWD.out.ext hxx);replace H2:=hid (H2.out.ext hxx);replace KB:=hid (KB.out.ext hxx);replace FQ:=hid (FQ.out.ext hxx);replace KQ:=hid (KQ.out.ext hxx);have GK:=hid (hik);have HNK:=hid (hnk);obtain ⟨z8,rfl⟩:∃ Z,Z=w1:=⟨_,rfl⟩;clear hx hdr hxx q0 q1 q2 q3 q5 q6 q7 q8 q9 hik hnk;have ps0:=KB.out.cell 0;have ps1:=KB.out.cell 1;have ps2:=KB.out.cell 2;simp only [Go.Tw.gA,Go.Tw.gB,Go.Tw.gC] at ps0 ps1 ps2;go_wp2_with fail;refine (Z9u _ _ s (HSEA.out _ H2.out) HS.out).mono ?_;rintro e z9 ⟨xs,rfl,hs2,hx⟩;have hxx:Ext z8 z9:=hx;replace HXA:=hid (HXA.out.trans hxx);replace HWD:=hid (HWD.out.ext hxx);replace H2:=hid (H2.out.ext hxx);replace KB:=hid (KB.out.ext hxx);replace FQ:=hid (FQ.out.ext hxx);replace KQ:=hid (KQ.out.ext hxx);replace GK:=hid (GK.out.ext hxx);clear hx hxx;have HSV:=hid hs2;clear hs2 ps0 ps1 ps2;obtain ⟨xa,xb,hxe,hx2⟩:=HSV.out;subst hxe;obtain ⟨A3,c4,rfl,-,-,-⟩:=hx2.ships.opened;obtain ⟨B3,c5,rfl,-,-,-⟩:=hx2.members.opened;rw [HT.out,HM.out] at hx2;rw [HT.out,HM.out,HLIM.out];have HH3:=hid hx2;clear hx2 HSV;have hxp:=Ext.box z9 (.cells #[.int .i64 lim,.slice A3 T c4,.slice B3 M c5] 34);have hbp:=Blk.made z9 34 #[.int .i64 lim,.slice A3 T c4,.slice B3 M c5];have KBn:=hid (KB.out.ext hxp);go_upto_region 10 with fail;obtain ⟨gi,hgh⟩:∃ z,z9.heap.size=z:=⟨_,rfl⟩;obtain ⟨zn,hwt⟩:∃ Z,z9.alloc (.cells #[.int .i64 lim,.slice A3 T c4,.slice B3 M c5] 34)=Z:=⟨_,rfl⟩;rw [hwt,hgh] at hbp;rw [hwt] at hxp KBn;rw [hwt,hgh];clear hwt;have hfz:=hbp.frozen 0;have ps0:=KBn.out.cell 0;have ph0:=hbp.cell 0;have ps1:=KBn.out.cell 1;have ph1:=hbp.cell 1;have ps2:=KBn.out.cell 2;have ph2:=hbp.cell 2;simp only [Go.Tw.gA,Go.Tw.gB,Go.Tw.gC] at ps0 ps1 ps2 ph0 ph1 ph2;go_upto_region 11 with fail;rw [show min 1024 (lim + (nu:Int))=hn from HHE.out]
  have hbs:=hbp.set 0 (.int .i64 hn);have hx5:Ext z9 (zn.setCell ⟨gi,0,none⟩ (.int .i64 hn)):=Below.setCell hxp (p:=⟨gi,0,none⟩) (by show z9.heap.size <= gi; omega) _
  obtain ⟨z10,hz5⟩:∃ y,zn.setCell ⟨gi,0,none⟩ (.int .i64 hn)=y:=⟨_,rfl⟩;rw [hz5] at hbs hx5 ⊢;replace HXA:=hid (HXA.out.trans hx5);replace HWD:=hid (HWD.out.ext hx5);replace H2:=hid (H2.out.ext hx5);replace KB:=hid (KB.out.ext hx5);replace FQ:=hid (FQ.out.ext hx5);replace KQ:=hid (KQ.out.ext hx5);replace GK:=hid (GK.out.ext hx5);replace HH3:=hid (HH3.out.ext hx5);have KI:Hid (Blk z10 gi 34 #[.int .i64 hn,.slice A3 T c4,.slice B3 M c5]):=hid hbs;clear hbs hx5 hz5 hxp hbp hgh hfz KBn ps0 ps1 ps2 ph0 ph1 ph2;clear hb1 hb2;have HRH:Hid (Q2d (higher s hn).hist p=0):=hid (by rw [HHF.out]; exact HRE.out)
  have hdr:=(Ext.refl z10).drew;refine Flow.Q1o [.w,.w,.w,.w,.p,.p,.p,.p,.p] [0,1,2,3,4,5,6,7,8] [[],[],[1],[0,2],[3],[3,4],[3,4],[0,1,2,3,4,5],[0,1,2,3,4,5,6,7]]
   [.c 0 (.agg #[.int .i64 hn,.slice A3 T c4,.slice B3 M c5]),.c 1 (.agg #[.slice R NR capr]),⟨fun v wz=>(fun v w'=>Q0w w' (v 2) p) v wz,by intro v a b hx h; exact Q0w.ext h hx⟩,⟨fun v wz=>(fun v w'=>∃ x,v 3=.tuple #[x,.int .i64 0] /\ Q0d w' x (Q3r (higher s hn) p)) v wz,by rintro v a b hx ⟨x,h1,h2⟩; exact ⟨x,h1,h2.ext hx⟩⟩,⟨fun v wz=>(fun v w'=>v 4=v 3) v wz,by intro v a b hx h; exact h⟩,⟨fun v wz=>(fun v w'=>v 3=.tuple #[v 5,.int .i64 0]) v wz,by intro v a b hx h; exact h⟩,.c 6 (.int .i64 0),⟨fun v wz=>(fun v w'=>v 7=v 5) v wz,by intro v a b hx h; exact h⟩,.c 8 (.int .i64 0)]
   (by kernel_rfl) rfl (by kernel_rfl) ⟨?g0,?g1,?g2,?g3,?g4,?g5,?g6,?g7,?g8,trivial⟩ ?post
  case g0=>
   intro v w1 hx;intro bb hbb;intro K2 hK2;have o1:bb.eval (.tmp 15)=.pointer (some ⟨gi,0,none⟩):=by rw [hbb]; dsimp only; (try simp (discharger:=decide) only [eval_put_ne]); rfl
   exact Q0p (.tmp 15) _ rfl Tryz.Z3u Tryz.X3r o1 (KI.out.ext (hdr.trans hx)) rfl (hK2 _ _ (Ext.refl _) rfl)
  case g1=>
   intro v w1 hx;intro bb hbb;intro K2 hK2;have o1:bb.eval (.tmp 12)=.pointer (some ⟨gq,0,none⟩):=by rw [hbb]; dsimp only; (try simp (discharger:=decide) only [eval_put_ne]); rfl
   exact Q0p (.tmp 12) _ rfl Tryz.Z9i Tryz.Z7k o1 (KQ.out.ext (hdr.trans hx)) rfl (hK2 _ _ (Ext.refl _) rfl)
  case g2=>
   intro v w1 hx;(repeat intro (zq:v _=_));intro bb hbb;subst hbb;intro K2 hK2;go_simp;refine Q0e (J1w w1 _ p (HPOL.out _ (FQ.out.ext (hdr.trans hx))) HP2.out HP8.out) ?_;rintro e w2 ⟨u,rfl,hu,hx2⟩;exact ⟨_,rfl,hK2 _ _ hx2 hu⟩
  case g3=>
   intro v w1 hx (q0:v 0=_) (q2:(fun v w'=>Q0w w' (v 2) p) v w1);intro bb hbb;subst hbb;intro K2 hK2;go_simp;refine Q0e (J7a w1 _ _ (higher s hn) _ ⟨_,_,rfl,⟨(HH3.out.ext (hdr.trans hx)).ships,(HH3.out.ext (hdr.trans hx)).members⟩⟩ q2 HSF.out HOM.out.2.1 HRH.out) ?_;rintro e w2 ⟨u,rfl,hu,hx2⟩;exact ⟨_,rfl,hK2 _ _ hx2 ⟨_,rfl,hu⟩⟩
  case g4=>
   intro v w1 hx _;intro bb hbb;have o1:bb.eval (.tmp 106)=v 3:=by rw [hbb]; dsimp only; (try simp (discharger:=decide) only [eval_put_ne]); rw [Q0a (by simp only [size_put]; exact (by decide:106 < 223))]
   exact ⟨_,fun w=>J6e (.tmp 106) rfl o1,rfl⟩
  case g5=>
   intro v w1 hx (q3:(fun v w'=>∃ x,v 3=.tuple #[x,.int .i64 0] /\ Q0d w' x (Q3r (higher s hn) p)) v w1) (q4:(fun v w'=>v 4=v 3) v w1);intro bb hbb;obtain ⟨x,h5,_⟩:=q3;have o1:bb.eval (.tmp 102)=.tuple #[x,.int .i64 0]:=by rw [<- h5,<- q4]; rw [hbb]; dsimp only; (try simp (discharger:=decide) only [eval_put_ne]); rw [Q0a (by simp only [size_put]; exact (by decide:102 < 223))]
   exact ⟨_,fun w=>J2t (.tmp 102) 0 rfl o1 (fun w=>J8z w _ _),h5⟩
  case g6=>
   intro v w1 hx (q3:(fun v w'=>∃ x,v 3=.tuple #[x,.int .i64 0] /\ Q0d w' x (Q3r (higher s hn) p)) v w1) (q4:(fun v w'=>v 4=v 3) v w1);intro bb hbb;obtain ⟨x,h5,_⟩:=q3;have o1:bb.eval (.tmp 102)=.tuple #[x,.int .i64 0]:=by rw [<- h5,<- q4]; rw [hbb]; dsimp only; (try simp (discharger:=decide) only [eval_put_ne]); rw [Q0a (by simp only [size_put]; exact (by decide:102 < 223))]
   exact ⟨_,fun w=>J2t (.tmp 102) 1 rfl o1 (fun w=>J8y w _ _),rfl⟩
  case g7=>
   intro v w1 hx (q0:v 0=_) (q1:v 1=_) _ _ _ _;intro bb hbb;have o1:bb.eval (.tmp 107)=v 5:=by rw [hbb]; dsimp only; (try simp (discharger:=decide) only [eval_put_ne]); rw [Q0a (by simp only [size_put]; exact (by decide:107 < 223))]
   exact ⟨_,fun w=>J4i (.tmp 107) rfl o1,rfl⟩
  case g8=>
   intro v w1 hx (q0:v 0=_) (q1:v 1=_) _ _ _ _ (q6:v 6=_) _;intro bb hbb;subst hbb;refine ⟨_,fun w=>?_,rfl⟩;go_simp
  case post =>
   intro v w1 hx;(iterate 2 intro (zq:v _=_));intro (q2:(fun v w'=>Q0w w' (v 2) p) v w1) (q3:(fun v w'=>∃ x,v 3=.tuple #[x,.int .i64 0] /\ Q0d w' x (Q3r (higher s hn) p)) v w1) (q4:(fun v w'=>v 4=v 3) v w1) (q5:(fun v w'=>v 3=.tuple #[v 5,.int .i64 0]) v w1);(iterate 1 intro (zq:v _=_));intro (q7:(fun v w'=>v 7=v 5) v w1);(iterate 1 intro (zq:v _=_));simp only [Flow.All,Flow.acts,Act.put];go_simp;obtain ⟨xk,h5,hik⟩:=q3;replace q5:v 3=.tuple #[v 5,.int .i64 0]:=q5;replace q7:v 7=v 5:=q7;rw [h5] at q5;simp only [Value.tuple.injEq,Array.mk.injEq,List.cons.injEq,and_true] at q5;obtain ⟨Xl,cl,rfl,-,-,-⟩:=hik.opened;obtain ⟨nl,hnk⟩:∃ z,(Q3r (higher s hn) p).length=z:=⟨_,rfl⟩;rw [hnk] at q5 hik
   (try rw [q7])
   rw [<- q5];clear h5;have hxx:=hdr.trans hx;replace HXA:=hid (HXA.out.trans hxx);replace HWD:=hid (HWD.out.ext hxx);replace H2:=hid (H2.out.ext hxx);replace KB:=hid (KB.out.ext hxx);replace FQ:=hid (FQ.out.ext hxx);replace KQ:=hid (KQ.out.ext hxx);replace GK:=hid (GK.out.ext hxx);replace HH3:=hid (HH3.out.ext hxx);replace KI:=hid (KI.out.ext hxx);have GL:=hid (hik);obtain ⟨z11,rfl⟩:∃ Z,Z=w1:=⟨_,rfl⟩;clear hx hdr hxx q2 q4 q5 q7 hik hnk;(repeat clear zq);clear HH3 KI KQ FQ;have hmo:¬ om < m:=by have:=HOM.out.2.2; omega
   have hwz:IntKind.i64.wrap 0=0:=Q2v 0 (by decide) (by decide)
   have HKH:Hid (∀ x ∈ Q3r s p,has (Q3r (higher s hn) p) x=true):=hid (fun x hx=>by have h:=J6r (s:=s) (n:=hn) (by rw [HLIM.out]; exact HHN.out.1) p hx; unfold has; simpa using h)
   go_wp2_with fail;clear hmo hwz
   go_loopw [124] (fun iv wr=>∃ j:Nat,j <= nk /\ iv=.int .i64 j /\ Ext z11 wr) (fun iv _=>nk - (intOf iv).toNat)
   case atStart=>exact ⟨0,Nat.zero_le _,rfl,Ext.refl _⟩
   case round =>
    obtain ⟨j,hj,rfl,hxr⟩:=hrel;replace HXA:=hid (HXA.out.trans hxr);replace HWD:=hid (HWD.out.ext hxr);replace H2:=hid (H2.out.ext hxr);replace KB:=hid (KB.out.ext hxr);replace GK:=hid (GK.out.ext hxr);replace GL:=hid (GL.out.ext hxr);have HX0:=hid hxr;obtain ⟨z12,rfl⟩:∃ Z,Z=wr:=⟨_,rfl⟩;clear hxr
    by_cases hlt:j < nk
    . skip
      have hjI:(j:Int) < (nk:Int):=by omega
      have hkl:=kept_len s p;have HWJ:Hid (wrap64 ((j:Int) + 1)=(j:Int) + 1):=hid (by have:=HNK.out; have:=HV.out.some.2; unfold wrap64; omega)
      have HJ:=hid hlt;obtain ⟨X9,c9,h9,-,-,hc9⟩:=GK.out.opened;obtain ⟨bk,ok,hX9,hcell9⟩:=hc9 j (by rw [HNK.out]; exact hlt)
      injection h9 with k1 k2 k3;subst k1;subst k3;subst hX9;clear k2 hc9 hkl;have HXI:Hid (has (Q3r (higher s hn) p) (ix (Q3r s p) j)=true):=hid (HKH.out _ (by rw [Q4s (by rw [HNK.out]; exact hlt)]; exact List.getElem_mem _))
      obtain ⟨xv,hxv⟩:∃ z,ix (Q3r s p) j=z:=⟨_,rfl⟩;rw [hxv] at hcell9 HXI;clear hxv;go_wp2_with fail;refine (J7h _ _ _ _ GL.out).mono ?_;rintro e w9 ⟨rfl,hw9⟩;subst hw9;rw [HXI.out];clear hcell9;go_wp2;go_roundw
      case rel=>exact ⟨j + 1,by have:=HJ.out; omega,by rw [HWJ.out]; go_num,HX0.out⟩
      case measure=>have:=HJ.out; rw [HWJ.out]; simp [intOf]; omega
    . skip
      have hjI:¬ (j:Int) < (nk:Int):=by omega
      repeat (first | exact J8s HXA HWD H2 KB HSEA HS HV HE HT HM HM4 HT3 HMO _ rfl rfl rfl | go_step)
end Go.Proofs
namespace Go.Proofs
open Go.RowKit Go.Tw Go.Flow
attribute [local go_sem] Oper.semAt_some
theorem J4a (w:World) (v:Value) (s:Q0b) (code:Int) (nu:Nat) (hv:Q0h w v s) (hcd:code < 2 ^ 63) (hn8:nu < 256) (hW:Words w) :
    Calls Tryz.prog 5 #[v,.int .i64 code,.int .u8 (nu:Int)] w fun e w'=>e=.returned (.bool true) /\ Ext w w':=by
 obtain ⟨a,b,rfl,h2⟩:=hv;obtain ⟨A,capa,rfl,-,-,-⟩:=h2.ships.opened;obtain ⟨B,capb,rfl,-,-,-⟩:=h2.members.opened;have HXA:=hid (Ext.refl w);have HWD:=hid hW;have H2:=hid h2;obtain ⟨T,hT⟩:∃ T,s.ships.length=T:=⟨_,rfl⟩;have HT:=hid hT;obtain ⟨M,hM⟩:∃ M,s.members.length=M:=⟨_,rfl⟩;have HM:=hid hM;obtain ⟨lim,hlim⟩:∃ k,s.limit=k:=⟨_,rfl⟩;have HLIM:=hid hlim;have HSEA:Hid (∀ W,Q7y W (.slice A T capa) (.slice B M capb) s -> Q0h W (.agg #[.int .i64 lim,.slice A T capa,.slice B M capb]) s):=hid (fun W h=>⟨_,_,by rw [hlim],h⟩)
 rw [hT,hM] at H2;rw [hT,hM,hlim];clear hW h2 hT hM hlim;go_enter Tryz.func5,Tryz.ntmps5;have HC63:=hid hcd;have HN8:=hid hn8;clear hcd hn8;go_wp2_with fail;change Calls _ _ _ (w.alloc (.cells #[.int .i64 lim,.slice A T capa,.slice B M capb] 25)) _;obtain ⟨W,hWW,k0,HXW,eW⟩:=Q1t w 25 #[.int .i64 lim,.slice A T capa,.slice B M capb];rw [hWW];clear hWW;refine (Z8x _ _ s (HSEA.out _ (H2.out.ext HXW.out))).mono ?_;rintro e z1 ⟨q,rfl,hq,hx⟩;have hxx:Ext w z1:=HXW.out.trans hx;replace HXA:=hid (HXA.out.trans hxx);replace HWD:=hid (HWD.out.ext hxx);replace H2:=hid (H2.out.ext hxx);have KB:=hid (k0.ext hx);clear hx hxx HXW eW k0;obtain ⟨gs,hgs⟩:∃ z,w.heap.size=z:=⟨_,rfl⟩;rw [hgs] at KB ⊢;clear hgs;cases q with
 | false =>
   clear hq;go_wp2_with fail;refine (J0d _ HWD.out).mono ?_;rintro e z2 ⟨rfl,hx⟩;have hxx:Ext z1 z2:=hx;replace HXA:=hid (HXA.out.trans hxx);replace HWD:=hid (HWD.out.ext hxx);replace H2:=hid (H2.out.ext hxx);replace KB:=hid (KB.out.ext hxx);clear hx hxx;go_wp2;go_ret;exact ⟨rfl,HXA.out⟩
 | true =>
   have hs:Q3k s:=hq.1 rfl;have HS:=hid hs;clear hs hq;have d0:=KB.out.cell 0;have d1:=KB.out.cell 1;have d2:=KB.out.cell 2;simp only [Go.Tw.gA,Go.Tw.gB,Go.Tw.gC] at d0 d1 d2
   by_cases h4:4 < M
   . have h4I:(4:Int) < (M:Int):=by omega
     have h4d:decide ((4:Int) < (M:Int))=true:=decide_eq_true h4I;have h4n:decide (4 < M)=true:=decide_eq_true h4;go_wp2_with fail;refine (J0d _ HWD.out).mono ?_;rintro e z2 ⟨rfl,hx⟩;have hxx:Ext z1 z2:=hx;replace HXA:=hid (HXA.out.trans hxx);replace HWD:=hid (HWD.out.ext hxx);replace H2:=hid (H2.out.ext hxx);replace KB:=hid (KB.out.ext hxx);clear hx hxx;go_wp2;go_ret;exact ⟨rfl,HXA.out⟩
   have h4I:¬ (4:Int) < (M:Int):=by omega
   have h4d:decide ((4:Int) < (M:Int))=false:=decide_eq_false h4I;have h4n:decide (4 < M)=false:=decide_eq_false h4;have HM4:Hid (M <= 4):=hid (by omega)
   by_cases h3:3 < T
   . have h3I:(3:Int) < (T:Int):=by omega
     have h3d:decide ((3:Int) < (T:Int))=true:=decide_eq_true h3I;have h3n:decide (3 < T)=true:=decide_eq_true h3;go_wp2_with fail;refine (J0d _ HWD.out).mono ?_;rintro e z2 ⟨rfl,hx⟩;have hxx:Ext z1 z2:=hx;replace HXA:=hid (HXA.out.trans hxx);replace HWD:=hid (HWD.out.ext hxx);replace H2:=hid (H2.out.ext hxx);replace KB:=hid (KB.out.ext hxx);clear hx hxx;go_wp2;go_ret;exact ⟨rfl,HXA.out⟩
   have h3I:¬ (3:Int) < (T:Int):=by omega
   have h3d:decide ((3:Int) < (T:Int))=false:=decide_eq_false h3I;have h3n:decide (3 < T)=false:=decide_eq_false h3;have HT3:Hid (T <= 3):=hid (by omega)
   go_wp2_with fail;refine (Z0w _ _ s (HSEA.out _ H2.out)).mono ?_;rintro e z2 ⟨rfl,hx⟩;have hxx:Ext z1 z2:=hx;replace HXA:=hid (HXA.out.trans hxx);replace HWD:=hid (HWD.out.ext hxx);replace H2:=hid (H2.out.ext hxx);replace KB:=hid (KB.out.ext hxx);clear hx hxx;clear d0 d1 d2 h4 h4I h4d h4n h3 h3I h3d h3n
   by_cases he:s.err=0
   . skip
     have HE:=hid he;rw [he];clear he;have d0:=KB.out.cell 0;have d1:=KB.out.cell 1;have d2:=KB.out.cell 2;simp only [Go.Tw.gA,Go.Tw.gB,Go.Tw.gC] at d0 d1 d2;go_wp2_with fail;refine (J8k _ _ s (HSEA.out _ H2.out) HE.out).mono ?_;rintro e z3 ⟨rfl,hx⟩;have hxx:Ext z2 z3:=hx;replace HXA:=hid (HXA.out.trans hxx);replace HWD:=hid (HWD.out.ext hxx);replace H2:=hid (H2.out.ext hxx);replace KB:=hid (KB.out.ext hxx);clear hx hxx;clear d0 d1 d2
     by_cases hfw:s.hist.length <= 9
     . skip
       have hfd:J8w s=true:=decide_eq_true hfw;have HFW:=hid hfw;rw [hfd];clear hfd hfw
       by_cases hc0:code < 0
       . have hcd:decide (code < 0)=true:=decide_eq_true hc0
         go_wp2_with fail;refine (J0d _ HWD.out).mono ?_;rintro e z4 ⟨rfl,hx⟩;have hxx:Ext z3 z4:=hx;replace HXA:=hid (HXA.out.trans hxx);replace HWD:=hid (HWD.out.ext hxx);replace H2:=hid (H2.out.ext hxx);replace KB:=hid (KB.out.ext hxx);clear hx hxx;go_wp2;go_ret;exact ⟨rfl,HXA.out⟩
       have hcd:decide (code < 0)=false:=decide_eq_false hc0;obtain ⟨cN,rfl⟩:∃ z:Nat,code=(z:Int):=⟨code.toNat,by omega⟩
       have H63:Hid (cN < 2 ^ 63):=hid (by have:=HC63.out; omega)
       clear hc0;go_upto_if 60 with fail
       repeat (first | exact J9c HXA HWD H2 KB HSEA HS HE HT HM HLIM HM4 HT3 HFW H63 HN8 _ rfl rfl rfl rfl | go_step)
     . have hfd:J8w s=false:=decide_eq_false hfw
       rw [hfd];go_wp2_with fail;refine (J0d _ HWD.out).mono ?_;rintro e z4 ⟨rfl,hx⟩;have hxx:Ext z3 z4:=hx;replace HXA:=hid (HXA.out.trans hxx);replace HWD:=hid (HWD.out.ext hxx);replace H2:=hid (H2.out.ext hxx);replace KB:=hid (KB.out.ext hxx);clear hx hxx;go_wp2;go_ret;exact ⟨rfl,HXA.out⟩
   . have heb:(s.err != 0)=true:=by simp [he]
     obtain ⟨E,hE⟩:∃ z,s.err=z:=⟨_,rfl⟩;rw [hE] at heb he ⊢;have hE0:E ≠ 0:=he;go_wp2_with fail;refine (J0d _ HWD.out).mono ?_;rintro e z3 ⟨rfl,hx⟩;have hxx:Ext z2 z3:=hx;replace HXA:=hid (HXA.out.trans hxx);replace HWD:=hid (HWD.out.ext hxx);replace H2:=hid (H2.out.ext hxx);replace KB:=hid (KB.out.ext hxx);clear hx hxx;go_wp2;go_ret;exact ⟨rfl,HXA.out⟩
end Go.Proofs
namespace Go.Proofs.YthnobngcipaljaaGreatDoor
open Go.ChangeShapes Go.WideShapes Go.ChangeAt Go.RowKit Go.Tw
theorem J3f (os:Os) (started:os.Started) (H:Type) (enc:TypeId × Value -> H) :
    ReturnsInHanded {} Tryz.checked os 5 .any (fun w args=>(Rows.policyFinerSpec.pre enc Tryz.prog Tryz.f5 Rows.policyFinerRow.domain false w args /\ laidMetH Tryz.prog J0p w) /\ sizedMet enc Tryz.prog Tryz.f5 (OpenSpec.ofChange Rows.policyFinerSpec) false w args)
     (Rows.policyFinerSpec.post enc Tryz.prog Tryz.f5 false true false false):=by
 refine returnsInHanded_of_change_and (C:=Tryz.checked) (X:=fun w _=>laidMetH Tryz.prog J0p w) (fun _ _ _ hh h=>h.of_heap hh) own started (by kernel_rfl) Tryz.func5
  (ChangeSpec.witness_shaped (enc:=enc) (C:=Tryz.checked) (os:=os) (X:=fun w _=>laidMetH Tryz.prog J0p w) false (World.laidAll Tryz.prog os J0p) #[.agg #[.int .i64 0,.slice none 0 0,.slice none 0 0],.int .i64 0,.int .u8 0] 8 (World.laidAll_os _ _ _)
   (World.shaped_of_ZipB (by kernel_rfl) (by kernel_rfl)) (by kernel_rfl) (by kernel_rfl) (by kernel_rfl)
   (by rw [MakeChecks.laidMetH_plain _ _ _ (by kernel_rfl)]; exact laidMet_laidAll _ (by kernel_rfl) (by kernel_rfl))) ?_
 intro W base args ds gs before hval0 hW hc hsz0 hL _;have hval:∀ (j:Nat) t v,Tryz.f5.params[j]?=some t -> args[j]?=some v -> Value.okWide Tryz.prog W .any base t v:=hval0;have hsz:(DataW.weightsEach Tryz.prog (Tryz.f5.params.toList ++ Rows.policyFinerSpec.plain.varTypes Tryz.prog) (ds ++ gs)).all (· <= reachBytes)=true:=hsz0;have hW':=hW;obtain ⟨p,q,hA0,hV,rfl,hfz,hnd⟩:=hW;have hA:DataW.TrodAll enc Tryz.prog W 0 (fun _=>true) true Tryz.f5.params.toList args.toList ds p:=hA0;rw [Tryz.params5] at hA hval hsz;obtain ⟨v0,vs0,d0,ds0,p0,q0,hargs,rfl,rfl,h0,r0⟩:=trodAll_cons hA;obtain ⟨v1,vs1,d1,ds1,p1,q1,rfl,rfl,rfl,h1,r1⟩:=trodAll_cons r0;obtain ⟨v2,vs2,d2,ds2,p2,q2,rfl,rfl,rfl,h2,r2⟩:=trodAll_cons r1;obtain ⟨rfl,rfl,rfl⟩:=trodAll_nil r2;obtain rfl:args=#[v0,v1,v2]:=by cases args; simp_all
 obtain ⟨rfl,rfl⟩:=trodVars_none hV;have hfit:∀ x ∈ DataW.weightsEach Tryz.prog [25,3,5] [d0,d1,d2],x <= 140737488351232:=fun x hx=>by
  have:=List.all_eq_true.1 (show (DataW.weightsEach Tryz.prog [25,3,5] [d0,d1,d2]).all (· <= reachBytes)=true from hsz) x hx
  exact Nat.le_trans (of_decide_eq_true this) (by decide)
 obtain ⟨f0,g0⟩:=Q4u hfit;obtain ⟨f1,g1⟩:=Q4u g0;obtain ⟨f2,g2⟩:=Q4u g1;have k0:=h0;have lt0:∀ x ∈ p0,x.block < W.heap.size:=by obtain ⟨m,hm⟩:=k0; exact DataW.trod_lt m _ _ _ hm
 obtain ⟨t0,HI0⟩:=Z4e (hval 0 25 v0 rfl rfl) h0 f0;have k1:=h1;have lt1:∀ x ∈ p1,x.block < W.heap.size:=by obtain ⟨m,hm⟩:=k1; exact DataW.trod_lt m _ _ _ hm
 obtain ⟨z1,rfl,rfl,rfl,wz1⟩:=open_int Tryz.underlying3 (hval 1 3 v1 rfl rfl) h1;have k2:=h2;have lt2:∀ x ∈ p2,x.block < W.heap.size:=by obtain ⟨m,hm⟩:=k2; exact DataW.trod_lt m _ _ _ hm
 obtain ⟨z2,rfl,rfl,rfl,wz2⟩:=open_int Tryz.underlying5 (hval 2 5 v2 rfl rfl) h2;obtain ⟨nu2,hu2,rfl⟩:=J9d wz2;have hcall:Calls Tryz.prog 5 #[v0,.int .i64 z1,.int .u8 (nu2:Int)] W fun e W'=>e=.returned (.bool true) /\ Ext W W':=by
  have hz1:z1 < 2 ^ 63:=by have h:=wz1; unfold Lit.wf at h; rw [Bool.and_eq_true,decide_eq_true_eq,decide_eq_true_eq] at h; have h2:IntKind.max .i64=9223372036854775807:=(by decide); rw [h2] at h; omega
  exact J4a _ _ _ _ _ HI0 hz1 hu2 (Z5z hL)
 clear hA0 hval0 hsz0;refine hcall.mono fun e W' ⟨he,bel⟩=>?_;subst he;exact ⟨_,rfl,_,_,_,[],_,[],hW',trodAll_mk1 (shut_bool Tryz.underlying4 _),(trodAll_cons_mk (Below.trod laidOut (by kernel_rfl) (of_decide_eq_true (by kernel_rfl)) k0 bel lt0) (trodAll_cons_mk (shut_int Tryz.underlying3 wz1) (trodAll_cons_mk (shut_int Tryz.underlying5 wz2) trodAll_mk0))),rfl,bel.frame _,fun h=>by cases h⟩
theorem J2r:Tryz.pinned.checked.prog.funcNamed Rows.policyFinerRow.func=some 5:=by kernel_rfl
theorem J2z:Tryz.f5.isInstance Tryz.pinned.checked.prog Rows.policyFinerRow.origin Rows.policyFinerRow.targs:=of_decide_eq_true (by kernel_rfl)
theorem J5i:(Rows.policyFinerRow.wf (OpenSpec.ofChange Rows.policyFinerSpec):Bool)=true:=by kernel_rfl
theorem J5g:(Tryz.f5.params.all (Tryz.prog.readableRec ·):Bool)=true:=by kernel_rfl
theorem J5j:(namedTie Tryz.prog Rows.policyFinerRow.named Rows.policyFinerSpec.vars:Bool)=true:=by kernel_rfl
theorem J5e:((Rows.policyFinerRow.stops == []):Bool)=true:=by kernel_rfl
theorem J5f:((Rows.policyFinerRow.knobs == []):Bool)=true:=by kernel_rfl
theorem J5h:((Rows.policyFinerRow.inPlace == Tryz.prog.inPlace 5):Bool)=true:=by kernel_rfl
theorem J4s:((Rows.policyFinerRow.unfollowed == Tryz.prog.unfollowed 5):Bool)=true:=by kernel_rfl
theorem J4r:((Rows.policyFinerRow.recurses == Tryz.prog.recurses 5):Bool)=true:=by kernel_rfl
theorem J4z:((Rows.policyFinerRow.named == Tryz.prog.varsNamed 5):Bool)=true:=by kernel_rfl
theorem J3z:((Rows.policyFinerRow.maps == (Tryz.f5.params.toList ++ Rows.policyFinerSpec.plain.varTypes Tryz.prog).any (Tryz.prog.mapsRec ·)):Bool)=true:=by kernel_rfl
theorem J4v:((Rows.policyFinerRow.ifaces == (Tryz.f5.params.toList ++ Rows.policyFinerSpec.plain.varTypes Tryz.prog).any (Tryz.prog.ifacesRec ·)):Bool)=true:=by kernel_rfl
theorem J4d:((Rows.policyFinerRow.mapsOut == Tryz.prog.mapsAmong Tryz.f5.resultTypes.toList):Bool)=true:=by kernel_rfl
theorem J4h:((Rows.policyFinerRow.loops == (Tryz.f5.params.toList ++ Rows.policyFinerSpec.plain.varTypes Tryz.prog).any (Tryz.prog.loopsFrom ·)):Bool)=true:=by kernel_rfl
theorem J5b:((Rows.policyFinerRow.wideKeys == (Tryz.f5.params.toList ++ Rows.policyFinerSpec.plain.varTypes Tryz.prog ++ Tryz.f5.resultTypes.toList).any (Tryz.prog.wideKeysFrom ·)):Bool)=true:=by kernel_rfl
theorem J4w:(Rows.policyFinerSpec.vars.all (Tryz.prog.varReadable ·):Bool)=true:=by kernel_rfl
theorem J4y:(Tryz.f5.resultTypes.all (fun t=>Tryz.prog.readableRec t && decide (t < Tryz.prog.types.size)):Bool)=true:=by kernel_rfl
theorem J5c:((Rows.policyFinerRow.ifacesOut == Tryz.f5.resultTypes.toList.any (Tryz.prog.ifacesRec ·)):Bool)=true:=by kernel_rfl
theorem J4j:((Rows.policyFinerRow.loopsOut == Tryz.f5.resultTypes.toList.any (Tryz.prog.loopsFrom ·)):Bool)=true:=by kernel_rfl
theorem J4n:((Rows.policyFinerRow.plainKeys == Tryz.prog.plainKeys):Bool)=true:=by kernel_rfl
theorem J4x:(Rows.policyFinerRow.shortTexts.isNone:Bool)=true:=by kernel_rfl
theorem J4p:((Rows.policyFinerRow.lifted == Tryz.prog.liftsFinal):Bool)=true:=by kernel_rfl
theorem J4l:((Tryz.prog.make == some Rows.policyFinerRow.make):Bool)=true:=by kernel_rfl
theorem J3y:(Rows.policyFinerRow.domain.isEmpty && (Rows.policyFinerRow.kinds == []):Bool)=true:=by kernel_rfl
theorem J4f:((Rows.policyFinerRow.pinned == Rows.policyFinerRow.pinnedBy):Bool)=true:=by kernel_rfl
theorem J4q:((Rows.policyFinerRow.veiled == (Tryz.f5.params.toList ++ Rows.policyFinerSpec.plain.varTypes Tryz.prog ++ Tryz.f5.resultTypes.toList).any (Tryz.prog.veiledRec ·)):Bool)=true:=by kernel_rfl
theorem J3v:(Rows.policyFinerRow.veiledFits Tryz.prog Tryz.f5.params.toList (Tryz.f5.params.toList ++ Rows.policyFinerSpec.plain.varTypes Tryz.prog ++ Tryz.f5.resultTypes.toList):Bool)=true:=by kernel_rfl
theorem J3g:joinedFacts Tryz.pinned.checked.prog 5 Tryz.f5 Rows.policyFinerSpec Rows.policyFinerRow=true :=
 J0j Tryz.prog 5 Tryz.f5 Rows.policyFinerSpec Rows.policyFinerRow J5i J1t J1k J5g J5j J5e J1e J5f J1c J5h J4s J4r J4z J3z J4v J4d J4h J5b J4w J4y J5c J4j J4n J4x J0v J0x J4p J4l J3y J4f J4q J3v
theorem J3n:Rows.PolicyFinerSaid :=
 OpenClaim.holds_of_wide 5 Tryz.f5 rfl rfl rfl rfl rfl rfl rfl ⟨rfl,rfl,rfl,rfl,rfl⟩ rfl rfl rfl rfl rfl J2r Tryz.func5 J3g
  J2z (by unfold Func.isWrapper; first | (rw [if_pos (by decide +kernel)]; kernel_rfl) | (rw [if_neg (by decide +kernel)]; exact ⟨rfl,rfl⟩))
  (fun os started H enc _=>J3f os started H enc)
theorem J3d:Rows.policyFinerRow.wfByText (OpenSpec.ofChange Rows.policyFinerSpec)=true:=by kernel_rfl
theorem J3t:Tryz.pinned.checked.prog.mainIs=some (Rows.policyFinerCard.stood.harness.1,Rows.policyFinerCard.stood.harness.2.toList):=by kernel_rfl
theorem J3m:Rows.policyFinerCard.stood.looks=Tryz.pinned.checked.prog.looks []:=by kernel_rfl
theorem J3u:false=Rows.policyFinerRow.goesBy Tryz.pinned.checked.prog:=by kernel_rfl
theorem J3c:([25,3,5].all fun u=>!Tryz.prog.wantsStandIn u)=true:=by kernel_rfl
theorem policyFiner_card:Rows.PolicyFinerCardSaid :=
 Claim7.holds_tied_plain_at .later [] [.data,.data,.data,.widerDeep] true _ false J3n (fun _ h=>by cases h) J3d (fun _ h=>by cases h) policyFiner_row_tie rfl ⟨rfl,rfl⟩ J3t rfl
  (fun f fn hf hfn=>by
   obtain rfl:f=5:=Option.some.inj (J2r.symm.trans hf) |>.symm
   obtain rfl:fn=Tryz.f5:=(Option.some.inj (Tryz.func5.symm.trans hfn)).symm;exact ⟨J3m,fun j t ht=>by
    have ht:#[25,3,5][j]?=some t:=Tryz.params5 ▸ ht;have hm:t ∈ [25,3,5]:=by simpa using Array.mem_of_getElem? ht
    exact (show Tryz.prog.wantsStandIn t=false by simpa using List.all_eq_true.1 J3c t hm)⟩)
  J3u
#print axioms policyFiner_card
end Go.Proofs.YthnobngcipaljaaGreatDoor
