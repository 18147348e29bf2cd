/- The law PolicyTexts: from its third region on. The law PolicyTexts. The law PolicyTexts: for every input the call returns true, and each argument reads afterwards as before: the row's statement, and its tied card. The listed tables of math/bits, strconv, unicode/utf8 and policy are as the program's text lays them. -/
import Derived.Test.YthnobngcipaljaaGreatDoorPp35
import Derived.Test.YthnobngcipaljaaGreatDoorPx05
import Derived.Test.YthnobngcipaljaaGreatDoorPx01
import Derived.Test.YthnobngcipaljaaGreatDoorPx03
set_option maxRecDepth 1000000
set_option maxHeartbeats 64000000
set_option linter.unusedVariables false
set_option linter.unusedSimpArgs false
set_option linter.constructorNameAsVariable false
open Go.Lib (hid)
namespace Go.Proofs
open Go.RowKit Go.Tw Go.Flow
attribute [local go_sem] Oper.semAt_some
theorem J7l (p:List Rul):Value.bool (X5t p p)=.bool true:=by unfold X5t; simp
theorem J6f {p:List Rul} (h:Q6h p=0):Y7y p=Z6l p:=by unfold Y7y; rw [if_pos h]
theorem J6u {p:List Rul} (h:¬ Q6h p=0):Y7y p=emp:=by unfold Y7y; rw [if_neg h]
theorem Z5a (s:ByteArray):(s.toList == s.toList)=true:=by simp
theorem J8u {F:Array Value} (h:F.size=80):∃ u:Nat -> Value,F=#[u 0,u 1,u 2,u 3,u 4,u 5,u 6,u 7,u 8,u 9,u 10,u 11,u 12,u 13,u 14,u 15,u 16,u 17,u 18,u 19,u 20,u 21,u 22,u 23,u 24,u 25,u 26,u 27,u 28,u 29,u 30,u 31,u 32,u 33,u 34,u 35,u 36,u 37,u 38,u 39,u 40,u 41,u 42,u 43,u 44,u 45,u 46,u 47,u 48,u 49,u 50,u 51,u 52,u 53,u 54,u 55,u 56,u 57,u 58,u 59,u 60,u 61,u 62,u 63,u 64,u 65,u 66,u 67,u 68,u 69,u 70,u 71,u 72,u 73,u 74,u 75,u 76,u 77,u 78,u 79]:=by
 refine ⟨fun i=>F.getD i undef,?_⟩;have e:F=((List.range 80).map fun i=>F.getD i undef).toArray:=by
  apply Array.ext
  . simp [h]
  . intro i h1 h2
    simp [h1]
 exact e.trans (by kernel_rfl)
theorem J3m:∀ (ls:List (List UInt8)) (p:List Rul) (k:Nat),(J2k p k ls).1.length <= p.length + (ls.length - 1)
 | [],p,k=>by simp [J2k]
 | [x],p,k=>by
   unfold J2k
   split
   . split <;> simp
   . simp
 | x :: y :: r,p,k=>by
   unfold J2k;cases hx:J2m (parts 32 x) with
   | none=>simp
   | some q =>
     have:=J3m (y :: r) (p ++ [q]) (k + 1);simp only [List.length_append,List.length_cons,List.length_nil] at this ⊢;omega
theorem J7b (s:ByteArray):(J2o s).1.length <= 4096:=by
 unfold J2o
 split
 . simp
 . have h:=J3m (parts 10 (dat s)) [] 0
   have h2:=J3k 10 (dat s);rw [J2x] at h2;have e:(J2k [] 0 (parts 10 (dat s))).1.length=(J2k [] 0 (parts 10 s.data.toList)).1.length:=rfl;simp only [List.length_nil] at h;omega
theorem J8o {w z0:World} {p:List Rul} {s:ByteArray} {R:Option Addr} {NR capr gs:Nat} (HXA:Hid (Ext w z0)) (HWD:Hid (Words z0)) (HMX:Hid (J8d z0)) (HR:Hid (Q3m z0 (.slice R NR capr) p)) (KQ:Hid (Blk z0 gs 47 #[.slice R NR capr])) (HPOL:Hid (∀ W,Q3m W (.slice R NR capr) p -> Q0w W (.agg #[.slice R NR capr]) p)) (HP2:Hid (p.length <= 4096)) (HP8:Hid (∀ k,k < p.length -> (Q0n p k).length <= 4096)) (HS5:Hid (s.size <= 5000))
    (F:Array Value) (hF:F.size=80) (f1:F[1]?=some (.string s)) (f2:F[2]?=some (.pointer (some ⟨gs,0,none⟩))) :
    (codeFrom Tryz.f13 3).wp Tryz.prog (bodyPost Tryz.prog Tryz.f13 (fun e w'=>e=.returned (.bool true) /\ Ext w w')) ⟨F,[]⟩ z0:=by
 obtain ⟨u,rfl⟩:=J8u hF;replace f1:u 1=_:=Option.some.inj f1;replace f2:u 2=_:=Option.some.inj f2;rw [f1,f2];clear hF f1 f2
 conv=>arg 2; whnf
 have HPC:Hid (∀ r ∈ p,r.classes.length <= 4096):=hid (fun r hr=>by obtain ⟨k,hk,rfl⟩:=List.getElem_of_mem hr; have:=HP8.out k hk; unfold Q0n at this; rwa [Q0v _ hk] at this)
 have d0KQ:=KQ.out.cell 0;simp only [Go.Tw.gA,Go.Tw.gB] at d0KQ;go_wp2_with fail;refine (J1w _ _ p (HPOL.out _ HR.out) HP2.out HP8.out).mono ?_;rintro e z1 ⟨uo,rfl,hu,hx⟩;have hxx:Ext z0 z1:=hx;replace HXA:=hid (HXA.out.trans hxx);replace HWD:=hid (HWD.out.ext hxx);replace HMX:=hid (HMX.out.ext hxx);replace HR:=hid (HR.out.ext hxx);replace KQ:=hid (KQ.out.ext hxx);have FO:=hid (hu);clear hx hxx d0KQ;clear hu;go_wp2_with fail;refine (Y8r _ _ p FO.out HPC.out HWD.out).mono ?_;rintro e z2 ⟨rfl,hx⟩;have hxx:Ext z1 z2:=hx;replace HXA:=hid (HXA.out.trans hxx);replace HWD:=hid (HWD.out.ext hxx);replace HMX:=hid (HMX.out.ext hxx);replace HR:=hid (HR.out.ext hxx);replace KQ:=hid (KQ.out.ext hxx);replace FO:=hid (FO.out.ext hxx);clear hx hxx;obtain ⟨TX,hTX⟩:∃ z,Y7y p=z:=⟨_,rfl⟩;obtain ⟨E,hE⟩:∃ z,Q6h p=z:=⟨_,rfl⟩;rw [hTX,hE];have HTX:=hid hTX;have HE:=hid hE;clear hTX hE;obtain ⟨AT,hAT⟩:∃ z,(J2o s).2.1=z:=⟨_,rfl⟩;obtain ⟨E2,hE2⟩:∃ z,(J2o s).2.2=z:=⟨_,rfl⟩;obtain ⟨PR,hPR⟩:∃ z,(J2o s).1=z:=⟨_,rfl⟩;have HPE:Hid ((J2o s).2.1=AT /\ (J2o s).2.2=E2 /\ (J2o s).1=PR):=hid ⟨hAT,hE2,hPR⟩;clear hAT hE2 hPR;go_wp2_with fail;refine (J6p _ s HS5.out HMX.out HWD.out).mono ?_;rintro e z3 ⟨xp,rfl,hp,hx⟩;have hxx:Ext z2 z3:=hx;replace HXA:=hid (HXA.out.trans hxx);replace HWD:=hid (HWD.out.ext hxx);replace HMX:=hid (HMX.out.ext hxx);replace HR:=hid (HR.out.ext hxx);replace KQ:=hid (KQ.out.ext hxx);replace FO:=hid (FO.out.ext hxx);clear hx hxx;rw [HPE.out.1,HPE.out.2.1];rw [HPE.out.2.2] at hp;obtain ⟨ap,rfl,hrp⟩:=hp;obtain ⟨Xp,cp,rfl,-,-,-⟩:=hrp.opened;obtain ⟨NP,hNP⟩:∃ z,PR.length=z:=⟨_,rfl⟩;rw [hNP] at hrp ⊢;have FP:=hid hrp;have HNP:=hid hNP;clear hrp hNP;have hbx:=Ext.box z3 (.cells #[.slice Xp NP cp] 38);have d0KQ:=(KQ.out.ext hbx).cell 0;simp only [Go.Tw.gA,Go.Tw.gB] at d0KQ;go_wp2_with fail;change Calls _ _ _ (z3.alloc (.cells #[.slice Xp NP cp] 38)) _;obtain ⟨W,hWW,k0,HXW,eW⟩:=Q1t z3 38 #[.slice Xp NP cp];rw [hWW];clear hWW;refine (J3a _ _ p (HPOL.out _ (HR.out.ext HXW.out))).mono ?_;rintro e z4 ⟨rfl,hx⟩;have hxx:Ext z3 z4:=HXW.out.trans hx;replace HXA:=hid (HXA.out.trans hxx);replace HWD:=hid (HWD.out.ext hxx);replace HMX:=hid (HMX.out.ext hxx);replace HR:=hid (HR.out.ext hxx);replace KQ:=hid (KQ.out.ext hxx);replace FO:=hid (FO.out.ext hxx);replace FP:=hid (FP.out.ext hxx);have KX:=hid (k0.ext hx);clear hx hxx HXW eW k0 hbx d0KQ;obtain ⟨gx,hgx⟩:∃ z,z3.heap.size=z:=⟨_,rfl⟩;rw [hgx] at KX ⊢;clear hgx;rw [HE.out];go_upto_if 44 with fail
 go_cut [11] (fun x wx=>x=.string TX /\ Ext z4 wx)
 case first =>
  by_cases hE0:E=0
  . skip
    have hEb:(E == 0)=true:=by simp [hE0]
    have HE0:=hid (HE.out.trans hE0);clear hE0;have d0KQ:=KQ.out.cell 0;simp only [Go.Tw.gA,Go.Tw.gB] at d0KQ;go_wp2_with fail;refine (J7c _ _ p (HPOL.out _ HR.out) HE0.out).mono ?_;rintro e z5 ⟨rfl,hx⟩;have hxx:Ext z4 z5:=hx;have HXC:=hid hxx;replace HXA:=hid (HXA.out.trans hxx);replace HWD:=hid (HWD.out.ext hxx);replace HMX:=hid (HMX.out.ext hxx);replace HR:=hid (HR.out.ext hxx);replace KQ:=hid (KQ.out.ext hxx);replace FO:=hid (FO.out.ext hxx);replace FP:=hid (FP.out.ext hxx);replace KX:=hid (KX.out.ext hxx);clear hx hxx d0KQ;have HTP:Hid (Z6l p=TX):=hid (by rw [<- HTX.out,J6f HE0.out])
    rw [HTP.out];go_wp2_with fail;go_meet;exact ⟨rfl,HXC.out⟩
  . skip
    have hEb:(E == 0)=false:=by simp [hE0]
    have HTP:Hid (TX=⟨#[]⟩):=hid (by rw [<- HTX.out,J6u (fun h=>hE0 (HE.out.symm.trans h))]; rfl)
    clear hE0;go_wp2_with fail;go_meet;exact ⟨by rw [HTP.out],Ext.refl _⟩
 case rest =>
  obtain ⟨rfl,hcut⟩:=hcut;replace HXA:=hid (HXA.out.trans hcut);replace HWD:=hid (HWD.out.ext hcut);replace HMX:=hid (HMX.out.ext hcut);replace HR:=hid (HR.out.ext hcut);replace KQ:=hid (KQ.out.ext hcut);replace FO:=hid (FO.out.ext hcut);replace FP:=hid (FP.out.ext hcut);replace KX:=hid (KX.out.ext hcut);obtain ⟨z5,rfl⟩:∃ X,X=wc:=⟨_,rfl⟩;clear hcut;go_wp2_with fail;refine (J7a _ s HS5.out).mono ?_;rintro e z6 ⟨xq,rfl,hq,hx⟩;have hxx:Ext z5 z6:=hx;replace HXA:=hid (HXA.out.trans hxx);replace HWD:=hid (HWD.out.ext hxx);replace HMX:=hid (HMX.out.ext hxx);replace HR:=hid (HR.out.ext hxx);replace KQ:=hid (KQ.out.ext hxx);replace FO:=hid (FO.out.ext hxx);replace FP:=hid (FP.out.ext hxx);replace KX:=hid (KX.out.ext hxx);clear hx hxx;rw [HPE.out.1,HPE.out.2.1];rw [HPE.out.2.2] at hq;obtain ⟨aq,rfl,hrq⟩:=hq;obtain ⟨Xq,cq,rfl,-,-,-⟩:=hrq.opened;rw [HNP.out] at hrq ⊢;have FQ:=hid hrq;clear hrq;have hxp:=Ext.box z6 (.cells #[.slice Xq NP cq] 47);have hbp:=Blk.made z6 47 #[.slice Xq NP cq];replace HXA:=hid (HXA.out.trans hxp);replace HWD:=hid (HWD.out.ext hxp);replace HMX:=hid (HMX.out.ext hxp);replace HR:=hid (HR.out.ext hxp);replace KQ:=hid (KQ.out.ext hxp);replace FO:=hid (FO.out.ext hxp);replace FP:=hid (FP.out.ext hxp);replace KX:=hid (KX.out.ext hxp);replace FQ:=hid (FQ.out.ext hxp);go_wp2_with fail;obtain ⟨gy,hgy⟩:∃ z,z6.heap.size=z:=⟨_,rfl⟩;obtain ⟨z7,hwt⟩:∃ Z,z6.alloc (.cells #[.slice Xq NP cq] 47)=Z:=⟨_,rfl⟩;rw [hwt,hgy] at hbp;rw [hwt] at HXA HWD HMX HR KQ FO FP KX FQ;rw [hwt,hgy];have KY:=hid hbp;clear hbp hwt hgy hxp;have hTT:=Z5a TX;have hEE:(E == E)=true:=by simp
  have hAA:(AT == AT)=true:=by simp
  have hE2:(E2 == E2)=true:=by simp
  have HPL4:Hid (PR.length <= 4096):=hid (by rw [<- HPE.out.2.2]; exact J7b s)
  have hdr:=(Ext.refl z7).drew;refine Flow.Q1o [.p,.p,.p,.p,.p,.p,.p,.p,.p,.w,.w,.w,.w,.p,.p,.p,.p,.p,.p,.p,.p,.p,.p,.p,.p,.w,.p,.p] [0,1,2,3,4,5,6,7,8,9,10,11,12,13,14,15,16,17,18,19,20,21,22,23,24,25,26,27] [[],[],[0,1],[2],[3],[3],[3,4,5],[3,6],[3,7],[8],[8,9],[8],[8,10,11],[8,12],[12,13],[14],[14],[14,15,16],[14,17],[14,18],[19],[19],[19,20,21],[19,22],[19,23],[24],[24,25],[0,1,2,3,4,5,6,7,8,9,10,11,12,13,14,15,16,17,18,19,20,21,22,23,24,25,26]]
   [.c 0 (.string TX),.c 1 (.string TX),.c 2 (.bool true),.c 3 (.bool true),.c 4 (.int .i64 E),.c 5 (.int .i64 E),.c 6 (.bool true),.c 7 (.bool true),.c 8 (.bool true),.c 9 (.agg #[.slice Xp NP cp]),⟨fun v wz=>(fun v w'=>Q0w w' (v 10) PR) v wz,by intro v a b hx h; exact Q0w.ext h hx⟩,.c 11 (.agg #[.slice Xq NP cq]),.c 12 (.bool true),.c 13 (.bool true),.c 14 (.bool true),.c 15 (.int .i64 AT),.c 16 (.int .i64 AT),.c 17 (.bool true),.c 18 (.bool true),.c 19 (.bool true),.c 20 (.int .i64 E2),.c 21 (.int .i64 E2),.c 22 (.bool true),.c 23 (.bool true),.c 24 (.bool true),.c 25 (.bool true),.c 26 (.bool true),.c 27 (.bool true)]
   (by kernel_rfl) rfl (by kernel_rfl) ?owed ?post
  case owed =>
   refine ⟨?g0,?g1,?g2,?g3,?g4,?g5,?g6,?g7,?g8,?g9,?g10,?g11,?g12,?g13,?g14,?g15,?g16,?g17,?g18,?g19,?g20,?g21,?g22,?g23,?g24,?g25,?g26,?g27,trivial⟩
   case g0 | g1=>
    intro v w1 hx;intro bb hbb;subst hbb;refine ⟨_,fun w=>?_,rfl⟩;go_simp
   case g2 | g3 | g7 | g8 | g13 | g14 | g18 | g19 | g23 | g24 | g26=>
    intro v w1 hx;(repeat intro (zq:v _=_));intro bb hbb;subst hbb;refine ⟨_,fun w=>?_,rfl⟩;go_simp
   case g4 | g5 | g6=>
    intro v w1 hx;(repeat intro (zq:v _=_));intro bb hbb;refine Flow.Q0l (d:=56) rfl rfl (by rw [hbb]; simp only [size_put]; exact (by decide:56 < 80)) (by rw [hbb]; dsimp only; (try simp (discharger:=decide) only [eval_put_ne]); rw [Q0a (by simp only [size_put]; exact (by decide:56 < 80))]; assumption) ?_
    subst hbb;refine ⟨_,fun w=>?_,rfl⟩;go_simp
   case g9=>
    intro v w1 hx;(repeat intro (zq:v _=_));intro bb hbb;refine Flow.Q0l (d:=61) rfl rfl (by rw [hbb]; simp only [size_put]; exact (by decide:61 < 80)) (by rw [hbb]; dsimp only; (try simp (discharger:=decide) only [eval_put_ne]); rw [Q0a (by simp only [size_put]; exact (by decide:61 < 80))]; assumption) ?_
    intro K2 hK2;have o1:bb.eval (.tmp 7)=.pointer (some ⟨gx,0,none⟩):=by rw [hbb]; dsimp only; (try simp (discharger:=decide) only [eval_put_ne]); rfl
    exact Q0p (.tmp 7) _ rfl Tryz.Q8b Tryz.Q4b o1 (KX.out.ext (hdr.trans hx)) rfl (hK2 _ _ (Ext.refl _) rfl)
   case g10=>
    intro v w1 hx;(repeat intro (zq:v _=_));intro bb hbb;refine Flow.Q0l (d:=61) rfl rfl (by rw [hbb]; simp only [size_put]; exact (by decide:61 < 80)) (by rw [hbb]; dsimp only; (try simp (discharger:=decide) only [eval_put_ne]); rw [Q0a (by simp only [size_put]; exact (by decide:61 < 80))]; assumption) ?_
    subst hbb;intro K2 hK2;go_simp;refine Q0e (Y7d w1 _ PR ⟨_,rfl,FP.out.ext (hdr.trans hx)⟩ HPL4.out) ?_;rintro e w2 ⟨u,rfl,hu,hx2⟩;exact ⟨_,rfl,hK2 _ _ hx2 hu⟩
   case g11=>
    intro v w1 hx;(repeat intro (zq:v _=_));intro bb hbb;refine Flow.Q0l (d:=61) rfl rfl (by rw [hbb]; simp only [size_put]; exact (by decide:61 < 80)) (by rw [hbb]; dsimp only; (try simp (discharger:=decide) only [eval_put_ne]); rw [Q0a (by simp only [size_put]; exact (by decide:61 < 80))]; assumption) ?_
    intro K2 hK2;have o1:bb.eval (.tmp 12)=.pointer (some ⟨gy,0,none⟩):=by rw [hbb]; dsimp only; (try simp (discharger:=decide) only [eval_put_ne]); rfl
    exact Q0p (.tmp 12) _ rfl Tryz.Z9i Tryz.Z7k o1 (KY.out.ext (hdr.trans hx)) rfl (hK2 _ _ (Ext.refl _) rfl)
   case g12=>
    intro v w1 hx (q8:v 8=_) (q10:(fun v w'=>Q0w w' (v 10) PR) v w1) (q11:v 11=_);intro bb hbb;refine Flow.Q0l (d:=61) rfl rfl (by rw [hbb]; simp only [size_put]; exact (by decide:61 < 80)) (by rw [hbb]; dsimp only; (try simp (discharger:=decide) only [eval_put_ne]); rw [Q0a (by simp only [size_put]; exact (by decide:61 < 80))]; exact q8) ?_
    subst hbb;intro K2 hK2;go_simp;refine Q0e (X7h w1 _ _ _ _ q10 ⟨_,rfl,FQ.out.ext (hdr.trans hx)⟩) ?_;rintro e w2 ⟨rfl,hx2⟩;exact ⟨_,rfl,hK2 _ _ hx2 (J7l _)⟩
   case g15 | g16 | g17=>
    intro v w1 hx;(repeat intro (zq:v _=_));intro bb hbb;refine Flow.Q0l (d:=67) rfl rfl (by rw [hbb]; simp only [size_put]; exact (by decide:67 < 80)) (by rw [hbb]; dsimp only; (try simp (discharger:=decide) only [eval_put_ne]); rw [Q0a (by simp only [size_put]; exact (by decide:67 < 80))]; assumption) ?_
    subst hbb;refine ⟨_,fun w=>?_,rfl⟩;go_simp
   case g20 | g21 | g22=>
    intro v w1 hx;(repeat intro (zq:v _=_));intro bb hbb;refine Flow.Q0l (d:=72) rfl rfl (by rw [hbb]; simp only [size_put]; exact (by decide:72 < 80)) (by rw [hbb]; dsimp only; (try simp (discharger:=decide) only [eval_put_ne]); rw [Q0a (by simp only [size_put]; exact (by decide:72 < 80))]; assumption) ?_
    subst hbb;refine ⟨_,fun w=>?_,rfl⟩;go_simp
   case g25=>
    intro v w1 hx;(repeat intro (zq:v _=_));intro bb hbb;refine Flow.Q0l (d:=77) rfl rfl (by rw [hbb]; simp only [size_put]; exact (by decide:77 < 80)) (by rw [hbb]; dsimp only; (try simp (discharger:=decide) only [eval_put_ne]); rw [Q0a (by simp only [size_put]; exact (by decide:77 < 80))]; assumption) ?_
    subst hbb;intro K hK;go_simp;refine Q0e (J0d w1 (HWD.out.ext (hdr.trans hx))) ?_;rintro e w2 ⟨rfl,hx2⟩;exact ⟨_,rfl,hK _ _ hx2 rfl⟩
   case g27=>
    intro v w1 hx (q0:v 0=_) (q1:v 1=_) (q2:v 2=_) (q3:v 3=_) (q4:v 4=_) (q5:v 5=_) (q6:v 6=_) (q7:v 7=_) (q8:v 8=_) (q9:v 9=_) _ (q11:v 11=_) (q12:v 12=_) (q13:v 13=_) (q14:v 14=_) (q15:v 15=_) (q16:v 16=_) (q17:v 17=_) (q18:v 18=_) (q19:v 19=_) (q20:v 20=_) (q21:v 21=_) (q22:v 22=_) (q23:v 23=_) (q24:v 24=_) (q25:v 25=_) (q26:v 26=_);intro bb hbb;subst hbb;refine ⟨_,fun w=>?_,rfl⟩;go_simp
  case post =>
   intro v w1 hx;(iterate 10 intro (zq:v _=_));intro (q10:(fun v w'=>Q0w w' (v 10) PR) v w1);(iterate 17 intro (zq:v _=_));simp only [Flow.All,Flow.acts,Act.put];go_simp;have hxz:=HXA.out.trans (hdr.trans hx);clear hx hdr q10;(repeat clear zq);go_wp2;go_ret;exact ⟨rfl,hxz⟩
end Go.Proofs
namespace Go.Proofs
open Go.RowKit Go.Tw Go.Flow
attribute [local go_sem] Oper.semAt_some
theorem J4e (w:World) (u:Value) (p:List Rul) (s:ByteArray) (hu:Q0w w u p) (hmx:J8d w) (hW:Words w) :
    Calls Tryz.prog 13 #[u,.string s] w fun e w'=>e=.returned (.bool true) /\ Ext w w':=by
 obtain ⟨rv,rfl,hr⟩:=hu;obtain ⟨R,capr,rfl,-,-,-⟩:=hr.opened;have HXA:=hid (Ext.refl w);have HWD:=hid hW;have HR:=hid hr;obtain ⟨NR,hNR⟩:∃ k,p.length=k:=⟨_,rfl⟩;have HNR:=hid hNR;have HPOL:Hid (∀ W,Q3m W (.slice R NR capr) p -> Q0w W (.agg #[.slice R NR capr]) p):=hid (fun W h=>⟨_,rfl,h⟩);rw [hNR] at HR;rw [hNR];clear hW hr hNR;go_enter Tryz.func13,Tryz.ntmps13;have HMX:=hid hmx;clear hmx;go_wp2_with fail;change Calls _ _ _ (w.alloc (.cells #[.slice R NR capr] 47)) _;obtain ⟨W,hWW,k0,HXW,eW⟩:=Q1t w 47 #[.slice R NR capr];rw [hWW];clear hWW;refine (Z0v _ _ p (HPOL.out _ (HR.out.ext HXW.out))).mono ?_;rintro e z1 ⟨q,rfl,hq,hx⟩;have hxx:Ext w z1:=HXW.out.trans hx;replace HXA:=hid (HXA.out.trans hxx);replace HWD:=hid (HWD.out.ext hxx);replace HMX:=hid (HMX.out.ext hxx);replace HR:=hid (HR.out.ext hxx);have KQ:=hid (k0.ext hx);clear hx hxx HXW eW k0;obtain ⟨gs,hgs⟩:∃ z,w.heap.size=z:=⟨_,rfl⟩;rw [hgs] at KQ ⊢;clear hgs;cases q with
 | false =>
   clear hq;go_wp2_with fail;refine (J0d _ HWD.out).mono ?_;rintro e z2 ⟨rfl,hx⟩;have hxx:Ext z1 z2:=hx;replace HXA:=hid (HXA.out.trans hxx);replace HWD:=hid (HWD.out.ext hxx);replace HMX:=hid (HMX.out.ext hxx);replace HR:=hid (HR.out.ext hxx);replace KQ:=hid (KQ.out.ext hxx);clear hx hxx;go_wp2;go_ret;exact ⟨rfl,HXA.out⟩
 | true =>
   have hs:Y7c p:=hq.1 rfl;have HSP:=hid hs;clear hs hq;have HP2:Hid (p.length <= 4096):=hid (by have:=HSP.out.rules; omega)
   have HP8:Hid (∀ k,k < p.length -> (Q0n p k).length <= 4096):=hid (fun k hk=>by have:=HSP.out.each k hk; omega)
   by_cases h3:300 < s.size
   . have h3I:(300:Int) < (s.size:Int):=by omega
     by_cases h4:s.size=4097
     . have h4I:((s.size:Int) != 4097)=false:=by simp [h4]
       have HS5:Hid (s.size <= 5000):=hid (by omega)
       go_upto_if 27 with fail
       repeat (first | exact J8o HXA HWD HMX HR KQ HPOL HP2 HP8 HS5 _ rfl rfl rfl | go_step)
     . have h4I:((s.size:Int) != 4097)=true:=by simp; omega
       go_wp2_with fail;refine (J0d _ HWD.out).mono ?_;rintro e z2 ⟨rfl,hx⟩;have hxx:Ext z1 z2:=hx;replace HXA:=hid (HXA.out.trans hxx);replace HWD:=hid (HWD.out.ext hxx);replace HMX:=hid (HMX.out.ext hxx);replace HR:=hid (HR.out.ext hxx);replace KQ:=hid (KQ.out.ext hxx);clear hx hxx;go_wp2;go_ret;exact ⟨rfl,HXA.out⟩
   . have h3I:¬ (300:Int) < (s.size:Int):=by omega
     have HS5:Hid (s.size <= 5000):=hid (by omega)
     go_upto_if 27 with fail
     repeat (first | exact J8o HXA HWD HMX HR KQ HPOL HP2 HP8 HS5 _ rfl rfl rfl | go_step)
end Go.Proofs
namespace Go.Proofs.YthnobngcipaljaaGreatDoor
open Go.ChangeShapes Go.WideShapes Go.ChangeAt Go.RowKit Go.Tw
theorem J3i (os:Os) (started:os.Started) (H:Type) (enc:TypeId × Value -> H) :
    ReturnsInHanded {} Tryz.checked os 13 .any (fun w args=>(Rows.policyTextsSpec.pre enc Tryz.prog Tryz.f13 Rows.policyTextsRow.domain false w args /\ laidMetH Tryz.prog J6t w) /\ sizedMet enc Tryz.prog Tryz.f13 (OpenSpec.ofChange Rows.policyTextsSpec) false w args)
     (Rows.policyTextsSpec.post enc Tryz.prog Tryz.f13 false true false false):=by
 refine J8x (C:=Tryz.checked) (X:=fun w _=>laidMetH Tryz.prog J6t w) (fun _ _ _ hh h=>h.of_heap hh) own started (by kernel_rfl) Tryz.func13
  (ChangeSpec.witness_shaped (enc:=enc) (C:=Tryz.checked) (os:=os) (X:=fun w _=>laidMetH Tryz.prog J6t w) false (World.laidAll Tryz.prog os J6t) #[.agg #[.slice none 0 0],.string ⟨#[]⟩] 8 (World.laidAll_os _ _ _)
   (World.shaped_of_ZipB (by kernel_rfl) (by kernel_rfl)) (by kernel_rfl) (by kernel_rfl) (by kernel_rfl)
   (by rw [MakeChecks.laidMetH_plain _ _ _ (by kernel_rfl)]; exact laidMet_laidAll _ (by kernel_rfl) (by kernel_rfl))) ?_
 intro W base args ds gs before hval0 hW hc hsz0 hL hSh _;have hmx:=J5u hSh;have hval:∀ (j:Nat) t v,Tryz.f13.params[j]?=some t -> args[j]?=some v -> Value.okWide Tryz.prog W .any base t v:=hval0;have hsz:(DataW.weightsEach Tryz.prog (Tryz.f13.params.toList ++ Rows.policyTextsSpec.plain.varTypes Tryz.prog) (ds ++ gs)).all (· <= reachBytes)=true:=hsz0;have hW':=hW;obtain ⟨p,q,hA0,hV,rfl,hfz,hnd⟩:=hW;have hA:DataW.TrodAll enc Tryz.prog W 0 (fun _=>true) true Tryz.f13.params.toList args.toList ds p:=hA0;rw [Tryz.params13] at hA hval hsz;obtain ⟨v0,vs0,d0,ds0,p0,q0,hargs,rfl,rfl,h0,r0⟩:=trodAll_cons hA;obtain ⟨v1,vs1,d1,ds1,p1,q1,rfl,rfl,rfl,h1,r1⟩:=trodAll_cons r0;obtain ⟨rfl,rfl,rfl⟩:=trodAll_nil r1;obtain rfl:args=#[v0,v1]:=by cases args; simp_all
 obtain ⟨rfl,rfl⟩:=trodVars_none hV;have hfit:∀ x ∈ DataW.weightsEach Tryz.prog [47,9] [d0,d1],x <= 140737488351232:=fun x hx=>by
  have:=List.all_eq_true.1 (show (DataW.weightsEach Tryz.prog [47,9] [d0,d1]).all (· <= reachBytes)=true from hsz) x hx
  exact Nat.le_trans (of_decide_eq_true this) (by decide)
 obtain ⟨f0,g0⟩:=Q4u hfit;obtain ⟨f1,g1⟩:=Q4u g0;have k0:=h0;have lt0:∀ x ∈ p0,x.block < W.heap.size:=by obtain ⟨m,hm⟩:=k0; exact DataW.trod_lt m _ _ _ hm
 obtain ⟨t0,HI0⟩:=J5a (hval 0 47 v0 rfl rfl) h0 f0;have k1:=h1;have lt1:∀ x ∈ p1,x.block < W.heap.size:=by obtain ⟨m,hm⟩:=k1; exact DataW.trod_lt m _ _ _ hm
 obtain ⟨s1,rfl⟩:=okWide_string Tryz.underlying9 (hval 1 9 v1 rfl rfl);have hcall:Calls Tryz.prog 13 #[v0,.string s1] W fun e W'=>e=.returned (.bool true) /\ Ext W W':=J4e _ _ _ _ HI0 hmx (J5f hL);clear hA0 hval0 hsz0;refine hcall.mono fun e W' ⟨he,bel⟩=>?_;subst he;exact ⟨_,rfl,_,_,_,[],_,[],hW',trodAll_mk1 (shut_bool Tryz.underlying4 _),(trodAll_cons_mk (Below.trod laidOut (by kernel_rfl) (of_decide_eq_true (by kernel_rfl)) k0 bel lt0) (trodAll_cons_mk (Below.trod laidOut (by kernel_rfl) (of_decide_eq_true (by kernel_rfl)) k1 bel lt1) trodAll_mk0)),rfl,bel.frame _,fun h=>by cases h⟩
theorem J2v:Tryz.pinned.checked.prog.funcNamed Rows.policyTextsRow.func=some 13:=by kernel_rfl
theorem J3c:Tryz.f13.isInstance Tryz.pinned.checked.prog Rows.policyTextsRow.origin Rows.policyTextsRow.targs:=of_decide_eq_true (by kernel_rfl)
theorem J4z:(Rows.policyTextsRow.wf (OpenSpec.ofChange Rows.policyTextsSpec):Bool)=true:=by kernel_rfl
theorem J5c:(Tryz.f13.params.all (Tryz.prog.readableRec ·):Bool)=true:=by kernel_rfl
theorem J5d:(namedTie Tryz.prog Rows.policyTextsRow.named Rows.policyTextsSpec.vars:Bool)=true:=by kernel_rfl
theorem J5b:((Rows.policyTextsRow.stops == []):Bool)=true:=by kernel_rfl
theorem J5e:((Rows.policyTextsRow.knobs == []):Bool)=true:=by kernel_rfl
theorem J4y:((Rows.policyTextsRow.inPlace == Tryz.prog.inPlace 13):Bool)=true:=by kernel_rfl
theorem J4f:((Rows.policyTextsRow.unfollowed == Tryz.prog.unfollowed 13):Bool)=true:=by kernel_rfl
theorem J4h:((Rows.policyTextsRow.recurses == Tryz.prog.recurses 13):Bool)=true:=by kernel_rfl
theorem J4c:((Rows.policyTextsRow.named == Tryz.prog.varsNamed 13):Bool)=true:=by kernel_rfl
theorem J4l:((Rows.policyTextsRow.maps == (Tryz.f13.params.toList ++ Rows.policyTextsSpec.plain.varTypes Tryz.prog).any (Tryz.prog.mapsRec ·)):Bool)=true:=by kernel_rfl
theorem J3y:((Rows.policyTextsRow.ifaces == (Tryz.f13.params.toList ++ Rows.policyTextsSpec.plain.varTypes Tryz.prog).any (Tryz.prog.ifacesRec ·)):Bool)=true:=by kernel_rfl
theorem J4q:((Rows.policyTextsRow.mapsOut == Tryz.prog.mapsAmong Tryz.f13.resultTypes.toList):Bool)=true:=by kernel_rfl
theorem J4g:((Rows.policyTextsRow.loops == (Tryz.f13.params.toList ++ Rows.policyTextsSpec.plain.varTypes Tryz.prog).any (Tryz.prog.loopsFrom ·)):Bool)=true:=by kernel_rfl
theorem J4u:((Rows.policyTextsRow.wideKeys == (Tryz.f13.params.toList ++ Rows.policyTextsSpec.plain.varTypes Tryz.prog ++ Tryz.f13.resultTypes.toList).any (Tryz.prog.wideKeysFrom ·)):Bool)=true:=by kernel_rfl
theorem J4m:(Rows.policyTextsSpec.vars.all (Tryz.prog.varReadable ·):Bool)=true:=by kernel_rfl
theorem J4p:(Tryz.f13.resultTypes.all (fun t=>Tryz.prog.readableRec t && decide (t < Tryz.prog.types.size)):Bool)=true:=by kernel_rfl
theorem J4d:((Rows.policyTextsRow.ifacesOut == Tryz.f13.resultTypes.toList.any (Tryz.prog.ifacesRec ·)):Bool)=true:=by kernel_rfl
theorem J4n:((Rows.policyTextsRow.loopsOut == Tryz.f13.resultTypes.toList.any (Tryz.prog.loopsFrom ·)):Bool)=true:=by kernel_rfl
theorem J4b:((Rows.policyTextsRow.plainKeys == Tryz.prog.plainKeys):Bool)=true:=by kernel_rfl
theorem J3x:(Rows.policyTextsRow.shortTexts.isNone:Bool)=true:=by kernel_rfl
theorem J4o:((Rows.policyTextsRow.lifted == Tryz.prog.liftsFinal):Bool)=true:=by kernel_rfl
theorem J4r:((Tryz.prog.make == some Rows.policyTextsRow.make):Bool)=true:=by kernel_rfl
theorem J4i:(Rows.policyTextsRow.domain.isEmpty && (Rows.policyTextsRow.kinds == []):Bool)=true:=by kernel_rfl
theorem J4k:((Rows.policyTextsRow.pinned == Rows.policyTextsRow.pinnedBy):Bool)=true:=by kernel_rfl
theorem J4j:((Rows.policyTextsRow.veiled == (Tryz.f13.params.toList ++ Rows.policyTextsSpec.plain.varTypes Tryz.prog ++ Tryz.f13.resultTypes.toList).any (Tryz.prog.veiledRec ·)):Bool)=true:=by kernel_rfl
theorem J4a:(Rows.policyTextsRow.veiledFits Tryz.prog Tryz.f13.params.toList (Tryz.f13.params.toList ++ Rows.policyTextsSpec.plain.varTypes Tryz.prog ++ Tryz.f13.resultTypes.toList):Bool)=true:=by kernel_rfl
theorem J3n:joinedFacts Tryz.pinned.checked.prog 13 Tryz.f13 Rows.policyTextsSpec Rows.policyTextsRow=true :=
 J0j Tryz.prog 13 Tryz.f13 Rows.policyTextsSpec Rows.policyTextsRow J4z J1t J1k J5c J5d J5b J1e J5e J1c J4y J4f J4h J4c J4l J3y J4q J4g J4u J4m J4p J4d J4n J4b J3x J0v J0x J4o J4r J4i J4k J4j J4a
theorem J3p:Rows.PolicyTextsSaid :=
 OpenClaim.holds_of_wide 13 Tryz.f13 rfl rfl rfl rfl rfl rfl rfl ⟨rfl,rfl,rfl,rfl,rfl⟩ rfl rfl rfl rfl rfl J2v Tryz.func13 J3n
  J3c (by unfold Func.isWrapper; first | (rw [if_pos (by decide +kernel)]; kernel_rfl) | (rw [if_neg (by decide +kernel)]; exact ⟨rfl,rfl⟩))
  (fun os started H enc _=>J3i os started H enc)
theorem J3h:Rows.policyTextsRow.wfByText (OpenSpec.ofChange Rows.policyTextsSpec)=true:=by kernel_rfl
theorem J3v:Tryz.pinned.checked.prog.mainIs=some (Rows.policyTextsCard.stood.harness.1,Rows.policyTextsCard.stood.harness.2.toList):=by kernel_rfl
theorem J3o:Rows.policyTextsCard.stood.looks=Tryz.pinned.checked.prog.looks []:=by kernel_rfl
theorem J3u:false=Rows.policyTextsRow.goesBy Tryz.pinned.checked.prog:=by kernel_rfl
theorem J3f:([47,9].all fun u=>!Tryz.prog.wantsStandIn u)=true:=by kernel_rfl
theorem policyTexts_card:Rows.PolicyTextsCardSaid :=
 Claim7.holds_tied_plain_at .later [] [.data,.data,.data,.data,.widerDeep,.pinned] true _ false J3p (fun _ h=>by cases h) J3h (fun _ h=>by cases h) policyTexts_row_tie rfl ⟨rfl,rfl⟩ J3v rfl
  (fun f fn hf hfn=>by
   obtain rfl:f=13:=Option.some.inj (J2v.symm.trans hf) |>.symm
   obtain rfl:fn=Tryz.f13:=(Option.some.inj (Tryz.func13.symm.trans hfn)).symm;exact ⟨J3o,fun j t ht=>by
    have ht:#[47,9][j]?=some t:=Tryz.params13 ▸ ht;have hm:t ∈ [47,9]:=by simpa using Array.mem_of_getElem? ht
    exact (show Tryz.prog.wantsStandIn t=false by simpa using List.all_eq_true.1 J3f t hm)⟩)
  J3u
#print axioms policyTexts_card
end Go.Proofs.YthnobngcipaljaaGreatDoor
