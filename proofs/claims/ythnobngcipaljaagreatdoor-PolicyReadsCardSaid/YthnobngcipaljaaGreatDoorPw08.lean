/- The law PolicyReads: for every input the call returns true, and each argument reads afterwards as before: the row and its tied card. -/
import Derived.Test.YthnobngcipaljaaGreatDoorPp35
import Derived.Test.YthnobngcipaljaaGreatDoorPw07
import Derived.Test.YthnobngcipaljaaGreatDoorPw02
import Derived.Test.YthnobngcipaljaaGreatDoorPw06
import Derived.Test.YthnobngcipaljaaGreatDoorPw01
set_option maxRecDepth 1000000
set_option maxHeartbeats 64000000
set_option linter.unusedVariables false
set_option linter.unusedSimpArgs false
set_option linter.constructorNameAsVariable false
open Go.Lib (hid)
namespace Go.Proofs
open Go.RowKit Go.Tw Go.Flow
attribute [local go_sem] Oper.semAt_some
theorem fzb08 {a b:Nat} (h:a < b:=by rw [hbb]; simp only [Flow.size_put]; show _ < 284; decide):a < b:=h
theorem fzc08 {u:Type} {a b:u} (h:a=b:=by rw [hbb]; dsimp only; (try simp (discharger:=decide) only [Flow.eval_put_ne]); rw [Flow.Q0a (by simp only [Flow.size_put]; show _ < 284; decide)]; assumption):a=b:=h
theorem fze08 {u:Type} {a b:u} (h:a=b:=by rw [hbb]; dsimp only; (try simp (discharger:=decide) only [Flow.eval_put_ne]); rfl):a=b:=h
theorem J9x (w:World) (v u:Value) (s:Q0b) (p:List Rul) (hv:Q0h w v s) (hu:Q0w w u p) (hs:Q3k s) (he:s.err=0) (hp:Q2d s.hist p=0) :
    Calls Tryz.prog 65 #[v,u] w fun e w'=>e=.returned (.tuple #[.int .i64 (Y4l s p),.int .i64 0]) /\ Ext w w':=by
 have h:=Y5i w v u s p hv hu hs (J6z (Q1b.of he) hp);rw [J7t he hp,show Y0a s p=Y4l s p from if_pos (J7t he hp)] at h
 exact h
theorem K2r {w z0:World} {s:Q0b} {A B:Option Addr} {T M capa capb gs:Nat} {lim code:Int} (HXA:Hid (Ext w z0)) (HWD:Hid (Words z0)) (HMX:Hid (K0x z0)) (H2:Hid (Q7y z0 (.slice A T capa) (.slice B M capb) s)) (KB:Hid (Blk z0 gs 25 #[.int .i64 lim,.slice A T capa,.slice B M capb])) (HSEA:Hid (∀ W,Q7y W (.slice A T capa) (.slice B M capb) s -> Q0h W (.agg #[.int .i64 lim,.slice A T capa,.slice B M capb]) s)) (HS:Hid (Q3k s)) (HC63:Hid (code < 2 ^ 63)) (HT:Hid (s.ships.length=T)) (HM:Hid (s.members.length=M)) (HLIM:Hid (s.limit=lim))
    (F:Array Value) (hF:F.size=284) (f1:F[1]?=some (.int .i64 code)) (f3:F[3]?=some (.pointer (some ⟨gs,0,none⟩))) :
    (codeFrom Tryz.f14 8).wp Tryz.prog (bodyPost Tryz.prog Tryz.f14 (fun e w'=>e=.returned (.bool true) /\ Ext w w')) ⟨F,[]⟩ z0:=by
 obtain ⟨u,rfl⟩:=J8u hF;replace f1:u 1=_:=Option.some.inj f1;replace f3:u 3=_:=Option.some.inj f3;rw [f1,f3];clear hF f1 f3
 conv=>arg 2; whnf
 have d0KB:=KB.out.cell 0;have d1KB:=KB.out.cell 1;have d2KB:=KB.out.cell 2;simp only [Go.Tw.gA,Go.Tw.gB,Go.Tw.gC] at d0KB d1KB d2KB;go_wp2_with fail;refine (Z0w _ _ s (HSEA.out _ H2.out)).mono ?_;rintro e z1 ⟨rfl,hx⟩;have hxx:Ext z0 z1:=hx;replace HXA:=hid (HXA.out.trans hxx);replace HWD:=hid (HWD.out.ext hxx);replace HMX:=hid (HMX.out.ext hxx);replace H2:=hid (H2.out.ext hxx);replace KB:=hid (KB.out.ext hxx);clear hx hxx d0KB d1KB d2KB
 by_cases he:s.err=0
 . skip
   have HE:=hid he;have hvs:=Q1b.of he;have HVS:=hid hvs;rw [he];clear he hvs;have d0KB:=KB.out.cell 0;have d1KB:=KB.out.cell 1;have d2KB:=KB.out.cell 2;simp only [Go.Tw.gA,Go.Tw.gB,Go.Tw.gC] at d0KB d1KB d2KB
   by_cases h4:4 < T
   . have h4I:(4:Int) < (T:Int):=by omega
     have h4d:decide ((4:Int) < (T:Int))=true:=decide_eq_true h4I;have h4n:decide (4 < T)=true:=decide_eq_true h4;go_wp2_with fail;refine (J0d _ HWD.out).mono ?_;rintro e z2 ⟨rfl,hx⟩;have hxx:Ext z1 z2:=hx;replace HXA:=hid (HXA.out.trans hxx);replace HWD:=hid (HWD.out.ext hxx);replace HMX:=hid (HMX.out.ext hxx);replace H2:=hid (H2.out.ext hxx);replace KB:=hid (KB.out.ext hxx);clear hx hxx;go_wp2;go_ret;exact ⟨rfl,HXA.out⟩
   have h4I:¬ (4:Int) < (T:Int):=by omega
   have h4d:decide ((4:Int) < (T:Int))=false:=decide_eq_false h4I;have h4n:decide (4 < T)=false:=decide_eq_false h4;have HT4:Hid (T <= 4):=hid (by omega)
   by_cases hc0:code < 0
   . have hcd:decide (code < 0)=true:=decide_eq_true hc0
     go_wp2_with fail;refine (J0d _ HWD.out).mono ?_;rintro e z2 ⟨rfl,hx⟩;have hxx:Ext z1 z2:=hx;replace HXA:=hid (HXA.out.trans hxx);replace HWD:=hid (HWD.out.ext hxx);replace HMX:=hid (HMX.out.ext hxx);replace H2:=hid (H2.out.ext hxx);replace KB:=hid (KB.out.ext hxx);clear hx hxx;go_wp2;go_ret;exact ⟨rfl,HXA.out⟩
   have hcd:decide (code < 0)=false:=decide_eq_false hc0;obtain ⟨cN,rfl⟩:∃ z:Nat,code=(z:Int):=⟨code.toNat,by omega⟩
   have H63:Hid (cN < 2 ^ 63):=hid (by have:=HC63.out; omega)
   have HCR:Hid (Q2d s.hist (J2k s cN)=0):=J5b s cN;clear h4 hc0;go_wp2_with fail;refine (J8r _ _ s cN (HSEA.out _ H2.out) HE.out H63.out).mono ?_;rintro e z2 ⟨xc,rfl,hu,hx⟩;have hxx:Ext z1 z2:=hx;replace HXA:=hid (HXA.out.trans hxx);replace HWD:=hid (HWD.out.ext hxx);replace HMX:=hid (HMX.out.ext hxx);replace H2:=hid (H2.out.ext hxx);replace KB:=hid (KB.out.ext hxx);clear hx hxx;clear d0KB d1KB d2KB;have hp:=J2d.policy HVS.out hu;have HQL:Hid ((J2k s cN).length <= 4096):=hid (by have:=Z5n HVS.out; rw [J5h]; omega)
   have HQ8:Hid (∀ k,k < (J2k s cN).length -> (Q0n (J2k s cN) k).length <= 4096):=hid (J9j HVS.out cN);have HPC4:Hid (∀ r ∈ J2k s cN,r.classes.length <= 4096):=hid (fun r hr=>by obtain ⟨k,hk,rfl⟩:=List.getElem_of_mem hr; have:=HQ8.out k hk; unfold Q0n at this; rwa [Q0v _ hk] at this)
   have HTX:Hid (Q6h (J2k s cN)=0):=hid (J9l HVS.out cN);obtain ⟨ux,rfl,hr⟩:=hp;obtain ⟨Xc,cc,rfl,-,-,-⟩:=hr.opened;obtain ⟨nc,hnc⟩:∃ z,(J2k s cN).length=z:=⟨_,rfl⟩;have HNC:=hid hnc;rw [hnc] at hr ⊢;clear hnc hu h4I h4d h4n hcd;have FC:=hid hr;clear hr;have hxp:=Ext.box z2 (.cells #[.slice Xc nc cc] 47);have hbp:=Blk.made z2 47 #[.slice Xc nc cc];replace HXA:=hid (HXA.out.trans hxp);replace HWD:=hid (HWD.out.ext hxp);replace HMX:=hid (HMX.out.ext hxp);replace H2:=hid (H2.out.ext hxp);replace KB:=hid (KB.out.ext hxp);replace FC:=hid (FC.out.ext hxp);go_wp2_with fail;obtain ⟨gc,hgc⟩:∃ z,z2.heap.size=z:=⟨_,rfl⟩;obtain ⟨z3,hwt⟩:∃ Z,z2.alloc (.cells #[.slice Xc nc cc] 47)=Z:=⟨_,rfl⟩;rw [hwt,hgc] at hbp;rw [hwt] at HXA HWD HMX H2 KB FC;rw [hwt,hgc];have KC:=hid hbp;clear hbp hwt hgc hxp;have HPC:Hid (∀ W,Q3m W (.slice Xc nc cc) (J2k s cN) -> Q0w W (.agg #[.slice Xc nc cc]) (J2k s cN)):=hid (fun W h=>⟨_,rfl,h⟩);have d0KC:=KC.out.cell 0;simp only [Go.Tw.gA,Go.Tw.gB] at d0KC
   skip
   refine (J1w _ _ (J2k s cN) (HPC.out _ FC.out) HQL.out HQ8.out).mono ?_;rintro e z4 ⟨uo,rfl,hu,hx⟩;have hxx:Ext z3 z4:=hx;replace HXA:=hid (HXA.out.trans hxx);replace HWD:=hid (HWD.out.ext hxx);replace HMX:=hid (HMX.out.ext hxx);replace H2:=hid (H2.out.ext hxx);replace KB:=hid (KB.out.ext hxx);replace FC:=hid (FC.out.ext hxx);replace KC:=hid (KC.out.ext hxx);have FO:=hid (hu);clear hx hxx d0KC;clear hu;go_wp2_with fail;refine (Y8r _ _ (J2k s cN) FO.out HPC4.out HWD.out).mono ?_;rintro e z5 ⟨rfl,hx⟩;have hxx:Ext z4 z5:=hx;replace HXA:=hid (HXA.out.trans hxx);clear FO;replace HWD:=hid (HWD.out.ext hxx);replace HMX:=hid (HMX.out.ext hxx);replace H2:=hid (H2.out.ext hxx);replace KB:=hid (KB.out.ext hxx);replace FC:=hid (FC.out.ext hxx);replace KC:=hid (KC.out.ext hxx);clear hx hxx;have HPP:=hid (J8k HTX.out);rw [HTX.out,J5f HTX.out];have HPS5:Hid ((Z6l (J2k s cN)).size <= 5000):=hid (by have:=J6q HTX.out; omega)
   obtain ⟨tx,htx⟩:∃ z,Z6l (J2k s cN)=z:=⟨_,rfl⟩;rw [htx] at HPP HPS5 ⊢;clear htx;go_wp2_with fail;refine (J6p _ tx HPS5.out HMX.out HWD.out).mono ?_;rintro e z6 ⟨xp,rfl,hp,hx⟩;have hxx:Ext z5 z6:=hx;replace HXA:=hid (HXA.out.trans hxx);replace HWD:=hid (HWD.out.ext hxx);replace HMX:=hid (HMX.out.ext hxx);replace H2:=hid (H2.out.ext hxx);replace KB:=hid (KB.out.ext hxx);replace FC:=hid (FC.out.ext hxx);replace KC:=hid (KC.out.ext hxx);clear hx hxx;rw [HPP.out];rw [HPP.out] at hp;obtain ⟨ap,rfl,hrp⟩:=hp;obtain ⟨Xp,cp,rfl,-,-,-⟩:=hrp.opened;rw [HNC.out] at hrp ⊢;have FP:=hid hrp;clear hrp;have hxp:=Ext.box z6 (.cells #[.slice Xp nc cp] 38);have hbp:=Blk.made z6 38 #[.slice Xp nc cp];replace HXA:=hid (HXA.out.trans hxp);replace HWD:=hid (HWD.out.ext hxp);replace HMX:=hid (HMX.out.ext hxp);replace H2:=hid (H2.out.ext hxp);replace KB:=hid (KB.out.ext hxp);replace FC:=hid (FC.out.ext hxp);replace KC:=hid (KC.out.ext hxp);replace FP:=hid (FP.out.ext hxp);go_wp2_with fail;obtain ⟨gp,hgp⟩:∃ z,z6.heap.size=z:=⟨_,rfl⟩;obtain ⟨z7,hwt⟩:∃ Z,z6.alloc (.cells #[.slice Xp nc cp] 38)=Z:=⟨_,rfl⟩;rw [hwt,hgp] at hbp;rw [hwt] at HXA HWD HMX H2 KB FC KC FP;rw [hwt,hgp];have KP:=hid hbp;clear hbp hwt hgp hxp;have hdr:=(Ext.refl z7).drew;refine Flow.Q1o [.w,.w,.w,.w,.w,.p,.p,.p,.p,.p] [0,1,2,3,4,5,6,7,8,9] [[],[0],[],[1,2],[1,3],[4],[4,5],[4,5],[0,1,2,3,4,5,6],[0,1,2,3,4,5,6,7,8]]
    [.c 0 (.agg #[.int .i64 lim,.slice A T capa,.slice B M capb]),⟨fun v wz=>(fun v w'=>Q0h w' (v 1) s) v wz,by intro v a b hx h; exact Q0h.ext h hx⟩,.c 2 (.agg #[.slice Xc nc cc]),⟨fun v wz=>(fun v w'=>Q0w w' (v 3) (J2k s cN)) v wz,by intro v a b hx h; exact Q0w.ext h hx⟩,⟨fun v wz=>(fun v w'=>∃ x,v 4=.tuple #[x,.int .i64 0] /\ Q0d w' x (Q3r s (J2k s cN))) v wz,by rintro v a b hx ⟨x,h1,h2⟩; exact ⟨x,h1,h2.ext hx⟩⟩,⟨fun v wz=>(fun v w'=>v 5=v 4) v wz,by intro v a b hx h; exact h⟩,⟨fun v wz=>(fun v w'=>v 4=.tuple #[v 6,.int .i64 0]) v wz,by intro v a b hx h; exact h⟩,.c 7 (.int .i64 0),⟨fun v wz=>(fun v w'=>v 8=v 6) v wz,by intro v a b hx h; exact h⟩,.c 9 (.int .i64 0)]
    (by kernel_rfl) rfl (by kernel_rfl) ⟨?g0,?g1,?g2,?g3,?g4,?g5,?g6,?g7,?g8,?g9,trivial⟩ ?post
   case g0=>
    intro v w1 hx;intro bb hbb;intro K2 hK2;have o1:bb.eval (.tmp 3)=.pointer (some ⟨gs,0,none⟩):=fze08
    exact Q0p (.tmp 3) _ rfl Tryz.K0b Tryz.J8l o1 (KB.out.ext (hdr.trans hx)) rfl (hK2 _ _ (Ext.refl _) rfl)
   case g1=>
    intro v w1 hx;(repeat intro (zq:v _=_));intro bb hbb;subst hbb;intro K2 hK2;go_simp;refine Q0e (Z9u w1 _ s (HSEA.out _ (H2.out.ext (hdr.trans hx))) HS.out) ?_;rintro e w2 ⟨u,rfl,hu,hx2⟩;exact ⟨_,rfl,hK2 _ _ hx2 hu⟩
   case g2=>
    intro v w1 hx;intro bb hbb;intro K2 hK2;have o1:bb.eval (.tmp 12)=.pointer (some ⟨gc,0,none⟩):=fze08
    exact Q0p (.tmp 12) _ rfl Tryz.Z9i Tryz.Z7k o1 (KC.out.ext (hdr.trans hx)) rfl (hK2 _ _ (Ext.refl _) rfl)
   case g3=>
    intro v w1 hx _ (q2:v 2=_);intro bb hbb;subst hbb;intro K2 hK2;go_simp;refine Q0e (J1w w1 _ (J2k s cN) (HPC.out _ (FC.out.ext (hdr.trans hx))) HQL.out HQ8.out) ?_;rintro e w2 ⟨u,rfl,hu,hx2⟩;exact ⟨_,rfl,hK2 _ _ hx2 hu⟩
   case g4=>
    intro v w1 hx (q1:(fun v w'=>Q0h w' (v 1) s) v w1) (q3:(fun v w'=>Q0w w' (v 3) (J2k s cN)) v w1);intro bb hbb;subst hbb;intro K2 hK2;go_simp;refine Q0e (K1g w1 _ _ s _ q1 q3 HS.out HE.out HCR.out) ?_;rintro e w2 ⟨u,rfl,hu,hx2⟩;exact ⟨_,rfl,hK2 _ _ hx2 ⟨_,rfl,hu⟩⟩
   case g5=>
    intro v w1 hx _;intro bb hbb;have o1:bb.eval (.tmp 103)=v 4:=by rw [hbb]; dsimp only; (try simp (discharger:=decide) only [eval_put_ne]); rw [Q0a (by simp only [size_put]; exact (by decide:103 < 284))]
    exact ⟨_,fun w=>J7y (.tmp 103) rfl o1,rfl⟩
   case g6=>
    intro v w1 hx (q4:(fun v w'=>∃ x,v 4=.tuple #[x,.int .i64 0] /\ Q0d w' x (Q3r s (J2k s cN))) v w1) (q5:(fun v w'=>v 5=v 4) v w1);intro bb hbb;obtain ⟨x,h5,_⟩:=q4;have o1:bb.eval (.tmp 98)=.tuple #[x,.int .i64 0]:=by rw [<- h5,<- q5]; rw [hbb]; dsimp only; (try simp (discharger:=decide) only [eval_put_ne]); rw [Q0a (by simp only [size_put]; exact (by decide:98 < 284))]
    exact ⟨_,fun w=>J3g (.tmp 98) 0 rfl o1 (fun w=>K2q w _ _),h5⟩
   case g7=>
    intro v w1 hx (q4:(fun v w'=>∃ x,v 4=.tuple #[x,.int .i64 0] /\ Q0d w' x (Q3r s (J2k s cN))) v w1) (q5:(fun v w'=>v 5=v 4) v w1);intro bb hbb;obtain ⟨x,h5,_⟩:=q4;have o1:bb.eval (.tmp 98)=.tuple #[x,.int .i64 0]:=by rw [<- h5,<- q5]; rw [hbb]; dsimp only; (try simp (discharger:=decide) only [eval_put_ne]); rw [Q0a (by simp only [size_put]; exact (by decide:98 < 284))]
    exact ⟨_,fun w=>J3g (.tmp 98) 1 rfl o1 (fun w=>K2w w _ _),rfl⟩
   case g8=>
    intro v w1 hx (q0:v 0=_) _ (q2:v 2=_) _ _ _ _;intro bb hbb;have o1:bb.eval (.tmp 104)=v 6:=by rw [hbb]; dsimp only; (try simp (discharger:=decide) only [eval_put_ne]); rw [Q0a (by simp only [size_put]; exact (by decide:104 < 284))]
    exact ⟨_,fun w=>J8f (.tmp 104) rfl o1,rfl⟩
   case g9=>
    intro v w1 hx (q0:v 0=_) _ (q2:v 2=_) _ _ _ _ (q7:v 7=_) _;intro bb hbb;subst hbb;refine ⟨_,fun w=>?_,rfl⟩;go_simp
   case post =>
    intro v w1 hx (q0:v 0=_) (q1:(fun v w'=>Q0h w' (v 1) s) v w1) (q2:v 2=_) (q3:(fun v w'=>Q0w w' (v 3) (J2k s cN)) v w1) (q4:(fun v w'=>∃ x,v 4=.tuple #[x,.int .i64 0] /\ Q0d w' x (Q3r s (J2k s cN))) v w1) (q5:(fun v w'=>v 5=v 4) v w1) (q6:(fun v w'=>v 4=.tuple #[v 6,.int .i64 0]) v w1) (q7:v 7=_) (q8:(fun v w'=>v 8=v 6) v w1) (q9:v 9=_);simp only [Flow.All,Flow.acts,Act.put];go_simp;obtain ⟨xk,h5,hik⟩:=q4;replace q6:v 4=.tuple #[v 6,.int .i64 0]:=q6;replace q8:v 8=v 6:=q8;rw [h5] at q6;simp only [Value.tuple.injEq,Array.mk.injEq,List.cons.injEq,and_true] at q6;obtain ⟨Xk,ck,rfl,-,-,-⟩:=hik.opened;obtain ⟨nk,hnk⟩:∃ z,(Q3r s (J2k s cN)).length=z:=⟨_,rfl⟩;rw [hnk] at q6 hik
    (try rw [q8])
    rw [<- q6];clear hnk h5;have hxx:=hdr.trans hx;replace HXA:=hid (HXA.out.trans hxx);replace HWD:=hid (HWD.out.ext hxx);replace HMX:=hid (HMX.out.ext hxx);replace H2:=hid (H2.out.ext hxx);replace KB:=hid (KB.out.ext hxx);replace FC:=hid (FC.out.ext hxx);replace KC:=hid (KC.out.ext hxx);replace FP:=hid (FP.out.ext hxx);replace KP:=hid (KP.out.ext hxx);have GK:=hid (hik);obtain ⟨z8,rfl⟩:∃ Z,Z=w1:=⟨_,rfl⟩;clear hx hdr hxx q0 q1 q2 q3 q5 q6 q7 q8 q9;clear hik;obtain ⟨rg,hrg⟩:∃ z,Y4l s (J2k s cN)=z:=⟨_,rfl⟩;have HRG:=hid hrg;clear hrg;go_wp2_with fail;have hdr:=(Ext.refl z8).drew;refine Flow.Q1o [.w,.w,.w,.w,.w,.p,.p,.p,.p,.p] [0,1,2,3,4,5,6,7,8,9] [[],[0],[],[1,2],[1,3],[4],[5],[5],[0,1,2,3,4,5,6],[0,1,2,3,4,5,6,7,8]]
     [.c 0 (.agg #[.int .i64 lim,.slice A T capa,.slice B M capb]),⟨fun v wz=>(fun v w'=>Q0h w' (v 1) s) v wz,by intro v a b hx h; exact Q0h.ext h hx⟩,.c 2 (.agg #[.slice Xc nc cc]),⟨fun v wz=>(fun v w'=>Q0w w' (v 3) (J2k s cN)) v wz,by intro v a b hx h; exact Q0w.ext h hx⟩,.c 4 (.tuple #[.int .i64 rg,.int .i64 0]),.c 5 (.tuple #[.int .i64 rg,.int .i64 0]),.c 6 (.int .i64 rg),.c 7 (.int .i64 0),.c 8 (.int .i64 rg),.c 9 (.int .i64 0)]
     (by kernel_rfl) rfl (by kernel_rfl) ⟨?g0,?g1,?g2,?g3,?g4,?g5,?g6,?g7,?g8,?g9,trivial⟩ ?post
    case g0=>
     intro v w1 hx;intro bb hbb;intro K2 hK2;have o1:bb.eval (.tmp 3)=.pointer (some ⟨gs,0,none⟩):=fze08
     exact Q0p (.tmp 3) _ rfl Tryz.K0b Tryz.J8l o1 (KB.out.ext (hdr.trans hx)) rfl (hK2 _ _ (Ext.refl _) rfl)
    case g1=>
     intro v w1 hx;(repeat intro (zq:v _=_));intro bb hbb;subst hbb;intro K2 hK2;go_simp;refine Q0e (Z9u w1 _ s (HSEA.out _ (H2.out.ext (hdr.trans hx))) HS.out) ?_;rintro e w2 ⟨u,rfl,hu,hx2⟩;exact ⟨_,rfl,hK2 _ _ hx2 hu⟩
    case g2=>
     intro v w1 hx;intro bb hbb;intro K2 hK2;have o1:bb.eval (.tmp 12)=.pointer (some ⟨gc,0,none⟩):=fze08
     exact Q0p (.tmp 12) _ rfl Tryz.Z9i Tryz.Z7k o1 (KC.out.ext (hdr.trans hx)) rfl (hK2 _ _ (Ext.refl _) rfl)
    case g3=>
     intro v w1 hx _ (q2:v 2=_);intro bb hbb;subst hbb;intro K2 hK2;go_simp;refine Q0e (J1w w1 _ (J2k s cN) (HPC.out _ (FC.out.ext (hdr.trans hx))) HQL.out HQ8.out) ?_;rintro e w2 ⟨u,rfl,hu,hx2⟩;exact ⟨_,rfl,hK2 _ _ hx2 hu⟩
    case g4=>
     intro v w1 hx (q1:(fun v w'=>Q0h w' (v 1) s) v w1) (q3:(fun v w'=>Q0w w' (v 3) (J2k s cN)) v w1);intro bb hbb;subst hbb;intro K2 hK2;go_simp;refine Q0e (J9x w1 _ _ s _ q1 q3 HS.out HE.out HCR.out) ?_;rintro e w2 ⟨rfl,hx2⟩;exact ⟨_,rfl,hK2 _ _ hx2 (congrArg (fun z=>Value.tuple #[.int .i64 z,.int .i64 0]) HRG.out)⟩
    case g5 | g6 | g7=>
     intro v w1 hx;(repeat intro (zq:v _=_));intro bb hbb;subst hbb;refine ⟨_,fun w=>?_,rfl⟩;go_simp
    case g8=>
     intro v w1 hx (q0:v 0=_) _ (q2:v 2=_) _ (q4:v 4=_) (q5:v 5=_) (q6:v 6=_);intro bb hbb;subst hbb;refine ⟨_,fun w=>?_,rfl⟩;go_simp
    case g9=>
     intro v w1 hx (q0:v 0=_) _ (q2:v 2=_) _ (q4:v 4=_) (q5:v 5=_) (q6:v 6=_) (q7:v 7=_) (q8:v 8=_);intro bb hbb;subst hbb;refine ⟨_,fun w=>?_,rfl⟩;go_simp
    case post =>
     intro v w1 hx (q0:v 0=_) (q1:(fun v w'=>Q0h w' (v 1) s) v w1) (q2:v 2=_) (q3:(fun v w'=>Q0w w' (v 3) (J2k s cN)) v w1) (q4:v 4=_) (q5:v 5=_) (q6:v 6=_) (q7:v 7=_) (q8:v 8=_) (q9:v 9=_);simp only [Flow.All,Flow.acts,Act.put];go_simp;have hxx:=hdr.trans hx;replace HXA:=hid (HXA.out.trans hxx);replace HWD:=hid (HWD.out.ext hxx);replace HMX:=hid (HMX.out.ext hxx);replace H2:=hid (H2.out.ext hxx);replace KB:=hid (KB.out.ext hxx);replace FC:=hid (FC.out.ext hxx);replace KC:=hid (KC.out.ext hxx);replace FP:=hid (FP.out.ext hxx);replace KP:=hid (KP.out.ext hxx);replace GK:=hid (GK.out.ext hxx);obtain ⟨z9,rfl⟩:∃ Z,Z=w1:=⟨_,rfl⟩;clear hx hdr hxx q0 q1 q2 q3 q4 q5 q6 q7 q8 q9;have hwz:IntKind.i64.wrap 0=0:=Q2v 0 (by decide) (by decide)
     go_wp2_with fail;have hdr:=(Ext.refl z9).drew;refine Flow.Q1o [.p,.p,.p,.p,.p,.p,.p,.p,.p,.p,.p,.p,.p,.w,.w,.w,.w,.p,.p] [0,1,2,3,4,5,6,7,8,9,10,11,12,13,14,15,16,17,18] [[],[],[0,1],[],[2,3],[],[4,5],[6],[7],[8],[8,9],[8,10],[8,11],[12],[12,13],[12],[12,14,15],[12,16],[12,17]]
      [.c 0 (.int .i64 0),.c 1 (.int .i64 0),.c 2 (.int .i64 0),.c 3 (.int .i64 0),.c 4 (.int .i64 0),.c 5 (.int .i64 0),.c 6 (.int .i64 0),.c 7 (.bool false),.c 8 (.bool false),.c 9 (.int .i64 0),.c 10 (.bool false),.c 11 (.bool false),.c 12 (.bool false),.c 13 (.agg #[.slice Xp nc cp]),⟨fun v wz=>(fun v w'=>Q0w w' (v 14) (J2k s cN)) v wz,by intro v a b hx h; exact Q0w.ext h hx⟩,.c 15 (.agg #[.slice Xc nc cc]),.c 16 (.bool true),.c 17 (.bool false),.c 18 (.bool false)]
      (by kernel_rfl) rfl (by kernel_rfl) ⟨?g0,?g1,?g2,?g3,?g4,?g5,?g6,?g7,?g8,?g9,?g10,?g11,?g12,?g13,?g14,?g15,?g16,?g17,?g18,trivial⟩ ?post
     case g0 | g1 | g3 | g5=>
      intro v w1 hx;intro bb hbb;subst hbb;refine ⟨_,fun w=>?_,rfl⟩;go_simp
     case g2 | g4 | g6 | g7 | g8 | g11 | g12 | g18=>
      intro v w1 hx;(repeat intro (zq:v _=_));intro bb hbb;subst hbb;refine ⟨_,fun w=>?_,rfl⟩;go_simp
     case g9 | g10=>
      intro v w1 hx;(repeat intro (zq:v _=_));intro bb hbb;refine Flow.Q0l (d:=122) rfl rfl fzb08 fzc08 ?_
      subst hbb;refine ⟨_,fun w=>?_,rfl⟩;go_simp
     case g13=>
      intro v w1 hx;(repeat intro (zq:v _=_));intro bb hbb;refine Flow.Q0l (d:=126) rfl rfl fzb08 fzc08 ?_
      intro K2 hK2;have o1:bb.eval (.tmp 15)=.pointer (some ⟨gp,0,none⟩):=fze08
      exact Q0p (.tmp 15) _ rfl Tryz.Q8b Tryz.Q4b o1 (KP.out.ext (hdr.trans hx)) rfl (hK2 _ _ (Ext.refl _) rfl)
     case g14=>
      intro v w1 hx;(repeat intro (zq:v _=_));intro bb hbb;refine Flow.Q0l (d:=126) rfl rfl fzb08 fzc08 ?_
      subst hbb;intro K2 hK2;go_simp;refine Q0e (Y7d w1 _ (J2k s cN) ⟨_,rfl,FP.out.ext (hdr.trans hx)⟩ HQL.out) ?_;rintro e w2 ⟨u,rfl,hu,hx2⟩;exact ⟨_,rfl,hK2 _ _ hx2 hu⟩
     case g15=>
      intro v w1 hx;(repeat intro (zq:v _=_));intro bb hbb;refine Flow.Q0l (d:=126) rfl rfl fzb08 fzc08 ?_
      intro K2 hK2;have o1:bb.eval (.tmp 12)=.pointer (some ⟨gc,0,none⟩):=fze08
      exact Q0p (.tmp 12) _ rfl Tryz.Z9i Tryz.Z7k o1 (KC.out.ext (hdr.trans hx)) rfl (hK2 _ _ (Ext.refl _) rfl)
     case g16=>
      intro v w1 hx (q12:v 12=_) (q14:(fun v w'=>Q0w w' (v 14) (J2k s cN)) v w1) (q15:v 15=_);intro bb hbb;refine Flow.Q0l (d:=126) rfl rfl fzb08 (by rw [hbb]; dsimp only; (try simp (discharger:=decide) only [eval_put_ne]); rw [Q0a (by simp only [size_put]; exact (by decide:126 < 284))]; exact q12) ?_
      subst hbb;intro K2 hK2;go_simp;refine Q0e (X7h w1 _ _ _ _ q14 (HPC.out _ (FC.out.ext (hdr.trans hx)))) ?_;rintro e w2 ⟨rfl,hx2⟩;exact ⟨_,rfl,hK2 _ _ hx2 (K0k _)⟩
     case g17=>
      intro v w1 hx;(repeat intro (zq:v _=_));intro bb hbb;refine Flow.Q0l (d:=126) rfl rfl fzb08 fzc08 ?_
      subst hbb;refine ⟨_,fun w=>?_,rfl⟩;go_simp
     case post =>
      intro v w1 hx;(iterate 14 intro (zq:v _=_));intro (q14:(fun v w'=>Q0w w' (v 14) (J2k s cN)) v w1);(iterate 4 intro (zq:v _=_));simp only [Flow.All,Flow.acts,Act.put];go_simp;have hxx:=hdr.trans hx;replace HXA:=hid (HXA.out.trans hxx);replace HWD:=hid (HWD.out.ext hxx);replace HMX:=hid (HMX.out.ext hxx);replace H2:=hid (H2.out.ext hxx);replace KB:=hid (KB.out.ext hxx);replace FC:=hid (FC.out.ext hxx);replace KC:=hid (KC.out.ext hxx);replace FP:=hid (FP.out.ext hxx);replace KP:=hid (KP.out.ext hxx);replace GK:=hid (GK.out.ext hxx);obtain ⟨z10,rfl⟩:∃ Z,Z=w1:=⟨_,rfl⟩;clear hx hdr hxx q14;(repeat clear zq);go_upto_if 132 with fail
      repeat (first | exact K1u HXA HWD H2 KB KC FC GK HSEA HS HT HM HLIM HVS HE HT4 HCR HPC HQL HQ8 HRG _ rfl rfl rfl rfl rfl | go_step)
 . have heb:(s.err != 0)=true:=by simp [he]
   obtain ⟨E,hE⟩:∃ z,s.err=z:=⟨_,rfl⟩;rw [hE] at heb he ⊢;have hE0:E ≠ 0:=he;go_wp2_with fail;refine (J0d _ HWD.out).mono ?_;rintro e z2 ⟨rfl,hx⟩;have hxx:Ext z1 z2:=hx;replace HXA:=hid (HXA.out.trans hxx);replace HWD:=hid (HWD.out.ext hxx);replace HMX:=hid (HMX.out.ext hxx);replace H2:=hid (H2.out.ext hxx);replace KB:=hid (KB.out.ext hxx);clear hx hxx;go_wp2;go_ret;exact ⟨rfl,HXA.out⟩
end Go.Proofs
namespace Go.Proofs
open Go.RowKit Go.Tw Go.Flow
attribute [local go_sem] Oper.semAt_some
theorem J3t {t:ByteArray} (h:(J2n t).2.2=0):Q6h (J2n t).1=0 /\ Y7y (J2n t).1=t:=by
 have h1:J2n t=((J2n t).1,(J2n t).2.1,0):=by rw [<- h]
 obtain ⟨h2,h3,-⟩:=J8d h1;exact ⟨h2,by rw [J5f h2]; exact h3⟩
theorem J8j (s:ByteArray) (h:(J2n s).2.2=0):∀ r ∈ (J2n s).1,r.classes.length <= 4096:=fun r hr=>by
 obtain ⟨-,h2⟩:=J3j (J3t h).1;have:=(J3i (h2 r hr)).2.1;omega
theorem J5j (w:World) (v:Value) (s:Q0b) (code:Int) (t:ByteArray) (hv:Q0h w v s) (hcd:code < 2 ^ 63) (hMX:K0x w) (hW:Words w) :
    Calls Tryz.prog 14 #[v,.int .i64 code,.string t] w fun e w'=>e=.returned (.bool true) /\ Ext w w':=by
 obtain ⟨a,b,rfl,h2⟩:=hv;obtain ⟨A,capa,rfl,-,-,-⟩:=h2.ships.opened;obtain ⟨B,capb,rfl,-,-,-⟩:=h2.members.opened;have HXA:=hid (Ext.refl w);have HWD:=hid hW;have H2:=hid h2;obtain ⟨T,hT⟩:∃ T,s.ships.length=T:=⟨_,rfl⟩;have HT:=hid hT;obtain ⟨M,hM⟩:∃ M,s.members.length=M:=⟨_,rfl⟩;have HM:=hid hM;obtain ⟨lim,hlim⟩:∃ k,s.limit=k:=⟨_,rfl⟩;have HLIM:=hid hlim;have HSEA:Hid (∀ W,Q7y W (.slice A T capa) (.slice B M capb) s -> Q0h W (.agg #[.int .i64 lim,.slice A T capa,.slice B M capb]) s):=hid (fun W h=>⟨_,_,by rw [hlim],h⟩)
 rw [hT,hM] at H2;rw [hT,hM,hlim];clear hW h2 hT hM hlim;go_enter Tryz.func14,Tryz.ntmps14;have HC63:=hid hcd;have HMX:=hid hMX;clear hcd hMX;go_wp2_with fail;change Calls _ _ _ (w.alloc (.cells #[.int .i64 lim,.slice A T capa,.slice B M capb] 25)) _;obtain ⟨W,hWW,k0,HXW,eW⟩:=Q1t w 25 #[.int .i64 lim,.slice A T capa,.slice B M capb];rw [hWW];clear hWW;refine (Z8x _ _ s (HSEA.out _ (H2.out.ext HXW.out))).mono ?_;rintro e z1 ⟨q,rfl,hq,hx⟩;have hxx:Ext w z1:=HXW.out.trans hx;replace HXA:=hid (HXA.out.trans hxx);replace HWD:=hid (HWD.out.ext hxx);replace HMX:=hid (HMX.out.ext hxx);replace H2:=hid (H2.out.ext hxx);have KB:=hid (k0.ext hx);clear hx hxx HXW eW k0;obtain ⟨gs,hgs⟩:∃ z,w.heap.size=z:=⟨_,rfl⟩;rw [hgs] at KB ⊢;clear hgs;cases q with
 | false =>
   clear hq;go_wp2_with fail;refine (J0d _ HWD.out).mono ?_;rintro e z2 ⟨rfl,hx⟩;have hxx:Ext z1 z2:=hx;replace HXA:=hid (HXA.out.trans hxx);replace HWD:=hid (HWD.out.ext hxx);replace HMX:=hid (HMX.out.ext hxx);replace H2:=hid (H2.out.ext hxx);replace KB:=hid (KB.out.ext hxx);clear hx hxx;go_wp2;go_ret;exact ⟨rfl,HXA.out⟩
 | true =>
   have hs:Q3k s:=hq.1 rfl;have HS:=hid hs;clear hs hq
   by_cases hlong:(300:Int) < (t.size:Int)
   . have hld:decide ((300:Int) < (t.size:Int))=true:=decide_eq_true hlong
     have hln:decide (300 < t.size)=true:=decide_eq_true (by omega)
     go_wp2_with fail;refine (J0d _ HWD.out).mono ?_;rintro e z2 ⟨rfl,hx⟩;have hxx:Ext z1 z2:=hx;replace HXA:=hid (HXA.out.trans hxx);replace HWD:=hid (HWD.out.ext hxx);replace HMX:=hid (HMX.out.ext hxx);replace H2:=hid (H2.out.ext hxx);replace KB:=hid (KB.out.ext hxx);clear hx hxx;go_wp2;go_ret;exact ⟨rfl,HXA.out⟩
   . have hld:decide ((300:Int) < (t.size:Int))=false:=decide_eq_false hlong
     have hln:decide (300 < t.size)=false:=decide_eq_false (by omega)
     have HS5:Hid (t.size <= 5000):=hid (by omega)
     obtain ⟨AT,hAT⟩:∃ z,(J2n t).2.1=z:=⟨_,rfl⟩;obtain ⟨E2,hE2⟩:∃ z,(J2n t).2.2=z:=⟨_,rfl⟩;obtain ⟨PR,hPR⟩:∃ z,(J2n t).1=z:=⟨_,rfl⟩;have HPE:Hid ((J2n t).2.1=AT /\ (J2n t).2.2=E2 /\ (J2n t).1=PR):=hid ⟨hAT,hE2,hPR⟩;clear hAT hE2 hPR;go_wp2_with fail;refine (J6p _ t HS5.out HMX.out HWD.out).mono ?_;rintro e z2 ⟨xp,rfl,hp,hx⟩;have hxx:Ext z1 z2:=hx;replace HXA:=hid (HXA.out.trans hxx);replace HWD:=hid (HWD.out.ext hxx);replace HMX:=hid (HMX.out.ext hxx);replace H2:=hid (H2.out.ext hxx);replace KB:=hid (KB.out.ext hxx);clear hx hxx;rw [HPE.out.1,HPE.out.2.1];rw [HPE.out.2.2] at hp;obtain ⟨ap,rfl,hrp⟩:=hp;obtain ⟨Xp,cp,rfl,-,-,-⟩:=hrp.opened;obtain ⟨NP,hNP⟩:∃ z,PR.length=z:=⟨_,rfl⟩;rw [hNP] at hrp ⊢;have FP:=hid hrp;have HNP:=hid hNP;clear hrp hNP hlong hld hln;have hxp:=Ext.box z2 (.cells #[.slice Xp NP cp] 38);have hbp:=Blk.made z2 38 #[.slice Xp NP cp];replace HXA:=hid (HXA.out.trans hxp);replace HWD:=hid (HWD.out.ext hxp);replace HMX:=hid (HMX.out.ext hxp);replace H2:=hid (H2.out.ext hxp);replace KB:=hid (KB.out.ext hxp);replace FP:=hid (FP.out.ext hxp);go_upto_if 56 with fail;obtain ⟨gp,hgp⟩:∃ z,z2.heap.size=z:=⟨_,rfl⟩;obtain ⟨z3,hwt⟩:∃ Z,z2.alloc (.cells #[.slice Xp NP cp] 38)=Z:=⟨_,rfl⟩;rw [hwt,hgp] at hbp;rw [hwt] at HXA HWD HMX H2 KB FP;rw [hwt,hgp];have KP:=hid hbp;clear hbp hwt hgp hxp
     go_cut [] (fun wx=>Ext z3 wx)
     case first =>
      by_cases hE0:E2=0
      . skip
        have hEb:(E2 == 0)=true:=by simp [hE0]
        have HE0:=hid (HPE.out.2.1.trans hE0);clear hE0;have HPC4:Hid (∀ r ∈ PR,r.classes.length <= 4096):=hid (by rw [<- HPE.out.2.2]; exact J8j t HE0.out)
        have d0KP:=KP.out.cell 0;simp only [Go.Tw.gA,Go.Tw.gB] at d0KP;go_wp2_with fail;refine (Y8r _ _ PR ⟨_,rfl,FP.out⟩ HPC4.out HWD.out).mono ?_;rintro e z4 ⟨rfl,hx⟩;have hxx:Ext z3 z4:=hx;have HXC:=hid hxx;replace HXA:=hid (HXA.out.trans hxx);replace HWD:=hid (HWD.out.ext hxx);replace HMX:=hid (HMX.out.ext hxx);replace H2:=hid (H2.out.ext hxx);replace KB:=hid (KB.out.ext hxx);replace FP:=hid (FP.out.ext hxx);replace KP:=hid (KP.out.ext hxx);clear hx hxx;clear d0KP;rw [show Y7y PR=t by rw [<- HPE.out.2.2]; exact (J3t HE0.out).2,show Q6h PR=0 by rw [<- HPE.out.2.2]; exact (J3t HE0.out).1]
        have hTT:=Z5a t;go_wp2_with fail;go_meet;exact HXC.out
      . skip
        have hEb:(E2 == 0)=false:=by simp [hE0]
        clear hE0;go_wp2_with fail;go_meet;exact Ext.refl _
     case rest =>
      replace HXA:=hid (HXA.out.trans hcut);replace HWD:=hid (HWD.out.ext hcut);replace HMX:=hid (HMX.out.ext hcut);replace H2:=hid (H2.out.ext hcut);replace KB:=hid (KB.out.ext hcut);replace FP:=hid (FP.out.ext hcut);replace KP:=hid (KP.out.ext hcut);obtain ⟨z4,rfl⟩:∃ X,X=wc:=⟨_,rfl⟩;clear hcut
      repeat (first | exact K2r HXA HWD HMX H2 KB HSEA HS HC63 HT HM HLIM _ rfl rfl rfl | go_step)
end Go.Proofs
namespace Go.Proofs.YthnobngcipaljaaGreatDoor
open Go.ChangeShapes Go.WideShapes Go.ChangeAt Go.RowKit Go.Tw
theorem J4a (os:Os) (started:os.Started) (H:Type) (enc:TypeId × Value -> H) :
    ReturnsInHanded {} Tryz.checked os 14 .any (fun w args=>(Rows.policyReadsSpec.pre enc Tryz.prog Tryz.f14 Rows.policyReadsRow.domain false w args /\ laidMetH Tryz.prog J9q w) /\ sizedMet enc Tryz.prog Tryz.f14 (OpenSpec.ofChange Rows.policyReadsSpec) false w args)
     (Rows.policyReadsSpec.post enc Tryz.prog Tryz.f14 false true false false):=by
 refine K1z (C:=Tryz.checked) (X:=fun w _=>laidMetH Tryz.prog J9q w) (fun _ _ _ hh h=>h.of_heap hh) own started (by kernel_rfl) Tryz.func14
  (ChangeSpec.witness_shaped (enc:=enc) (C:=Tryz.checked) (os:=os) (X:=fun w _=>laidMetH Tryz.prog J9q w) false (World.laidAll Tryz.prog os J9q) #[.agg #[.int .i64 0,.slice none 0 0,.slice none 0 0],.int .i64 0,.string ⟨#[]⟩] 8 (World.laidAll_os _ _ _)
   (World.shaped_of_ZipB (by kernel_rfl) (by kernel_rfl)) (by kernel_rfl) (by kernel_rfl) (by kernel_rfl)
   (by rw [MakeChecks.laidMetH_plain _ _ _ (by kernel_rfl)]; exact laidMet_laidAll _ (by kernel_rfl) (by kernel_rfl))) ?_
 intro W base args ds gs before hval0 hW hc hsz0 hL hSh _;have hmx:=J7j hSh;have hval:∀ (j:Nat) t v,Tryz.f14.params[j]?=some t -> args[j]?=some v -> Value.okWide Tryz.prog W .any base t v:=hval0;have hsz:(DataW.weightsEach Tryz.prog (Tryz.f14.params.toList ++ Rows.policyReadsSpec.plain.varTypes Tryz.prog) (ds ++ gs)).all (· <= reachBytes)=true:=hsz0;have hW':=hW;obtain ⟨p,q,hA0,hV,rfl,hfz,hnd⟩:=hW;have hA:DataW.TrodAll enc Tryz.prog W 0 (fun _=>true) true Tryz.f14.params.toList args.toList ds p:=hA0;rw [Tryz.params14] at hA hval hsz;obtain ⟨v0,vs0,d0,ds0,p0,q0,hargs,rfl,rfl,h0,r0⟩:=trodAll_cons hA;obtain ⟨v1,vs1,d1,ds1,p1,q1,rfl,rfl,rfl,h1,r1⟩:=trodAll_cons r0;obtain ⟨v2,vs2,d2,ds2,p2,q2,rfl,rfl,rfl,h2,r2⟩:=trodAll_cons r1;obtain ⟨rfl,rfl,rfl⟩:=trodAll_nil r2;obtain rfl:args=#[v0,v1,v2]:=by cases args; simp_all
 obtain ⟨rfl,rfl⟩:=trodVars_none hV;have hfit:∀ x ∈ DataW.weightsEach Tryz.prog [25,3,9] [d0,d1,d2],x <= 140737488351232:=fun x hx=>by
  have:=List.all_eq_true.1 (show (DataW.weightsEach Tryz.prog [25,3,9] [d0,d1,d2]).all (· <= reachBytes)=true from hsz) x hx
  exact Nat.le_trans (of_decide_eq_true this) (by decide)
 obtain ⟨f0,g0⟩:=Q4u hfit;obtain ⟨f1,g1⟩:=Q4u g0;obtain ⟨f2,g2⟩:=Q4u g1;have k0:=h0;have lt0:∀ x ∈ p0,x.block < W.heap.size:=by obtain ⟨m,hm⟩:=k0; exact DataW.trod_lt m _ _ _ hm
 obtain ⟨t0,HI0⟩:=Z4e (hval 0 25 v0 rfl rfl) h0 f0;have k1:=h1;have lt1:∀ x ∈ p1,x.block < W.heap.size:=by obtain ⟨m,hm⟩:=k1; exact DataW.trod_lt m _ _ _ hm
 obtain ⟨z1,rfl,rfl,rfl,wz1⟩:=open_int Tryz.underlying3 (hval 1 3 v1 rfl rfl) h1;have k2:=h2;have lt2:∀ x ∈ p2,x.block < W.heap.size:=by obtain ⟨m,hm⟩:=k2; exact DataW.trod_lt m _ _ _ hm
 obtain ⟨s2,rfl⟩:=okWide_string Tryz.underlying9 (hval 2 9 v2 rfl rfl);have hcall:Calls Tryz.prog 14 #[v0,.int .i64 z1,.string s2] W fun e W'=>e=.returned (.bool true) /\ Ext W W':=by
  have hz1:z1 < 2 ^ 63:=by have h:=wz1; unfold Lit.wf at h; rw [Bool.and_eq_true,decide_eq_true_eq,decide_eq_true_eq] at h; have h2:IntKind.max .i64=9223372036854775807:=(by decide); rw [h2] at h; omega
  exact J5j _ _ _ _ _ HI0 hz1 hmx (J6b hL)
 clear hA0 hval0 hsz0;refine hcall.mono fun e W' ⟨he,bel⟩=>?_;subst he;exact ⟨_,rfl,_,_,_,[],_,[],hW',trodAll_mk1 (shut_bool Tryz.underlying4 _),(trodAll_cons_mk (Below.trod laidOut (by kernel_rfl) (of_decide_eq_true (by kernel_rfl)) k0 bel lt0) (trodAll_cons_mk (shut_int Tryz.underlying3 wz1) (trodAll_cons_mk (Below.trod laidOut (by kernel_rfl) (of_decide_eq_true (by kernel_rfl)) k2 bel lt2) trodAll_mk0))),rfl,bel.frame _,fun h=>by cases h⟩
theorem J3a:Tryz.pinned.checked.prog.funcNamed Rows.policyReadsRow.func=some 14:=by kernel_rfl
theorem J3n:Tryz.f14.isInstance Tryz.pinned.checked.prog Rows.policyReadsRow.origin Rows.policyReadsRow.targs:=of_decide_eq_true (by kernel_rfl)
theorem J6d:(Rows.policyReadsRow.wf (OpenSpec.ofChange Rows.policyReadsSpec):Bool)=true:=by kernel_rfl
theorem J6i:(Tryz.f14.params.all (Tryz.prog.readableRec ·):Bool)=true:=by kernel_rfl
theorem J6c:(namedTie Tryz.prog Rows.policyReadsRow.named Rows.policyReadsSpec.vars:Bool)=true:=by kernel_rfl
theorem J6h:((Rows.policyReadsRow.stops == []):Bool)=true:=by kernel_rfl
theorem J6g:((Rows.policyReadsRow.knobs == []):Bool)=true:=by kernel_rfl
theorem J6f:((Rows.policyReadsRow.inPlace == Tryz.prog.inPlace 14):Bool)=true:=by kernel_rfl
theorem J5s:((Rows.policyReadsRow.unfollowed == Tryz.prog.unfollowed 14):Bool)=true:=by kernel_rfl
theorem J5z:((Rows.policyReadsRow.recurses == Tryz.prog.recurses 14):Bool)=true:=by kernel_rfl
theorem J5g:((Rows.policyReadsRow.named == Tryz.prog.varsNamed 14):Bool)=true:=by kernel_rfl
theorem J5u:((Rows.policyReadsRow.maps == (Tryz.f14.params.toList ++ Rows.policyReadsSpec.plain.varTypes Tryz.prog).any (Tryz.prog.mapsRec ·)):Bool)=true:=by kernel_rfl
theorem J5x:((Rows.policyReadsRow.ifaces == (Tryz.f14.params.toList ++ Rows.policyReadsSpec.plain.varTypes Tryz.prog).any (Tryz.prog.ifacesRec ·)):Bool)=true:=by kernel_rfl
theorem J5m:((Rows.policyReadsRow.mapsOut == Tryz.prog.mapsAmong Tryz.f14.resultTypes.toList):Bool)=true:=by kernel_rfl
theorem J4y:((Rows.policyReadsRow.loops == (Tryz.f14.params.toList ++ Rows.policyReadsSpec.plain.varTypes Tryz.prog).any (Tryz.prog.loopsFrom ·)):Bool)=true:=by kernel_rfl
theorem J5y:((Rows.policyReadsRow.wideKeys == (Tryz.f14.params.toList ++ Rows.policyReadsSpec.plain.varTypes Tryz.prog ++ Tryz.f14.resultTypes.toList).any (Tryz.prog.wideKeysFrom ·)):Bool)=true:=by kernel_rfl
theorem J5n:(Rows.policyReadsSpec.vars.all (Tryz.prog.varReadable ·):Bool)=true:=by kernel_rfl
theorem J5e:(Tryz.f14.resultTypes.all (fun t=>Tryz.prog.readableRec t && decide (t < Tryz.prog.types.size)):Bool)=true:=by kernel_rfl
theorem J5w:((Rows.policyReadsRow.ifacesOut == Tryz.f14.resultTypes.toList.any (Tryz.prog.ifacesRec ·)):Bool)=true:=by kernel_rfl
theorem J5p:((Rows.policyReadsRow.loopsOut == Tryz.f14.resultTypes.toList.any (Tryz.prog.loopsFrom ·)):Bool)=true:=by kernel_rfl
theorem J5l:((Rows.policyReadsRow.plainKeys == Tryz.prog.plainKeys):Bool)=true:=by kernel_rfl
theorem J5i:(Rows.policyReadsRow.shortTexts.isNone:Bool)=true:=by kernel_rfl
theorem J4z:((Rows.policyReadsRow.lifted == Tryz.prog.liftsFinal):Bool)=true:=by kernel_rfl
theorem J4x:((Tryz.prog.make == some Rows.policyReadsRow.make):Bool)=true:=by kernel_rfl
theorem J5a:(Rows.policyReadsRow.domain.isEmpty && (Rows.policyReadsRow.kinds == []):Bool)=true:=by kernel_rfl
theorem J4w:((Rows.policyReadsRow.pinned == Rows.policyReadsRow.pinnedBy):Bool)=true:=by kernel_rfl
theorem J4v:((Rows.policyReadsRow.veiled == (Tryz.f14.params.toList ++ Rows.policyReadsSpec.plain.varTypes Tryz.prog ++ Tryz.f14.resultTypes.toList).any (Tryz.prog.veiledRec ·)):Bool)=true:=by kernel_rfl
theorem J5t:(Rows.policyReadsRow.veiledFits Tryz.prog Tryz.f14.params.toList (Tryz.f14.params.toList ++ Rows.policyReadsSpec.plain.varTypes Tryz.prog ++ Tryz.f14.resultTypes.toList):Bool)=true:=by kernel_rfl
theorem J3z:joinedFacts Tryz.pinned.checked.prog 14 Tryz.f14 Rows.policyReadsSpec Rows.policyReadsRow=true :=
 J0j Tryz.prog 14 Tryz.f14 Rows.policyReadsSpec Rows.policyReadsRow J6d J1t J1k J6i J6c J6h J1e J6g J1c J6f J5s J5z J5g J5u J5x J5m J4y J5y J5n J5e J5w J5p J5l J5i J0v J0x J4z J4x J5a J4w J4v J5t
theorem J4h:Rows.PolicyReadsSaid :=
 OpenClaim.holds_of_wide 14 Tryz.f14 rfl rfl rfl rfl rfl rfl rfl ⟨rfl,rfl,rfl,rfl,rfl⟩ rfl rfl rfl rfl rfl J3a Tryz.func14 J3z
  J3n (by unfold Func.isWrapper; first | (rw [if_pos (by decide +kernel)]; kernel_rfl) | (rw [if_neg (by decide +kernel)]; exact ⟨rfl,rfl⟩))
  (fun os started H enc _=>J4a os started H enc)
theorem J3y:Rows.policyReadsRow.wfByText (OpenSpec.ofChange Rows.policyReadsSpec)=true:=by kernel_rfl
theorem J4q:Tryz.pinned.checked.prog.mainIs=some (Rows.policyReadsCard.stood.harness.1,Rows.policyReadsCard.stood.harness.2.toList):=by kernel_rfl
theorem J4e:Rows.policyReadsCard.stood.looks=Tryz.pinned.checked.prog.looks []:=by kernel_rfl
theorem J4r:false=Rows.policyReadsRow.goesBy Tryz.pinned.checked.prog:=by kernel_rfl
theorem J3q:([25,3,9].all fun u=>!Tryz.prog.wantsStandIn u)=true:=by kernel_rfl
theorem policyReads_card:Rows.PolicyReadsCardSaid :=
 Claim7.holds_tied_plain_at .later [] [.data,.data,.data,.data,.widerDeep,.pinned] true _ false J4h (fun _ h=>by cases h) J3y (fun _ h=>by cases h) policyReads_row_tie rfl ⟨rfl,rfl⟩ J4q rfl
  (fun f fn hf hfn=>by
   obtain rfl:f=14:=Option.some.inj (J3a.symm.trans hf) |>.symm
   obtain rfl:fn=Tryz.f14:=(Option.some.inj (Tryz.func14.symm.trans hfn)).symm;exact ⟨J4e,fun j t ht=>by
    have ht:#[25,3,9][j]?=some t:=Tryz.params14 ▸ ht;have hm:t ∈ [25,3,9]:=by simpa using Array.mem_of_getElem? ht
    exact (show Tryz.prog.wantsStandIn t=false by simpa using List.all_eq_true.1 J3q t hm)⟩)
  J4r
#print axioms policyReads_card
end Go.Proofs.YthnobngcipaljaaGreatDoor
