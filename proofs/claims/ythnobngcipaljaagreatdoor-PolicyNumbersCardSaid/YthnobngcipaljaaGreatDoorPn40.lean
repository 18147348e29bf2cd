/- Contract of the reference: Regret. What the law PolicyNumbers needs: J3y compared; the reference's Kept as the call's own list. -/
import Derived.Test.YthnobngcipaljaaGreatDoorPn39
import Derived.Test.YthnobngcipaljaaGreatDoorPn37
import Derived.Test.YthnobngcipaljaaGreatDoorPn35
set_option maxRecDepth 1000000
set_option maxHeartbeats 64000000
set_option linter.unusedVariables false
set_option linter.unusedSimpArgs false
set_option linter.constructorNameAsVariable false
open Go.Lib (hid)
namespace Go.Proofs
open Go.RowKit Go.Tw Go.Flow
attribute [local go_sem] Oper.semAt_some
theorem Z6r (s:Q0b) (i:Nat):J1y (alone s i)=Q7b s i:=by
 unfold Q7b;cases alone s i <;> rfl
theorem X9y (w:World) (v u:Value) (s:Q0b) (p:List Rul) (hv:Q0f w v s) (hu:Q0j w u p) (hS:Q0u s) (hp:Q1c s.hist p=0) :
    Calls Tryz.prog 67 #[v,u] w fun e w'=>e=.returned (.int .i64 (X8l s p)) /\ Ext w w':=by
 obtain ⟨a,b,rfl,h2⟩:=hv;obtain ⟨A,capa,rfl,-,-,-⟩:=h2.ships.opened;obtain ⟨B,capb,rfl,-,-,hcb⟩:=h2.members.opened;obtain ⟨rv,rfl,hr⟩:=hu;obtain ⟨R,capr,rfl,-,-,-⟩:=hr.opened;have HCB:=hid hcb;have HV:=hid hS;have HP:=hid hp;have HSE:Hid (∀ W',Ext w W' -> Q0f W' (.agg #[.int .i64 s.limit,.slice A s.ships.length capa,.slice B s.members.length capb]) s):=hid (fun W' hW=>⟨_,_,rfl,h2.ext hW⟩);have HPO:Hid (∀ W',Ext w W' -> Q0j W' (.agg #[.slice R p.length capr]) p):=hid (fun W' hW=>⟨_,rfl,hr.ext hW⟩);have hpl:p.length <= 100:=by have:=X2v hS; have:=congrArg List.length (Q2l.1 hp); rw [List.length_map] at this; omega
 have HPL:=hid hpl;have h8:=hS.some.2;have h6:=hS.tides.2;have HT:Hid (∀ j,j < s.members.length -> (Q0c s.members j).length=s.ships.length):=hid (fun j hj=>(hS.shaped j hj).1);obtain ⟨T,hT⟩:∃ T,s.ships.length=T:=⟨_,rfl⟩;obtain ⟨M,hM⟩:∃ M,s.members.length=M:=⟨_,rfl⟩;obtain ⟨N,hN⟩:∃ N,p.length=N:=⟨_,rfl⟩;have HTT:=hid hT;have HM:=hid hM;rw [hT,hM] at HSE;rw [hN] at HPO;rw [hM] at h8 HCB;rw [hT] at h6;rw [hT,hM,hN];clear h2 hr hS hp hpl hcb hT hM hN;go_enter Tryz.func67,Tryz.ntmps67;go_wp2_with fail;obtain ⟨W,hWW,k0,k1,HXW,eW⟩:=Q2t w 25 #[.int .i64 s.limit,.slice A T capa,.slice B M capb] 47 #[.slice R N capr];rw [hWW];clear hWW;obtain ⟨gs,hgs⟩:∃ x,w.heap.size=x:=⟨_,rfl⟩;rw [hgs] at k0 k1 eW ⊢;have K0:=hid k0;have K1:=hid k1;have c0:=(k0).cell 0;have c1:=(k0).cell 1;have c2:=(k0).cell 2;simp only [Go.Tw.gA,Go.Tw.gB,Go.Tw.gC] at c0 c1 c2;have d0:=(k1).cell 0;simp only [Go.Tw.gA,Go.Tw.gB] at d0;clear k0 k1 hgs eW;go_wp2_with (go_at_call 30; refine (Y5k _ _ _ s p (HSE.out W HXW.out) (HPO.out W HXW.out) HV.out HP.out).mono ?_; rintro e wk ⟨xk,rfl,hik,hxk⟩; refine halted ?_);obtain ⟨Xk,capk,rfl,-,-,hck⟩:=hik.opened;have HCK:=hid hck;have HKL:=kept_len s p;obtain ⟨L,hL⟩:∃ L,Q2o s p=L:=⟨_,rfl⟩;have HLE:=hid hL;rw [hL,HM.out] at HKL;rw [hL] at HCK ⊢;have HXK:=hid (HXW.out.trans hxk);have KK0:=hid (K0.out.ext hxk);have KK1:=hid (K1.out.ext hxk);clear hck hik hxk hL c0 c1 c2 d0;unfold Q1j;go_wp2_with fail
 go_loopw [6,7] (fun sv iv wr=>∃ (k:Nat) (m:Int),k <= L.length /\ iv=.int .i64 k /\ sv=.int .i64 m /\ m=X7j s p k /\ Ext wk wr) (fun _ iv _=>L.length - (intOf iv).toNat)
 case atStart=>exact ⟨0,0,Nat.zero_le _,rfl,rfl,by simp [X7j],Ext.refl _⟩
 case round =>
  obtain ⟨k,m,hk,rfl,rfl,hm,hxr⟩:=hrel;have HMM:=hid hm;have HXR:=hid hxr;clear hm
  by_cases hlt:k < L.length
  . obtain ⟨bk,ok,rfl,hkc⟩:=HCK.out k hlt
    have hin:0 <= ix L k /\ ix L k < s.members.length:=by
     have:=Q5l s p;rw [HLE.out] at this;exact this _ (by rw [Q4n hlt]; exact List.getElem_mem hlt)
    have hsu:=X4a s p (k:=k) (by rw [HLE.out]; exact hlt)
    have hbd:=Y3v HV.out p (k + 1) (by rw [HLE.out]; exact hlt)
    have hbd0:=Z0t HV.out p hin;rw [HLE.out] at hsu;obtain ⟨j,hj⟩:∃ j:Nat,ix L k=(j:Int):=⟨(ix L k).toNat,by omega⟩
    rw [hj] at hkc hin hsu hbd0;have hjl:j < s.members.length:=by omega
    have hjM:j < M:=by rw [<- HM.out]; exact hjl
    obtain ⟨bm,off,x0,y0,z0,rfl,-,-,e1,-⟩:=HCB.out j hjM;have hTj:=HT.out j hjl;have HAL:=hid (fun (W:World) (hW:Ext w W)=>Z5k W _ s j (HSE.out W hW) HV.out hjl);rw [Z6r] at HAL;have HCL:=hid (fun (W:World) (hW:Ext w W)=>(by
     have h:=X3c W _ _ s p j (HSE.out W hW) (HPO.out W hW) hjl hTj (by rw [HTT.out]; omega) HPL.out
     rw [Z1y HV.out.shaped HP.out hjl hTj] at h;exact h:Calls Tryz.prog 106 #[.agg #[.int .i64 s.limit,.slice A T capa,.slice (some ⟨bm,off,none⟩) M capb],.agg #[.slice R N capr],.int .i64 (j:Int)] W fun e w'=>∃ x,e=.returned x /\ Q0r w' x (Q0i p (Q0c s.members j)) /\ Ext W w'))
    have hcd:=Q6m HV.out (Q0i p (Q0c s.members j)) (by rw [Q1p,hTj]; exact Nat.le_refl _)
    have had:=X8k (s:=s) j;rw [HTT.out] at had;have hrt:Z9q s p (j:Int)=Q0k s.members j * (countB (Q0i p (Q0c s.members j)) - Q7b s j):=by unfold Z9q; rw [Int.toNat_natCast]
    rw [hrt] at hsu hbd0;obtain ⟨cl,hcl⟩:∃ x,Q0i p (Q0c s.members j)=x:=⟨_,rfl⟩;rw [hcl] at HCL hcd hsu hbd0;obtain ⟨cn,hcn⟩:∃ x,countB cl=x:=⟨_,rfl⟩;rw [hcn] at hcd hsu hbd0;have HCN:=hid hcn;obtain ⟨an,han⟩:∃ x,Q7b s j=x:=⟨_,rfl⟩;rw [han] at had hsu HAL hbd0;obtain ⟨wt,hwt⟩:∃ x,Q0k s.members j=x:=⟨_,rfl⟩;rw [hwt] at e1 hsu hbd0;have hwd:IntKind.i64.wrap (cn - an)=cn - an:=X0m (by omega) (by omega)
    obtain ⟨df,hdf⟩:∃ x,cn - an=x:=⟨_,rfl⟩;rw [hdf] at hwd hsu hbd0;obtain ⟨pr,hpr⟩:∃ x,wt * df=x:=⟨_,rfl⟩;rw [hpr] at hsu hbd0;have hwp:IntKind.i64.wrap pr=pr:=X0m (by omega) (by omega)
    rw [<- HMM.out] at hsu;rw [hsu] at hbd;have hws:IntKind.i64.wrap (m + pr)=m + pr:=X0m (by omega) (by omega)
    have HSU:=hid hsu;have HDF:=hid hdf;have HPR:=hid hpr;have HWD:=hid hwd;have HWP:=hid hwp;have HWS:=hid hws;have hjI:(j:Int) < M:=by omega
    have hkI:(k:Int) < L.length:=by omega
    have hk2:k < 4096:=by omega
    have HKC:=hid (hkc);have HE1:=hid e1;obtain ⟨wq,rfl⟩:∃ Z,Z=wr:=⟨_,rfl⟩;have hdr:=(Ext.refl wq).drew;clear hin hj hjl hTj hcd had hrt hcl hcn han hwt hwd hdf hpr hwp hws hsu hbd hbd0 hkc e1 hxr;go_wp2_with fail;refine Flow.Q1d [.w,.p,.p,.p,.w,.w,.p,.p,.p,.p,.p,.p,.p] [0,1,2,3,4,5,6,7,8,9,10,11,12] [[],[],[],[1,2],[3],[0,4],[5],[5,6],[5,6],[5,6],[0,1,2,3,4,5,6,7],[0,1,2,3,4,5,6,7,8,10],[0,1,2,3,4,5,6,7,8,9,10,11]]
     [.c 0 (.agg #[.int .i64 s.limit,.slice A T capa,.slice (some ⟨bm,off,none⟩) M capb]),.c 1 (.slice (some ⟨bk,ok,none⟩) L.length capk),.c 2 (.int .i64 (k:Int)),.c 3 (.pointer (some ⟨bk,ok + k,none⟩)),.c 4 (.int .i64 (j:Int)),⟨fun v wz=>(fun v w'=>∃ x z,v 5=.tuple #[x,.int .i64 an,z]) v wz,by intro v a b hx h; exact h⟩,⟨fun v wz=>(fun v w'=>v 6=v 5) v wz,by intro v a b hx h; exact h⟩,⟨fun v wz=>(fun v w'=>True) v wz,by intro v a b hx h; exact h⟩,.c 8 (.int .i64 an),⟨fun v wz=>(fun v w'=>True) v wz,by intro v a b hx h; exact h⟩,⟨fun v wz=>(fun v w'=>True) v wz,by intro v a b hx h; exact h⟩,.c 11 (.int .i64 an),⟨fun v wz=>(fun v w'=>True) v wz,by intro v a b hx h; exact h⟩]
     (by kernel_rfl) rfl (by kernel_rfl) ⟨?g0,?g1,?g2,?g3,?g4,?g5,?g6,?g7,?g8,?g9,?g10,?g11,?g12,trivial⟩ ?post
    case g0=>
     intro v w1 hx;intro bb hbb;intro K hK;have o1:bb.eval (.tmp 2)=.pointer (some ⟨gs,0,none⟩):=by rw [hbb]; dsimp only; (try simp (discharger:=decide) only [eval_put_ne]); rfl
     exact Q0g (.tmp 2) _ rfl Tryz.Q5h Tryz.Q3p o1 (KK0.out.ext (HXR.out.trans (hdr.trans hx))) rfl (hK _ _ (Ext.refl _) rfl)
    case g1 | g2=>
     intro v w1 hx;intro bb hbb;subst hbb;refine ⟨_,fun w=>?_,rfl⟩;go_simp
    case g3=>
     intro v w1 hx;(repeat intro (zq:v _=_));intro bb hbb;subst hbb;refine ⟨_,fun w=>?_,rfl⟩;go_simp
    case g4=>
     intro v w1 hx;(repeat intro (zq:v _=_));intro bb hbb;subst hbb;have n0:=(HXR.out.trans (hdr.trans hx)).cell HKC.out;intro K hK;go_simp;exact hK _ _ (Ext.refl _) rfl
    case g5=>
     intro v w1 hx;(repeat intro (zq:v _=_));intro bb hbb;subst hbb;intro K hK;go_simp;refine Q0d (HAL.out w1 (HXK.out.trans (HXR.out.trans (hdr.trans hx)))) ?_;rintro e w2 ⟨x,rfl,h1,hx2⟩;exact ⟨_,rfl,hK _ _ hx2 ⟨_,_,rfl⟩⟩
    case g6=>
     intro v w1 hx _;intro bb hbb;have o1:bb.eval (.tmp 26)=v 5:=by rw [hbb]; dsimp only; (try simp (discharger:=decide) only [eval_put_ne]); rw [Q0a (by simp only [size_put]; exact (by decide:26 < 53))]
     exact ⟨_,fun w=>Y8p (.tmp 26) rfl o1,rfl⟩
    case g7=>
     intro v w1 hx (q5:(fun v w'=>∃ x z,v 5=.tuple #[x,.int .i64 an,z]) v w1) (q6:(fun v w'=>v 6=v 5) v w1);intro bb hbb;obtain ⟨x,z,h5⟩:=q5;have o1:bb.eval (.tmp 20)=.tuple #[x,.int .i64 an,z]:=by rw [<- h5,<- q6]; rw [hbb]; dsimp only; (try simp (discharger:=decide) only [eval_put_ne]); rw [Q0a (by simp only [size_put]; exact (by decide:20 < 53))]
     exact ⟨_,fun w=>Q6n (.tmp 20) 0 rfl o1 (fun w=>J6w w _ _ _),trivial⟩
    case g8=>
     intro v w1 hx (q5:(fun v w'=>∃ x z,v 5=.tuple #[x,.int .i64 an,z]) v w1) (q6:(fun v w'=>v 6=v 5) v w1);intro bb hbb;obtain ⟨x,z,h5⟩:=q5;have o1:bb.eval (.tmp 20)=.tuple #[x,.int .i64 an,z]:=by rw [<- h5,<- q6]; rw [hbb]; dsimp only; (try simp (discharger:=decide) only [eval_put_ne]); rw [Q0a (by simp only [size_put]; exact (by decide:20 < 53))]
     exact ⟨_,fun w=>Q6n (.tmp 20) 1 rfl o1 (fun w=>J6q w _ _ _),rfl⟩
    case g9=>
     intro v w1 hx (q5:(fun v w'=>∃ x z,v 5=.tuple #[x,.int .i64 an,z]) v w1) (q6:(fun v w'=>v 6=v 5) v w1);intro bb hbb;obtain ⟨x,z,h5⟩:=q5;have o1:bb.eval (.tmp 20)=.tuple #[x,.int .i64 an,z]:=by rw [<- h5,<- q6]; rw [hbb]; dsimp only; (try simp (discharger:=decide) only [eval_put_ne]); rw [Q0a (by simp only [size_put]; exact (by decide:20 < 53))]
     exact ⟨_,fun w=>Q6n (.tmp 20) 2 rfl o1 (fun w=>J6v w _ _ _),trivial⟩
    case g10=>
     intro v w1 hx (q0:v 0=_) (q1:v 1=_) (q2:v 2=_) (q3:v 3=_) (q4:v 4=_) _ _ _;intro bb hbb;subst hbb;exact ⟨_,fun w=>X1o (.tmp 27) rfl rfl,trivial⟩
    case g11=>
     intro v w1 hx (q0:v 0=_) (q1:v 1=_) (q2:v 2=_) (q3:v 3=_) (q4:v 4=_) _ _ _ (q8:v 8=_) _;intro bb hbb;subst hbb;refine ⟨_,fun w=>?_,rfl⟩;go_simp
    case g12=>
     intro v w1 hx (q0:v 0=_) (q1:v 1=_) (q2:v 2=_) (q3:v 3=_) (q4:v 4=_) _ _ _ (q8:v 8=_) _ _ (q11:v 11=_);intro bb hbb;subst hbb;exact ⟨_,fun w=>X1o (.tmp 29) rfl rfl,trivial⟩
    case post =>
     intro v w1 hx (q0:v 0=_) (q1:v 1=_) (q2:v 2=_) (q3:v 3=_) (q4:v 4=_) (q5:(fun v w'=>∃ x z,v 5=.tuple #[x,.int .i64 an,z]) v w1) (q6:(fun v w'=>v 6=v 5) v w1) (q7:(fun v w'=>True) v w1) (q8:v 8=_) (q9:(fun v w'=>True) v w1) (q10:(fun v w'=>True) v w1) (q11:v 11=_) (q12:(fun v w'=>True) v w1);simp only [Flow.All,Flow.acts,Act.put];go_simp;have hxx:=hdr.trans hx;have HX6:=hid (HXR.out.trans hxx);have HXA:=hid (HXK.out.trans (HXR.out.trans hxx));have HE6:=hid ((HXK.out.trans (HXR.out.trans hxx)).cell HE1.out);obtain ⟨w6,rfl⟩:∃ Z,Z=w1:=⟨_,rfl⟩;clear hx hxx hdr q0 q1 q2 q3 q4 q5 q6 q7 q8 q9 q10 q11 q12;have hdr:=(Ext.refl w6).drew;go_wp2_with fail;refine Flow.Q1d [.p,.p,.w,.p,.p,.p,.w,.p,.p,.w,.w,.w,.p,.p,.p,.w,.w,.w,.p,.p,.p,.p,.p] [0,1,2,3,4,5,6,7,8,9,10,11,12,13,14,15,16,17,18,19,20,21,22] [[],[],[1],[],[],[3,4],[5],[2,6],[7],[8],[],[],[],[],[12,13],[14],[10,11,15],[16],[],[17,18],[9,19],[0,20],[0,1,2,3,4,5,6,7,8,9,10,11,12,13,14,15,16,17,18,19,20,21]]
      [.c 0 (.int .i64 m),.c 1 (.pointer (some ⟨gs,2,none⟩)),.c 2 (.slice (some ⟨bm,off,none⟩) M capb),.c 3 (.slice (some ⟨bk,ok,none⟩) L.length capk),.c 4 (.int .i64 (k:Int)),.c 5 (.pointer (some ⟨bk,ok + k,none⟩)),.c 6 (.int .i64 (j:Int)),.c 7 (.pointer (some ⟨bm,off + j * 5,none⟩)),.c 8 (.pointer (some ⟨bm,off + j * 5 + 1,none⟩)),.c 9 (.int .i64 wt),.c 10 (.agg #[.int .i64 s.limit,.slice A T capa,.slice (some ⟨bm,off,none⟩) M capb]),.c 11 (.agg #[.slice R N capr]),.c 12 (.slice (some ⟨bk,ok,none⟩) L.length capk),.c 13 (.int .i64 (k:Int)),.c 14 (.pointer (some ⟨bk,ok + k,none⟩)),.c 15 (.int .i64 (j:Int)),⟨fun v wz=>(fun v w'=>Q0r w' (v 16) cl) v wz,by intro v a b hx h; exact Q0r.ext h hx⟩,.c 17 (.int .i64 cn),.c 18 (.int .i64 an),.c 19 (.int .i64 df),.c 20 (.int .i64 pr),.c 21 (.int .i64 (m + pr)),.c 22 (.int .i64 (m + pr))]
      (by kernel_rfl) rfl (by kernel_rfl) ⟨?g0,?g1,?g2,?g3,?g4,?g5,?g6,?g7,?g8,?g9,?g10,?g11,?g12,?g13,?g14,?g15,?g16,?g17,?g18,?g19,?g20,?g21,?g22,trivial⟩ ?post
     case g0 | g1 | g3 | g4 | g12 | g13 | g18=>
      intro v w1 hx;intro bb hbb;subst hbb;refine ⟨_,fun w=>?_,rfl⟩;go_simp
     case g2=>
      intro v w1 hx;(repeat intro (zq:v _=_));intro bb hbb;subst hbb;have n0:w1.cell? ⟨gs,2,none⟩=some (.slice (some ⟨bm,off,none⟩) M capb):=(KK0.out.ext (HX6.out.trans (hdr.trans hx))).cell 2;intro K hK;go_simp;exact hK _ _ (Ext.refl _) rfl
     case g5 | g7 | g8 | g14=>
      intro v w1 hx;(repeat intro (zq:v _=_));intro bb hbb;subst hbb;refine ⟨_,fun w=>?_,rfl⟩;go_simp
     case g6 | g15=>
      intro v w1 hx;(repeat intro (zq:v _=_));intro bb hbb;subst hbb;have n0:=(HX6.out.trans (hdr.trans hx)).cell HKC.out;intro K hK;go_simp;exact hK _ _ (Ext.refl _) rfl
     case g9=>
      intro v w1 hx;(repeat intro (zq:v _=_));intro bb hbb;subst hbb;have n0:=(hdr.trans hx).cell HE6.out;intro K hK;go_simp;exact hK _ _ (Ext.refl _) rfl
     case g10=>
      intro v w1 hx;intro bb hbb;intro K hK;have o1:bb.eval (.tmp 2)=.pointer (some ⟨gs,0,none⟩):=by rw [hbb]; dsimp only; (try simp (discharger:=decide) only [eval_put_ne]); rfl
      exact Q0g (.tmp 2) _ rfl Tryz.Q5h Tryz.Q3p o1 (KK0.out.ext (HX6.out.trans (hdr.trans hx))) rfl (hK _ _ (Ext.refl _) rfl)
     case g11=>
      intro v w1 hx;intro bb hbb;intro K hK;have o1:bb.eval (.tmp 3)=.pointer (some ⟨gs + 1,0,none⟩):=by rw [hbb]; dsimp only; (try simp (discharger:=decide) only [eval_put_ne]); rfl
      exact Q0g (.tmp 3) _ rfl Tryz.Q6w Tryz.Q4t o1 (KK1.out.ext (HX6.out.trans (hdr.trans hx))) rfl (hK _ _ (Ext.refl _) rfl)
     case g16=>
      intro v w1 hx;(repeat intro (zq:v _=_));intro bb hbb;subst hbb;intro K hK;go_simp;refine Q0d (HCL.out w1 (HXA.out.trans (hdr.trans hx))) ?_;rintro e w2 ⟨u,rfl,hu,hx2⟩;exact ⟨_,rfl,hK _ _ hx2 hu⟩
     case g17=>
      intro v w1 hx (q16:(fun v w'=>Q0r w' (v 16) cl) v w1);intro bb hbb;subst hbb;intro K hK;go_simp;refine Q0d (Q7o w1 _ cl q16) ?_;rintro e w2 ⟨rfl,hx2⟩;exact ⟨_,rfl,hK _ _ hx2 (congrArg (Value.int .i64) HCN.out)⟩
     case g19=>
      intro v w1 hx;(repeat intro (zq:v _=_));intro bb hbb;subst hbb;have hwd:=HWD.out;have hdf:=HDF.out;refine ⟨.int .i64 df,fun w=>?_,rfl⟩;go_simp
      (try rw [hdf])
      (try rw [hwd])
     case g20=>
      intro v w1 hx;(repeat intro (zq:v _=_));intro bb hbb;subst hbb;have hwp:=HWP.out;have hpr:=HPR.out;refine ⟨.int .i64 pr,fun w=>?_,rfl⟩;go_simp
      (try rw [hpr])
      (try rw [hwp])
     case g21=>
      intro v w1 hx;(repeat intro (zq:v _=_));intro bb hbb;subst hbb;have hws:=HWS.out;refine ⟨.int .i64 (m + pr),fun w=>?_,rfl⟩;go_simp
      (try rw [hws])
     case g22=>
      intro v w1 hx (q0:v 0=_) (q1:v 1=_) (q2:v 2=_) (q3:v 3=_) (q4:v 4=_) (q5:v 5=_) (q6:v 6=_) (q7:v 7=_) (q8:v 8=_) (q9:v 9=_) (q10:v 10=_) (q11:v 11=_) (q12:v 12=_) (q13:v 13=_) (q14:v 14=_) (q15:v 15=_) _ (q17:v 17=_) (q18:v 18=_) (q19:v 19=_) (q20:v 20=_) (q21:v 21=_);intro bb hbb;subst hbb;refine ⟨_,fun w=>?_,rfl⟩;go_simp
     case post =>
      intro v w1 hx;(iterate 16 intro (zq:v _=_));intro (q16:(fun v w'=>Q0r w' (v 16) cl) v w1);(iterate 6 intro (zq:v _=_));simp only [Flow.All,Flow.acts,Act.put];go_simp;have HX7:=hid (HX6.out.trans (hdr.trans hx));clear hx hdr q16;(repeat clear zq);go_wp2;go_roundw
      case rel=>exact ⟨k + 1,m + pr,by omega,by go_num,rfl,HSU.out.symm,HX7.out⟩
      case measure=>simp [intOf]; omega
  . have hkI:¬ (k:Int) < L.length:=by omega
    have hkn:k=L.length:=by omega
    have hall:=Y9j s p;rw [HLE.out,<- hkn,<- HMM.out] at hall;have HA:=hid hall;have HXZ:=hid ((HXK.out.trans hxr));clear hall hxr hkn;go_wp2;go_ret;exact ⟨by rw [<- HA.out] <;> rfl,HXZ.out⟩
end Go.Proofs
namespace Go.Proofs
open Go.RowKit Go.Tw Go.Flow
def J6g (r s:Ratio):Bool:=r.num == s.num && r.den == s.den
def J7c (r:Ratio):Array Value:=#[.int .i64 r.num,.int .i64 r.den]
theorem Y9f (w:World) (r s:Ratio):(binOp .eql 107 (.agg (J7c r)) (.agg (J7c s))).run Tryz.prog w=.ok (.bool (J6g r s)) w:=by
 have u3:=Tryz.underlying3;have a3:∀ w,(isAgg 3).run Tryz.prog w=.ok false w:=fun w=>by kernel_rfl
 have z3:∀ w,(sizeOf 3).run Tryz.prog w=.ok 1 w:=fun w=>by kernel_rfl
 have hS:Tryz.prog.underlying 107=some (.struct (Tryz.prog.fieldsOf 107)):=by kernel_rfl
 have hp:Tryz.prog.stoodInHeld 107=false:=by kernel_rfl
 simp only [J7c];rw [run_eql_struct,show (10000:Nat)=9999 + 1 from rfl,run_equalIn_agg w 9999 107 _ _ hS hp]
 simp only [Program.fieldsOf,Tryz.underlying107];unfold J6g;go_simp
 by_cases h1:r.num=s.num <;> by_cases h2:r.den=s.den <;> simp [h1,h2]
theorem Y8a (w:World) (a b:Int):(binOp .eql 107 (.agg #[.int .i64 a,.int .i64 b]) (.agg #[.int .i64 a,.int .i64 b])).run Tryz.prog w=.ok (.bool true) w:=by
 have h:=Y9f w ⟨a,b⟩ ⟨a,b⟩;have e:J6g ⟨a,b⟩ ⟨a,b⟩=true:=by unfold J6g; simp
 rw [e] at h;exact h
attribute [local go_sem ↓] Q8u
theorem Y2j (w:World) (v u:Value) (s:Q0b) (p:List Rul) (hv:Q0f w v s) (hu:Q0j w u p) (hS:Q0u s) (hp:Q1c s.hist p=0) :
    Calls Tryz.prog 30 #[v,u] w fun e w'=>∃ x,e=.returned x /\ Q0m w' w.heap.size 3 (.int .i64) x (Q2o s p) /\ Ext w w':=by
 obtain ⟨i0,hi,hz0,hz1,hz2⟩:=info_parts Tryz.info3;have h8:=hS.some.2;have HPL:Hid (∀ (w:World) (v u:Value) (i:Nat),i < s.members.length -> Q0f w v s -> Q0j w u p -> Calls Tryz.prog 60 #[v,u,.int .i64 (i:Int)] w fun e w'=>∃ x y,e=.returned (.agg #[x,y]) /\ Q0r w' x (Q0i p (Q0c s.members i)) /\ Q0e w' y ((Q1q s i).Q3z (Q0i p (Q0c s.members i))) /\ Ext w w'):=hid (fun w v u i h h1 h2=>Y5o w v u s p i h1 h2 hS hp h);obtain ⟨a,b,rfl,h2⟩:=hv;obtain ⟨rv,rfl,hr⟩:=hu;obtain ⟨A,capa,rfl,-,-,-⟩:=h2.ships.opened;obtain ⟨B,capb,rfl,-,-,-⟩:=h2.members.opened;obtain ⟨R,capr,rfl,-,-,-⟩:=hr.opened;have H2:=hid h2;have HR:=hid hr;clear h2 hr hS hp;go_enter Tryz.func30,Tryz.ntmps30;go_wp2_with fail;change Code.wp _ _ _ _ ((w.alloc (.cells #[.int .i64 s.limit,.slice A s.ships.length capa,.slice B s.members.length capb] 25)).alloc (.cells #[.slice R p.length capr] 47));obtain ⟨W,hWW,k0,k1,HXW,eW⟩:=Q2t w 25 #[.int .i64 s.limit,.slice A s.ships.length capa,.slice B s.members.length capb] 47 #[.slice R p.length capr];rw [hWW];clear hWW;have K0:=hid k0;have K1:=hid k1;obtain ⟨gs,hgs⟩:∃ x,w.heap.size=x:=⟨_,rfl⟩;rw [hgs] at K0 K1 eW ⊢;clear k0 k1
 go_loopw [5,6] (fun o i wr=>∃ (k:Nat),k <= s.members.length /\ i=.int .i64 k /\ Q0m wr W.heap.size 3 (.int .i64) o (Q3o s p k) /\ Ext W wr) (fun _ i _=>s.members.length - (intOf i).toNat)
 case atStart=>exact ⟨0,Nat.zero_le _,rfl,Q0m.nil _ _ _ _,Ext.refl _⟩
 case round =>
  obtain ⟨k,hk,rfl,hown,hxr⟩:=hrel;have c2:=(K0.out.ext hxr).cell 2;simp only [Go.Tw.gA,Go.Tw.gB,Go.Tw.gC] at c2;have HXR:=hid hxr;have HOW:=hid hown;clear hxr hown
  by_cases hlt:k < s.members.length
  . have hkI:(k:Int) < s.members.length:=by omega
    have hsuc:=X1y s p k;have hkd:Z4x s p k=Z0v s.limit ((Q1q s k).Q3z (Q0i p (Q0c s.members k))):=rfl;have HPK:=hid (fun w v u h1 h2=>HPL.out w v u k hlt h1 h2);obtain ⟨pk,hpk⟩:∃ x,(Q1q s k).Q3z (Q0i p (Q0c s.members k))=x:=⟨_,rfl⟩;rw [hpk] at hkd HPK;obtain ⟨q,hq⟩:∃ x,Z0v s.limit pk=x:=⟨_,rfl⟩;rw [hkd,hq] at hsuc;have HQ:=hid hq;have HSUC:=hid hsuc;have hdr:=(Ext.refl wr).drew;clear hsuc hkd hpk hq
    go_light
    go_wp2;refine Flow.Q1d [.w,.w,.w,.p,.w,.p,.w] [0,1,2,3,4,5,6] [[],[],[],[],[1,2,3],[4],[0,4,5]]
     [.c 0 (.agg #[.int .i64 s.limit,.slice A s.ships.length capa,.slice B s.members.length capb]),.c 1 (.agg #[.int .i64 s.limit,.slice A s.ships.length capa,.slice B s.members.length capb]),.c 2 (.agg #[.slice R p.length capr]),.c 3 (.int .i64 (k:Int)),⟨fun v wz=>(fun v w'=>∃ x y,v 4=.agg #[x,y] /\ Q0e w' y pk) v wz,by rintro v a b hx ⟨x,y,h1,h2⟩; exact ⟨x,y,h1,h2.ext hx⟩⟩,⟨fun v wz=>(fun v w'=>Q0e w' (v 5) pk) v wz,by intro v a b hx h; exact Q0e.ext h hx⟩,.c 6 (.bool (Z0v s.limit pk))]
     (by kernel_rfl) rfl (by kernel_rfl) ⟨?g0,?g1,?g2,?g3,?g4,?g5,?g6,trivial⟩ ?post
    case g0 | g1=>
     intro v w1 hx;intro bb hbb;intro K hK;have o1:bb.eval (.tmp 2)=.pointer (some ⟨gs,0,none⟩):=by rw [hbb]; dsimp only; (try simp (discharger:=decide) only [eval_put_ne]); rfl
     exact Q0g (.tmp 2) _ rfl Tryz.Q5h Tryz.Q3p o1 (K0.out.ext (HXR.out.trans (hdr.trans hx))) rfl (hK _ _ (Ext.refl _) rfl)
    case g2=>
     intro v w1 hx;intro bb hbb;intro K hK;have o1:bb.eval (.tmp 3)=.pointer (some ⟨gs + 1,0,none⟩):=by rw [hbb]; dsimp only; (try simp (discharger:=decide) only [eval_put_ne]); rfl
     exact Q0g (.tmp 3) _ rfl Tryz.Q6w Tryz.Q4t o1 (K1.out.ext (HXR.out.trans (hdr.trans hx))) rfl (hK _ _ (Ext.refl _) rfl)
    case g3=>
     intro v w1 hx;intro bb hbb;subst hbb;refine ⟨_,fun w=>?_,rfl⟩;go_simp
    case g4=>
     intro v w1 hx;(repeat intro (zq:v _=_));intro bb hbb;subst hbb;intro K hK;go_simp;refine Q0d (HPK.out w1 _ _ ⟨_,_,rfl,H2.out.ext (HXW.out.trans (HXR.out.trans (hdr.trans hx)))⟩ ⟨_,rfl,HR.out.ext (HXW.out.trans (HXR.out.trans (hdr.trans hx)))⟩) ?_;rintro e w2 ⟨x,y,rfl,h1,h2,hx2⟩;exact ⟨_,rfl,hK _ _ hx2 ⟨x,y,rfl,h2⟩⟩
    case g5=>
     intro v w1 hx (q4:(fun v w'=>∃ x y,v 4=.agg #[x,y] /\ Q0e w' y pk) v w1);intro bb hbb;obtain ⟨x,y,e4,h4⟩:=q4;have o1:bb.eval (.tmp 18)=.agg #[x,y]:=by rw [hbb]; dsimp only; (try simp (discharger:=decide) only [eval_put_ne]); rw [Q0a (by simp only [size_put]; exact (by decide:18 < 26))]; exact e4
     refine ⟨y,fun w=>?_,h4⟩;go_simp
    case g6=>
     intro v w1 hx (q0:v 0=_) _ (q5:(fun v w'=>Q0e w' (v 5) pk) v w1);intro bb hbb;subst hbb;intro K hK;go_simp;refine Q0d (Y4w w1 _ _ s pk ⟨_,_,rfl,H2.out.ext (HXW.out.trans (HXR.out.trans (hdr.trans hx)))⟩ q5) ?_;rintro e w2 ⟨rfl,hx2⟩;exact ⟨_,rfl,hK _ _ hx2 rfl⟩
    case post =>
     intro v w1 hx;(iterate 4 intro (zq:v _=_));intro (q4:(fun v w'=>∃ x y,v 4=.agg #[x,y] /\ Q0e w' y pk) v w1) (q5:(fun v w'=>Q0e w' (v 5) pk) v w1);(iterate 1 intro (zq:v _=_));simp only [Flow.All,Flow.acts,Act.put];go_simp;have hxx:=HXR.out.trans (hdr.trans hx);have hown:=HOW.out.below (hdr.trans hx);rw [HQ.out];have HXX:=hid hxx;clear hx hdr q4 q5;(repeat clear zq);obtain ⟨w3,rfl⟩:∃ X,X=w1:=⟨_,rfl⟩;cases q with
     | true =>
       have HST:Hid (Q3o s p (k + 1)=Q3o s p k ++ [(k:Int)]):=hid (by rw [HSUC.out,if_pos (by trivial)])
       have hll:(Q3o s p k).length <= 4096:=by have:=Q7t s p k; omega
       have HOW3:=hid hown;have hx3:=HXX.out;clear hxx;go_wp2_with (at_builtin; refine wpList_append_own _ rfl _ _ 22 rfl (W.heap.size) 3 i0 (.int .i64 0) 1 8 Tryz.underlying22 hi hz0 hz1 hz2 rfl (by decide) _ _ _ rfl (World.ownsRow.alloc hown _) ⟨w3.heap.size,0,none⟩ 1 1 [.int .i64 (k:Int)] rfl rfl ?_ ?_ ?_ ?_ ?_ ?_; exact Q3i _ _ _; (focus (simp [Value.oneCell'])); (focus (unfold maxLen; omega)); (focus omega); (focus (have:=hx3.size; simp at this ⊢; omega)); intro v' w1 hown' hgrow _)
       have hx':=Q2e hx3 HOW3.out (Nat.le_refl _) hgrow;go_roundw
       case rel=>exact ⟨k + 1,by omega,by go_num,by rw [HST.out]; exact Q0m.snoc hown',hx'⟩
       case measure=>simp [intOf]; omega
     | false =>
       have HST:Hid (Q3o s p (k + 1)=Q3o s p k):=hid (by rw [HSUC.out]; simp)
       have HOW3:=hid hown;clear hown hxx;go_wp2;go_roundw
       case rel=>exact ⟨k + 1,by omega,by go_num,by rw [HST.out]; exact HOW3.out,HXX.out⟩
       case measure=>simp [intOf]; omega
  . have hkI:¬ (k:Int) < s.members.length:=by omega
    have hke:k=s.members.length:=by omega
    subst hke;go_wp2;go_ret;exact ⟨_,rfl,by rw [<- X5l]; exact Q0m.weaken HOW.out (by have:=K0.out.lt; omega),HXW.out.trans HXR.out⟩
end Go.Proofs
