/- Contract: Regret (of the program). -/
import Derived.Test.YthnobngcipaljaaGreatDoorPp28
set_option maxRecDepth 1000000
set_option maxHeartbeats 64000000
set_option linter.unusedVariables false
set_option linter.unusedSimpArgs false
set_option linter.constructorNameAsVariable false
open Go.Lib (hid)
namespace Go.Proofs
open Go.RowKit Go.Tw Go.Flow
attribute [local go_sem] Oper.semAt_some
def Z7i (s:Q0b) (p:List Rul) (i:Int):Int:=Q0i s.members i.toNat * (countB (Q0m p (Q0c s.members i.toNat)) - Q9n s i.toNat)
def X7d (s:Q0b) (p:List Rul) (k:Nat):Int:=(((Q3r s p).take k).map (Z7i s p)).sum
theorem X7r (s:Q0b) (p:List Rul) {k:Nat} (hk:k < (Q3r s p).length):X7d s p (k + 1)=X7d s p k + Z7i s p (ix (Q3r s p) k):=by
 unfold X7d;rw [List.take_succ_eq_append_getElem hk,List.map_append,List.sum_append,Q4s hk]; simp
theorem Z1n (s:Q0b) (p:List Rul):X7d s p (Q3r s p).length=Y4l s p:=by unfold X7d; rw [List.take_length]; rfl
def Y0a (s:Q0b) (p:List Rul):Int:=if Q1g s p=0 then Y4l s p else 0
theorem Y1y {s:Q0b} (i:Nat):0 <= Q9n s i /\ Q9n s i <= s.ships.length:=by
 unfold Q9n;cases h:alone s i with
 | none=>simp
 | some b =>
   have h1:=countB_le b;have h2:=Q5w _ _ _ _ b h;simp only;omega
theorem Z1c {s:Q0b} (hS:Q1b s) (p:List Rul) {i:Int} (hi:0 <= i /\ i < s.members.length):-6000 <= Z7i s p i /\ Z7i s p i <= 6000:=by
 have hw:=hS.weights i.toNat (by omega)
 have hc:=X0y hS (Q0m p (Q0c s.members i.toNat)) (by rw [Q2n,(hS.shaped i.toNat (by omega)).1]; exact Nat.le_refl _)
 have ha:=Y1y (s:=s) i.toNat;have h6:=hS.tides.2;unfold Z7i;obtain ⟨d,hd⟩:∃ d,countB (Q0m p (Q0c s.members i.toNat)) - Q9n s i.toNat=d:=⟨_,rfl⟩;rw [hd];have hd6:-6 <= d /\ d <= 6:=by omega
 have h1:Q0i s.members i.toNat * (d + 6) <= 1000 * (d + 6):=Int.mul_le_mul_of_nonneg_right hw.2 (by omega)
 have h2:0 <= Q0i s.members i.toNat * (d + 6):=Int.mul_nonneg (by omega) (by omega)
 have h3:Q0i s.members i.toNat * (6 - d) <= 1000 * (6 - d):=Int.mul_le_mul_of_nonneg_right hw.2 (by omega)
 have h4:0 <= Q0i s.members i.toNat * (6 - d):=Int.mul_nonneg (by omega) (by omega)
 rw [Int.mul_add] at h1 h2;rw [Int.mul_sub] at h3 h4
 constructor
 . omega
 . omega
theorem Y7e {s:Q0b} (hS:Q1b s) (p:List Rul):∀ k,k <= (Q3r s p).length -> -6000 * (k:Int) <= X7d s p k /\ X7d s p k <= 6000 * k
 | 0,_=>by simp [X7d]
 | k + 1,h=>by
   have ih:=Y7e hS p k (by omega)
   have hx:=Q8t s p (ix (Q3r s p) k) (by rw [Q4s (show k < (Q3r s p).length by omega)]; exact List.getElem_mem _)
   have:=Z1c hS p hx;rw [X7r s p (by omega)]
   omega
theorem Q7a.bools {w:World} {x:Value} {o:Option (List Bool)} (h:Q7a w x o) (hl:∀ b,o=some b -> b.length <= 4096):Q1q w x (o.getD []):=by
 cases o with
 | none =>
   have h':x=.slice none 0 0:=h;subst h';exact Q8w w
 | some b =>
   have:=hl b rfl;exact Q0q.bools h (show b.length <= 17592186043904 by omega)
theorem Z3b (s:Q0b) (i:Nat):Q9n s i=countB ((alone s i).getD []):=by
 unfold Q9n;cases alone s i <;> rfl
theorem Y0g {n:Int} (h1:-9223372036854775808 <= n) (h2:n <= 9223372036854775807):IntKind.i64.wrap n=n:=by
 rw [IntKind.wrap_i64]; omega
theorem Y5i (w:World) (v u:Value) (s:Q0b) (p:List Rul) (hv:Q0h w v s) (hu:Q0w w u p) (hs:Q3k s) (hp:p.length <= 1000) :
    Calls Tryz.prog 65 #[v,u] w fun e w'=>e=.returned (.tuple #[.int .i64 (Y0a s p),.int .i64 (Q1g s p)]) /\ Ext w w':=by
 obtain ⟨a,b,rfl,h2⟩:=hv;obtain ⟨rv,rfl,hr⟩:=hu;obtain ⟨A,capa,rfl,-,-,-⟩:=h2.ships.opened;obtain ⟨B,capb,rfl,-,-,-⟩:=h2.members.opened;obtain ⟨R,capr,rfl,-,-,-⟩:=hr.opened;have H2:=hid h2;have HR:=hid hr;have HS:=hid hs;clear h2 hr hs;go_enter Tryz.func65,Tryz.ntmps65;go_upto_region 1 with fail;change Code.wp _ _ _ _ ((w.alloc (.cells #[.int .i64 s.limit,.slice A s.ships.length capa,.slice B s.members.length capb] 34)).alloc (.cells #[.slice R p.length capr] 38));obtain ⟨W,hWW,k0,k1,HXW,eW⟩:=Q4e w 34 #[.int .i64 s.limit,.slice A s.ships.length capa,.slice B s.members.length capb] 38 #[.slice R p.length capr];rw [hWW];clear hWW;have K0:=hid k0;have K1:=hid k1;have HSE:Hid (∀ W',Ext W W' -> Q0h W' (.agg #[.int .i64 s.limit,.slice A s.ships.length capa,.slice B s.members.length capb]) s):=hid (fun W' hW=>⟨_,_,rfl,H2.out.ext (HXW.out.trans hW)⟩);have HPO:Hid (∀ W',Ext W W' -> Q0w W' (.agg #[.slice R p.length capr]) p):=hid (fun W' hW=>⟨_,rfl,HR.out.ext (HXW.out.trans hW)⟩);have HKP:=hid (X6i W _ _ s p (HSE.out W (Ext.refl _)) (HPO.out W (Ext.refl _)) HS.out hp);have c0:=(k0).cell 0;have c1:=(k0).cell 1;have c2:=(k0).cell 2;simp only [Go.Tw.gA,Go.Tw.gB,Go.Tw.gC] at c0 c1 c2;have d0:=(k1).cell 0;simp only [Go.Tw.gA,Go.Tw.gB] at d0;clear k0 k1
 by_cases he:Q1g s p=0
 . obtain ⟨hvs,hpz⟩:=Q4o he
   have HV:=hid hvs;have HPZ:=hid hpz;have HKR:Hid (Y8s s p=Q3r s p):=hid (if_pos he);have HF:Hid (Y0a s p=Y4l s p):=hid (if_pos he);have HPE:=hid he;rw [HKR.out,he] at HKP;clear he hvs hpz;go_wp2_with (go_at_call 33; refine HKP.out.mono ?_; rintro e w5 ⟨x,rfl,hi5,hx5⟩; replace c0:=hx5.cell c0; replace c1:=hx5.cell c1; replace c2:=hx5.cell c2; replace d0:=hx5.cell d0; refine halted ?_);obtain ⟨Xk,capk,rfl,-,-,hck⟩:=hi5.opened;have HCK:=hid hck;have HKL:=kept_len s p;have HCLC:=hid (Q6a w5 _ _ s p (HSE.out w5 hx5) (HPO.out w5 hx5) HV.out HPZ.out);have HX5:=hid hx5;clear hck hi5 hx5;unfold Q1i;go_wp2_with (go_at_call 109; refine HCLC.out.mono ?_; rintro e w6 ⟨y,rfl,hb6,hx6⟩; refine halted ?_);obtain ⟨U,capu,rfl,-,-,hcu⟩:=hb6.opened;rw [Q2r] at hcu ⊢;have HCU:=hid hcu;have HX6:=hid (HX5.out.trans hx6);have HX56:=hid hx6;obtain ⟨L,hL⟩:∃ L,Q3r s p=L:=⟨_,rfl⟩;have HLE:=hid hL;rw [hL] at HKL HCK ⊢;clear hcu hb6 hx6 hL c0 c1 c2 d0;unfold Q1i;go_wp2
   go_loopw [8,27] (fun sv iv wr=>∃ (k:Nat) (m:Int),k <= L.length /\ iv=.int .i64 k /\ sv=.int .i64 m /\ m=X7d s p k /\ Ext w6 wr) (fun _ iv _=>L.length - (intOf iv).toNat)
   case atStart=>exact ⟨0,0,Nat.zero_le _,rfl,rfl,by simp [X7d],Ext.refl _⟩
   case round =>
    obtain ⟨k,m,hk,rfl,rfl,hm,hxr⟩:=hrel;have HMM:=hid hm;have HXR:=hid hxr;clear hm
    by_cases hlt:k < L.length
    . obtain ⟨bk,ok,rfl,hkc⟩:=HCK.out k hlt
      replace hkc:=(HX56.out.trans hxr).cell hkc;have hin:0 <= ix L k /\ ix L k < s.members.length:=by
       have:=Q8t s p;rw [HLE.out] at this;exact this _ (by rw [Q4s hlt]; exact List.getElem_mem hlt)
      have hsu:=X7r s p (k:=k) (by rw [HLE.out]; exact hlt)
      have hbd:=Y7e HV.out p (k + 1) (by rw [HLE.out]; exact hlt)
      have hbd0:=Z1c HV.out p hin;rw [HLE.out] at hsu;obtain ⟨j,hj⟩:∃ j:Nat,ix L k=(j:Int):=⟨(ix L k).toNat,by omega⟩
      rw [hj] at hkc hin hsu hbd0;have hjl:j < s.members.length:=by omega
      obtain ⟨bm,off,capx,capy,capz,X,Y,Z,hme⟩:=Q2l (H2.out.members.ext (HXW.out.trans (HX6.out.trans hxr))) hjl;have hA:=hme.addr;subst hA;have e0:=hme.e0;have e1:=hme.e1;have e2:=hme.e2;have e3:=hme.e3;have e4:=hme.e4;have HM2:=hid (fun W' hW=>hme.mem (W:=W') hW);obtain ⟨bu,ou,xk,rfl,-,hxk,hbk⟩:=HCU.out j hjl;rw [Q5r p hjl] at hbk;have hT:=(HV.out.shaped j hjl).1;have h6:=HV.out.tides;have HAL:=hid (fun (W:World) (u:Value) (hu:X0q W u (Q2e s j))=>X7q W u (Q2e s j) s.limit s.ships.length hu hT (by omega) h6.1 (X2q HV.out hjl (Nat.le_refl _)))
      have HAD:Hid ((Q2e s j).Q3n s.limit s.ships.length (2 ^ s.ships.length)=alone s j):=hid rfl;rw [HAD.out] at HAL;have hal:∀ b,alone s j=some b -> b.length <= 4096:=fun b hb=>by have:=Q5w _ _ _ _ b hb; omega
      have HAN:=hid (Z3b s j);have hcd:=X0y HV.out (Q0m p (Q0c s.members j)) (by rw [Q2n,hT]; exact Nat.le_refl _)
      have had:=Y1y (s:=s) j;have hrt:Z7i s p (j:Int)=Q0i s.members j * (countB (Q0m p (Q0c s.members j)) - Q9n s j):=by unfold Z7i; rw [Int.toNat_natCast]
      rw [hrt] at hsu hbd0;obtain ⟨o,ho⟩:∃ o,alone s j=o:=⟨_,rfl⟩;rw [ho] at HAL HAN hal;have HALL:=hid hal;obtain ⟨cl,hcl⟩:∃ x,Q0m p (Q0c s.members j)=x:=⟨_,rfl⟩;rw [hcl] at hbk hcd hsu hbd0;obtain ⟨cn,hcn⟩:∃ x,countB cl=x:=⟨_,rfl⟩;rw [hcn] at hcd hsu hbd0;have HCN:=hid hcn;obtain ⟨an,han⟩:∃ x,Q9n s j=x:=⟨_,rfl⟩;rw [han] at had hsu HAN hbd0;obtain ⟨nm,hnm⟩:∃ x,Q1h s.members j=x:=⟨_,rfl⟩;obtain ⟨wt,hwt⟩:∃ x,Q0i s.members j=x:=⟨_,rfl⟩;obtain ⟨lc,hlc⟩:∃ x,(Q0c s.members j).length=x:=⟨_,rfl⟩;obtain ⟨lo,hlo⟩:∃ x,(Q0t s.members j).length=x:=⟨_,rfl⟩;obtain ⟨li,hli⟩:∃ x,(Q0y s.members j).length=x:=⟨_,rfl⟩;rw [hnm] at e0 HM2;rw [hwt] at e1 HM2 hsu hbd0;rw [hlc] at e2 HM2;rw [hlo] at e3 HM2;rw [hli] at e4 HM2;obtain ⟨Uk,capj,rfl,-,-,-⟩:=hbk.opened;have HXK:=hid hxk;have HBK:=hid hbk;have hwd:IntKind.i64.wrap (cn - an)=cn - an:=Y0g (by omega) (by omega)
      obtain ⟨df,hdf⟩:∃ x,cn - an=x:=⟨_,rfl⟩;rw [hdf] at hwd hsu hbd0;obtain ⟨pr,hpr⟩:∃ x,wt * df=x:=⟨_,rfl⟩;rw [hpr] at hsu hbd0;have hwp:IntKind.i64.wrap pr=pr:=Y0g (by omega) (by omega)
      rw [<- HMM.out] at hsu;rw [hsu] at hbd;have hws:IntKind.i64.wrap (m + pr)=m + pr:=Y0g (by have:=HKL; have:=HV.out.some.2; omega) (by have:=HKL; have:=HV.out.some.2; omega)
      have HSU:=hid hsu;have HDF:=hid hdf;have HPR:=hid hpr;have hjI:(j:Int) < s.members.length:=by omega
      have hkI:(k:Int) < L.length:=by omega
      have hk2:k < 4096:=by have:=HKL; have:=HV.out.some.2; omega
      have hbox:=Ext.box wr (.cells #[.string nm,.int .i64 wt,.slice X lc capx,.slice Y lo capy,.slice Z li capz] 69);have K3:=Blk.made wr 69 #[.string nm,.int .i64 wt,.slice X lc capx,.slice Y lo capy,.slice Z li capz];have kk:=K0.out.ext (HX6.out.trans hxr);have c0:=(kk).cell 0;have c1:=(kk).cell 1;have c2:=(kk).cell 2;simp only [Go.Tw.gA,Go.Tw.gB,Go.Tw.gC] at c0 c1 c2;have HXB:=hid hbox;clear hme hin hj hjl hT h6 hal hcd had hrt ho hcl hcn han hnm hwt hlc hlo hli hxk hbk hdf hpr hsu hbd hbd0 hbox kk hxr
      go_light
      go_wp2;obtain ⟨W5,hW5⟩:∃ X',wr.alloc (.cells #[.string nm,.int .i64 wt,.slice X lc capx,.slice Y lo capy,.slice Z li capz] 69)=X':=⟨_,rfl⟩;obtain ⟨g,hg⟩:∃ x,wr.heap.size=x:=⟨_,rfl⟩;rw [hW5] at HXB K3 ⊢;rw [hg] at K3 ⊢;have KR:=hid K3;have hdr:=(Ext.refl W5).drew;clear hW5 K3 e0 e1 e2 e3 e4 hg hkc c0 c1 c2;refine Flow.Q1o [.p,.p,.w,.p,.p,.p,.w,.w,.w,.p,.w,.w,.w,.p,.p,.p,.p] [0,1,2,3,4,5,6,7,8,9,10,11,12,13,14,15,16] [[],[],[1],[],[],[3,4],[5],[6],[],[],[9],[7,8,10],[11],[7,12],[2,13],[0,14],[0,1,2,3,4,5,6,7,8,9,10,11,12,13,14,15]]
       [.c 0 (.int .i64 m),.c 1 (.pointer (some ⟨g,1,none⟩)),.c 2 (.int .i64 wt),.c 3 (.slice (some ⟨bu,ou,none⟩) s.members.length capu),.c 4 (.int .i64 (j:Int)),.c 5 (.pointer (some ⟨bu,ou + j,none⟩)),.c 6 (.slice Uk cl.length capj),.c 7 (.int .i64 cn),.c 8 (.agg #[.string nm,.int .i64 wt,.slice X lc capx,.slice Y lo capy,.slice Z li capz]),.c 9 (.pointer (some ⟨w.heap.size,0,none⟩)),.c 10 (.int .i64 s.limit),⟨fun v wz=>(fun v w'=>Q7a w' (v 11) o) v wz,by intro v a b hx h; exact Q7a.ext h hx⟩,.c 12 (.int .i64 an),.c 13 (.int .i64 df),.c 14 (.int .i64 pr),.c 15 (.int .i64 (m + pr)),.c 16 (.int .i64 (m + pr))]
       (by kernel_rfl) rfl (by kernel_rfl) ⟨?g0,?g1,?g2,?g3,?g4,?g5,?g6,?g7,?g8,?g9,?g10,?g11,?g12,?g13,?g14,?g15,?g16,trivial⟩ ?post
      case g0 | g1 | g3 | g4 | g9=>
       intro v w1 hx;intro bb hbb;subst hbb;refine ⟨_,fun w=>?_,rfl⟩;go_simp
      case g2 | g6 | g10=>
       intro v w1 hx;(repeat intro (zq:v _=_));intro bb hbb;subst hbb;have n0:w1.cell? ⟨g,1,none⟩=some (.int .i64 wt):=(KR.out.ext (hdr.trans hx)).cell 1;have n1:w1.cell? ⟨bu,ou + j,none⟩=some (.slice Uk cl.length capj):=(HXR.out.trans (HXB.out.trans (hdr.trans hx))).cell HXK.out;have n2:w1.cell? ⟨w.heap.size,0,none⟩=some (.int .i64 s.limit):=(K0.out.ext (HX6.out.trans (HXR.out.trans (HXB.out.trans (hdr.trans hx))))).cell 0;intro K hK;go_simp;exact hK _ _ (Ext.refl _) rfl
      case g5 | g15=>
       intro v w1 hx;(repeat intro (zq:v _=_));intro bb hbb;subst hbb;refine ⟨_,fun w=>?_,rfl⟩;go_simp
      case g7=>
       intro v w1 hx;(repeat intro (zq:v _=_));intro bb hbb;subst hbb;intro K hK;go_simp;refine Q0e (Q5n w1 _ cl (HBK.out.ext (HXR.out.trans (HXB.out.trans (hdr.trans hx))))) ?_;rw [HCN.out];rintro e w2 ⟨rfl,hx2⟩;exact ⟨_,rfl,hK _ _ hx2 rfl⟩
      case g8=>
       intro v w1 hx;intro bb hbb;intro K hK;have o1:bb.eval (.tmp 12)=.pointer (some ⟨g,0,none⟩):=by rw [hbb]; dsimp only; (try simp (discharger:=decide) only [eval_put_ne]); rfl
       exact Q0p (.tmp 12) _ rfl Tryz.Y8q Tryz.X8y o1 (KR.out.ext (hdr.trans hx)) rfl (hK _ _ (Ext.refl _) rfl)
      case g11=>
       intro v w1 hx;(repeat intro (zq:v _=_));intro bb hbb;subst hbb;intro K hK;go_simp;refine Q0e (HAL.out w1 _ (HM2.out w1 (HXB.out.trans (hdr.trans hx)))) ?_;rintro e w2 ⟨x,rfl,h1,hx2⟩;exact ⟨_,rfl,hK _ _ hx2 h1⟩
      case g12=>
       intro v w1 hx (q11:(fun v w'=>Q7a w' (v 11) o) v w1);intro bb hbb;subst hbb;intro K hK;go_simp;refine Q0e (Q5n w1 _ (o.getD []) (Q7a.bools q11 HALL.out)) ?_;rw [<- HAN.out];rintro e w2 ⟨rfl,hx2⟩;exact ⟨_,rfl,hK _ _ hx2 rfl⟩
      case g13=>
       intro v w1 hx;(repeat intro (zq:v _=_));intro bb hbb;subst hbb;have hdf:=HDF.out;refine ⟨_,fun w=>?_,rfl⟩;go_simp
      case g14=>
       intro v w1 hx;(repeat intro (zq:v _=_));intro bb hbb;subst hbb;have hpr:=HPR.out;refine ⟨_,fun w=>?_,rfl⟩;go_simp
      case g16=>
       intro v w1 hx (q0:v 0=_) (q1:v 1=_) (q2:v 2=_) (q3:v 3=_) (q4:v 4=_) (q5:v 5=_) (q6:v 6=_) (q7:v 7=_) (q8:v 8=_) (q9:v 9=_) (q10:v 10=_) _ (q12:v 12=_) (q13:v 13=_) (q14:v 14=_) (q15:v 15=_);intro bb hbb;subst hbb;refine ⟨_,fun w=>?_,rfl⟩;go_simp
      case post =>
       intro v w1 hx;(iterate 11 intro (zq:v _=_));intro (q11:(fun v w'=>Q7a w' (v 11) o) v w1);(iterate 5 intro (zq:v _=_));simp only [Flow.All,Flow.acts,Act.put];go_simp;have HXX:=hid (HXR.out.trans (HXB.out.trans (hdr.trans hx)));clear hx hdr q11;(repeat clear zq);go_wp2;go_roundw
       case rel=>exact ⟨k + 1,m + pr,by omega,by go_num,rfl,HSU.out.symm,HXX.out⟩
       case measure=>simp [intOf]; omega
    . have hke:k=L.length:=by omega
      subst hke;go_wp2;go_ret2;exact ⟨by rw [HF.out,HPE.out,<- Z1n,HLE.out,<- HMM.out]; rfl,HXW.out.trans (HX6.out.trans HXR.out)⟩
 . have HF:Hid (Y0a s p=0):=hid (if_neg he)
   have hne:(Q1g s p != 0)=true:=by simp [he]
   obtain ⟨E,hE⟩:∃ E,Q1g s p=E:=⟨_,rfl⟩;have HPE:=hid hE;rw [hE] at hne HKP;clear he hE;go_wp2_with (go_at_call 33; refine HKP.out.mono ?_; rintro e w5 ⟨x,rfl,hi5,hx5⟩; have HX5:=hid hx5; clear hi5);go_ret2;exact ⟨by rw [HF.out,HPE.out]; rfl,HXW.out.trans HX5.out⟩
end Go.Proofs
