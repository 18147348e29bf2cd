/- The law PolicyCertifies: from region 8 on. -/
import Derived.Test.YthnobngcipaljaaGreatDoorPp35
import Derived.Test.YthnobngcipaljaaGreatDoorPt06
set_option maxRecDepth 1000000
set_option maxHeartbeats 64000000
set_option linter.unusedVariables false
set_option linter.unusedSimpArgs false
set_option linter.constructorNameAsVariable false
open Go.Lib (hid)
namespace Go.Proofs
open Go.RowKit Go.Tw Go.Flow
attribute [local go_sem] Oper.semAt_some
theorem fze07 {u:Type} {a b:u} (h:a=b:=by rw [hbb]; dsimp only; (try simp (discharger:=decide) only [Flow.eval_put_ne]); rfl):a=b:=h
theorem J9i {w z30:World} {s:Q0b} {p1:List Rul} {need lim me:Int} {A B Xp Xk:Option Addr} {T M capa capb gs gc nb cp nk ck:Nat} (HXA:Hid (Ext w z30)) (HWD:Hid (Words z30)) (H2:Hid (Q7y z30 (.slice A T capa) (.slice B M capb) s)) (KB:Hid (Blk z30 gs 25 #[.int .i64 lim,.slice A T capa,.slice B M capb])) (KC:Hid (Blk z30 gc 124 #[.slice Xp nb cp,.slice Xk nk ck])) (FR:Hid (Q3m z30 (.slice Xp nb cp) p1)) (FK:Hid (Q0d z30 (.slice Xk nk ck) (Q3r s p1))) (HSEA:Hid (∀ W,Q7y W (.slice A T capa) (.slice B M capb) s -> Q0h W (.agg #[.int .i64 lim,.slice A T capa,.slice B M capb]) s)) (HS:Hid (Q3k s)) (HE:Hid (s.err=0)) (HVS:Hid (Q1b s)) (HM:Hid (s.members.length=M)) (HPR:Hid (Q2d s.hist p1=0)) (HRN:Hid (Q0f need 0 8000=0)) (HMB:Hid (me <= Y7i s)) (HNB:Hid (p1.length=nb)) (HNK:Hid ((Q3r s p1).length=nk))
    (F:Array Value) (hF:F.size=212) (f1:F[1]?=some (.int .i64 need)) (f2:F[2]?=some (.pointer (some ⟨gs,0,none⟩))) (f5:F[5]?=some (.int .i64 me)) (f11:F[11]?=some (.pointer (some ⟨gc,0,none⟩))) :
    (codeFrom Tryz.f12 8).wp Tryz.prog (bodyPost Tryz.prog Tryz.f12 (fun e w'=>e=.returned (.bool true) /\ Ext w w')) ⟨F,[]⟩ z30:=by
 obtain ⟨u,rfl⟩:=J6u hF;replace f1:u 1=_:=Option.some.inj f1;replace f2:u 2=_:=Option.some.inj f2;replace f5:u 5=_:=Option.some.inj f5;replace f11:u 11=_:=Option.some.inj f11;rw [f1,f2,f5,f11];clear hF f1 f2 f5 f11
 conv=>arg 2; whnf
 have HPL:Hid (p1.length <= 4096):=hid (by have:=J4h HVS.out HPR.out; omega)
 have HP1:Hid (p1.length <= 1000):=hid (J4h HVS.out HPR.out);have HP8:Hid (∀ k,k < p1.length -> (Q0n p1 k).length <= 4096):=hid (fun k hk=>by have:=J5n HVS.out HPR.out k hk; omega)
 have HKL:Hid ((Q3r s p1).length <= s.members.length):=hid (kept_len s p1);have HK4:Hid ((Q3r s p1).length <= 4096):=hid (by have:=HKL.out; have:=HVS.out.some.2; omega)
 have HM8:Hid (M <= 8):=hid (by rw [<- HM.out]; exact HVS.out.some.2)
 have b2:=KB.out.cell 2;simp only [Go.Tw.gA,Go.Tw.gB,Go.Tw.gC] at b2;go_wp2_with fail;clear b2
 go_loopw [103] (fun i wr=>∃ (k:Nat),k <= M /\ i=.int .i64 k /\ Ext z30 wr) (fun i _=>M - (intOf i).toNat)
 case atStart=>exact ⟨0,Nat.zero_le _,rfl,Ext.refl _⟩
 case round =>
  obtain ⟨k,hk,rfl,hxr⟩:=hrel;obtain ⟨z31,rfl⟩:∃ Z,Z=wr:=⟨_,rfl⟩;replace HXA:=hid (HXA.out.trans hxr);replace HWD:=hid (HWD.out.ext hxr);replace H2:=hid (H2.out.ext hxr);replace KB:=hid (KB.out.ext hxr);replace KC:=hid (KC.out.ext hxr);replace FR:=hid (FR.out.ext hxr);replace FK:=hid (FK.out.ext hxr);have HXB:=hid hxr;clear hxr
  by_cases hlt:k < M
  . have hkI:(k:Int) < M:=by omega
    have hM8:=HM8.out;have d0KC:=KC.out.cell 0;have d1KC:=KC.out.cell 1;simp only [Go.Tw.gA,Go.Tw.gB,Go.Tw.gC] at d0KC d1KC;go_wp2_with fail;refine (J7i _ _ (Q3r s p1) (k:Int) FK.out).mono ?_;rintro e wq ⟨rfl,rfl⟩;obtain ⟨hb,hhb⟩:∃ z,has (Q3r s p1) (k:Int)=z:=⟨_,rfl⟩;have HHB:=hid hhb;rw [hhb];clear hhb;cases hb with
    | true =>
      clear d0KC d1KC;go_wp2;go_roundw
      case rel=>exact ⟨k + 1,by omega,by go_num,HXB.out⟩
      case measure=>simp [intOf]; omega
    | false =>
      have HCW:=hid (J6x HE.out HPR.out (show k < s.members.length by rw [HM.out]; exact hlt) HHB.out)
      go_wp2_with fail;refine (J2n _ _ _ p1 (Q3r s p1) FR.out FK.out HPL.out HP8.out HK4.out).mono ?_;rintro e z32 ⟨⟨xa,xb,rfl,ha,hb2⟩,hx⟩;have hxx:Ext z31 z32:=hx;replace HXA:=hid (HXA.out.trans hxx);replace HWD:=hid (HWD.out.ext hxx);replace H2:=hid (H2.out.ext hxx);replace KB:=hid (KB.out.ext hxx);replace KC:=hid (KC.out.ext hxx);replace FR:=hid (FR.out.ext hxx);replace FK:=hid (FK.out.ext hxx);replace HXB:=hid (HXB.out.ext hxx);clear hx hxx;clear d0KC d1KC;obtain ⟨Xa,ca,rfl,-,-,-⟩:=ha.opened;obtain ⟨Xc,cc,rfl,-,-,-⟩:=hb2.opened;rw [HNB.out] at ha ⊢;rw [HNK.out] at hb2 ⊢;clear hb2;have FA:=hid ha;clear ha;have HWD0:=HWD;have H20:=H2;have KB0:=KB;have KC0:=KC;have FR0:=FR;have FK0:=FK;have HXB0:=HXB;have FA0:=FA;have HXA0:=HXA;have hxp:=Ext.box z32 (.cells #[.slice Xa nb ca,.slice Xc nk cc] 124);have hbp:=Blk.made z32 124 #[.slice Xa nb ca,.slice Xc nk cc];replace HXA:=hid (HXA.out.trans hxp);replace HWD:=hid (HWD.out.ext hxp);replace H2:=hid (H2.out.ext hxp);replace KB:=hid (KB.out.ext hxp);replace KC:=hid (KC.out.ext hxp);replace FR:=hid (FR.out.ext hxp);replace FK:=hid (FK.out.ext hxp);replace HXB:=hid (HXB.out.ext hxp);replace FA:=hid (FA.out.ext hxp);go_upto_region 13 with fail;obtain ⟨gw,hgw⟩:∃ z,z32.heap.size=z:=⟨_,rfl⟩;obtain ⟨z33,hwt⟩:∃ Z,z32.alloc (.cells #[.slice Xa nb ca,.slice Xc nk cc] 124)=Z:=⟨_,rfl⟩;rw [hwt,hgw] at hbp;rw [hwt] at HXA HWD H2 KB KC FR FK HXB FA;rw [hwt,hgw];have KW:=hid hbp;rw [hwt] at hxp;have HXZ:=hid hxp;have HGW:Hid (gw=z32.heap.size):=hid hgw.symm;clear hbp hwt hgw hxp;have bx2:=Ext.box z33 (.cells #[.int .i64 (k:Int)] 3);have bk2:=Blk.made z33 3 #[.int .i64 (k:Int)];have c1:=(KW.out.ext bx2).cell 1;have f1:=(KW.out.ext bx2).frozen 1;simp only [Go.Tw.gA,Go.Tw.gB,Go.Tw.gC] at c1;have HBX2:=hid bx2;have HBK2:=hid bk2;clear bx2 bk2;go_wp2_with fail;clear c1 f1;obtain ⟨gi,hgi⟩:∃ z,z33.heap.size=z:=⟨_,rfl⟩;have HGI:=hid hgi;rw [hgi] at HBK2 ⊢;have hne:gi ≠ gw:=by have:=KW.out.lt; omega
      clear hgi;have hkw:=(KW.out.ext HBX2.out).set 1 (.slice (some ⟨gi,0,none⟩) 1 1);have hli:=J6a (l:=[(k:Int)]) (by simp) (J4s HBK2.out (p:=⟨gw,1,none⟩) hne (.slice (some ⟨gi,0,none⟩) 1 1))
      have hx0:Ext z32 ((z33.alloc (.cells #[.int .i64 (k:Int)] 3)).setCell ⟨gw,1,none⟩ (.slice (some ⟨gi,0,none⟩) 1 1)):=Below.setCell (HXZ.out.trans HBX2.out) (show z32.heap.size <= gw by rw [HGW.out]; exact Nat.le_refl _) _
      obtain ⟨z34,hcur⟩:∃ Z,(z33.alloc (.cells #[.int .i64 (k:Int)] 3)).setCell ⟨gw,1,none⟩ (.slice (some ⟨gi,0,none⟩) 1 1)=Z:=⟨_,rfl⟩;rw [hcur] at hkw hli hx0 ⊢;clear hcur;replace HXA:=hid (HXA0.out.trans hx0);replace HWD:=hid (HWD0.out.ext hx0);replace H2:=hid (H20.out.ext hx0);replace KB:=hid (KB0.out.ext hx0);replace KC:=hid (KC0.out.ext hx0);replace FR:=hid (FR0.out.ext hx0);replace FK:=hid (FK0.out.ext hx0);replace HXB:=hid (HXB0.out.ext hx0);replace FA:=hid (FA0.out.ext hx0);replace KW:=hid hkw;have FL:=hid hli;clear hkw hli hx0 hne;have hdr:=(Ext.refl z34).drew;refine Flow.Q1o [.w,.w,.w,.w,.p] [0,1,2,3,4] [[],[0],[],[1,2],[3]]
       [.c 0 (.agg #[.int .i64 lim,.slice A T capa,.slice B M capb]),⟨fun v wz=>(fun v w'=>Q0h w' (v 1) s) v wz,by intro v a b hx h; exact Q0h.ext h hx⟩,.c 2 (.agg #[.slice Xa nb ca,.slice (some ⟨gi,0,none⟩) 1 1]),.c 3 (.int .i64 22),.c 4 (.bool false)]
       (by kernel_rfl) rfl (by kernel_rfl) ⟨?g0,?g1,?g2,?g3,?g4,trivial⟩ ?post
      case g0=>
       intro v w1 hx;intro bb hbb;intro K2 hK2;have o1:bb.eval (.tmp 2)=.pointer (some ⟨gs,0,none⟩):=fze07
       exact Q0p (.tmp 2) _ rfl Tryz.J4p Tryz.J3d o1 (KB.out.ext (hdr.trans hx)) rfl (hK2 _ _ (Ext.refl _) rfl)
      case g1=>
       intro v w1 hx;(repeat intro (zq:v _=_));intro bb hbb;subst hbb;intro K2 hK2;go_simp;refine Q0e (Z9u w1 _ s (HSEA.out _ (H2.out.ext (hdr.trans hx))) HS.out) ?_;rintro e w2 ⟨u,rfl,hu,hx2⟩;exact ⟨_,rfl,hK2 _ _ hx2 hu⟩
      case g2=>
       intro v w1 hx;intro bb hbb;intro K2 hK2;have o1:bb.eval (.tmp 14)=.pointer (some ⟨gw,0,none⟩):=fze07
       exact Q0p (.tmp 14) _ rfl Tryz.J6c Tryz.J2x o1 (KW.out.ext (hdr.trans hx)) rfl (hK2 _ _ (Ext.refl _) rfl)
      case g3=>
       intro v w1 hx (q1:(fun v w'=>Q0h w' (v 1) s) v w1) (q2:v 2=_);intro bb hbb;subst hbb;intro K2 hK2;go_simp;refine Q0e (J2o w1 _ _ _ s 0 p1 [(k:Int)] q1 (FA.out.ext (hdr.trans hx)) (FL.out.ext (hdr.trans hx)) HS.out HP1.out) ?_;rintro e w2 ⟨rfl,hx2⟩;exact ⟨_,rfl,hK2 _ _ hx2 (congrArg (Value.int .i64) HCW.out)⟩
      case g4=>
       intro v w1 hx;(repeat intro (zq:v _=_));intro bb hbb;subst hbb;refine ⟨_,fun w=>?_,rfl⟩;go_simp
      case post =>
       intro v w1 hx;(iterate 1 intro (zq:v _=_));intro (q1:(fun v w'=>Q0h w' (v 1) s) v w1);(iterate 3 intro (zq:v _=_));simp only [Flow.All,Flow.acts,Act.put];go_simp;have hxx:=hdr.trans hx;replace HXA:=hid (HXA.out.trans hxx);replace HWD:=hid (HWD.out.ext hxx);replace H2:=hid (H2.out.ext hxx);replace KB:=hid (KB.out.ext hxx);replace KC:=hid (KC.out.ext hxx);replace FR:=hid (FR.out.ext hxx);replace FK:=hid (FK.out.ext hxx);replace HXB:=hid (HXB.out.ext hxx);replace FA:=hid (FA.out.ext hxx);replace KW:=hid (KW.out.ext hxx);replace FL:=hid (FL.out.ext hxx);obtain ⟨z35,rfl⟩:∃ Z,Z=w1:=⟨_,rfl⟩;clear hx hdr hxx q1;(repeat clear zq);go_wp2;go_roundw
       case rel=>exact ⟨k + 1,by omega,by go_num,HXB.out⟩
       case measure=>simp [intOf]; omega
  . have hkI:¬ (k:Int) < M:=by omega
    clear HXB;have d0KC:=KC.out.cell 0;have d1KC:=KC.out.cell 1;simp only [Go.Tw.gA,Go.Tw.gB,Go.Tw.gC] at d0KC d1KC;go_upto_if 124 with fail
    go_cut [] (fun wx=>Ext z31 wx)
    case first =>
     by_cases hn0:0 < nk
     . have hn0I:(0:Int) < (nk:Int):=by omega
       have hn0d:decide ((0:Int) < (nk:Int))=true:=decide_eq_true hn0I;have hn0e:decide (0 < nk)=true:=decide_eq_true hn0;have HXF:=hid (Ext.refl z31);obtain ⟨Ak,capk,hAk,-,-,hck⟩:=FK.out.opened;rw [HNK.out] at hAk hck;cases hAk;obtain ⟨bk,ok,rfl,hc0⟩:=hck 0 hn0;rw [Nat.add_zero] at hc0;obtain ⟨xk,hxk⟩:∃ z,ix (Q3r s p1) 0=z:=⟨_,rfl⟩;have HXK:Hid (xk ∈ Q3r s p1):=hid (by rw [<- hxk,Q4s (show 0 < (Q3r s p1).length by rw [HNK.out]; exact hn0)]; exact List.getElem_mem _)
       rw [hxk] at hc0;have HC0:=hid hc0;have HCT:=hid (J7o HE.out HPR.out HXK.out);clear hxk hc0 hck;go_wp2_with fail;refine (J2n _ _ _ p1 (Q3r s p1) FR.out FK.out HPL.out HP8.out HK4.out).mono ?_;rintro e z32 ⟨⟨xa,xb,rfl,ha,hb2⟩,hx⟩;have hxx:Ext z31 z32:=hx;replace HXA:=hid (HXA.out.trans hxx);replace HWD:=hid (HWD.out.ext hxx);replace H2:=hid (H2.out.ext hxx);replace KB:=hid (KB.out.ext hxx);replace KC:=hid (KC.out.ext hxx);replace FR:=hid (FR.out.ext hxx);replace FK:=hid (FK.out.ext hxx);replace HXF:=hid (HXF.out.ext hxx);clear hx hxx;clear d0KC d1KC;obtain ⟨Xa,ca,rfl,-,-,-⟩:=ha.opened;obtain ⟨Xc,cc,rfl,-,-,-⟩:=hb2.opened;rw [HNB.out] at ha ⊢;rw [HNK.out] at hb2 ⊢;clear hb2;have FA:=hid ha;clear ha;have HWD0:=HWD;have H20:=H2;have KB0:=KB;have KC0:=KC;have FR0:=FR;have FK0:=FK;have HXF0:=HXF;have FA0:=FA;have HXA0:=HXA;have hxp:=Ext.box z32 (.cells #[.slice Xa nb ca,.slice Xc nk cc] 124);have hbp:=Blk.made z32 124 #[.slice Xa nb ca,.slice Xc nk cc];replace HXA:=hid (HXA.out.trans hxp);replace HWD:=hid (HWD.out.ext hxp);replace H2:=hid (H2.out.ext hxp);replace KB:=hid (KB.out.ext hxp);replace KC:=hid (KC.out.ext hxp);replace FR:=hid (FR.out.ext hxp);replace FK:=hid (FK.out.ext hxp);replace HXF:=hid (HXF.out.ext hxp);replace FA:=hid (FA.out.ext hxp);go_upto_region 19 with fail;obtain ⟨gw,hgw⟩:∃ z,z32.heap.size=z:=⟨_,rfl⟩;obtain ⟨z33,hwt⟩:∃ Z,z32.alloc (.cells #[.slice Xa nb ca,.slice Xc nk cc] 124)=Z:=⟨_,rfl⟩;rw [hwt,hgw] at hbp;rw [hwt] at HXA HWD H2 KB KC FR FK HXF FA;rw [hwt,hgw];have KW:=hid hbp;rw [hwt] at hxp;have HXZ:=hid hxp;have HGW:Hid (gw=z32.heap.size):=hid hgw.symm;clear hbp hwt hgw hxp;have HC1:=hid ((Go.Tw.Ext.trans HXF0.out HXZ.out).cell HC0.out);go_wp2_with fail;have hdr:=(Ext.refl z33).drew;refine Flow.Q4m [.p,.w,.p,.w,.p,.w,.p,.w,.w,.p,.last] [0,1,2,3,4,5,6,7,8,9,10] [[],[0],[0,1],[0,1,2],[],[4],[4,5],[4,5,6],[0,1,2,3,4,5,6,7],[0,1,2,3,4,5,6,7,8],[0,1,2,3,4,5,6,7,8,9]] [10]
        [.c 0 (.pointer (some ⟨gc,1,none⟩)),.c 1 (.slice (some ⟨bk,ok,none⟩) nk ck),.c 2 (.pointer (some ⟨bk,ok,none⟩)),.c 3 (.int .i64 xk),.c 4 (.pointer (some ⟨gc,1,none⟩)),.c 5 (.slice (some ⟨bk,ok,none⟩) nk ck),.c 6 (.pointer (some ⟨bk,ok,none⟩)),.c 7 (.int .i64 xk),⟨fun v wz=>(fun v w'=>∃ g,v 8=.slice (some ⟨g,0,none⟩) 2 2 /\ Blk w' g 3 #[.int .i64 xk,.int .i64 xk] /\ z33.heap.size <= g) v wz,by rintro v a b hx ⟨g,h1,h2,h3⟩; exact ⟨g,h1,h2.ext hx,h3⟩⟩,.c 9 (.pointer (some ⟨gw,1,none⟩)),.none]
        [fun v w1 w'=>∃ g,w'=w1.setCell ⟨gw,1,none⟩ (.slice (some ⟨g,0,none⟩) 2 2) /\ Blk w1 g 3 #[.int .i64 xk,.int .i64 xk] /\ z33.heap.size <= g] (by kernel_rfl) rfl (by kernel_rfl) ⟨?g0,?g1,?g2,?g3,?g4,?g5,?g6,?g7,?g8,?g9,?g10,trivial⟩ ?post
       case g0 | g4=>
        intro v w1 hx;intro bb hbb;subst hbb;refine ⟨_,fun w=>?_,rfl⟩;go_simp
       case g1 | g5=>
        intro v w1 hx;(repeat intro (zq:v _=_));intro bb hbb;subst hbb;have n0:w1.cell? ⟨gc,1,none⟩=some (.slice (some ⟨bk,ok,none⟩) nk ck):=(KC.out.ext (hdr.trans hx)).cell 1;intro K hK;go_simp;exact hK _ _ (Ext.refl _) rfl
       case g2 | g6=>
        intro v w1 hx;(repeat intro (zq:v _=_));intro bb hbb;subst hbb;refine ⟨_,fun w=>?_,rfl⟩;go_simp
       case g3 | g7=>
        intro v w1 hx;(repeat intro (zq:v _=_));intro bb hbb;subst hbb;have n0:=(hdr.trans hx).cell HC1.out;intro K hK;go_simp;exact hK _ _ (Ext.refl _) rfl
       case g8=>
        intro v w1 hx;(repeat intro (zq:v _=_));intro bb hbb;subst hbb;intro K hK;go_simp;exact hK _ _ (Ext.box _ _) ⟨_,rfl,Blk.made _ _ _,(hdr.trans hx).size⟩
       case g9=>
        intro v w1 hx (q0:v 0=_) (q1:v 1=_) (q2:v 2=_) (q3:v 3=_) (q4:v 4=_) (q5:v 5=_) (q6:v 6=_) (q7:v 7=_) _;intro bb hbb;subst hbb;refine ⟨_,fun w=>?_,rfl⟩;go_simp
       case g10=>
        intro v w1 hx (q0:v 0=_) (q1:v 1=_) (q2:v 2=_) (q3:v 3=_) (q4:v 4=_) (q5:v 5=_) (q6:v 6=_) (q7:v 7=_) (q8:(fun v w'=>∃ g,v 8=.slice (some ⟨g,0,none⟩) 2 2 /\ Blk w' g 3 #[.int .i64 xk,.int .i64 xk] /\ z33.heap.size <= g) v w1) (q9:v 9=_);intro wl hT;obtain rfl:wl=w1:=hT;intro bb hbb;intro K hK;obtain ⟨g,e8,h8,h8s⟩:=q8;have o1:bb.eval (.tmp 136)=.pointer (some ⟨gw,1,none⟩):=by rw [hbb]; dsimp only; (try simp (discharger:=decide) only [eval_put_ne]); rw [Q0a (by simp only [size_put]; exact (by decide:136 < 212))]; exact q9
        have o2:bb.eval (.tmp 135)=.slice (some ⟨g,0,none⟩) 2 2:=by rw [hbb]; dsimp only; (try simp (discharger:=decide) only [eval_put_ne]); rw [Q0a (by simp only [size_put]; exact (by decide:135 < 212))]; exact e8
        exact Q3y _ _ rfl Tryz.J8x (g:=gw) (k:=1) o1 o2 rfl rfl (KW.out.ext (hdr.trans hx)) (by show 1 < 2; omega) (fun v'=>hK _ _ ⟨g,rfl,h8,h8s⟩)
       case post =>
        intro v w1 hx (q0:v 0=_) (q1:v 1=_) (q2:v 2=_) (q3:v 3=_) (q4:v 4=_);(iterate 3 intro (zq:v _=_));intro (q8:(fun v w'=>∃ g,v 8=.slice (some ⟨g,0,none⟩) 2 2 /\ Blk w' g 3 #[.int .i64 xk,.int .i64 xk] /\ z33.heap.size <= g) v w1);(iterate 1 intro (zq:v _=_));intro w2 hE;replace hE:(fun v w1 w'=>∃ g,w'=w1.setCell ⟨gw,1,none⟩ (.slice (some ⟨g,0,none⟩) 2 2) /\ Blk w1 g 3 #[.int .i64 xk,.int .i64 xk] /\ z33.heap.size <= g) v w1 w2:=hE;simp only [Flow.acts,Act.put];go_simp;obtain ⟨gi,rfl,hbi,hgs⟩:=hE;have hxx:=hdr.trans hx;have hne:gi ≠ gw:=by have:=KW.out.lt; omega
        have hkw:=(KW.out.ext hxx).set 1 (.slice (some ⟨gi,0,none⟩) 2 2);have hli:=J6a (l:=[xk,xk]) (by simp) (J4s hbi (p:=⟨gw,1,none⟩) hne (.slice (some ⟨gi,0,none⟩) 2 2))
        have hx0:Ext z32 (w1.setCell ⟨gw,1,none⟩ (.slice (some ⟨gi,0,none⟩) 2 2)):=Below.setCell (HXZ.out.trans hxx) (show z32.heap.size <= gw by rw [HGW.out]; exact Nat.le_refl _) _
        obtain ⟨z34,hcur⟩:∃ Z,w1.setCell ⟨gw,1,none⟩ (.slice (some ⟨gi,0,none⟩) 2 2)=Z:=⟨_,rfl⟩;rw [hcur] at hkw hli hx0 ⊢;replace HXA:=hid (HXA0.out.trans hx0);replace HWD:=hid (HWD0.out.ext hx0);replace H2:=hid (H20.out.ext hx0);replace KB:=hid (KB0.out.ext hx0);replace KC:=hid (KC0.out.ext hx0);replace FR:=hid (FR0.out.ext hx0);replace FK:=hid (FK0.out.ext hx0);replace HXF:=hid (HXF0.out.ext hx0);replace FA:=hid (FA0.out.ext hx0);replace KW:=hid hkw;have FL:=hid hli;clear hkw hli hx0 hne hcur hxx hx hdr hbi hgs q0 q1 q2 q3 q4 q8;(repeat clear zq);go_wp2_with fail;have hdr:=(Ext.refl z34).drew;refine Flow.Q1o [.w,.w,.w,.w,.p] [0,1,2,3,4] [[],[0],[],[1,2],[3]]
         [.c 0 (.agg #[.int .i64 lim,.slice A T capa,.slice B M capb]),⟨fun v wz=>(fun v w'=>Q0h w' (v 1) s) v wz,by intro v a b hx h; exact Q0h.ext h hx⟩,.c 2 (.agg #[.slice Xa nb ca,.slice (some ⟨gi,0,none⟩) 2 2]),.c 3 (.int .i64 11),.c 4 (.bool false)]
         (by kernel_rfl) rfl (by kernel_rfl) ⟨?g0,?g1,?g2,?g3,?g4,trivial⟩ ?post
        case g0=>
         intro v w1 hx;intro bb hbb;intro K2 hK2;have o1:bb.eval (.tmp 2)=.pointer (some ⟨gs,0,none⟩):=fze07
         exact Q0p (.tmp 2) _ rfl Tryz.J4p Tryz.J3d o1 (KB.out.ext (hdr.trans hx)) rfl (hK2 _ _ (Ext.refl _) rfl)
        case g1=>
         intro v w1 hx;(repeat intro (zq:v _=_));intro bb hbb;subst hbb;intro K2 hK2;go_simp;refine Q0e (Z9u w1 _ s (HSEA.out _ (H2.out.ext (hdr.trans hx))) HS.out) ?_;rintro e w2 ⟨u,rfl,hu,hx2⟩;exact ⟨_,rfl,hK2 _ _ hx2 hu⟩
        case g2=>
         intro v w1 hx;intro bb hbb;intro K2 hK2;have o1:bb.eval (.tmp 15)=.pointer (some ⟨gw,0,none⟩):=fze07
         exact Q0p (.tmp 15) _ rfl Tryz.J6c Tryz.J2x o1 (KW.out.ext (hdr.trans hx)) rfl (hK2 _ _ (Ext.refl _) rfl)
        case g3=>
         intro v w1 hx (q1:(fun v w'=>Q0h w' (v 1) s) v w1) (q2:v 2=_);intro bb hbb;subst hbb;intro K2 hK2;go_simp;refine Q0e (J2o w1 _ _ _ s 0 p1 [xk,xk] q1 (FA.out.ext (hdr.trans hx)) (FL.out.ext (hdr.trans hx)) HS.out HP1.out) ?_;rintro e w2 ⟨rfl,hx2⟩;exact ⟨_,rfl,hK2 _ _ hx2 (congrArg (Value.int .i64) HCT.out)⟩
        case g4=>
         intro v w1 hx;(repeat intro (zq:v _=_));intro bb hbb;subst hbb;refine ⟨_,fun w=>?_,rfl⟩;go_simp
        case post =>
         intro v w1 hx;(iterate 1 intro (zq:v _=_));intro (q1:(fun v w'=>Q0h w' (v 1) s) v w1);(iterate 3 intro (zq:v _=_));simp only [Flow.All,Flow.acts,Act.put];go_simp;have hxx:=hdr.trans hx;replace HXA:=hid (HXA.out.trans hxx);replace HWD:=hid (HWD.out.ext hxx);replace H2:=hid (H2.out.ext hxx);replace KB:=hid (KB.out.ext hxx);replace KC:=hid (KC.out.ext hxx);replace FR:=hid (FR.out.ext hxx);replace FK:=hid (FK.out.ext hxx);replace HXF:=hid (HXF.out.ext hxx);replace FA:=hid (FA.out.ext hxx);replace KW:=hid (KW.out.ext hxx);replace FL:=hid (FL.out.ext hxx);obtain ⟨z35,rfl⟩:∃ Z,Z=w1:=⟨_,rfl⟩;clear hx hdr hxx q1;(repeat clear zq);go_wp2_with fail;go_meet;exact HXF.out
     . have hn0I:¬ (0:Int) < (nk:Int):=by omega
       have hn0d:decide ((0:Int) < (nk:Int))=false:=decide_eq_false hn0I;have hn0e:decide (0 < nk)=false:=decide_eq_false hn0;go_wp2_with fail;go_meet;exact Ext.refl _
    case rest =>
     clear d0KC d1KC;replace HXA:=hid (HXA.out.trans hcut);replace HWD:=hid (HWD.out.ext hcut);replace H2:=hid (H2.out.ext hcut);replace KB:=hid (KB.out.ext hcut);replace KC:=hid (KC.out.ext hcut);replace FR:=hid (FR.out.ext hcut);replace FK:=hid (FK.out.ext hcut);obtain ⟨z32,rfl⟩:∃ X,X=wc:=⟨_,rfl⟩;clear hcut
     repeat (first | exact J8z HXA HWD H2 KB HSEA HS HE HVS HM HRN HMB _ rfl rfl rfl rfl | go_step)
end Go.Proofs
