/- The walk through the reference's Merge from region 3 on: the names, the numbers. Contract of the reference: Merge. -/
import Derived.Test.YtgopmebjbkdfgaaGreatDoorFm51
set_option maxRecDepth 1000000
set_option maxHeartbeats 64000000
set_option linter.unusedVariables false
set_option linter.unusedSimpArgs false
set_option linter.constructorNameAsVariable false
namespace Go.Proofs
open Go.RowKit Go.Tw Go.Flow
theorem X5s (t:Tree):Q5b t = (List.range (t.basics.length + t.causes.length)).map t.nameAt:=by
 unfold Q5b
 apply List.ext_getElem
 . rw [List.length_append,Q9a,X7x,List.length_map,List.length_range]
 . intro i h1 h2
   rw [List.getElem_map,List.getElem_range];unfold Tree.nameAt;have hl:i < t.basics.length + t.causes.length:=by simpa using h2
   by_cases h:i < t.basics.length
   . rw [List.getElem_append_left (by rw [Q9a]; exact h),if_pos h]
     unfold X0i bName;rw [List.getElem_map,getD_at h]
   . rw [List.getElem_append_right (by rw [Q9a]; omega),if_neg h]
     unfold X1m cName;rw [List.getElem_map,getD_at (show i - t.basics.length < t.causes.length by omega)]
     congr 1
     simp only [Q9a]
def Y0k (a b:Tree) (i k:Nat):Bool:=(List.range k).any fun k=>a.nameAt i == b.nameAt k
def Z7w (a b:Tree) (n:Nat):Bool:=(List.range n).any fun i=>Y0k a b i (b.basics.length + b.causes.length)
theorem Y8e (a b:Tree) (i k:Nat):Y0k a b i (k + 1) = (Y0k a b i k || (a.nameAt i == b.nameAt k)):=by unfold Y0k; rw [List.range_succ,List.any_append]; simp
theorem Z0p (a b:Tree) (n:Nat):Z7w a b (n + 1) = (Z7w a b n || Y0k a b n (b.basics.length + b.causes.length)):=by unfold Z7w; rw [List.range_succ,List.any_append]; simp
theorem Y5w {α:Type} {l:List α} {f g:α -> Bool} (h:∀ x ∈ l,f x = g x):l.any f = l.any g:=by
 induction l with
 | nil=>rfl
 | cons x l ih=>rw [List.any_cons,List.any_cons,h x (by simp),ih (fun y hy=>h y (by simp [hy]))]
theorem Z5v (x y:ByteArray):(x == y) = (y == x):=by
 by_cases h:x = y
 . rw [h]
 . rw [Q3c h,Q3c (Ne.symm h)]
theorem Y6e (a b:Tree):Q6d a b = Z7w a b (a.basics.length + a.causes.length):=by
 unfold Q6d Z7w;rw [X5s a,List.any_map];refine Y5w fun i _=>?_;show Y3b (Q5b b) (a.nameAt i) = Y0k a b i _;unfold Y3b Y0k;rw [X5s b,List.any_map];exact Y5w fun k _=>Z5v _ _
theorem Z4m {a b:Tree} {i k:Nat} (hi:i < a.basics.length + a.causes.length) (hk:k < b.basics.length + b.causes.length) (h:(a.nameAt i == b.nameAt k) = true):Q6d a b = true:=by
 rw [Y6e];unfold Z7w;rw [List.any_eq_true];refine ⟨i,List.mem_range.2 hi,?_⟩;unfold Y0k;rw [List.any_eq_true];exact ⟨k,List.mem_range.2 hk,h⟩
theorem Z2v (W0 WB:World) (a b:Tree) (kind:ByteArray) (A Bx R:Nat) (Aa Ca Ga Ab Cb Gb:Option Addr) (ca cca cga cb ccb cgb:Nat) (hsb:b.causes.length <= 900) (hsa:a.causes.length <= 900) (hga:a.gates.length <= 900) (hgb:b.gates.length <= 900) (hna:a.basics.length <= 900) (hnb:b.basics.length <= 900) (hst:Q7k (Q0w a b kind)) (hg0:0 < a.gates.length) (hg1:0 < b.gates.length) (hv:∀ k,k < b.causes.length -> ∀ x ∈ lC b k,x < b.basics.length) (hlc:(∀ k,k < b.causes.length -> (lC b k).length <= 900 /\ ∀ x ∈ lC b k,0 <= x /\ x < 1000)) (hla:(∀ k,k < a.gates.length -> (lG a k).length <= 900 /\ ∀ x ∈ lG a k,0 <= x /\ x < 1000)) (hlb:(∀ k,k < b.gates.length -> (lG b k).length <= 900 /\ ∀ x ∈ lG b k,0 <= x /\ x < 1000)) (hfa:Few a) (hfb:Few b) (hna0:1 <= a.basics.length) (hnb0:1 <= b.basics.length)
    (hta:Q5u WB (.slice Aa a.basics.length ca) (.slice Ca a.causes.length cca) (.slice Ga a.gates.length cga) a) (htb:Q5u WB (.slice Ab b.basics.length cb) (.slice Cb b.causes.length ccb) (.slice Gb b.gates.length cgb) b)
    (k3:Blk WB A 26 #[.slice Aa a.basics.length ca,.slice Ca a.causes.length cca,.slice Ga a.gates.length cga]) (k4:Blk WB Bx 26 #[.slice Ab b.basics.length cb,.slice Cb b.causes.length ccb,.slice Gb b.gates.length cgb]) (kR:Blk WB R 26 #[.slice none 0 0,.slice none 0 0,.slice none 0 0]) (h0R:W0.heap.size <= R) (hx0:Ext W0 WB) (ua ub uc ud ue uf ug uh ui uj uk ul um un uo up uq ur us ut uu uv uw ux uy uz uA uB uC uD uE uF uG uH uI uJ uK uL uM uN uO uP uQ uR uS uT uU uV uW uX uY uZ u2 u3 u4 u6 Ua Ub Uc Ud Ue Uf Ug Uh Ui Uj Uk Ul Um Un Uo Up Uq Ur Us Ut Uu Uv Uw Ux Uy Uz UA UB UC UD UE UF UG UH UI UJ UK UL UM UN UO UP UQ UR US UT UU UV UW UX UY UZ U0 U1 U2 U3 U4 U5 U6 U7 U8 U9 ya yb yc yd ye yf yg yh yi yj yk yl ym yn yo yp yq yr ys yt yu yv yw yx yy yz yA yB yC yD yE yF yG yH yI yJ yK yL yM yN yO yP yQ yR yS yT yU yV yW yX yY yZ y0 y1 y2 y3 y4 y5 y6 y7 y8 y9 Ya Yb Yc Yd Ye Yf Yg Yh Yi Yj Yk Yl Ym Yn Yo Yp Yq Yr Ys Yt Yu Yv Yw Yx Yy Yz YA YB YC YD YE YF YG YH YI YJ YK YL YM YN YO YP YQ YR YS YT YU YV YW YX YY YZ Y0 Y1 Y2 Y3 Y4 Y5 Y6 Y7 Y8 Y9 ja jb jc jd je jf jg jh ji jj jk jl jm jn jo jp jq jr js jt ju jv jw jx jy jz jA jB:Value) :
    (codeFrom Tryz.f13 3).wp Tryz.prog (bodyPost Tryz.prog Tryz.f13 (fun e w'=>∃ cs,e = .returned (.tuple #[.agg cs,.int .i64 (Q1q a b)]) /\ cs.size = 3 /\ (∀ u ∈ cs.toList,u.oneCell' = true) /\ Q7a 26 w' (.agg cs) (if Q1q a b = 0 then Q0w a b kind else ⟨[],[],[]⟩) /\ Ext W0 w')) ⟨#[ua,ub,.string kind,.pointer (some ⟨A,0,none⟩),.pointer (some ⟨Bx,0,none⟩),uc,.pointer (some ⟨R,0,none⟩),ud,ue,uf,ug,uh,ui,uj,uk,ul,um,un,uo,up,uq,ur,us,ut,uu,uv,uw,ux,uy,uz,uA,uB,uC,uD,uE,uF,uG,uH,uI,uJ,uK,uL,uM,uN,uO,uP,uQ,uR,uS,uT,uU,uV,uW,uX,uY,uZ,u2,u3,u4,u6,Ua,Ub,Uc,Ud,Ue,Uf,Ug,Uh,Ui,Uj,Uk,Ul,Um,Un,Uo,Up,Uq,Ur,Us,Ut,Uu,Uv,Uw,Ux,Uy,Uz,UA,UB,UC,UD,UE,UF,UG,UH,UI,UJ,UK,UL,UM,UN,UO,UP,UQ,UR,US,UT,UU,UV,UW,UX,UY,UZ,U0,U1,U2,U3,U4,U5,U6,U7,U8,U9,ya,yb,yc,yd,ye,yf,yg,yh,yi,yj,yk,yl,ym,yn,yo,yp,yq,yr,ys,yt,yu,yv,yw,yx,yy,yz,yA,yB,yC,yD,yE,yF,yG,yH,yI,yJ,yK,yL,yM,yN,yO,yP,yQ,yR,yS,yT,yU,yV,yW,yX,yY,yZ,y0,y1,y2,y3,y4,y5,y6,y7,y8,y9,Ya,Yb,Yc,Yd,Ye,Yf,Yg,Yh,Yi,Yj,Yk,Yl,Ym,Yn,Yo,Yp,Yq,Yr,Ys,Yt,Yu,Yv,Yw,Yx,Yy,Yz,YA,YB,YC,YD,YE,YF,YG,YH,YI,YJ,YK,YL,YM,YN,YO,YP,YQ,YR,YS,YT,YU,YV,YW,YX,YY,YZ,Y0,Y1,Y2,Y3,Y4,Y5,Y6,Y7,Y8,Y9,ja,jb,jc,jd,je,jf,jg,jh,ji,jj,jk,jl,jm,jn,jo,jp,jq,jr,js,jt,ju,jv,jw,jx,jy,jz,jA,jB],[]⟩ WB:=by
 conv=>arg 2; whnf
 obtain ⟨PP,hPP⟩:∃ x,(bodyPost Tryz.prog Tryz.f13 (fun e w'=>∃ cs,e = .returned (.tuple #[.agg cs,.int .i64 (Q1q a b)]) /\ cs.size = 3 /\ (∀ u ∈ cs.toList,u.oneCell' = true) /\ Q7a 26 w' (.agg cs) (if Q1q a b = 0 then Q0w a b kind else ⟨[],[],[]⟩) /\ Ext W0 w')) = x:=⟨_,rfl⟩
 rw [hPP];have HPP:=Lib.hid hPP;have HTA:=Lib.hid hta;have HTB:=Lib.hid htb;have KA:=Lib.hid k3;have KB:=Lib.hid k4;have KR:=Lib.hid kR;have HX0:=Lib.hid hx0;have HST:=Lib.hid hst;have HV:=Lib.hid hv;have HLC:=Lib.hid hlc;have HLA:=Lib.hid hla;have HLB:=Lib.hid hlb;obtain ⟨n,hn⟩:∃ n,a.basics.length + a.causes.length = n:=⟨_,rfl⟩;obtain ⟨m,hm⟩:∃ m,b.basics.length + b.causes.length = m:=⟨_,rfl⟩;have hn9:n <= 1800:=by omega
 have hm9:m <= 1800:=by omega
 have HN:=Lib.hid hn;have HM:=Lib.hid hm;have HSA:Hid (∀ (w:World) (v:Value),IsTree w v a -> Calls Tryz.prog 18 #[v] w fun e w'=>e = .returned (.int .i64 (n:Int)) /\ Ext w w'):=by
  exact (by intro w v h; have h2:=X2d w v a h; have e:a.size = n:=hn; rw [e] at h2; exact h2:∀ (w:World) (v:Value),IsTree w v a -> Calls Tryz.prog 18 #[v] w fun e w'=>e = .returned (.int .i64 (n:Int)) /\ Ext w w')
 have HSB:Hid (∀ (w:World) (v:Value),IsTree w v b -> Calls Tryz.prog 18 #[v] w fun e w'=>e = .returned (.int .i64 (m:Int)) /\ Ext w w'):=by
  exact (by intro w v h; have h2:=X2d w v b h; have e:b.size = m:=hm; rw [e] at h2; exact h2:∀ (w:World) (v:Value),IsTree w v b -> Calls Tryz.prog 18 #[v] w fun e w'=>e = .returned (.int .i64 (m:Int)) /\ Ext w w')
 clear hPP hta htb k3 k4 kR hx0 hst hv hlc hla hlb hn hm;go_upto_region 4 with fail
 go_loopw [8] (fun x wr=>∃ (i:Nat),i <= n /\ x = .int .i64 i /\ Z7w a b i = false /\ Ext WB wr) (fun x _=>n - (intOf x).toNat)
 case atStart=>exact ⟨0,Nat.zero_le _,rfl,rfl,Ext.refl _⟩
 case round =>
  obtain ⟨i,hi,rfl,htw,hx⟩:=hrel;have HTW:=Lib.hid htw;have HX:=Lib.hid hx;clear htw hx;have ka:=KA.out.ext HX.out;have kb:=KB.out.ext HX.out;have a0:=ka.cell 0;have a1:=ka.cell 1;have a2:=ka.cell 2;have b0:=kb.cell 0;have b1:=kb.cell 1;have b2:=kb.cell 2;simp only [Go.Tw.gA,Go.Tw.gB,Go.Tw.gC] at a0 a1 a2 b0 b1 b2;clear ka kb;go_wp2_with fail;refine (HSA.out _ _ ⟨_,_,_,rfl,HTA.out.ext HX.out⟩).mono ?_;rintro e w2 ⟨rfl,hx2⟩;replace a0:=hx2.cell a0;replace a1:=hx2.cell a1;replace a2:=hx2.cell a2;replace b0:=hx2.cell b0;replace b1:=hx2.cell b1;replace b2:=hx2.cell b2;have HX2:=Lib.hid (HX.out.trans hx2);clear hx2 HX
  by_cases hlt:i < n
  . have hltI:(i:Int) < n:=by omega
    go_wp2
    go_loopw [9] (fun x wr=>∃ (k:Nat),k <= m /\ x = .int .i64 k /\ Y0k a b i k = false /\ Ext WB wr) (fun x _=>m - (intOf x).toNat)
    case atStart=>exact ⟨0,Nat.zero_le _,rfl,rfl,HX2.out⟩
    case round =>
     obtain ⟨k,hk,rfl,hrw,hx⟩:=hrel;have HRW:=Lib.hid hrw;have HX:=Lib.hid hx;clear hrw hx a0 a1 a2 b0 b1 b2;have ka:=KA.out.ext HX.out;have kb:=KB.out.ext HX.out;have a0:=ka.cell 0;have a1:=ka.cell 1;have a2:=ka.cell 2;have b0:=kb.cell 0;have b1:=kb.cell 1;have b2:=kb.cell 2;simp only [Go.Tw.gA,Go.Tw.gB,Go.Tw.gC] at a0 a1 a2 b0 b1 b2;clear ka kb;go_wp2_with fail;refine (HSB.out _ _ ⟨_,_,_,rfl,HTB.out.ext HX.out⟩).mono ?_;rintro e w3 ⟨rfl,hx3⟩;replace a0:=hx3.cell a0;replace a1:=hx3.cell a1;replace a2:=hx3.cell a2;replace b0:=hx3.cell b0;replace b1:=hx3.cell b1;replace b2:=hx3.cell b2;have HX3:=Lib.hid (HX.out.trans hx3);clear hx3 HX
     by_cases hkm:k < m
     . have hkI:(k:Int) < m:=by omega
       have HMS:Hid (i < a.size):=Lib.hid (by have:=HN.out; unfold Tree.size; omega)
       have HKS:Hid (k < b.size):=Lib.hid (by have:=HM.out; unfold Tree.size; omega)
       have HYES:Hid ((a.nameAt i == b.nameAt k) = true -> Q6d a b = true):=Lib.hid (Z4m HMS.out HKS.out);have HST2:=Lib.hid (Y8e a b i k);have HNM:Hid (∀ (w':World) (v:Value),IsTree w' v a -> Calls Tryz.prog 47 #[v,.int .i64 i] w' fun e w''=>e = .returned (.string (a.nameAt i)) /\ Ext w' w''):=Lib.hid (fun w' v h=>name_any w' v a i h HMS.out);have HNK:Hid (∀ (w':World) (v:Value),IsTree w' v b -> Calls Tryz.prog 47 #[v,.int .i64 k] w' fun e w''=>e = .returned (.string (b.nameAt k)) /\ Ext w' w''):=Lib.hid (fun w' v h=>name_any w' v b k h HKS.out);obtain ⟨x,hx⟩:∃ x,a.nameAt i = x:=⟨_,rfl⟩;obtain ⟨y,hy⟩:∃ y,b.nameAt k = y:=⟨_,rfl⟩;rw [hx] at HNM;rw [hy] at HNK;rw [hx,hy] at HST2 HYES;obtain ⟨q,hq⟩:∃ q,(x.toList == y.toList) = q:=⟨_,rfl⟩;have HQ:Hid ((x == y) = q):=Lib.hid (by rw [Go.beq_toListBytes]; exact hq)
       rw [HQ.out] at HST2 HYES;have hdr:=(Ext.refl w3).drew;clear hx hy;go_wp2;refine Flow.Q2m [.w,.p,.w,.w,.p,.w,.p] [0,1,2,3,4,5,6] [[],[],[0,1],[],[],[2,3,4],[2,5]]
        [.c 0 (.agg #[.slice Aa a.basics.length ca,.slice Ca a.causes.length cca,.slice Ga a.gates.length cga]),.c 1 (.int .i64 i),.c 2 (.string x),.c 3 (.agg #[.slice Ab b.basics.length cb,.slice Cb b.causes.length ccb,.slice Gb b.gates.length cgb]),.c 4 (.int .i64 k),.c 5 (.string y),.c 6 (.bool q)]
        (by kernel_rfl) rfl (by kernel_rfl) ⟨?g0,?g1,?g2,?g3,?g4,?g5,?g6,trivial⟩ ?post
       case g0=>
        intro v w1 hx;intro bb hbb;intro K hK;have o1:bb.eval (.tmp 3) = .pointer (some ⟨A,0,none⟩):=by rw [hbb]; dsimp only; (try simp (discharger:=decide) only [eval_put_ne]); rfl
        exact Q0h (.tmp 3) _ rfl Tryz.Q2k Tryz.Q0x o1 (KA.out.ext (HX3.out.trans (hdr.trans hx))) rfl (hK _ _ (Ext.refl _) rfl)
       case g1 | g4=>
        intro v w1 hx;intro bb hbb;subst hbb;refine ⟨_,fun w=>?_,rfl⟩;go_simp
       case g2=>
        intro v w1 hx;(repeat intro (zq:v _ = _));intro bb hbb;subst hbb;intro K hK;go_simp;refine Q0c (HNM.out w1 _ ⟨_,_,_,rfl,HTA.out.ext (HX3.out.trans (hdr.trans hx))⟩) ?_;rintro e w2 ⟨rfl,hx2⟩;exact ⟨_,rfl,hK _ _ hx2 rfl⟩
       case g3=>
        intro v w1 hx;intro bb hbb;intro K hK;have o1:bb.eval (.tmp 4) = .pointer (some ⟨Bx,0,none⟩):=by rw [hbb]; dsimp only; (try simp (discharger:=decide) only [eval_put_ne]); rfl
        exact Q0h (.tmp 4) _ rfl Tryz.Q2k Tryz.Q0x o1 (KB.out.ext (HX3.out.trans (hdr.trans hx))) rfl (hK _ _ (Ext.refl _) rfl)
       case g5=>
        intro v w1 hx;(repeat intro (zq:v _ = _));intro bb hbb;subst hbb;intro K hK;go_simp;refine Q0c (HNK.out w1 _ ⟨_,_,_,rfl,HTB.out.ext (HX3.out.trans (hdr.trans hx))⟩) ?_;rintro e w2 ⟨rfl,hx2⟩;exact ⟨_,rfl,hK _ _ hx2 rfl⟩
       case g6=>
        intro v w1 hx;(repeat intro (zq:v _ = _));intro bb hbb;subst hbb;refine ⟨_,fun w=>?_,rfl⟩;go_simp
       case post =>
        intro v w1 hx;(iterate 7 intro (zq:v _ = _));simp only [Flow.All,Flow.acts,Act.put];go_simp;have HXX:=Lib.hid (HX3.out.trans (hdr.trans hx));clear hx hdr hq;cases q with
        | true =>
          have KR2:=Lib.hid (KR.out.ext HXX.out);have HE2:Hid (Q1q a b = 9):=Lib.hid (by unfold Q1q; rw [HYES.out (by trivial)]; rfl)
          go_wp2_with (refine Q0d rfl _ _ 26 rfl Tryz.Q0x rfl rfl KR2.out rfl rfl ?_ ?_; (focus (exact Q3i _ _ _ _ _ _ _ _ _)); intro w11 hb11 hl11 ho11);rw [<- HPP.out];refine bodyPost_ret (Q0n Tryz.results13 rfl hb11 Tryz.Q2k Tryz.Q0x rfl) rfl ?_;exact ⟨_,by rw [HE2.out]; rfl,rfl,Q3i _ _ _ _ _ _ _ _ _,by rw [HE2.out,if_neg (by decide)]; exact X3o _ _,Below.trans (HX0.out.trans HXX.out) (hl11 _ h0R)⟩
        | false =>
          go_wp2;go_roundw
          case rel=>exact ⟨k + 1,by omega,by go_num,by rw [HST2.out,HRW.out]; rfl,HXX.out⟩
          case measure=>simp [intOf]; omega
     . obtain rfl:k = m:=by omega
       clear a0 a1 a2 b0 b1 b2;go_wp2;go_roundw
       case rel=>exact ⟨i + 1,by omega,by go_num,by rw [Z0p,HTW.out,HM.out,HRW.out]; rfl,HX3.out⟩
       case measure=>simp [intOf]; omega
  . obtain rfl:i = n:=by omega
    have HTW2:Hid (Q6d a b = false):=Lib.hid (by rw [Y6e,HN.out]; exact HTW.out)
    obtain ⟨p2,hp2⟩:∃ x,decide ((12:Int) < (i:Int) + m) = x:=⟨_,rfl⟩;obtain ⟨s2,hs2⟩:∃ x,decide ((32:Int) < (a.gates.length:Int) + b.gates.length + 1) = x:=⟨_,rfl⟩;have HE2:Hid (Q1q a b = Q0m (p2 || s2) 5):=Lib.hid (by
     have h1:X0a a b = (p2 || s2):=by
      unfold X0a;rw [<- hp2,<- hs2];have:=HN.out;have:=HM.out
      congr 1 <;> · apply decide_eq_decide.2; omega
     unfold Q1q;rw [HTW2.out,h1];cases p2 <;> cases s2 <;> rfl)
    have hw1:IntKind.i64.wrap ((i:Int) + m) = (i:Int) + m:=wrap_in (by omega) (by omega)
    have hw2:IntKind.i64.wrap ((a.gates.length:Int) + b.gates.length) = (a.gates.length:Int) + b.gates.length:=wrap_in (by omega) (by omega)
    have hw3:IntKind.i64.wrap ((a.gates.length:Int) + b.gates.length + 1) = (a.gates.length:Int) + b.gates.length + 1:=wrap_in (by omega) (by omega)
    go_wp2;have hdr:=(Ext.refl w2).drew;clear a0 a1 a2 b0 b1 b2;refine Flow.Q2m [.w,.w,.w,.w,.p,.p,.p,.p,.w,.p,.p,.w,.p,.p,.p,.p,.p] [0,1,2,3,4,5,6,7,8,9,10,11,12,13,14,15,16] [[],[0],[],[1,2],[1,3],[4],[3,5],[6],[6,7],[6,8],[6],[6,10],[6,11],[6,9,12],[6,13],[6,14],[6,15]]
     [.c 0 (.agg #[.slice Aa a.basics.length ca,.slice Ca a.causes.length cca,.slice Ga a.gates.length cga]),.c 1 (.int .i64 (i:Int)),.c 2 (.agg #[.slice Ab b.basics.length cb,.slice Cb b.causes.length ccb,.slice Gb b.gates.length cgb]),.c 3 (.int .i64 (m:Int)),.c 4 (.int .i64 ((i:Int) + m)),.c 5 (.bool p2),.c 6 (.bool p2),.c 7 (Q1k p2 (.pointer (some ⟨A,2,none⟩))),.c 8 (Q1k p2 (.slice Ga a.gates.length cga)),.c 9 (Q1k p2 (.int .i64 ((a.gates.length:Nat):Int))),.c 10 (Q1k p2 (.pointer (some ⟨Bx,2,none⟩))),.c 11 (Q1k p2 (.slice Gb b.gates.length cgb)),.c 12 (Q1k p2 (.int .i64 ((b.gates.length:Nat):Int))),.c 13 (Q1k p2 (.int .i64 ((a.gates.length:Int) + b.gates.length))),.c 14 (Q1k p2 (.int .i64 ((a.gates.length:Int) + b.gates.length + 1))),.c 15 (Q1k p2 (.bool s2)),.c 16 (.bool (p2 || s2))]
     (by kernel_rfl) rfl (by kernel_rfl) ⟨?g0,?g1,?g2,?g3,?g4,?g5,?g6,?g7,?g8,?g9,?g10,?g11,?g12,?g13,?g14,?g15,?g16,trivial⟩ ?post
    case g0=>
     intro v w1 hx;intro bb hbb;intro K hK;have o1:bb.eval (.tmp 3) = .pointer (some ⟨A,0,none⟩):=by rw [hbb]; dsimp only; (try simp (discharger:=decide) only [eval_put_ne]); rfl
     exact Q0h (.tmp 3) _ rfl Tryz.Q2k Tryz.Q0x o1 (KA.out.ext (HX2.out.trans (hdr.trans hx))) rfl (hK _ _ (Ext.refl _) rfl)
    case g1=>
     intro v w1 hx;(repeat intro (zq:v _ = _));intro bb hbb;subst hbb;intro K hK;go_simp;refine Q0c (HSA.out w1 _ ⟨_,_,_,rfl,HTA.out.ext (HX2.out.trans (hdr.trans hx))⟩) ?_;rintro e w2 ⟨rfl,hx2⟩;exact ⟨_,rfl,hK _ _ hx2 rfl⟩
    case g2=>
     intro v w1 hx;intro bb hbb;intro K hK;have o1:bb.eval (.tmp 4) = .pointer (some ⟨Bx,0,none⟩):=by rw [hbb]; dsimp only; (try simp (discharger:=decide) only [eval_put_ne]); rfl
     exact Q0h (.tmp 4) _ rfl Tryz.Q2k Tryz.Q0x o1 (KB.out.ext (HX2.out.trans (hdr.trans hx))) rfl (hK _ _ (Ext.refl _) rfl)
    case g3=>
     intro v w1 hx;(repeat intro (zq:v _ = _));intro bb hbb;subst hbb;intro K hK;go_simp;refine Q0c (HSB.out w1 _ ⟨_,_,_,rfl,HTB.out.ext (HX2.out.trans (hdr.trans hx))⟩) ?_;rintro e w2 ⟨rfl,hx2⟩;exact ⟨_,rfl,hK _ _ hx2 rfl⟩
    case g4 | g5 | g6=>
     intro v w1 hx;(repeat intro (zq:v _ = _));intro bb hbb;subst hbb;refine ⟨_,fun w=>?_,rfl⟩;go_simp
    case g7 | g10=>
     intro v w1 hx;(repeat intro (zq:v _ = _));intro bb hbb;cases p2 with
     | true=>exact Flow.Q0v (d:=54) rfl rfl (by rw [hbb]; simp only [size_put]; exact (by decide:54 < 274)) (by rw [hbb]; dsimp only; (try simp (discharger:=decide) only [eval_put_ne]); rw [Q0a (by simp only [size_put]; exact (by decide:54 < 274))]; assumption) rfl
     | false =>
       refine Flow.Q0k (d:=54) rfl rfl (by rw [hbb]; simp only [size_put]; exact (by decide:54 < 274)) (by rw [hbb]; dsimp only; (try simp (discharger:=decide) only [eval_put_ne]); rw [Q0a (by simp only [size_put]; exact (by decide:54 < 274))]; assumption) ?_
       subst hbb;refine ⟨_,fun w=>?_,rfl⟩;go_simp
    case g8=>
     intro v w1 hx (q6:v 6 = _) (q7:v 7 = Q1k p2 (.pointer (some ⟨A,2,none⟩)));intro bb hbb;have n0:w1.cell? ⟨A,2,none⟩ = some (.slice Ga a.gates.length cga):=(KA.out.ext (HX2.out.trans (hdr.trans hx))).cell 2;cases p2 with
     | true=>exact Flow.Q0v (d:=54) rfl rfl (by rw [hbb]; simp only [size_put]; exact (by decide:54 < 274)) (by rw [hbb]; dsimp only; (try simp (discharger:=decide) only [eval_put_ne]); rw [Q0a (by simp only [size_put]; exact (by decide:54 < 274))]; exact q6) rfl
     | false =>
       replace q7:v 7 = .pointer (some ⟨A,2,none⟩):=q7;refine Flow.Q0k (d:=54) rfl rfl (by rw [hbb]; simp only [size_put]; exact (by decide:54 < 274)) (by rw [hbb]; dsimp only; (try simp (discharger:=decide) only [eval_put_ne]); rw [Q0a (by simp only [size_put]; exact (by decide:54 < 274))]; exact q6) ?_
       subst hbb;intro K hK;go_simp;exact hK _ _ (Ext.refl _) rfl
    case g9=>
     intro v w1 hx (q6:v 6 = _) (q8:v 8 = Q1k p2 (.slice Ga a.gates.length cga));intro bb hbb;cases p2 with
     | true=>exact Flow.Q0v (d:=54) rfl rfl (by rw [hbb]; simp only [size_put]; exact (by decide:54 < 274)) (by rw [hbb]; dsimp only; (try simp (discharger:=decide) only [eval_put_ne]); rw [Q0a (by simp only [size_put]; exact (by decide:54 < 274))]; exact q6) rfl
     | false =>
       replace q8:v 8 = .slice Ga a.gates.length cga:=q8;refine Flow.Q0k (d:=54) rfl rfl (by rw [hbb]; simp only [size_put]; exact (by decide:54 < 274)) (by rw [hbb]; dsimp only; (try simp (discharger:=decide) only [eval_put_ne]); rw [Q0a (by simp only [size_put]; exact (by decide:54 < 274))]; exact q6) ?_
       subst hbb;refine ⟨_,fun w=>?_,rfl⟩;go_simp
    case g11=>
     intro v w1 hx (q6:v 6 = _) (q10:v 10 = Q1k p2 (.pointer (some ⟨Bx,2,none⟩)));intro bb hbb;have n0:w1.cell? ⟨Bx,2,none⟩ = some (.slice Gb b.gates.length cgb):=(KB.out.ext (HX2.out.trans (hdr.trans hx))).cell 2;cases p2 with
     | true=>exact Flow.Q0v (d:=54) rfl rfl (by rw [hbb]; simp only [size_put]; exact (by decide:54 < 274)) (by rw [hbb]; dsimp only; (try simp (discharger:=decide) only [eval_put_ne]); rw [Q0a (by simp only [size_put]; exact (by decide:54 < 274))]; exact q6) rfl
     | false =>
       replace q10:v 10 = .pointer (some ⟨Bx,2,none⟩):=q10;refine Flow.Q0k (d:=54) rfl rfl (by rw [hbb]; simp only [size_put]; exact (by decide:54 < 274)) (by rw [hbb]; dsimp only; (try simp (discharger:=decide) only [eval_put_ne]); rw [Q0a (by simp only [size_put]; exact (by decide:54 < 274))]; exact q6) ?_
       subst hbb;intro K hK;go_simp;exact hK _ _ (Ext.refl _) rfl
    case g12=>
     intro v w1 hx (q6:v 6 = _) (q11:v 11 = Q1k p2 (.slice Gb b.gates.length cgb));intro bb hbb;cases p2 with
     | true=>exact Flow.Q0v (d:=54) rfl rfl (by rw [hbb]; simp only [size_put]; exact (by decide:54 < 274)) (by rw [hbb]; dsimp only; (try simp (discharger:=decide) only [eval_put_ne]); rw [Q0a (by simp only [size_put]; exact (by decide:54 < 274))]; exact q6) rfl
     | false =>
       replace q11:v 11 = .slice Gb b.gates.length cgb:=q11;refine Flow.Q0k (d:=54) rfl rfl (by rw [hbb]; simp only [size_put]; exact (by decide:54 < 274)) (by rw [hbb]; dsimp only; (try simp (discharger:=decide) only [eval_put_ne]); rw [Q0a (by simp only [size_put]; exact (by decide:54 < 274))]; exact q6) ?_
       subst hbb;refine ⟨_,fun w=>?_,rfl⟩;go_simp
    case g13=>
     intro v w1 hx (q6:v 6 = _) (q9:v 9 = Q1k p2 (.int .i64 ((a.gates.length:Nat):Int))) (q12:v 12 = Q1k p2 (.int .i64 ((b.gates.length:Nat):Int)));intro bb hbb;cases p2 with
     | true=>exact Flow.Q0v (d:=54) rfl rfl (by rw [hbb]; simp only [size_put]; exact (by decide:54 < 274)) (by rw [hbb]; dsimp only; (try simp (discharger:=decide) only [eval_put_ne]); rw [Q0a (by simp only [size_put]; exact (by decide:54 < 274))]; exact q6) rfl
     | false =>
       replace q9:v 9 = .int .i64 ((a.gates.length:Nat):Int):=q9;replace q12:v 12 = .int .i64 ((b.gates.length:Nat):Int):=q12;refine Flow.Q0k (d:=54) rfl rfl (by rw [hbb]; simp only [size_put]; exact (by decide:54 < 274)) (by rw [hbb]; dsimp only; (try simp (discharger:=decide) only [eval_put_ne]); rw [Q0a (by simp only [size_put]; exact (by decide:54 < 274))]; exact q6) ?_
       subst hbb;refine ⟨_,fun w=>?_,rfl⟩;go_simp
    case g14=>
     intro v w1 hx (q6:v 6 = _) (q13:v 13 = Q1k p2 (.int .i64 ((a.gates.length:Int) + b.gates.length)));intro bb hbb;cases p2 with
     | true=>exact Flow.Q0v (d:=54) rfl rfl (by rw [hbb]; simp only [size_put]; exact (by decide:54 < 274)) (by rw [hbb]; dsimp only; (try simp (discharger:=decide) only [eval_put_ne]); rw [Q0a (by simp only [size_put]; exact (by decide:54 < 274))]; exact q6) rfl
     | false =>
       replace q13:v 13 = .int .i64 ((a.gates.length:Int) + b.gates.length):=q13;refine Flow.Q0k (d:=54) rfl rfl (by rw [hbb]; simp only [size_put]; exact (by decide:54 < 274)) (by rw [hbb]; dsimp only; (try simp (discharger:=decide) only [eval_put_ne]); rw [Q0a (by simp only [size_put]; exact (by decide:54 < 274))]; exact q6) ?_
       subst hbb;refine ⟨_,fun w=>?_,rfl⟩;go_simp
    case g15=>
     intro v w1 hx (q6:v 6 = _) (q14:v 14 = Q1k p2 (.int .i64 ((a.gates.length:Int) + b.gates.length + 1)));intro bb hbb;cases p2 with
     | true=>exact Flow.Q0v (d:=54) rfl rfl (by rw [hbb]; simp only [size_put]; exact (by decide:54 < 274)) (by rw [hbb]; dsimp only; (try simp (discharger:=decide) only [eval_put_ne]); rw [Q0a (by simp only [size_put]; exact (by decide:54 < 274))]; exact q6) rfl
     | false =>
       replace q14:v 14 = .int .i64 ((a.gates.length:Int) + b.gates.length + 1):=q14;refine Flow.Q0k (d:=54) rfl rfl (by rw [hbb]; simp only [size_put]; exact (by decide:54 < 274)) (by rw [hbb]; dsimp only; (try simp (discharger:=decide) only [eval_put_ne]); rw [Q0a (by simp only [size_put]; exact (by decide:54 < 274))]; exact q6) ?_
       subst hbb;refine ⟨_,fun w=>?_,rfl⟩;go_simp
    case g16=>
     intro v w1 hx (q6:v 6 = _) (q15:v 15 = Q1k p2 (.bool s2));intro bb hbb;subst hbb;refine ⟨.bool (p2 || s2),fun w=>?_,rfl⟩
     cases p2 with
     | true=>go_simp
     | false=>go_simp; rfl
    case post =>
     intro v w1 hx;(iterate 7 intro (zq:v _ = _));intro (q7:v 7 = Q1k p2 (.pointer (some ⟨A,2,none⟩))) (q8:v 8 = Q1k p2 (.slice Ga a.gates.length cga)) (q9:v 9 = Q1k p2 (.int .i64 ((a.gates.length:Nat):Int))) (q10:v 10 = Q1k p2 (.pointer (some ⟨Bx,2,none⟩))) (q11:v 11 = Q1k p2 (.slice Gb b.gates.length cgb)) (q12:v 12 = Q1k p2 (.int .i64 ((b.gates.length:Nat):Int))) (q13:v 13 = Q1k p2 (.int .i64 ((a.gates.length:Int) + b.gates.length))) (q14:v 14 = Q1k p2 (.int .i64 ((a.gates.length:Int) + b.gates.length + 1))) (q15:v 15 = Q1k p2 (.bool s2));(iterate 1 intro (zq:v _ = _));simp only [Flow.All,Flow.acts,Act.put];go_simp;have HXX:=Lib.hid (HX2.out.trans (hdr.trans hx));obtain ⟨z,hz⟩:∃ z,(p2 || s2) = z:=⟨_,rfl⟩
     rw [hz] at HE2 ⊢;clear hx hdr hp2 hs2 hz q7 q8 q9 q10 q11 q12 q13 q14 q15;(repeat clear zq);cases z with
     | true =>
       have KR2:=Lib.hid (KR.out.ext HXX.out);replace HE2:Hid (Q1q a b = 5):=HE2;go_wp2_with (refine Q0d rfl _ _ 26 rfl Tryz.Q0x rfl rfl KR2.out rfl rfl ?_ ?_; (focus (exact Q3i _ _ _ _ _ _ _ _ _)); intro w11 hb11 hl11 ho11);rw [<- HPP.out];refine bodyPost_ret (Q0n Tryz.results13 rfl hb11 Tryz.Q2k Tryz.Q0x rfl) rfl ?_;exact ⟨_,by rw [HE2.out]; rfl,rfl,Q3i _ _ _ _ _ _ _ _ _,by rw [HE2.out,if_neg (by decide)]; exact X3o _ _,Below.trans (HX0.out.trans HXX.out) (hl11 _ h0R)⟩
     | false =>
       replace HE2:Hid (Q1q a b = 0):=HE2;go_upto_if 64 with fail
       go_step
       go_step
       go_step
       go_step
       rw [<- HPP.out];have e:(bodyPost Tryz.prog Tryz.f13 (fun e w'=>∃ cs,e = .returned (.tuple #[.agg cs,.int .i64 (Q1q a b)]) /\ cs.size = 3 /\ (∀ u ∈ cs.toList,u.oneCell' = true) /\ Q7a 26 w' (.agg cs) (if Q1q a b = 0 then Q0w a b kind else ⟨[],[],[]⟩) /\ Ext W0 w')) = (bodyPost Tryz.prog Tryz.f13 (fun e w'=>∃ cs,e = .returned (.tuple #[.agg cs,.int .i64 0]) /\ cs.size = 3 /\ (∀ u ∈ cs.toList,u.oneCell' = true) /\ Q7a 26 w' (.agg cs) (Q0w a b kind) /\ Ext W0 w')):=by rw [HE2.out,if_pos rfl]
       rw [e];exact Z6u W0 w1 a b kind A Bx R Aa Ca Ga Ab Cb Gb ca cca cga cb ccb cgb hsb hsa hga hgb hna hnb HST.out hg0 hg1 HV.out HLC.out HLA.out HLB.out hfa hfb hna0 hnb0 (HTA.out.ext HXX.out) (HTB.out.ext HXX.out) (KA.out.ext HXX.out) (KB.out.ext HXX.out) (KR.out.ext HXX.out) h0R (HX0.out.trans HXX.out) _ _ _ _ _ _ _ _ _ _ _ _ _ _ _ _ _ _ _ _ _ _ _ _ _ _ _ _ _ _ _ _ _ _ _ _ _ _ _ _ _ _ _ _ _ _ _ _ _ _ _ _ _ _ _ _ _ _ _ _ _ _ _ _ _ _ _ _ _ _ _ _ _ _ _ _ _ _ _ _ _ _ _ _ _ _ _ _ _ _ _ _ _ _ _ _ _ _ _ _ _ _ _ _ _ _ _ _ _ _ _ _ _ _ _ _ _ _ _ _ _ _ _ _ _ _ _ _ _ _ _ _ _ _ _ _ _ _ _ _ _ _ _ _ _ _ _ _ _ _ _ _ _ _ _ _ _ _ _ _ _ _ _ _ _ _ _ _ _ _ _ _ _ _ _ _ _ _ _ _ _ _ _ _ _ _ _ _ _ _ _ _ _ _ _ _ _ _ _ _ _ _ _ _ _ _ _ _ _ _ _ _ _ _ _ _ _ _ _ _ _ _ _ _ _ _ _ _ _ _ _ _ _ _ _ _ _ _ _ _ _ _ _ _ _ _ _ _ _ _ _ _ _ _ _ _ _ _ _ _ _ _ _ _ _ _ _ _ _ _
end Go.Proofs
namespace Go.Proofs
open Go.RowKit Go.Tw Go.Flow
theorem Y8z (w:World) (va vb:Value) (a b:Tree) (kind:ByteArray) (ha:IsTree w va a) (hb:IsTree w vb b) (hea:a.err = 0) (heb:b.err = 0) (hfa:Few a) (hfb:Few b) :
    Calls Tryz.prog 13 #[va,vb,.string kind] w fun e w'=>∃ cs,e = .returned (.tuple #[.agg cs,.int .i64 (Q3t a b kind)]) /\ cs.size = 3 /\ (∀ u ∈ cs.toList,u.oneCell' = true) /\ Q7a 26 w' (.agg cs) (Q8j a b kind) /\ Ext w w':=by
 obtain ⟨a1,a2,a3,rfl,h3⟩:=ha;obtain ⟨b1,b2,b3,rfl,h4⟩:=hb;obtain ⟨Aa,ca,rfl,_⟩:=h3.basics.opened;obtain ⟨Ca,cca,rfl,_⟩:=h3.causes.opened;obtain ⟨Ga,cga,rfl,_⟩:=h3.gates.opened;obtain ⟨Ab,cb,rfl,_⟩:=h4.basics.opened;obtain ⟨Cb,ccb,rfl,_⟩:=h4.causes.opened;obtain ⟨Gb,cgb,rfl,_⟩:=h4.gates.opened;have HTA0:=Lib.hid h3;have HTB0:=Lib.hid h4;clear h3 h4;obtain ⟨EE,hEE⟩:∃ x,Q3t a b kind = x:=⟨_,rfl⟩;obtain ⟨TT,hTT⟩:∃ x,Q8j a b kind = x:=⟨_,rfl⟩;rw [hEE,hTT];have HEE:=Lib.hid hEE;have HTT:=Lib.hid hTT;clear hEE hTT;have hva:=Valid.of hea;have hvb:=Valid.of heb;have sa:=hva.size;have sb:=hvb.size;unfold Tree.size at sa sb;have ga:=hva.ng';have gb:=hvb.ng';have na:=hva.nb;have nb:=hvb.nb;have na2:=hva.ng;have nb2:=hvb.ng;have HV:Hid (∀ k,k < b.causes.length -> ∀ x ∈ lC b k,x < b.basics.length):=Lib.hid fun k hk x hx=>(hvb.members hk x hx).2;have HLC:Hid ((∀ k,k < b.causes.length -> (lC b k).length <= 900 /\ ∀ x ∈ lC b k,0 <= x /\ x < 1000)):=Lib.hid fun k hk=>by
  obtain ⟨_,_,h3,h4,_⟩:=hvb.cause hk;exact ⟨by show (Q0e b.causes k).length <= 900; omega,fun x hx=>by have:=h4 x hx; omega⟩
 have HLA:Hid ((∀ k,k < a.gates.length -> (lG a k).length <= 900 /\ ∀ x ∈ lG a k,0 <= x /\ x < 1000)):=Lib.hid fun k hk=>by
  obtain ⟨_,_,h3,h4,_⟩:=hva.Y1j hk;exact ⟨by show (Q0i a.gates k).length <= 900; omega,fun x hx=>by have:=h4 x hx; omega⟩
 have HLB:Hid ((∀ k,k < b.gates.length -> (lG b k).length <= 900 /\ ∀ x ∈ lG b k,0 <= x /\ x < 1000)):=Lib.hid fun k hk=>by
  obtain ⟨_,_,h3,h4,_⟩:=hvb.Y1j hk;exact ⟨by show (Q0i b.gates k).length <= 900; omega,fun x hx=>by have:=h4 x hx; omega⟩
 obtain ⟨B,hB⟩:∃ x,(kind == Q8x) = x:=⟨_,rfl⟩;obtain ⟨C,hC⟩:∃ x,(kind == sOr) = x:=⟨_,rfl⟩;have hBt:(kind.toList == [97,110,100]) = B:=by
  rw [<- hB]
  by_cases h:kind = Q8x
  . rw [toList_eq X2q h,h]; rfl
  . rw [Q5c X2q h]; exact (Q3c h).symm
 have hCt:(kind.toList == [111,114]) = C:=by
  rw [<- hC]
  by_cases h:kind = sOr
  . rw [toList_eq X5w h,h]; rfl
  . rw [Q5c X5w h]; exact (Q3c h).symm
 have HE1:Hid (Q4r a b kind = Q0m (!B && !C) 13):=Lib.hid (by
  unfold Q4r;rw [hea,heb,hB,hC];cases B <;> cases C <;> rfl)
 have HKS:Hid ((B || C) = true -> Short kind):=Lib.hid fun h=>by
  by_cases h1:kind = Q8x
  . rw [h1]; unfold Short; decide
  . rw [Q3c h1] at hB
    by_cases h2:kind = sOr
    . rw [h2]; unfold Short; decide
    . rw [Q3c h2] at hC
      rw [<- hB,<- hC] at h;cases h
 clear hB hC;have HVV:=Lib.hid (⟨hva,hvb⟩:Valid a /\ Valid b);clear hva hvb;go_enter Tryz.func13,Tryz.ntmps13;go_upto_region 1 with fail;change Code.wp _ _ _ _ (((w.alloc (.cells #[.slice Aa a.basics.length ca,.slice Ca a.causes.length cca,.slice Ga a.gates.length cga] 26)).alloc (.cells #[.slice Ab b.basics.length cb,.slice Cb b.causes.length ccb,.slice Gb b.gates.length cgb] 26)).alloc (.cells #[.slice none 0 0,.slice none 0 0,.slice none 0 0] 26));obtain ⟨W,hWW,k0,k1,k2,HXW,eW⟩:=X2v w 26 #[.slice Aa a.basics.length ca,.slice Ca a.causes.length cca,.slice Ga a.gates.length cga] 26 #[.slice Ab b.basics.length cb,.slice Cb b.causes.length ccb,.slice Gb b.gates.length cgb] 26 #[.slice none 0 0,.slice none 0 0,.slice none 0 0];rw [hWW];clear hWW;have HTA:=Lib.hid (HTA0.out.ext HXW.out);have HTB:=Lib.hid (HTB0.out.ext HXW.out);have K0:=Lib.hid k0;have K1:=Lib.hid k1;have K2:=Lib.hid k2;clear k0 k1 k2 HTA0 HTB0
 by_cases hg:(B || C) = true
 . have HST:=Lib.hid (X1o HVV.out.1 HVV.out.2 (HKS.out hg))
   have hz:Q0m (!B && !C) 13 = 0:=by revert hg; cases B <;> cases C <;> intro hg <;> first | rfl | cases hg
   have hme:EE = Q1q a b:=by rw [<- HEE.out]; unfold Q3t; rw [HE1.out,hz,if_pos rfl]
   have hmt:TT = if Q1q a b = 0 then Q0w a b kind else ⟨[],[],[]⟩:=by rw [<- HTT.out]; unfold Q8j; rw [HEE.out,hme]
   subst hme hmt;clear hz;cases B with
   | true =>
     go_upto_if 26 with fail
     go_step
     go_step
     go_step
     go_step
     exact Z2v w W a b kind w.heap.size (w.heap.size + 1) (w.heap.size + 1 + 1) Aa Ca Ga Ab Cb Gb ca cca cga cb ccb cgb (by omega) (by omega) (by omega) (by omega) (by omega) (by omega) HST.out (by omega) (by omega) HV.out HLC.out HLA.out HLB.out hfa hfb (by omega) (by omega) HTA.out HTB.out K0.out K1.out K2.out (by omega) HXW.out _ _ _ _ _ _ _ _ _ _ _ _ _ _ _ _ _ _ _ _ _ _ _ _ _ _ _ _ _ _ _ _ _ _ _ _ _ _ _ _ _ _ _ _ _ _ _ _ _ _ _ _ _ _ _ _ _ _ _ _ _ _ _ _ _ _ _ _ _ _ _ _ _ _ _ _ _ _ _ _ _ _ _ _ _ _ _ _ _ _ _ _ _ _ _ _ _ _ _ _ _ _ _ _ _ _ _ _ _ _ _ _ _ _ _ _ _ _ _ _ _ _ _ _ _ _ _ _ _ _ _ _ _ _ _ _ _ _ _ _ _ _ _ _ _ _ _ _ _ _ _ _ _ _ _ _ _ _ _ _ _ _ _ _ _ _ _ _ _ _ _ _ _ _ _ _ _ _ _ _ _ _ _ _ _ _ _ _ _ _ _ _ _ _ _ _ _ _ _ _ _ _ _ _ _ _ _ _ _ _ _ _ _ _ _ _ _ _ _ _ _ _ _ _ _ _ _ _ _ _ _ _ _ _ _ _ _ _ _ _ _ _ _ _ _ _ _ _ _ _ _ _ _ _ _ _ _ _ _ _ _ _ _ _ _ _ _ _ _ _
   | false=>cases C with
     | true =>
       go_upto_if 26 with fail
       go_step
       go_step
       go_step
       go_step
       exact Z2v w W a b kind w.heap.size (w.heap.size + 1) (w.heap.size + 1 + 1) Aa Ca Ga Ab Cb Gb ca cca cga cb ccb cgb (by omega) (by omega) (by omega) (by omega) (by omega) (by omega) HST.out (by omega) (by omega) HV.out HLC.out HLA.out HLB.out hfa hfb (by omega) (by omega) HTA.out HTB.out K0.out K1.out K2.out (by omega) HXW.out _ _ _ _ _ _ _ _ _ _ _ _ _ _ _ _ _ _ _ _ _ _ _ _ _ _ _ _ _ _ _ _ _ _ _ _ _ _ _ _ _ _ _ _ _ _ _ _ _ _ _ _ _ _ _ _ _ _ _ _ _ _ _ _ _ _ _ _ _ _ _ _ _ _ _ _ _ _ _ _ _ _ _ _ _ _ _ _ _ _ _ _ _ _ _ _ _ _ _ _ _ _ _ _ _ _ _ _ _ _ _ _ _ _ _ _ _ _ _ _ _ _ _ _ _ _ _ _ _ _ _ _ _ _ _ _ _ _ _ _ _ _ _ _ _ _ _ _ _ _ _ _ _ _ _ _ _ _ _ _ _ _ _ _ _ _ _ _ _ _ _ _ _ _ _ _ _ _ _ _ _ _ _ _ _ _ _ _ _ _ _ _ _ _ _ _ _ _ _ _ _ _ _ _ _ _ _ _ _ _ _ _ _ _ _ _ _ _ _ _ _ _ _ _ _ _ _ _ _ _ _ _ _ _ _ _ _ _ _ _ _ _ _ _ _ _ _ _ _ _ _ _ _ _ _ _ _ _ _ _ _ _ _ _ _ _ _ _ _ _
     | false=>cases hg
 . have hB0:B = false:=by cases B with | true=>exact absurd rfl hg | false=>rfl
   have hC0:C = false:=by cases C with | true=>exact absurd (by simp) hg | false=>rfl
   subst hB0 hC0;have hme:EE = 13:=by rw [<- HEE.out]; unfold Q3t; rw [HE1.out]; rfl
   have hmt:TT = ⟨[],[],[]⟩:=by rw [<- HTT.out]; unfold Q8j; rw [HEE.out,hme,if_neg (by decide)]
   subst hme hmt;clear hg;go_wp2_with (refine Q0d rfl _ _ 26 rfl Tryz.Q0x rfl rfl K2.out rfl rfl ?_ ?_; (focus (exact Q3i _ _ _ _ _ _ _ _ _)); intro w11 hb11 hl11 ho11);refine bodyPost_ret (Q0n Tryz.results13 rfl hb11 Tryz.Q2k Tryz.Q0x rfl) rfl ?_;exact ⟨_,rfl,rfl,Q3i _ _ _ _ _ _ _ _ _,X3o _ _,Below.trans HXW.out (hl11 _ (by omega))⟩
end Go.Proofs
