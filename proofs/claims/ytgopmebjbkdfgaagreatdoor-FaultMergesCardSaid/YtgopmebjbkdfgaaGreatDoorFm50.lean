/- The walk through the reference's Merge from region 32 on: the inputs of the second copy's gates. The walk through the reference's Merge from region 24 on: the inputs of the first copy's gates. -/
import Derived.Test.YtgopmebjbkdfgaaGreatDoorFm49
import Derived.StillTailTactics
import Derived.BigQuiet
set_option maxRecDepth 1000000
set_option maxHeartbeats 64000000
set_option linter.unusedVariables false
set_option linter.unusedSimpArgs false
set_option linter.constructorNameAsVariable false
namespace Go.Proofs
open Go.RowKit Go.Tw Go.Flow
theorem Z6w (W0 WB:World) (a b:Tree) (kind:ByteArray) (A Bx R X Y O:Nat) (Aa Ca Ga Ab Cb Gb:Option Addr) (ca cca cga cb ccb cgb:Nat) (xb xc xg yb yc yg:Value) (mc mg nc ng:Nat -> Value) (B0:Nat) (ob oc:Value) (hsb:b.causes.length <= 900) (hsa:a.causes.length <= 900) (hga:a.gates.length <= 900) (hgb:b.gates.length <= 900) (hna:a.basics.length <= 900) (hnb:b.basics.length <= 900) (hst:Q7k (Q0w a b kind)) (hg0:0 < a.gates.length) (hg1:0 < b.gates.length) (hv:∀ k,k < b.causes.length -> ∀ x ∈ lC b k,x < b.basics.length) (hlb:(∀ k,k < b.gates.length -> (lG b k).length <= 900 /\ ∀ x ∈ lG b k,0 <= x /\ x < 1000)) (kO:Blk WB O 26 #[ob,oc,.slice none 0 0]) (hob:Q1d WB B0 48 2 Q8h ob (a.basics ++ b.basics)) (hoc:Q1d WB B0 50 3 enc3 oc (((List.range a.causes.length).map (cF a mc)) ++ ((List.range b.causes.length).map (cF b nc)))) (hxy:∀ g,xg.ownBlock = some g -> yg.ownBlock ≠ some g)
    (hS:RG WB B0 a b A Bx R X Y Aa Ca Ga Ab Cb Gb ca cca cga cb ccb cgb xb xc xg yb yc yg mg ng) (hR:A ≠ O /\ Bx ≠ O /\ R ≠ O /\ X ≠ O /\ Y ≠ O /\ W0.heap.size <= R /\ B0 <= O) (hF:Q9s WB B0 (Y1e a b) (Y1h mc mg nc ng) (Q4m (Q4m (X1p (lC a) (lG a) (lC b) (lG b)) 2 (up (· + (a.basics.length:Int)) (lC b) b.causes.length 0)) 1 (up (fun x=>if (a.basics.length:Int) <= x then x + b.basics.length else x) (lG a) a.gates.length 0))) (hx0:Ext W0 WB) (h0:W0.heap.size <= B0) (ua ub uc ud ue uf ug uh ui uj uk ul um un uo uq ur us ut uu uv uw ux uy uz uA uB uC uD uE uF uG uH uI uJ uK uL uM uN uO uP uQ uR uS uT uU uV uW uX uY uZ u2 u3 u4 u6 Ua Ub Uc Ud Ue Uf Ug Uh Ui Uj Uk Ul Um Un Uo Up Uq Ur Us Ut Uu Uv Uw Ux Uy Uz UA UB UC UD UE UF UG UH UI UJ UK UL UM UN UO UP UQ UR US UT UU UV UW UX UY UZ U0 U1 U2 U3 U4 U5 U6 U7 U8 U9 ya yd ye yf yh yi yj yk yl ym yn yo yp yq yr ys yt yu yv yw yx yy yz yA yB yC yD yE yF yG yH yI yJ yK yL yM yN yO yP yQ yR yS yT yU yV yW yX yY yZ y0 y1 y2 y3 y4 y5 y6 y7 y8 y9 Ya Yb Yc Yd Ye Yf Yg Yh Yi Yj Yk Yl Ym Yn Yo Yp Yq Yr Ys Yt Yu Yv Yw Yx Yy Yz YA YB YC YD YE YF YG YH YI YJ YK YL YM YN YO YP YQ YR YS YT YU YV YW YX YY YZ Y0 Y1 Y2 Y3 Y4 Y5 Y6 Y7 Y8 Y9 ja jb jc jd je jf jg jh ji jj jk jl jm jn jo jp jq jr js jt ju jv jw jx jy jz jA:Value) :
    (codeFrom Tryz.f13 32).wp Tryz.prog (bodyPost Tryz.prog Tryz.f13 (fun e w'=>∃ cs,e = .returned (.tuple #[.agg cs,.int .i64 0]) /\ cs.size = 3 /\ (∀ u ∈ cs.toList,u.oneCell' = true) /\ Q7a 26 w' (.agg cs) (Q0w a b kind) /\ Ext W0 w')) ⟨#[ua,ub,.string kind,.pointer (some ⟨A,0,none⟩),.pointer (some ⟨Bx,0,none⟩),uc,.pointer (some ⟨R,0,none⟩),ud,ue,uf,.pointer (some ⟨X,0,none⟩),.pointer (some ⟨Y,0,none⟩),.pointer (some ⟨O,0,none⟩),.int .i64 a.basics.length,.int .i64 b.basics.length,ug,uh,ui,uj,uk,ul,um,un,uo,uq,ur,us,ut,uu,uv,uw,ux,uy,uz,uA,uB,uC,uD,uE,uF,uG,uH,uI,uJ,uK,uL,uM,uN,uO,uP,uQ,uR,uS,uT,uU,uV,uW,uX,uY,uZ,u2,u3,u4,u6,Ua,Ub,Uc,Ud,Ue,Uf,Ug,Uh,Ui,Uj,Uk,Ul,Um,Un,Uo,Up,Uq,Ur,Us,Ut,Uu,Uv,Uw,Ux,Uy,Uz,UA,UB,UC,UD,UE,UF,UG,UH,UI,UJ,UK,UL,UM,UN,UO,UP,UQ,UR,US,UT,UU,UV,UW,UX,UY,UZ,U0,U1,U2,U3,U4,U5,U6,U7,U8,U9,ya,yd,ye,yf,yh,yi,yj,yk,yl,ym,yn,yo,yp,yq,yr,ys,yt,yu,yv,yw,yx,yy,yz,yA,yB,yC,yD,yE,yF,yG,yH,yI,yJ,yK,yL,yM,yN,yO,yP,yQ,yR,yS,yT,yU,yV,yW,yX,yY,yZ,y0,y1,y2,y3,y4,y5,y6,y7,y8,y9,Ya,Yb,Yc,Yd,Ye,Yf,Yg,Yh,Yi,Yj,Yk,Yl,Ym,Yn,Yo,Yp,Yq,Yr,Ys,Yt,Yu,Yv,Yw,Yx,Yy,Yz,YA,YB,YC,YD,YE,YF,YG,YH,YI,YJ,YK,YL,YM,YN,YO,YP,YQ,YR,YS,YT,YU,YV,YW,YX,YY,YZ,Y0,Y1,Y2,Y3,Y4,Y5,Y6,Y7,Y8,Y9,ja,jb,jc,jd,je,jf,jg,jh,ji,jj,jk,jl,jm,jn,jo,jp,jq,jr,js,jt,ju,jv,jw,jx,jy,jz,jA],[]⟩ WB:=by
 conv=>arg 2; whnf
 obtain ⟨PP,hPP⟩:∃ x,(bodyPost Tryz.prog Tryz.f13 (fun e w'=>∃ cs,e = .returned (.tuple #[.agg cs,.int .i64 0]) /\ cs.size = 3 /\ (∀ u ∈ cs.toList,u.oneCell' = true) /\ Q7a 26 w' (.agg cs) (Q0w a b kind) /\ Ext W0 w')) = x:=⟨_,rfl⟩
 rw [hPP];have HPP:=Lib.hid hPP;have HS:=Lib.hid hS;have HF:=Lib.hid hF;have HX0:=Lib.hid hx0;have HR:=Lib.hid hR;have HTOP:=Lib.hid hS.yg;have HLE:=Lib.hid hlb;have HST:=Lib.hid hst;have HV:=Lib.hid hv;have HOB:=Lib.hid hob;have HOC:=Lib.hid hoc;have KO:=Lib.hid kO;obtain ⟨gy,cy,hye,_⟩:=HTOP.out.shape;rw [List.length_map,List.length_range] at hye;have HYC:=Lib.hid hye;clear hPP hye hS hF hx0 hR hlb hst hv hob hoc kO;have HXY:=Lib.hid hxy;clear hxy;replace HF:Hid (Q9s WB B0 (Y1e a b) (Y1h mc mg nc ng) (Q4m (Q4m (Q4m (X1p (lC a) (lG a) (lC b) (lG b)) 2 (up (· + (a.basics.length:Int)) (lC b) b.causes.length 0)) 1 (up (fun x=>if (a.basics.length:Int) <= x then x + b.basics.length else x) (lG a) a.gates.length 0)) 3 (lG b))):=by
  have e:Q4m (Q4m (Q4m (X1p (lC a) (lG a) (lC b) (lG b)) 2 (up (· + (a.basics.length:Int)) (lC b) b.causes.length 0)) 1 (up (fun x=>if (a.basics.length:Int) <= x then x + b.basics.length else x) (lG a) a.gates.length 0)) 3 (lG b) = (Q4m (Q4m (X1p (lC a) (lG a) (lC b) (lG b)) 2 (up (· + (a.basics.length:Int)) (lC b) b.causes.length 0)) 1 (up (fun x=>if (a.basics.length:Int) <= x then x + b.basics.length else x) (lG a) a.gates.length 0)):=X5z (Q4m (Q4m (X1p (lC a) (lG a) (lC b) (lG b)) 2 (up (· + (a.basics.length:Int)) (lC b) b.causes.length 0)) 1 (up (fun x=>if (a.basics.length:Int) <= x then x + b.basics.length else x) (lG a) a.gates.length 0)) 3
  rw [e]; exact HF
 go_upto_region 33 with fail
 go_loopw [19] (fun i wr=>∃ (k:Nat),k <= b.gates.length /\ i = .int .i64 k /\ Keep 3 WB wr /\ Q9s wr B0 (Y1e a b) (Y1h mc mg nc ng) (Q4m (Q4m (Q4m (X1p (lC a) (lG a) (lC b) (lG b)) 2 (up (· + (a.basics.length:Int)) (lC b) b.causes.length 0)) 1 (up (fun x=>if (a.basics.length:Int) <= x then x + b.basics.length else x) (lG a) a.gates.length 0)) 3 (up (fun x=>(if (b.basics.length:Int) <= x then x + a.gates.length else x) + a.basics.length) (lG b) k 0)) /\ Ext W0 wr) (fun i _=>b.gates.length - (intOf i).toNat)
 case atStart=>exact ⟨0,Nat.zero_le _,rfl,Keep.refl _ _,by rw [Y3u]; exact HF.out,HX0.out⟩
 case round =>
  obtain ⟨k,hk,rfl,hkp,hfm,hx⟩:=hrel;have c1:=(hkp _ _ _ (by decide) HS.out.kY).cell 2
  simp only [Go.Tw.gA,Go.Tw.gB,Go.Tw.gC] at c1;rw [HYC.out] at c1;have HKP:=Lib.hid hkp;have HFM:=Lib.hid hfm;have HX:=Lib.hid hx;clear hkp hfm hx
  by_cases hlt:k < b.gates.length
  . have hkI:(k:Int) < b.gates.length:=by omega
    go_light
    go_upto_region 36 with fail
    go_loopw [20] (fun i wr=>∃ (j:Nat),j <= (lG b k).length /\ i = .int .i64 j /\ Keep 3 WB wr /\ Q9s wr B0 (Y1e a b) (Y1h mc mg nc ng) (Q4m (Q4m (Q4m (X1p (lC a) (lG a) (lC b) (lG b)) 2 (up (· + (a.basics.length:Int)) (lC b) b.causes.length 0)) 1 (up (fun x=>if (a.basics.length:Int) <= x then x + b.basics.length else x) (lG a) a.gates.length 0)) 3 (up (fun x=>(if (b.basics.length:Int) <= x then x + a.gates.length else x) + a.basics.length) (lG b) k j)) /\ Ext W0 wr) (fun i _=>(lG b k).length - (intOf i).toNat)
    case atStart=>exact ⟨0,Nat.zero_le _,rfl,HKP.out,HFM.out,HX.out⟩
    case round =>
     obtain ⟨j,hj,rfl,hkp,hfm,hx⟩:=hrel;have c1:=(hkp _ _ _ (by decide) HS.out.kY).cell 2
     simp only [Go.Tw.gA,Go.Tw.gB,Go.Tw.gC] at c1;rw [HYC.out] at c1;obtain ⟨gy',cy',he,_,c2⟩:=X4z (Q0s HTOP.out (by decide) hkp) hlt
     rw [HYC.out] at he;cases he;replace c2:wr.cell? ⟨gy',k * 3 + 2,none⟩ = some (ng k):=c2;obtain ⟨gm,cm,hm,hcm⟩:=hfm.Y4y (by decide) (i:=k) hlt
     replace hm:ng k = .slice gm (lG b k).length cm:=hm;have hle:=HLE.out k hlt
     by_cases hjl:j < (lG b k).length
     . obtain ⟨g,cap,hm2,hcap,cv,cf,hf0,hf1,hf2⟩:=hfm.turn (by decide) (k:=k) (j:=j) hlt hjl
       replace hm2:ng k = .slice (some ⟨g,0,none⟩) (lG b k).length cap:=hm2;rw [hm2] at c2;clear hm hcm;have hv:=hle.2 _ (Z0x hjl);obtain ⟨v,hve⟩:∃ v,ix (lG b k) j = v:=⟨_,rfl⟩;rw [hve] at cv hv hf0 hf1 hf2;obtain ⟨n,hn⟩:∃ n,(lG b k).length = n:=⟨_,rfl⟩;rw [hn] at hjl hle c2 hcap;have hjI:(j:Int) < n:=by omega
       have HF0:=Lib.hid hf0;have HF1:=Lib.hid hf1;have HF2:=Lib.hid hf2;have HK2:=Lib.hid hkp;have HX2:=Lib.hid hx;have HFM2:=Lib.hid hfm;have HN:=Lib.hid hn;have HMS:=Lib.hid hm2;clear hf0 hf1 hf2 hkp hx hfm hve hm2;have c3:=(HK2.out _ _ _ (by decide) HS.out.kA).cell 2
       simp only [Go.Tw.gA,Go.Tw.gB,Go.Tw.gC] at c3;have hw:IntKind.i64.wrap (v + (a.basics.length:Int)) = v + a.basics.length:=wrap_in (by omega) (by omega)
       by_cases hc:(b.basics.length:Int) <= v
       . have hw2:IntKind.i64.wrap (v + (a.gates.length:Int)) = v + a.gates.length:=wrap_in (by omega) (by omega)
         have hw3:IntKind.i64.wrap (v + (a.gates.length:Int) + (a.basics.length:Int)) = v + a.gates.length + a.basics.length:=wrap_in (by omega) (by omega)
         go_upto_region 39 with fail
         go_still_tail 21,(by kernel_rfl)
         change wpList _ _ _ _ _ wr.drew;go_upto_region 40 with fail;obtain ⟨hk5,hc5,hf5,hfin⟩:=HF2.out (v + a.gates.length);have hk6:=HK2.out.trans hk5;have d1:=(hk6 _ _ _ (by decide) HS.out.kY).cell 2
         simp only [Go.Tw.gA,Go.Tw.gB,Go.Tw.gC] at d1;rw [HYC.out] at d1;obtain ⟨gy2,cy2,he2,_,d2⟩:=X4z (Q0s HTOP.out (by decide) hk6) hlt
         rw [HYC.out] at he2;injection he2 with hgg _ _;injection hgg with hgg;injection hgg with hgg;subst hgg;obtain ⟨w5,hw5⟩:∃ X,(wr.setCell ⟨g,j,none⟩ (.int .i64 (v + a.gates.length))).drew = X:=⟨_,rfl⟩;have HFIN:Hid (∀ x,x = (fun x=>(if (b.basics.length:Int) <= x then x + a.gates.length else x) + a.basics.length) v -> Q9s (w5.setCell ⟨g,j,none⟩ (.int .i64 x)) B0 (Y1e a b) (Y1h mc mg nc ng) (Q4m (Q4m (Q4m (X1p (lC a) (lG a) (lC b) (lG b)) 2 (up (· + (a.basics.length:Int)) (lC b) b.causes.length 0)) 1 (up (fun x=>if (a.basics.length:Int) <= x then x + b.basics.length else x) (lG a) a.gates.length 0)) 3 (up (fun x=>(if (b.basics.length:Int) <= x then x + a.gates.length else x) + a.basics.length) (lG b) k (j + 1))) /\ Keep 3 wr (w5.setCell ⟨g,j,none⟩ (.int .i64 x)) /\ Below B0 wr (w5.setCell ⟨g,j,none⟩ (.int .i64 x))):=by
          rw [<- hw5];exact Lib.hid fun x hx=>by
           obtain ⟨h1,h2,h3⟩:=hfin x hx;exact ⟨h1,h2,⟨h3.os,h3.tape,h3.output,h3.size,h3.block⟩⟩
         replace d1:=(show w5.cell? ⟨Y,2,none⟩ = (wr.setCell ⟨g,j,none⟩ (.int .i64 (v + a.gates.length))).cell? ⟨Y,2,none⟩ from by rw [<- hw5]; rfl).trans d1
         replace d2:w5.cell? ⟨gy',k * 3 + 2,none⟩ = some (ng k):=by rw [<- hw5]; exact d2
         rw [HMS.out,HN.out] at d2;replace hc5:w5.cell? ⟨g,j,none⟩ = some (.int .i64 (v + a.gates.length)):=by rw [<- hw5]; exact hc5
         replace hf5:w5.frozen? ⟨g,j,none⟩ = false:=by rw [<- hw5]; exact hf5
         change Code.wp _ _ _ _ (wr.setCell ⟨g,j,none⟩ (.int .i64 (v + a.gates.length))).drew;rw [hw5];clear hw5 hk5 hfin hk6 c1 c2 c3 cv cf hw
         go_still_tail 19,(by kernel_rfl)
         change wpList _ _ _ _ _ w5.drew;go_wp2;go_roundw
         case rel =>
          obtain ⟨h1,h2,h3⟩:=HFIN.out (v + a.gates.length + a.basics.length) (by simp only [if_pos hc])
          exact ⟨j + 1,by have:=HN.out; omega,by go_num,HK2.out.trans h2,h1,Below.trans HX2.out (Below.mono h3.drew h0)⟩
         case measure=>have:=HN.out; simp [intOf]; omega
       . go_upto_region 40 with fail
         go_still_tail 19,(by kernel_rfl)
         change wpList _ _ _ _ _ wr.drew;go_wp2;go_roundw
         case rel =>
          obtain ⟨h1,h2,h3⟩:=HF1.out (v + a.basics.length) (by simp only [if_neg hc])
          exact ⟨j + 1,by have:=HN.out; omega,by go_num,HK2.out.trans h2,h1,Below.trans HX2.out (Below.mono h3.drew h0)⟩
         case measure=>have:=HN.out; simp [intOf]; omega
     . obtain rfl:j = (lG b k).length:=by omega
       rw [hm] at c2;have HK2:=Lib.hid hkp;have HX2:=Lib.hid hx;rw [Y3q] at hfm;have HFM2:=Lib.hid hfm;obtain ⟨n,hn⟩:∃ n,(lG b k).length = n:=⟨_,rfl⟩;rw [hn] at c2 hle ⊢;clear hkp hx hfm hm hcm HKP HFM HX;go_wp2;go_roundw
       case rel=>exact ⟨k + 1,by omega,by go_num,HK2.out,HFM2.out,HX2.out⟩
       case measure=>simp [intOf]; omega
  . obtain rfl:k = b.gates.length:=by omega
    go_upto_if 177 with fail
    go_step
    go_step
    go_step
    go_step
    go_step
    go_step
    rw [<- HPP.out];exact Z8e W0 wr a b kind A Bx R X Y O Aa Ca Ga Ab Cb Gb ca cca cga cb ccb cgb xb xc xg yb yc yg mc mg nc ng B0 ob oc hsb hsa hga hgb hna hnb HST.out hg0 hg1 HV.out (HKP.out _ _ _ (by decide) KO.out) (Q0s HOB.out (by decide) HKP.out) (Q0s HOC.out (by decide) HKP.out) HXY.out (HS.out.keep (by decide) (by decide) HKP.out) HR.out HFM.out HX.out h0 _ _ _ _ _ _ _ _ _ _ _ _ _ _ _ _ _ _ _ _ _ _ _ _ _ _ _ _ _ _ _ _ _ _ _ _ _ _ _ _ _ _ _ _ _ _ _ _ _ _ _ _ _ _ _ _ _ _ _ _ _ _ _ _ _ _ _ _ _ _ _ _ _ _ _ _ _ _ _ _ _ _ _ _ _ _ _ _ _ _ _ _ _ _ _ _ _ _ _ _ _ _ _ _ _ _ _ _ _ _ _ _ _ _ _ _ _ _ _ _ _ _ _ _ _ _ _ _ _ _ _ _ _ _ _ _ _ _ _ _ _ _ _ _ _ _ _ _ _ _ _ _ _ _ _ _ _ _ _ _ _ _ _ _ _ _ _ _ _ _ _ _ _ _ _ _ _ _ _ _ _ _ _ _ _ _ _ _ _ _ _ _ _ _ _ _ _ _ _ _ _ _ _ _ _ _ _ _ _ _ _ _ _ _ _ _ _ _ _ _ _ _ _ _ _ _ _ _ _ _ _ _ _ _ _ _ _ _ _ _ _ _ _ _ _ _ _ _ _ _ _ _ _ _ _ _ _ _ _ _ _ _ _ _ _
end Go.Proofs
namespace Go.Proofs
open Go.RowKit Go.Tw Go.Flow
theorem Z7i (W0 WB:World) (a b:Tree) (kind:ByteArray) (A Bx R X Y O:Nat) (Aa Ca Ga Ab Cb Gb:Option Addr) (ca cca cga cb ccb cgb:Nat) (xb xc xg yb yc yg:Value) (mc mg nc ng:Nat -> Value) (B0:Nat) (ob oc:Value) (hsb:b.causes.length <= 900) (hsa:a.causes.length <= 900) (hga:a.gates.length <= 900) (hgb:b.gates.length <= 900) (hna:a.basics.length <= 900) (hnb:b.basics.length <= 900) (hst:Q7k (Q0w a b kind)) (hg0:0 < a.gates.length) (hg1:0 < b.gates.length) (hv:∀ k,k < b.causes.length -> ∀ x ∈ lC b k,x < b.basics.length) (hla:(∀ k,k < a.gates.length -> (lG a k).length <= 900 /\ ∀ x ∈ lG a k,0 <= x /\ x < 1000)) (hlb:(∀ k,k < b.gates.length -> (lG b k).length <= 900 /\ ∀ x ∈ lG b k,0 <= x /\ x < 1000)) (kO:Blk WB O 26 #[ob,oc,.slice none 0 0]) (hob:Q1d WB B0 48 2 Q8h ob (a.basics ++ b.basics)) (hoc:Q1d WB B0 50 3 enc3 oc (((List.range a.causes.length).map (cF a mc)) ++ ((List.range b.causes.length).map (cF b nc)))) (hxy:∀ g,xg.ownBlock = some g -> yg.ownBlock ≠ some g)
    (hS:RG WB B0 a b A Bx R X Y Aa Ca Ga Ab Cb Gb ca cca cga cb ccb cgb xb xc xg yb yc yg mg ng) (hR:A ≠ O /\ Bx ≠ O /\ R ≠ O /\ X ≠ O /\ Y ≠ O /\ W0.heap.size <= R /\ B0 <= O) (hF:Q9s WB B0 (Y1e a b) (Y1h mc mg nc ng) (Q4m (X1p (lC a) (lG a) (lC b) (lG b)) 2 (up (· + (a.basics.length:Int)) (lC b) b.causes.length 0))) (hx0:Ext W0 WB) (h0:W0.heap.size <= B0) (ua ub uc ud ue uf ug uh ui uj uk ul um un uo uq ur us ut uu uv uw ux uy uz uA uB uC uD uE uF uG uH uI uJ uK uL uM uN uO uP uQ uR uS uT uU uV uW uX uY uZ u2 u3 u4 u6 Ua Ub Uc Ud Ue Uf Ug Uh Ui Uj Uk Ul Um Un Uo Up Uq Ur Us Ut Uu Uv Uw Ux Uy Uz UA UB UC UD UE UF UG UH UI UJ UK UL UM UN UO UP UQ UR US UT UU UV UW UX UY UZ U0 U1 U2 U3 U4 U5 U6 U7 U8 U9 ya yd ye yf yh yi yj yk yl ym yn yo yp yq yr ys yt yu yv yw yx yy yz yA yB yC yD yE yF yG yH yI yJ yK yL yM yN yO yP yQ yR yS yT yU yV yW yX yY yZ y0 y1 y2 y3 y4 y5 y6 y7 y8 y9 Ya Yb Yc Yd Ye Yf Yg Yh Yi Yj Yk Yl Ym Yn Yo Yp Yq Yr Ys Yt Yu Yv Yw Yx Yy Yz YA YB YC YD YE YF YG YH YI YJ YK YL YM YN YO YP YQ YR YS YT YU YV YW YX YY YZ Y0 Y1 Y2 Y3 Y4 Y5 Y6 Y7 Y8 Y9 ja jb jc jd je jf jg jh ji jj jk jl jm jn jo jp jq jr js jt ju jv jw jx jy jz jA:Value) :
    (codeFrom Tryz.f13 24).wp Tryz.prog (bodyPost Tryz.prog Tryz.f13 (fun e w'=>∃ cs,e = .returned (.tuple #[.agg cs,.int .i64 0]) /\ cs.size = 3 /\ (∀ u ∈ cs.toList,u.oneCell' = true) /\ Q7a 26 w' (.agg cs) (Q0w a b kind) /\ Ext W0 w')) ⟨#[ua,ub,.string kind,.pointer (some ⟨A,0,none⟩),.pointer (some ⟨Bx,0,none⟩),uc,.pointer (some ⟨R,0,none⟩),ud,ue,uf,.pointer (some ⟨X,0,none⟩),.pointer (some ⟨Y,0,none⟩),.pointer (some ⟨O,0,none⟩),.int .i64 a.basics.length,.int .i64 b.basics.length,ug,uh,ui,uj,uk,ul,um,un,uo,uq,ur,us,ut,uu,uv,uw,ux,uy,uz,uA,uB,uC,uD,uE,uF,uG,uH,uI,uJ,uK,uL,uM,uN,uO,uP,uQ,uR,uS,uT,uU,uV,uW,uX,uY,uZ,u2,u3,u4,u6,Ua,Ub,Uc,Ud,Ue,Uf,Ug,Uh,Ui,Uj,Uk,Ul,Um,Un,Uo,Up,Uq,Ur,Us,Ut,Uu,Uv,Uw,Ux,Uy,Uz,UA,UB,UC,UD,UE,UF,UG,UH,UI,UJ,UK,UL,UM,UN,UO,UP,UQ,UR,US,UT,UU,UV,UW,UX,UY,UZ,U0,U1,U2,U3,U4,U5,U6,U7,U8,U9,ya,yd,ye,yf,yh,yi,yj,yk,yl,ym,yn,yo,yp,yq,yr,ys,yt,yu,yv,yw,yx,yy,yz,yA,yB,yC,yD,yE,yF,yG,yH,yI,yJ,yK,yL,yM,yN,yO,yP,yQ,yR,yS,yT,yU,yV,yW,yX,yY,yZ,y0,y1,y2,y3,y4,y5,y6,y7,y8,y9,Ya,Yb,Yc,Yd,Ye,Yf,Yg,Yh,Yi,Yj,Yk,Yl,Ym,Yn,Yo,Yp,Yq,Yr,Ys,Yt,Yu,Yv,Yw,Yx,Yy,Yz,YA,YB,YC,YD,YE,YF,YG,YH,YI,YJ,YK,YL,YM,YN,YO,YP,YQ,YR,YS,YT,YU,YV,YW,YX,YY,YZ,Y0,Y1,Y2,Y3,Y4,Y5,Y6,Y7,Y8,Y9,ja,jb,jc,jd,je,jf,jg,jh,ji,jj,jk,jl,jm,jn,jo,jp,jq,jr,js,jt,ju,jv,jw,jx,jy,jz,jA],[]⟩ WB:=by
 conv=>arg 2; whnf
 obtain ⟨PP,hPP⟩:∃ x,(bodyPost Tryz.prog Tryz.f13 (fun e w'=>∃ cs,e = .returned (.tuple #[.agg cs,.int .i64 0]) /\ cs.size = 3 /\ (∀ u ∈ cs.toList,u.oneCell' = true) /\ Q7a 26 w' (.agg cs) (Q0w a b kind) /\ Ext W0 w')) = x:=⟨_,rfl⟩
 rw [hPP];have HPP:=Lib.hid hPP;have HS:=Lib.hid hS;have HF:=Lib.hid hF;have HX0:=Lib.hid hx0;have HR:=Lib.hid hR;have HTOP:=Lib.hid hS.xg;have HLE:=Lib.hid hla;have HLB:=Lib.hid hlb;have HST:=Lib.hid hst;have HV:=Lib.hid hv;have HOB:=Lib.hid hob;have HOC:=Lib.hid hoc;have KO:=Lib.hid kO;obtain ⟨gy,cy,hye,_⟩:=HTOP.out.shape;rw [List.length_map,List.length_range] at hye;have HYC:=Lib.hid hye;clear hPP hye hS hF hx0 hR hla hlb hst hv hob hoc kO;have HXY:=Lib.hid hxy;clear hxy;replace HF:Hid (Q9s WB B0 (Y1e a b) (Y1h mc mg nc ng) (Q4m (Q4m (X1p (lC a) (lG a) (lC b) (lG b)) 2 (up (· + (a.basics.length:Int)) (lC b) b.causes.length 0)) 1 (lG a))):=by
  have e:Q4m (Q4m (X1p (lC a) (lG a) (lC b) (lG b)) 2 (up (· + (a.basics.length:Int)) (lC b) b.causes.length 0)) 1 (lG a) = (Q4m (X1p (lC a) (lG a) (lC b) (lG b)) 2 (up (· + (a.basics.length:Int)) (lC b) b.causes.length 0)):=X5z (Q4m (X1p (lC a) (lG a) (lC b) (lG b)) 2 (up (· + (a.basics.length:Int)) (lC b) b.causes.length 0)) 1;rw [e]; exact HF
 go_upto_region 25 with fail
 go_loopw [17] (fun i wr=>∃ (k:Nat),k <= a.gates.length /\ i = .int .i64 k /\ Keep 3 WB wr /\ Q9s wr B0 (Y1e a b) (Y1h mc mg nc ng) (Q4m (Q4m (X1p (lC a) (lG a) (lC b) (lG b)) 2 (up (· + (a.basics.length:Int)) (lC b) b.causes.length 0)) 1 (up (fun x=>if (a.basics.length:Int) <= x then x + b.basics.length else x) (lG a) k 0)) /\ Ext W0 wr) (fun i _=>a.gates.length - (intOf i).toNat)
 case atStart=>exact ⟨0,Nat.zero_le _,rfl,Keep.refl _ _,by rw [Y3u]; exact HF.out,HX0.out⟩
 case round =>
  obtain ⟨k,hk,rfl,hkp,hfm,hx⟩:=hrel;have c1:=(hkp _ _ _ (by decide) HS.out.kX).cell 2
  simp only [Go.Tw.gA,Go.Tw.gB,Go.Tw.gC] at c1;rw [HYC.out] at c1;have HKP:=Lib.hid hkp;have HFM:=Lib.hid hfm;have HX:=Lib.hid hx;clear hkp hfm hx
  by_cases hlt:k < a.gates.length
  . have hkI:(k:Int) < a.gates.length:=by omega
    go_light
    go_upto_region 28 with fail
    go_loopw [18] (fun i wr=>∃ (j:Nat),j <= (lG a k).length /\ i = .int .i64 j /\ Keep 3 WB wr /\ Q9s wr B0 (Y1e a b) (Y1h mc mg nc ng) (Q4m (Q4m (X1p (lC a) (lG a) (lC b) (lG b)) 2 (up (· + (a.basics.length:Int)) (lC b) b.causes.length 0)) 1 (up (fun x=>if (a.basics.length:Int) <= x then x + b.basics.length else x) (lG a) k j)) /\ Ext W0 wr) (fun i _=>(lG a k).length - (intOf i).toNat)
    case atStart=>exact ⟨0,Nat.zero_le _,rfl,HKP.out,HFM.out,HX.out⟩
    case round =>
     obtain ⟨j,hj,rfl,hkp,hfm,hx⟩:=hrel;have c1:=(hkp _ _ _ (by decide) HS.out.kX).cell 2
     simp only [Go.Tw.gA,Go.Tw.gB,Go.Tw.gC] at c1;rw [HYC.out] at c1;obtain ⟨gy',cy',he,_,c2⟩:=X4z (Q0s HTOP.out (by decide) hkp) hlt
     rw [HYC.out] at he;cases he;replace c2:wr.cell? ⟨gy',k * 3 + 2,none⟩ = some (mg k):=c2;obtain ⟨gm,cm,hm,hcm⟩:=hfm.Y4y (by decide) (i:=k) hlt
     replace hm:mg k = .slice gm (lG a k).length cm:=hm;have hle:=HLE.out k hlt
     by_cases hjl:j < (lG a k).length
     . obtain ⟨g,cap,hm2,hcap,cv,cf,hf0,hf1,hf2⟩:=hfm.turn (by decide) (k:=k) (j:=j) hlt hjl
       replace hm2:mg k = .slice (some ⟨g,0,none⟩) (lG a k).length cap:=hm2;rw [hm2] at c2;clear hm hcm;have hv:=hle.2 _ (Z0x hjl);obtain ⟨v,hve⟩:∃ v,ix (lG a k) j = v:=⟨_,rfl⟩;rw [hve] at cv hv hf0 hf1 hf2;obtain ⟨n,hn⟩:∃ n,(lG a k).length = n:=⟨_,rfl⟩;rw [hn] at hjl hle c2 hcap;have hjI:(j:Int) < n:=by omega
       have HF0:=Lib.hid hf0;have HF1:=Lib.hid hf1;have HF2:=Lib.hid hf2;have HK2:=Lib.hid hkp;have HX2:=Lib.hid hx;have HFM2:=Lib.hid hfm;have HN:=Lib.hid hn;have HMS:=Lib.hid hm2;clear hf0 hf1 hf2 hkp hx hfm hve hm2;have hw:IntKind.i64.wrap (v + (b.basics.length:Int)) = v + b.basics.length:=wrap_in (by omega) (by omega)
       by_cases hc:(a.basics.length:Int) <= v
       . go_upto_region 31 with fail
         go_still_tail 19,(by kernel_rfl)
         change wpList _ _ _ _ _ wr.drew;go_wp2;go_roundw
         case rel =>
          obtain ⟨h1,h2,h3⟩:=HF1.out (v + b.basics.length) (by simp only [if_pos hc])
          exact ⟨j + 1,by have:=HN.out; omega,by go_num,HK2.out.trans h2,h1,Below.trans HX2.out (Below.mono h3.drew h0)⟩
         case measure=>have:=HN.out; simp [intOf]; omega
       . go_wp2
         go_roundw
         case rel=>exact ⟨j + 1,by have:=HN.out; omega,by go_num,HK2.out,HF0.out (by simp only [if_neg hc]),HX2.out⟩
         case measure=>have:=HN.out; simp [intOf]; omega
     . obtain rfl:j = (lG a k).length:=by omega
       rw [hm] at c2;have HK2:=Lib.hid hkp;have HX2:=Lib.hid hx;rw [Y3q] at hfm;have HFM2:=Lib.hid hfm;obtain ⟨n,hn⟩:∃ n,(lG a k).length = n:=⟨_,rfl⟩;rw [hn] at c2 hle ⊢;clear hkp hx hfm hm hcm HKP HFM HX;go_wp2;go_roundw
       case rel=>exact ⟨k + 1,by omega,by go_num,HK2.out,HFM2.out,HX2.out⟩
       case measure=>simp [intOf]; omega
  . obtain rfl:k = a.gates.length:=by omega
    go_upto_if 129 with fail
    go_step
    go_step
    go_step
    go_step
    go_step
    go_step
    rw [<- HPP.out];exact Z6w W0 wr a b kind A Bx R X Y O Aa Ca Ga Ab Cb Gb ca cca cga cb ccb cgb xb xc xg yb yc yg mc mg nc ng B0 ob oc hsb hsa hga hgb hna hnb HST.out hg0 hg1 HV.out HLB.out (HKP.out _ _ _ (by decide) KO.out) (Q0s HOB.out (by decide) HKP.out) (Q0s HOC.out (by decide) HKP.out) HXY.out (HS.out.keep (by decide) (by decide) HKP.out) HR.out HFM.out HX.out h0 _ _ _ _ _ _ _ _ _ _ _ _ _ _ _ _ _ _ _ _ _ _ _ _ _ _ _ _ _ _ _ _ _ _ _ _ _ _ _ _ _ _ _ _ _ _ _ _ _ _ _ _ _ _ _ _ _ _ _ _ _ _ _ _ _ _ _ _ _ _ _ _ _ _ _ _ _ _ _ _ _ _ _ _ _ _ _ _ _ _ _ _ _ _ _ _ _ _ _ _ _ _ _ _ _ _ _ _ _ _ _ _ _ _ _ _ _ _ _ _ _ _ _ _ _ _ _ _ _ _ _ _ _ _ _ _ _ _ _ _ _ _ _ _ _ _ _ _ _ _ _ _ _ _ _ _ _ _ _ _ _ _ _ _ _ _ _ _ _ _ _ _ _ _ _ _ _ _ _ _ _ _ _ _ _ _ _ _ _ _ _ _ _ _ _ _ _ _ _ _ _ _ _ _ _ _ _ _ _ _ _ _ _ _ _ _ _ _ _ _ _ _ _ _ _ _ _ _ _ _ _ _ _ _ _ _ _ _ _ _ _ _ _ _ _ _ _ _ _ _ _ _ _ _ _ _ _ _ _ _ _ _ _ _ _
end Go.Proofs
