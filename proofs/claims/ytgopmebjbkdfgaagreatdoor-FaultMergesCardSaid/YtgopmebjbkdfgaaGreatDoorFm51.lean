/- The walk through the reference's Merge from region 16 on: the members of the causes. The walk through the reference's Merge from region 13 on: the copies, the basics. -/
import Derived.Test.YtgopmebjbkdfgaaGreatDoorFm50
import Derived.StillTailTactics
import Derived.BigQuiet
import Derived.Test.YtgopmebjbkdfgaaGreatDoorFm46
set_option maxRecDepth 1000000
set_option maxHeartbeats 64000000
set_option linter.unusedVariables false
set_option linter.unusedSimpArgs false
set_option linter.constructorNameAsVariable false
namespace Go.Proofs
open Go.RowKit Go.Tw Go.Flow
theorem Z7r (W0 WB:World) (a b:Tree) (kind:ByteArray) (A Bx R X Y O:Nat) (Aa Ca Ga Ab Cb Gb:Option Addr) (ca cca cga cb ccb cgb:Nat) (xb xc xg yb yc yg:Value) (mc mg nc ng:Nat -> Value) (B0:Nat) (ob:Value) (hsb:b.causes.length <= 900) (hsa:a.causes.length <= 900) (hga:a.gates.length <= 900) (hgb:b.gates.length <= 900) (hna:a.basics.length <= 900) (hnb:b.basics.length <= 900) (hst:Q7k (Q0w a b kind)) (hg0:0 < a.gates.length) (hg1:0 < b.gates.length) (hv:∀ k,k < b.causes.length -> ∀ x ∈ lC b k,x < b.basics.length) (hlc:(∀ k,k < b.causes.length -> (lC b k).length <= 900 /\ ∀ x ∈ lC b k,0 <= x /\ x < 1000)) (hla:(∀ k,k < a.gates.length -> (lG a k).length <= 900 /\ ∀ x ∈ lG a k,0 <= x /\ x < 1000)) (hlb:(∀ k,k < b.gates.length -> (lG b k).length <= 900 /\ ∀ x ∈ lG b k,0 <= x /\ x < 1000)) (hxy:∀ g,xg.ownBlock = some g -> yg.ownBlock ≠ some g) (kO:Blk WB O 26 #[ob,.slice none 0 0,.slice none 0 0]) (hob:Q1d WB B0 48 2 Q8h ob (a.basics ++ b.basics)) (hxc:Q1d WB B0 50 3 enc3 xc ((List.range a.causes.length).map (cF a mc))) (hyc:Q1d WB B0 50 3 enc3 yc ((List.range b.causes.length).map (cF b nc)))
    (hS:RG WB B0 a b A Bx R X Y Aa Ca Ga Ab Cb Gb ca cca cga cb ccb cgb xb xc xg yb yc yg mg ng) (hR:A ≠ O /\ Bx ≠ O /\ R ≠ O /\ X ≠ O /\ Y ≠ O /\ W0.heap.size <= R /\ B0 <= O) (hF:Q9s WB B0 (Y1e a b) (Y1h mc mg nc ng) (X1p (lC a) (lG a) (lC b) (lG b))) (hx0:Ext W0 WB) (h0:W0.heap.size <= B0) (ua ub uc ud ue uf ug uh ui uj uk ul um un uo uq ur us ut uu uv uw ux uy uz uA uB uC uD uE uF uG uH uI uJ uK uL uM uN uO uP uQ uR uS uT uU uV uW uX uY uZ u2 u3 u4 u6 Ua Ub Uc Ud Ue Uf Ug Uh Ui Uj Uk Ul Um Un Uo Up Uq Ur Us Ut Uu Uv Uw Ux Uy Uz UA UB UC UD UE UF UG UH UI UJ UK UL UM UN UO UP UQ UR US UT UU UV UW UX UY UZ U0 U1 U2 U3 U4 U5 U6 U7 U8 U9 ya yd ye yf yh yi yj yk yl ym yn yo yp yq yr ys yt yu yv yw yx yy yz yA yB yC yD yE yF yG yH yI yJ yK yL yM yN yO yP yQ yR yS yT yU yV yW yX yY yZ y0 y1 y2 y3 y4 y5 y6 y7 y8 y9 Ya Yb Yc Yd Ye Yf Yg Yh Yi Yj Yk Yl Ym Yn Yo Yp Yq Yr Ys Yt Yu Yv Yw Yx Yy Yz YA YB YC YD YE YF YG YH YI YJ YK YL YM YN YO YP YQ YR YS YT YU YV YW YX YY YZ Y0 Y1 Y2 Y3 Y4 Y5 Y6 Y7 Y8 Y9 ja jb jc jd je jf jg jh jj jk jl jm jn jo jp jq jr js jt ju jv jw jx jy jz jA jB:Value) :
    (codeFrom Tryz.f13 16).wp Tryz.prog (bodyPost Tryz.prog Tryz.f13 (fun e w'=>∃ cs,e = .returned (.tuple #[.agg cs,.int .i64 0]) /\ cs.size = 3 /\ (∀ u ∈ cs.toList,u.oneCell' = true) /\ Q7a 26 w' (.agg cs) (Q0w a b kind) /\ Ext W0 w')) ⟨#[ua,ub,.string kind,.pointer (some ⟨A,0,none⟩),.pointer (some ⟨Bx,0,none⟩),uc,.pointer (some ⟨R,0,none⟩),ud,ue,uf,.pointer (some ⟨X,0,none⟩),.pointer (some ⟨Y,0,none⟩),.pointer (some ⟨O,0,none⟩),.int .i64 a.basics.length,.int .i64 b.basics.length,ug,uh,ui,uj,uk,ul,um,un,uo,uq,ur,us,ut,uu,uv,uw,ux,uy,uz,uA,uB,uC,uD,uE,uF,uG,uH,uI,uJ,uK,uL,uM,uN,uO,uP,uQ,uR,uS,uT,uU,uV,uW,uX,uY,uZ,u2,u3,u4,u6,Ua,Ub,Uc,Ud,Ue,Uf,Ug,Uh,Ui,Uj,Uk,Ul,Um,Un,Uo,Up,Uq,Ur,Us,Ut,Uu,Uv,Uw,Ux,Uy,Uz,UA,UB,UC,UD,UE,UF,UG,UH,UI,UJ,UK,UL,UM,UN,UO,UP,UQ,UR,US,UT,UU,UV,UW,UX,UY,UZ,U0,U1,U2,U3,U4,U5,U6,U7,U8,U9,ya,yd,ye,yf,yh,yi,yj,yk,yl,ym,yn,yo,yp,yq,yr,ys,yt,yu,yv,yw,yx,yy,yz,yA,yB,yC,yD,yE,yF,yG,yH,yI,yJ,yK,yL,yM,yN,yO,yP,yQ,yR,yS,yT,yU,yV,yW,yX,yY,yZ,y0,y1,y2,y3,y4,y5,y6,y7,y8,y9,Ya,Yb,Yc,Yd,Ye,Yf,Yg,Yh,Yi,Yj,Yk,Yl,Ym,Yn,Yo,Yp,Yq,Yr,Ys,Yt,Yu,Yv,Yw,Yx,Yy,Yz,YA,YB,YC,YD,YE,YF,YG,YH,YI,YJ,YK,YL,YM,YN,YO,YP,YQ,YR,YS,YT,YU,YV,YW,YX,YY,YZ,Y0,Y1,Y2,Y3,Y4,Y5,Y6,Y7,Y8,Y9,ja,jb,jc,jd,je,jf,jg,jh,jj,jk,jl,jm,jn,jo,jp,jq,jr,js,jt,ju,jv,jw,jx,jy,jz,jA,jB],[]⟩ WB:=by
 conv=>arg 2; whnf
 obtain ⟨PP,hPP⟩:∃ x,(bodyPost Tryz.prog Tryz.f13 (fun e w'=>∃ cs,e = .returned (.tuple #[.agg cs,.int .i64 0]) /\ cs.size = 3 /\ (∀ u ∈ cs.toList,u.oneCell' = true) /\ Q7a 26 w' (.agg cs) (Q0w a b kind) /\ Ext W0 w')) = x:=⟨_,rfl⟩
 rw [hPP];have HPP:=Lib.hid hPP;have HS:=Lib.hid hS;have HF:=Lib.hid hF;have HX0:=Lib.hid hx0;have HR:=Lib.hid hR;have HTOP:=Lib.hid hyc;have HLE:=Lib.hid hlc;have HST:=Lib.hid hst;have HV:=Lib.hid hv;have HXY:=Lib.hid hxy;have HLA:=Lib.hid hla;have HLB:=Lib.hid hlb;have HOB:=Lib.hid hob;have HXC:=Lib.hid hxc;have KO:=Lib.hid kO;obtain ⟨gy,cy,hye,_⟩:=HTOP.out.shape;rw [List.length_map,List.length_range] at hye;have HYC:=Lib.hid hye;clear hPP hye hS hF hx0 hR hyc hlc hst hv hxy hla hlb hob hxc kO;replace HF:Hid (Q9s WB B0 (Y1e a b) (Y1h mc mg nc ng) (Q4m (X1p (lC a) (lG a) (lC b) (lG b)) 2 (lC b))):=by
  have e:Q4m (X1p (lC a) (lG a) (lC b) (lG b)) 2 (lC b) = (X1p (lC a) (lG a) (lC b) (lG b)):=X5z (X1p (lC a) (lG a) (lC b) (lG b)) 2;rw [e]; exact HF
 go_upto_region 17 with fail
 go_loopw [15] (fun i wr=>∃ (k:Nat),k <= b.causes.length /\ i = .int .i64 k /\ Keep 3 WB wr /\ Q9s wr B0 (Y1e a b) (Y1h mc mg nc ng) (Q4m (X1p (lC a) (lG a) (lC b) (lG b)) 2 (up (· + (a.basics.length:Int)) (lC b) k 0)) /\ Ext W0 wr) (fun i _=>b.causes.length - (intOf i).toNat)
 case atStart=>exact ⟨0,Nat.zero_le _,rfl,Keep.refl _ _,by rw [Y3u]; exact HF.out,HX0.out⟩
 case round =>
  obtain ⟨k,hk,rfl,hkp,hfm,hx⟩:=hrel;have c1:=(hkp _ _ _ (by decide) HS.out.kY).cell 1
  simp only [Go.Tw.gA,Go.Tw.gB,Go.Tw.gC] at c1;rw [HYC.out] at c1;have HKP:=Lib.hid hkp;have HFM:=Lib.hid hfm;have HX:=Lib.hid hx;clear hkp hfm hx
  by_cases hlt:k < b.causes.length
  . have hkI:(k:Int) < b.causes.length:=by omega
    go_light
    go_upto_region 20 with fail
    go_loopw [16] (fun i wr=>∃ (j:Nat),j <= (lC b k).length /\ i = .int .i64 j /\ Keep 3 WB wr /\ Q9s wr B0 (Y1e a b) (Y1h mc mg nc ng) (Q4m (X1p (lC a) (lG a) (lC b) (lG b)) 2 (up (· + (a.basics.length:Int)) (lC b) k j)) /\ Ext W0 wr) (fun i _=>(lC b k).length - (intOf i).toNat)
    case atStart=>exact ⟨0,Nat.zero_le _,rfl,HKP.out,HFM.out,HX.out⟩
    case round =>
     obtain ⟨j,hj,rfl,hkp,hfm,hx⟩:=hrel;have c1:=(hkp _ _ _ (by decide) HS.out.kY).cell 1
     simp only [Go.Tw.gA,Go.Tw.gB,Go.Tw.gC] at c1;rw [HYC.out] at c1;obtain ⟨gy',cy',he,_,c2⟩:=X4z (Q0s HTOP.out (by decide) hkp) hlt
     rw [HYC.out] at he;cases he;replace c2:wr.cell? ⟨gy',k * 3 + 2,none⟩ = some (nc k):=c2;obtain ⟨gm,cm,hm,hcm⟩:=hfm.Y4y (by decide) (i:=k) hlt
     replace hm:nc k = .slice gm (lC b k).length cm:=hm;have hle:=HLE.out k hlt
     by_cases hjl:j < (lC b k).length
     . obtain ⟨g,cap,hm2,hcap,cv,cf,hf0,hf1,hf2⟩:=hfm.turn (by decide) (k:=k) (j:=j) hlt hjl
       replace hm2:nc k = .slice (some ⟨g,0,none⟩) (lC b k).length cap:=hm2;rw [hm2] at c2;clear hm hcm;have hv:=hle.2 _ (Z0x hjl);obtain ⟨v,hve⟩:∃ v,ix (lC b k) j = v:=⟨_,rfl⟩;rw [hve] at cv hv hf0 hf1 hf2;obtain ⟨n,hn⟩:∃ n,(lC b k).length = n:=⟨_,rfl⟩;rw [hn] at hjl hle c2 hcap;have hjI:(j:Int) < n:=by omega
       have HF0:=Lib.hid hf0;have HF1:=Lib.hid hf1;have HF2:=Lib.hid hf2;have HK2:=Lib.hid hkp;have HX2:=Lib.hid hx;have HFM2:=Lib.hid hfm;have HN:=Lib.hid hn;have HMS:=Lib.hid hm2;clear hf0 hf1 hf2 hkp hx hfm hve hm2;have hw:IntKind.i64.wrap (v + (a.basics.length:Int)) = v + a.basics.length:=wrap_in (by omega) (by omega)
       go_upto_region 22 with fail
       go_still_tail 19,(by kernel_rfl)
       change wpList _ _ _ _ _ wr.drew;go_wp2;go_roundw
       case rel =>
        obtain ⟨h1,h2,h3⟩:=HF1.out _ rfl;exact ⟨j + 1,by have:=HN.out; omega,by go_num,HK2.out.trans h2,h1,Below.trans HX2.out (Below.mono h3.drew h0)⟩
       case measure=>have:=HN.out; simp [intOf]; omega
     . obtain rfl:j = (lC b k).length:=by omega
       rw [hm] at c2;have HK2:=Lib.hid hkp;have HX2:=Lib.hid hx;rw [Y3q] at hfm;have HFM2:=Lib.hid hfm;obtain ⟨n,hn⟩:∃ n,(lC b k).length = n:=⟨_,rfl⟩;rw [hn] at c2 hle ⊢;clear hkp hx hfm hm hcm HKP HFM HX;go_wp2;go_roundw
       case rel=>exact ⟨k + 1,by omega,by go_num,HK2.out,HFM2.out,HX2.out⟩
       case measure=>simp [intOf]; omega
  . obtain rfl:k = b.causes.length:=by omega
    obtain ⟨bx,cx,hxe,_⟩:=HXC.out.shape;rw [List.length_map,List.length_range] at hxe;have HG:=Lib.hid (HS.out.keep (by decide) (by decide) HKP.out)
    have HXC2:=Lib.hid (Q0s HXC.out (by decide) HKP.out)
    have HYC2:=Lib.hid (Q0s HTOP.out (by decide) HKP.out)
    have HOB2:=Lib.hid (Q0s HOB.out (by decide) HKP.out)
    have KO2:=Lib.hid (HKP.out _ _ _ (by decide) KO.out)
    have hye:=HYC.out;subst hye;subst hxe;have c0:=HG.out.kX.cell 1;simp only [Go.Tw.gA,Go.Tw.gB,Go.Tw.gC] at c0;have HONE:=Lib.hid (Z1t (t:=b) (g:=cF b nc) (fun _=>rfl) (fun i hi=>HFM.out.1 2 i (by decide) hi))
    have HB:=Lib.hid (Nat.le_trans HR.out.2.2.2.2.2.2 (Nat.le_of_lt KO2.out.lt));obtain ⟨j0,ji,jz0,jz1,jz2⟩:=info_parts Tryz.Y9p;have HSIZ:=Lib.hid (⟨hsb,hsa⟩:b.causes.length <= 900 /\ a.causes.length <= 900);go_upto_region 24 with (at_builtin; refine Q4n (o:=⟨some 123,_,_,_,_,_⟩) rfl ?_; refine Q5f (.tmp 120) (.tmp 122) 23 rfl B0 50 j0 (.agg #[.string emp,.int .i64 0,.slice none 0 0]) 3 48 Tryz.underlying23 ji jz0 jz1 jz2 rfl (by decide) enc3 Q0o _ ((List.range a.causes.length).map (cF a mc)) ((List.range b.causes.length).map (cF b nc)) rfl HXC2.out gy cy (by rw [List.length_map,List.length_range]; rfl) (X9r Q0o HYC2.out) HONE.out (by simp; have:=HSIZ.out; omega) (by decide) HB.out ?_; intro v9 w9 hown9 hg9; refine halted ?_)
    have hk9:=X0p HXC2.out hg9;have hbl9:Below B0 wr w9:=Below.grown (Below.refl _ _) hg9 HB.out (fun j hj=>(HXC2.out.lt j hj).1);obtain ⟨bo,co,hsh,_⟩:=hown9.shape;rw [hsh] at hown9 ⊢;have KO9:=Lib.hid (hk9 _ _ _ (by decide) KO2.out)
    have HG9:=Lib.hid (HG.out.keep (by decide) (by decide) hk9)
    have HOB9:=Lib.hid (Q0s HOB2.out (by decide) hk9)
    have HOC9:=Lib.hid hown9;have HFM9:=Lib.hid (HFM.out.keep (by decide) hk9)
    have HX9:Hid (Ext W0 w9):=Lib.hid (Below.trans HX.out (Below.mono hbl9 h0));clear hk9 hbl9 hown9 hg9 hsh c0 c1;unfold Q3g;go_upto_region 24 with (refine Q1n rfl _ _ 23 rfl Tryz.X2a (u:=.slice bo (((List.range a.causes.length).map (cF a mc)) ++ ((List.range b.causes.length).map (cF b nc))).length co) (g:=O) (k:=1) rfl rfl rfl rfl KO9.out (by show 1 < 3; omega) ?_; intro w10 hb10 hl10 ho10; refine halted ?_)
    have hks:=Keep.store KO9.out ho10;have HX10:Hid (Ext W0 w10):=Lib.hid (Below.trans HX9.out (hl10 _ (Nat.le_trans h0 HR.out.2.2.2.2.2.2)));have hr:=HR.out;have HG10:=Lib.hid (HG9.out.off KO9.out hr.1 hr.2.1 hr.2.2.1 hr.2.2.2.1 hr.2.2.2.2.1 ho10);have HOB10:=Lib.hid (Q0s HOB9.out (by decide) hks)
    have HOC10:=Lib.hid (Q0s HOC9.out (by decide) hks)
    have HFM10:=Lib.hid (HFM9.out.keep (by decide) hks)
    have HB10:Hid (Blk w10 O 26 #[ob,.slice bo (((List.range a.causes.length).map (cF a mc)) ++ ((List.range b.causes.length).map (cF b nc))).length co,.slice none 0 0]):=Lib.hid hb10;clear hks hb10 hl10 ho10 hr;unfold Q3g
    go_step
    go_step
    go_step
    rw [<- HPP.out];exact Z7i W0 w10 a b kind A Bx R X Y O Aa Ca Ga Ab Cb Gb ca cca cga cb ccb cgb xb _ xg yb _ yg mc mg nc ng B0 ob _ hsb hsa hga hgb hna hnb HST.out hg0 hg1 HV.out HLA.out HLB.out HB10.out HOB10.out HOC10.out HXY.out HG10.out HR.out HFM10.out HX10.out h0 _ _ _ _ _ _ _ _ _ _ _ _ _ _ _ _ _ _ _ _ _ _ _ _ _ _ _ _ _ _ _ _ _ _ _ _ _ _ _ _ _ _ _ _ _ _ _ _ _ _ _ _ _ _ _ _ _ _ _ _ _ _ _ _ _ _ _ _ _ _ _ _ _ _ _ _ _ _ _ _ _ _ _ _ _ _ _ _ _ _ _ _ _ _ _ _ _ _ _ _ _ _ _ _ _ _ _ _ _ _ _ _ _ _ _ _ _ _ _ _ _ _ _ _ _ _ _ _ _ _ _ _ _ _ _ _ _ _ _ _ _ _ _ _ _ _ _ _ _ _ _ _ _ _ _ _ _ _ _ _ _ _ _ _ _ _ _ _ _ _ _ _ _ _ _ _ _ _ _ _ _ _ _ _ _ _ _ _ _ _ _ _ _ _ _ _ _ _ _ _ _ _ _ _ _ _ _ _ _ _ _ _ _ _ _ _ _ _ _ _ _ _ _ _ _ _ _ _ _ _ _ _ _ _ _ _ _ _ _ _ _ _ _ _ _ _ _ _ _ _ _ _ _ _ _ _ _ _ _ _ _ _ _ _ _
end Go.Proofs
namespace Go.Proofs
open Go.RowKit Go.Tw Go.Flow
theorem Tryz.Y7y (w:World):(Instr.alloc 26 true (.tuple #[])).run Tryz.prog w = .ok (.pointer (some ⟨w.heap.size,0,none⟩)) (w.alloc (.cells #[.slice none 0 0,.slice none 0 0,.slice none 0 0] 26)):=by kernel_rfl
theorem X0k {w:World} {B:Nat} {v:Value} {l:List Int} (h:Q0r w 0 3 (.int .i64) v l) (hb:∀ b,v.ownBlock = some b -> B <= b):Q0r w B 3 (.int .i64) v l:=by
 obtain ⟨h1,h2⟩:=h;refine ⟨h1,?_⟩
 rcases h2 with h2 | ⟨g,cap,cur,hv,_,r⟩
 . exact .inl h2
 . exact .inr ⟨g,cap,cur,hv,hb g (by rw [hv]; rfl),r⟩
theorem X2z.keep {w w':World} {base:Nat} {t:Tree} {vb vc vg:Value} {mc mg:Nat -> Value} (h:X2z w base t vb vc vg mc mg) (hk:Keep 26 w w'):X2z w' base t vb vc vg mc mg :=
 ⟨Q0s h.bas (by decide) hk,Q0s h.cau (by decide) hk,Q0s h.gat (by decide) hk,fun i hi=>Q3l (h.mem i hi) (by decide) hk,fun i hi=>Q3l (h.inp i hi) (by decide) hk⟩
theorem Q7c.weaken {B B':Nat} {t:Tree} {mc mg:Nat -> Value} (h:Q7c B t mc mg) (hb:B' <= B):Q7c B' t mc mg:=⟨h.1.weaken hb,h.2.1.weaken hb,h.2.2⟩
theorem Apart.symm {u v:Value} (h:Apart u v):Apart v u:=fun b h1 h2=>h b h2 h1
structure X4m (B M:Nat) (t:Tree) (vg:Value) (mc mg:Nat -> Value):Prop where
 ap:Q7c B t mc mg
 c:∀ i,i < t.causes.length -> ∀ b,(mc i).ownBlock = some b -> b < M
 g:∀ i,i < t.gates.length -> ∀ b,(mg i).ownBlock = some b -> b < M
 t:∀ b,vg.ownBlock = some b -> b < M
theorem X9w {B n:Nat} {m:Nat -> Value} (h:Fam B n m) {i j:Nat} (hi:i < n) (hj:j < n) (hne:i ≠ j):Apart (m i) (m j):=by
 rcases Nat.lt_or_ge i j with hl | hl
 . exact h.2 i j hl hj
 . exact (h.2 j i (by omega) hi).symm
theorem Z4j {w:World} {B M base base':Nat} {a b:Tree} {xb xc xg yb yc yg:Value} {mc mg nc ng:Nat -> Value} (hx:X2z w base a xb xc xg mc mg) (hy:X2z w base' b yb yc yg nc ng) (sx:X4m B M a xg mc mg) (sy:Q7c M b nc ng) (hBM:B <= M) :
    Q9s w B (Y1e a b) (Y1h mc mg nc ng) (X1p (lC a) (lG a) (lC b) (lG b)):=by
 have sy':=sy.weaken hBM;have lo:∀ {u v:Value},(∀ b,u.ownBlock = some b -> b < M) -> (∀ b,v.ownBlock = some b -> M <= b) -> Apart u v:=fun h1 h2 b e1 e2=>by have:=h1 b e1; have:=h2 b e2; omega
 refine ⟨fun q i hq hi=>?_,fun q i p j hq hp hi hj hne=>?_⟩
 . match q,hq with
   | 0,_=>exact X0k (hx.mem i hi) (sx.ap.1.1 i hi)
   | 1,_=>exact X0k (hx.inp i hi) (sx.ap.2.1.1 i hi)
   | 2,_=>exact X0k (hy.mem i hi) (sy'.1.1 i hi)
   | 3,_=>exact X0k (hy.inp i hi) (sy'.2.1.1 i hi)
 . match q,hq,p,hp with
   | 0,_,0,_=>exact X9w sx.ap.1 hi hj (by rcases hne with h | h; exact absurd rfl h; exact h)
   | 0,_,1,_=>exact sx.ap.2.2 i j hi hj
   | 0,_,2,_=>exact lo (sx.c i hi) (sy.1.1 j hj)
   | 0,_,3,_=>exact lo (sx.c i hi) (sy.2.1.1 j hj)
   | 1,_,0,_=>exact (sx.ap.2.2 j i hj hi).symm
   | 1,_,1,_=>exact X9w sx.ap.2.1 hi hj (by rcases hne with h | h; exact absurd rfl h; exact h)
   | 1,_,2,_=>exact lo (sx.g i hi) (sy.1.1 j hj)
   | 1,_,3,_=>exact lo (sx.g i hi) (sy.2.1.1 j hj)
   | 2,_,0,_=>exact (lo (sx.c j hj) (sy.1.1 i hi)).symm
   | 2,_,1,_=>exact (lo (sx.g j hj) (sy.1.1 i hi)).symm
   | 2,_,2,_=>exact X9w sy.1 hi hj (by rcases hne with h | h; exact absurd rfl h; exact h)
   | 2,_,3,_=>exact sy.2.2 i j hi hj
   | 3,_,0,_=>exact (lo (sx.c j hj) (sy.2.1.1 i hi)).symm
   | 3,_,1,_=>exact (lo (sx.g j hj) (sy.2.1.1 i hi)).symm
   | 3,_,2,_=>exact (sy.2.2 j i hj hi).symm
   | 3,_,3,_=>exact X9w sy.2.1 hi hj (by rcases hne with h | h; exact absurd rfl h; exact h)
theorem Z6u (W0 WC:World) (a b:Tree) (kind:ByteArray) (A Bx R:Nat) (Aa Ca Ga Ab Cb Gb:Option Addr) (ca cca cga cb ccb cgb:Nat) (hsb:b.causes.length <= 900) (hsa:a.causes.length <= 900) (hga:a.gates.length <= 900) (hgb:b.gates.length <= 900) (hna:a.basics.length <= 900) (hnb:b.basics.length <= 900) (hst:Q7k (Q0w a b kind)) (hg0:0 < a.gates.length) (hg1:0 < b.gates.length) (hv:∀ k,k < b.causes.length -> ∀ x ∈ lC b k,x < b.basics.length) (hlc:(∀ k,k < b.causes.length -> (lC b k).length <= 900 /\ ∀ x ∈ lC b k,0 <= x /\ x < 1000)) (hla:(∀ k,k < a.gates.length -> (lG a k).length <= 900 /\ ∀ x ∈ lG a k,0 <= x /\ x < 1000)) (hlb:(∀ k,k < b.gates.length -> (lG b k).length <= 900 /\ ∀ x ∈ lG b k,0 <= x /\ x < 1000)) (hfa:Few a) (hfb:Few b) (hna0:1 <= a.basics.length) (hnb0:1 <= b.basics.length)
    (hta:Q5u WC (.slice Aa a.basics.length ca) (.slice Ca a.causes.length cca) (.slice Ga a.gates.length cga) a) (htb:Q5u WC (.slice Ab b.basics.length cb) (.slice Cb b.causes.length ccb) (.slice Gb b.gates.length cgb) b)
    (k3:Blk WC A 26 #[.slice Aa a.basics.length ca,.slice Ca a.causes.length cca,.slice Ga a.gates.length cga]) (k4:Blk WC Bx 26 #[.slice Ab b.basics.length cb,.slice Cb b.causes.length ccb,.slice Gb b.gates.length cgb]) (kR:Blk WC R 26 #[.slice none 0 0,.slice none 0 0,.slice none 0 0]) (h0R:W0.heap.size <= R) (hx0:Ext W0 WC) (ua ub uc ud ue uf ug uh ui uj uk ul um un uo up uq ur us ut uu uv uw ux uy uz uA uB uC uD uE uF uG uH uI uJ uK uL uM uN uO uP uQ uR uS uT uU uV uW uX uY uZ u2 u3 u4 u6 Ua Ub Uc Ud Ue Uf Ug Uh Ui Uj Uk Ul Um Un Uo Up Uq Ur Us Ut Uu Uv Uw Ux Uy Uz UA UB UC UD UE UF UG UH UI UJ UK UL UM UN UO UP UQ UR US UT UU UV UW UX UY UZ U0 U1 U2 U3 U4 U5 U6 U7 U8 U9 ya yd ye yf yh yi yj yk yl ym yn yo yp yq yr ys yt yu yv yw yx yy yz yA yB yC yD yE yF yG yH yI yJ yK yL yM yN yO yP yQ yR yS yT yU yV yW yX yY yZ y0 y1 y2 y3 y4 y5 y6 y7 y8 y9 Ya Yb Yc Yd Ye Yf Yg Yh Yi Yj Yk Yl Ym Yn Yo Yp Yq Yr Ys Yt Yu Yv Yw Yx Yy Yz YA YB YC YD YE YF YG YH YI YJ YK YL YM YN YO YP YQ YR YS YT YU YV YW YX YY YZ Y0 Y1 Y2 Y3 Y4 Y5 Y6 Y7 Y8 Y9 ja jb jc jd je jf jg jh ji jj jk jl jm jn jo jp jq jr js jt ju jv jw jx jy jz jA jB jC jD jE:Value) :
    (codeFrom Tryz.f13 13).wp Tryz.prog (bodyPost Tryz.prog Tryz.f13 (fun e w'=>∃ cs,e = .returned (.tuple #[.agg cs,.int .i64 0]) /\ cs.size = 3 /\ (∀ u ∈ cs.toList,u.oneCell' = true) /\ Q7a 26 w' (.agg cs) (Q0w a b kind) /\ Ext W0 w')) ⟨#[ua,ub,.string kind,.pointer (some ⟨A,0,none⟩),.pointer (some ⟨Bx,0,none⟩),uc,.pointer (some ⟨R,0,none⟩),ud,ue,uf,ug,uh,ui,uj,uk,ul,um,un,uo,up,uq,ur,us,ut,uu,uv,uw,ux,uy,uz,uA,uB,uC,uD,uE,uF,uG,uH,uI,uJ,uK,uL,uM,uN,uO,uP,uQ,uR,uS,uT,uU,uV,uW,uX,uY,uZ,u2,u3,u4,u6,Ua,Ub,Uc,Ud,Ue,Uf,Ug,Uh,Ui,Uj,Uk,Ul,Um,Un,Uo,Up,Uq,Ur,Us,Ut,Uu,Uv,Uw,Ux,Uy,Uz,UA,UB,UC,UD,UE,UF,UG,UH,UI,UJ,UK,UL,UM,UN,UO,UP,UQ,UR,US,UT,UU,UV,UW,UX,UY,UZ,U0,U1,U2,U3,U4,U5,U6,U7,U8,U9,ya,yd,ye,yf,yh,yi,yj,yk,yl,ym,yn,yo,yp,yq,yr,ys,yt,yu,yv,yw,yx,yy,yz,yA,yB,yC,yD,yE,yF,yG,yH,yI,yJ,yK,yL,yM,yN,yO,yP,yQ,yR,yS,yT,yU,yV,yW,yX,yY,yZ,y0,y1,y2,y3,y4,y5,y6,y7,y8,y9,Ya,Yb,Yc,Yd,Ye,Yf,Yg,Yh,Yi,Yj,Yk,Yl,Ym,Yn,Yo,Yp,Yq,Yr,Ys,Yt,Yu,Yv,Yw,Yx,Yy,Yz,YA,YB,YC,YD,YE,YF,YG,YH,YI,YJ,YK,YL,YM,YN,YO,YP,YQ,YR,YS,YT,YU,YV,YW,YX,YY,YZ,Y0,Y1,Y2,Y3,Y4,Y5,Y6,Y7,Y8,Y9,ja,jb,jc,jd,je,jf,jg,jh,ji,jj,jk,jl,jm,jn,jo,jp,jq,jr,js,jt,ju,jv,jw,jx,jy,jz,jA,jB,jC,jD,jE],[]⟩ WC:=by
 conv=>arg 2; whnf
 obtain ⟨PP,hPP⟩:∃ x,(bodyPost Tryz.prog Tryz.f13 (fun e w'=>∃ cs,e = .returned (.tuple #[.agg cs,.int .i64 0]) /\ cs.size = 3 /\ (∀ u ∈ cs.toList,u.oneCell' = true) /\ Q7a 26 w' (.agg cs) (Q0w a b kind) /\ Ext W0 w')) = x:=⟨_,rfl⟩
 rw [hPP];have HPP:=Lib.hid hPP;have HST:=Lib.hid hst;have HV:=Lib.hid hv;have HLC:=Lib.hid hlc;have HLA:=Lib.hid hla;have HLB:=Lib.hid hlb;have HFA:=Lib.hid hfa;have HFB:=Lib.hid hfb;have HTA:=Lib.hid hta;have HTB:=Lib.hid htb;have KA:=Lib.hid k3;have KB:=Lib.hid k4;have KR:=Lib.hid kR;have HX0:=Lib.hid hx0;have hAl:=k3.lt;have hBl:=k4.lt;have hRl:=kR.lt;clear hPP hst hv hlc hla hlb hfa hfb hta htb k3 k4 kR hx0;go_upto_region 13 with fail;have hdr:=(Ext.refl WC).drew;refine Flow.Y6p [4,5] [.w,.w,.w,.w,.w,.w,.last,.last] [0,1,2,3,4,5,6,7] [[],[0],[],[0,1,2],[],[],[0,1,2,3,4,5],[0,1,2,3,4,5,6]] [6,7]
  [.c 0 (.agg #[.slice Aa a.basics.length ca,.slice Ca a.causes.length cca,.slice Ga a.gates.length cga]),⟨fun v wz=>(fun v w'=>∃ xb xc xg mc mg,v 1 = .agg #[xb,xc,xg] /\ X2z w' WC.heap.size a xb xc xg mc mg /\ Q7c WC.heap.size a mc mg) v wz,by rintro v x y hx ⟨xb,xc,xg,mc,mg,h1,h2,h3⟩; exact ⟨xb,xc,xg,mc,mg,h1,h2.ext hx,h3⟩⟩,.c 2 (.agg #[.slice Ab b.basics.length cb,.slice Cb b.causes.length ccb,.slice Gb b.gates.length cgb]),⟨fun v wz=>(fun v w'=>∃ M xb xc xg mc mg yb yc yg nc ng,v 1 = .agg #[xb,xc,xg] /\ v 3 = .agg #[yb,yc,yg] /\ WC.heap.size <= M /\ X2z w' WC.heap.size a xb xc xg mc mg /\ X4m WC.heap.size M a xg mc mg /\ X2z w' M b yb yc yg nc ng /\ Q7c M b nc ng) v wz,by rintro v x y hx ⟨M,xb,xc,xg,mc,mg,yb,yc,yg,nc,ng,h1,h2,h0,h3,h4,h5,h6⟩; exact ⟨M,xb,xc,xg,mc,mg,yb,yc,yg,nc,ng,h1,h2,h0,h3.ext hx,h4,h5.ext hx,h6⟩⟩,⟨fun v wz=>(fun v w'=>∃ g,v 4 = .pointer (some ⟨g,0,none⟩) /\ WC.heap.size <= g /\ Blk w' g 26 #[.slice none 0 0,.slice none 0 0,.slice none 0 0]) v wz,by rintro v x y hx ⟨g,h1,h2,h3⟩; exact ⟨g,h1,h2,h3.ext hx⟩⟩,⟨fun v wz=>(fun v w'=>∃ g,v 5 = .pointer (some ⟨g,0,none⟩) /\ WC.heap.size <= g /\ Blk w' g 26 #[.slice none 0 0,.slice none 0 0,.slice none 0 0]) v wz,by rintro v x y hx ⟨g,h1,h2,h3⟩; exact ⟨g,h1,h2,h3.ext hx⟩⟩,.none,.none]
  [fun v w1 w'=>∃ g4 g5 M xb xc xg mc mg yb yc yg nc ng,v 4 = .pointer (some ⟨g4,0,none⟩) /\ v 5 = .pointer (some ⟨g5,0,none⟩) /\ WC.heap.size <= g4 /\ WC.heap.size <= g5 /\ WC.heap.size <= M /\ X2z w' WC.heap.size a xb xc xg mc mg /\ X4m WC.heap.size M a xg mc mg /\ X2z w' M b yb yc yg nc ng /\ Q7c M b nc ng /\ Below WC.heap.size w1 w' /\ Blk w' g4 26 #[xb,xc,xg] /\ (∃ cs,Blk w' g5 26 cs /\ cs.size = 3) /\ v 1 = .agg #[xb,xc,xg] /\ v 3 = .agg #[yb,yc,yg],fun v w1 w'=>∃ g4 g5 M xb xc xg mc mg yb yc yg nc ng,v 4 = .pointer (some ⟨g4,0,none⟩) /\ v 5 = .pointer (some ⟨g5,0,none⟩) /\ WC.heap.size <= g4 /\ WC.heap.size <= g5 /\ WC.heap.size <= M /\ X2z w' WC.heap.size a xb xc xg mc mg /\ X4m WC.heap.size M a xg mc mg /\ X2z w' M b yb yc yg nc ng /\ Q7c M b nc ng /\ Below WC.heap.size w1 w' /\ Blk w' g5 26 #[yb,yc,yg] /\ (v 4 ≠ v 5 -> Blk w' g4 26 #[xb,xc,xg])] (by kernel_rfl) rfl (by kernel_rfl) rfl ⟨?g0,?g1,?g2,?g3,?g4,?g5,?g6,?g7,trivial⟩ ?made ?post
 case made =>
  intro j hj o ho;simp only [List.mem_cons,List.not_mem_nil,or_false] at hj
  rcases hj with rfl | rfl
  all_goals (cases ho; first | exact Flow.X8y Tryz.Y7y rfl rfl)
 case g0=>
  intro v w1 hx;intro bb hbb;intro K hK;have o1:bb.eval (.tmp 3) = .pointer (some ⟨A,0,none⟩):=by rw [hbb]; dsimp only; (try simp (discharger:=decide) only [eval_put_ne]); rfl
  exact Q0h (.tmp 3) _ rfl Tryz.Q2k Tryz.Q0x o1 (KA.out.ext (hdr.trans hx)) rfl (hK _ _ (Ext.refl _) rfl)
 case g1=>
  intro v w1 hx;(repeat intro (zq:v _ = _));intro bb hbb;subst hbb;intro K hK;go_simp;refine Q0c (X2p w1 _ a ⟨_,_,_,rfl,HTA.out.ext (hdr.trans hx)⟩ HFA.out hna0) ?_;rintro e w2 ⟨xb,xc,xg,mc,mg,rfl,hown,hap,hx2⟩;have hsz:=(hdr.trans hx).size;exact ⟨_,rfl,hK _ _ hx2 ⟨xb,xc,xg,mc,mg,rfl,⟨Q2q hown.bas hsz,Q2q hown.cau hsz,Q2q hown.gat hsz,hown.mem,hown.inp⟩,hap.weaken hsz⟩⟩
 case g2=>
  intro v w1 hx;intro bb hbb;intro K hK;have o1:bb.eval (.tmp 4) = .pointer (some ⟨Bx,0,none⟩):=by rw [hbb]; dsimp only; (try simp (discharger:=decide) only [eval_put_ne]); rfl
  exact Q0h (.tmp 4) _ rfl Tryz.Q2k Tryz.Q0x o1 (KB.out.ext (hdr.trans hx)) rfl (hK _ _ (Ext.refl _) rfl)
 case g3=>
  intro v w1 hx (q0:v 0 = _) (q1:(fun v w'=>∃ xb xc xg mc mg,v 1 = .agg #[xb,xc,xg] /\ X2z w' WC.heap.size a xb xc xg mc mg /\ Q7c WC.heap.size a mc mg) v w1) (q2:v 2 = _);intro bb hbb;subst hbb;intro K hK;obtain ⟨xb,xc,xg,mc,mg,hv1,hox,hap1⟩:=q1;go_simp;refine Q0c (X2p w1 _ b ⟨_,_,_,rfl,HTB.out.ext (hdr.trans hx)⟩ HFB.out hnb0) ?_;rintro e w2 ⟨yb,yc,yg,nc,ng,rfl,hown,hap,hx2⟩;exact ⟨_,rfl,hK _ _ hx2 ⟨w1.heap.size,xb,xc,xg,mc,mg,yb,yc,yg,nc,ng,hv1,rfl,(hdr.trans hx).size,hox.ext hx2,⟨hap1,fun i hi _ h=>(X3j (hox.mem i hi) h).2,fun i hi _ h=>(X3j (hox.inp i hi) h).2,fun j h=>(hox.gat.lt j h).2⟩,hown,hap⟩⟩
 case g4 | g5=>
  intro v w1 hx;intro bb hbb;subst hbb;intro K hK;go_simp;exact hK _ _ (Ext.box _ _) ⟨_,rfl,(hdr.trans hx).size,Blk.made _ _ _⟩
 case g6=>
  intro v w1 hx (q0:v 0 = _) _ (q2:v 2 = _) (q3:(fun v w'=>∃ M xb xc xg mc mg yb yc yg nc ng,v 1 = .agg #[xb,xc,xg] /\ v 3 = .agg #[yb,yc,yg] /\ WC.heap.size <= M /\ X2z w' WC.heap.size a xb xc xg mc mg /\ X4m WC.heap.size M a xg mc mg /\ X2z w' M b yb yc yg nc ng /\ Q7c M b nc ng) v w1) (q4:(fun v w'=>∃ g,v 4 = .pointer (some ⟨g,0,none⟩) /\ WC.heap.size <= g /\ Blk w' g 26 #[.slice none 0 0,.slice none 0 0,.slice none 0 0]) v w1) (q5:(fun v w'=>∃ g,v 5 = .pointer (some ⟨g,0,none⟩) /\ WC.heap.size <= g /\ Blk w' g 26 #[.slice none 0 0,.slice none 0 0,.slice none 0 0]) v w1);intro wl hT;obtain rfl:wl = w1:=hT;intro bb hbb;intro K hK;obtain ⟨M,xb,xc,xg,mc,mg,yb,yc,yg,nc,ng,h1,h2,h0,h3,h4,h5,h6⟩:=q3;obtain ⟨g4,hg4,hl4,hb4⟩:=q4;obtain ⟨g5,hg5,hl5,hb5⟩:=q5;have o1:bb.eval (.tmp 10) = .pointer (some ⟨g4,0,none⟩):=by rw [hbb]; dsimp only; (try simp (discharger:=decide) only [eval_put_ne]); rw [Q0a (by simp only [size_put]; exact (by decide:10 < 274))]; exact hg4
  have o2:bb.eval (.tmp 67) = .agg #[xb,xc,xg]:=by rw [hbb]; dsimp only; (try simp (discharger:=decide) only [eval_put_ne]); rw [Q0a (by simp only [size_put]; exact (by decide:67 < 274))]; exact h1
  refine Q1o (.tmp 10) (.tmp 67) _ rfl Tryz.Q0x o1 o2 hb4 rfl rfl (Q6a h3.bas h3.cau h3.gat) (fun vv w9 hb hl ho=>hK _ _ ?_);have hk:=Keep.store hb4 ho;refine ⟨g4,g5,M,xb,xc,xg,mc,mg,yb,yc,yg,nc,ng,hg4,hg5,hl4,hl5,h0,h3.keep hk,h4,h5.keep hk,h6,hl _ hl4,hb,?_,h1,h2⟩
  by_cases e:g5 = g4
  . subst e; exact ⟨_,hb,rfl⟩
  . exact ⟨_,hb5.only e ho,rfl⟩
 case g7=>
  intro v w1 hx (q0:v 0 = _) _ (q2:v 2 = _) _ _ _;intro wl hT;replace hT:(fun v w1 w'=>∃ g4 g5 M xb xc xg mc mg yb yc yg nc ng,v 4 = .pointer (some ⟨g4,0,none⟩) /\ v 5 = .pointer (some ⟨g5,0,none⟩) /\ WC.heap.size <= g4 /\ WC.heap.size <= g5 /\ WC.heap.size <= M /\ X2z w' WC.heap.size a xb xc xg mc mg /\ X4m WC.heap.size M a xg mc mg /\ X2z w' M b yb yc yg nc ng /\ Q7c M b nc ng /\ Below WC.heap.size w1 w' /\ Blk w' g4 26 #[xb,xc,xg] /\ (∃ cs,Blk w' g5 26 cs /\ cs.size = 3) /\ v 1 = .agg #[xb,xc,xg] /\ v 3 = .agg #[yb,yc,yg]) v w1 wl:=hT;intro bb hbb;intro K hK;obtain ⟨g4,g5,M,xb,xc,xg,mc,mg,yb,yc,yg,nc,ng,hg4,hg5,hl4,hl5,h0,h3,h4,h5,h6,hbl,hb4,⟨cs5,hb5,hc5⟩,h1,h2⟩:=hT;have o1:bb.eval (.tmp 11) = .pointer (some ⟨g5,0,none⟩):=by rw [hbb]; dsimp only; (try simp (discharger:=decide) only [eval_put_ne,Q5s]); rw [Q0a (by simp only [size_put]; exact (by decide:11 < 274))]; exact hg5
  have o2:bb.eval (.tmp 69) = .agg #[yb,yc,yg]:=by rw [hbb]; dsimp only; (try simp (discharger:=decide) only [eval_put_ne,Q5s]); rw [Q0a (by simp only [size_put]; exact (by decide:69 < 274))]; exact h2
  refine Q1o (.tmp 11) (.tmp 69) _ rfl Tryz.Q0x o1 o2 hb5 hc5 rfl (Q6a h5.bas h5.cau h5.gat) (fun vv w9 hb hl ho=>hK _ _ ?_);have hk:=Keep.store hb5 ho;exact ⟨g4,g5,M,xb,xc,xg,mc,mg,yb,yc,yg,nc,ng,hg4,hg5,hl4,hl5,h0,h3.keep hk,h4,h5.keep hk,h6,Below.trans hbl (hl _ hl5),hb,fun hne=>hb4.only (fun e=>hne (by show v 4 = v 5; rw [hg4,hg5,e])) ho⟩
 case post =>
  intro v w1 hx hnw (q0:v 0 = _) (q1:(fun v w'=>∃ xb xc xg mc mg,v 1 = .agg #[xb,xc,xg] /\ X2z w' WC.heap.size a xb xc xg mc mg /\ Q7c WC.heap.size a mc mg) v w1) (q2:v 2 = _) (q3:(fun v w'=>∃ M xb xc xg mc mg yb yc yg nc ng,v 1 = .agg #[xb,xc,xg] /\ v 3 = .agg #[yb,yc,yg] /\ WC.heap.size <= M /\ X2z w' WC.heap.size a xb xc xg mc mg /\ X4m WC.heap.size M a xg mc mg /\ X2z w' M b yb yc yg nc ng /\ Q7c M b nc ng) v w1) (q4:(fun v w'=>∃ g,v 4 = .pointer (some ⟨g,0,none⟩) /\ WC.heap.size <= g /\ Blk w' g 26 #[.slice none 0 0,.slice none 0 0,.slice none 0 0]) v w1) (q5:(fun v w'=>∃ g,v 5 = .pointer (some ⟨g,0,none⟩) /\ WC.heap.size <= g /\ Blk w' g 26 #[.slice none 0 0,.slice none 0 0,.slice none 0 0]) v w1);intro w2 hE;replace hE:(fun v w1 w'=>∃ g4 g5 M xb xc xg mc mg yb yc yg nc ng,v 4 = .pointer (some ⟨g4,0,none⟩) /\ v 5 = .pointer (some ⟨g5,0,none⟩) /\ WC.heap.size <= g4 /\ WC.heap.size <= g5 /\ WC.heap.size <= M /\ X2z w' WC.heap.size a xb xc xg mc mg /\ X4m WC.heap.size M a xg mc mg /\ X2z w' M b yb yc yg nc ng /\ Q7c M b nc ng /\ Below WC.heap.size w1 w' /\ Blk w' g5 26 #[yb,yc,yg] /\ (v 4 ≠ v 5 -> Blk w' g4 26 #[xb,xc,xg])) v w1 w2:=hE;simp only [Flow.acts,Act.put];go_simp;obtain ⟨X,Y,M,xb,xc,xg,mc,mg,yb,yc,yg,nc,ng,hg4,hg5,hl4,hl5,hWM,h3,h4,h5,h6,hbl,hb5,hb4⟩:=hE;have hne:v 4 ≠ v 5:=hnw 4 (by decide) 5 (by decide) (by decide)
  replace hb4:=hb4 hne;have hxd:Ext WC w2:=Below.trans (hdr.trans hx) hbl;rw [hg4,hg5];obtain ⟨bx,cx,hbx,_⟩:=h3.bas.shape;obtain ⟨by',cy,hby,_⟩:=h5.bas.shape
  subst hbx hby
  have HOX:=Lib.hid h3;have HOY:=Lib.hid h5;have HSX:=Lib.hid h4;have HAY:=Lib.hid h6;have H4:=Lib.hid hb4;have H5:=Lib.hid hb5;have HXD:=Lib.hid hxd;have hsz:=hxd.size;have h4s:=hb4.lt;have h5s:=hb5.lt;have c0:=hb4.cell 0;have c1:=hb5.cell 0;simp only [Go.Tw.gA,Go.Tw.gB] at c0 c1;clear hdr hx q0 q1 q2 q3 q4 q5 hbl hb4 hb5 h3 h4 h5 h6 hxd hnw hne hg4 hg5;obtain ⟨WD,rfl⟩:∃ X,X = w2:=⟨_,rfl⟩;obtain ⟨i0,hi,hz0,hz1,hz2⟩:=info_parts Tryz.Z2o;go_upto_region 14 with fail;go_upto_region 15 with (at_builtin; refine Q4n (o:=⟨some 74,_,_,_,_,_⟩) rfl ?_; refine Q5f (.tmp 71) (.tmp 73) 22 rfl WC.heap.size 48 i0 (.agg #[.string emp,.int .i64 0]) 2 24 Tryz.underlying22 hi hz0 hz1 hz2 rfl (by decide) Q8h Q6k _ a.basics b.basics rfl HOX.out.bas by' cy rfl (X9r Q6k HOY.out.bas) (X5k b.basics) (by omega) (by decide) hsz ?_; intro v9 w9 hown9 hg9; refine halted ?_)
  have hk9:=X0p HOX.out.bas hg9;have hbl9:Below WC.heap.size WD w9:=Below.grown (Below.refl _ _) hg9 hsz (fun j hj=>(HOX.out.bas.lt j hj).1);obtain ⟨bo,co,hsh,_⟩:=hown9.shape;rw [hsh] at hown9 ⊢;have hfm:=Z4j HOX.out HOY.out HSX.out HAY.out hWM;have HX9:Hid (Ext WC w9):=Lib.hid (Below.trans HXD.out hbl9);have HRG:Hid (RG w9 WC.heap.size a b A Bx R X Y Aa Ca Ga Ab Cb Gb ca cca cga cb ccb cgb (.slice bx a.basics.length cx) xc xg (.slice by' b.basics.length cy) yc yg mg ng):=Lib.hid ⟨HX9.out.size |> fun _=>hk9 _ _ _ (by decide) (KA.out.ext HXD.out),hk9 _ _ _ (by decide) (KB.out.ext HXD.out),hk9 _ _ _ (by decide) (KR.out.ext HXD.out),hk9 _ _ _ (by decide) H4.out,hk9 _ _ _ (by decide) H5.out,Q0s HOX.out.gat (by decide) hk9,Q2q (Q0s HOY.out.gat (by decide) hk9) hWM⟩
  have HXC:=Lib.hid (Q0s HOX.out.cau (by decide) hk9)
  have HYC:=Lib.hid (Q2q (Q0s HOY.out.cau (by decide) hk9) hWM)
  have HFM:=Lib.hid (hfm.keep (by decide) hk9)
  have HOB:=Lib.hid hown9;have HXY:Hid (∀ g,xg.ownBlock = some g -> yg.ownBlock ≠ some g):=Lib.hid fun g e1 e2=>by have:=HSX.out.t g e1; have:=(HOY.out.gat.lt g e2).1; omega
  have h9s:=hbl9.size;clear hk9 hbl9 hown9 hg9 hsh hfm c0 c1;unfold Q3g;go_upto_region 15 with fail;rw [List.length_append] at HOB ⊢;obtain ⟨WO,hWO,kO,HXO,eO⟩:=Q3z w9 26 #[.slice bo (a.basics.length + b.basics.length) co,.slice none 0 0,.slice none 0 0];rw [hWO];clear hWO;have c0:=(HRG.out.kA.ext HXO.out).cell 0;have c1:=(HRG.out.kB.ext HXO.out).cell 0;simp only [Go.Tw.gA,Go.Tw.gB] at c0 c1
  go_quiet (fail)
  have hxq:Ext w9 (WO.drewN nq):=Below.trans HXO.out ⟨rfl,rfl,rfl,Nat.le_refl _,fun _ _=>rfl⟩;obtain ⟨WE,hWE⟩:∃ X,WO.drewN nq = X:=⟨_,rfl⟩;have kO2:Blk WE w9.heap.size 26 #[.slice bo (a.basics.length + b.basics.length) co,.slice none 0 0,.slice none 0 0]:=by rw [<- hWE]; exact kO
  rw [hWE] at hxq ⊢;clear hWE c0 c1 kO;have hXE:=hxq.size
  go_step
  go_step
  rw [<- HPP.out];exact Z7r W0 WE a b kind A Bx R X Y w9.heap.size Aa Ca Ga Ab Cb Gb ca cca cga cb ccb cgb _ xc xg _ yc yg mc mg nc ng WC.heap.size _ hsb hsa hga hgb hna hnb HST.out hg0 hg1 HV.out HLC.out HLA.out HLB.out HXY.out kO2 (HOB.out.below hxq) (HXC.out.below hxq) (HYC.out.below hxq)
   ⟨HRG.out.kA.ext hxq,HRG.out.kB.ext hxq,HRG.out.kR.ext hxq,HRG.out.kX.ext hxq,HRG.out.kY.ext hxq,HRG.out.xg.below hxq,HRG.out.yg.below hxq⟩ ⟨by omega,by omega,by omega,by omega,by omega,h0R,by omega⟩ (HFM.out.ext hxq) (HX0.out.trans (HX9.out.trans hxq)) HX0.out.size _ _ _ _ _ _ _ _ _ _ _ _ _ _ _ _ _ _ _ _ _ _ _ _ _ _ _ _ _ _ _ _ _ _ _ _ _ _ _ _ _ _ _ _ _ _ _ _ _ _ _ _ _ _ _ _ _ _ _ _ _ _ _ _ _ _ _ _ _ _ _ _ _ _ _ _ _ _ _ _ _ _ _ _ _ _ _ _ _ _ _ _ _ _ _ _ _ _ _ _ _ _ _ _ _ _ _ _ _ _ _ _ _ _ _ _ _ _ _ _ _ _ _ _ _ _ _ _ _ _ _ _ _ _ _ _ _ _ _ _ _ _ _ _ _ _ _ _ _ _ _ _ _ _ _ _ _ _ _ _ _ _ _ _ _ _ _ _ _ _ _ _ _ _ _ _ _ _ _ _ _ _ _ _ _ _ _ _ _ _ _ _ _ _ _ _ _ _ _ _ _ _ _ _ _ _ _ _ _ _ _ _ _ _ _ _ _ _ _ _ _ _ _ _ _ _ _ _ _ _ _ _ _ _ _ _ _ _ _ _ _ _ _ _ _ _ _ _ _ _ _ _ _ _ _ _ _ _ _ _ _ _ _ _ _
end Go.Proofs
