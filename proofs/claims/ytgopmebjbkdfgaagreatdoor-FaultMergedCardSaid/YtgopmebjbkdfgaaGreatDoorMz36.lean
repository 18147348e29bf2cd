/- The walk through Merge from region 11 on: the causes of the second tree. -/
import Derived.Test.YtgopmebjbkdfgaaGreatDoorMz35
set_option maxRecDepth 1000000
set_option maxHeartbeats 64000000
set_option linter.unusedVariables false
set_option linter.unusedSimpArgs false
set_option linter.constructorNameAsVariable false
namespace Go.Proofs
open Go.RowKit Go.Tw Go.Flow
attribute [local go_sem ↓] Q2s Q4d Q2n Q3r
theorem Tryz.Y7w (w:World):(sizeOf 30).run Tryz.prog w = .ok 1 w:=by kernel_rfl
theorem J4r (W0 WB:World) (a b:Tree) (kind:ByteArray) (Ba Bb R Y O gx:Nat) (xa1 xb1 y1:Value) (Aa Ga Bbs Gb Ab Ac Ag Cy Gy:Option Addr) (ca cga cbb cgb cb ccy cgy:Nat) (LC LG LX LY:List (ByteArray × Int × Value))
    (hst:X6j (Q0k a b kind)) (hsa:a.basics.length + b.basics.length <= 900) (hsc:a.causes.length + b.causes.length <= 900) (hsg:a.gates.length + b.gates.length <= 900) (hab:a.basics.length + a.gates.length <= 900) (hnb:0 < a.basics.length) (hlc:LC.length = a.causes.length) (hlg:LG.length = a.gates.length)
    (hic:∀ k,k < b.causes.length -> (Q0e b.causes k).length <= 1000 /\ ∀ x ∈ Q0e b.causes k,0 <= x /\ x < 1000)
    (hia:∀ k,k < a.gates.length -> (Q0j a.gates k).length <= 1000 /\ ∀ x ∈ Q0j a.gates k,0 <= x /\ x < 1000)
    (hin:∀ k,k < b.gates.length -> (Q0j b.gates k).length <= 1000 /\ ∀ x ∈ Q0j b.gates k,0 <= x /\ x < 1000)
    (k3:Blk WB Ba 33 #[.slice Aa a.basics.length ca,xa1,.slice Ga a.gates.length cga]) (k4:Blk WB Bb 33 #[.slice Bbs b.basics.length cbb,xb1,.slice Gb b.gates.length cgb])
    (kR:Blk WB R 33 #[.slice none 0 0,.slice none 0 0,.slice none 0 0]) (kY:Blk WB Y 33 #[y1,.slice Cy b.causes.length ccy,.slice Gy b.gates.length cgy]) (kO:Blk WB O 33 #[.slice Ab (a.basics.length + b.basics.length) cb,.slice Ac LC.length LC.length,.slice Ag LG.length LG.length])
    (hvb:Q1o WB 0 103 2 Q9x (.slice Ab (a.basics.length + b.basics.length) cb) (a.basics ++ b.basics))
    (hvc:Q1o WB 0 106 3 enc3 (.slice Ac LC.length LC.length) LC) (htc:Q8r WB LC (a.causes.map Y4m))
    (hvg:Q1o WB 0 114 3 enc3 (.slice Ag LG.length LG.length) LG) (htg:Q8r WB LG (a.gates.map X6f))
    (hvx:Q1o WB 0 106 3 enc3 (.slice Cy b.causes.length ccy) LX) (htx:Q8r WB LX (b.causes.map Y4m))
    (hvy:Q1o WB (gx + 1) 114 3 enc3 (.slice Gy b.gates.length cgy) LY) (hty:Q8r WB LY (b.gates.map X6f))
    (hag:0 < LG.length -> Ag = some ⟨gx,0,none⟩) (hgx:∀ S ds,Blk WB gx S ds -> S = 114) (hgs:gx < WB.heap.size) (h0g:W0.heap.size <= gx)
    (hRO:R ≠ O) (hAO:Ba ≠ O) (hBO:Bb ≠ O) (hYO:Y ≠ O) (h0R:W0.heap.size <= R) (h0O:W0.heap.size <= O) (hx0:Ext W0 WB) (ua ub uc ud ue uf ug uh ui uj uk ul um un uo up uq ur us ut uu uv uw ux uy uz uA uB uC uD uE uF uG uH uI uJ uK uL uM uN uO uP uQ uR uS uT uU uV uW uX uY uZ u2 u3 u4 u6 Ua Ub Uc Ud Ue Uf Ug Uh Ui Uj Uk Ul Um Un Uo Up Uq Ur Us Ut Uu Uv Uw Ux Uy Uz UA UB UC UD UE UF UG UH UI UJ UK UL UM UN UO UP UQ UR US UT UU UV UW UX UY UZ U0 U1 U2 U3 U4 U5 U6 U7 U8 U9 ya yb yc yd ye yf yg yh yi yj yk yl ym yn yo yp yq yr ys yt yu yv yw yx yy yz yA yB yC yD yE yF yG yH yI yJ yK yL yM yN yO yP yQ yR yS yT yU yV yW yX yY yZ y0 y2 y3 y4 y5 y6 y7 y8 y9 Ya Yb Yc Yd Ye Yf Yg Yh Yi Yj Yk Yl Ym Yn:Value) :
    (codeFrom Tryz.f9 11).wp Tryz.prog (bodyPost Tryz.prog Tryz.f9 (fun e w'=>∃ u,e = .returned (.tuple #[u,.int .i64 0]) /\ Q7q 33 w' u (Q0k a b kind) /\ Ext W0 w')) ⟨#[ua,ub,.string kind,.pointer (some ⟨Ba,0,none⟩),.pointer (some ⟨Bb,0,none⟩),uc,.pointer (some ⟨R,0,none⟩),ud,ue,uf,ug,uh,.pointer (some ⟨Y,0,none⟩),.pointer (some ⟨O,0,none⟩),ui,uj,uk,ul,um,un,uo,up,uq,ur,us,ut,uu,uv,uw,ux,uy,uz,uA,uB,uC,uD,uE,uF,uG,uH,uI,uJ,uK,uL,uM,uN,uO,uP,uQ,uR,uS,uT,uU,uV,uW,uX,uY,uZ,u2,u3,u4,u6,Ua,Ub,Uc,Ud,Ue,Uf,Ug,Uh,Ui,Uj,Uk,Ul,Um,Un,Uo,Up,Uq,Ur,Us,Ut,Uu,Uv,Uw,Ux,Uy,Uz,UA,UB,UC,UD,UE,UF,UG,UH,UI,UJ,UK,UL,UM,UN,UO,UP,UQ,UR,US,UT,UU,UV,UW,UX,UY,UZ,U0,U1,U2,U3,U4,U5,U6,U7,U8,U9,ya,yb,yc,yd,ye,yf,yg,yh,yi,yj,yk,yl,ym,yn,yo,yp,yq,yr,ys,yt,yu,yv,yw,yx,yy,yz,yA,yB,yC,yD,yE,yF,yG,yH,yI,yJ,yK,yL,yM,yN,yO,yP,yQ,yR,yS,yT,yU,yV,yW,yX,yY,yZ,y0,y2,y3,y4,y5,y6,y7,y8,y9,Ya,Yb,Yc,Yd,Ye,Yf,Yg,Yh,Yi,Yj,Yk,Yl,Ym,Yn],[]⟩ WB:=by
 conv=>arg 2; whnf
 have c2:=kY.cell 1;simp only [Go.Tw.gA,Go.Tw.gB,Go.Tw.gC] at c2;obtain ⟨ig,hi,hz0,hz1,hz2⟩:=info_parts Tryz.J2c;obtain ⟨M,hM⟩:∃ n,WB.heap.size = n:=⟨_,rfl⟩;have hlxl:LX.length = b.causes.length:=by rw [htx.1,List.length_map]
 have hstart:Y3u WB WB.heap.size 106 3 enc3 (.slice Ac LC.length LC.length) LC:=.inr ⟨hvc,_,rfl⟩;rw [hM] at hstart;have HST:=Lib.hid hst;have HIC:=Lib.hid hic;have HIA:=Lib.hid hia;have HIN:=Lib.hid hin;have KA:=Lib.hid k3;have KB:=Lib.hid k4;have KR:=Lib.hid kR;have KY:=Lib.hid kY;have KO:=Lib.hid kO;have HVB:=Lib.hid hvb;have HVG:=Lib.hid hvg;have HTG:=Lib.hid htg;have HVX:=Lib.hid hvx;have HTX:=Lib.hid htx;have HVY:=Lib.hid hvy;have HTY:=Lib.hid hty;have HLC:=Lib.hid hlc;have HLG:=Lib.hid hlg;have HLX:=Lib.hid hlxl;have HAG:=Lib.hid hag;have HGX:=Lib.hid hgx;have HGS:=Lib.hid hgs;have HM:=Lib.hid hM;have HS0:=Lib.hid hstart;have HTC:=Lib.hid htc;have HX0:=Lib.hid hx0;clear hst hic hia hin k3 k4 kR kY kO hvb hvg htg hvx htx hvy hty hlc hlg hlxl hag hgx hgs hM hstart htc hx0 hvc;go_wp2;clear c2
 go_loopw [95] (fun i wr=>∃ (k:Nat) (bG:Option Addr) (cG:Nat) (L:List (ByteArray × Int × Value)),k <= b.causes.length /\ i = .int .i64 k /\ L.length = LC.length + k /\ Blk wr O 33 #[.slice Ab (a.basics.length + b.basics.length) cb,.slice bG L.length cG,.slice Ag LG.length LG.length] /\ Y3u wr M 106 3 enc3 (.slice bG L.length cG) L /\ Q8r wr L ((a.causes ++ (b.causes.map (Q3m a.basics.length b.basics.length)).take k).map Y4m) /\ But O WB wr /\ Ext W0 wr) (fun i _=>b.causes.length - (intOf i).toNat)
 case atStart=>exact ⟨0,Ac,LC.length,LC,Nat.zero_le _,rfl,rfl,KO.out,HS0.out,by simpa using HTC.out,But.refl _ _,HX0.out⟩
 case round =>
  obtain ⟨k,bG,cG,L,hk,rfl,hlen,hblk,hown,htri,hbut,hx⟩:=hrel;have HLEN:=Lib.hid hlen;have HBK:=Lib.hid hblk;have HOW:=Lib.hid hown;have HTR:=Lib.hid htri;have HBT:=Lib.hid hbut;have HX:=Lib.hid hx;clear hlen hblk hown htri hbut hx
  by_cases hlt:k < b.causes.length
  . skip
    have hkl:k < LX.length:=by rw [HLX.out]; exact hlt
    obtain ⟨gy,cpy,cury,hey,_,hby,_,_,_,htky⟩:=X1c HVX.out (by omega)
    rw [HLX.out] at hey;injection hey with hey1 _ hey3;subst hey1 hey3;obtain ⟨t1,t2,t3⟩:=HTX.out.2 k hkl (by rw [List.length_map]; exact hlt)
    have hin:=HIC.out k hlt;unfold Q0e at hin;rw [getD_at hlt] at hin;obtain ⟨g0,hg0⟩:∃ x,b.causes[k] = x:=⟨_,rfl⟩;simp only [List.getElem_map,Y4m] at t1 t2 t3;rw [hg0] at t1 t2 t3 hin;have hby2:=HBT.out.blk hby (Q2f hby KO.out (by decide))
    have e0:=Q6d Q0s hby2 htky hkl (j:=0) (by omega)
    have e1:=Q6d Q0s hby2 htky hkl (j:=1) (by omega)
    have e2:=Q6d Q0s hby2 htky hkl (j:=2) (by omega)
    simp only [enc3,List.getElem?_cons_zero,List.getElem?_cons_succ,Nat.add_zero] at e0 e1 e2;obtain ⟨A3,cap3,e9,_⟩:=Q0t.shape t3;rw [t1] at e0;rw [t2] at e1;rw [e9] at e2;have hyr:=Q3x t3 (by decide) (HBT.out.keep KO.out)
    rw [e9] at hyr;have hle:g0.members.length <= 1000:=hin.1;obtain ⟨nm,hnm⟩:∃ x,g0.name = x:=⟨_,rfl⟩;obtain ⟨ch,hch⟩:∃ x,g0.chance = x:=⟨_,rfl⟩;obtain ⟨ml,hml⟩:∃ x,g0.members = x:=⟨_,rfl⟩;rw [hnm] at e0;rw [hch] at e1;rw [hml] at e2 hyr hin hle;have HG0:Hid (g0 = ⟨nm,ch,ml⟩):=Lib.hid (by rw [<- hnm,<- hch,<- hml])
    have HGK:=Lib.hid hg0;have HMI:=Lib.hid hin;have xb:=Ext.box wr (.cells #[.string nm,.int .i64 ch,.slice A3 ml.length cap3] 106);have kb:=Blk.made wr 106 #[.string nm,.int .i64 ch,.slice A3 ml.length cap3];have HM2:=Lib.hid ((hyr.below xb).ints (by omega))
    have HOW5:=Lib.hid (HOW.out.ext xb);have HBK5:=Lib.hid (HBK.out.ext xb);have HTR5:=Lib.hid (HTR.out.ext xb);have KA5:=Lib.hid ((HBT.out.blk KA.out hAO).ext xb);have KB5:=Lib.hid ((HBT.out.blk KB.out hBO).ext xb);have hOl:=HBK.out.lt;have hkI:(k:Int) < b.causes.length:=by omega
    have hMr:M <= wr.heap.size:=by rw [<- HM.out]; exact HBT.out.1
    have hLl:L.length <= 900:=by have:=HLEN.out; have:=HLC.out; omega
    have hadd:IntKind.i64.wrap ((a.basics.length:Int) + (a.gates.length:Int)) = (a.basics.length:Int) + (a.gates.length:Int):=wrap_in (by omega) (by omega)
    clear hin hnm hch hml hg0 hyr t1 t2 t3 hby hby2 htky hkl e9 xb HOW HTR
    go_light
    go_wp2;obtain ⟨W5,hW5⟩:∃ X,wr.alloc (.cells #[.string nm,.int .i64 ch,.slice A3 ml.length cap3] 106) = X:=⟨_,rfl⟩;have hs5:W5.heap.size = wr.heap.size + 1:=by rw [<- hW5]; simp
    have HX5:Hid (Ext wr W5):=Lib.hid (by rw [<- hW5]; exact Ext.box wr _)
    rw [hW5] at HM2 HOW5 HBK5 HTR5 KA5 KB5 kb ⊢;have KG:=Lib.hid kb;have hdr:=(Ext.refl W5).drew;clear hW5 kb e0 e1 e2;refine Flow.Q3s [.p,.w,.p,.w,.p,.w,.p,.w,.p,.w,.p,.p,.w,.p,.w,.p,.w,.last,.last,.last] [0,1,2,3,4,5,6,7,8,9,10,11,12,13,14,15,16,17,18,19] [[],[0],[],[2],[],[4],[],[6],[],[8],[8,9],[],[11],[11,12],[6,7,8,9,10,11,12,13],[2,3,4,5,6,7,8,9,10,11,12,13,14],[2,3,4,5,6,7,8,9,10,11,12,13,14,15],[0,1,2,3,4,5,6,7,8,9,10,11,12,13,14,15,16],[0,1,2,3,4,5,6,7,8,9,10,11,12,13,14,15,16,17],[0,1,2,3,4,5,6,7,8,9,10,11,12,13,14,15,16,17,18]] [17,18,19]
     [.c 0 (.pointer (some ⟨O,1,none⟩)),.c 1 (.slice bG L.length cG),.c 2 (.pointer (some ⟨wr.heap.size,0,none⟩)),.c 3 (.string nm),.c 4 (.pointer (some ⟨wr.heap.size,1,none⟩)),.c 5 (.int .i64 ch),.c 6 (.pointer (some ⟨wr.heap.size,2,none⟩)),.c 7 (.slice A3 ml.length cap3),.c 8 (.pointer (some ⟨Bb,0,none⟩)),.c 9 (.slice Bbs b.basics.length cbb),.c 10 (.int .i64 ((b.basics.length:Nat):Int)),.c 11 (.pointer (some ⟨Ba,0,none⟩)),.c 12 (.slice Aa a.basics.length ca),.c 13 (.int .i64 ((a.basics.length:Nat):Int)),⟨fun v wz=>(fun v w'=>Q0t w' 0 3 (.int .i64) (v 14) (Q2p b.basics.length a.basics.length 0 ml)) v wz,fun _ _ _ hx h=>Q0t.below h hx⟩,⟨fun v wz=>(fun v w'=>v 15 = .agg #[.string nm,.int .i64 ch,v 14]) v wz,by intro _ _ _ _ h; exact h⟩,⟨fun v wz=>(fun v w'=>∃ g,v 16 = .slice (some ⟨g,0,none⟩) 1 1 /\ Blk w' g 106 (enc3 (nm,ch,v 14)).toArray) v wz,by rintro v a b hx ⟨g,h1,h2⟩; exact ⟨g,h1,h2.ext hx⟩⟩,.none,.none,.none]
     [fun v w1 w'=>Q1o w' M 106 3 enc3 (v 17) (L ++ [(nm,ch,v 14)]) /\ Keep 106 w1 w' /\ Below M w1 w',fun v w1 w'=>v 18 = .pointer (some ⟨O,1,none⟩) /\ Q1o w' M 106 3 enc3 (v 17) (L ++ [(nm,ch,v 14)]) /\ Keep 106 w1 w' /\ Below M w1 w',fun v w1 w'=>∃ x wm,Q1o wm M 106 3 enc3 x (L ++ [(nm,ch,v 14)]) /\ Keep 106 w1 wm /\ Below M w1 wm /\ w' = wm.setCell ⟨O,1,none⟩ x] (by kernel_rfl) rfl (by kernel_rfl) ⟨?g0,?g1,?g2,?g3,?g4,?g5,?g6,?g7,?g8,?g9,?g10,?g11,?g12,?g13,?g14,?g15,?g16,?g17,?g18,?g19,trivial⟩ ?post
    case g0 | g2 | g4 | g6 | g8 | g11=>
     intro v w1 hx;intro bb hbb;subst hbb;refine ⟨_,fun w=>?_,rfl⟩;go_simp
    case g1 | g3 | g5 | g7 | g9 | g12=>
     intro v w1 hx;(repeat intro (zq:v _ = _));intro bb hbb;subst hbb;have n0:w1.cell? ⟨O,1,none⟩ = some (.slice bG L.length cG):=(HBK5.out.ext (hdr.trans hx)).cell 1;have n1:w1.cell? ⟨wr.heap.size,0,none⟩ = some (.string nm):=(KG.out.ext (hdr.trans hx)).cell 0;have n2:w1.cell? ⟨wr.heap.size,1,none⟩ = some (.int .i64 ch):=(KG.out.ext (hdr.trans hx)).cell 1;have n3:w1.cell? ⟨wr.heap.size,2,none⟩ = some (.slice A3 ml.length cap3):=(KG.out.ext (hdr.trans hx)).cell 2;have n4:w1.cell? ⟨Bb,0,none⟩ = some (.slice Bbs b.basics.length cbb):=(KB5.out.ext (hdr.trans hx)).cell 0;have n5:w1.cell? ⟨Ba,0,none⟩ = some (.slice Aa a.basics.length ca):=(KA5.out.ext (hdr.trans hx)).cell 0;intro K hK;go_simp;exact hK _ _ (Ext.refl _) rfl
    case g10 | g13=>
     intro v w1 hx;(repeat intro (zq:v _ = _));intro bb hbb;subst hbb;refine ⟨_,fun w=>?_,rfl⟩;go_simp
    case g14=>
     intro v w1 hx;(repeat intro (zq:v _ = _));intro bb hbb;subst hbb;intro K hK;go_simp;refine Q0d (X9n w1 _ ml _ _ _ (HM2.out.ext (hdr.trans hx)) (by omega) HMI.out.2 (by omega) (by omega)) ?_
     rintro e w2 ⟨u,rfl,hown,hx2⟩;exact ⟨_,rfl,hK _ _ hx2 (Q0t.weaken hown (Nat.zero_le _))⟩
    case g15=>
     intro v w1 hx (q2:v 2 = _) (q3:v 3 = _) (q4:v 4 = _) (q5:v 5 = _) (q6:v 6 = _) (q7:v 7 = _) (q8:v 8 = _) (q9:v 9 = _) (q10:v 10 = _) (q11:v 11 = _) (q12:v 12 = _) (q13:v 13 = _) (q14:(fun v w'=>Q0t w' 0 3 (.int .i64) (v 14) (Q2p b.basics.length a.basics.length 0 ml)) v w1);intro bb hbb;obtain ⟨s9,c9,e9,_⟩:=Q0t.shape q14;have o1:bb.eval (.tmp 102) = .string nm:=by rw [hbb]; dsimp only; (try simp (discharger:=decide) only [eval_put_ne]); rw [Q0a (by simp only [size_put]; exact (by decide:102 < 199))]; exact q3
     have o2:bb.eval (.tmp 104) = .int .i64 ch:=by rw [hbb]; dsimp only; (try simp (discharger:=decide) only [eval_put_ne]); rw [Q0a (by simp only [size_put]; exact (by decide:104 < 199))]; exact q5
     have o3:bb.eval (.tmp 113) = v 14:=by rw [hbb]; dsimp only; (try simp (discharger:=decide) only [eval_put_ne]); rw [Q0a (by simp only [size_put]; exact (by decide:113 < 199))]
     rw [e9] at o3;exact ⟨_,fun w=>Q5u _ (.tmp 102) (.tmp 104) (.tmp 113) rfl o1 o2 o3 (fun w=>Q2n w _ _ _ _ _),by show Value.agg #[.string nm,.int .i64 ch,.slice s9 _ c9] = Value.agg #[.string nm,.int .i64 ch,v 14]; rw [e9]⟩
    case g16=>
     intro v w1 hx (q2:v 2 = _) (q3:v 3 = _) (q4:v 4 = _) (q5:v 5 = _) (q6:v 6 = _) (q7:v 7 = _) (q8:v 8 = _) (q9:v 9 = _) (q10:v 10 = _) (q11:v 11 = _) (q12:v 12 = _) (q13:v 13 = _) (q14:(fun v w'=>Q0t w' 0 3 (.int .i64) (v 14) (Q2p b.basics.length a.basics.length 0 ml)) v w1) (q15:(fun v w'=>v 15 = .agg #[.string nm,.int .i64 ch,v 14]) v w1);intro bb hbb;intro K hK;obtain ⟨s9,c9,e9,_⟩:=Q0t.shape q14;have o1:bb.eval (.tmp 114) = .agg #[.string nm,.int .i64 ch,v 14]:=by rw [hbb]; dsimp only; (try simp (discharger:=decide) only [eval_put_ne]); rw [Q0a (by simp only [size_put]; exact (by decide:114 < 199))]; exact q15
     rw [e9] at o1;have hbl:Blk (w1.alloc (.cells (Value.agg #[.string nm,.int .i64 ch,.slice s9 (Q2p (b.basics.length:Int) a.basics.length 0 ml).length c9]).cells 106)) w1.heap.size 106 (enc3 (nm,ch,v 14)).toArray:=by rw [e9]; exact Blk.made _ _ _
     exact Q4x 30 106 (.tmp 114) rfl o1 (Q3r w1 _ _ _ _ _) (hK _ _ (Ext.box _ _) ⟨_,rfl,hbl⟩)
    case g17=>
     intro v w1 hx (q0:v 0 = _) (q1:v 1 = _) (q2:v 2 = _) (q3:v 3 = _) (q4:v 4 = _) (q5:v 5 = _) (q6:v 6 = _) (q7:v 7 = _) (q8:v 8 = _) (q9:v 9 = _) (q10:v 10 = _) (q11:v 11 = _) (q12:v 12 = _) (q13:v 13 = _) (q14:(fun v w'=>Q0t w' 0 3 (.int .i64) (v 14) (Q2p b.basics.length a.basics.length 0 ml)) v w1) _ (q16:(fun v w'=>∃ g,v 16 = .slice (some ⟨g,0,none⟩) 1 1 /\ Blk w' g 106 (enc3 (nm,ch,v 14)).toArray) v w1);intro wl hT;obtain rfl:wl = w1:=hT;intro bb hbb;intro K hK;obtain ⟨s9,c9,e9,_⟩:=Q0t.shape q14;obtain ⟨g,hg10,hb10⟩:=q16;have o1:bb.eval (.tmp 100) = .slice bG L.length cG:=by rw [hbb]; dsimp only; (try simp (discharger:=decide) only [eval_put_ne]); rw [Q0a (by simp only [size_put]; exact (by decide:100 < 199))]; exact q1
     have o2:bb.eval (.tmp 115) = .slice (some ⟨g,0,none⟩) 1 1:=by rw [hbb]; dsimp only; (try simp (discharger:=decide) only [eval_put_ne]); rw [Q0a (by simp only [size_put]; exact (by decide:115 < 199))]; exact hg10
     have hxx:=hdr.trans hx;exact Q9y _ _ 30 rfl M 106 ig (.agg #[.string emp,.int .i64 0,.slice none 0 0]) 3 48 Tryz.underlying30 hi hz0 hz1 hz2 rfl (by decide) enc3 Q0s _ L (nm,ch,v 14) o1 (HOW5.out.ext hxx) ⟨g,0,none⟩ o2 (Q7u hb10) (by rw [e9]; exact X7j) (by omega) (by decide) (by have:=hxx.size; omega) (fun v' w' h1 h2 h3=>hK _ _ ⟨h1,h2,h3⟩)
    case g18=>
     intro v w1 hx (q0:v 0 = _) (q1:v 1 = _) (q2:v 2 = _) (q3:v 3 = _) (q4:v 4 = _) (q5:v 5 = _) (q6:v 6 = _) (q7:v 7 = _) (q8:v 8 = _) (q9:v 9 = _) (q10:v 10 = _) (q11:v 11 = _) (q12:v 12 = _) (q13:v 13 = _) _ _ _;intro wl hT;replace hT:(fun v w1 w'=>Q1o w' M 106 3 enc3 (v 17) (L ++ [(nm,ch,v 14)]) /\ Keep 106 w1 w' /\ Below M w1 w') v w1 wl:=hT;intro bb hbb;subst hbb;intro K hK;go_simp;exact hK _ _ ⟨rfl,hT⟩
    case g19=>
     intro v w1 hx (q0:v 0 = _) (q1:v 1 = _) (q2:v 2 = _) (q3:v 3 = _) (q4:v 4 = _) (q5:v 5 = _) (q6:v 6 = _) (q7:v 7 = _) (q8:v 8 = _) (q9:v 9 = _) (q10:v 10 = _) (q11:v 11 = _) (q12:v 12 = _) (q13:v 13 = _) _ _ _;intro wl hT;replace hT:(fun v w1 w'=>v 18 = .pointer (some ⟨O,1,none⟩) /\ Q1o w' M 106 3 enc3 (v 17) (L ++ [(nm,ch,v 14)]) /\ Keep 106 w1 w' /\ Below M w1 w') v w1 wl:=hT;intro bb hbb;intro K hK;obtain ⟨hT0,hT1,hT2,hT3⟩:=hT;have hxx:=hdr.trans hx;obtain ⟨bp,cp,hsh,_⟩:=hT1.shape;have o1:bb.eval (.tmp 117) = .pointer (some ⟨O,1,none⟩):=by rw [hbb]; dsimp only; (try simp (discharger:=decide) only [eval_put_ne]); rw [Q0a (by simp only [size_put]; exact (by decide:117 < 199))]; exact hT0
     have o2:bb.eval (.tmp 116) = v 17:=by rw [hbb]; dsimp only; (try simp (discharger:=decide) only [eval_put_ne]); rw [Q0a (by simp only [size_put]; exact (by decide:116 < 199))]
     have hbl:=hT2 _ _ _ (by decide) (HBK5.out.ext hxx)
     exact Q3a _ _ rfl Tryz.Y7w (g:=O) (k:=1) o1 o2 (by rw [hsh]; rfl) (by rw [hsh]; rfl) hbl (by show 1 < 3; omega) (fun v'=>hK _ _ ⟨v 17,wl,hT1,hT2,hT3,rfl⟩)
    case post =>
     intro v w1 hx;(iterate 14 intro (zq:v _ = _));intro (q14:(fun v w'=>Q0t w' 0 3 (.int .i64) (v 14) (Q2p b.basics.length a.basics.length 0 ml)) v w1) (q15:(fun v w'=>v 15 = .agg #[.string nm,.int .i64 ch,v 14]) v w1) (q16:(fun v w'=>∃ g,v 16 = .slice (some ⟨g,0,none⟩) 1 1 /\ Blk w' g 106 (enc3 (nm,ch,v 14)).toArray) v w1);intro w2 hE;replace hE:(fun v w1 w'=>∃ x wm,Q1o wm M 106 3 enc3 x (L ++ [(nm,ch,v 14)]) /\ Keep 106 w1 wm /\ Below M w1 wm /\ w' = wm.setCell ⟨O,1,none⟩ x) v w1 w2:=hE;simp only [Flow.acts,Act.put];go_simp;obtain ⟨x,wm,hom,hkm,hbm,rfl⟩:=hE;have hxx:=hdr.trans hx;have hbO:=hkm _ _ _ (by decide) (HBK5.out.ext hxx)
     have hOM:O < M:=by have:=KO.out.lt; have:=HM.out; omega
     have hset:∀ n,n <= O -> Below n wm (wm.setCell ⟨O,1,none⟩ x):=fun n hn=>(Below.refl n _).setCell (p:=⟨O,1,none⟩) hn x;have hks:Keep 33 wm (wm.setCell ⟨O,1,none⟩ x):=Keep.store hbO fun _ hj=>Below.heap_setCell _ _ _ _ hj;obtain ⟨bp,cp,hsh,_⟩:=hom.shape;have HB6:=Lib.hid (hbO.set 1 x);have HO6:Hid (Y3u (wm.setCell ⟨O,1,none⟩ x) M 106 3 enc3 x (L ++ [(nm,ch,v 14)])):=Lib.hid (.inl (hom.setCell (p:=⟨O,1,none⟩) hOM x));have HT6:=Lib.hid ((((HTR5.out.ext hxx).keep (by decide) hkm).snoc nm ch (Q3x q14 (by decide) hkm)).keep (by decide) hks)
     have HX6:Hid (Ext W0 (wm.setCell ⟨O,1,none⟩ x)):=Lib.hid (Below.trans (Below.trans ((HX.out.trans HX5.out).trans hxx) (Below.mono hbm (by have:=HX0.out.size; have:=HM.out; omega))) (hset _ h0O))
     have HBT6:Hid (But O WB (wm.setCell ⟨O,1,none⟩ x)):=Lib.hid (⟨by have h1:=HBT.out.1; have h2:=HX5.out.size; have h3:=hxx.size; have h4:=hbm.size; have h5:=(hset 0 (Nat.zero_le _)).size; omega,fun c hc hne=>by
      have hcM:c < M:=by have:=HM.out; omega
      have hcr:c < wr.heap.size:=by omega
      rw [Below.heap_setCell _ _ _ _ hne,hbm.block c hcM,hxx.block c (by omega),HX5.out.block c hcr]
      exact HBT.out.2 c hc hne⟩)
     have etake:(a.causes ++ (b.causes.map (Q3m a.basics.length b.basics.length)).take (k + 1)).map Y4m = (a.causes ++ (b.causes.map (Q3m a.basics.length b.basics.length)).take k).map Y4m ++ [(nm,ch,Q2p b.basics.length a.basics.length 0 ml)]:=by
      rw [List.take_add_one,List.getElem?_eq_getElem (by simpa using hlt)]
      simp only [Option.toList_some,List.getElem_map,HGK.out,HG0.out,Q3m,List.map_append,List.append_assoc];rfl
     rw [<- etake] at HT6;rw [hsh] at HB6 HO6;obtain ⟨w6,hw6⟩:∃ y,wm.setCell ⟨O,1,none⟩ x = y:=⟨_,rfl⟩;rw [hw6] at HX6 HT6 HBT6 ⊢;rw [<- hsh,hw6,hsh] at HB6 HO6;obtain ⟨L6,hL6⟩:∃ y,L ++ [(nm,ch,v 14)] = y:=⟨_,rfl⟩;rw [hL6] at HB6 HO6 HT6;have hl6:L6.length = LC.length + (k + 1):=by rw [<- hL6,List.length_append,HLEN.out]; rfl
     clear hom hkm hbm hbO hset hks hsh hw6 hL6 etake hxx hx hdr q14 q15 q16;(repeat clear zq);go_wp2;go_roundw
     case rel=>exact ⟨k + 1,bp,cp,L6,by omega,by go_num,hl6,HB6.out,HO6.out,HT6.out,HBT6.out,HX6.out⟩
     case measure=>simp [intOf]; omega
  . obtain rfl:k = b.causes.length:=by omega
    have HTR2:Hid (Q8r wr L ((a.causes ++ b.causes.map (Q3m a.basics.length b.basics.length)).map Y4m)):=Lib.hid (by have h:=HTR.out; rw [List.take_of_length_le (by simp)] at h; exact h)
    clear HTR;go_upto_if 96 with fail
    go_step
    go_step
    go_step
    go_step
    go_step
    go_step
    have hgo:gx ≠ O:=by rintro rfl; exact absurd (HGX.out _ _ KO.out) (by decide)
    have hgx2:∀ S ds,Blk wr gx S ds -> S = 114:=fun S ds h=>HGX.out S ds (by unfold Blk at *; rw [<- HBT.out.2 gx HGS.out hgo]; exact h)
    have hkp:=HBT.out.keep KO.out;exact J4l W0 wr a b kind Ba Bb R Y O gx xa1 xb1 y1 _ Aa Ga Bbs Gb Ab bG Ag Gy ca cga cbb cgb cb cG L.length cgy L LG LY HST.out hsa hsg hab hnb HLG.out HIA.out HIN.out (HBT.out.blk KA.out hAO) (HBT.out.blk KB.out hBO) (HBT.out.blk KR.out hRO) (HBT.out.blk KY.out hYO) HBK.out (Q1k HVB.out (by decide) hkp) HOW.out.own HTR2.out (Q1k HVG.out (by decide) hkp) (HTG.out.keep (by decide) hkp) (Q1k HVY.out (by decide) hkp) (HTY.out.keep (by decide) hkp) HAG.out hgx2 h0g hRO hAO hBO hYO h0R h0O HX.out _ _ _ _ _ _ _ _ _ _ _ _ _ _ _ _ _ _ _ _ _ _ _ _ _ _ _ _ _ _ _ _ _ _ _ _ _ _ _ _ _ _ _ _ _ _ _ _ _ _ _ _ _ _ _ _ _ _ _ _ _ _ _ _ _ _ _ _ _ _ _ _ _ _ _ _ _ _ _ _ _ _ _ _ _ _ _ _ _ _ _ _ _ _ _ _ _ _ _ _ _ _ _ _ _ _ _ _ _ _ _ _ _ _ _ _ _ _ _ _ _ _ _ _ _ _ _ _ _ _ _ _ _ _ _ _ _ _ _ _ _ _ _ _ _ _ _ _ _ _ _ _ _ _ _ _ _ _ _ _ _ _ _ _ _ _ _ _ _ _ _ _ _ _ _ _ _ _ _ _ _ _ _ _ _ _ _ _ _ _ _ _ _
end Go.Proofs
