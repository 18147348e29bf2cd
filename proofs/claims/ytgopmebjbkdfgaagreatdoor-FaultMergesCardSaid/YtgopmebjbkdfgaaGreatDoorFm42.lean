/- The walk through Merge from region 26 on: the last gate, and the return. The walk through Merge from region 21 on: the gates of the second tree. -/
import Derived.Test.YtgopmebjbkdfgaaGreatDoorFm41
import Derived.Test.YtgopmebjbkdfgaaGreatDoorFm33
set_option maxRecDepth 1000000
set_option maxHeartbeats 64000000
set_option linter.unusedVariables false
set_option linter.unusedSimpArgs false
set_option linter.constructorNameAsVariable false
namespace Go.Proofs
open Go.RowKit Go.Tw Go.Flow
attribute [local go_sem ↓] Q2n Q4e Q2i Q3m
theorem X6x {w:World} {base:Nat} {T:TypeId} {v:Value} {l:List Basic} (h:Q1d w base T 2 Q8h v l) (hl:l.length <= 17592186043904) (hsh:∀ i,i < l.length -> Short (bName l i)):Q2j w v l:=by
 refine h.rows hl Q6k (fun x hx=>?_) (fun c c' x hc h=>?_)
 . obtain ⟨k,hk,rfl⟩:=List.getElem_of_mem hx
   have:=hsh k hk;unfold bName at this;rw [getD_at hk] at this;exact ⟨rfl,rfl,this⟩
 . obtain ⟨h1,h2,h3⟩:=h
   exact ⟨by rw [<- hc 0 (by omega)]; exact h1,by rw [<- hc 1 (by omega)]; exact h2,h3⟩
structure Q7k (t:Tree):Prop where
 b:∀ i,i < t.basics.length -> Short (bName t.basics i)
 c:∀ i,i < t.causes.length -> Short (cName t.causes i) /\ (Q0e t.causes i).length <= 17592186043904
 g:∀ i,i < t.gates.length -> Short (Q2f t.gates i) /\ (Q0i t.gates i).length <= 17592186043904
 f:Few t
theorem Y3r {w:World} {base:Nat} {t:Tree} {vb vc vg:Value} {LC LG:List (ByteArray × Int × Value)} (hs:Q7k t) (hb:Q1d w base 103 2 Q8h vb t.basics) (hc:Q1d w base 106 3 enc3 vc LC) (htc:Q6j w LC (t.causes.map X7n))
    (hg:Q1d w base 114 3 enc3 vg LG) (htg:Q6j w LG (t.gates.map X1c)):Q7a 33 w (.agg #[vb,vc,vg]) t:=fun w' hk =>
 ⟨_,_,_,rfl,X6x (Q0s hb (by decide) hk) (by have:=hs.f.b; omega) hs.b,(htc.keep (by decide) hk).causes (Q0s hc (by decide) hk) hs.f.c hs.c,(htg.keep (by decide) hk).gates (Q0s hg (by decide) hk) hs.f.g hs.g⟩
theorem Tryz.Y1c (w:World):(sizeOf 31).run Tryz.prog w = .ok 1 w:=by kernel_rfl
theorem Z4x (w:World) (x y:Int):Q0r (w.alloc (.cells #[.int .i64 x,.int .i64 y] 3)) 0 3 (.int .i64) (.slice (some ⟨w.heap.size,0,none⟩) 2 2) [x,y] :=
 ⟨rfl,.inr ⟨w.heap.size,2,_,rfl,Nat.zero_le _,heap_alloc_new w _,Nat.le_refl _,by unfold maxLen; omega,rfl,rfl⟩⟩
theorem Z9u (W0 WB:World) (a b:Tree) (kind:ByteArray) (M Bb R O:Nat) (xa xb:Value) (Gb Ab Ac Ag:Option Addr) (cgb cb cc cg nc:Nat) (LC LG:List (ByteArray × Int × Value))
    (hst:Q7k (Q0w a b kind)) (hsa:a.basics.length + b.basics.length <= 1000) (hsg:a.gates.length + b.gates.length <= 900) (hnb:0 < a.basics.length) (hlg:LG.length = a.gates.length + b.gates.length)
    (k4:Blk WB Bb 33 #[xa,xb,.slice Gb b.gates.length cgb]) (kR:Blk WB R 33 #[.slice none 0 0,.slice none 0 0,.slice none 0 0]) (kO:Blk WB O 33 #[.slice Ab (a.basics.length + b.basics.length) cb,.slice Ac nc cc,.slice Ag LG.length cg])
    (hvb:Q1d WB 0 103 2 Q8h (.slice Ab (a.basics.length + b.basics.length) cb) (a.basics ++ b.basics)) (hvc:Q1d WB 0 106 3 enc3 (.slice Ac nc cc) LC) (htc:Q6j WB LC ((a.causes ++ b.causes.map (Q3h a.basics.length b.basics.length)).map X7n))
    (hvg:Y0o WB M 114 3 enc3 (.slice Ag LG.length cg) LG) (htg:Q6j WB LG ((a.gates.map (Q1y a.basics.length b.basics.length) ++ b.gates.map (Q3k a.basics.length b.basics.length a.gates.length)).map X1c))
    (hRO:R ≠ O) (hMw:M <= WB.heap.size) (h0R:W0.heap.size <= R) (h0O:W0.heap.size <= O) (h0b:W0.heap.size <= M) (hx0:Ext W0 WB) (ua ub uc ud ue uf ug uh ui uj uk ul um un uo up uq ur us ut uu uv uw ux uy uz uA uB uC uD uE uF uG uH uI uJ uK uL uM uN uO uP uQ uR uS uT uU uV uW uX uY uZ u2 u4 u6 Ua Ub Uc Ud Ue Uf Ug Uh Ui Uj Uk Ul Um Un Uo Up Uq Ur Us Ut Uu Uv Uw Ux Uy Uz UA UB UC UD UE UF UG UH UI UJ UK UL UM UN UO UP UQ UR US UT UU UV UW UX UY UZ U0 U1 U2 U3 U4 U5 U6 U7 U8 U9 ya yb yc yd ye yf yg yh yi yj yk yl ym yn yo yp yq yr ys yt yu yv yw yx yy yz yA yB yC yD yE yF yG yH yI yJ yK yL yM yN yO yP yQ yR yS yT yU yV yW yX yY yZ y0 y1 y2 y3 y4 y5 y6 y7 y8 y9 Ya Yb Yc Yd Ye Yf Yg Yh Yi Yj Yk Yl Ym Yn Yo Yp:Value) :
    (codeFrom Tryz.f9 26).wp Tryz.prog (bodyPost Tryz.prog Tryz.f9 (fun e w'=>∃ u,e = .returned (.tuple #[u,.int .i64 0]) /\ Q7a 33 w' u (Q0w a b kind) /\ Ext W0 w')) ⟨#[ua,ub,.string kind,uc,.pointer (some ⟨Bb,0,none⟩),ud,.pointer (some ⟨R,0,none⟩),ue,uf,ug,uh,ui,uj,.pointer (some ⟨O,0,none⟩),uk,ul,um,un,uo,up,uq,ur,us,ut,uu,uv,uw,ux,uy,uz,uA,uB,uC,uD,uE,uF,uG,uH,uI,uJ,uK,uL,uM,uN,uO,uP,uQ,uR,uS,uT,uU,uV,uW,uX,uY,uZ,u2,u4,u6,Ua,Ub,Uc,Ud,Ue,Uf,Ug,Uh,Ui,Uj,Uk,Ul,Um,Un,Uo,Up,Uq,Ur,Us,Ut,Uu,Uv,Uw,Ux,Uy,Uz,UA,UB,UC,UD,UE,UF,UG,UH,UI,UJ,UK,UL,UM,UN,UO,UP,UQ,UR,US,UT,UU,UV,UW,UX,UY,UZ,U0,U1,U2,U3,U4,U5,U6,U7,U8,U9,ya,yb,yc,yd,ye,yf,yg,yh,yi,yj,yk,yl,ym,yn,yo,yp,yq,yr,ys,yt,yu,yv,yw,yx,yy,yz,yA,yB,yC,yD,yE,yF,yG,yH,yI,yJ,yK,yL,yM,yN,yO,yP,yQ,yR,yS,yT,yU,yV,yW,yX,yY,yZ,y0,y1,y2,y3,y4,y5,y6,y7,y8,y9,Ya,Yb,Yc,Yd,Ye,Yf,Yg,Yh,Yi,Yj,Yk,Yl,Ym,Yn,Yo,Yp],[]⟩ WB:=by
 conv=>arg 2; whnf
 obtain ⟨nB,hnB⟩:∃ n,a.basics.length + b.basics.length = n:=⟨_,rfl⟩;have HMT:Hid (Q6n a b = (nB:Int) + LG.length - 1):=Lib.hid (by unfold Q6n; omega)
 have HNB:=Lib.hid hnB;rw [hnB] at hsa kO hvb;have hnB0:0 < nB:=by omega
 have c0:=kO.cell 0;have c1:=kO.cell 1;have c2:=kO.cell 2;have d2:=k4.cell 2;simp only [Go.Tw.gA,Go.Tw.gB,Go.Tw.gC] at c0 c1 c2 d2;obtain ⟨ig,hi,hz0,hz1,hz2⟩:=info_parts Tryz.Z4s;have hlg2:LG.length <= 900:=by omega
 have hgb:b.gates.length <= 900:=by omega
 obtain ⟨q,hq⟩:∃ x:Int,(nB:Int) + LG.length - 1 = x:=⟨_,rfl⟩;obtain ⟨p,hp⟩:∃ x:Int,q - b.gates.length = x:=⟨_,rfl⟩;have hq1:0 <= q:=by omega
 have hq2:q <= 2000:=by omega
 rw [hq] at HMT;have HP:=Lib.hid hp;have HLG:=Lib.hid hlg;have HST:=Lib.hid hst;have HVB:=Lib.hid hvb;have HVC:=Lib.hid hvc;have HTC:=Lib.hid htc;have HVG:=Lib.hid hvg;have HTG:=Lib.hid htg;have KR:=Lib.hid kR;have KO:=Lib.hid kO;have HX0:=Lib.hid hx0;clear hlg hst hvb hvc htc hvg htg kR k4 hnB kO hx0;go_upto_region 27 with fail;clear hq;have hxi:=Ext.box WB (.cells #[.int .i64 p,.int .i64 q] 3);have hxg:=Ext.box (WB.alloc (.cells #[.int .i64 p,.int .i64 q] 3)) (.cells #[.string kind,.int .i64 0,.slice (some ⟨WB.heap.size,0,none⟩) 2 2] 114);have HOI:=Lib.hid (((Z4x WB p q).below hxg));have HX2:=Lib.hid (hxi.trans hxg);have hsz1:(WB.alloc (.cells #[.int .i64 p,.int .i64 q] 3)).heap.size = WB.heap.size + 1:=by simp
 have HGB:=Lib.hid (Blk.made (WB.alloc (.cells #[.int .i64 p,.int .i64 q] 3)) 114 #[.string kind,.int .i64 0,.slice (some ⟨WB.heap.size,0,none⟩) 2 2]);rw [hsz1] at HGB;clear hxi hxg hsz1;go_upto_region 28 with (at_builtin; refine Q4n (o:=⟨some 196,_,_,_,_,_⟩) rfl ?_; refine Q9j (.tmp 185) (.tmp 195) 31 rfl M 114 ig (.agg #[.string emp,.int .i64 0,.slice none 0 0]) 3 48 Tryz.underlying31 hi hz0 hz1 hz2 rfl (by decide) enc3 Q0o _ LG (kind,0,.slice (some ⟨WB.heap.size,0,none⟩) 2 2) rfl (HVG.out.ext HX2.out) ⟨WB.heap.size + 1,0,none⟩ rfl (Q5h HGB.out) (by intro u hu; simp only [enc3,List.mem_cons,List.not_mem_nil,or_false] at hu; rcases hu with rfl | rfl | rfl <;> rfl) (by show LG.length <= 99999; omega) (by decide) (Nat.le_trans hMw HX2.out.size) ?_; intro v9 w9 hown9 hk9 hbl9; refine halted ?_)
 have HX9:Hid (Ext W0 w9):=Lib.hid (Below.trans (HX0.out.trans HX2.out) (Below.mono hbl9 h0b));have HVB9:=Lib.hid (Q0s (HVB.out.below HX2.out) (by decide) hk9)
 have HVC9:=Lib.hid (Q0s (HVC.out.below HX2.out) (by decide) hk9)
 have HTC9:=Lib.hid ((HTC.out.ext HX2.out).keep (by decide) hk9)
 have HTG9:=Lib.hid (((HTG.out.ext HX2.out).keep (by decide) hk9).snoc kind 0 (Q3l HOI.out (by decide) hk9))
 have KR9:=Lib.hid (hk9 _ _ _ (by decide) (KR.out.ext HX2.out))
 have KO9:=Lib.hid (hk9 _ _ _ (by decide) (KO.out.ext HX2.out))
 have HVG9:=Lib.hid hown9;obtain ⟨bG,cG,hsh,_⟩:=hown9.shape;rw [hsh] at HVG9 ⊢;clear hown9 hbl9 hk9 hsh c0 c1 c2 d2 HVB HVC HVG HTC HTG KR KO HOI;have hlg9:(LG ++ [(kind,(0:Int),Value.slice (some ⟨WB.heap.size,0,none⟩) 2 2)]).length = LG.length + 1:=by simp
 rw [hlg9] at HVG9 ⊢;clear hlg9;unfold Q3g;go_upto_region 28 with (refine Q1n rfl _ _ 31 rfl Tryz.Y1c (u:=.slice bG (LG.length + 1) cG) (g:=O) (k:=2) rfl rfl rfl rfl KO9.out (by show 2 < 3; omega) ?_; intro w10 hb10 hl10 ho10; refine halted ?_)
 have hk10:=Keep.store KO9.out ho10;have HX10:Hid (Ext W0 w10):=Lib.hid (Below.trans HX9.out (hl10 _ h0O));have HB10:Hid (Blk w10 O 33 #[.slice Ab nB cb,.slice Ac nc cc,.slice bG (LG.length + 1) cG]):=Lib.hid (hb10);have KR10:=Lib.hid (KR9.out.only hRO ho10);have HK10:=Lib.hid hk10;clear hb10 hl10 ho10 hk10;unfold Q3g;go_wp2_with (first | (refine Q0j rfl _ 33 rfl Tryz.Q2h Tryz.Q0u rfl HB10.out rfl ?_) | (refine Q0d rfl _ _ 33 rfl Tryz.Q0u rfl rfl KR10.out rfl rfl ?_ ?_; (focus (intro u hu; simp only [List.mem_cons,List.not_mem_nil,or_false] at hu; rcases hu with rfl | rfl | rfl <;> rfl)); intro w11 hb11 hl11 ho11))
 have hk:=HK10.out.trans (Keep.store KR10.out ho11);refine bodyPost_ret (Q0n Tryz.results9 rfl hb11 Tryz.Q2h Tryz.Q0u rfl) rfl ?_;refine ⟨_,rfl,?_,Below.trans HX10.out (hl11 _ h0R)⟩;have e:(Q0w a b kind).gates.map X1c = ((a.gates.map (Q1y a.basics.length b.basics.length) ++ b.gates.map (Q3k a.basics.length b.basics.length a.gates.length)).map X1c) ++ [(kind,0,[p,q])]:=by
  unfold Q0w;rw [List.map_append,HMT.out,HP.out];rfl
 exact Y3r HST.out (Q0s HVB9.out (by decide) hk) (Q0s HVC9.out (by decide) hk) (HTC9.out.keep (by decide) hk) (Q0s (Q2q HVG9.out (Nat.zero_le _)) (by decide) hk) (by rw [e]; exact HTG9.out.keep (by decide) hk)
end Go.Proofs
namespace Go.Proofs
open Go.RowKit Go.Tw Go.Flow
attribute [local go_sem ↓] Q2n Q4e Q2i Q3m
def But (O:Nat) (w w':World):Prop:=w.heap.size <= w'.heap.size /\ ∀ b,b < w.heap.size -> b ≠ O -> w'.heap[b]? = w.heap[b]?
theorem But.blk {O:Nat} {w w':World} (h:But O w w') {b:Nat} {T:TypeId} {cs:Array Value} (hb:Blk w b T cs) (hne:b ≠ O):Blk w' b T cs:=by
 have hl:=hb.lt;unfold Blk at *;rw [h.2 b hl hne]; exact hb
theorem But.keep {O:Nat} {T:TypeId} {cs:Array Value} {w w':World} (h:But O w w') (hO:Blk w O T cs):Keep T w w':=fun _ _ _ hS hb=>h.blk hb (Q2a hb hO hS)
theorem But.refl (O:Nat) (w:World):But O w w:=⟨Nat.le_refl _,fun _ _ _=>rfl⟩
theorem Z9r (W0 WB:World) (a b:Tree) (kind:ByteArray) (Ba Bb R Y O:Nat) (xa1 xb1 y1 y2:Value) (Aa Ga Bbs Gb Ab Ac Ag Gy:Option Addr) (ca cga cbb cgb cb cc nc cgy:Nat) (LC LG LY:List (ByteArray × Int × Value))
    (hst:Q7k (Q0w a b kind)) (hsa:a.basics.length + b.basics.length <= 900) (hsg:a.gates.length + b.gates.length <= 900) (hab:a.basics.length + a.gates.length <= 900) (hnb:0 < a.basics.length) (hlg:LG.length = a.gates.length)
    (hin:∀ k,k < b.gates.length -> (Q0i b.gates k).length <= 1000 /\ ∀ x ∈ Q0i b.gates k,0 <= x /\ x < 1000)
    (k3:Blk WB Ba 33 #[.slice Aa a.basics.length ca,xa1,.slice Ga a.gates.length cga]) (k4:Blk WB Bb 33 #[.slice Bbs b.basics.length cbb,xb1,.slice Gb b.gates.length cgb])
    (kR:Blk WB R 33 #[.slice none 0 0,.slice none 0 0,.slice none 0 0]) (kY:Blk WB Y 33 #[y1,y2,.slice Gy b.gates.length cgy]) (kO:Blk WB O 33 #[.slice Ab (a.basics.length + b.basics.length) cb,.slice Ac nc cc,.slice Ag LG.length LG.length])
    (hvb:Q1d WB 0 103 2 Q8h (.slice Ab (a.basics.length + b.basics.length) cb) (a.basics ++ b.basics)) (hvc:Q1d WB 0 106 3 enc3 (.slice Ac nc cc) LC) (htc:Q6j WB LC ((a.causes ++ b.causes.map (Q3h a.basics.length b.basics.length)).map X7n))
    (hvg:Q1d WB 0 114 3 enc3 (.slice Ag LG.length LG.length) LG) (htg:Q6j WB LG ((a.gates.map (Q1y a.basics.length b.basics.length)).map X1c))
    (hvy:Q1d WB 0 114 3 enc3 (.slice Gy b.gates.length cgy) LY) (hty:Q6j WB LY (b.gates.map X1c))
    (hRO:R ≠ O) (hAO:Ba ≠ O) (hBO:Bb ≠ O) (hYO:Y ≠ O) (h0R:W0.heap.size <= R) (h0O:W0.heap.size <= O) (hx0:Ext W0 WB) (ua ub uc ud ue uf ug uh ui uj uk ul um un uo up uq ur us ut uu uv uw ux uy uz uA uB uC uD uE uF uG uH uI uJ uK uL uM uN uO uP uQ uR uS uT uU uV uW uX uY uZ u2 u3 u4 u6 Ua Ub Uc Ud Ue Uf Ug Uh Ui Uj Uk Ul Um Un Uo Up Uq Ur Us Ut Uu Uv Uw Ux Uy Uz UA UB UC UD UE UF UG UH UI UJ UK UL UM UN UO UP UQ UR US UT UU UV UW UX UY UZ U0 U1 U2 U3 U4 U5 U6 U7 U8 U9 ya yb yc yd ye yf yg yh yi yj yk yl ym yn yo yp yq yr ys yt yu yv yw yx yy yz yA yB yC yD yE yF yG yH yI yJ yK yL yM yN yO yP yQ yR yS yT yU yV yW yX yY yZ y0 y3 y4 y5 y6 y7 y8 y9 Ya Yb Yc Yd Ye Yf Yg Yh Yi Yj Yk Yl Ym Yn Yo:Value) :
    (codeFrom Tryz.f9 21).wp Tryz.prog (bodyPost Tryz.prog Tryz.f9 (fun e w'=>∃ u,e = .returned (.tuple #[u,.int .i64 0]) /\ Q7a 33 w' u (Q0w a b kind) /\ Ext W0 w')) ⟨#[ua,ub,.string kind,.pointer (some ⟨Ba,0,none⟩),.pointer (some ⟨Bb,0,none⟩),uc,.pointer (some ⟨R,0,none⟩),ud,ue,uf,ug,uh,.pointer (some ⟨Y,0,none⟩),.pointer (some ⟨O,0,none⟩),ui,uj,uk,ul,um,un,uo,up,uq,ur,us,ut,uu,uv,uw,ux,uy,uz,uA,uB,uC,uD,uE,uF,uG,uH,uI,uJ,uK,uL,uM,uN,uO,uP,uQ,uR,uS,uT,uU,uV,uW,uX,uY,uZ,u2,u3,u4,u6,Ua,Ub,Uc,Ud,Ue,Uf,Ug,Uh,Ui,Uj,Uk,Ul,Um,Un,Uo,Up,Uq,Ur,Us,Ut,Uu,Uv,Uw,Ux,Uy,Uz,UA,UB,UC,UD,UE,UF,UG,UH,UI,UJ,UK,UL,UM,UN,UO,UP,UQ,UR,US,UT,UU,UV,UW,UX,UY,UZ,U0,U1,U2,U3,U4,U5,U6,U7,U8,U9,ya,yb,yc,yd,ye,yf,yg,yh,yi,yj,yk,yl,ym,yn,yo,yp,yq,yr,ys,yt,yu,yv,yw,yx,yy,yz,yA,yB,yC,yD,yE,yF,yG,yH,yI,yJ,yK,yL,yM,yN,yO,yP,yQ,yR,yS,yT,yU,yV,yW,yX,yY,yZ,y0,y3,y4,y5,y6,y7,y8,y9,Ya,Yb,Yc,Yd,Ye,Yf,Yg,Yh,Yi,Yj,Yk,Yl,Ym,Yn,Yo],[]⟩ WB:=by
 conv=>arg 2; whnf
 have c2:=kY.cell 2;simp only [Go.Tw.gA,Go.Tw.gB,Go.Tw.gC] at c2;obtain ⟨ig,hi,hz0,hz1,hz2⟩:=info_parts Tryz.Z4s;have HST:=Lib.hid hst;have HIN:=Lib.hid hin;have KA:=Lib.hid k3;have KB:=Lib.hid k4;have KR:=Lib.hid kR;have KO:=Lib.hid kO;have HVB:=Lib.hid hvb;have HVC:=Lib.hid hvc;have HTC:=Lib.hid htc;have HVY:=Lib.hid hvy;have HTY:=Lib.hid hty;have HLG:=Lib.hid hlg;have hlyl:LY.length = b.gates.length:=by rw [hty.1,List.length_map]
 have HLY:=Lib.hid hlyl;have hstart:Y0o WB WB.heap.size 114 3 enc3 (.slice Ag LG.length LG.length) LG:=.inr ⟨hvg,_,rfl⟩;obtain ⟨M,hM⟩:∃ n,WB.heap.size = n:=⟨_,rfl⟩;have HM:=Lib.hid hM;rw [hM] at hstart;have HS0:=Lib.hid hstart;have HTG:=Lib.hid htg;have HX0:=Lib.hid hx0;clear hst hin k3 k4 kR kY kO hvb hvc htc hvg htg hvy hty hlg hlyl hstart hM hx0;go_wp2;clear c2
 go_loopw [145] (fun i wr=>∃ (k:Nat) (bG:Option Addr) (cG:Nat) (L:List (ByteArray × Int × Value)),k <= b.gates.length /\ i = .int .i64 k /\ L.length = LG.length + k /\ Blk wr O 33 #[.slice Ab (a.basics.length + b.basics.length) cb,.slice Ac nc cc,.slice bG L.length cG] /\ Y0o wr M 114 3 enc3 (.slice bG L.length cG) L /\ Q6j wr L ((a.gates.map (Q1y a.basics.length b.basics.length) ++ (b.gates.map (Q3k a.basics.length b.basics.length a.gates.length)).take k).map X1c) /\ But O WB wr /\ Ext W0 wr) (fun i _=>b.gates.length - (intOf i).toNat)
 case atStart=>exact ⟨0,Ag,LG.length,LG,Nat.zero_le _,rfl,rfl,KO.out,HS0.out,by simpa using HTG.out,But.refl _ _,HX0.out⟩
 case round =>
  obtain ⟨k,bG,cG,L,hk,rfl,hlen,hblk,hown,htri,hbut,hx⟩:=hrel;have HLEN:=Lib.hid hlen;have HBK:=Lib.hid hblk;have HOW:=Lib.hid hown;have HTR:=Lib.hid htri;have HBT:=Lib.hid hbut;have HX:=Lib.hid hx;clear hlen hblk hown htri hbut hx
  by_cases hlt:k < b.gates.length
  . skip
    have hkl:k < LY.length:=by rw [HLY.out]; exact hlt
    obtain ⟨gy,cpy,cury,hey,_,hby,_,_,_,htky⟩:=Q7m HVY.out (by omega)
    rw [HLY.out] at hey;injection hey with hey1 _ hey3;subst hey1 hey3;obtain ⟨t1,t2,t3⟩:=HTY.out.2 k hkl (by rw [List.length_map]; exact hlt)
    have hin:=HIN.out k hlt;unfold Q0i at hin;rw [getD_at hlt] at hin;obtain ⟨g0,hg0⟩:∃ x,b.gates[k] = x:=⟨_,rfl⟩;simp only [List.getElem_map,X1c] at t1 t2 t3;rw [hg0] at t1 t2 t3 hin;have hby2:=HBT.out.blk hby (Q2a hby KO.out (by decide))
    have e0:=Q5e Q0o hby2 htky hkl (j:=0) (by omega)
    have e1:=Q5e Q0o hby2 htky hkl (j:=1) (by omega)
    have e2:=Q5e Q0o hby2 htky hkl (j:=2) (by omega)
    simp only [enc3,List.getElem?_cons_zero,List.getElem?_cons_succ,Nat.add_zero] at e0 e1 e2;obtain ⟨A3,cap3,e9,_⟩:=Q0r.shape t3;rw [t1] at e0;rw [t2] at e1;rw [e9] at e2;have hyr:=Q3l t3 (by decide) (HBT.out.keep KO.out)
    rw [e9] at hyr;have hle:g0.inputs.length <= 1000:=hin.1;obtain ⟨nm,hnm⟩:∃ x,g0.kind = x:=⟨_,rfl⟩;obtain ⟨ch,hch⟩:∃ x,g0.need = x:=⟨_,rfl⟩;obtain ⟨ml,hml⟩:∃ x,g0.inputs = x:=⟨_,rfl⟩;rw [hnm] at e0;rw [hch] at e1;rw [hml] at e2 hyr hin hle;have HG0:Hid (g0 = ⟨nm,ch,ml⟩):=Lib.hid (by rw [<- hnm,<- hch,<- hml])
    have HGK:=Lib.hid hg0;have HMI:=Lib.hid hin;have xb:=Ext.box wr (.cells #[.string nm,.int .i64 ch,.slice A3 ml.length cap3] 114);have kb:=Blk.made wr 114 #[.string nm,.int .i64 ch,.slice A3 ml.length cap3];have HM2:=Lib.hid ((hyr.below xb).ints (by omega))
    have HOW5:=Lib.hid (HOW.out.ext xb);have HBK5:=Lib.hid (HBK.out.ext xb);have HTR5:=Lib.hid (HTR.out.ext xb);have KA5:=Lib.hid ((HBT.out.blk KA.out hAO).ext xb);have KB5:=Lib.hid ((HBT.out.blk KB.out hBO).ext xb);have hOl:=HBK.out.lt;have hkI:(k:Int) < b.gates.length:=by omega
    have hMr:M <= wr.heap.size:=by rw [<- HM.out]; exact HBT.out.1
    have hLl:L.length <= 900:=by have:=HLEN.out; have:=HLG.out; omega
    have hadd:IntKind.i64.wrap ((a.basics.length:Int) + (a.gates.length:Int)) = (a.basics.length:Int) + (a.gates.length:Int):=wrap_in (by omega) (by omega)
    clear hin hnm hch hml hg0 hyr t1 t2 t3 hby hby2 htky hkl e9 xb HOW HTR
    go_light
    go_wp2;obtain ⟨W5,hW5⟩:∃ X,wr.alloc (.cells #[.string nm,.int .i64 ch,.slice A3 ml.length cap3] 114) = X:=⟨_,rfl⟩;have hs5:W5.heap.size = wr.heap.size + 1:=by rw [<- hW5]; simp
    have HX5:Hid (Ext wr W5):=Lib.hid (by rw [<- hW5]; exact Ext.box wr _)
    rw [hW5] at HM2 HOW5 HBK5 HTR5 KA5 KB5 kb ⊢;have KG:=Lib.hid kb;have hdr:=(Ext.refl W5).drew;clear hW5 kb e0 e1 e2;refine Flow.Q4f [.p,.w,.p,.w,.p,.w,.p,.w,.p,.w,.p,.p,.w,.p,.p,.w,.p,.p,.w,.p,.p,.w,.p,.w,.last,.last,.last] [0,1,2,3,4,5,6,7,8,9,10,11,12,13,14,15,16,17,18,19,20,21,22,23,24,25,26] [[],[0],[],[2],[],[4],[],[6],[],[8],[8,9],[],[11],[11,12],[],[14],[14,15],[],[17],[17,18],[14,15,16,17,18,19],[6,7,8,9,10,11,12,13,14,15,16,17,18,19,20],[2,3,4,5,6,7,8,9,10,11,12,13,14,15,16,17,18,19,20,21],[2,3,4,5,6,7,8,9,10,11,12,13,14,15,16,17,18,19,20,21,22],[0,1,2,3,4,5,6,7,8,9,10,11,12,13,14,15,16,17,18,19,20,21,22,23],[0,1,2,3,4,5,6,7,8,9,10,11,12,13,14,15,16,17,18,19,20,21,22,23,24],[0,1,2,3,4,5,6,7,8,9,10,11,12,13,14,15,16,17,18,19,20,21,22,23,24,25]] [24,25,26]
     [.c 0 (.pointer (some ⟨O,2,none⟩)),.c 1 (.slice bG L.length cG),.c 2 (.pointer (some ⟨wr.heap.size,0,none⟩)),.c 3 (.string nm),.c 4 (.pointer (some ⟨wr.heap.size,1,none⟩)),.c 5 (.int .i64 ch),.c 6 (.pointer (some ⟨wr.heap.size,2,none⟩)),.c 7 (.slice A3 ml.length cap3),.c 8 (.pointer (some ⟨Bb,0,none⟩)),.c 9 (.slice Bbs b.basics.length cbb),.c 10 (.int .i64 ((b.basics.length:Nat):Int)),.c 11 (.pointer (some ⟨Ba,0,none⟩)),.c 12 (.slice Aa a.basics.length ca),.c 13 (.int .i64 ((a.basics.length:Nat):Int)),.c 14 (.pointer (some ⟨Ba,0,none⟩)),.c 15 (.slice Aa a.basics.length ca),.c 16 (.int .i64 ((a.basics.length:Nat):Int)),.c 17 (.pointer (some ⟨Ba,2,none⟩)),.c 18 (.slice Ga a.gates.length cga),.c 19 (.int .i64 ((a.gates.length:Nat):Int)),.c 20 (.int .i64 ((a.basics.length:Int) + (a.gates.length:Int))),⟨fun v wz=>(fun v w'=>Q0r w' 0 3 (.int .i64) (v 21) (Q3d b.basics.length a.basics.length (a.basics.length + a.gates.length) ml)) v wz,fun _ _ _ hx h=>Q0r.below h hx⟩,⟨fun v wz=>(fun v w'=>v 22 = .agg #[.string nm,.int .i64 ch,v 21]) v wz,by intro _ _ _ _ h; exact h⟩,⟨fun v wz=>(fun v w'=>∃ g,v 23 = .slice (some ⟨g,0,none⟩) 1 1 /\ Blk w' g 114 (enc3 (nm,ch,v 21)).toArray) v wz,by rintro v a b hx ⟨g,h1,h2⟩; exact ⟨g,h1,h2.ext hx⟩⟩,.none,.none,.none]
     [fun v w1 w'=>Q1d w' M 114 3 enc3 (v 24) (L ++ [(nm,ch,v 21)]) /\ Keep 114 w1 w' /\ Below M w1 w',fun v w1 w'=>v 25 = .pointer (some ⟨O,2,none⟩) /\ Q1d w' M 114 3 enc3 (v 24) (L ++ [(nm,ch,v 21)]) /\ Keep 114 w1 w' /\ Below M w1 w',fun v w1 w'=>∃ x wm,Q1d wm M 114 3 enc3 x (L ++ [(nm,ch,v 21)]) /\ Keep 114 w1 wm /\ Below M w1 wm /\ w' = wm.setCell ⟨O,2,none⟩ x] (by kernel_rfl) rfl (by kernel_rfl) ⟨?g0,?g1,?g2,?g3,?g4,?g5,?g6,?g7,?g8,?g9,?g10,?g11,?g12,?g13,?g14,?g15,?g16,?g17,?g18,?g19,?g20,?g21,?g22,?g23,?g24,?g25,?g26,trivial⟩ ?post
    case g0 | g2 | g4 | g6 | g8 | g11 | g14 | g17=>
     intro v w1 hx;intro bb hbb;subst hbb;refine ⟨_,fun w=>?_,rfl⟩;go_simp
    case g1 | g3 | g5 | g7 | g9 | g12 | g15 | g18=>
     intro v w1 hx;(repeat intro (zq:v _ = _));intro bb hbb;subst hbb;have n0:w1.cell? ⟨O,2,none⟩ = some (.slice bG L.length cG):=(HBK5.out.ext (hdr.trans hx)).cell 2;have n1:w1.cell? ⟨wr.heap.size,0,none⟩ = some (.string nm):=(KG.out.ext (hdr.trans hx)).cell 0;have n2:w1.cell? ⟨wr.heap.size,1,none⟩ = some (.int .i64 ch):=(KG.out.ext (hdr.trans hx)).cell 1;have n3:w1.cell? ⟨wr.heap.size,2,none⟩ = some (.slice A3 ml.length cap3):=(KG.out.ext (hdr.trans hx)).cell 2;have n4:w1.cell? ⟨Bb,0,none⟩ = some (.slice Bbs b.basics.length cbb):=(KB5.out.ext (hdr.trans hx)).cell 0;have n5:w1.cell? ⟨Ba,0,none⟩ = some (.slice Aa a.basics.length ca):=(KA5.out.ext (hdr.trans hx)).cell 0;have n6:w1.cell? ⟨Ba,2,none⟩ = some (.slice Ga a.gates.length cga):=(KA5.out.ext (hdr.trans hx)).cell 2;intro K hK;go_simp;exact hK _ _ (Ext.refl _) rfl
    case g10 | g13 | g16 | g19 | g20=>
     intro v w1 hx;(repeat intro (zq:v _ = _));intro bb hbb;subst hbb;refine ⟨_,fun w=>?_,rfl⟩;go_simp
    case g21=>
     intro v w1 hx;(repeat intro (zq:v _ = _));intro bb hbb;subst hbb;intro K hK;go_simp;refine Q0c (X6g w1 _ ml _ _ _ (HM2.out.ext (hdr.trans hx)) (by omega) HMI.out.2 (by omega) (by omega)) ?_
     rintro e w2 ⟨u,rfl,hown,hx2⟩;exact ⟨_,rfl,hK _ _ hx2 (Q0r.weaken hown (Nat.zero_le _))⟩
    case g22=>
     intro v w1 hx (q2:v 2 = _) (q3:v 3 = _) (q4:v 4 = _) (q5:v 5 = _) (q6:v 6 = _) (q7:v 7 = _) (q8:v 8 = _) (q9:v 9 = _) (q10:v 10 = _) (q11:v 11 = _) (q12:v 12 = _) (q13:v 13 = _) (q14:v 14 = _) (q15:v 15 = _) (q16:v 16 = _) (q17:v 17 = _) (q18:v 18 = _) (q19:v 19 = _) (q20:v 20 = _) (q21:(fun v w'=>Q0r w' 0 3 (.int .i64) (v 21) (Q3d b.basics.length a.basics.length (a.basics.length + a.gates.length) ml)) v w1);intro bb hbb;obtain ⟨s9,c9,e9,_⟩:=Q0r.shape q21;have o1:bb.eval (.tmp 152) = .string nm:=by rw [hbb]; dsimp only; (try simp (discharger:=decide) only [eval_put_ne]); rw [Q0a (by simp only [size_put]; exact (by decide:152 < 199))]; exact q3
     have o2:bb.eval (.tmp 154) = .int .i64 ch:=by rw [hbb]; dsimp only; (try simp (discharger:=decide) only [eval_put_ne]); rw [Q0a (by simp only [size_put]; exact (by decide:154 < 199))]; exact q5
     have o3:bb.eval (.tmp 170) = v 21:=by rw [hbb]; dsimp only; (try simp (discharger:=decide) only [eval_put_ne]); rw [Q0a (by simp only [size_put]; exact (by decide:170 < 199))]
     rw [e9] at o3;exact ⟨_,fun w=>Q3v _ (.tmp 152) (.tmp 154) (.tmp 170) rfl o1 o2 o3 (fun w=>Q2n w _ _ _ _ _),by show Value.agg #[.string nm,.int .i64 ch,.slice s9 _ c9] = Value.agg #[.string nm,.int .i64 ch,v 21]; rw [e9]⟩
    case g23=>
     intro v w1 hx (q2:v 2 = _) (q3:v 3 = _) (q4:v 4 = _) (q5:v 5 = _) (q6:v 6 = _) (q7:v 7 = _) (q8:v 8 = _) (q9:v 9 = _) (q10:v 10 = _) (q11:v 11 = _) (q12:v 12 = _) (q13:v 13 = _) (q14:v 14 = _) (q15:v 15 = _) (q16:v 16 = _) (q17:v 17 = _) (q18:v 18 = _) (q19:v 19 = _) (q20:v 20 = _) (q21:(fun v w'=>Q0r w' 0 3 (.int .i64) (v 21) (Q3d b.basics.length a.basics.length (a.basics.length + a.gates.length) ml)) v w1) (q22:(fun v w'=>v 22 = .agg #[.string nm,.int .i64 ch,v 21]) v w1);intro bb hbb;intro K hK;obtain ⟨s9,c9,e9,_⟩:=Q0r.shape q21;have o1:bb.eval (.tmp 171) = .agg #[.string nm,.int .i64 ch,v 21]:=by rw [hbb]; dsimp only; (try simp (discharger:=decide) only [eval_put_ne]); rw [Q0a (by simp only [size_put]; exact (by decide:171 < 199))]; exact q22
     rw [e9] at o1;have hbl:Blk (w1.alloc (.cells (Value.agg #[.string nm,.int .i64 ch,.slice s9 (Q3d (b.basics.length:Int) a.basics.length (a.basics.length + a.gates.length) ml).length c9]).cells 114)) w1.heap.size 114 (enc3 (nm,ch,v 21)).toArray:=by rw [e9]; exact Blk.made _ _ _
     exact Q2w 31 114 (.tmp 171) rfl o1 (Q4e w1 _ _ _ _ _) (hK _ _ (Ext.box _ _) ⟨_,rfl,hbl⟩)
    case g24=>
     intro v w1 hx (q0:v 0 = _) (q1:v 1 = _) (q2:v 2 = _) (q3:v 3 = _) (q4:v 4 = _) (q5:v 5 = _) (q6:v 6 = _) (q7:v 7 = _) (q8:v 8 = _) (q9:v 9 = _) (q10:v 10 = _) (q11:v 11 = _) (q12:v 12 = _) (q13:v 13 = _) (q14:v 14 = _) (q15:v 15 = _) (q16:v 16 = _) (q17:v 17 = _) (q18:v 18 = _) (q19:v 19 = _) (q20:v 20 = _) (q21:(fun v w'=>Q0r w' 0 3 (.int .i64) (v 21) (Q3d b.basics.length a.basics.length (a.basics.length + a.gates.length) ml)) v w1) _ (q23:(fun v w'=>∃ g,v 23 = .slice (some ⟨g,0,none⟩) 1 1 /\ Blk w' g 114 (enc3 (nm,ch,v 21)).toArray) v w1);intro wl hT;obtain rfl:wl = w1:=hT;intro bb hbb;intro K hK;obtain ⟨s9,c9,e9,_⟩:=Q0r.shape q21;obtain ⟨g,hg10,hb10⟩:=q23;have o1:bb.eval (.tmp 150) = .slice bG L.length cG:=by rw [hbb]; dsimp only; (try simp (discharger:=decide) only [eval_put_ne]); rw [Q0a (by simp only [size_put]; exact (by decide:150 < 199))]; exact q1
     have o2:bb.eval (.tmp 172) = .slice (some ⟨g,0,none⟩) 1 1:=by rw [hbb]; dsimp only; (try simp (discharger:=decide) only [eval_put_ne]); rw [Q0a (by simp only [size_put]; exact (by decide:172 < 199))]; exact hg10
     have hxx:=hdr.trans hx;exact Q9j _ _ 31 rfl M 114 ig (.agg #[.string emp,.int .i64 0,.slice none 0 0]) 3 48 Tryz.underlying31 hi hz0 hz1 hz2 rfl (by decide) enc3 Q0o _ L (nm,ch,v 21) o1 (HOW5.out.ext hxx) ⟨g,0,none⟩ o2 (Q5h hb10) (by rw [e9]; exact Q9l) (by omega) (by decide) (by have:=hxx.size; omega) (fun v' w' h1 h2 h3=>hK _ _ ⟨h1,h2,h3⟩)
    case g25=>
     intro v w1 hx (q0:v 0 = _) (q1:v 1 = _) (q2:v 2 = _) (q3:v 3 = _) (q4:v 4 = _) (q5:v 5 = _) (q6:v 6 = _) (q7:v 7 = _) (q8:v 8 = _) (q9:v 9 = _) (q10:v 10 = _) (q11:v 11 = _) (q12:v 12 = _) (q13:v 13 = _) (q14:v 14 = _) (q15:v 15 = _) (q16:v 16 = _) (q17:v 17 = _) (q18:v 18 = _) (q19:v 19 = _) (q20:v 20 = _) _ _ _;intro wl hT;replace hT:(fun v w1 w'=>Q1d w' M 114 3 enc3 (v 24) (L ++ [(nm,ch,v 21)]) /\ Keep 114 w1 w' /\ Below M w1 w') v w1 wl:=hT;intro bb hbb;subst hbb;intro K hK;go_simp;exact hK _ _ ⟨rfl,hT⟩
    case g26=>
     intro v w1 hx (q0:v 0 = _) (q1:v 1 = _) (q2:v 2 = _) (q3:v 3 = _) (q4:v 4 = _) (q5:v 5 = _) (q6:v 6 = _) (q7:v 7 = _) (q8:v 8 = _) (q9:v 9 = _) (q10:v 10 = _) (q11:v 11 = _) (q12:v 12 = _) (q13:v 13 = _) (q14:v 14 = _) (q15:v 15 = _) (q16:v 16 = _) (q17:v 17 = _) (q18:v 18 = _) (q19:v 19 = _) (q20:v 20 = _) _ _ _;intro wl hT;replace hT:(fun v w1 w'=>v 25 = .pointer (some ⟨O,2,none⟩) /\ Q1d w' M 114 3 enc3 (v 24) (L ++ [(nm,ch,v 21)]) /\ Keep 114 w1 w' /\ Below M w1 w') v w1 wl:=hT;intro bb hbb;intro K hK;obtain ⟨hT0,hT1,hT2,hT3⟩:=hT;have hxx:=hdr.trans hx;obtain ⟨bp,cp,hsh,_⟩:=hT1.shape;have o1:bb.eval (.tmp 174) = .pointer (some ⟨O,2,none⟩):=by rw [hbb]; dsimp only; (try simp (discharger:=decide) only [eval_put_ne]); rw [Q0a (by simp only [size_put]; exact (by decide:174 < 199))]; exact hT0
     have o2:bb.eval (.tmp 173) = v 24:=by rw [hbb]; dsimp only; (try simp (discharger:=decide) only [eval_put_ne]); rw [Q0a (by simp only [size_put]; exact (by decide:173 < 199))]
     have hbl:=hT2 _ _ _ (by decide) (HBK5.out.ext hxx)
     exact Q2u _ _ rfl Tryz.Y1c (g:=O) (k:=2) o1 o2 (by rw [hsh]; rfl) (by rw [hsh]; rfl) hbl (by show 2 < 3; omega) (fun v'=>hK _ _ ⟨v 24,wl,hT1,hT2,hT3,rfl⟩)
    case post =>
     intro v w1 hx;(iterate 21 intro (zq:v _ = _));intro (q21:(fun v w'=>Q0r w' 0 3 (.int .i64) (v 21) (Q3d b.basics.length a.basics.length (a.basics.length + a.gates.length) ml)) v w1) (q22:(fun v w'=>v 22 = .agg #[.string nm,.int .i64 ch,v 21]) v w1) (q23:(fun v w'=>∃ g,v 23 = .slice (some ⟨g,0,none⟩) 1 1 /\ Blk w' g 114 (enc3 (nm,ch,v 21)).toArray) v w1);intro w2 hE;replace hE:(fun v w1 w'=>∃ x wm,Q1d wm M 114 3 enc3 x (L ++ [(nm,ch,v 21)]) /\ Keep 114 w1 wm /\ Below M w1 wm /\ w' = wm.setCell ⟨O,2,none⟩ x) v w1 w2:=hE;simp only [Flow.acts,Act.put];go_simp;obtain ⟨x,wm,hom,hkm,hbm,rfl⟩:=hE;have hxx:=hdr.trans hx;have hbO:=hkm _ _ _ (by decide) (HBK5.out.ext hxx)
     have hOM:O < M:=by have:=KO.out.lt; have:=HM.out; omega
     have hset:∀ n,n <= O -> Below n wm (wm.setCell ⟨O,2,none⟩ x):=fun n hn=>(Below.refl n _).setCell (p:=⟨O,2,none⟩) hn x;have hks:Keep 33 wm (wm.setCell ⟨O,2,none⟩ x):=Keep.store hbO fun _ hj=>Below.heap_setCell _ _ _ _ hj;obtain ⟨bp,cp,hsh,_⟩:=hom.shape;have HB6:=Lib.hid (hbO.set 2 x);have HO6:Hid (Y0o (wm.setCell ⟨O,2,none⟩ x) M 114 3 enc3 x (L ++ [(nm,ch,v 21)])):=Lib.hid (.inl (hom.setCell (p:=⟨O,2,none⟩) hOM x));have HT6:=Lib.hid ((((HTR5.out.ext hxx).keep (by decide) hkm).snoc nm ch (Q3l q21 (by decide) hkm)).keep (by decide) hks)
     have HX6:Hid (Ext W0 (wm.setCell ⟨O,2,none⟩ x)):=Lib.hid (Below.trans (Below.trans ((HX.out.trans HX5.out).trans hxx) (Below.mono hbm (by have:=HX0.out.size; have:=HM.out; omega))) (hset _ h0O))
     have HBT6:Hid (But O WB (wm.setCell ⟨O,2,none⟩ x)):=Lib.hid (⟨by have h1:=HBT.out.1; have h2:=HX5.out.size; have h3:=hxx.size; have h4:=hbm.size; have h5:=(hset 0 (Nat.zero_le _)).size; omega,fun c hc hne=>by
      have hcM:c < M:=by have:=HM.out; omega
      have hcr:c < wr.heap.size:=by omega
      rw [Below.heap_setCell _ _ _ _ hne,hbm.block c hcM,hxx.block c (by omega),HX5.out.block c hcr]
      exact HBT.out.2 c hc hne⟩)
     have etake:(a.gates.map (Q1y a.basics.length b.basics.length) ++ (b.gates.map (Q3k a.basics.length b.basics.length a.gates.length)).take (k + 1)).map X1c = (a.gates.map (Q1y a.basics.length b.basics.length) ++ (b.gates.map (Q3k a.basics.length b.basics.length a.gates.length)).take k).map X1c ++ [(nm,ch,Q3d b.basics.length a.basics.length (a.basics.length + a.gates.length) ml)]:=by
      rw [List.take_add_one,List.getElem?_eq_getElem (by simpa using hlt)]
      simp only [Option.toList_some,List.getElem_map,HGK.out,HG0.out,Q3k,List.map_append,List.append_assoc];rfl
     rw [<- etake] at HT6;rw [hsh] at HB6 HO6;obtain ⟨w6,hw6⟩:∃ y,wm.setCell ⟨O,2,none⟩ x = y:=⟨_,rfl⟩;rw [hw6] at HX6 HT6 HBT6 ⊢;rw [<- hsh,hw6,hsh] at HB6 HO6;obtain ⟨L6,hL6⟩:∃ y,L ++ [(nm,ch,v 21)] = y:=⟨_,rfl⟩;rw [hL6] at HB6 HO6 HT6;have hl6:L6.length = LG.length + (k + 1):=by rw [<- hL6,List.length_append,HLEN.out]; rfl
     clear hom hkm hbm hbO hset hks hsh hw6 hL6 etake hxx hx hdr q21 q22 q23;(repeat clear zq);go_wp2;go_roundw
     case rel=>exact ⟨k + 1,bp,cp,L6,by omega,by go_num,hl6,HB6.out,HO6.out,HT6.out,HBT6.out,HX6.out⟩
     case measure=>simp [intOf]; omega
  . obtain rfl:k = b.gates.length:=by omega
    have HTR2:Hid (Q6j wr L ((a.gates.map (Q1y a.basics.length b.basics.length) ++ b.gates.map (Q3k a.basics.length b.basics.length a.gates.length)).map X1c)):=Lib.hid (by have h:=HTR.out; rw [List.take_of_length_le (by simp)] at h; exact h)
    clear HTR;go_upto_if 146 with fail
    go_step
    go_step
    go_step
    go_step
    go_step
    go_step
    have hkp:=HBT.out.keep KO.out;exact Z9u W0 wr a b kind M Bb R O _ _ Gb Ab Ac bG cgb cb cc cG nc LC L HST.out (by omega) hsg hnb (by rw [HLEN.out,HLG.out]) (HBT.out.blk KB.out hBO) (HBT.out.blk KR.out hRO) HBK.out (Q0s HVB.out (by decide) hkp) (Q0s HVC.out (by decide) hkp) (HTC.out.keep (by decide) hkp) HOW.out HTR2.out hRO (by rw [<- HM.out]; exact HBT.out.1) h0R h0O (by rw [<- HM.out]; exact HX0.out.size) HX.out _ _ _ _ _ _ _ _ _ _ _ _ _ _ _ _ _ _ _ _ _ _ _ _ _ _ _ _ _ _ _ _ _ _ _ _ _ _ _ _ _ _ _ _ _ _ _ _ _ _ _ _ _ _ _ _ _ _ _ _ _ _ _ _ _ _ _ _ _ _ _ _ _ _ _ _ _ _ _ _ _ _ _ _ _ _ _ _ _ _ _ _ _ _ _ _ _ _ _ _ _ _ _ _ _ _ _ _ _ _ _ _ _ _ _ _ _ _ _ _ _ _ _ _ _ _ _ _ _ _ _ _ _ _ _ _ _ _ _ _ _ _ _ _ _ _ _ _ _ _ _ _ _ _ _ _ _ _ _ _ _ _ _ _ _ _ _ _ _ _ _ _ _ _ _ _ _ _ _ _ _ _ _ _ _ _ _ _ _ _ _ _ _ _ _
end Go.Proofs
