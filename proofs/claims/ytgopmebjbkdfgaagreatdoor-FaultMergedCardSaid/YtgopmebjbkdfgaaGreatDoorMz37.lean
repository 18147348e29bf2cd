/- The walk through Merge from region 8 on: the second check. The region theorem with new boxes that are two and two apart, the frame under a name. -/
import Derived.Test.YtgopmebjbkdfgaaGreatDoorMz36
import Derived.Test.YtgopmebjbkdfgaaGreatDoorMz14
set_option maxRecDepth 1000000
set_option maxHeartbeats 64000000
set_option linter.unusedVariables false
set_option linter.unusedSimpArgs false
set_option linter.constructorNameAsVariable false
namespace Go.Proofs
open Go.RowKit Go.Tw Go.Flow
attribute [local go_sem ↓] Q2s Q4d Q2n Q3r
theorem J2t (W0 WB:World) (a b:Tree) (kind:ByteArray) (Ba Bb R Y O N gx:Nat) (y1 vn:Value) (Aa Ca Ga Bbs Cb Gb Ab Ac Ag Cy Gy:Option Addr) (ca cca cga cbb ccb cgb cb ccy cgy:Nat) (LC LG LX LY:List (ByteArray × Int × Value))
    (hst:Q3w a b = 0 -> X6j (Q0k a b kind)) (hsa:a.basics.length + b.basics.length <= 900) (hsc:a.causes.length + b.causes.length <= 900) (hsg:a.gates.length + b.gates.length <= 900) (hab:a.basics.length + a.gates.length <= 900) (hac:a.basics.length + a.causes.length <= 900) (hnb:0 < a.basics.length) (hlc:LC.length = a.causes.length) (hlg:LG.length = a.gates.length)
    (hic:∀ k,k < b.causes.length -> (Q0e b.causes k).length <= 1000 /\ ∀ x ∈ Q0e b.causes k,0 <= x /\ x < 1000)
    (hia:∀ k,k < a.gates.length -> (Q0j a.gates k).length <= 1000 /\ ∀ x ∈ Q0j a.gates k,0 <= x /\ x < 1000)
    (hin:∀ k,k < b.gates.length -> (Q0j b.gates k).length <= 1000 /\ ∀ x ∈ Q0j b.gates k,0 <= x /\ x < 1000)
    (hta:Q3u WB (.slice Aa a.basics.length ca) (.slice Ca a.causes.length cca) (.slice Ga a.gates.length cga) a)
    (k3:Blk WB Ba 33 #[.slice Aa a.basics.length ca,.slice Ca a.causes.length cca,.slice Ga a.gates.length cga]) (k4:Blk WB Bb 33 #[.slice Bbs b.basics.length cbb,.slice Cb b.causes.length ccb,.slice Gb b.gates.length cgb])
    (kN:Blk WB N 72 #[vn]) (hvn:Q2x WB vn (Q4q b))
    (kR:Blk WB R 33 #[.slice none 0 0,.slice none 0 0,.slice none 0 0]) (kY:Blk WB Y 33 #[y1,.slice Cy b.causes.length ccy,.slice Gy b.gates.length cgy]) (kO:Blk WB O 33 #[.slice Ab (a.basics.length + b.basics.length) cb,.slice Ac LC.length LC.length,.slice Ag LG.length LG.length])
    (hvb:Q1o WB 0 103 2 Q9x (.slice Ab (a.basics.length + b.basics.length) cb) (a.basics ++ b.basics))
    (hvc:Q1o WB 0 106 3 enc3 (.slice Ac LC.length LC.length) LC) (htc:Q8r WB LC (a.causes.map Y4m))
    (hvg:Q1o WB 0 114 3 enc3 (.slice Ag LG.length LG.length) LG) (htg:Q8r WB LG (a.gates.map X6f))
    (hvx:Q1o WB 0 106 3 enc3 (.slice Cy b.causes.length ccy) LX) (htx:Q8r WB LX (b.causes.map Y4m))
    (hvy:Q1o WB (gx + 1) 114 3 enc3 (.slice Gy b.gates.length cgy) LY) (hty:Q8r WB LY (b.gates.map X6f))
    (hag:0 < LG.length -> Ag = some ⟨gx,0,none⟩) (hgx:∃ cs,Blk WB gx 114 cs) (h0g:W0.heap.size <= gx)
    (hRO:R ≠ O) (hAO:Ba ≠ O) (hBO:Bb ≠ O) (hYO:Y ≠ O) (h0R:W0.heap.size <= R) (h0O:W0.heap.size <= O) (hx0:Ext W0 WB) (ua ub uc ud ue uf ug uh ui uj uk ul um un uo up uq ur us ut uu uv uw ux uy uz uA uB uC uD uE uF uG uH uI uJ uK uL uM uN uO uP uQ uR uS uT uU uV uW uX uY uZ u2 u3 u4 u6 u9 Ua Ub Uc Ud Ue Uf Ug Uh Ui Uj Uk Ul Um Un Uo Up Uq Ur Us Ut Uu Uv Uw Ux Uy Uz UA UB UC UD UE UF UG UH UI UJ UK UL UM UN UO UP UQ UR US UT UU UV UW UX UY UZ U0 U1 U2 U3 U4 U5 U6 U7 U8 U9 ya yb yc yd ye yf yg yh yi yj yk yl ym yn yo yp yq yr ys yt yu yv yw yx yy yz yA yB yC yD yE yF yG yH yI yJ yK yL yM yN yO yP yQ yR yS yT yU yV yW yX yY yZ y0 y2 y3 y4 y5 y6 y7 y8 y9 Ya Yb Yc Yd Ye Yf Yg Yh Yi Yj Yk:Value) :
    (codeFrom Tryz.f9 8).wp Tryz.prog (bodyPost Tryz.prog Tryz.f9 (fun e w'=>∃ u,e = .returned (.tuple #[u,.int .i64 (Q3w a b)]) /\ Q7q 33 w' u (if Q3w a b = 0 then Q0k a b kind else ⟨[],[],[]⟩) /\ Ext W0 w')) ⟨#[ua,ub,.string kind,.pointer (some ⟨Ba,0,none⟩),.pointer (some ⟨Bb,0,none⟩),uc,.pointer (some ⟨R,0,none⟩),ud,ue,.func (.func 51) #[] #[],.pointer (some ⟨N,0,none⟩),uf,.pointer (some ⟨Y,0,none⟩),.pointer (some ⟨O,0,none⟩),ug,uh,ui,uj,uk,ul,um,un,uo,up,uq,ur,us,ut,uu,uv,uw,ux,uy,uz,uA,uB,uC,uD,uE,uF,uG,uH,uI,uJ,uK,uL,uM,uN,uO,uP,uQ,uR,uS,uT,uU,uV,uW,uX,uY,uZ,u2,u3,u4,u6,u9,Ua,Ub,Uc,Ud,Ue,Uf,Ug,Uh,Ui,Uj,Uk,Ul,Um,Un,Uo,Up,Uq,Ur,Us,Ut,Uu,Uv,Uw,Ux,Uy,Uz,UA,UB,UC,UD,UE,UF,UG,UH,UI,UJ,UK,UL,UM,UN,UO,UP,UQ,UR,US,UT,UU,UV,UW,UX,UY,UZ,U0,U1,U2,U3,U4,U5,U6,U7,U8,U9,ya,yb,yc,yd,ye,yf,yg,yh,yi,yj,yk,yl,ym,yn,yo,yp,yq,yr,ys,yt,yu,yv,yw,yx,yy,yz,yA,yB,yC,yD,yE,yF,yG,yH,yI,yJ,yK,yL,yM,yN,yO,yP,yQ,yR,yS,yT,yU,yV,yW,yX,yY,yZ,y0,y2,y3,y4,y5,y6,y7,y8,y9,Ya,Yb,Yc,Yd,Ye,Yf,Yg,Yh,Yi,Yj,Yk],[]⟩ WB:=by
 conv=>arg 2; whnf
 obtain ⟨E2,hE2⟩:∃ x,Q3w a b = x:=⟨_,rfl⟩;rw [hE2];rw [hE2] at hst;go_upto_region 8 with fail;obtain ⟨tw,htw⟩:∃ x,Q4g a b = x:=⟨_,rfl⟩;obtain ⟨p2,hp2⟩:∃ x,decide ((12:Int) < ((a.basics.length:Int) + (b.basics.length:Int)) + a.causes.length + b.causes.length) = x:=⟨_,rfl⟩;obtain ⟨s2,hs2⟩:∃ x,decide ((32:Int) <= (a.gates.length:Int) + b.gates.length) = x:=⟨_,rfl⟩;have hmany:Q8f a b = (p2 || s2):=by
  unfold Q8f;rw [<- hp2,<- hs2]
  congr 1 <;> · apply decide_eq_decide.2; omega
 have HFI:Hid (Q0i [Q0n tw 9,Q0n (p2 || s2) 5] = E2):=Lib.hid (by rw [<- hE2,<- htw,<- hmany]; rfl)
 have hw1:IntKind.i64.wrap (((a.basics.length:Int) + (b.basics.length:Int)) + (a.causes.length:Int)) = ((a.basics.length:Int) + (b.basics.length:Int)) + (a.causes.length:Int):=wrap_in (by omega) (by omega)
 have hw2:IntKind.i64.wrap (((a.basics.length:Int) + (b.basics.length:Int)) + (a.causes.length:Int) + (b.causes.length:Int)) = ((a.basics.length:Int) + (b.basics.length:Int)) + (a.causes.length:Int) + (b.causes.length:Int):=wrap_in (by omega) (by omega)
 have hw3:IntKind.i64.wrap ((a.gates.length:Int) + (b.gates.length:Int)) = (a.gates.length:Int) + (b.gates.length:Int):=wrap_in (by omega) (by omega)
 have KA:=Lib.hid k3;have KB:=Lib.hid k4;have KO:=Lib.hid kO;have KN:=Lib.hid kN;have HTA:=Lib.hid hta;have HVN:=Lib.hid hvn;have hdr:=(Ext.refl WB).drew;have HCF:Hid (∀ (w1:World) (u:Value),Ext WB w1 -> Q2x w1 u (Q4q a) -> Calls Tryz.prog 59 #[u,.func (.func 60) #[] #[.pointer (some ⟨N,0,none⟩)]] w1 fun e w'=>e = .returned (.bool tw) /\ Ext w1 w'):=by
  exact (by
   intro w1 u hx hu;rw [<- htw];exact X8u w1 u (Q4q a) _ _ (fun s=>Y6t (Q4q b) s) hu (fun _ _=>rfl) (fun W x hW _=>Z3f W x N vn (Q4q b) (by have h:=(KN.out.ext (hx.trans hW)).cell 0; simpa using h) (HVN.out.ext (hx.trans hW))):∀ (w1:World) (u:Value),Ext WB w1 -> Q2x w1 u (Q4q a) -> Calls Tryz.prog 59 #[u,.func (.func 60) #[] #[.pointer (some ⟨N,0,none⟩)]] w1 fun e w'=>e = .returned (.bool tw) /\ Ext w1 w')
 have HFF:Hid (∀ (w':World) (u:Value),Q0f w' u [Q0n tw 9,Q0n (p2 || s2) 5] -> Calls Tryz.prog 48 #[u] w' fun e w''=>e = .returned (.int .i64 E2) /\ w' = w''):=by
  exact (by intro w' u h; rw [<- HFI.out]; exact first_any _ _ _ h:∀ (w':World) (u:Value),Q0f w' u [Q0n tw 9,Q0n (p2 || s2) 5] -> Calls Tryz.prog 48 #[u] w' fun e w''=>e = .returned (.int .i64 E2) /\ w' = w'')
 refine Flow.Q3o [.p,.w,.w,.p,.w,.w,.p,.w,.p,.p,.w,.p,.p,.p,.w,.p,.p,.p,.p,.p,.w,.p,.p,.w,.p,.p,.p,.p,.w,.w,.w,.p] [0,1,2,3,4,5,6,7,8,9,10,11,12,13,14,15,16,17,18,19,20,21,22,23,24,25,26,27,28,29,30,31] [[],[],[0,1],[],[2,3],[4],[],[6],[7],[],[9],[10],[8,11],[],[13],[14],[12,15],[16],[5,17],[18],[18,19],[18,20],[18],[18,22],[18,23],[18,21,24],[18,25],[18,26],[18,27],[5,28],[28,29],[0,1,2,3,4,5,6,7,8,9,10,11,12,13,14,15,16,17,18,19,20,21,22,23,24,25,26,27,28,29,30]]
  [.c 0 (.func (.func 51) #[] #[]),.c 1 (.agg #[.slice Aa a.basics.length ca,.slice Ca a.causes.length cca,.slice Ga a.gates.length cga]),⟨fun v wz=>Q2x wz (v 2) (Q4q a),fun _ _ _ hx h=>h.ext hx⟩,.c 3 (.func (.func 60) #[] #[.pointer (some ⟨N,0,none⟩)]),.c 4 (.bool tw),.c 5 (.int .i64 (Q0n tw 9)),.c 6 (.pointer (some ⟨O,0,none⟩)),.c 7 (.slice Ab (a.basics.length + b.basics.length) cb),.c 8 (.int .i64 (((a.basics.length + b.basics.length):Nat):Int)),.c 9 (.pointer (some ⟨Ba,1,none⟩)),.c 10 (.slice Ca a.causes.length cca),.c 11 (.int .i64 ((a.causes.length:Nat):Int)),.c 12 (.int .i64 (((a.basics.length:Int) + (b.basics.length:Int)) + (a.causes.length:Int))),.c 13 (.pointer (some ⟨Bb,1,none⟩)),.c 14 (.slice Cb b.causes.length ccb),.c 15 (.int .i64 ((b.causes.length:Nat):Int)),.c 16 (.int .i64 (((a.basics.length:Int) + (b.basics.length:Int)) + (a.causes.length:Int) + (b.causes.length:Int))),.c 17 (.bool p2),.c 18 (.bool p2),.c 19 (Q1z p2 (.pointer (some ⟨Ba,2,none⟩))),.c 20 (Q1z p2 (.slice Ga a.gates.length cga)),.c 21 (Q1z p2 (.int .i64 ((a.gates.length:Nat):Int))),.c 22 (Q1z p2 (.pointer (some ⟨Bb,2,none⟩))),.c 23 (Q1z p2 (.slice Gb b.gates.length cgb)),.c 24 (Q1z p2 (.int .i64 ((b.gates.length:Nat):Int))),.c 25 (Q1z p2 (.int .i64 ((a.gates.length:Int) + (b.gates.length:Int)))),.c 26 (Q1z p2 (.bool s2)),.c 27 (.bool (p2 || s2)),.c 28 (.int .i64 (Q0n (p2 || s2) 5)),⟨fun v wz=>Q0f wz (v 29) [Q0n tw 9,Q0n (p2 || s2) 5],fun _ _ _ hx h=>h.ext hx⟩,.c 30 (.int .i64 E2),.c 31 (.int .i64 E2)]
  (by kernel_rfl) rfl (by kernel_rfl) ⟨?g0,?g1,?g2,?g3,?g4,?g5,?g6,?g7,?g8,?g9,?g10,?g11,?g12,?g13,?g14,?g15,?g16,?g17,?g18,?g19,?g20,?g21,?g22,?g23,?g24,?g25,?g26,?g27,?g28,?g29,?g30,?g31,trivial⟩ ?post
 case g0 | g3 | g6 | g9 | g13=>
  intro v w1 hx;intro bb hbb;subst hbb;refine ⟨_,fun w=>?_,rfl⟩;go_simp
 case g1=>
  intro v w1 hx;intro bb hbb;intro K hK;have o1:bb.eval (.tmp 3) = .pointer (some ⟨Ba,0,none⟩):=by rw [hbb]; dsimp only; (try simp (discharger:=decide) only [eval_put_ne]); rfl
  exact Q0m (.tmp 3) _ rfl Tryz.Q2y Tryz.Q0x o1 (KA.out.ext (hdr.trans hx)) rfl (hK _ _ (Ext.refl _) rfl)
 case g2=>
  intro v w1 hx;(repeat intro (zq:v _ = _));intro bb hbb;subst hbb;intro K hK;go_simp;refine Q0d (Y5z w1 _ a ⟨_,_,_,rfl,HTA.out.ext (hdr.trans hx)⟩ hnb (by omega)) ?_
  rintro e w2 ⟨x,rfl,h,hx2⟩;exact ⟨_,rfl,hK _ _ hx2 h⟩
 case g4=>
  intro v w1 hx (q2:Q2x w1 (v 2) (Q4q a)) (q3:v 3 = _);intro bb hbb;subst hbb;intro K hK;go_simp;refine Q0d (HCF.out w1 _ (hdr.trans hx) q2) ?_;rintro e w2 ⟨rfl,hx2⟩;exact ⟨_,rfl,hK _ _ hx2 rfl⟩
 case g5 | g28=>
  intro v w1 hx;(repeat intro (zq:v _ = _));intro bb hbb;subst hbb;intro K hK;go_simp;refine Q0d (Q4w _ _ _) ?_;rintro e w2 ⟨rfl,rfl⟩;exact ⟨_,rfl,hK _ _ (Ext.refl _) rfl⟩
 case g7 | g10 | g14=>
  intro v w1 hx;(repeat intro (zq:v _ = _));intro bb hbb;subst hbb;have n0:w1.cell? ⟨O,0,none⟩ = some (.slice Ab (a.basics.length + b.basics.length) cb):=(KO.out.ext (hdr.trans hx)).cell 0;have n1:w1.cell? ⟨Ba,1,none⟩ = some (.slice Ca a.causes.length cca):=(KA.out.ext (hdr.trans hx)).cell 1;have n2:w1.cell? ⟨Bb,1,none⟩ = some (.slice Cb b.causes.length ccb):=(KB.out.ext (hdr.trans hx)).cell 1;intro K hK;go_simp;exact hK _ _ (Ext.refl _) rfl
 case g8 | g11 | g12 | g15 | g16 | g17 | g18=>
  intro v w1 hx;(repeat intro (zq:v _ = _));intro bb hbb;subst hbb;refine ⟨_,fun w=>?_,rfl⟩;go_simp
 case g19 | g22=>
  intro v w1 hx;(repeat intro (zq:v _ = _));intro bb hbb;cases p2 with
  | true=>exact Flow.Q1h (d:=75) rfl rfl (by rw [hbb]; simp only [size_put]; exact (by decide:75 < 199)) (by rw [hbb]; dsimp only; (try simp (discharger:=decide) only [eval_put_ne]); rw [Q0a (by simp only [size_put]; exact (by decide:75 < 199))]; assumption) rfl
  | false =>
    refine Flow.Q0h (d:=75) rfl rfl (by rw [hbb]; simp only [size_put]; exact (by decide:75 < 199)) (by rw [hbb]; dsimp only; (try simp (discharger:=decide) only [eval_put_ne]); rw [Q0a (by simp only [size_put]; exact (by decide:75 < 199))]; assumption) ?_
    subst hbb;refine ⟨_,fun w=>?_,rfl⟩;go_simp
 case g20=>
  intro v w1 hx (q18:v 18 = _) (q19:v 19 = Q1z p2 (.pointer (some ⟨Ba,2,none⟩)));intro bb hbb;have n0:w1.cell? ⟨Ba,2,none⟩ = some (.slice Ga a.gates.length cga):=(KA.out.ext (hdr.trans hx)).cell 2;cases p2 with
  | true=>exact Flow.Q1h (d:=75) rfl rfl (by rw [hbb]; simp only [size_put]; exact (by decide:75 < 199)) (by rw [hbb]; dsimp only; (try simp (discharger:=decide) only [eval_put_ne]); rw [Q0a (by simp only [size_put]; exact (by decide:75 < 199))]; exact q18) rfl
  | false =>
    replace q19:v 19 = .pointer (some ⟨Ba,2,none⟩):=q19;refine Flow.Q0h (d:=75) rfl rfl (by rw [hbb]; simp only [size_put]; exact (by decide:75 < 199)) (by rw [hbb]; dsimp only; (try simp (discharger:=decide) only [eval_put_ne]); rw [Q0a (by simp only [size_put]; exact (by decide:75 < 199))]; exact q18) ?_
    subst hbb;intro K hK;go_simp;exact hK _ _ (Ext.refl _) rfl
 case g21=>
  intro v w1 hx (q18:v 18 = _) (q20:v 20 = Q1z p2 (.slice Ga a.gates.length cga));intro bb hbb;cases p2 with
  | true=>exact Flow.Q1h (d:=75) rfl rfl (by rw [hbb]; simp only [size_put]; exact (by decide:75 < 199)) (by rw [hbb]; dsimp only; (try simp (discharger:=decide) only [eval_put_ne]); rw [Q0a (by simp only [size_put]; exact (by decide:75 < 199))]; exact q18) rfl
  | false =>
    replace q20:v 20 = .slice Ga a.gates.length cga:=q20;refine Flow.Q0h (d:=75) rfl rfl (by rw [hbb]; simp only [size_put]; exact (by decide:75 < 199)) (by rw [hbb]; dsimp only; (try simp (discharger:=decide) only [eval_put_ne]); rw [Q0a (by simp only [size_put]; exact (by decide:75 < 199))]; exact q18) ?_
    subst hbb;refine ⟨_,fun w=>?_,rfl⟩;go_simp
 case g23=>
  intro v w1 hx (q18:v 18 = _) (q22:v 22 = Q1z p2 (.pointer (some ⟨Bb,2,none⟩)));intro bb hbb;have n0:w1.cell? ⟨Bb,2,none⟩ = some (.slice Gb b.gates.length cgb):=(KB.out.ext (hdr.trans hx)).cell 2;cases p2 with
  | true=>exact Flow.Q1h (d:=75) rfl rfl (by rw [hbb]; simp only [size_put]; exact (by decide:75 < 199)) (by rw [hbb]; dsimp only; (try simp (discharger:=decide) only [eval_put_ne]); rw [Q0a (by simp only [size_put]; exact (by decide:75 < 199))]; exact q18) rfl
  | false =>
    replace q22:v 22 = .pointer (some ⟨Bb,2,none⟩):=q22;refine Flow.Q0h (d:=75) rfl rfl (by rw [hbb]; simp only [size_put]; exact (by decide:75 < 199)) (by rw [hbb]; dsimp only; (try simp (discharger:=decide) only [eval_put_ne]); rw [Q0a (by simp only [size_put]; exact (by decide:75 < 199))]; exact q18) ?_
    subst hbb;intro K hK;go_simp;exact hK _ _ (Ext.refl _) rfl
 case g24=>
  intro v w1 hx (q18:v 18 = _) (q23:v 23 = Q1z p2 (.slice Gb b.gates.length cgb));intro bb hbb;cases p2 with
  | true=>exact Flow.Q1h (d:=75) rfl rfl (by rw [hbb]; simp only [size_put]; exact (by decide:75 < 199)) (by rw [hbb]; dsimp only; (try simp (discharger:=decide) only [eval_put_ne]); rw [Q0a (by simp only [size_put]; exact (by decide:75 < 199))]; exact q18) rfl
  | false =>
    replace q23:v 23 = .slice Gb b.gates.length cgb:=q23;refine Flow.Q0h (d:=75) rfl rfl (by rw [hbb]; simp only [size_put]; exact (by decide:75 < 199)) (by rw [hbb]; dsimp only; (try simp (discharger:=decide) only [eval_put_ne]); rw [Q0a (by simp only [size_put]; exact (by decide:75 < 199))]; exact q18) ?_
    subst hbb;refine ⟨_,fun w=>?_,rfl⟩;go_simp
 case g25=>
  intro v w1 hx (q18:v 18 = _) (q21:v 21 = Q1z p2 (.int .i64 ((a.gates.length:Nat):Int))) (q24:v 24 = Q1z p2 (.int .i64 ((b.gates.length:Nat):Int)));intro bb hbb;cases p2 with
  | true=>exact Flow.Q1h (d:=75) rfl rfl (by rw [hbb]; simp only [size_put]; exact (by decide:75 < 199)) (by rw [hbb]; dsimp only; (try simp (discharger:=decide) only [eval_put_ne]); rw [Q0a (by simp only [size_put]; exact (by decide:75 < 199))]; exact q18) rfl
  | false =>
    replace q21:v 21 = .int .i64 ((a.gates.length:Nat):Int):=q21;replace q24:v 24 = .int .i64 ((b.gates.length:Nat):Int):=q24;refine Flow.Q0h (d:=75) rfl rfl (by rw [hbb]; simp only [size_put]; exact (by decide:75 < 199)) (by rw [hbb]; dsimp only; (try simp (discharger:=decide) only [eval_put_ne]); rw [Q0a (by simp only [size_put]; exact (by decide:75 < 199))]; exact q18) ?_
    subst hbb;refine ⟨_,fun w=>?_,rfl⟩;go_simp
 case g26=>
  intro v w1 hx (q18:v 18 = _) (q25:v 25 = Q1z p2 (.int .i64 ((a.gates.length:Int) + (b.gates.length:Int))));intro bb hbb;cases p2 with
  | true=>exact Flow.Q1h (d:=75) rfl rfl (by rw [hbb]; simp only [size_put]; exact (by decide:75 < 199)) (by rw [hbb]; dsimp only; (try simp (discharger:=decide) only [eval_put_ne]); rw [Q0a (by simp only [size_put]; exact (by decide:75 < 199))]; exact q18) rfl
  | false =>
    replace q25:v 25 = .int .i64 ((a.gates.length:Int) + (b.gates.length:Int)):=q25;refine Flow.Q0h (d:=75) rfl rfl (by rw [hbb]; simp only [size_put]; exact (by decide:75 < 199)) (by rw [hbb]; dsimp only; (try simp (discharger:=decide) only [eval_put_ne]); rw [Q0a (by simp only [size_put]; exact (by decide:75 < 199))]; exact q18) ?_
    subst hbb;refine ⟨_,fun w=>?_,rfl⟩;go_simp
 case g27=>
  intro v w1 hx (q18:v 18 = _) (q26:v 26 = Q1z p2 (.bool s2));intro bb hbb;subst hbb;refine ⟨.bool (p2 || s2),fun w=>?_,rfl⟩
  cases p2 with
  | true=>go_simp
  | false=>go_simp; rfl
 case g29=>
  intro v w1 hx;(repeat intro (zq:v _ = _));intro bb hbb;subst hbb;intro K hK;go_simp;exact hK _ _ (Ext.box _ _) (Q3e (l:=[Q0n tw 9,Q0n (p2 || s2) 5]) (by simp))
 case g30=>
  intro v w1 hx (q28:v 28 = _) (q29:Q0f w1 (v 29) [Q0n tw 9,Q0n (p2 || s2) 5]);intro bb hbb;subst hbb;intro K hK;go_simp;refine Q0d (HFF.out _ _ q29) ?_;rintro e w2 ⟨rfl,rfl⟩;exact ⟨_,rfl,hK _ _ (Ext.refl _) rfl⟩
 case g31=>
  intro v w1 hx (q0:v 0 = _) (q1:v 1 = _) _ (q3:v 3 = _) (q4:v 4 = _) (q5:v 5 = _) (q6:v 6 = _) (q7:v 7 = _) (q8:v 8 = _) (q9:v 9 = _) (q10:v 10 = _) (q11:v 11 = _) (q12:v 12 = _) (q13:v 13 = _) (q14:v 14 = _) (q15:v 15 = _) (q16:v 16 = _) (q17:v 17 = _) (q18:v 18 = _) (q19:v 19 = Q1z p2 (.pointer (some ⟨Ba,2,none⟩))) (q20:v 20 = Q1z p2 (.slice Ga a.gates.length cga)) (q21:v 21 = Q1z p2 (.int .i64 ((a.gates.length:Nat):Int))) (q22:v 22 = Q1z p2 (.pointer (some ⟨Bb,2,none⟩))) (q23:v 23 = Q1z p2 (.slice Gb b.gates.length cgb)) (q24:v 24 = Q1z p2 (.int .i64 ((b.gates.length:Nat):Int))) (q25:v 25 = Q1z p2 (.int .i64 ((a.gates.length:Int) + (b.gates.length:Int)))) (q26:v 26 = Q1z p2 (.bool s2)) (q27:v 27 = _) (q28:v 28 = _) _ (q30:v 30 = _);intro bb hbb;subst hbb;refine ⟨_,fun w=>?_,rfl⟩;go_simp
 case post =>
  intro v w1 hx;(iterate 2 intro (zq:v _ = _));intro (q2:Q2x w1 (v 2) (Q4q a));(iterate 16 intro (zq:v _ = _));intro (q19:v 19 = Q1z p2 (.pointer (some ⟨Ba,2,none⟩))) (q20:v 20 = Q1z p2 (.slice Ga a.gates.length cga)) (q21:v 21 = Q1z p2 (.int .i64 ((a.gates.length:Nat):Int))) (q22:v 22 = Q1z p2 (.pointer (some ⟨Bb,2,none⟩))) (q23:v 23 = Q1z p2 (.slice Gb b.gates.length cgb)) (q24:v 24 = Q1z p2 (.int .i64 ((b.gates.length:Nat):Int))) (q25:v 25 = Q1z p2 (.int .i64 ((a.gates.length:Int) + (b.gates.length:Int)))) (q26:v 26 = Q1z p2 (.bool s2));(iterate 2 intro (zq:v _ = _));intro (q29:Q0f w1 (v 29) [Q0n tw 9,Q0n (p2 || s2) 5]);(iterate 2 intro (zq:v _ = _));simp only [Flow.All,Flow.acts,Act.put];go_simp;have hxx:=hdr.trans hx;have HXX:=Lib.hid hxx;clear hxx hx hdr q2 q19 q20 q21 q22 q23 q24 q25 q26 q29;(repeat clear zq)
  by_cases hE0:E2 = 0
  . subst hE0
    obtain ⟨cgx,hgx⟩:=hgx;have hgx3:=hgx.ext HXX.out;go_upto_if 89 with fail
    go_step
    go_step
    go_step
    go_step
    exact J4r W0 w1 a b kind Ba Bb R Y O gx _ _ y1 Aa Ga Bbs Gb Ab Ac Ag Cy Gy ca cga cbb cgb cb ccy cgy LC LG LX LY (hst rfl) hsa hsc hsg hab hnb hlc hlg hic hia hin (KA.out.ext HXX.out) (KB.out.ext HXX.out) (kR.ext HXX.out) (kY.ext HXX.out) (KO.out.ext HXX.out) (hvb.below HXX.out) (hvc.below HXX.out) (htc.ext HXX.out) (hvg.below HXX.out) (htg.ext HXX.out) (hvx.below HXX.out) (htx.ext HXX.out) (hvy.below HXX.out) (hty.ext HXX.out) hag (fun S ds h=>Classical.byContradiction fun hn=>Q2f h hgx3 hn rfl) hgx3.lt h0g hRO hAO hBO hYO h0R h0O (hx0.trans HXX.out) _ _ _ _ _ _ _ _ _ _ _ _ _ _ _ _ _ _ _ _ _ _ _ _ _ _ _ _ _ _ _ _ _ _ _ _ _ _ _ _ _ _ _ _ _ _ _ _ _ _ _ _ _ _ _ _ _ _ _ _ _ _ _ _ _ _ _ _ _ _ _ _ _ _ _ _ _ _ _ _ _ _ _ _ _ _ _ _ _ _ _ _ _ _ _ _ _ _ _ _ _ _ _ _ _ _ _ _ _ _ _ _ _ _ _ _ _ _ _ _ _ _ _ _ _ _ _ _ _ _ _ _ _ _ _ _ _ _ _ _ _ _ _ _ _ _ _ _ _ _ _ _ _ _ _ _ _ _ _ _ _ _ _ _ _ _ _ _ _ _ _ _ _ _ _ _ _ _ _ _ _ _ _ _ _ _ _ _ _ _ _ _ _
  . have hne:(E2 != 0) = true:=by simp [hE0]
    have KR:=Lib.hid (kR.ext HXX.out);go_wp2_with (refine Q0g rfl _ _ 33 rfl Tryz.Q0x rfl rfl KR.out rfl rfl ?_ ?_; (focus (intro u hu; simp only [List.mem_cons,List.not_mem_nil,or_false] at hu; rcases hu with rfl | rfl | rfl <;> rfl)); intro w11 hb11 hl11 ho11)
    refine bodyPost_ret (Q0r Tryz.results9 rfl hb11 Tryz.Q2y Tryz.Q0x rfl) rfl ?_;refine ⟨_,rfl,?_,Below.trans (hx0.trans HXX.out) (hl11 _ h0R)⟩;exact fun _ _=>X1x _
end Go.Proofs
namespace Go.Flow
open Go.RowKit Go.Tw
theorem Z1q {P:Program} {T:TypeId} {c:Obj} (h:∀ w,(Instr.alloc T true (.tuple #[])).run P w = .ok (.pointer (some ⟨w.heap.size,0,none⟩)) (w.alloc c)) {o:Oper} (ho:o.op = .alloc T) (hg:o.guard = none):Made P o :=
 ⟨hg,fun e w=>⟨c,by unfold execOp; simp only [ho,Sem.run_bind,h,Sem.run_pure,Result.andThen_ok]⟩⟩
theorem J0r {P:Program} {ops:List Oper} {id:Nat} {Q:Exit -> Act -> World -> Prop} {a0:Act} {w:World} (news:List Nat) (kl:List Kind) (jl:List Nat) (pl:List (List Nat)) (tail:List Nat) (Dl:List Spec) (El:List ((Nat -> Value) -> World -> World -> Prop))
    (hm:P.follows .mixedOrders = true) (hjl:jl = List.range' 0 ops.length) (hok:okL ops pl kl tail El.length = true) (hnews:news.all (fun j=>decide (j < ops.length) && X9l (lookup kl .plain j)) = true)
    (hvc:Y8l P ops.toArray (lookup pl []) tail w.drew (fun k=>(lookup Dl .none k).D) El (fun _ w1 w=>w = w1) ops kl jl (fun _=>a0))
    (hmade:∀ j ∈ news,∀ o,ops[j]? = some o -> Made P o)
    (hpost:∀ v w1,Ext w.drew w1 -> J6m news v -> All (lookup pl []) (fun k=>(lookup Dl .none k).D) v w1 tail jl (∀ w',endOf (lookup pl []) v w1 w' tail El -> Q .normal (acts v ops jl a0) w')) :
    (Code.region id ops.toArray true).wp P Q a0 w:=Z4z news kl jl pl tail Dl El hm hjl hok (X2x _ _ _ _ _ _ hvc) hnews hmade hpost
end Go.Flow
