/- Contract of the reference: Alone. -/
import Derived.Test.YthnobngcipaljaaGreatDoorPo09
import Derived.Test.YthnobngcipaljaaGreatDoorPo08
import Derived.Test.YthnobngcipaljaaGreatDoorPo11
set_option maxRecDepth 1000000
set_option maxHeartbeats 64000000
set_option linter.unusedVariables false
set_option linter.unusedSimpArgs false
set_option linter.constructorNameAsVariable false
namespace Go.Proofs
open Go.RowKit Go.Tw Go.Flow
attribute [local go_sem] Oper.semAt_some
def Z7a (w:World) (x:Value) (o:Option (List Bool)):Prop:=match o with
 | none=>x = .slice none 0 0
 | some b=>Q0x w x b
theorem Z7a.ext {w w':World} {x:Value} {o:Option (List Bool)} (h:Z7a w x o) (hx:Ext w w'):Z7a w' x o:=by
 cases o with
 | none=>exact h
 | some b=>exact Q0x.ext h hx
def Z4p (o:Option (List Bool)):Int:=match o with | some _=>0 | none=>24
def Z5u (o:Option (List Bool)):Int:=match o with | some b=>countB b | none=>0
theorem Z1r (w:World) (v:Value) (s:Q0b) (i:Nat) (hv:Q0h w v s) (hvs:Q0y s) (him:i < s.members.length) :
    Calls Tryz.prog 52 #[v,.int .i64 (i:Int)] w fun e w'=>∃ x,e = .returned (.tuple #[x,.int .i64 (Z5u (alone s i)),.int .i64 (Z4p (alone s i))]) /\ Q0x w' x ((alone s i).getD []) /\ Ext w w':=by
 obtain ⟨a,b,rfl,h2⟩:=hv;obtain ⟨A,capa,rfl,-,-,-⟩:=h2.ships.opened;obtain ⟨B,capb,rfl,-,-,-⟩:=h2.members.opened;have H2:=Lib.hid h2;have HV:=Lib.hid hvs;have hok:=Q7y hvs him (Nat.le_refl _);have hT6:=hvs.tides;obtain ⟨T,hT⟩:∃ T,s.ships.length = T:=⟨_,rfl⟩;have HT:=Lib.hid hT;have HAL:Hid (alone s i = (Q1l s i).Q3a s.limit T (2 ^ T)):=Lib.hid (by rw [<- hT]; rfl)
 rw [hT] at hok hT6;have HOK:=Lib.hid hok;have hin:∀ x ∈ (Q1l s i).inflow,0 <= x /\ x <= 1024:=hvs.inflow i him;obtain ⟨m,hm⟩:∃ m,Q1l s i = m:=⟨_,rfl⟩;rw [hm] at hin;have HIN:=Lib.hid hin;clear hin;have HM:=Lib.hid hm;rw [hm] at HAL HOK;obtain ⟨lim,hlim⟩:∃ l,s.limit = l:=⟨_,rfl⟩;have HLIM:=Lib.hid hlim;rw [hlim] at HAL;have HSEA:Hid (∀ W,Ext w W -> Q0h W (.agg #[.int .i64 lim,.slice A T capa,.slice B s.members.length capb]) s):=Lib.hid (fun W hW=>⟨_,_,by rw [hlim],by rw [<- hT]; exact h2.ext hW⟩)
 have HFO:=Lib.hid (fun (W:World) (u:Value) (l:List Bool) (hW:Ext w W) (hu:Q0x W u l) (hl:l.length = T)=>(by
  have h:=X0v W _ u s i l (HSEA.out W hW) him hu (by omega) (by rw [hl,hm]; exact HOK.out.out) (by rw [hl,hm]; exact HOK.out.inf) (by rw [hm]; exact HIN.out)
  rw [hm] at h; exact h:Calls Tryz.prog 51 #[.agg #[.int .i64 lim,.slice A T capa,.slice B s.members.length capb],.int .i64 (i:Int),u] W fun e w'=>∃ x,e = .returned x /\ Q0d w' x (m.Q3e l) /\ Ext W w'))
 have HDR:=Lib.hid (fun (W:World) (u:Value) (l:List Int) (hW:Ext w W) (hu:Q0d W u l)=>(by
  have h:=Z0o W _ u s l (HSEA.out W hW) hu;rw [hlim] at h; exact h:Calls Tryz.prog 104 #[.agg #[.int .i64 lim,.slice A T capa,.slice B s.members.length capb],u] W fun e w'=>e = .returned (.bool (Z3x lim l)) /\ Ext W w'))
 rw [hlim,hT];have p1:=Z5x (n:=T) (by omega)
 obtain ⟨N,hN⟩:∃ N,2 ^ T = N:=⟨_,rfl⟩;rw [hN] at p1 HAL;have hN2:N <= 256:=by rw [<- hN]; exact Nat.pow_le_pow_right (n:=2) (by omega) (by omega:T <= 8)
 obtain ⟨M,hMM⟩:∃ M,s.members.length = M:=⟨_,rfl⟩;rw [hMM] at HFO HDR ⊢;clear h2 hvs hok hT hm hlim hN hMM him;go_enter Tryz.func52,Tryz.ntmps52;go_wp2_with fail;obtain ⟨W,hWW,k0,HXW,eW⟩:=Q1q w 25 #[.int .i64 lim,.slice A T capa,.slice B M capb];rw [hWW];clear hWW;obtain ⟨gs,hgs⟩:∃ x,w.heap.size = x:=⟨_,rfl⟩;rw [hgs] at k0 ⊢;have K0:=Lib.hid k0;clear k0 hgs eW
 go_loopw [7,8,9] (fun x f c wr=>∃ (n:Nat) (o:Option (List Bool)),n <= N /\ c = .int .i64 n /\ f = .bool o.isSome /\ Z7a wr x o /\ o = m.Q3a lim T n /\ Ext W wr) (fun _ _ c _=>N - (intOf c).toNat)
 case atStart=>exact ⟨0,none,Nat.zero_le _,rfl,rfl,rfl,rfl,Ext.refl _⟩
 case round =>
  obtain ⟨n,o,hn,rfl,rfl,hbb,ho,hx0⟩:=hrel;have c1:wr.cell? ⟨gs,1,none⟩ = some (.slice A T capa):=(K0.out.ext hx0).cell 1;have HX0:=Lib.hid hx0;have HBB:=Lib.hid hbb;have HO:=Lib.hid ho;clear hx0 ho
  by_cases hlt:n < N
  . have hnI:(n:Int) < N:=by omega
    have HCD:=Lib.hid (Y1i wr n T (by omega) (by omega))
    clear hbb;obtain ⟨wq,rfl⟩:∃ Z,Z = wr:=⟨_,rfl⟩;go_wp2_with (go_at_call 130; refine HCD.out.mono ?_; rintro e w3 ⟨xc,rfl,hc,hx3⟩; refine halted ?_);have hcl:=Q7o n T;have hno:=X9y (m:=m) (lim:=lim) (T:=T) (n:=n);have hnew:=X7y (m:=m) (lim:=lim) (T:=T) (n:=n);have hless:=fun b=>X4p (m:=m) (lim:=lim) (T:=T) (n:=n) (b:=b);obtain ⟨cl,hcle⟩:∃ c,Q4f n T = c:=⟨_,rfl⟩;rw [hcle] at hc hcl hno hnew hless;rw [Y6m] at hno hnew hless;have HC:=Lib.hid hc;have HCL:=Lib.hid hcl;have HX3:=Lib.hid (HX0.out.trans hx3);have HXW3:=Lib.hid (HXW.out.trans (HX0.out.trans hx3));have HB3:=Lib.hid (HBB.out.ext hx3);have HK3:=Lib.hid (K0.out.ext (HX0.out.trans hx3));obtain ⟨dr,hdr0⟩:∃ d,Z3x lim (m.Q3e cl) = d:=⟨_,rfl⟩;have HDD:=Lib.hid hdr0;rw [hdr0] at hno hnew hless;have hdr:=(Ext.refl w3).drew;clear hc hcle hcl hx3 c1 hdr0;unfold Q1j;cases dr with
    | false =>
      have HNX:=Lib.hid (hno rfl);clear hno hnew hless;go_wp2_with fail;refine Flow.Q1h [.w,.w,.p,.p,.w,.w,.p,.p,.p,.p,.p,.w,.p,.w,.p,.p,.p] [0,1,2,3,4,5,6,7,8,9,10,11,12,13,14,15,16] [[],[],[],[],[1,2,3],[0,4],[5],[6],[6,7],[6,8],[9],[9,10],[9],[9,11,12],[9,11,13],[6,9,14],[6,15]]
       [.c 0 (.agg #[.int .i64 lim,.slice A T capa,.slice B M capb]),.c 1 (.agg #[.int .i64 lim,.slice A T capa,.slice B M capb]),.c 2 (.int .i64 (i:Int)),.c 3 (xc),⟨fun v wz=>(fun v w'=>Q0d w' (v 4) (m.Q3e cl)) v wz,by intro v a b hx h; exact Q0d.ext h hx⟩,.c 5 (.bool false),.c 6 (.bool false),.c 7 (undef),.c 8 (undef),.c 9 (undef),.c 10 (undef),.c 11 (undef),.c 12 (undef),.c 13 (undef),.c 14 (undef),.c 15 (undef),.c 16 (.bool false)]
       (by kernel_rfl) rfl (by kernel_rfl) ⟨?g0,?g1,?g2,?g3,?g4,?g5,?g6,?g7,?g8,?g9,?g10,?g11,?g12,?g13,?g14,?g15,?g16,trivial⟩ ?post
      case g0 | g1=>
       intro v w1 hx;intro bb hbb;intro K hK;have o1:bb.eval (.tmp 2) = .pointer (some ⟨gs,0,none⟩):=by rw [hbb]; dsimp only; (try simp (discharger:=decide) only [eval_put_ne]); rfl
       exact Q0l (.tmp 2) _ rfl Tryz.Y9z Tryz.Y2p o1 (HK3.out.ext (hdr.trans hx)) rfl (hK _ _ (Ext.refl _) rfl)
      case g2 | g3=>
       intro v w1 hx;intro bb hbb;subst hbb;refine ⟨_,fun w=>?_,rfl⟩;go_simp
      case g4=>
       intro v w1 hx;(repeat intro (zq:v _ = _));intro bb hbb;subst hbb;intro K hK;go_simp;refine Q0e (HFO.out w1 _ cl (HXW3.out.trans (hdr.trans hx)) (HC.out.ext (hdr.trans hx)) HCL.out) ?_;rintro e w2 ⟨x,rfl,h1,hx2⟩;exact ⟨_,rfl,hK _ _ hx2 h1⟩
      case g5=>
       intro v w1 hx (q0:v 0 = _) (q4:(fun v w'=>Q0d w' (v 4) (m.Q3e cl)) v w1);intro bb hbb;subst hbb;intro K hK;go_simp;refine Q0e (HDR.out w1 _ _ (HXW3.out.trans (hdr.trans hx)) q4) ?_;rintro e w2 ⟨rfl,hx2⟩;exact ⟨_,rfl,hK _ _ hx2 (congrArg Value.bool HDD.out)⟩
      case g6 | g16=>
       intro v w1 hx;(repeat intro (zq:v _ = _));intro bb hbb;subst hbb;refine ⟨_,fun w=>?_,rfl⟩;go_simp
      case g7 | g8 | g9 | g15=>
       intro v w1 hx;(repeat intro (zq:v _ = _));intro bb hbb;exact Flow.Q1b (d:=30) rfl rfl (by rw [hbb]; simp only [size_put]; exact (by decide:30 < 47)) (by rw [hbb]; dsimp only; (try simp (discharger:=decide) only [eval_put_ne]); rw [Q0a (by simp only [size_put]; exact (by decide:30 < 47))]; assumption) rfl
      case g10 | g11 | g12 | g13 | g14=>
       intro v w1 hx;(repeat intro (zq:v _ = _));intro bb hbb;exact Flow.X1e (d:=33) rfl rfl (by rw [hbb]; simp only [size_put]; exact (by decide:33 < 47)) (by rw [hbb]; dsimp only; (try simp (discharger:=decide) only [eval_put_ne]); rw [Q0a (by simp only [size_put]; exact (by decide:33 < 47))]; assumption) rfl
      case post =>
       intro v w1 hx;(iterate 4 intro (zq:v _ = _));intro (q4:(fun v w'=>Q0d w' (v 4) (m.Q3e cl)) v w1);(iterate 12 intro (zq:v _ = _));simp only [Flow.All,Flow.acts,Act.put];go_simp;have HX7:=Lib.hid (HX3.out.trans (hdr.trans hx));have HB7:=Lib.hid (HB3.out.ext (hdr.trans hx));clear hx hdr q4;(repeat clear zq);go_wp2;go_roundw
       case rel=>exact ⟨n + 1,o,by omega,by go_num,rfl,HB7.out,by rw [HNX.out]; exact HO.out,HX7.out⟩
       case measure=>simp [intOf]; omega
    | true =>
      cases o with
      | none =>
        have HNX:=Lib.hid (hnew rfl HO.out.symm);have hbv:u7 = .slice none 0 0:=HB3.out;subst hbv;clear hno hnew hless;go_wp2_with fail;refine Flow.Q1h [.w,.w,.p,.p,.w,.w,.p,.p,.p,.p,.p,.w,.p,.w,.p,.p,.p] [0,1,2,3,4,5,6,7,8,9,10,11,12,13,14,15,16] [[],[],[],[],[1,2,3],[0,4],[5],[6],[6,7],[6,8],[9],[9,10],[9],[9,11,12],[9,11,13],[6,9,14],[6,15]]
         [.c 0 (.agg #[.int .i64 lim,.slice A T capa,.slice B M capb]),.c 1 (.agg #[.int .i64 lim,.slice A T capa,.slice B M capb]),.c 2 (.int .i64 (i:Int)),.c 3 (xc),⟨fun v wz=>(fun v w'=>Q0d w' (v 4) (m.Q3e cl)) v wz,by intro v a b hx h; exact Q0d.ext h hx⟩,.c 5 (.bool true),.c 6 (.bool true),.c 7 (.bool false),.c 8 (.bool true),.c 9 (.bool true),.c 10 (undef),.c 11 (undef),.c 12 (undef),.c 13 (undef),.c 14 (undef),.c 15 (.bool true),.c 16 (.bool true)]
         (by kernel_rfl) rfl (by kernel_rfl) ⟨?g0,?g1,?g2,?g3,?g4,?g5,?g6,?g7,?g8,?g9,?g10,?g11,?g12,?g13,?g14,?g15,?g16,trivial⟩ ?post
        case g0 | g1=>
         intro v w1 hx;intro bb hbb;intro K hK;have o1:bb.eval (.tmp 2) = .pointer (some ⟨gs,0,none⟩):=by rw [hbb]; dsimp only; (try simp (discharger:=decide) only [eval_put_ne]); rfl
         exact Q0l (.tmp 2) _ rfl Tryz.Y9z Tryz.Y2p o1 (HK3.out.ext (hdr.trans hx)) rfl (hK _ _ (Ext.refl _) rfl)
        case g2 | g3=>
         intro v w1 hx;intro bb hbb;subst hbb;refine ⟨_,fun w=>?_,rfl⟩;go_simp
        case g4=>
         intro v w1 hx;(repeat intro (zq:v _ = _));intro bb hbb;subst hbb;intro K hK;go_simp;refine Q0e (HFO.out w1 _ cl (HXW3.out.trans (hdr.trans hx)) (HC.out.ext (hdr.trans hx)) HCL.out) ?_;rintro e w2 ⟨x,rfl,h1,hx2⟩;exact ⟨_,rfl,hK _ _ hx2 h1⟩
        case g5=>
         intro v w1 hx (q0:v 0 = _) (q4:(fun v w'=>Q0d w' (v 4) (m.Q3e cl)) v w1);intro bb hbb;subst hbb;intro K hK;go_simp;refine Q0e (HDR.out w1 _ _ (HXW3.out.trans (hdr.trans hx)) q4) ?_;rintro e w2 ⟨rfl,hx2⟩;exact ⟨_,rfl,hK _ _ hx2 (congrArg Value.bool HDD.out)⟩
        case g6 | g16=>
         intro v w1 hx;(repeat intro (zq:v _ = _));intro bb hbb;subst hbb;refine ⟨_,fun w=>?_,rfl⟩;go_simp
        case g7 | g8 | g9 | g15=>
         intro v w1 hx;(repeat intro (zq:v _ = _));intro bb hbb;refine Flow.Q0i (d:=30) rfl rfl (by rw [hbb]; simp only [size_put]; exact (by decide:30 < 47)) (by rw [hbb]; dsimp only; (try simp (discharger:=decide) only [eval_put_ne]); rw [Q0a (by simp only [size_put]; exact (by decide:30 < 47))]; assumption) ?_
         subst hbb;refine ⟨_,fun w=>?_,rfl⟩;go_simp
        case g10 | g11 | g12 | g13 | g14=>
         intro v w1 hx;(repeat intro (zq:v _ = _));intro bb hbb;exact Flow.Q1b (d:=33) rfl rfl (by rw [hbb]; simp only [size_put]; exact (by decide:33 < 47)) (by rw [hbb]; dsimp only; (try simp (discharger:=decide) only [eval_put_ne]); rw [Q0a (by simp only [size_put]; exact (by decide:33 < 47))]; assumption) rfl
        case post =>
         intro v w1 hx;(iterate 4 intro (zq:v _ = _));intro (q4:(fun v w'=>Q0d w' (v 4) (m.Q3e cl)) v w1);(iterate 12 intro (zq:v _ = _));simp only [Flow.All,Flow.acts,Act.put];go_simp;have HX7:=Lib.hid (HX3.out.trans (hdr.trans hx));have HC7:=Lib.hid (HC.out.ext (hdr.trans hx));clear hx hdr q4;(repeat clear zq);go_wp2;go_roundw
         case rel=>exact ⟨n + 1,some cl,by omega,by go_num,rfl,HC7.out,HNX.out.symm,HX7.out⟩
         case measure=>simp [intOf]; omega
      | some b =>
        obtain ⟨q,hq⟩:∃ q,decide (countB cl < countB b) = q:=⟨_,rfl⟩;have HNX:=Lib.hid (hless b rfl HO.out.symm q hq);have HQ:=Lib.hid hq;have HBV:Hid (Q0x w3 u7 b):=Lib.hid HB3.out;clear hno hnew hless hq;go_wp2_with fail;refine Flow.Q1h [.w,.w,.p,.p,.w,.w,.p,.p,.p,.p,.p,.w,.p,.w,.p,.p,.p] [0,1,2,3,4,5,6,7,8,9,10,11,12,13,14,15,16] [[],[],[],[],[1,2,3],[0,4],[5],[6],[6,7],[6,8],[9],[9,10],[9],[9,11,12],[9,11,13],[6,9,14],[6,15]]
         [.c 0 (.agg #[.int .i64 lim,.slice A T capa,.slice B M capb]),.c 1 (.agg #[.int .i64 lim,.slice A T capa,.slice B M capb]),.c 2 (.int .i64 (i:Int)),.c 3 (xc),⟨fun v wz=>(fun v w'=>Q0d w' (v 4) (m.Q3e cl)) v wz,by intro v a b hx h; exact Q0d.ext h hx⟩,.c 5 (.bool true),.c 6 (.bool true),.c 7 (.bool true),.c 8 (.bool false),.c 9 (.bool false),.c 10 (xc),.c 11 (.int .i64 (countB cl)),.c 12 (u7),.c 13 (.int .i64 (countB b)),.c 14 (.bool (decide (countB cl < countB b))),.c 15 (.bool (decide (countB cl < countB b))),.c 16 (.bool (decide (countB cl < countB b)))]
         (by kernel_rfl) rfl (by kernel_rfl) ⟨?g0,?g1,?g2,?g3,?g4,?g5,?g6,?g7,?g8,?g9,?g10,?g11,?g12,?g13,?g14,?g15,?g16,trivial⟩ ?post
        case g0 | g1=>
         intro v w1 hx;intro bb hbb;intro K hK;have o1:bb.eval (.tmp 2) = .pointer (some ⟨gs,0,none⟩):=by rw [hbb]; dsimp only; (try simp (discharger:=decide) only [eval_put_ne]); rfl
         exact Q0l (.tmp 2) _ rfl Tryz.Y9z Tryz.Y2p o1 (HK3.out.ext (hdr.trans hx)) rfl (hK _ _ (Ext.refl _) rfl)
        case g2 | g3=>
         intro v w1 hx;intro bb hbb;subst hbb;refine ⟨_,fun w=>?_,rfl⟩;go_simp
        case g4=>
         intro v w1 hx;(repeat intro (zq:v _ = _));intro bb hbb;subst hbb;intro K hK;go_simp;refine Q0e (HFO.out w1 _ cl (HXW3.out.trans (hdr.trans hx)) (HC.out.ext (hdr.trans hx)) HCL.out) ?_;rintro e w2 ⟨x,rfl,h1,hx2⟩;exact ⟨_,rfl,hK _ _ hx2 h1⟩
        case g5=>
         intro v w1 hx (q0:v 0 = _) (q4:(fun v w'=>Q0d w' (v 4) (m.Q3e cl)) v w1);intro bb hbb;subst hbb;intro K hK;go_simp;refine Q0e (HDR.out w1 _ _ (HXW3.out.trans (hdr.trans hx)) q4) ?_;rintro e w2 ⟨rfl,hx2⟩;exact ⟨_,rfl,hK _ _ hx2 (congrArg Value.bool HDD.out)⟩
        case g6 | g16=>
         intro v w1 hx;(repeat intro (zq:v _ = _));intro bb hbb;subst hbb;refine ⟨_,fun w=>?_,rfl⟩;go_simp
        case g7 | g8 | g9 | g15=>
         intro v w1 hx;(repeat intro (zq:v _ = _));intro bb hbb;refine Flow.Q0i (d:=30) rfl rfl (by rw [hbb]; simp only [size_put]; exact (by decide:30 < 47)) (by rw [hbb]; dsimp only; (try simp (discharger:=decide) only [eval_put_ne]); rw [Q0a (by simp only [size_put]; exact (by decide:30 < 47))]; assumption) ?_
         subst hbb;refine ⟨_,fun w=>?_,rfl⟩;go_simp
        case g10 | g12 | g14=>
         intro v w1 hx;(repeat intro (zq:v _ = _));intro bb hbb;refine Flow.Q0i (d:=33) rfl rfl (by rw [hbb]; simp only [size_put]; exact (by decide:33 < 47)) (by rw [hbb]; dsimp only; (try simp (discharger:=decide) only [eval_put_ne]); rw [Q0a (by simp only [size_put]; exact (by decide:33 < 47))]; assumption) ?_
         subst hbb;refine ⟨_,fun w=>?_,rfl⟩;go_simp
        case g11=>
         intro v w1 hx;(repeat intro (zq:v _ = _));intro bb hbb;refine Flow.Q0i (d:=33) rfl rfl (by rw [hbb]; simp only [size_put]; exact (by decide:33 < 47)) (by rw [hbb]; dsimp only; (try simp (discharger:=decide) only [eval_put_ne]); rw [Q0a (by simp only [size_put]; exact (by decide:33 < 47))]; assumption) ?_
         subst hbb;intro K hK;go_simp;refine Q0e (X3a w1 _ cl (HC.out.ext (hdr.trans hx))) ?_;rintro e w2 ⟨rfl,hx2⟩;exact ⟨_,rfl,hK _ _ hx2 rfl⟩
        case g13=>
         intro v w1 hx;(repeat intro (zq:v _ = _));intro bb hbb;refine Flow.Q0i (d:=33) rfl rfl (by rw [hbb]; simp only [size_put]; exact (by decide:33 < 47)) (by rw [hbb]; dsimp only; (try simp (discharger:=decide) only [eval_put_ne]); rw [Q0a (by simp only [size_put]; exact (by decide:33 < 47))]; assumption) ?_
         subst hbb;intro K hK;go_simp;refine Q0e (X3a w1 _ b (HBV.out.ext (hdr.trans hx))) ?_;rintro e w2 ⟨rfl,hx2⟩;exact ⟨_,rfl,hK _ _ hx2 rfl⟩
        case post =>
         intro v w1 hx;(iterate 4 intro (zq:v _ = _));intro (q4:(fun v w'=>Q0d w' (v 4) (m.Q3e cl)) v w1);(iterate 12 intro (zq:v _ = _));simp only [Flow.All,Flow.acts,Act.put];go_simp;rw [HQ.out];have HX7:=Lib.hid (HX3.out.trans (hdr.trans hx));have HC7:=Lib.hid (HC.out.ext (hdr.trans hx));have HB7:=Lib.hid (HBV.out.ext (hdr.trans hx));clear hx hdr q4;(repeat clear zq);cases q with
         | false =>
           go_wp2;go_roundw
           case rel=>exact ⟨n + 1,some b,by omega,by go_num,rfl,HB7.out,HNX.out.symm,HX7.out⟩
           case measure=>simp [intOf]; omega
         | true =>
           go_wp2;go_roundw
           case rel=>exact ⟨n + 1,some cl,by omega,by go_num,rfl,HC7.out,HNX.out.symm,HX7.out⟩
           case measure=>simp [intOf]; omega
  . have hnI:¬ (n:Int) < N:=by omega
    have hnN:n = N:=by omega
    subst hnN;have hal:alone s i = o:=by rw [HAL.out,<- HO.out]
    have HAO:=Lib.hid hal;have HXR:=Lib.hid (HXW.out.trans HX0.out);clear hal;cases o with
    | none =>
      clear hbb;go_wp2
      go_ret3
      exact ⟨_,by rw [HAO.out]; rfl,by rw [HAO.out]; exact Go.Tw.Rows.nil _ _ _,HXR.out⟩
    | some b =>
      have HBV:Hid (Q0x wr u7 b):=Lib.hid HBB.out;clear hbb;go_wp2_with (go_at_call 105; refine (X3a wr _ b HBV.out).mono ?_; rintro e w6 ⟨rfl,hx6⟩)
      go_ret3
      exact ⟨u7,by rw [HAO.out]; rfl,by rw [HAO.out]; exact HBV.out.ext hx6,HXR.out.trans hx6⟩
end Go.Proofs
