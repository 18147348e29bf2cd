/- Contract of the reference: Doomed. Contract: Follow (of the program). -/
import Derived.Test.YthnobngcipaljaaGreatDoorPo35
import Derived.Test.YthnobngcipaljaaGreatDoorPo31
import Derived.Test.YthnobngcipaljaaGreatDoorPo29
import Derived.Test.YthnobngcipaljaaGreatDoorPo11
import Derived.Test.YthnobngcipaljaaGreatDoorPo06
set_option maxRecDepth 1000000
set_option maxHeartbeats 64000000
set_option linter.unusedVariables false
set_option linter.unusedSimpArgs false
set_option linter.constructorNameAsVariable false
namespace Go.Proofs
open Go.RowKit Go.Tw Go.Flow
attribute [local go_sem] Oper.semAt_some
def J1h (o:Option Nat):Int:=match o with | some t=>(t:Int) | none=>0
def J0p (o:Option Nat):Int:=match o with | some _=>0 | none=>7
theorem Y7x (w:World) (v:Value) (s:Q0b) (i:Nat) (hv:Q0h w v s) (hvs:Q0y s) (him:i < s.members.length) :
    Calls Tryz.prog 53 #[v,.int .i64 (i:Int)] w fun e w'=>e = .returned (.tuple #[.int .i64 (J1h (Q3s s i)),.int .i64 (J0p (Q3s s i))]) /\ Ext w w':=by
 obtain ⟨a,b,rfl,h2⟩:=hv;obtain ⟨A,capa,rfl,-,-,-⟩:=h2.ships.opened;obtain ⟨B,capb,rfl,-,-,-⟩:=h2.members.opened;have HV:=Lib.hid hvs;have hok:=fun t (ht:t <= s.ships.length)=>Q7y hvs him ht;have hT6:=hvs.tides;have HDA:=Lib.hid (fun k (hk:k < s.ships.length) h0 h1=>Y4q (s:=s) (i:=i) (k:=k) hk h0 h1);have HDN:=Lib.hid (fun h0=>Y0j (s:=s) (i:=i) h0);obtain ⟨T,hT⟩:∃ T,s.ships.length = T:=⟨_,rfl⟩;rw [hT] at hok hT6 HDA HDN;have HOK:=Lib.hid hok;have hin:∀ x ∈ (Q1l s i).inflow,0 <= x /\ x <= 1024:=hvs.inflow i him;obtain ⟨m,hm⟩:∃ m,Q1l s i = m:=⟨_,rfl⟩;rw [hm] at hin HOK HDA HDN;have HIN:=Lib.hid hin;obtain ⟨lim,hlim⟩:∃ l,s.limit = l:=⟨_,rfl⟩;rw [hlim] at HDA HDN;have HSEA:Hid (∀ W,Ext w W -> Q0h W (.agg #[.int .i64 lim,.slice A T capa,.slice B s.members.length capb]) s):=Lib.hid (fun W hW=>⟨_,_,by rw [hlim],by rw [<- hT]; exact h2.ext hW⟩)
 have HFO:=Lib.hid (fun (W:World) (u:Value) (l:List Bool) (hW:Ext w W) (hu:Q0x W u l) (hl:l.length <= T)=>(by
  have hlo:=HOK.out l.length hl;have h:=X0v W _ u s i l (HSEA.out W hW) him hu (by omega) (by rw [hm]; exact hlo.out) (by rw [hm]; exact hlo.inf) (by rw [hm]; exact HIN.out)
  rw [hm] at h; exact h:Calls Tryz.prog 51 #[.agg #[.int .i64 lim,.slice A T capa,.slice B s.members.length capb],.int .i64 (i:Int),u] W fun e w'=>∃ x,e = .returned x /\ Q0d w' x (m.Q3e l) /\ Ext W w'))
 have HDR:=Lib.hid (fun (W:World) (u:Value) (l:List Int) (hW:Ext w W) (hu:Q0d W u l)=>(by
  have h:=Z0o W _ u s l (HSEA.out W hW) hu;rw [hlim] at h; exact h:Calls Tryz.prog 104 #[.agg #[.int .i64 lim,.slice A T capa,.slice B s.members.length capb],u] W fun e w'=>e = .returned (.bool (Z3x lim l)) /\ Ext W w'))
 rw [hlim,hT];obtain ⟨M,hMM⟩:∃ M,s.members.length = M:=⟨_,rfl⟩;rw [hMM] at HFO HDR ⊢;clear h2 hvs hok hT hm hlim hMM him hin;go_enter Tryz.func53,Tryz.ntmps53;go_wp2_with fail;obtain ⟨W,hWW,k0,HXW,eW⟩:=Q1q w 25 #[.int .i64 lim,.slice A T capa,.slice B M capb];rw [hWW];clear hWW;obtain ⟨gs,hgs⟩:∃ x,w.heap.size = x:=⟨_,rfl⟩;rw [hgs] at k0 ⊢;have K0:=Lib.hid k0;clear k0 hgs eW
 go_loopw [6] (fun t wr=>∃ (k:Nat),k <= T /\ t = .int .i64 k /\ (∀ t,t < k -> m.Q8g lim (t + 1) = true) /\ Ext W wr) (fun t _=>T - (intOf t).toNat)
 case atStart=>exact ⟨0,Nat.zero_le _,rfl,fun t h=>absurd h (Nat.not_lt_zero _),Ext.refl _⟩
 case round =>
  obtain ⟨k,hk,rfl,hsv,hx0⟩:=hrel;have c1:wr.cell? ⟨gs,1,none⟩ = some (.slice A T capa):=(K0.out.ext hx0).cell 1;have HX0:=Lib.hid hx0;have HSV:=Lib.hid hsv;clear hx0 hsv
  by_cases hlt:k < T
  . have hkI:(k:Int) < T:=by omega
    have hw1:IntKind.i64.wrap ((k:Int) + 1) = (k:Int) + 1:=Q2p _ (by omega) (by omega)
    have p1:=Z5x (n:=k + 1) (by omega)
    have hN2:2 ^ (k + 1) <= 256:=Nat.pow_le_pow_right (n:=2) (by omega) (by omega:k + 1 <= 8)
    have hsb:Q6o m lim (k + 1) (2 ^ (k + 1)) = m.Q8g lim (k + 1):=rfl;obtain ⟨N,hN⟩:∃ N,2 ^ (k + 1) = N:=⟨_,rfl⟩;rw [hN] at p1 hN2 hsb;have HSB:=Lib.hid hsb;have hsh:((k:Int) + 1).toNat = k + 1:=by omega
    have hs0:¬ ((k:Int) + 1 < 0):=by omega
    have hmn:min (k + 1) 64 = k + 1:=by omega
    obtain ⟨wq,rfl⟩:∃ Z,Z = wr:=⟨_,rfl⟩;clear hN hsb;go_wp2_with fail;clear c1
    go_loopw [7,8] (fun l c w2=>∃ (n:Nat),n <= N /\ c = .int .i64 n /\ l = .bool (!(Q6o m lim (k + 1) n)) /\ Ext wq w2) (fun _ c _=>N - (intOf c).toNat)
    case atStart=>exact ⟨0,Nat.zero_le _,rfl,rfl,Ext.refl _⟩
    case round =>
     obtain ⟨n,hn,rfl,rfl,hx1⟩:=hrel
     by_cases hnl:n < N
     . have hnI:(n:Int) < N:=by omega
       have hst:=X4s m lim (k + 1) n;have HCD:=Lib.hid (fun (W:World)=>Y1i W n (k + 1) (by omega) (by omega))
       have hcl:=Q7o n (k + 1);obtain ⟨cl,hcle⟩:∃ c,Q4f n (k + 1) = c:=⟨_,rfl⟩;rw [hcle] at hst hcl HCD;rw [Y6m] at hst;obtain ⟨dr,hdr0⟩:∃ d,Z3x lim (m.Q3e cl) = d:=⟨_,rfl⟩;have HDD:=Lib.hid hdr0;rw [hdr0] at hst;obtain ⟨st,hstt⟩:∃ d,Q6o m lim (k + 1) n = d:=⟨_,rfl⟩;rw [hstt] at hst ⊢;have HST:=Lib.hid hst;have HCL:=Lib.hid hcl;have HX1:=Lib.hid hx1;have HXW3:=Lib.hid (HXW.out.trans (HX0.out.trans hx1));have HK3:=Lib.hid (K0.out.ext (HX0.out.trans hx1));have HCD':Hid (∀ W:World,Calls Tryz.prog 130 #[.int .i64 (n:Int),.int .i64 ((k:Int) + 1)] W fun e w'=>∃ x,e = .returned x /\ Q0x w' x cl /\ Ext W w'):=Lib.hid (fun W=>by have h:=HCD.out W; rwa [show ((k + 1:Nat):Int) = (k:Int) + 1 from by omega] at h)
       have hdr:=(Ext.refl wr).drew;clear hst hcl hcle hdr0 hstt hx1 HCD;obtain ⟨wz,rfl⟩:∃ Z,Z = wr:=⟨_,rfl⟩;cases st with
       | true =>
         go_wp2_with fail;refine Flow.Q1h [.p,.p,.w,.w,.p,.p,.p,.p,.w,.w,.w,.p,.p,.p] [0,1,2,3,4,5,6,7,8,9,10,11,12,13] [[],[0],[1],[1],[1],[1],[1],[1,6],[1,5,7],[1,3,4,8],[1,2,9],[1,10],[1,11],[0,1,2,3,4,5,6,7,8,9,10,11,12]]
          [.c 0 (.bool false),.c 1 (.bool false),.c 2 (undef),.c 3 (undef),.c 4 (undef),.c 5 (undef),.c 6 (undef),.c 7 (undef),.c 8 (undef),.c 9 (undef),.c 10 (undef),.c 11 (undef),.c 12 (.bool false),.c 13 (.bool false)]
          (by kernel_rfl) rfl (by kernel_rfl) ⟨?g0,?g1,?g2,?g3,?g4,?g5,?g6,?g7,?g8,?g9,?g10,?g11,?g12,?g13,trivial⟩ ?post
         case g0=>
          intro v w1 hx;intro bb hbb;subst hbb;refine ⟨_,fun w=>?_,rfl⟩;go_simp
         case g1 | g12 | g13=>
          intro v w1 hx;(repeat intro (zq:v _ = _));intro bb hbb;subst hbb;refine ⟨_,fun w=>?_,rfl⟩;go_simp
         case g2 | g3 | g4 | g5 | g6 | g7 | g8 | g9 | g10 | g11=>
          intro v w1 hx;(repeat intro (zq:v _ = _));intro bb hbb;exact Flow.Q1b (d:=24) rfl rfl (by rw [hbb]; simp only [size_put]; exact (by decide:24 < 38)) (by rw [hbb]; dsimp only; (try simp (discharger:=decide) only [eval_put_ne]); rw [Q0a (by simp only [size_put]; exact (by decide:24 < 38))]; assumption) rfl
         case post =>
          intro v w1 hx;(iterate 14 intro (zq:v _ = _));simp only [Flow.All,Flow.acts,Act.put];go_simp;have HX8:=Lib.hid (HX1.out.trans (hdr.trans hx));clear hx hdr;(repeat clear zq);go_wp2;go_roundw
          case rel=>exact ⟨n + 1,by omega,by go_num,by rw [HST.out]; rfl,HX8.out⟩
          case measure=>simp [intOf]; omega
       | false =>
         go_wp2_with fail;refine Flow.Q1h [.p,.p,.w,.w,.p,.p,.p,.p,.w,.w,.w,.p,.p,.p] [0,1,2,3,4,5,6,7,8,9,10,11,12,13] [[],[0],[1],[1],[1],[1],[1],[1,6],[1,5,7],[1,3,4,8],[1,2,9],[1,10],[1,11],[0,1,2,3,4,5,6,7,8,9,10,11,12]]
          [.c 0 (.bool true),.c 1 (.bool true),.c 2 (.agg #[.int .i64 lim,.slice A T capa,.slice B M capb]),.c 3 (.agg #[.int .i64 lim,.slice A T capa,.slice B M capb]),.c 4 (.int .i64 (i:Int)),.c 5 (.int .i64 (n:Int)),.c 6 (.int .i64 (k:Int)),.c 7 (.int .i64 ((k:Int) + 1)),⟨fun v wz=>(fun v w'=>Q0x w' (v 8) cl) v wz,by intro v a b hx h; exact Q0x.ext h hx⟩,⟨fun v wz=>(fun v w'=>Q0d w' (v 9) (m.Q3e cl)) v wz,by intro v a b hx h; exact Q0d.ext h hx⟩,.c 10 (.bool dr),.c 11 (.bool (!dr)),.c 12 (.bool (!dr)),.c 13 (.bool (!dr))]
          (by kernel_rfl) rfl (by kernel_rfl) ⟨?g0,?g1,?g2,?g3,?g4,?g5,?g6,?g7,?g8,?g9,?g10,?g11,?g12,?g13,trivial⟩ ?post
         case g0=>
          intro v w1 hx;intro bb hbb;subst hbb;refine ⟨_,fun w=>?_,rfl⟩;go_simp
         case g1 | g12=>
          intro v w1 hx;(repeat intro (zq:v _ = _));intro bb hbb;subst hbb;refine ⟨_,fun w=>?_,rfl⟩;go_simp
         case g2 | g3=>
          intro v w1 hx;(repeat intro (zq:v _ = _));intro bb hbb;refine Flow.Q0i (d:=24) rfl rfl (by rw [hbb]; simp only [size_put]; exact (by decide:24 < 38)) (by rw [hbb]; dsimp only; (try simp (discharger:=decide) only [eval_put_ne]); rw [Q0a (by simp only [size_put]; exact (by decide:24 < 38))]; assumption) ?_
          intro K hK;have o1:bb.eval (.tmp 2) = .pointer (some ⟨gs,0,none⟩):=by rw [hbb]; dsimp only; (try simp (discharger:=decide) only [eval_put_ne]); rfl
          exact Q0l (.tmp 2) _ rfl Tryz.Y9z Tryz.Y2p o1 (HK3.out.ext (hdr.trans hx)) rfl (hK _ _ (Ext.refl _) rfl)
         case g4 | g5 | g6 | g7 | g11=>
          intro v w1 hx;(repeat intro (zq:v _ = _));intro bb hbb;refine Flow.Q0i (d:=24) rfl rfl (by rw [hbb]; simp only [size_put]; exact (by decide:24 < 38)) (by rw [hbb]; dsimp only; (try simp (discharger:=decide) only [eval_put_ne]); rw [Q0a (by simp only [size_put]; exact (by decide:24 < 38))]; assumption) ?_
          subst hbb;refine ⟨_,fun w=>?_,rfl⟩;go_simp
         case g8=>
          intro v w1 hx;(repeat intro (zq:v _ = _));intro bb hbb;refine Flow.Q0i (d:=24) rfl rfl (by rw [hbb]; simp only [size_put]; exact (by decide:24 < 38)) (by rw [hbb]; dsimp only; (try simp (discharger:=decide) only [eval_put_ne]); rw [Q0a (by simp only [size_put]; exact (by decide:24 < 38))]; assumption) ?_
          subst hbb;intro K hK;go_simp;refine Q0e (HCD'.out w1) ?_;rintro e w2 ⟨x,rfl,h1,hx2⟩;exact ⟨_,rfl,hK _ _ hx2 h1⟩
         case g9=>
          intro v w1 hx (q1:v 1 = _) (q3:v 3 = _) (q4:v 4 = _) (q8:(fun v w'=>Q0x w' (v 8) cl) v w1);intro bb hbb;refine Flow.Q0i (d:=24) rfl rfl (by rw [hbb]; simp only [size_put]; exact (by decide:24 < 38)) (by rw [hbb]; dsimp only; (try simp (discharger:=decide) only [eval_put_ne]); rw [Q0a (by simp only [size_put]; exact (by decide:24 < 38))]; exact q1) ?_
          subst hbb;intro K hK;go_simp;refine Q0e (HFO.out w1 _ cl (HXW3.out.trans (hdr.trans hx)) q8 (by rw [HCL.out]; omega)) ?_
          rintro e w2 ⟨x,rfl,h1,hx2⟩;exact ⟨_,rfl,hK _ _ hx2 h1⟩
         case g10=>
          intro v w1 hx (q1:v 1 = _) (q2:v 2 = _) (q9:(fun v w'=>Q0d w' (v 9) (m.Q3e cl)) v w1);intro bb hbb;refine Flow.Q0i (d:=24) rfl rfl (by rw [hbb]; simp only [size_put]; exact (by decide:24 < 38)) (by rw [hbb]; dsimp only; (try simp (discharger:=decide) only [eval_put_ne]); rw [Q0a (by simp only [size_put]; exact (by decide:24 < 38))]; exact q1) ?_
          subst hbb;intro K hK;go_simp;refine Q0e (HDR.out w1 _ _ (HXW3.out.trans (hdr.trans hx)) q9) ?_;rintro e w2 ⟨rfl,hx2⟩;exact ⟨_,rfl,hK _ _ hx2 (congrArg Value.bool HDD.out)⟩
         case g13=>
          intro v w1 hx (q0:v 0 = _) (q1:v 1 = _) (q2:v 2 = _) (q3:v 3 = _) (q4:v 4 = _) (q5:v 5 = _) (q6:v 6 = _) (q7:v 7 = _) _ _ (q10:v 10 = _) (q11:v 11 = _) (q12:v 12 = _);intro bb hbb;subst hbb;refine ⟨_,fun w=>?_,rfl⟩;go_simp
         case post =>
          intro v w1 hx;(iterate 8 intro (zq:v _ = _));intro (q8:(fun v w'=>Q0x w' (v 8) cl) v w1) (q9:(fun v w'=>Q0d w' (v 9) (m.Q3e cl)) v w1);(iterate 4 intro (zq:v _ = _));simp only [Flow.All,Flow.acts,Act.put];go_simp;have HX8:=Lib.hid (HX1.out.trans (hdr.trans hx));clear hx hdr q8 q9;(repeat clear zq);go_wp2;go_roundw
          case rel=>exact ⟨n + 1,by omega,by go_num,by rw [HST.out]; simp,HX8.out⟩
          case measure=>simp [intOf]; omega
     . have hnI:¬ (n:Int) < N:=by omega
       have hnN:n = N:=by omega
       subst hnN;rw [HSB.out];have HXQ:=Lib.hid (HX0.out.trans hx1);cases hsv:m.Q8g lim (k + 1) with
       | false =>
         have hdn:Q3s s i = some k:=HDA.out k hlt HSV.out hsv;have HD:=Lib.hid hdn;clear hsv hdn hx1;go_wp2;refine bodyPost_ret (results_tmp2 Tryz.results53 _ _ _) rfl ?_;exact ⟨by rw [HD.out]; rfl,HXW.out.trans HXQ.out⟩
       | true =>
         have HS2:=Lib.hid hsv;clear hsv hx1;go_wp2;go_roundw
         case rel=>exact ⟨k + 1,by omega,by go_num,(fun t ht=>by
          rcases Nat.lt_or_ge t k with h | h
          . exact HSV.out t h
          . have e:t = k:=by omega
            subst e; exact HS2.out),HXQ.out⟩
         case measure=>simp [intOf]; omega
  . have hkI:¬ (k:Int) < T:=by omega
    have hkT:k = T:=by omega
    have hdn:Q3s s i = none:=HDN.out (by rw [<- hkT]; exact HSV.out)
    have HD:=Lib.hid hdn;have HXR:=Lib.hid (HXW.out.trans HX0.out);clear hkT hdn;go_wp2;refine bodyPost_ret (results_tmp2 Tryz.results53 _ _ _) rfl ?_;exact ⟨by rw [HD.out]; rfl,HXR.out⟩
end Go.Proofs
namespace Go.Proofs
open Go.RowKit Go.Tw Go.Flow
attribute [local go_sem] Oper.semAt_some
def Q2f (s:Q0b) (n:Int) (l:List Bool):Int:=Q0j [s.err,Q0q (Q6h s n) 10,Q0q (!decide (l.length = s.ships.length)) 2]
def Q8j (s:Q0b) (n:Int) (l:List Bool):List Int:=if Q2f s n l = 0 then (Q1l s n.toNat).Q3e l else []
theorem Y5n {s:Q0b} {n:Int} {l:List Bool} (h:Q2f s n l = 0):Q3m s n = 0 /\ l.length = s.ships.length:=by
 unfold Q2f at h;unfold Q3m;rw [Q0g] at h
 by_cases he:s.err = 0
 . rw [if_pos he,Q0g] at h
   by_cases hm:Q0q (Q6h s n) 10 = 0
   . rw [if_pos hm,Q0g] at h
     by_cases hl:l.length = s.ships.length
     . refine ⟨?_,hl⟩
       rw [Q0g,if_pos he,Q0g,if_pos hm]; rfl
     . have hw:Q0q (!decide (l.length = s.ships.length)) 2 = 2:=by simp [Q0q,hl]
       rw [hw] at h; exact absurd h (by decide)
   . rw [if_neg hm] at h; exact absurd h hm
 . rw [if_neg he] at h; exact absurd h he
theorem Y8e (w:World) (v u:Value) (s:Q0b) (n:Int) (l:List Bool) (hv:Q0h w v s) (hu:Q0x w u l) (hs:Q3d s) :
    Calls Tryz.prog 49 #[v,.int .i64 n,u] w fun e w'=>∃ x,e = .returned (.tuple #[x,.int .i64 (Q2f s n l)]) /\ Q0d w' x (Q8j s n l) /\ Ext w w':=by
 obtain ⟨a,b,rfl,h2⟩:=hv;obtain ⟨A,capa,rfl,-,-,-⟩:=h2.ships.opened;obtain ⟨B,capb,rfl,-,-,-⟩:=h2.members.opened;have HU:=Lib.hid hu;obtain ⟨U,capu,rfl,-,-,-⟩:=hu.opened;have H2:=Lib.hid h2;have HS:=Lib.hid hs;clear h2 hs hu;obtain ⟨L,hL⟩:∃ L,l.length = L:=⟨_,rfl⟩;have HL:=Lib.hid hL;obtain ⟨T,hT⟩:∃ L,s.ships.length = L:=⟨_,rfl⟩;have HT:=Lib.hid hT;obtain ⟨z,hz⟩:∃ z,(!decide (l.length = s.ships.length)) = z:=⟨_,rfl⟩;have HZ:Hid (((L:Int) != (T:Int)) = z):=Lib.hid (by
  rw [<- hz,hL,hT]
  by_cases h:L = T
  . simp [h]
  . simp [h]; omega)
 have HE1:Hid (∀ (W:World) (u:Value),Q0d W u [s.err,Q0q (Q6h s n) 10,Q0q z 2] -> Calls Tryz.prog 96 #[u] W fun e W'=>e = .returned (.int .i64 (Q2f s n l)) /\ W = W'):=Lib.hid (fun W u h=>by
  have:=first_any W u _ h;rw [<- hz] at this; exact this)
 rw [hL,hT];clear hL hT hz;go_enter Tryz.func49,Tryz.ntmps49;go_wp2_with fail;obtain ⟨W,hWW,k0,HXW,eW⟩:=Q1q w 34 #[.int .i64 s.limit,.slice A T capa,.slice B s.members.length capb];rw [hWW];clear hWW;obtain ⟨gs,hgs⟩:∃ x,w.heap.size = x:=⟨_,rfl⟩;rw [hgs] at k0 ⊢;have K0:=Lib.hid k0;clear k0 hgs eW;have hdr:=(Ext.refl W).drew;have HSE:Hid (∀ W',Ext W W' -> Q0h W' (.agg #[.int .i64 s.limit,.slice A T capa,.slice B s.members.length capb]) s):=Lib.hid (fun W' hW=>⟨_,_,rfl,by rw [<- HT.out]; exact H2.out.ext (HXW.out.trans hW)⟩)
 refine Flow.Q1h [.w,.w,.w,.p,.w,.p,.p,.p,.w,.p,.p,.w,.w,.w,.p] [0,1,2,3,4,5,6,7,8,9,10,11,12,13,14] [[],[0],[],[],[1,2,3],[],[5],[],[7],[8],[6,9],[4,10],[1,4,11],[11,12],[0,1,2,3,4,5,6,7,8,9,10,11,12,13]]
  [.c 0 (.agg #[.int .i64 s.limit,.slice A T capa,.slice B s.members.length capb]),.c 1 (.int .i64 s.err),.c 2 (.agg #[.int .i64 s.limit,.slice A T capa,.slice B s.members.length capb]),.c 3 (.int .i64 n),.c 4 (.int .i64 (Q0q (Q6h s n) 10)),.c 5 (.slice U L capu),.c 6 (.int .i64 ((L:Nat):Int)),.c 7 (.pointer (some ⟨gs,1,none⟩)),.c 8 (.slice A T capa),.c 9 (.int .i64 ((T:Nat):Int)),.c 10 (.bool z),.c 11 (.int .i64 (Q0q z 2)),⟨fun v wz=>(fun v w'=>Q0d w' (v 12) [s.err,Q0q (Q6h s n) 10,Q0q z 2]) v wz,by intro v a b hx h; exact Q0d.ext h hx⟩,.c 13 (.int .i64 (Q2f s n l)),.c 14 (.int .i64 (Q2f s n l))]
  (by kernel_rfl) rfl (by kernel_rfl) ⟨?g0,?g1,?g2,?g3,?g4,?g5,?g6,?g7,?g8,?g9,?g10,?g11,?g12,?g13,?g14,trivial⟩ ?post
 case g0 | g2=>
  intro v w1 hx;intro bb hbb;intro K hK;have o1:bb.eval (.tmp 3) = .pointer (some ⟨gs,0,none⟩):=by rw [hbb]; dsimp only; (try simp (discharger:=decide) only [eval_put_ne]); rfl
  exact Q0l (.tmp 3) _ rfl Tryz.X7e Tryz.Q8c o1 (K0.out.ext (hdr.trans hx)) rfl (hK _ _ (Ext.refl _) rfl)
 case g1=>
  intro v w1 hx;(repeat intro (zq:v _ = _));intro bb hbb;subst hbb;intro K hK;go_simp;refine Q0e (Q1s w1 _ s (HSE.out w1 (hdr.trans hx)) HS.out) ?_;rintro e w2 ⟨rfl,hx2⟩;exact ⟨_,rfl,hK _ _ hx2 rfl⟩
 case g3 | g5 | g7=>
  intro v w1 hx;intro bb hbb;subst hbb;refine ⟨_,fun w=>?_,rfl⟩;go_simp
 case g4=>
  intro v w1 hx;(repeat intro (zq:v _ = _));intro bb hbb;subst hbb;intro K hK;go_simp;refine Q0e (Q4l w1 _ s n (HSE.out w1 (hdr.trans hx))) ?_;rintro e w2 ⟨rfl,hx2⟩;exact ⟨_,rfl,hK _ _ hx2 rfl⟩
 case g6 | g9=>
  intro v w1 hx;(repeat intro (zq:v _ = _));intro bb hbb;subst hbb;refine ⟨_,fun w=>?_,rfl⟩;go_simp
 case g8=>
  intro v w1 hx;(repeat intro (zq:v _ = _));intro bb hbb;subst hbb;have n0:w1.cell? ⟨gs,1,none⟩ = some (.slice A T capa):=(K0.out.ext (hdr.trans hx)).cell 1;intro K hK;go_simp;exact hK _ _ (Ext.refl _) rfl
 case g10=>
  intro v w1 hx;(repeat intro (zq:v _ = _));intro bb hbb;subst hbb;refine ⟨.bool z,fun w=>?_,rfl⟩;go_simp;exact HZ.out
 case g11=>
  intro v w1 hx;(repeat intro (zq:v _ = _));intro bb hbb;subst hbb;intro K hK;go_simp;refine Q0e (Q5o w1 z 2) ?_;rintro e w2 ⟨rfl,rfl⟩;exact ⟨_,rfl,hK _ _ (Ext.refl _) rfl⟩
 case g12=>
  intro v w1 hx;(repeat intro (zq:v _ = _));intro bb hbb;subst hbb;intro K hK;go_simp;exact hK _ _ (Ext.box _ _) (Q3i (l:=[s.err,Q0q (Q6h s n) 10,Q0q z 2]) (by simp))
 case g13=>
  intro v w1 hx (q11:v 11 = _) (q12:(fun v w'=>Q0d w' (v 12) [s.err,Q0q (Q6h s n) 10,Q0q z 2]) v w1);intro bb hbb;subst hbb;intro K hK;go_simp;refine Q0e (HE1.out w1 _ q12) ?_;rintro e w2 ⟨rfl,rfl⟩;exact ⟨_,rfl,hK _ _ (Ext.refl _) rfl⟩
 case g14=>
  intro v w1 hx (q0:v 0 = _) (q1:v 1 = _) (q2:v 2 = _) (q3:v 3 = _) (q4:v 4 = _) (q5:v 5 = _) (q6:v 6 = _) (q7:v 7 = _) (q8:v 8 = _) (q9:v 9 = _) (q10:v 10 = _) (q11:v 11 = _) _ (q13:v 13 = _);intro bb hbb;subst hbb;refine ⟨_,fun w=>?_,rfl⟩;go_simp
 case post =>
  intro v w1 hx;(iterate 12 intro (zq:v _ = _));intro (q12:(fun v w'=>Q0d w' (v 12) [s.err,Q0q (Q6h s n) 10,Q0q z 2]) v w1);(iterate 2 intro (zq:v _ = _));simp only [Flow.All,Flow.acts,Act.put];go_simp;have HX5:=Lib.hid (HXW.out.trans (hdr.trans hx));have HK5:=Lib.hid (K0.out.ext (hdr.trans hx));obtain ⟨w5,rfl⟩:∃ X,X = w1:=⟨_,rfl⟩;obtain ⟨y5,hy5⟩:∃ z,v 12 = z:=⟨_,rfl⟩;rw [hy5];clear hx hdr hy5 q12;(repeat clear zq)
  by_cases he:Q2f s n l = 0
  . obtain ⟨hsm,hlen⟩:=Y5n he
    obtain ⟨hvs,hn0,hn1⟩:=X2w hsm;have hne:(Q2f s n l != 0) = false:=by simp [he]
    obtain ⟨i,rfl⟩:∃ i:Nat,n = (i:Int):=⟨n.toNat,by omega⟩
    have him:i < s.members.length:=by omega
    have HFR:Hid (Q8j s (i:Int) l = (Q1l s i).Q3e l):=Lib.hid (by unfold Q8j; rw [if_pos he,Int.toNat_natCast])
    have HE0':=Lib.hid he;obtain ⟨E,hE⟩:∃ E,Q2f s (i:Int) l = E:=⟨_,rfl⟩;have HEE:=Lib.hid hE;rw [hE] at hne ⊢;obtain ⟨bm,off,capx,capy,capz,X,Y,Z,hme⟩:=Q2k (H2.out.members.ext HX5.out) him;have hA:=hme.addr;subst hA;have e0:=hme.e0;have e1:=hme.e1;have e2:=hme.e2;have e3:=hme.e3;have e4:=hme.e4;have hT6:=hvs.tides;have HPK:=Lib.hid (X4d w5 _ _ (Q1l s i) l (hme.mem (Ext.refl _)) (HU.out.ext HX5.out) (by omega) (Q7y hvs him (by omega)))
    rw [HL.out] at HPK;have c2:w5.cell? ⟨gs,2,none⟩ = some (.slice (some ⟨bm,off,none⟩) s.members.length capb):=HK5.out.cell 2;have hiI:(i:Int) < s.members.length:=by omega
    obtain ⟨nm,hnm⟩:∃ x,Q1k s.members i = x:=⟨_,rfl⟩;obtain ⟨wt,hwt⟩:∃ x,Q0k s.members i = x:=⟨_,rfl⟩;obtain ⟨lc,hlc⟩:∃ x,(Q0c s.members i).length = x:=⟨_,rfl⟩;obtain ⟨lo,hlo⟩:∃ x,(Q0r s.members i).length = x:=⟨_,rfl⟩;obtain ⟨li,hli⟩:∃ x,(Q0z s.members i).length = x:=⟨_,rfl⟩;rw [hnm] at e0 HPK;rw [hwt] at e1 HPK;rw [hlc] at e2 HPK;rw [hlo] at e3 HPK;rw [hli] at e4 HPK;clear he hE hvs hn0 hn1 hme hnm hwt hlc hlo hli hsm him hT6;go_wp2_with (go_at_call 127; refine HPK.out.mono ?_; rintro e w6 ⟨x,rfl,h1,hx6⟩);refine bodyPost_ret (results_tmp2 Tryz.results49 _ _ _) rfl ?_;exact ⟨_,by rw [<- HEE.out,HE0'.out]; rfl,by rw [HFR.out]; exact h1,HX5.out.trans hx6⟩
  . have HFR:Hid (Q8j s n l = []):=Lib.hid (if_neg he)
    have hne:(Q2f s n l != 0) = true:=by simp [he]
    clear he;go_wp2;refine bodyPost_ret (results_tmp2 Tryz.results49 _ _ _) rfl ?_;exact ⟨_,rfl,by rw [HFR.out]; exact Go.Tw.Rows.nil _ _ _,HX5.out⟩
end Go.Proofs
