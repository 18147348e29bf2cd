/- Contracts of the reference: Closings, Delay. Contracts of the reference: Short, ShortPolicy, ShortGroups. A list of lists that a call makes and appends to. Lists of lists whose parts are the call's own. -/
import Derived.Test.YthnobngcipaljaaGreatDoorPo34
import Derived.Test.YthnobngcipaljaaGreatDoorPo36
import Derived.Test.YthnobngcipaljaaGreatDoorPc01
set_option maxRecDepth 1000000
set_option maxHeartbeats 64000000
set_option linter.unusedVariables false
set_option linter.unusedSimpArgs false
set_option linter.constructorNameAsVariable false
namespace Go.Proofs
open Go.RowKit Go.Tw Go.Flow
attribute [local go_sem] Oper.semAt_some
theorem J5u (w:World) (v u:Value) (s:Q0b) (p:List Rul) (hv:Q0h w v s) (hu:Q1c w u p) (hS:Q0y s) (hp:Q2g s.hist p = 0) :
    Calls Tryz.prog 31 #[v,u] w fun e w'=>e = .returned (.int .i64 (Q5f s p)) /\ Ext w w':=by
 have h8:=hS.some.2;have HS:=Lib.hid hS;have HALL:Hid (Q4j s p (countB) s.members.length = Q5f s p):=Lib.hid (Y1a s p (countB));have HBD:=Lib.hid (fun k hk=>X7r hS p (f:=countB) (M:=6) (by omega) (X2f hS) k hk)
 have HONE:Hid (∀ k,k < s.members.length -> (0 <= (countB) (Q0o p (Q0c s.members k)) /\ (countB) (Q0o p (Q0c s.members k)) <= 6) /\ 1 <= Q0k s.members k /\ Q0k s.members k <= 1000):=Lib.hid (fun k hk=>⟨X2f hS _ (by rw [Q2r,(hS.shaped k hk).1]; exact Nat.le_refl _),hS.weights k hk⟩)
 have HCLG:Hid (∀ (w:World) (v u:Value) (i:Nat),i < s.members.length -> Q0h w v s -> Q1c w u p -> Calls Tryz.prog 106 #[v,u,.int .i64 (i:Int)] w fun e w'=>∃ x,e = .returned x /\ Q0x w' x (Q0o p (Q0c s.members i)) /\ Ext w w'):=Lib.hid (fun w v u i h h1 h2=>J5e w v u s p i h1 h2 hS hp h);obtain ⟨a,b,rfl,h2⟩:=hv;obtain ⟨rv,rfl,hr⟩:=hu;obtain ⟨A,capa,rfl,-,-,-⟩:=h2.ships.opened;obtain ⟨B,capb,rfl,hlb,-,hc⟩:=h2.members.opened;obtain ⟨R,capr,rfl,-,-,-⟩:=hr.opened;have HCC:Hid (∀ k,k < s.members.length -> ∃ b off,B = some ⟨b,off,none⟩ /\ w.cell? ⟨b,off + k * 5 + 1,none⟩ = some (.int .i64 (Q0k s.members k))):=Lib.hid (fun k hk=>by
  obtain ⟨b',off',_,_,_,hA,_,_,h1,_⟩:=hc k hk;exact ⟨b',off',hA,h1⟩)
 have H2:=Lib.hid h2;have HR:=Lib.hid hr;clear h2 hr hc hS hp;go_enter Tryz.func31,Tryz.ntmps31;go_wp2_with fail;change Code.wp _ _ _ _ ((w.alloc (.cells #[.int .i64 s.limit,.slice A s.ships.length capa,.slice B s.members.length capb] 25)).alloc (.cells #[.slice R p.length capr] 47));obtain ⟨W,hWW,k0,k1,HXW,eW⟩:=Q4e w 25 #[.int .i64 s.limit,.slice A s.ships.length capa,.slice B s.members.length capb] 47 #[.slice R p.length capr];rw [hWW];clear hWW;have K0:=Lib.hid k0;have K1:=Lib.hid k1;obtain ⟨gs,hgs⟩:∃ x,w.heap.size = x:=⟨_,rfl⟩;rw [hgs] at K0 K1 eW ⊢;clear k0 k1
 go_loopw [5,6] (fun o i wr=>∃ (k:Nat),k <= s.members.length /\ i = .int .i64 k /\ o = .int .i64 (Q4j s p (countB) k) /\ Ext W wr) (fun _ i _=>s.members.length - (intOf i).toNat)
 case atStart=>exact ⟨0,Nat.zero_le _,rfl,rfl,Ext.refl _⟩
 case round =>
  obtain ⟨k,hk,rfl,rfl,hxr⟩:=hrel;have c2:=(K0.out.ext hxr).cell 2;simp only [Go.Tw.gA,Go.Tw.gB,Go.Tw.gC] at c2;have HXR:=Lib.hid hxr;clear hxr
  by_cases hlt:k < s.members.length
  . have hkI:(k:Int) < s.members.length:=by omega
    obtain ⟨bm,off,hB,hwc⟩:=HCC.out k hlt;subst hB;have hsb:=HBD.out k (by omega)
    have hon:=HONE.out k hlt;have HNX:Hid (Q4j s p (countB) (k + 1) = Q4j s p (countB) k + Q0k s.members k * (countB) (Q0o p (Q0c s.members k))):=Lib.hid rfl;have HCL:=Lib.hid (fun w v u h1 h2=>HCLG.out w v u k hlt h1 h2);have hcll:=Q2r p (Q0c s.members k);have hshk:=(HS.out.shaped k hlt).1;obtain ⟨cl,hcl⟩:∃ x,Q0o p (Q0c s.members k) = x:=⟨_,rfl⟩;rw [hcl] at hon HNX HCL hcll;obtain ⟨wt,hwt⟩:∃ x,Q0k s.members k = x:=⟨_,rfl⟩;rw [hwt] at hon HNX hwc;obtain ⟨S,hSS⟩:∃ x,Q4j s p (countB) k = x:=⟨_,rfl⟩;rw [hSS] at hsb HNX ⊢;have HLE:Hid (cl.length <= s.ships.length):=Lib.hid (by rw [hcll,hshk]; exact Nat.le_refl _)
    obtain ⟨cn,hcn⟩:∃ x,(countB) cl = x:=⟨_,rfl⟩;have HCN:=Lib.hid hcn;rw [hcn] at hon HNX;have hpr0:0 <= wt * cn:=Int.mul_nonneg (by omega) hon.1.1
    have hpr1:wt * cn <= 1000 * 6:=Int.mul_le_mul hon.2.2 hon.1.2 hon.1.1 (by omega)
    obtain ⟨pr,hpr⟩:∃ x,wt * cn = x:=⟨_,rfl⟩;rw [hpr] at hpr0 hpr1 HNX;have hwp:IntKind.i64.wrap pr = pr:=Q2p _ (by omega) (by omega)
    have hks:(k:Int) * (1000 * 6) <= 8 * (1000 * 6):=Int.mul_le_mul_of_nonneg_right (by omega) (by omega)
    have hws:IntKind.i64.wrap (S + pr) = S + pr:=Q2p _ (by omega) (by omega)
    have hdr:=(Ext.refl wr).drew;have HWC:=Lib.hid hwc;clear hsb hcl hwt hSS hcn hon hcll hshk hks hwc
    go_light
    go_wp2;refine Flow.Q1h [.p,.p,.w,.p,.p,.p,.w,.w,.w,.p,.w,.w,.p,.p,.p] [0,1,2,3,4,5,6,7,8,9,10,11,12,13,14] [[],[],[1],[],[2,3],[4],[5],[],[],[],[7,8,9],[10],[6,11],[0,12],[0,1,2,3,4,5,6,7,8,9,10,11,12,13]]
     [.c 0 (.int .i64 S),.c 1 (.pointer (some ⟨gs,2,none⟩)),.c 2 (.slice (some ⟨bm,off,none⟩) s.members.length capb),.c 3 (.int .i64 (k:Int)),.c 4 (.pointer (some ⟨bm,off + k * 5,none⟩)),.c 5 (.pointer (some ⟨bm,off + k * 5 + 1,none⟩)),.c 6 (.int .i64 wt),.c 7 (.agg #[.int .i64 s.limit,.slice A s.ships.length capa,.slice (some ⟨bm,off,none⟩) s.members.length capb]),.c 8 (.agg #[.slice R p.length capr]),.c 9 (.int .i64 (k:Int)),⟨fun v wz=>(fun v w'=>Q0x w' (v 10) cl) v wz,by intro v a b hx h; exact Q0x.ext h hx⟩,.c 11 (.int .i64 cn),.c 12 (.int .i64 pr),.c 13 (.int .i64 (S + pr)),.c 14 (.int .i64 (S + pr))]
     (by kernel_rfl) rfl (by kernel_rfl) ⟨?g0,?g1,?g2,?g3,?g4,?g5,?g6,?g7,?g8,?g9,?g10,?g11,?g12,?g13,?g14,trivial⟩ ?post
    case g0 | g1 | g3 | g9=>
     intro v w1 hx;intro bb hbb;subst hbb;refine ⟨_,fun w=>?_,rfl⟩;go_simp
    case g2 | g6=>
     intro v w1 hx;(repeat intro (zq:v _ = _));intro bb hbb;subst hbb;have n0:w1.cell? ⟨gs,2,none⟩ = some (.slice (some ⟨bm,off,none⟩) s.members.length capb):=(K0.out.ext (HXR.out.trans (hdr.trans hx))).cell 2;have n1:w1.cell? ⟨bm,off + k * 5 + 1,none⟩ = some (.int .i64 wt):=(HXW.out.trans (HXR.out.trans (hdr.trans hx))).cell HWC.out;intro K hK;go_simp;exact hK _ _ (Ext.refl _) rfl
    case g4 | g5 | g12 | g13=>
     intro v w1 hx;(repeat intro (zq:v _ = _));intro bb hbb;subst hbb;refine ⟨_,fun w=>?_,rfl⟩;go_simp
    case g7=>
     intro v w1 hx;intro bb hbb;intro K hK;have o1:bb.eval (.tmp 2) = .pointer (some ⟨gs,0,none⟩):=by rw [hbb]; dsimp only; (try simp (discharger:=decide) only [eval_put_ne]); rfl
     exact Q0l (.tmp 2) _ rfl Tryz.Y9z Tryz.Y2p o1 (K0.out.ext (HXR.out.trans (hdr.trans hx))) rfl (hK _ _ (Ext.refl _) rfl)
    case g8=>
     intro v w1 hx;intro bb hbb;intro K hK;have o1:bb.eval (.tmp 3) = .pointer (some ⟨gs + 1,0,none⟩):=by rw [hbb]; dsimp only; (try simp (discharger:=decide) only [eval_put_ne]); rfl
     exact Q0l (.tmp 3) _ rfl Tryz.J2n Tryz.J0b o1 (K1.out.ext (HXR.out.trans (hdr.trans hx))) rfl (hK _ _ (Ext.refl _) rfl)
    case g10=>
     intro v w1 hx;(repeat intro (zq:v _ = _));intro bb hbb;subst hbb;intro K hK;go_simp;refine Q0e (HCL.out w1 _ _ ⟨_,_,rfl,H2.out.ext (HXW.out.trans (HXR.out.trans (hdr.trans hx)))⟩ ⟨_,rfl,HR.out.ext (HXW.out.trans (HXR.out.trans (hdr.trans hx)))⟩) ?_;rintro e w2 ⟨x,rfl,h1,hx2⟩;exact ⟨_,rfl,hK _ _ hx2 h1⟩
    case g11=>
     intro v w1 hx (q10:(fun v w'=>Q0x w' (v 10) cl) v w1);intro bb hbb;subst hbb;intro K hK;go_simp;refine Q0e (X3a w1 _ cl q10) ?_;rintro e w2 ⟨rfl,hx2⟩;exact ⟨_,rfl,hK _ _ hx2 (congrArg (Value.int .i64) HCN.out)⟩
    case g14=>
     intro v w1 hx (q0:v 0 = _) (q1:v 1 = _) (q2:v 2 = _) (q3:v 3 = _) (q4:v 4 = _) (q5:v 5 = _) (q6:v 6 = _) (q7:v 7 = _) (q8:v 8 = _) (q9:v 9 = _) _ (q11:v 11 = _) (q12:v 12 = _) (q13:v 13 = _);intro bb hbb;subst hbb;refine ⟨_,fun w=>?_,rfl⟩;go_simp
    case post =>
     intro v w1 hx;(iterate 10 intro (zq:v _ = _));intro (q10:(fun v w'=>Q0x w' (v 10) cl) v w1);(iterate 4 intro (zq:v _ = _));simp only [Flow.All,Flow.acts,Act.put];go_simp;have HXX:=Lib.hid (HXR.out.trans (hdr.trans hx));clear hx hdr q10 hwp hws;(repeat clear zq);go_wp2;go_roundw
     case rel=>exact ⟨k + 1,by omega,by go_num,by rw [HNX.out],HXX.out⟩
     case measure=>simp [intOf]; omega
  . have hkI:¬ (k:Int) < s.members.length:=by omega
    have hke:k = s.members.length:=by omega
    subst hke;go_wp2;go_ret;exact ⟨Q1f HALL.out,HXW.out.trans HXR.out⟩
theorem J7k (w:World) (v u:Value) (s:Q0b) (p:List Rul) (hv:Q0h w v s) (hu:Q1c w u p) (hS:Q0y s) (hp:Q2g s.hist p = 0) :
    Calls Tryz.prog 32 #[v,u] w fun e w'=>e = .returned (.int .i64 (X4u s p)) /\ Ext w w':=by
 have h8:=hS.some.2;have HS:=Lib.hid hS;have HALL:Hid (Q4j s p (Q6i s) s.members.length = X4u s p):=Lib.hid (Y1a s p (Q6i s));have HBD:=Lib.hid (fun k hk=>X7r hS p (f:=Q6i s) (M:=6000) (by omega) (Z5r hS) k hk)
 have HONE:Hid (∀ k,k < s.members.length -> (0 <= (Q6i s) (Q0o p (Q0c s.members k)) /\ (Q6i s) (Q0o p (Q0c s.members k)) <= 6000) /\ 1 <= Q0k s.members k /\ Q0k s.members k <= 1000):=Lib.hid (fun k hk=>⟨Z5r hS _ (by rw [Q2r,(hS.shaped k hk).1]; exact Nat.le_refl _),hS.weights k hk⟩)
 have HCLG:Hid (∀ (w:World) (v u:Value) (i:Nat),i < s.members.length -> Q0h w v s -> Q1c w u p -> Calls Tryz.prog 106 #[v,u,.int .i64 (i:Int)] w fun e w'=>∃ x,e = .returned x /\ Q0x w' x (Q0o p (Q0c s.members i)) /\ Ext w w'):=Lib.hid (fun w v u i h h1 h2=>J5e w v u s p i h1 h2 hS hp h);obtain ⟨a,b,rfl,h2⟩:=hv;obtain ⟨rv,rfl,hr⟩:=hu;obtain ⟨A,capa,rfl,-,-,-⟩:=h2.ships.opened;obtain ⟨B,capb,rfl,hlb,-,hc⟩:=h2.members.opened;obtain ⟨R,capr,rfl,-,-,-⟩:=hr.opened;have HCC:Hid (∀ k,k < s.members.length -> ∃ b off,B = some ⟨b,off,none⟩ /\ w.cell? ⟨b,off + k * 5 + 1,none⟩ = some (.int .i64 (Q0k s.members k))):=Lib.hid (fun k hk=>by
  obtain ⟨b',off',_,_,_,hA,_,_,h1,_⟩:=hc k hk;exact ⟨b',off',hA,h1⟩)
 have H2:=Lib.hid h2;have HR:=Lib.hid hr;clear h2 hr hc hS hp;go_enter Tryz.func32,Tryz.ntmps32;go_wp2_with fail;change Code.wp _ _ _ _ ((w.alloc (.cells #[.int .i64 s.limit,.slice A s.ships.length capa,.slice B s.members.length capb] 25)).alloc (.cells #[.slice R p.length capr] 47));obtain ⟨W,hWW,k0,k1,HXW,eW⟩:=Q4e w 25 #[.int .i64 s.limit,.slice A s.ships.length capa,.slice B s.members.length capb] 47 #[.slice R p.length capr];rw [hWW];clear hWW;have K0:=Lib.hid k0;have K1:=Lib.hid k1;obtain ⟨gs,hgs⟩:∃ x,w.heap.size = x:=⟨_,rfl⟩;rw [hgs] at K0 K1 eW ⊢;clear k0 k1
 go_loopw [5,6] (fun o i wr=>∃ (k:Nat),k <= s.members.length /\ i = .int .i64 k /\ o = .int .i64 (Q4j s p (Q6i s) k) /\ Ext W wr) (fun _ i _=>s.members.length - (intOf i).toNat)
 case atStart=>exact ⟨0,Nat.zero_le _,rfl,rfl,Ext.refl _⟩
 case round =>
  obtain ⟨k,hk,rfl,rfl,hxr⟩:=hrel;have c2:=(K0.out.ext hxr).cell 2;simp only [Go.Tw.gA,Go.Tw.gB,Go.Tw.gC] at c2;have HXR:=Lib.hid hxr;clear hxr
  by_cases hlt:k < s.members.length
  . have hkI:(k:Int) < s.members.length:=by omega
    obtain ⟨bm,off,hB,hwc⟩:=HCC.out k hlt;subst hB;have hsb:=HBD.out k (by omega)
    have hon:=HONE.out k hlt;have HNX:Hid (Q4j s p (Q6i s) (k + 1) = Q4j s p (Q6i s) k + Q0k s.members k * (Q6i s) (Q0o p (Q0c s.members k))):=Lib.hid rfl;have HCL:=Lib.hid (fun w v u h1 h2=>HCLG.out w v u k hlt h1 h2);have hcll:=Q2r p (Q0c s.members k);have hshk:=(HS.out.shaped k hlt).1;obtain ⟨cl,hcl⟩:∃ x,Q0o p (Q0c s.members k) = x:=⟨_,rfl⟩;rw [hcl] at hon HNX HCL hcll;obtain ⟨wt,hwt⟩:∃ x,Q0k s.members k = x:=⟨_,rfl⟩;rw [hwt] at hon HNX hwc;obtain ⟨S,hSS⟩:∃ x,Q4j s p (Q6i s) k = x:=⟨_,rfl⟩;rw [hSS] at hsb HNX ⊢;have HLE:Hid (cl.length <= s.ships.length):=Lib.hid (by rw [hcll,hshk]; exact Nat.le_refl _)
    obtain ⟨cn,hcn⟩:∃ x,(Q6i s) cl = x:=⟨_,rfl⟩;have HCN:=Lib.hid hcn;rw [hcn] at hon HNX;have hpr0:0 <= wt * cn:=Int.mul_nonneg (by omega) hon.1.1
    have hpr1:wt * cn <= 1000 * 6000:=Int.mul_le_mul hon.2.2 hon.1.2 hon.1.1 (by omega)
    obtain ⟨pr,hpr⟩:∃ x,wt * cn = x:=⟨_,rfl⟩;rw [hpr] at hpr0 hpr1 HNX;have hwp:IntKind.i64.wrap pr = pr:=Q2p _ (by omega) (by omega)
    have hks:(k:Int) * (1000 * 6000) <= 8 * (1000 * 6000):=Int.mul_le_mul_of_nonneg_right (by omega) (by omega)
    have hws:IntKind.i64.wrap (S + pr) = S + pr:=Q2p _ (by omega) (by omega)
    have hdr:=(Ext.refl wr).drew;have HWC:=Lib.hid hwc;clear hsb hcl hwt hSS hcn hon hcll hshk hks hwc
    go_light
    go_wp2;refine Flow.Q1h [.p,.p,.w,.p,.p,.p,.w,.w,.w,.w,.p,.w,.w,.p,.p,.p] [0,1,2,3,4,5,6,7,8,9,10,11,12,13,14,15] [[],[],[1],[],[2,3],[4],[5],[],[],[],[],[8,9,10],[7,11],[6,12],[0,13],[0,1,2,3,4,5,6,7,8,9,10,11,12,13,14]]
     [.c 0 (.int .i64 S),.c 1 (.pointer (some ⟨gs,2,none⟩)),.c 2 (.slice (some ⟨bm,off,none⟩) s.members.length capb),.c 3 (.int .i64 (k:Int)),.c 4 (.pointer (some ⟨bm,off + k * 5,none⟩)),.c 5 (.pointer (some ⟨bm,off + k * 5 + 1,none⟩)),.c 6 (.int .i64 wt),.c 7 (.agg #[.int .i64 s.limit,.slice A s.ships.length capa,.slice (some ⟨bm,off,none⟩) s.members.length capb]),.c 8 (.agg #[.int .i64 s.limit,.slice A s.ships.length capa,.slice (some ⟨bm,off,none⟩) s.members.length capb]),.c 9 (.agg #[.slice R p.length capr]),.c 10 (.int .i64 (k:Int)),⟨fun v wz=>(fun v w'=>Q0x w' (v 11) cl) v wz,by intro v a b hx h; exact Q0x.ext h hx⟩,.c 12 (.int .i64 cn),.c 13 (.int .i64 pr),.c 14 (.int .i64 (S + pr)),.c 15 (.int .i64 (S + pr))]
     (by kernel_rfl) rfl (by kernel_rfl) ⟨?g0,?g1,?g2,?g3,?g4,?g5,?g6,?g7,?g8,?g9,?g10,?g11,?g12,?g13,?g14,?g15,trivial⟩ ?post
    case g0 | g1 | g3 | g10=>
     intro v w1 hx;intro bb hbb;subst hbb;refine ⟨_,fun w=>?_,rfl⟩;go_simp
    case g2 | g6=>
     intro v w1 hx;(repeat intro (zq:v _ = _));intro bb hbb;subst hbb;have n0:w1.cell? ⟨gs,2,none⟩ = some (.slice (some ⟨bm,off,none⟩) s.members.length capb):=(K0.out.ext (HXR.out.trans (hdr.trans hx))).cell 2;have n1:w1.cell? ⟨bm,off + k * 5 + 1,none⟩ = some (.int .i64 wt):=(HXW.out.trans (HXR.out.trans (hdr.trans hx))).cell HWC.out;intro K hK;go_simp;exact hK _ _ (Ext.refl _) rfl
    case g4 | g5 | g13 | g14=>
     intro v w1 hx;(repeat intro (zq:v _ = _));intro bb hbb;subst hbb;refine ⟨_,fun w=>?_,rfl⟩;go_simp
    case g7 | g8=>
     intro v w1 hx;intro bb hbb;intro K hK;have o1:bb.eval (.tmp 2) = .pointer (some ⟨gs,0,none⟩):=by rw [hbb]; dsimp only; (try simp (discharger:=decide) only [eval_put_ne]); rfl
     exact Q0l (.tmp 2) _ rfl Tryz.Y9z Tryz.Y2p o1 (K0.out.ext (HXR.out.trans (hdr.trans hx))) rfl (hK _ _ (Ext.refl _) rfl)
    case g9=>
     intro v w1 hx;intro bb hbb;intro K hK;have o1:bb.eval (.tmp 3) = .pointer (some ⟨gs + 1,0,none⟩):=by rw [hbb]; dsimp only; (try simp (discharger:=decide) only [eval_put_ne]); rfl
     exact Q0l (.tmp 3) _ rfl Tryz.J2n Tryz.J0b o1 (K1.out.ext (HXR.out.trans (hdr.trans hx))) rfl (hK _ _ (Ext.refl _) rfl)
    case g11=>
     intro v w1 hx;(repeat intro (zq:v _ = _));intro bb hbb;subst hbb;intro K hK;go_simp;refine Q0e (HCL.out w1 _ _ ⟨_,_,rfl,H2.out.ext (HXW.out.trans (HXR.out.trans (hdr.trans hx)))⟩ ⟨_,rfl,HR.out.ext (HXW.out.trans (HXR.out.trans (hdr.trans hx)))⟩) ?_;rintro e w2 ⟨x,rfl,h1,hx2⟩;exact ⟨_,rfl,hK _ _ hx2 h1⟩
    case g12=>
     intro v w1 hx (q7:v 7 = _) (q11:(fun v w'=>Q0x w' (v 11) cl) v w1);intro bb hbb;subst hbb;intro K hK;go_simp;refine Q0e (J8f w1 _ _ s cl ⟨_,_,rfl,H2.out.ext (HXW.out.trans (HXR.out.trans (hdr.trans hx)))⟩ q11 HS.out HLE.out) ?_;rintro e w2 ⟨rfl,hx2⟩;exact ⟨_,rfl,hK _ _ hx2 (congrArg (Value.int .i64) HCN.out)⟩
    case g15=>
     intro v w1 hx (q0:v 0 = _) (q1:v 1 = _) (q2:v 2 = _) (q3:v 3 = _) (q4:v 4 = _) (q5:v 5 = _) (q6:v 6 = _) (q7:v 7 = _) (q8:v 8 = _) (q9:v 9 = _) (q10:v 10 = _) _ (q12:v 12 = _) (q13:v 13 = _) (q14:v 14 = _);intro bb hbb;subst hbb;refine ⟨_,fun w=>?_,rfl⟩;go_simp
    case post =>
     intro v w1 hx;(iterate 11 intro (zq:v _ = _));intro (q11:(fun v w'=>Q0x w' (v 11) cl) v w1);(iterate 4 intro (zq:v _ = _));simp only [Flow.All,Flow.acts,Act.put];go_simp;have HXX:=Lib.hid (HXR.out.trans (hdr.trans hx));clear hx hdr q11 hwp hws;(repeat clear zq);go_wp2;go_roundw
     case rel=>exact ⟨k + 1,by omega,by go_num,by rw [HNX.out],HXX.out⟩
     case measure=>simp [intOf]; omega
  . have hkI:¬ (k:Int) < s.members.length:=by omega
    have hke:k = s.members.length:=by omega
    subst hke;go_wp2;go_ret;exact ⟨Q1f HALL.out,HXW.out.trans HXR.out⟩
end Go.Proofs
namespace Go.Proofs
open Go.RowKit Go.Tw Go.Flow
theorem J6u (w:World) (v:Value) (p:List Rul) (hv:Q1c w v p) :
    Calls Tryz.prog 27 #[v] w fun e w'=>Z9r (J4h p) w w' e:=by
 obtain ⟨rv,rfl,hr⟩:=hv;obtain ⟨R,capr,rfl,hlr,-,hcr⟩:=hr.opened;have HC:=Lib.hid hcr;clear hr hcr;have HN1:Hid (¬ p.length <= 49 -> ¬ J4h p):=Lib.hid (fun h hs=>h hs.rules);have HN3:Hid (∀ i,i < p.length -> ¬ (Q0w p i).length <= 8 -> ¬ J4h p):=Lib.hid (fun i hi h hs=>h (hs.each i hi))
 by_cases h7:49 < p.length
 . have h7I:(49:Int) < p.length:=by omega
   have HF:=Lib.hid (HN1.out (by omega))
   clear h7;go_enter Tryz.func27,Tryz.ntmps27;go_wp2;go_ret;exact qno HF.out (Ext.box _ _)
 have h7I:¬ (49:Int) < p.length:=by omega
 have HOK:Hid ((∀ i,i < p.length -> (Q0w p i).length <= 8) -> J4h p):=Lib.hid (fun h=>⟨by omega,h⟩)
 clear h7;go_enter Tryz.func27,Tryz.ntmps27;go_wp2_with fail;change Code.wp _ _ _ _ (w.alloc (.cells #[.slice R p.length capr] 47));obtain ⟨W,hWW,k0,HXW,eW⟩:=Q1q w 47 #[.slice R p.length capr];rw [hWW];clear hWW;have K0:=Lib.hid k0;clear k0 h7I
 go_loopw [3] (fun i wr=>∃ k:Nat,k <= p.length /\ i = .int .i64 k /\ (∀ j,j < k -> (Q0w p j).length <= 8) /\ Ext W wr) (fun i _=>p.length - (intOf i).toNat)
 case atStart=>exact ⟨0,Nat.zero_le _,rfl,fun j hj=>absurd hj (Nat.not_lt_zero j),Ext.refl _⟩
 case round =>
  obtain ⟨k,hk,rfl,hall,hxr⟩:=hrel;have HALL:=Lib.hid hall;have c0:=(K0.out.ext hxr).cell 0;simp only [Go.Tw.gA,Go.Tw.gB,Go.Tw.gC] at c0;have HXR:=Lib.hid hxr;clear hall hxr
  by_cases hlt:k < p.length
  . have hkI:(k:Int) < p.length:=by omega
    obtain ⟨br,off,x,rfl,-,e0,e1,hx⟩:=HC.out k hlt;obtain ⟨X,capx,rfl,-,-,-⟩:=hx.opened;replace e0:=(HXW.out.trans HXR.out).cell e0;have HNK:=Lib.hid (HN3.out k hlt);have HID:=Lib.hid (rfl:(Q0w p k).length = (Q0w p k).length);obtain ⟨n1,hn1⟩:∃ x,(Q0w p k).length = x:=⟨_,rfl⟩;rw [hn1] at e0 HNK;have HN:=Lib.hid hn1;clear hx hn1 e1
    by_cases g1:8 < n1
    . have g1I:(8:Int) < (n1:Int):=by omega
      have HF:=Lib.hid (HNK.out (by omega))
      clear g1
      go_light
      go_wp2;go_ret;exact qno HF.out (Ext.trans HXW.out HXR.out)
    have g1I:¬ (8:Int) < (n1:Int):=by omega
    have HT:Hid ((Q0w p k).length <= 8):=Lib.hid (by rw [HN.out]; omega)
    clear g1
    go_light
    go_wp2;go_roundw
    case rel=>exact ⟨k + 1,by omega,by go_num,fun j hj=>by
     by_cases hjk:j = k
     . rw [hjk]; exact HT.out
     . exact HALL.out j (by omega),HXR.out⟩
    case measure=>simp [intOf]; omega
  . have hkI:¬ (k:Int) < p.length:=by omega
    have hke:k = p.length:=by omega
    subst hke;have HT:=Lib.hid (HOK.out HALL.out);go_wp2;go_ret;exact J4k HT.out (HXW.out.trans HXR.out)
end Go.Proofs
namespace Go.Tw
open Go.RowKit Go.Flow
theorem J7e {α:Type} (x d:α):∀ (n:Nat) (xs:List α) (i:Nat),n <= xs.length -> (xs.take n ++ [x] ++ xs.drop n).getD i d = if i < n then xs.getD i d else if i = n then x else xs.getD (i - 1) d
 | 0,xs,i,_=>by cases i <;> simp
 | n + 1,[],i,h=>by simp at h
 | n + 1,y :: ys,0,_=>by simp
 | n + 1,y :: ys,i + 1,h=>by
   have:=J7e x d n ys i (by simpa using h)
   simp only [List.take_succ_cons,List.drop_succ_cons,List.cons_append,List.getD_cons_succ,this]
   by_cases h1:i < n
   . have h1':i + 1 < n + 1:=by omega
     simp only [h1,h1',if_true]
   . have h1':¬ (i + 1 < n + 1):=by omega
     by_cases h2:i = n
     . subst h2
       simp
     . have h2':¬ (i + 1 = n + 1):=by omega
       obtain ⟨m,rfl⟩:∃ m,i = m + 1:=⟨i - 1,by omega⟩
       simp only [h1,h1',h2,h2',if_false];simp
theorem Reads.insert {w:World} {vs:List Value} {ll:List (List Int)} {v:Value} {l:List Int} {n:Nat} (h:Reads w vs ll) (hv:Q0d w v l) (hn:n <= ll.length):Reads w (vs.take n ++ [v] ++ vs.drop n) (ll.take n ++ [l] ++ ll.drop n):=by
 have hl:=h.1;refine ⟨by simp [hl],fun i hi=>?_⟩
 rw [J7e _ _ _ _ _ (by omega),J7e _ _ _ _ _ hn]
 simp only [List.length_append,List.length_take,List.length_drop,List.length_singleton] at hi
 split
 . exact h.2 i (by omega)
 . split
   . exact hv
   . exact h.2 (i - 1) (by omega)
theorem J7a {w w1 w2:World} (hx:Ext w.drew w1) (hb:Below w.heap.size w1 w2):Ext w w2:=Below.trans (((Ext.refl w).drew).trans hx) hb
end Go.Tw
namespace Go.Proofs
open Go.RowKit Go.Tw Go.Flow
theorem Tryz.info22:(Tryz.prog.info? 22).map (fun i=>(i.zero,i.size,i.bytes)) = some (some (.slice none 0 0),1,24):=by kernel_rfl
def RL (w:World) (vs:List Value) (ll:List (List Int)):Prop:=vs.length = ll.length /\ ∀ j,j < ll.length -> Q0t w 0 3 (.int .i64) (vs.getD j undef) (ll.getD j [])
def LL (w:World) (B:Nat) (v:Value) (ll:List (List Int)):Prop:=∃ vs,Q0t w B 22 idV v vs /\ RL w vs ll
theorem RL.ext {w w':World} {vs:List Value} {ll:List (List Int)} (h:RL w vs ll) (hx:Ext w w'):RL w' vs ll:=⟨h.1,fun j hj=>(h.2 j hj).below hx⟩
theorem LL.ext {w w':World} {B:Nat} {v:Value} {ll:List (List Int)} (h:LL w B v ll) (hx:Ext w w'):LL w' B v ll:=let ⟨vs,h1,h2⟩:=h; ⟨vs,h1.below hx,h2.ext hx⟩
theorem LL.weaken {w:World} {B B':Nat} {v:Value} {ll:List (List Int)} (h:LL w B v ll) (hb:B' <= B):LL w B' v ll:=let ⟨vs,h1,h2⟩:=h; ⟨vs,h1.weaken hb,h2⟩
theorem LL.nil (w:World) (B:Nat):LL w B (.slice none 0 0) []:=⟨[],Q0t.nil _ _ _ _,rfl,fun j hj=>by simp at hj⟩
theorem J9c {w:World} {v:Value} {l:List Int} (h:Q0t w 0 3 (.int .i64) v l):(idV v).oneCell' = true:=by
 obtain ⟨b,c,rfl,_⟩:=h.shape;rfl
theorem RL.one {w:World} {vs:List Value} {ll:List (List Int)} (h:RL w vs ll):∀ y ∈ vs,(idV y).oneCell' = true:=by
 intro y hy;obtain ⟨i,hi,rfl⟩:=List.getElem_of_mem hy;have h2:=h.2 i (by rw [<- h.1]; exact hi)
 rw [Q0v _ hi] at h2;exact J9c h2
theorem RL.insert {w:World} {vs:List Value} {ll:List (List Int)} {v:Value} {l:List Int} {n:Nat} (h:RL w vs ll) (hv:Q0t w 0 3 (.int .i64) v l) (hn:n <= ll.length):RL w (vs.take n ++ [v] ++ vs.drop n) (ll.take n ++ [l] ++ ll.drop n):=by
 obtain ⟨h1,h2⟩:=h;refine ⟨by simp [h1],fun i hi=>?_⟩
 have hlen:(ll.take n ++ [l] ++ ll.drop n).length = ll.length + 1:=by simp; omega
 rw [hlen] at hi;rw [J7e v undef n vs i (by omega),J7e l [] n ll i hn]
 by_cases h3:i < n
 . rw [if_pos h3,if_pos h3]; exact h2 i (by omega)
 . rw [if_neg h3,if_neg h3]
   by_cases h4:i = n
   . rw [if_pos h4,if_pos h4]; exact hv
   . rw [if_neg h4,if_neg h4]; exact h2 (i - 1) (by omega)
theorem J8d {α:Type} (a b:List α) (d:α) (j:Nat):(a ++ b).getD j d = if j < a.length then a.getD j d else b.getD (j - a.length) d:=by
 by_cases h:j < a.length
 . rw [if_pos h]; simp [List.getElem?_append_left h]
 . rw [if_neg h]; simp [List.getElem?_append_right (show a.length <= j by omega)]
theorem RL.app {w:World} {vs us:List Value} {ll mm:List (List Int)} (h:RL w vs ll) (k:RL w us mm):RL w (vs ++ us) (ll ++ mm):=by
 refine ⟨by simp [h.1,k.1],fun j hj=>?_⟩
 rw [J8d,J8d,h.1];rw [List.length_append] at hj
 by_cases h3:j < ll.length
 . rw [if_pos h3,if_pos h3]; exact h.2 j h3
 . rw [if_neg h3,if_neg h3]; exact k.2 _ (by omega)
theorem RL.grown {w w':World} {vs:List Value} {ll:List (List Int)} {base n size:Nat} {cv:Value} {xs:List Value} {e:TypeId} (h:RL w vs ll) (hown:w.ownsRow base e size cv n xs) (he:e ≠ 3) (hg:w.grownBy w' cv.ownBlock):RL w' vs ll :=
 ⟨h.1,fun j hj=>Q4t (h.2 j hj) hown he hg⟩
theorem RL.reads {w:World} {vs:List Value} {ll:List (List Int)} (h:RL w vs ll) (hs:∀ j,j < ll.length -> (ll.getD j []).length <= 1000):Reads w vs ll:=⟨h.1,fun j hj=>(h.2 j hj).ints (by have:=hs j hj; omega)⟩
theorem LL.read {w:World} {B:Nat} {v:Value} {ll:List (List Int)} (h:LL w B v ll) (hl:ll.length <= 2000) (hs:∀ j,j < ll.length -> (ll.getD j []).length <= 1000):Q3o w v ll :=
 let ⟨_,h1,h2⟩:=h; h1.J4a (h2.reads hs) (by omega)
theorem J7b {K:Value -> World -> Prop} {o:Oper} {a:Act} {w:World} (s x:Operand) (ho:o.op = .call { callee:=.builtin .append,args:=#[s,x],argTypes:=#[72,72] })
    {B:Nat} {v u:Value} {L M:List (List Int)} (hs:a.eval s = v) (h1:LL w B v L) (hx:a.eval x = u) (h2:LL w B u M) (hL:L.length <= 2000) (hM:M.length <= 2000) (hB:B <= w.heap.size)
    (hK:∀ v' w',LL w' B v' (L ++ M) -> Below B w w' -> K v' w'):gives Tryz.prog K ((execOp a.eval o).run Tryz.prog w):=by
 obtain ⟨i0,hi,hz0,hz1,hz2⟩:=info_parts Tryz.info22;obtain ⟨vs,o1,m1⟩:=h1;obtain ⟨us,o2,m2⟩:=h2;have l1:=m1.1;have l2:=m2.1;exact Q5k s x 72 ho B 22 i0 (.slice none 0 0) 24 Tryz.underlying72 hi hz0 hz1 hz2 rfl idV v u vs us hs o1 hx (Y9p o2) m2.one (by omega) (by decide) hB fun v' w' hown hg=>hK _ _ ⟨vs ++ us,hown,(m1.grown o1 (by decide) hg).app (m2.grown o1 (by decide) hg)⟩ (below_grown o1 hg (Nat.le_refl _) hB)
theorem J8k {w:World} {b o n c:Nat} {l:List Int} (h:Q0d w (.slice (some ⟨b,o,none⟩) n c) l) (hn:l.length = n):∀ j u,(l.map (Value.int .i64))[j]? = some u -> w.cell? ((⟨b,o,none⟩:Addr).add j) = some u:=by
 subst hn;obtain ⟨A,cap,hv,hl,hcap,hc⟩:=h.opened;cases hv;intro j u hj;rw [List.getElem?_map] at hj;obtain ⟨y,hy,rfl⟩:=Option.map_eq_some_iff.1 hj;obtain ⟨hjl,rfl⟩:=List.getElem?_eq_some_iff.1 hy;obtain ⟨b',off',he,hcell⟩:=hc j hjl;cases he;rw [addr_add,hcell,Q4w hjl]
theorem J7z {h:List Int} {row:List (List Int)} {n:Nat} (hn:n = Q3c h row row.length) (h0:n = 0 ∨ row.getD (n - 1) [] ≠ h):X0h h row = row.take n ++ [h] ++ row.drop n:=by
 unfold X0h;simp only [<- hn];rw [if_neg];rintro ⟨h1,h2⟩
 rcases h0 with h0 | h0
 . omega
 . exact h0 h2
theorem J9g {h:List Int} {row:List (List Int)} {n:Nat} (hn:n = Q3c h row row.length) (h0:0 < n) (he:row.getD (n - 1) [] = h):X0h h row = row:=by
 unfold X0h;simp only [<- hn];rw [if_pos ⟨h0,he⟩]
theorem J8j {s:Q0b} {t i:Nat} (hi:i <= s.members.length) (h:∀ k,k < s.members.length -> t + 1 <= (Q0c s.members k).length):∀ j,j < (s.X2l t i).length -> ((s.X2l t i).getD j []).length = t + 1:=by
 intro j hj;rw [Q0v _ hj];obtain ⟨k,hk,he⟩:=(Q0b.X7k t _ i).1 (List.getElem_mem hj);rw [he,List.length_take];have:=h k (by omega)
 omega
theorem J4x {s:Q0b} (hS:Q0y s) {w:World} {B:Nat} {x:Value} (h:LL w B x s.hist):Q3o w x s.hist:=by
 refine h.read (by have:=Z7m hS; omega) fun j hj=>?_
 rw [Q0v _ hj];have:=Z3t hS _ (List.getElem_mem hj);omega
theorem J8e {s:Q0b} (hS:Q0y s):0 < s.hist.length:=by
 refine List.length_pos_of_mem (a:=(Q0c s.members 0).take (0 + 1)) ?_;exact (Q0b.Q4v _ _).2 ⟨0,hS.tides.1,0,hS.some.1,rfl⟩
def RuR (w:World) (qs:List (Value × Rul)):Prop:=∀ q ∈ qs,Q0t w 0 3 (.int .i64) q.1 q.2.classes
theorem RuR.ext {w w':World} {qs:List (Value × Rul)} (h:RuR w qs) (hx:Ext w w'):RuR w' qs:=fun q hq=>(h q hq).below hx
theorem RuR.set {w:World} {qs:List (Value × Rul)} {O k:Nat} {u:Value} {S:TypeId} {cs:Array Value} (h:RuR w qs) (hb:Blk w O S cs) (hT:S ≠ 3):RuR (w.setCell ⟨O,k,none⟩ u) qs:=fun q hq=>X2m (h q hq) hb hT
theorem RuR.grown {w w':World} {qs:List (Value × Rul)} {base n size:Nat} {e:TypeId} {cv:Value} {xs:List Value} (h:RuR w qs) (hown:w.ownsRow base e size cv n xs) (he:e ≠ 3) (hg:w.grownBy w' cv.ownBlock):RuR w' qs:=fun q hq=>Q4t (h q hq) hown he hg
theorem RuR.snoc {w:World} {qs:List (Value × Rul)} {q:Value × Rul} (h:RuR w qs) (hq:Q0t w 0 3 (.int .i64) q.1 q.2.classes):RuR w (qs ++ [q]):=fun x hx=>by
 rcases List.mem_append.1 hx with hx | hx
 . exact h x hx
 . rw [List.mem_singleton.1 hx]; exact hq
theorem J9i {w:World} {q:Value × Rul} (h:Q0t w 0 3 (.int .i64) q.1 q.2.classes):∀ u ∈ Z3h q,u.oneCell' = true:=by
 obtain ⟨b,c,e,_⟩:=h.shape;intro u hu;simp only [Z3h,List.mem_cons,List.not_mem_nil,or_false] at hu
 rcases hu with rfl | rfl
 . rw [e]; rfl
 . rfl
theorem J8g {w:World} {B:Nat} {T:TypeId} {v:Value} {qs:List (Value × Rul)} (h:Q1d w B T 2 Z3h v qs) (hl:qs.length <= 100000) (hr:RuR w qs) (hs:∀ q ∈ qs,q.2.classes.length <= 4096):Q3y w v (qs.map (·.2)) :=
 Z0w h hl (fun q hq=>(hr q hq).ints (by have:=hs q hq; omega)) (Ext.refl _)
theorem J8a {α:Type} {w:World} {base base' k:Nat} {e:TypeId} {enc:α -> List Value} {v:Value} {l:List α} (h:Q1d w base e k enc v l) (hb:base' <= base):Q1d w base' e k enc v l:=by
 obtain ⟨h1,h2⟩:=h;refine ⟨h1,?_⟩
 rcases h2 with h2 | ⟨g,cap,cur,hv,hbg,r⟩
 . exact .inl h2
 . exact .inr ⟨g,cap,cur,hv,Nat.le_trans hb hbg,r⟩
def J9r (T:TypeId) (w w':World) (x:Value) (p:List Rul):Prop:=∃ vo qs,x = .agg #[vo] /\ Q1d w' w.heap.size T 2 Z3h vo qs /\ qs.map (·.2) = p /\ RuR w' qs
theorem J9r.is {T:TypeId} {w w':World} {x:Value} {p:List Rul} (h:J9r T w w' x p) (hl:p.length <= 4096) (hs:∀ r ∈ p,r.classes.length <= 4096):Q1c w' x p:=by
 obtain ⟨vo,qs,rfl,ho,rfl,hr⟩:=h;exact ⟨vo,rfl,J8g ho (by rw [List.length_map] at hl; omega) hr fun q hq=>hs _ (List.mem_map_of_mem hq)⟩
theorem J7r (w:World) (a:Option Addr) (n c:Nat) (b:Bool):(Instr.build 115 #[(0,.slice a n c),(1,.bool b)]).run Tryz.prog w = .ok (.agg #[.slice a n c,.bool b]) w:=by kernel_rfl
theorem J8v (w:World) (a:Option Addr) (n c:Nat) (b:Bool):(Instr.buildSlice 45 1 #[(0,.agg #[.slice a n c,.bool b])]).run Tryz.prog w = .ok (.slice (some ⟨w.heap.size,0,none⟩) 1 1) (w.alloc (.cells #[.slice a n c,.bool b] 115)):=by kernel_rfl
theorem Tryz.J9n (w:World):(sizeOf 45).run Tryz.prog w = .ok 1 w:=by kernel_rfl
end Go.Proofs
