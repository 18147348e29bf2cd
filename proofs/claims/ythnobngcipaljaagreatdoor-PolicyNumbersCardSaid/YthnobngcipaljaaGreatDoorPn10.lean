/- Contracts of the reference: Closings, Delay. The contract of the reference's Lowest. The groups as the reference makes them are those of the specification: plain lists, no program is in sight. Certificates and refusals: what is accepted and what is not; plain lists, no program is in sight. Contract of the reference: Chance. -/
import Derived.Test.YthnobngcipaljaaGreatDoorPn09
import Derived.Test.YthnobngcipaljaaGreatDoorPn03
import Derived.Test.YthnobngcipaljaaGreatDoorPn04
import Derived.Test.YthnobngcipaljaaGreatDoorPn08
set_option maxRecDepth 1000000
set_option maxHeartbeats 64000000
set_option linter.unusedVariables false
set_option linter.unusedSimpArgs false
set_option linter.constructorNameAsVariable false
open Go.Lib (hid)
namespace Go.Proofs
open Go.RowKit Go.Tw Go.Flow
attribute [local go_sem] Oper.semAt_some
def Q2w (s:Q0b) (p:List Rul) (f:List Bool -> Int):Nat -> Int
 | 0=>0
 | k + 1=>Q2w s p f k + Q0k s.members k * f (Q0i p (Q0c s.members k))
theorem Y0l (s:Q0b) (p:List Rul) (f:List Bool -> Int):∀ k,k <= s.members.length -> Q2w s p f k=((s.members.take k).map fun m=>m.weight * f (Q0i p m.classes)).sum
 | 0,_=>by simp [Q2w]
 | k + 1,h=>by
   unfold Q2w;rw [Y0l s p f k (by omega),List.take_succ_eq_append_getElem (by omega),List.map_append,List.sum_append]
   unfold Q0k Q0c;rw [Q0t _ (show k < s.members.length by omega)]
   simp
theorem X0g (s:Q0b) (p:List Rul) (f:List Bool -> Int):Q2w s p f s.members.length=(s.members.map fun m=>m.weight * f (Q0i p m.classes)).sum:=by
 rw [Y0l s p f _ (Nat.le_refl _),List.take_length]
theorem Q9b {s:Q0b} (hS:Q0u s) (p:List Rul) {f:List Bool -> Int} {M:Int} (hM:0 <= M) (hf:∀ l:List Bool,l.length <= s.ships.length -> 0 <= f l /\ f l <= M):∀ k,k <= s.members.length -> 0 <= Q2w s p f k /\ Q2w s p f k <= k * (1000 * M)
 | 0,_=>by simp [Q2w]
 | k + 1,h=>by
   have ih:=Q9b hS p hM hf k (by omega)
   have hw:=hS.weights k (by omega)
   have hc:=hf (Q0i p (Q0c s.members k)) (by rw [Q1p,(hS.shaped k (by omega)).1]; exact Nat.le_refl _)
   have h1:0 <= Q0k s.members k * f (Q0i p (Q0c s.members k)):=Int.mul_nonneg (by omega) hc.1
   have h2:Q0k s.members k * f (Q0i p (Q0c s.members k)) <= 1000 * M:=Int.mul_le_mul hw.2 hc.2 hc.1 (by omega)
   unfold Q2w;have h3:((k + 1:Nat):Int) * (1000 * M)=(k:Int) * (1000 * M) + 1000 * M:=by rw [Int.natCast_add,Int.add_mul]; simp
   rw [h3];omega
theorem X9a {s:Q0b} (hS:Q0u s) (l:List Bool) (hl:l.length <= s.ships.length):0 <= Q3f s l /\ Q3f s l <= 6000:=by
 unfold Q3f;have h6:=hS.tides.2;have:∀ k,k <= l.length -> 0 <= ((List.range k).map fun t=>if l.getD t false then ix s.ships t else 0).sum /\ ((List.range k).map fun t=>if l.getD t false then ix s.ships t else 0).sum <= k * 1000:=by
  intro k
  induction k with
  | zero=>intro _; simp
  | succ k ih =>
    intro hk;have:=ih (by omega)
    rw [List.range_succ,List.map_append,List.sum_append];have hd:=hS.delays (ix s.ships k) (by rw [Q4n (show k < s.ships.length by omega)]; exact List.getElem_mem _)
    have e:(List.map (fun t=>if l.getD t false=true then ix s.ships t else 0) [k]).sum=if l.getD k false=true then ix s.ships k else 0:=by simp
    rw [e]
    split <;> omega
 have:=this l.length (Nat.le_refl _);omega
theorem Q6m {s:Q0b} (hS:Q0u s) (l:List Bool) (hl:l.length <= s.ships.length):0 <= countB l /\ countB l <= 6:=by
 have:=countB_le l;have:=hS.tides.2;omega
theorem X3j (w:World) (v u:Value) (s:Q0b) (p:List Rul) (hv:Q0f w v s) (hu:Q0j w u p) (hS:Q0u s) (hp:Q1c s.hist p=0) :
    Calls Tryz.prog 31 #[v,u] w fun e w'=>e=.returned (.int .i64 (Q4e s p)) /\ Ext w w':=by
 have h8:=hS.some.2;have HS:=hid hS;have HALL:Hid (Q2w s p (countB) s.members.length=Q4e s p):=hid (X0g s p (countB));have HBD:=hid (fun k hk=>Q9b hS p (f:=countB) (M:=6) (by omega) (Q6m hS) k hk)
 have HONE:Hid (∀ k,k < s.members.length -> (0 <= (countB) (Q0i p (Q0c s.members k)) /\ (countB) (Q0i p (Q0c s.members k)) <= 6) /\ 1 <= Q0k s.members k /\ Q0k s.members k <= 1000):=hid (fun k hk=>⟨Q6m hS _ (by rw [Q1p,(hS.shaped k hk).1]; exact Nat.le_refl _),hS.weights k hk⟩)
 have HCLG:Hid (∀ (w:World) (v u:Value) (i:Nat),i < s.members.length -> Q0f w v s -> Q0j w u p -> Calls Tryz.prog 106 #[v,u,.int .i64 (i:Int)] w fun e w'=>∃ x,e=.returned x /\ Q0r w' x (Q0i p (Q0c s.members i)) /\ Ext w w'):=hid (fun w v u i h h1 h2=>Q9c w v u s p i h1 h2 hS hp h);obtain ⟨a,b,rfl,h2⟩:=hv;obtain ⟨rv,rfl,hr⟩:=hu;obtain ⟨A,capa,rfl,-,-,-⟩:=h2.ships.opened;obtain ⟨B,capb,rfl,hlb,-,hc⟩:=h2.members.opened;obtain ⟨R,capr,rfl,-,-,-⟩:=hr.opened;have HCC:Hid (∀ k,k < s.members.length -> ∃ b off,B=some ⟨b,off,none⟩ /\ w.cell? ⟨b,off + k * 5 + 1,none⟩=some (.int .i64 (Q0k s.members k))):=hid (fun k hk=>by
  obtain ⟨b',off',_,_,_,hA,_,_,h1,_⟩:=hc k hk;exact ⟨b',off',hA,h1⟩)
 have H2:=hid h2;have HR:=hid hr;clear h2 hr hc hS hp;go_enter Tryz.func31,Tryz.ntmps31;go_wp2_with fail;change Code.wp _ _ _ _ ((w.alloc (.cells #[.int .i64 s.limit,.slice A s.ships.length capa,.slice B s.members.length capb] 25)).alloc (.cells #[.slice R p.length capr] 47));obtain ⟨W,hWW,k0,k1,HXW,eW⟩:=Q2t w 25 #[.int .i64 s.limit,.slice A s.ships.length capa,.slice B s.members.length capb] 47 #[.slice R p.length capr];rw [hWW];clear hWW;have K0:=hid k0;have K1:=hid k1;obtain ⟨gs,hgs⟩:∃ x,w.heap.size=x:=⟨_,rfl⟩;rw [hgs] at K0 K1 eW ⊢;clear k0 k1
 go_loopw [5,6] (fun o i wr=>∃ (k:Nat),k <= s.members.length /\ i=.int .i64 k /\ o=.int .i64 (Q2w s p (countB) k) /\ Ext W wr) (fun _ i _=>s.members.length - (intOf i).toNat)
 case atStart=>exact ⟨0,Nat.zero_le _,rfl,rfl,Ext.refl _⟩
 case round =>
  obtain ⟨k,hk,rfl,rfl,hxr⟩:=hrel;have c2:=(K0.out.ext hxr).cell 2;simp only [Go.Tw.gA,Go.Tw.gB,Go.Tw.gC] at c2;have HXR:=hid hxr;clear hxr
  by_cases hlt:k < s.members.length
  . have hkI:(k:Int) < s.members.length:=by omega
    obtain ⟨bm,off,hB,hwc⟩:=HCC.out k hlt;subst hB;have hsb:=HBD.out k (by omega)
    have hon:=HONE.out k hlt;have HNX:Hid (Q2w s p (countB) (k + 1)=Q2w s p (countB) k + Q0k s.members k * (countB) (Q0i p (Q0c s.members k))):=hid rfl;have HCL:=hid (fun w v u h1 h2=>HCLG.out w v u k hlt h1 h2);have hcll:=Q1p p (Q0c s.members k);have hshk:=(HS.out.shaped k hlt).1;obtain ⟨cl,hcl⟩:∃ x,Q0i p (Q0c s.members k)=x:=⟨_,rfl⟩;rw [hcl] at hon HNX HCL hcll;obtain ⟨wt,hwt⟩:∃ x,Q0k s.members k=x:=⟨_,rfl⟩;rw [hwt] at hon HNX hwc;obtain ⟨S,hSS⟩:∃ x,Q2w s p (countB) k=x:=⟨_,rfl⟩;rw [hSS] at hsb HNX ⊢;have HLE:Hid (cl.length <= s.ships.length):=hid (by rw [hcll,hshk]; exact Nat.le_refl _)
    obtain ⟨cn,hcn⟩:∃ x,(countB) cl=x:=⟨_,rfl⟩;have HCN:=hid hcn;rw [hcn] at hon HNX;have hpr0:0 <= wt * cn:=Int.mul_nonneg (by omega) hon.1.1
    have hpr1:wt * cn <= 1000 * 6:=Int.mul_le_mul hon.2.2 hon.1.2 hon.1.1 (by omega)
    obtain ⟨pr,hpr⟩:∃ x,wt * cn=x:=⟨_,rfl⟩;rw [hpr] at hpr0 hpr1 HNX;have hwp:IntKind.i64.wrap pr=pr:=Q2h _ (by omega) (by omega)
    have hks:(k:Int) * (1000 * 6) <= 8 * (1000 * 6):=Int.mul_le_mul_of_nonneg_right (by omega) (by omega)
    have hws:IntKind.i64.wrap (S + pr)=S + pr:=Q2h _ (by omega) (by omega)
    have hdr:=(Ext.refl wr).drew;have HWC:=hid hwc;clear hsb hcl hwt hSS hcn hon hcll hshk hks hwc
    go_light
    go_wp2;refine Flow.Q1d [.p,.p,.w,.p,.p,.p,.w,.w,.w,.p,.w,.w,.p,.p,.p] [0,1,2,3,4,5,6,7,8,9,10,11,12,13,14] [[],[],[1],[],[2,3],[4],[5],[],[],[],[7,8,9],[10],[6,11],[0,12],[0,1,2,3,4,5,6,7,8,9,10,11,12,13]]
     [.c 0 (.int .i64 S),.c 1 (.pointer (some ⟨gs,2,none⟩)),.c 2 (.slice (some ⟨bm,off,none⟩) s.members.length capb),.c 3 (.int .i64 (k:Int)),.c 4 (.pointer (some ⟨bm,off + k * 5,none⟩)),.c 5 (.pointer (some ⟨bm,off + k * 5 + 1,none⟩)),.c 6 (.int .i64 wt),.c 7 (.agg #[.int .i64 s.limit,.slice A s.ships.length capa,.slice (some ⟨bm,off,none⟩) s.members.length capb]),.c 8 (.agg #[.slice R p.length capr]),.c 9 (.int .i64 (k:Int)),⟨fun v wz=>(fun v w'=>Q0r w' (v 10) cl) v wz,by intro v a b hx h; exact Q0r.ext h hx⟩,.c 11 (.int .i64 cn),.c 12 (.int .i64 pr),.c 13 (.int .i64 (S + pr)),.c 14 (.int .i64 (S + pr))]
     (by kernel_rfl) rfl (by kernel_rfl) ⟨?g0,?g1,?g2,?g3,?g4,?g5,?g6,?g7,?g8,?g9,?g10,?g11,?g12,?g13,?g14,trivial⟩ ?post
    case g0 | g1 | g3 | g9=>
     intro v w1 hx;intro bb hbb;subst hbb;refine ⟨_,fun w=>?_,rfl⟩;go_simp
    case g2 | g6=>
     intro v w1 hx;(repeat intro (zq:v _=_));intro bb hbb;subst hbb;have n0:w1.cell? ⟨gs,2,none⟩=some (.slice (some ⟨bm,off,none⟩) s.members.length capb):=(K0.out.ext (HXR.out.trans (hdr.trans hx))).cell 2;have n1:w1.cell? ⟨bm,off + k * 5 + 1,none⟩=some (.int .i64 wt):=(HXW.out.trans (HXR.out.trans (hdr.trans hx))).cell HWC.out;intro K hK;go_simp;exact hK _ _ (Ext.refl _) rfl
    case g4 | g5 | g12 | g13=>
     intro v w1 hx;(repeat intro (zq:v _=_));intro bb hbb;subst hbb;refine ⟨_,fun w=>?_,rfl⟩;go_simp
    case g7=>
     intro v w1 hx;intro bb hbb;intro K hK;have o1:bb.eval (.tmp 2)=.pointer (some ⟨gs,0,none⟩):=by rw [hbb]; dsimp only; (try simp (discharger:=decide) only [eval_put_ne]); rfl
     exact Q0g (.tmp 2) _ rfl Tryz.Q5h Tryz.Q3p o1 (K0.out.ext (HXR.out.trans (hdr.trans hx))) rfl (hK _ _ (Ext.refl _) rfl)
    case g8=>
     intro v w1 hx;intro bb hbb;intro K hK;have o1:bb.eval (.tmp 3)=.pointer (some ⟨gs + 1,0,none⟩):=by rw [hbb]; dsimp only; (try simp (discharger:=decide) only [eval_put_ne]); rfl
     exact Q0g (.tmp 3) _ rfl Tryz.Q6w Tryz.Q4t o1 (K1.out.ext (HXR.out.trans (hdr.trans hx))) rfl (hK _ _ (Ext.refl _) rfl)
    case g10=>
     intro v w1 hx;(repeat intro (zq:v _=_));intro bb hbb;subst hbb;intro K hK;go_simp;refine Q0d (HCL.out w1 _ _ ⟨_,_,rfl,H2.out.ext (HXW.out.trans (HXR.out.trans (hdr.trans hx)))⟩ ⟨_,rfl,HR.out.ext (HXW.out.trans (HXR.out.trans (hdr.trans hx)))⟩) ?_;rintro e w2 ⟨x,rfl,h1,hx2⟩;exact ⟨_,rfl,hK _ _ hx2 h1⟩
    case g11=>
     intro v w1 hx (q10:(fun v w'=>Q0r w' (v 10) cl) v w1);intro bb hbb;subst hbb;intro K hK;go_simp;refine Q0d (Q7o w1 _ cl q10) ?_;rintro e w2 ⟨rfl,hx2⟩;exact ⟨_,rfl,hK _ _ hx2 (congrArg (Value.int .i64) HCN.out)⟩
    case g14=>
     intro v w1 hx (q0:v 0=_) (q1:v 1=_) (q2:v 2=_) (q3:v 3=_) (q4:v 4=_) (q5:v 5=_) (q6:v 6=_) (q7:v 7=_) (q8:v 8=_) (q9:v 9=_) _ (q11:v 11=_) (q12:v 12=_) (q13:v 13=_);intro bb hbb;subst hbb;refine ⟨_,fun w=>?_,rfl⟩;go_simp
    case post =>
     intro v w1 hx;(iterate 10 intro (zq:v _=_));intro (q10:(fun v w'=>Q0r w' (v 10) cl) v w1);(iterate 4 intro (zq:v _=_));simp only [Flow.All,Flow.acts,Act.put];go_simp;have HXX:=hid (HXR.out.trans (hdr.trans hx));clear hx hdr q10 hwp hws;(repeat clear zq);go_wp2;go_roundw
     case rel=>exact ⟨k + 1,by omega,by go_num,by rw [HNX.out],HXX.out⟩
     case measure=>simp [intOf]; omega
  . have hkI:¬ (k:Int) < s.members.length:=by omega
    have hke:k=s.members.length:=by omega
    subst hke;go_wp2;go_ret;exact ⟨Q1b HALL.out,HXW.out.trans HXR.out⟩
theorem Y2m (w:World) (v u:Value) (s:Q0b) (p:List Rul) (hv:Q0f w v s) (hu:Q0j w u p) (hS:Q0u s) (hp:Q1c s.hist p=0) :
    Calls Tryz.prog 32 #[v,u] w fun e w'=>e=.returned (.int .i64 (Q9a s p)) /\ Ext w w':=by
 have h8:=hS.some.2;have HS:=hid hS;have HALL:Hid (Q2w s p (Q3f s) s.members.length=Q9a s p):=hid (X0g s p (Q3f s));have HBD:=hid (fun k hk=>Q9b hS p (f:=Q3f s) (M:=6000) (by omega) (X9a hS) k hk)
 have HONE:Hid (∀ k,k < s.members.length -> (0 <= (Q3f s) (Q0i p (Q0c s.members k)) /\ (Q3f s) (Q0i p (Q0c s.members k)) <= 6000) /\ 1 <= Q0k s.members k /\ Q0k s.members k <= 1000):=hid (fun k hk=>⟨X9a hS _ (by rw [Q1p,(hS.shaped k hk).1]; exact Nat.le_refl _),hS.weights k hk⟩)
 have HCLG:Hid (∀ (w:World) (v u:Value) (i:Nat),i < s.members.length -> Q0f w v s -> Q0j w u p -> Calls Tryz.prog 106 #[v,u,.int .i64 (i:Int)] w fun e w'=>∃ x,e=.returned x /\ Q0r w' x (Q0i p (Q0c s.members i)) /\ Ext w w'):=hid (fun w v u i h h1 h2=>Q9c w v u s p i h1 h2 hS hp h);obtain ⟨a,b,rfl,h2⟩:=hv;obtain ⟨rv,rfl,hr⟩:=hu;obtain ⟨A,capa,rfl,-,-,-⟩:=h2.ships.opened;obtain ⟨B,capb,rfl,hlb,-,hc⟩:=h2.members.opened;obtain ⟨R,capr,rfl,-,-,-⟩:=hr.opened;have HCC:Hid (∀ k,k < s.members.length -> ∃ b off,B=some ⟨b,off,none⟩ /\ w.cell? ⟨b,off + k * 5 + 1,none⟩=some (.int .i64 (Q0k s.members k))):=hid (fun k hk=>by
  obtain ⟨b',off',_,_,_,hA,_,_,h1,_⟩:=hc k hk;exact ⟨b',off',hA,h1⟩)
 have H2:=hid h2;have HR:=hid hr;clear h2 hr hc hS hp;go_enter Tryz.func32,Tryz.ntmps32;go_wp2_with fail;change Code.wp _ _ _ _ ((w.alloc (.cells #[.int .i64 s.limit,.slice A s.ships.length capa,.slice B s.members.length capb] 25)).alloc (.cells #[.slice R p.length capr] 47));obtain ⟨W,hWW,k0,k1,HXW,eW⟩:=Q2t w 25 #[.int .i64 s.limit,.slice A s.ships.length capa,.slice B s.members.length capb] 47 #[.slice R p.length capr];rw [hWW];clear hWW;have K0:=hid k0;have K1:=hid k1;obtain ⟨gs,hgs⟩:∃ x,w.heap.size=x:=⟨_,rfl⟩;rw [hgs] at K0 K1 eW ⊢;clear k0 k1
 go_loopw [5,6] (fun o i wr=>∃ (k:Nat),k <= s.members.length /\ i=.int .i64 k /\ o=.int .i64 (Q2w s p (Q3f s) k) /\ Ext W wr) (fun _ i _=>s.members.length - (intOf i).toNat)
 case atStart=>exact ⟨0,Nat.zero_le _,rfl,rfl,Ext.refl _⟩
 case round =>
  obtain ⟨k,hk,rfl,rfl,hxr⟩:=hrel;have c2:=(K0.out.ext hxr).cell 2;simp only [Go.Tw.gA,Go.Tw.gB,Go.Tw.gC] at c2;have HXR:=hid hxr;clear hxr
  by_cases hlt:k < s.members.length
  . have hkI:(k:Int) < s.members.length:=by omega
    obtain ⟨bm,off,hB,hwc⟩:=HCC.out k hlt;subst hB;have hsb:=HBD.out k (by omega)
    have hon:=HONE.out k hlt;have HNX:Hid (Q2w s p (Q3f s) (k + 1)=Q2w s p (Q3f s) k + Q0k s.members k * (Q3f s) (Q0i p (Q0c s.members k))):=hid rfl;have HCL:=hid (fun w v u h1 h2=>HCLG.out w v u k hlt h1 h2);have hcll:=Q1p p (Q0c s.members k);have hshk:=(HS.out.shaped k hlt).1;obtain ⟨cl,hcl⟩:∃ x,Q0i p (Q0c s.members k)=x:=⟨_,rfl⟩;rw [hcl] at hon HNX HCL hcll;obtain ⟨wt,hwt⟩:∃ x,Q0k s.members k=x:=⟨_,rfl⟩;rw [hwt] at hon HNX hwc;obtain ⟨S,hSS⟩:∃ x,Q2w s p (Q3f s) k=x:=⟨_,rfl⟩;rw [hSS] at hsb HNX ⊢;have HLE:Hid (cl.length <= s.ships.length):=hid (by rw [hcll,hshk]; exact Nat.le_refl _)
    obtain ⟨cn,hcn⟩:∃ x,(Q3f s) cl=x:=⟨_,rfl⟩;have HCN:=hid hcn;rw [hcn] at hon HNX;have hpr0:0 <= wt * cn:=Int.mul_nonneg (by omega) hon.1.1
    have hpr1:wt * cn <= 1000 * 6000:=Int.mul_le_mul hon.2.2 hon.1.2 hon.1.1 (by omega)
    obtain ⟨pr,hpr⟩:∃ x,wt * cn=x:=⟨_,rfl⟩;rw [hpr] at hpr0 hpr1 HNX;have hwp:IntKind.i64.wrap pr=pr:=Q2h _ (by omega) (by omega)
    have hks:(k:Int) * (1000 * 6000) <= 8 * (1000 * 6000):=Int.mul_le_mul_of_nonneg_right (by omega) (by omega)
    have hws:IntKind.i64.wrap (S + pr)=S + pr:=Q2h _ (by omega) (by omega)
    have hdr:=(Ext.refl wr).drew;have HWC:=hid hwc;clear hsb hcl hwt hSS hcn hon hcll hshk hks hwc
    go_light
    go_wp2;refine Flow.Q1d [.p,.p,.w,.p,.p,.p,.w,.w,.w,.w,.p,.w,.w,.p,.p,.p] [0,1,2,3,4,5,6,7,8,9,10,11,12,13,14,15] [[],[],[1],[],[2,3],[4],[5],[],[],[],[],[8,9,10],[7,11],[6,12],[0,13],[0,1,2,3,4,5,6,7,8,9,10,11,12,13,14]]
     [.c 0 (.int .i64 S),.c 1 (.pointer (some ⟨gs,2,none⟩)),.c 2 (.slice (some ⟨bm,off,none⟩) s.members.length capb),.c 3 (.int .i64 (k:Int)),.c 4 (.pointer (some ⟨bm,off + k * 5,none⟩)),.c 5 (.pointer (some ⟨bm,off + k * 5 + 1,none⟩)),.c 6 (.int .i64 wt),.c 7 (.agg #[.int .i64 s.limit,.slice A s.ships.length capa,.slice (some ⟨bm,off,none⟩) s.members.length capb]),.c 8 (.agg #[.int .i64 s.limit,.slice A s.ships.length capa,.slice (some ⟨bm,off,none⟩) s.members.length capb]),.c 9 (.agg #[.slice R p.length capr]),.c 10 (.int .i64 (k:Int)),⟨fun v wz=>(fun v w'=>Q0r w' (v 11) cl) v wz,by intro v a b hx h; exact Q0r.ext h hx⟩,.c 12 (.int .i64 cn),.c 13 (.int .i64 pr),.c 14 (.int .i64 (S + pr)),.c 15 (.int .i64 (S + pr))]
     (by kernel_rfl) rfl (by kernel_rfl) ⟨?g0,?g1,?g2,?g3,?g4,?g5,?g6,?g7,?g8,?g9,?g10,?g11,?g12,?g13,?g14,?g15,trivial⟩ ?post
    case g0 | g1 | g3 | g10=>
     intro v w1 hx;intro bb hbb;subst hbb;refine ⟨_,fun w=>?_,rfl⟩;go_simp
    case g2 | g6=>
     intro v w1 hx;(repeat intro (zq:v _=_));intro bb hbb;subst hbb;have n0:w1.cell? ⟨gs,2,none⟩=some (.slice (some ⟨bm,off,none⟩) s.members.length capb):=(K0.out.ext (HXR.out.trans (hdr.trans hx))).cell 2;have n1:w1.cell? ⟨bm,off + k * 5 + 1,none⟩=some (.int .i64 wt):=(HXW.out.trans (HXR.out.trans (hdr.trans hx))).cell HWC.out;intro K hK;go_simp;exact hK _ _ (Ext.refl _) rfl
    case g4 | g5 | g13 | g14=>
     intro v w1 hx;(repeat intro (zq:v _=_));intro bb hbb;subst hbb;refine ⟨_,fun w=>?_,rfl⟩;go_simp
    case g7 | g8=>
     intro v w1 hx;intro bb hbb;intro K hK;have o1:bb.eval (.tmp 2)=.pointer (some ⟨gs,0,none⟩):=by rw [hbb]; dsimp only; (try simp (discharger:=decide) only [eval_put_ne]); rfl
     exact Q0g (.tmp 2) _ rfl Tryz.Q5h Tryz.Q3p o1 (K0.out.ext (HXR.out.trans (hdr.trans hx))) rfl (hK _ _ (Ext.refl _) rfl)
    case g9=>
     intro v w1 hx;intro bb hbb;intro K hK;have o1:bb.eval (.tmp 3)=.pointer (some ⟨gs + 1,0,none⟩):=by rw [hbb]; dsimp only; (try simp (discharger:=decide) only [eval_put_ne]); rfl
     exact Q0g (.tmp 3) _ rfl Tryz.Q6w Tryz.Q4t o1 (K1.out.ext (HXR.out.trans (hdr.trans hx))) rfl (hK _ _ (Ext.refl _) rfl)
    case g11=>
     intro v w1 hx;(repeat intro (zq:v _=_));intro bb hbb;subst hbb;intro K hK;go_simp;refine Q0d (HCL.out w1 _ _ ⟨_,_,rfl,H2.out.ext (HXW.out.trans (HXR.out.trans (hdr.trans hx)))⟩ ⟨_,rfl,HR.out.ext (HXW.out.trans (HXR.out.trans (hdr.trans hx)))⟩) ?_;rintro e w2 ⟨x,rfl,h1,hx2⟩;exact ⟨_,rfl,hK _ _ hx2 h1⟩
    case g12=>
     intro v w1 hx (q7:v 7=_) (q11:(fun v w'=>Q0r w' (v 11) cl) v w1);intro bb hbb;subst hbb;intro K hK;go_simp;refine Q0d (Z5u w1 _ _ s cl ⟨_,_,rfl,H2.out.ext (HXW.out.trans (HXR.out.trans (hdr.trans hx)))⟩ q11 HS.out HLE.out) ?_;rintro e w2 ⟨rfl,hx2⟩;exact ⟨_,rfl,hK _ _ hx2 (congrArg (Value.int .i64) HCN.out)⟩
    case g15=>
     intro v w1 hx (q0:v 0=_) (q1:v 1=_) (q2:v 2=_) (q3:v 3=_) (q4:v 4=_) (q5:v 5=_) (q6:v 6=_) (q7:v 7=_) (q8:v 8=_) (q9:v 9=_) (q10:v 10=_) _ (q12:v 12=_) (q13:v 13=_) (q14:v 14=_);intro bb hbb;subst hbb;refine ⟨_,fun w=>?_,rfl⟩;go_simp
    case post =>
     intro v w1 hx;(iterate 11 intro (zq:v _=_));intro (q11:(fun v w'=>Q0r w' (v 11) cl) v w1);(iterate 4 intro (zq:v _=_));simp only [Flow.All,Flow.acts,Act.put];go_simp;have HXX:=hid (HXR.out.trans (hdr.trans hx));clear hx hdr q11 hwp hws;(repeat clear zq);go_wp2;go_roundw
     case rel=>exact ⟨k + 1,by omega,by go_num,by rw [HNX.out],HXX.out⟩
     case measure=>simp [intOf]; omega
  . have hkI:¬ (k:Int) < s.members.length:=by omega
    have hke:k=s.members.length:=by omega
    subst hke;go_wp2;go_ret;exact ⟨Q1b HALL.out,HXW.out.trans HXR.out⟩
end Go.Proofs
namespace Go.Proofs
open Go.RowKit Go.Tw Go.Flow
theorem Z2q (a b:Int) (h0:0 <= a) (hb:0 < b):Int.gcd b (a.tmod b)=Int.gcd a b:=by
 obtain ⟨n,rfl⟩:=Int.eq_ofNat_of_zero_le h0;obtain ⟨m,rfl⟩:=Int.eq_ofNat_of_zero_le (Int.le_of_lt hb);show Nat.gcd m (n % m)=Nat.gcd n m;rw [Nat.gcd_comm n m,Nat.gcd_comm m,<- Nat.gcd_rec]
theorem Ext.frozen {a b:World} (h:Ext a b) {p:Addr} (hp:p.block < a.heap.size):b.frozen? p=a.frozen? p:=by
 obtain ⟨_,_,_,_,h5⟩:=h;unfold World.frozen?; rw [h5 _ hp]
theorem wrap_in {n:Int} (h1:-9223372036854775808 <= n) (h2:n <= 9223372036854775807):IntKind.i64.wrap n=n:=by
 simp only [IntKind.wrap,IntKind.bits,IntKind.signed,Bool.true_and,decide_eq_true_eq,ge_iff_le]
 split <;> omega
theorem Y2t (w:World) (cs:Array Value) (e:TypeId) (i:Nat):(w.alloc (.cells cs e)).frozen? ⟨w.heap.size,i,none⟩=false:=by
 have h:(w.alloc (.cells cs e)).heap[w.heap.size]?=some (.cells cs e):=by show (w.heap.push _)[_]?=_; simp
 unfold World.frozen?; rw [h]; simp
theorem Z4r (w:World) (a b:Int) (ha:0 <= a) (ha2:a <= 4611686018427387904) (hb:1 <= b) (hb2:b <= 4611686018427387904) :
    Calls Tryz.prog 69 #[.int .i64 a,.int .i64 b] w fun e w'=>e=.returned (.agg #[.int .i64 (lowest a b).num,.int .i64 (lowest a b).den]) /\ Ext w w':=by
 have hw:=Ext.box w (.cells #[.int .i64 0,.int .i64 0] 107);have c0:=X2o w #[.int .i64 0,.int .i64 0] 107 0;have c1:=X2o w #[.int .i64 0,.int .i64 0] 107 1;have f0:=Y2t w #[.int .i64 0,.int .i64 0] 107 0;have f1:=Y2t w #[.int .i64 0,.int .i64 0] 107 1;have hsW:w.heap.size < (w.alloc (.cells #[.int .i64 0,.int .i64 0] 107)).heap.size:=by show _ < (w.heap.push _).size; rw [Array.size_push]; omega
 have n1:¬ b < 0:=by omega
 go_enter Tryz.func69,Tryz.ntmps69;go_wp2;obtain ⟨W,hW⟩:∃ W,w.alloc (.cells #[.int .i64 0,.int .i64 0] 107)=W:=⟨_,rfl⟩;rw [hW] at c0 c1 f0 f1 hsW hw ⊢;simp only [Go.Tw.gA,Go.Tw.gB,Go.Tw.gC] at c0 c1;clear hW
 go_loopw [5,6] (fun x y wr=>∃ (p q:Int),x=.int .i64 p /\ y=.int .i64 q /\ 0 <= p /\ 0 <= q /\ p <= 4611686018427387904 /\ q <= 4611686018427387904 /\ (0 < p ∨ 0 < q) /\ Int.gcd p q=Int.gcd a b /\ Ext W wr) (fun _ y _=>(intOf y).toNat)
 case atStart=>exact ⟨a,b,by first | rfl | rw [show max a (-a)=a by omega],by first | rfl | rw [show max b (-b)=b by omega],ha,by omega,ha2,hb2,by omega,rfl,Ext.refl _⟩
 case round =>
  obtain ⟨p,q,rfl,rfl,hp,hq,hp2,hq2,hpq,hg,hx0⟩:=hrel
  by_cases hz:q=0
  . subst hz
    have hpg:p=(Int.gcd a b:Int):=by rw [<- hg,Int.gcd_zero]; omega
    have hdz:¬ p=0:=by omega
    replace c0:=hx0.cell c0;replace c1:=hx0.cell c1;have HPG:=hid hpg;clear hg hpg;have hq1:a / p <= a:=Int.ediv_le_self _ ha;have hq2:b / p <= b:=Int.ediv_le_self _ (by omega)
    have hq3:0 <= a / p:=Int.ediv_nonneg ha hp;have hq4:0 <= b / p:=Int.ediv_nonneg (by omega) hp
    have hq5:a.tdiv p=a / p:=Int.tdiv_eq_ediv_of_nonneg ha;have hq6:b.tdiv p=b / p:=Int.tdiv_eq_ediv_of_nonneg (by omega)
    have hq7:IntKind.i64.wrap (a / p)=a / p:=wrap_in (by omega) (by omega)
    have hq8:IntKind.i64.wrap (b / p)=b / p:=wrap_in (by omega) (by omega)
    have hwr:=Nat.lt_of_lt_of_le hsW hx0.size;replace f0:=(hx0.frozen hsW).trans f0;replace f1:=(hx0.frozen hsW).trans f1;go_wp2;refine Flow.region [.p,.p,.p,.p,.p,.p,.p,.last] [0,1,2,3,4,5,6,7] [[],[],[0,1],[],[],[3,4],[0,1,2,3,4,5],[0,1,2,3,4,5,6]] [7]
     [.c 0 (.int .i64 a),.c 1 (.int .i64 p),.c 2 (.int .i64 (a / p)),.c 3 (.int .i64 b),.c 4 (.int .i64 p),.c 5 (.int .i64 (b / p)),.c 6 (.agg #[.int .i64 (a / p),.int .i64 (b / p)]),.none]
     [fun v w1 w'=>w'.cell? ⟨w.heap.size,0,none⟩=some (.int .i64 (a / p)) /\ w'.cell? ⟨w.heap.size,1,none⟩=some (.int .i64 (b / p)) /\ Below w.heap.size w1 w'] (by kernel_rfl) rfl (by kernel_rfl) ⟨?g0,?g1,?g2,?g3,?g4,?g5,?g6,?g7,trivial⟩ ?post
    case g0 | g1 | g3 | g4=>
     intro v w1 hx;refine ⟨_,fun w=>?_,rfl⟩;go_simp
    case g2 | g5 | g6=>
     intro v w1 hx;(repeat intro (zq:v _=_));refine ⟨_,fun w=>?_,rfl⟩;go_simp
    case g7=>
     intro v w1 hx;(repeat intro (zq:v _=_));intro wl hT;obtain rfl:wl=w1:=hT;intro bb hbb;subst hbb;have c0:=hx.cell c0;have c1:=hx.cell c1;intro K hK;have g0:=(hx.frozen (p:=⟨w.heap.size,0,none⟩) hwr).trans f0;have g1:=(hx.frozen (p:=⟨w.heap.size,1,none⟩) hwr).trans f1;go_simp;refine hK _ _ ⟨?_,?_,((Below.refl w.heap.size wl).setCell (p:=⟨w.heap.size,0,none⟩) (Nat.le_refl _) _).setCell (p:=⟨w.heap.size,1,none⟩) (Nat.le_refl _) _⟩
     . refine Eq.trans (World.cell?_setCell_other _ _ _ _ ?_) (World.cell?_setCell_same _ _ _ c0); intro h; cases h
     . refine World.cell?_setCell_same _ _ _ (Eq.trans (World.cell?_setCell_other _ _ _ _ ?_) c1); intro h; cases h
    case post =>
     intro v w1 hx;(iterate 7 intro (zq:v _=_));intro w2 hE;replace hE:(fun v w1 w'=>w'.cell? ⟨w.heap.size,0,none⟩=some (.int .i64 (a / p)) /\ w'.cell? ⟨w.heap.size,1,none⟩=some (.int .i64 (b / p)) /\ Below w.heap.size w1 w') v w1 w2:=hE;simp only [Flow.acts,Act.put];go_simp;obtain ⟨e0,e1,e2⟩:=hE
     apply_assumption
     go_wp2;refine bodyPost_ret (v:=.agg #[.int .i64 (a / p),.int .i64 (b / p)]) (by simp [results,Tryz.results69,go_sem,e0,e1]) rfl ?_
     exact ⟨by rw [HPG.out]; rfl,Below.trans ((hw.trans hx0.drew).trans hx) e2⟩
  . have hq0:0 < q:=by omega
    have hst:=Z2q p q hp hq0;have htm:p % q < q:=Int.emod_lt_of_pos p hq0;have htn:=Int.emod_nonneg p (show q ≠ 0 by omega)
    rw [Int.tmod_eq_emod_of_nonneg hp] at hst;go_wp2
    go_quiet (fail)
    all_goals go_wp2
    go_roundw
    case rel=>exact ⟨q,p % q,rfl,by go_num,by omega,htn,hq2,by omega,Or.inl hq0,by rw [hst,hg],hx0.drewN _⟩
    case measure=>exact (Int.toNat_lt_toNat hq0).2 htm
end Go.Proofs
namespace Go.Tw
def Z4s (f:Nat -> List Int) (i:Nat):Bool:=!(List.range i).any fun j=>f j == f i
def Q5y (f:Nat -> List Int) (k i:Nat):List Nat:=(List.range k).filter fun j=>f j == f i
def X2j (f:Nat -> List Int) (k:Nat):List Nat:=(List.range k).filter (Z4s f)
theorem Z2r {f:Nat -> List Int} {i:Nat}:Z4s f i=true ↔ ∀ j,j < i -> f j ≠ f i:=by
 unfold Z4s;simp only [Bool.not_eq_true',List.any_eq_false,List.mem_range,beq_iff_eq]
theorem X9j (f:Nat -> List Int) (k i:Nat):Q5y f (k + 1) i=Q5y f k i ++ if f k == f i then [k] else []:=by
 unfold Q5y;rw [List.range_succ,List.filter_append]
 by_cases h:(f k == f i)=true
 . rw [if_pos h]; simp [h]
 . rw [if_neg h]; simp [h]
theorem X9q {f:Nat -> List Int} {i:Nat} (h:Z4s f i=true):∀ {k:Nat},i < k -> (Q5y f k i).head?=some i
 | 0,hk=>absurd hk (Nat.not_lt_zero _)
 | k + 1,hk=>by
   rw [X9j]
   by_cases hi:i < k
   . rw [List.head?_append,X9q h hi]; rfl
   . have e:i=k:=by omega
     subst e;have:Q5y f i i=[]:=by
      unfold Q5y;rw [List.filter_eq_nil_iff];intro j hj hji;exact Z2r.1 h j (List.mem_range.1 hj) (by simpa using hji)
     rw [this,if_pos (by simp)]
     rfl
theorem X1p (f:Nat -> List Int) (k:Nat):X2j f (k + 1)=X2j f k ++ if Z4s f k then [k] else []:=by
 unfold X2j;rw [List.range_succ,List.filter_append]
 by_cases h:Z4s f k=true
 . rw [if_pos h]; simp [h]
 . rw [if_neg h]; simp [h]
theorem Y2c {f:Nat -> List Int} {k i:Nat} (hi:i < k):((Q5y f k i).head? == some i)=Z4s f i:=by
 by_cases h:Z4s f i=true
 . rw [X9q h hi,h]; simp
 . have h':Z4s f i=false:=by simpa using h
   rw [h',beq_eq_false_iff_ne];intro hh;have hex:∃ j,j < i /\ f j=f i:=by
    apply Classical.byContradiction
    intro hno;exact h (Z2r.2 fun j hj e=>hno ⟨j,hj,e⟩)
   obtain ⟨j,hj,e⟩:=hex;have hs:(Q5y f k i).Pairwise (· < ·):=List.pairwise_lt_range.filter _;have hm:j ∈ Q5y f k i:=List.mem_filter.2 ⟨List.mem_range.2 (by omega),by simpa using e⟩
   cases hl:Q5y f k i with
   | nil=>rw [hl] at hm; cases hm
   | cons x l =>
     rw [hl] at hh hs hm;injection hh with hh;subst hh
     rcases List.mem_cons.1 hm with rfl | hm
     . omega
     . have:=(List.pairwise_cons.1 hs).1 j hm
       omega
def Y6m (s:Q0b) (i:Nat):List Int:=Q0c s.members i
theorem X4m (s:Q0b) (i:Nat):X0v s i=Q5y (Y6m s) s.members.length i:=rfl
theorem X4k (s:Q0b):Q5z s=(X2j (Y6m s) s.members.length).map fun i=>⟨(Q5y (Y6m s) s.members.length i).map Int.ofNat,Y8y s (Q5y (Y6m s) s.members.length i)⟩:=by
 unfold Q5z X2j;simp only [X4m]
 congr 1
 refine List.filter_congr fun i hi=>?_;exact Y2c (List.mem_range.1 hi)
end Go.Tw
namespace Go.Tw
theorem Y7v {s:Q0b} {l:List Int}:Q3t s l=0 ↔ l.length <= 8 /\ ∀ i,i < l.length -> (0 <= ix l i /\ ix l i < s.members.length) /\ (0 < i -> ix l (i - 1) < ix l i):=by
 unfold Q3t
 by_cases h8:8 < l.length
 . rw [if_pos h8]
   constructor
   . intro h; cases h
   . intro h; omega
 . rw [if_neg h8,Q1x]
   constructor
   . intro h
     refine ⟨by omega,fun i hi=>?_⟩
     have:=h _ (List.mem_map.2 ⟨i,List.mem_range.2 hi,rfl⟩)
     split at this
     . cases this
     . split at this
       . cases this
       . rename_i h1 h2
         exact ⟨by omega,fun h0=>by
          apply Classical.byContradiction
          intro hn;exact h2 ⟨h0,by omega⟩⟩
   . rintro ⟨_,h⟩ e he
     obtain ⟨i,hi,rfl⟩:=List.mem_map.1 he;have hh:=h i (List.mem_range.1 hi);rw [if_neg (by omega),if_neg (fun hn=>by have:=hh.2 hn.1; omega)]
theorem Q5l (s:Q0b) (p:List Rul):∀ x ∈ Q2o s p,0 <= x /\ x < s.members.length:=by
 intro x hx;obtain ⟨i,hi,rfl⟩:=List.mem_map.1 hx;have:=List.mem_range.1 (List.mem_filter.1 hi).1;exact ⟨Int.natCast_nonneg i,Int.ofNat_lt.2 this⟩
theorem kept_len (s:Q0b) (p:List Rul):(Q2o s p).length <= s.members.length:=by
 unfold Q2o;rw [List.length_map];exact Nat.le_trans (List.length_filter_le _ _) (by simp)
end Go.Tw
namespace Go.Proofs
open Go.RowKit Go.Tw Go.Flow
attribute [local go_sem] Oper.semAt_some
theorem Y8l (s:Q0b):∀ x ∈ allL s,0 <= x /\ x < s.members.length:=by
 intro x hx;obtain ⟨i,hi,rfl⟩:=List.mem_map.1 hx;exact ⟨Int.natCast_nonneg i,Int.ofNat_lt.2 (List.mem_range.1 hi)⟩
theorem X5n {s:Q0b} (hS:Q0u s) {l:List Int} (h:∀ x ∈ l,0 <= x /\ x < s.members.length):(l.length:Int) <= Q1k s l /\ Q1k s l <= 1000 * l.length:=by
 induction l with
 | nil=>exact ⟨Int.le_refl _,by simp [Q1k]⟩
 | cons x l ih =>
   have h1:=ih fun y hy=>h y (List.mem_cons_of_mem _ hy);have hx:=h x (List.mem_cons_self ..);have hw:=hS.weights x.toNat (by omega)
   have e:Q1k s (x :: l)=Q0k s.members x.toNat + Q1k s l:=by simp [Q1k]
   rw [e,List.length_cons];omega
theorem Z8l (s:Q0b):(allL s).length=s.members.length:=by simp [allL]
theorem Tryz.Z8n (w:World):(isAgg 107).run Tryz.prog w=.ok true w:=by kernel_rfl
theorem Tryz.Q8d (w:World):(sizeOf 107).run Tryz.prog w=.ok 2 w:=by kernel_rfl
theorem X8u (w:World) (v u:Value) (s:Q0b) (p:List Rul) (hv:Q0f w v s) (hu:Q0j w u p) (hS:Q0u s) (hp:Q1c s.hist p=0) :
    Calls Tryz.prog 66 #[v,u] w fun e w'=>e=.returned (.agg #[.int .i64 (Q6a s p).num,.int .i64 (Q6a s p).den]) /\ Ext w w':=by
 have hkb:=X5n hS (Q5l s p);have hab:=X5n hS (Y8l s);have hkl:=kept_len s p;have h8:=hS.some;rw [Z8l] at hab;have HKB:Hid (0 <= Q1k s (Q2o s p) /\ Q1k s (Q2o s p) <= 8000):=hid (by omega)
 have HAB:Hid (1 <= Q1k s (allL s) /\ Q1k s (allL s) <= 8000):=hid (by omega)
 have HLO:Hid (∀ w:World,Calls Tryz.prog 69 #[.int .i64 (Q1k s (Q2o s p)),.int .i64 (Q1k s (allL s))] w fun e w'=>e=.returned (.agg #[.int .i64 (Q6a s p).num,.int .i64 (Q6a s p).den]) /\ Ext w w'):=hid (fun w=>Z4r w _ _ HKB.out.1 (by have:=HKB.out.2; omega) HAB.out.1 (by have:=HAB.out.2; omega))
 have HKP:Hid (∀ (w:World) (v u:Value),Q0f w v s -> Q0j w u p -> Calls Tryz.prog 30 #[v,u] w fun e w'=>∃ x,e=.returned x /\ Q0e w' x (Q2o s p) /\ Ext w w'):=hid (fun w v u h1 h2=>Y5k w v u s p h1 h2 hS hp);have HW1:Hid (∀ (w:World) (v u:Value),Q0f w v s -> Q0e w u (Q2o s p) -> Calls Tryz.prog 29 #[v,u] w fun e w'=>e=.returned (.int .i64 (Q1k s (Q2o s p))) /\ Ext w w'):=hid (fun w v u h1 h2=>X1u w v u s _ h1 h2 hS (Q5l s p) (by omega))
 have HW2:Hid (∀ (w:World) (v u:Value),Q0f w v s -> Q0e w u (allL s) -> Calls Tryz.prog 29 #[v,u] w fun e w'=>e=.returned (.int .i64 (Q1k s (allL s))) /\ Ext w w'):=hid (fun w v u h1 h2=>X1u w v u s _ h1 h2 hS (Y8l s) (by rw [Z8l]; omega))
 have HAL:Hid (∀ (w:World) (v:Value),Q0f w v s -> Calls Tryz.prog 135 #[v] w fun e w'=>∃ x,e=.returned x /\ Q0e w' x (allL s) /\ Ext w w'):=hid (fun w v h1=>J1m w v s h1 (by omega))
 obtain ⟨wk,hwk⟩:∃ x,Q1k s (Q2o s p)=x:=⟨_,rfl⟩;obtain ⟨wa,hwa⟩:∃ x,Q1k s (allL s)=x:=⟨_,rfl⟩;obtain ⟨cn,hcn⟩:∃ x,(Q6a s p).num=x:=⟨_,rfl⟩;obtain ⟨cd,hcd⟩:∃ x,(Q6a s p).den=x:=⟨_,rfl⟩;rw [hwk] at HLO HW1;rw [hwa] at HLO HW2;rw [hcn,hcd] at HLO ⊢;obtain ⟨a,b,rfl,h2⟩:=hv;obtain ⟨rv,rfl,hr⟩:=hu;obtain ⟨A,capa,rfl,-,-,-⟩:=h2.ships.opened;obtain ⟨B,capb,rfl,-,-,-⟩:=h2.members.opened;obtain ⟨R,capr,rfl,-,-,-⟩:=hr.opened;have H2:=hid h2;have HR:=hid hr;clear h2 hr hS hp hkb hab hkl h8 HKB HAB hwk hwa hcn hcd;go_enter Tryz.func66,Tryz.ntmps66;go_wp2;change Code.wp _ _ _ _ (((w.alloc (.cells #[.int .i64 s.limit,.slice A s.ships.length capa,.slice B s.members.length capb] 25)).alloc (.cells #[.slice R p.length capr] 47)).alloc (.cells #[.int .i64 0,.int .i64 0] 107));obtain ⟨W,hWW,k0,k1,k2,HXW,eW⟩:=X1i w 25 #[.int .i64 s.limit,.slice A s.ships.length capa,.slice B s.members.length capb] 47 #[.slice R p.length capr] 107 #[.int .i64 0,.int .i64 0];rw [hWW];clear hWW;have K0:=hid k0;have K1:=hid k1;have K2:=hid k2;obtain ⟨gs,hgs⟩:∃ x,w.heap.size=x:=⟨_,rfl⟩;rw [hgs] at K0 K1 K2 eW ⊢;clear k0 k1 k2;have hdr:=(Ext.refl W).drew;refine Flow.Q4c [.w,.w,.w,.w,.w,.w,.w,.w,.w,.w,.last] [0,1,2,3,4,5,6,7,8,9,10] [[],[],[],[1,2],[0,1,2,3],[],[],[0,1,2,3,4,6],[0,1,2,3,4,5,6,7],[0,1,2,3,4,5,6,7,8],[0,1,2,3,4,5,6,7,8,9]] [10]
  [.c 0 (.agg #[.int .i64 s.limit,.slice A s.ships.length capa,.slice B s.members.length capb]),.c 1 (.agg #[.int .i64 s.limit,.slice A s.ships.length capa,.slice B s.members.length capb]),.c 2 (.agg #[.slice R p.length capr]),⟨fun v wz=>(fun v w'=>Q0e w' (v 3) (Q2o s p)) v wz,by intro v a b hx h; exact Q0e.ext h hx⟩,.c 4 (.int .i64 wk),.c 5 (.agg #[.int .i64 s.limit,.slice A s.ships.length capa,.slice B s.members.length capb]),.c 6 (.agg #[.int .i64 s.limit,.slice A s.ships.length capa,.slice B s.members.length capb]),⟨fun v wz=>(fun v w'=>Q0e w' (v 7) (allL s)) v wz,by intro v a b hx h; exact Q0e.ext h hx⟩,.c 8 (.int .i64 wa),.c 9 (.agg #[.int .i64 cn,.int .i64 cd]),.none]
  [fun v w1 w'=>Blk w' (gs + 1 + 1) 107 #[.int .i64 cn,.int .i64 cd] /\ (∀ n,n <= gs + 1 + 1 -> Below n w1 w')] (by kernel_rfl) rfl (by kernel_rfl) ⟨?g0,?g1,?g2,?g3,?g4,?g5,?g6,?g7,?g8,?g9,?g10,trivial⟩ ?post
 case g0 | g1 | g5 | g6=>
  intro v w1 hx;intro bb hbb;intro K hK;have o1:bb.eval (.tmp 2)=.pointer (some ⟨gs,0,none⟩):=by rw [hbb]; dsimp only; (try simp (discharger:=decide) only [eval_put_ne]); rfl
  exact Q0g (.tmp 2) _ rfl Tryz.Q5h Tryz.Q3p o1 (K0.out.ext (hdr.trans hx)) rfl (hK _ _ (Ext.refl _) rfl)
 case g2=>
  intro v w1 hx;intro bb hbb;intro K hK;have o1:bb.eval (.tmp 3)=.pointer (some ⟨gs + 1,0,none⟩):=by rw [hbb]; dsimp only; (try simp (discharger:=decide) only [eval_put_ne]); rfl
  exact Q0g (.tmp 3) _ rfl Tryz.Q6w Tryz.Q4t o1 (K1.out.ext (hdr.trans hx)) rfl (hK _ _ (Ext.refl _) rfl)
 case g3=>
  intro v w1 hx;(repeat intro (zq:v _=_));intro bb hbb;subst hbb;intro K hK;go_simp;refine Q0d (HKP.out w1 _ _ ⟨_,_,rfl,H2.out.ext (HXW.out.trans (hdr.trans hx))⟩ ⟨_,rfl,HR.out.ext (HXW.out.trans (hdr.trans hx))⟩) ?_;rintro e w2 ⟨x,rfl,h1,hx2⟩;exact ⟨_,rfl,hK _ _ hx2 h1⟩
 case g4=>
  intro v w1 hx (q0:v 0=_) (q1:v 1=_) (q2:v 2=_) (q3:(fun v w'=>Q0e w' (v 3) (Q2o s p)) v w1);intro bb hbb;subst hbb;intro K hK;go_simp;refine Q0d (HW1.out w1 _ _ ⟨_,_,rfl,H2.out.ext (HXW.out.trans (hdr.trans hx))⟩ q3) ?_;rintro e w2 ⟨rfl,hx2⟩;exact ⟨_,rfl,hK _ _ hx2 rfl⟩
 case g7=>
  intro v w1 hx (q0:v 0=_) (q1:v 1=_) (q2:v 2=_) _ (q4:v 4=_) (q6:v 6=_);intro bb hbb;subst hbb;intro K hK;go_simp;refine Q0d (HAL.out w1 _ ⟨_,_,rfl,H2.out.ext (HXW.out.trans (hdr.trans hx))⟩) ?_;rintro e w2 ⟨x,rfl,h1,hx2⟩;exact ⟨_,rfl,hK _ _ hx2 h1⟩
 case g8=>
  intro v w1 hx (q0:v 0=_) (q1:v 1=_) (q2:v 2=_) _ (q4:v 4=_) (q5:v 5=_) (q6:v 6=_) (q7:(fun v w'=>Q0e w' (v 7) (allL s)) v w1);intro bb hbb;subst hbb;intro K hK;go_simp;refine Q0d (HW2.out w1 _ _ ⟨_,_,rfl,H2.out.ext (HXW.out.trans (hdr.trans hx))⟩ q7) ?_;rintro e w2 ⟨rfl,hx2⟩;exact ⟨_,rfl,hK _ _ hx2 rfl⟩
 case g9=>
  intro v w1 hx (q0:v 0=_) (q1:v 1=_) (q2:v 2=_) _ (q4:v 4=_) (q5:v 5=_) (q6:v 6=_) _ (q8:v 8=_);intro bb hbb;subst hbb;intro K hK;go_simp;refine Q0d (HLO.out w1) ?_;rintro e w2 ⟨rfl,hx2⟩;exact ⟨_,rfl,hK _ _ hx2 rfl⟩
 case g10=>
  intro v w1 hx (q0:v 0=_) (q1:v 1=_) (q2:v 2=_) _ (q4:v 4=_) (q5:v 5=_) (q6:v 6=_) _ (q8:v 8=_) (q9:v 9=_);intro wl hT;obtain rfl:wl=w1:=hT;intro bb hbb;intro K hK;have o1:bb.eval (.tmp 4)=.pointer (some ⟨gs + 1 + 1,0,none⟩):=by rw [hbb]; dsimp only; (try simp (discharger:=decide) only [eval_put_ne]); rfl
  have o2:bb.eval (.tmp 14)=.agg #[.int .i64 cn,.int .i64 cd]:=by rw [hbb]; dsimp only; (try simp (discharger:=decide) only [eval_put_ne]); rw [Q0a (by simp only [size_put]; exact (by decide:14 < 15))]; exact q9
  exact Q1m (.tmp 4) (.tmp 14) _ rfl Tryz.Q8d o1 o2 (K2.out.ext (hdr.trans hx)) rfl rfl (by intro u hu; simp only [List.mem_cons,List.not_mem_nil,or_false] at hu; rcases hu with rfl | rfl <;> rfl) (fun vv w' hb hl ho=>hK _ _ ⟨hb,hl⟩)
 case post =>
  intro v w1 hx;(iterate 3 intro (zq:v _=_));intro (q3:(fun v w'=>Q0e w' (v 3) (Q2o s p)) v w1);(iterate 3 intro (zq:v _=_));intro (q7:(fun v w'=>Q0e w' (v 7) (allL s)) v w1);(iterate 2 intro (zq:v _=_));intro w2 hE;replace hE:(fun v w1 w'=>Blk w' (gs + 1 + 1) 107 #[.int .i64 cn,.int .i64 cd] /\ (∀ n,n <= gs + 1 + 1 -> Below n w1 w')) v w1 w2:=hE;simp only [Flow.acts,Act.put];go_simp;obtain ⟨hb9,hl9⟩:=hE;have hx9:Below w.heap.size W w2:=Below.trans ((hdr.trans hx).mono (by omega)) (hl9 _ (by omega))
  have HX9:=hid hx9;clear hx hdr hx9 q3 q7 hl9;(repeat clear zq);go_wp2;refine bodyPost_ret (Q1w Tryz.results66 rfl hb9 Tryz.Z8n Tryz.Q8d) rfl ?_;exact ⟨rfl,Below.trans HXW.out HX9.out⟩
end Go.Proofs
