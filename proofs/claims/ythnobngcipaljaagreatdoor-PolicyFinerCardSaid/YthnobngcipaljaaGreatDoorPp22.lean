/- Contracts: add (of a cost), spent. Contract: the function that decide lays over the plans. -/
import Derived.Test.YthnobngcipaljaaGreatDoorPp10
import Derived.Test.YthnobngcipaljaaGreatDoorPp11
import Derived.Test.YthnobngcipaljaaGreatDoorPp09
import Derived.Test.YthnobngcipaljaaGreatDoorPp21
set_option maxRecDepth 1000000
set_option maxHeartbeats 64000000
set_option linter.unusedVariables false
set_option linter.unusedSimpArgs false
set_option linter.constructorNameAsVariable false
open Go.Lib (hid)
namespace Go.Proofs
open Go.RowKit Go.Tw Go.Flow
attribute [local go_sem] Oper.semAt_some
theorem Tryz.X8m (w:World):(isAgg 156).run Tryz.prog w=.ok true w:=by kernel_rfl
theorem Tryz.Q7d (w:World):(sizeOf 156).run Tryz.prog w=.ok 2 w:=by kernel_rfl
theorem X3z {a b:Int}:∀ u ∈ (#[Value.int .i64 a,.int .i64 b]:Array Value).toList,u.oneCell'=true:=by
 intro u hu;simp only [List.mem_cons,List.not_mem_nil,or_false] at hu
 rcases hu with rfl | rfl <;> rfl
theorem Y6y (w:World) (v:Value) (s:Q0b) (c d:Int) (t:Nat) (wt:Int) (hv:Q0h w v s) (ht:t < s.ships.length) (hc:0 <= c /\ c <= 1000000000000) (hd:0 <= d /\ d <= 1000000000000) (hw:0 <= wt /\ wt <= 1000000) (hs:0 <= ix s.ships t /\ ix s.ships t <= 1000) :
    Calls Tryz.prog 166 #[.agg #[.int .i64 c,.int .i64 d],v,.int .i64 (t:Int),.int .i64 wt] w fun e w'=>e=.returned (.agg #[.int .i64 (c + wt),.int .i64 (d + wt * ix s.ships t)]) /\ Ext w w':=by
 obtain ⟨a,b,rfl,h2⟩:=hv;obtain ⟨A,capa,rfl,-,-,hcA⟩:=h2.ships.opened;obtain ⟨B,capb,rfl,-,-,-⟩:=h2.members.opened;obtain ⟨ba,oa,rfl,hca⟩:=hcA t ht;have htI:(t:Int) < s.ships.length:=by omega
 obtain ⟨dl,hdl⟩:∃ x,ix s.ships t=x:=⟨_,rfl⟩;rw [hdl] at hca hs ⊢;have m1:0 <= wt * dl:=Int.mul_nonneg hw.1 hs.1;have m2:wt * dl <= 1000000 * 1000:=Int.mul_le_mul hw.2 hs.2 hs.1 (by omega)
 obtain ⟨pr,hpr⟩:∃ x,wt * dl=x:=⟨_,rfl⟩;rw [hpr] at m1 m2 ⊢;have hw1:IntKind.i64.wrap (c + wt)=c + wt:=Q2v _ (by omega) (by omega)
 have hw2:IntKind.i64.wrap pr=pr:=Q2v _ (by omega) (by omega)
 have hw3:IntKind.i64.wrap (d + pr)=d + pr:=Q2v _ (by omega) (by omega)
 have HCA:=hid hca;clear h2 hcA hca hdl m1 m2 hc hd hw hs;go_enter Tryz.func166,Tryz.ntmps166;go_wp2;change Code.wp _ _ _ _ (((w.alloc (.cells #[.int .i64 c,.int .i64 d] 156)).alloc (.cells #[.int .i64 s.limit,.slice (some ⟨ba,oa,none⟩) s.ships.length capa,.slice B s.members.length capb] 34)).alloc (.cells #[.int .i64 0,.int .i64 0] 156));obtain ⟨W,hWW,k0,k1,k2,HXW,eW⟩:=X2z w 156 #[.int .i64 c,.int .i64 d] 34 #[.int .i64 s.limit,.slice (some ⟨ba,oa,none⟩) s.ships.length capa,.slice B s.members.length capb] 156 #[.int .i64 0,.int .i64 0];rw [hWW];clear hWW;have K0:=hid k0;have K1:=hid k1;have K2:=hid k2;obtain ⟨gc,hgc⟩:∃ x,w.heap.size=x:=⟨_,rfl⟩;have HGC:=hid hgc;rw [hgc] at K0 K1 K2 eW ⊢;clear k0 k1 k2 hgc;have hdr:=(Ext.refl W).drew;refine Flow.Q4m [.p,.w,.p,.p,.p,.w,.p,.p,.w,.p,.p,.w,.p,.p,.p,.last] [0,1,2,3,4,5,6,7,8,9,10,11,12,13,14,15] [[],[0],[],[0,1,2],[],[4],[],[],[7],[],[7,8,9],[7,8,9,10],[6,7,8,9,10,11],[4,5,6,7,8,9,10,11,12],[0,1,2,3,4,5,6,7,8,9,10,11,12,13],[0,1,2,3,4,5,6,7,8,9,10,11,12,13,14]] [15]
  [.c 0 (.pointer (some ⟨gc,0,none⟩)),.c 1 (.int .i64 c),.c 2 (.int .i64 wt),.c 3 (.int .i64 (c + wt)),.c 4 (.pointer (some ⟨gc,1,none⟩)),.c 5 (.int .i64 d),.c 6 (.int .i64 wt),.c 7 (.pointer (some ⟨gc + 1,1,none⟩)),.c 8 (.slice (some ⟨ba,oa,none⟩) s.ships.length capa),.c 9 (.int .i64 (t:Int)),.c 10 (.pointer (some ⟨ba,oa + t,none⟩)),.c 11 (.int .i64 dl),.c 12 (.int .i64 pr),.c 13 (.int .i64 (d + pr)),.c 14 (.agg #[.int .i64 (c + wt),.int .i64 (d + pr)]),.none]
  [fun v w1 w'=>Blk w' (gc + 1 + 1) 156 #[.int .i64 (c + wt),.int .i64 (d + pr)] /\ (∀ n,n <= gc + 1 + 1 -> Below n w1 w')] (by kernel_rfl) rfl (by kernel_rfl) ⟨?g0,?g1,?g2,?g3,?g4,?g5,?g6,?g7,?g8,?g9,?g10,?g11,?g12,?g13,?g14,?g15,trivial⟩ ?post
 case g0 | g2 | g4 | g6 | g7 | g9=>
  intro v w1 hx;intro bb hbb;subst hbb;refine ⟨_,fun w=>?_,rfl⟩;go_simp
 case g1 | g5 | g8 | g11=>
  intro v w1 hx;(repeat intro (zq:v _=_));intro bb hbb;subst hbb;have n0:w1.cell? ⟨gc,0,none⟩=some (.int .i64 c):=(K0.out.ext (hdr.trans hx)).cell 0;have n1:w1.cell? ⟨gc,1,none⟩=some (.int .i64 d):=(K0.out.ext (hdr.trans hx)).cell 1;have n2:w1.cell? ⟨gc + 1,1,none⟩=some (.slice (some ⟨ba,oa,none⟩) s.ships.length capa):=(K1.out.ext (hdr.trans hx)).cell 1;have n3:w1.cell? ⟨ba,oa + t,none⟩=some (.int .i64 dl):=(HXW.out.trans (hdr.trans hx)).cell HCA.out;intro K hK;go_simp;exact hK _ _ (Ext.refl _) rfl
 case g3 | g10 | g12 | g13 | g14=>
  intro v w1 hx;(repeat intro (zq:v _=_));intro bb hbb;subst hbb;refine ⟨_,fun w=>?_,rfl⟩;go_simp
 case g15=>
  intro v w1 hx;(repeat intro (zq:v _=_));intro wl hT;obtain rfl:wl=w1:=hT;intro bb hbb;intro K hK;have o1:bb.eval (.tmp 8)=.pointer (some ⟨gc + 1 + 1,0,none⟩):=by rw [hbb]; dsimp only; (try simp (discharger:=decide) only [eval_put_ne]); rfl
  have o2:bb.eval (.tmp 23)=.agg #[.int .i64 (c + wt),.int .i64 (d + pr)]:=by rw [hbb]; dsimp only; (try simp (discharger:=decide) only [eval_put_ne]); rw [Q0a (by simp only [size_put]; exact (by decide:23 < 24))]; assumption
  exact Q2b (.tmp 8) (.tmp 23) _ rfl Tryz.Q7d o1 o2 (K2.out.ext (hdr.trans hx)) rfl rfl X3z (fun vv w' hb hl ho=>hK _ _ ⟨hb,hl⟩)
 case post =>
  intro v w1 hx;(iterate 15 intro (zq:v _=_));intro w2 hE;replace hE:(fun v w1 w'=>Blk w' (gc + 1 + 1) 156 #[.int .i64 (c + wt),.int .i64 (d + pr)] /\ (∀ n,n <= gc + 1 + 1 -> Below n w1 w')) v w1 w2:=hE;simp only [Flow.acts,Act.put];go_simp;obtain ⟨hb9,hl9⟩:=hE;have HX9:Hid (Below w.heap.size W w2):=hid (Below.trans ((hdr.trans hx).mono (by have:=HGC.out; omega)) (hl9 _ (by have:=HGC.out; omega)))
  clear hx hdr hl9;(repeat clear zq);go_wp2;refine bodyPost_ret (Q1v Tryz.results166 rfl hb9 Tryz.X8m Tryz.Q7d) rfl ?_;exact ⟨rfl,Below.trans HXW.out HX9.out⟩
theorem Y6o (l:List Bool) {k:Nat} (hk:k < l.length):countB (l.take (k + 1))=countB (l.take k) + if bx l k then 1 else 0:=by
 have h:l.take (k + 1)=l.take k ++ [bx l k]:=by rw [List.take_succ_eq_append_getElem hk]; simp [bx,hk]
 rw [h];unfold countB;rw [List.countP_append];cases bx l k <;> simp
def Q7l (s:Q0b) (l:List Bool) (k:Nat):Int:=((List.range k).map fun t=>if bx l t then ix s.ships t else 0).sum
theorem X7t (s:Q0b) (l:List Bool) (k:Nat):Q7l s l (k + 1)=Q7l s l k + if bx l k then ix s.ships k else 0:=by
 unfold Q7l; rw [List.range_succ,List.map_append,List.sum_append]; simp
theorem Z1s (s:Q0b) (l:List Bool):Q7l s l l.length=Q6e s l:=rfl
theorem Y6w {s:Q0b} (hS:Q1b s) (l:List Bool):∀ k,k <= s.ships.length -> 0 <= Q7l s l k /\ Q7l s l k <= 1000 * k
 | 0,_=>by simp [Q7l]
 | k + 1,h=>by
   have ih:=Y6w hS l k (by omega)
   have hd:=hS.delays (ix s.ships k) (by rw [Q4s (show k < s.ships.length by omega)]; exact List.getElem_mem _)
   rw [X7t]
   split <;> omega
theorem Z6x {a b A B:Int} (ha:0 <= a /\ a <= A) (hb:0 <= b /\ b <= B):0 <= a * b /\ a * b <= A * B :=
 ⟨Int.mul_nonneg ha.1 hb.1,Int.mul_le_mul ha.2 hb.2 hb.1 (by omega)⟩
theorem Y8b {w w':World} {O b k:Nat} {T:TypeId} {x y:Int} {v:Value} (hO:Blk w O T #[.int .i64 x,.int .i64 y]) (h:Off O w w') (hc:w.cell? ⟨b,k,none⟩=some v) (hv:∀ n,v ≠ .int .i64 n):w'.cell? ⟨b,k,none⟩=some v:=by
 have hb:=World.block_lt_of_cell? w _ hc;have hne:b ≠ O:=by
  rintro rfl;rw [hO.cell k] at hc
  rcases k with _ | _ | k
  . cases hc; exact hv _ rfl
  . cases hc; exact hv _ rfl
  . simp at hc
 have he:=h.2.2 b hb hne;unfold World.cell? at hc ⊢;rw [he]; exact hc
theorem X4y (w:World) (v u:Value) (s:Q0b) (p:List Rul) (hv:Q0h w v s) (hu:Q0w w u p) (hS:Q1b s) (hp:Q2d s.hist p=0) :
    Calls Tryz.prog 103 #[v,u] w fun e w'=>e=.returned (.agg #[.int .i64 (Q4z s p),.int .i64 (X2t s p)]) /\ Ext w w':=by
 have h8:=hS.some;have h6:=hS.tides;have HS:=hid hS;have HALL:Hid (Q4i s p countB s.members.length=Q4z s p):=hid (X7v s p countB);have HALD:Hid (Q4i s p (Q6e s) s.members.length=X2t s p):=hid (X7v s p (Q6e s));have HBC:=hid (fun k hk=>X5h hS p (f:=countB) (M:=6) (by omega) (X0y hS) k hk)
 have HBD:=hid (fun k hk=>X5h hS p (f:=Q6e s) (M:=6000) (by omega) (Z1d hS) k hk)
 have HCL:Hid (∀ (W:World) (v u:Value),Q0h W v s -> Q0w W u p -> Calls Tryz.prog 109 #[v,u] W fun e w'=>∃ x,e=.returned x /\ Q3g w' x (Q2t s p) /\ Ext W w'):=hid (fun W v u h1 h2=>Q6a W v u s p h1 h2 hS hp);obtain ⟨a,b,rfl,h2⟩:=hv;obtain ⟨rv,rfl,hr⟩:=hu;obtain ⟨A,capa,rfl,-,-,-⟩:=h2.ships.opened;obtain ⟨M,capb,rfl,-,-,-⟩:=h2.members.opened;obtain ⟨R,capr,rfl,-,-,-⟩:=hr.opened;have H2:=hid h2;have HR:=hid hr;clear h2 hr hS hp;go_enter Tryz.func103,Tryz.ntmps103;go_wp2_with fail;change Calls _ _ _ ((((w.alloc (.cells #[.int .i64 s.limit,.slice A s.ships.length capa,.slice M s.members.length capb] 34)).alloc (.cells #[.slice R p.length capr] 38)).alloc (.cells #[.int .i64 0,.int .i64 0] 156)).alloc (.cells #[.int .i64 0,.int .i64 0] 156)) _;have k0:=Blk.made w 34 #[.int .i64 s.limit,.slice A s.ships.length capa,.slice M s.members.length capb];have x0:=Ext.box w (.cells #[.int .i64 s.limit,.slice A s.ships.length capa,.slice M s.members.length capb] 34);have es0:(w.alloc (.cells #[.int .i64 s.limit,.slice A s.ships.length capa,.slice M s.members.length capb] 34)).heap.size=w.heap.size + 1:=by simp
 obtain ⟨X0,hX0⟩:∃ X,w.alloc (.cells #[.int .i64 s.limit,.slice A s.ships.length capa,.slice M s.members.length capb] 34)=X:=⟨_,rfl⟩;rw [hX0] at k0 x0 es0 ⊢;clear hX0;have k1:=Blk.made X0 38 #[.slice R p.length capr];have x1:=Ext.box X0 (.cells #[.slice R p.length capr] 38);have es1:(X0.alloc (.cells #[.slice R p.length capr] 38)).heap.size=X0.heap.size + 1:=by simp
 obtain ⟨X1,hX1⟩:∃ X,X0.alloc (.cells #[.slice R p.length capr] 38)=X:=⟨_,rfl⟩;rw [hX1] at k1 x1 es1 ⊢;clear hX1;have k2:=Blk.made X1 156 #[.int .i64 0,.int .i64 0];have x2:=Ext.box X1 (.cells #[.int .i64 0,.int .i64 0] 156);have es2:(X1.alloc (.cells #[.int .i64 0,.int .i64 0] 156)).heap.size=X1.heap.size + 1:=by simp
 obtain ⟨X2,hX2⟩:∃ X,X1.alloc (.cells #[.int .i64 0,.int .i64 0] 156)=X:=⟨_,rfl⟩;rw [hX2] at k2 x2 es2 ⊢;clear hX2;have k3:=Blk.made X2 156 #[.int .i64 0,.int .i64 0];have x3:=Ext.box X2 (.cells #[.int .i64 0,.int .i64 0] 156);have es3:(X2.alloc (.cells #[.int .i64 0,.int .i64 0] 156)).heap.size=X2.heap.size + 1:=by simp
 obtain ⟨X3,hX3⟩:∃ X,X2.alloc (.cells #[.int .i64 0,.int .i64 0] 156)=X:=⟨_,rfl⟩;rw [hX3] at k3 x3 es3 ⊢;clear hX3;replace k0:=((k0.ext x1).ext x2).ext x3;replace k1:=(k1.ext x2).ext x3;replace k2:=k2.ext x3;have e0:X0.heap.size=w.heap.size + 1:=by omega
 have e1:X1.heap.size=w.heap.size + 1 + 1:=by omega
 have e2:X2.heap.size=w.heap.size + 1 + 1 + 1:=by omega
 have e3:X3.heap.size=w.heap.size + 1 + 1 + 1 + 1:=by omega
 rw [e0] at k1;rw [e1] at k2;rw [e2] at k3;have HXW:Hid (Ext w X3):=hid (Ext.trans (Ext.trans (Ext.trans (x0) x1) x2) x3);have eW:X3.heap.size=w.heap.size + 1 + 1 + 1 + 1:=e3;clear x0 es0 e0 x1 es1 e1 x2 es2 e2 x3 es3 e3;obtain ⟨W,hWW⟩:∃ W,X3=W:=⟨_,rfl⟩;rw [hWW] at HXW eW ⊢ k0 k1 k2 k3;clear hWW;refine (HCL.out _ _ _ ⟨_,_,rfl,H2.out.ext HXW.out⟩ ⟨_,rfl,HR.out.ext HXW.out⟩).mono ?_;rintro e w5 ⟨x,rfl,hxb,hx5⟩;have K0:=hid (k0.ext hx5);have KR:=hid (k2.ext hx5);have KO:=hid (k3.ext hx5);have HX5:=hid (HXW.out.trans hx5);have HSZ5:Hid (w.heap.size + 1 + 1 + 1 + 1 <= w5.heap.size):=hid (by have:=hx5.size; omega)
 obtain ⟨U,capu,rfl,-,-,hcu⟩:=hxb.opened;rw [Q2r] at hcu ⊢;have HCU:=hid hcu;obtain ⟨gs,hgs⟩:∃ x,w.heap.size=x:=⟨_,rfl⟩;have HGS:=hid hgs;rw [hgs] at K0 KR KO HSZ5 ⊢;clear k0 k1 k2 k3 hx5 hxb hcu hgs eW HXW;go_wp2
 go_loopw [14] (fun iv wr=>∃ i:Nat,i <= s.members.length /\ iv=.int .i64 i /\ Blk wr (gs + 1 + 1 + 1) 156 #[.int .i64 (Q4i s p countB i),.int .i64 (Q4i s p (Q6e s) i)] /\ Off (gs + 1 + 1 + 1) w5 wr) (fun iv _=>s.members.length - (intOf iv).toNat)
 case atStart=>exact ⟨0,Nat.zero_le _,rfl,KO.out,Off.refl _ _⟩
 case round =>
  obtain ⟨i,him,rfl,hblk,hbel⟩:=hrel;have HBL:=hid hblk;have HBE:=hid hbel;clear hblk hbel
  by_cases hlt:i < s.members.length
  . obtain ⟨bu,ou,xk,rfl,-,hxk,hbk⟩:=HCU.out i hlt
    rw [Q5r p hlt] at hbk;have hlen:(Q0m p (Q0c s.members i)).length=s.ships.length:=by rw [Q2n,(HS.out.shaped i hlt).1]
    have HNC:Hid (Q4i s p countB (i + 1)=Q4i s p countB i + Q0i s.members i * countB (Q0m p (Q0c s.members i))):=hid rfl;have HND:Hid (Q4i s p (Q6e s) (i + 1)=Q4i s p (Q6e s) i + Q0i s.members i * Q6e s (Q0m p (Q0c s.members i))):=hid rfl;have hbc:=HBC.out i him;have hbd:=HBD.out i him;have hwt:=HS.out.weights i hlt;obtain ⟨bm,off,capx,capy,capz,X,Y,Z,hme⟩:=Q2l (H2.out.members.ext HX5.out) hlt;obtain ⟨bm',off',_,_,_,_,_,_,hme'⟩:=Q2l H2.out.members hlt;have hbm:bm < gs:=by
     have h1:=hme.addr;have h2:=hme'.addr;rw [h1] at h2;cases h2;have:=hme'.lt;have:=HGS.out;omega
    have hA:=hme.addr;subst hA;have HE1:=hid hme.e1;obtain ⟨cl,hcl⟩:∃ x,Q0m p (Q0c s.members i)=x:=⟨_,rfl⟩;rw [hcl] at hbk hlen HNC HND;obtain ⟨wt,hwte⟩:∃ x,Q0i s.members i=x:=⟨_,rfl⟩;rw [hwte] at HE1 HNC HND hwt;obtain ⟨Ci,hCi⟩:∃ x,Q4i s p countB i=x:=⟨_,rfl⟩;rw [hCi] at hbc HNC HBL;obtain ⟨Di,hDi⟩:∃ x,Q4i s p (Q6e s) i=x:=⟨_,rfl⟩;rw [hDi] at hbd HND HBL;obtain ⟨Uk,capk,rfl,-,-,hck⟩:=hbk.opened;have HCK:=hid hck;have hxr:=Y8b KO.out HBE.out hxk (by intro n h; cases h)
    have hiI:(i:Int) < s.members.length:=by omega
    have HLEN:=hid hlen;have HBC2:Hid (0 <= Ci /\ Ci <= 48000):=hid (by
     have:(i:Int) * (1000 * 6) <= 8 * (1000 * 6):=Int.mul_le_mul_of_nonneg_right (by omega) (by omega)
     omega)
    have HBD2:Hid (0 <= Di /\ Di <= 48000000):=hid (by
     have:(i:Int) * (1000 * 6000) <= 8 * (1000 * 6000):=Int.mul_le_mul_of_nonneg_right (by omega) (by omega)
     omega)
    have HWT:=hid hwt;clear hme hme' hxk hbk hcl hwte hCi hDi hck hbc hbd hlen hwt
    go_light
    go_wp2;clear hxr
    go_loopw [21] (fun tv wr=>∃ t:Nat,t <= cl.length /\ tv=.int .i64 t /\ Blk wr (gs + 1 + 1 + 1) 156 #[.int .i64 (Ci + wt * countB (cl.take t)),.int .i64 (Di + wt * Q7l s cl t)] /\ Off (gs + 1 + 1 + 1) w5 wr) (fun tv _=>cl.length - (intOf tv).toNat)
    case atStart=>exact ⟨0,Nat.zero_le _,rfl,by simpa [countB,Q7l] using HBL.out,HBE.out⟩
    case round =>
     obtain ⟨t,htl,rfl,hblk,hoff⟩:=hrel;have HB2:=hid hblk;have HO2:=hid hoff;clear hblk hoff
     by_cases hlt2:t < cl.length
     . obtain ⟨bk,ok,rfl,-,hcc⟩:=HCK.out t hlt2
       replace hcc:=Y8b KO.out HO2.out hcc (by intro n h; cases h)
       have htI:(t:Int) < cl.length:=by omega
       have hts:t < s.ships.length:=by have:=HLEN.out; omega
       have HSC:=hid (Y6o cl hlt2);have HSD:=hid (X7t s cl t);cases hq:bx cl t with
       | false =>
         rw [hq] at hcc HSC HSD;have HQ:Hid (countB (cl.take (t + 1))=countB (cl.take t) /\ Q7l s cl (t + 1)=Q7l s cl t):=hid ⟨by rw [HSC.out]; simp,by rw [HSD.out]; simp⟩
         clear hq;go_wp2;go_roundw
         case rel=>exact ⟨t + 1,by omega,by go_num,by rw [HQ.out.1,HQ.out.2]; exact HB2.out,HO2.out⟩
         case measure=>simp [intOf]; omega
       | true =>
         rw [hq] at hcc HSC HSD;have HQ:Hid (countB (cl.take (t + 1))=countB (cl.take t) + 1 /\ Q7l s cl (t + 1)=Q7l s cl t + ix s.ships t):=hid ⟨by rw [HSC.out]; simp,by rw [HSD.out]; simp⟩
         have hdt:=HS.out.delays (ix s.ships t) (by rw [Q4s hts]; exact List.getElem_mem _)
         have h1:=Z6x (b:=countB (cl.take t)) (B:=6) (show 0 <= wt /\ wt <= 1000 by have:=HWT.out; omega) (X0y HS.out _ (by rw [List.length_take]; omega))
         have h2:=Y6w HS.out cl t (by omega)
         have h3:=Z6x (b:=Q7l s cl t) (B:=6000) (show 0 <= wt /\ wt <= 1000 by have:=HWT.out; omega) (by omega)
         have HADD:=hid (fun (W:World) (u:Value) (hu:Q0h W u s)=>Y6y W u s (Ci + wt * countB (cl.take t)) (Di + wt * Q7l s cl t) t wt hu hts (by have:=HBC2.out; omega) (by have:=HBD2.out; omega) (by have:=HWT.out; omega) hdt)
         have HFC:Hid (Ci + wt * countB (cl.take (t + 1))=Ci + wt * countB (cl.take t) + wt):=hid (by rw [HQ.out.1,Int.mul_add]; omega)
         have HFD:Hid (Di + wt * Q7l s cl (t + 1)=Di + wt * Q7l s cl t + wt * ix s.ships t):=hid (by rw [HQ.out.2,Int.mul_add]; omega)
         obtain ⟨C,hC⟩:∃ x,Ci + wt * countB (cl.take t)=x:=⟨_,rfl⟩;obtain ⟨D,hD⟩:∃ x,Di + wt * Q7l s cl t=x:=⟨_,rfl⟩;rw [hC] at HADD HFC HB2;rw [hD] at HADD HFD HB2;obtain ⟨dl,hdl⟩:∃ x,wt * ix s.ships t=x:=⟨_,rfl⟩;rw [hdl] at HADD HFD;have hwr:=HO2.out.2.1;have HHE:Hid (wr.cell? ⟨bm,off + i * 5 + 1,none⟩=some (.int .i64 wt)):=hid ((HO2.out.1.cell (p:=⟨bm,off + i * 5 + 1,none⟩) (show bm < gs + 1 + 1 + 1 by omega)).trans HE1.out)
         have HK0:=hid (K0.out.below HO2.out.1 (by omega))
         have HSEA:Hid (∀ W,Ext wr W -> Q0h W (.agg #[.int .i64 s.limit,.slice A s.ships.length capa,.slice (some ⟨bm,off,none⟩) s.members.length capb]) s) :=
          hid (fun W hW=>⟨_,_,rfl,H2.out.ext (Below.trans HX5.out (Below.trans (HO2.out.1.mono (by have:=HGS.out; omega)) (hW.mono (by have:=HGS.out; have:=HSZ5.out; omega))))⟩)
         have hdr:=(Ext.refl wr).drew;have HSZR:Hid (gs + 1 + 1 + 1 + 1 <= wr.heap.size):=hid (by have:=HSZ5.out; omega)
         clear hq hdt h1 h2 h3 hC hD hdl hwr
         go_light
         go_wp2;refine Flow.Q4m [.w,.w,.p,.p,.w,.p,.p,.p,.w,.w,.last] [0,1,2,3,4,5,6,7,8,9,10] [[],[],[],[],[3],[],[3,4,5],[3,4,5,6],[3,4,5,6,7],[0,1,2,3,4,5,6,7,8],[0,1,2,3,4,5,6,7,8,9]] [10]
          [.c 0 (.agg #[.int .i64 C,.int .i64 D]),.c 1 (.agg #[.int .i64 s.limit,.slice A s.ships.length capa,.slice (some ⟨bm,off,none⟩) s.members.length capb]),.c 2 (.int .i64 (t:Int)),.c 3 (.pointer (some ⟨gs,2,none⟩)),.c 4 (.slice (some ⟨bm,off,none⟩) s.members.length capb),.c 5 (.int .i64 (i:Int)),.c 6 (.pointer (some ⟨bm,off + i * 5,none⟩)),.c 7 (.pointer (some ⟨bm,off + i * 5 + 1,none⟩)),.c 8 (.int .i64 wt),.c 9 (.agg #[.int .i64 (C + wt),.int .i64 (D + dl)]),.none]
          [fun v w1 w'=>Blk w' (gs + 1 + 1 + 1) 156 #[.int .i64 (C + wt),.int .i64 (D + dl)] /\ (∀ n,n <= gs + 1 + 1 + 1 -> Below n w1 w') /\ (∀ k,k ≠ gs + 1 + 1 + 1 -> w'.heap[k]?=w1.heap[k]?)] (by kernel_rfl) rfl (by kernel_rfl) ⟨?g0,?g1,?g2,?g3,?g4,?g5,?g6,?g7,?g8,?g9,?g10,trivial⟩ ?post
         case g0=>
          intro v w1 hx;intro bb hbb;intro K hK;have o1:bb.eval (.tmp 5)=.pointer (some ⟨gs + 1 + 1 + 1,0,none⟩):=by rw [hbb]; dsimp only; (try simp (discharger:=decide) only [eval_put_ne]); rfl
          exact Q0p (.tmp 5) _ rfl Tryz.X8m Tryz.Q7d o1 (HB2.out.ext (hdr.trans hx)) rfl (hK _ _ (Ext.refl _) rfl)
         case g1=>
          intro v w1 hx;intro bb hbb;intro K hK;have o1:bb.eval (.tmp 2)=.pointer (some ⟨gs,0,none⟩):=by rw [hbb]; dsimp only; (try simp (discharger:=decide) only [eval_put_ne]); rfl
          exact Q0p (.tmp 2) _ rfl Tryz.X6u Tryz.Q9o o1 (HK0.out.ext (hdr.trans hx)) rfl (hK _ _ (Ext.refl _) rfl)
         case g2 | g3 | g5=>
          intro v w1 hx;intro bb hbb;subst hbb;refine ⟨_,fun w=>?_,rfl⟩;go_simp
         case g4 | g8=>
          intro v w1 hx;(repeat intro (zq:v _=_));intro bb hbb;subst hbb;have n0:w1.cell? ⟨gs,2,none⟩=some (.slice (some ⟨bm,off,none⟩) s.members.length capb):=(HK0.out.ext (hdr.trans hx)).cell 2;have n1:w1.cell? ⟨bm,off + i * 5 + 1,none⟩=some (.int .i64 wt):=(hdr.trans hx).cell HHE.out;intro K hK;go_simp;exact hK _ _ (Ext.refl _) rfl
         case g6 | g7=>
          intro v w1 hx;(repeat intro (zq:v _=_));intro bb hbb;subst hbb;refine ⟨_,fun w=>?_,rfl⟩;go_simp
         case g9=>
          intro v w1 hx;(repeat intro (zq:v _=_));intro bb hbb;subst hbb;intro K hK;go_simp;refine Q0e (HADD.out w1 _ (HSEA.out w1 (hdr.trans hx))) ?_;rintro e w2 ⟨rfl,hx2⟩;exact ⟨_,rfl,hK _ _ hx2 rfl⟩
         case g10=>
          intro v w1 hx;(repeat intro (zq:v _=_));intro wl hT;obtain rfl:wl=w1:=hT;intro bb hbb;intro K hK;have o1:bb.eval (.tmp 5)=.pointer (some ⟨gs + 1 + 1 + 1,0,none⟩):=by rw [hbb]; dsimp only; (try simp (discharger:=decide) only [eval_put_ne]); rfl
          have o2:bb.eval (.tmp 36)=.agg #[.int .i64 (C + wt),.int .i64 (D + dl)]:=by rw [hbb]; dsimp only; (try simp (discharger:=decide) only [eval_put_ne]); rw [Q0a (by simp only [size_put]; exact (by decide:36 < 40))]; assumption
          exact Q2b (.tmp 5) (.tmp 36) _ rfl Tryz.Q7d o1 o2 (HB2.out.ext (hdr.trans hx)) rfl rfl X3z (fun vv w' hb hl ho=>hK _ _ ⟨hb,hl,ho⟩)
         case post =>
          intro v w1 hx;(iterate 10 intro (zq:v _=_));intro w2 hE;replace hE:(fun v w1 w'=>Blk w' (gs + 1 + 1 + 1) 156 #[.int .i64 (C + wt),.int .i64 (D + dl)] /\ (∀ n,n <= gs + 1 + 1 + 1 -> Below n w1 w') /\ (∀ k,k ≠ gs + 1 + 1 + 1 -> w'.heap[k]?=w1.heap[k]?)) v w1 w2:=hE;simp only [Flow.acts,Act.put];go_simp;obtain ⟨hb9,hl9,ho9⟩:=hE;have hxx:=hdr.trans hx;have hof:Off (gs + 1 + 1 + 1) w5 w2:=⟨Below.trans HO2.out.1 (Below.trans (hxx.mono (by have:=HSZR.out; omega)) (hl9 _ (Nat.le_refl _))),Nat.le_trans HO2.out.2.1 (Nat.le_trans hxx.size (hl9 _ (Nat.le_refl _)).size),fun b hb hne=>by
           rw [ho9 b hne,Below.block hxx b (by have:=HO2.out.2.1; omega)]; exact HO2.out.2.2 b hb hne⟩
          have HB9:=hid hb9;have HOF:=hid hof;clear hx hdr hb9 hl9 ho9 hof hxx;(repeat clear zq);go_wp2;go_roundw
          case rel=>exact ⟨t + 1,by omega,by go_num,by rw [HFC.out,HFD.out]; exact HB9.out,HOF.out⟩
          case measure=>simp [intOf]; omega
     . have hte:t=cl.length:=by omega
       subst hte;have hb3:=HB2.out;rw [List.take_length,Z1s,<- HNC.out,<- HND.out] at hb3;have HB3:=hid hb3;clear hb3;go_wp2;go_roundw
       case rel=>exact ⟨i + 1,by omega,by go_num,HB3.out,HO2.out⟩
       case measure=>simp [intOf]; omega
  . have hie:i=s.members.length:=by omega
    subst hie;have hb1:=HBL.out;have hbr:=KR.out.below HBE.out.1 (by omega)
    rw [HALL.out,HALD.out] at hb1;go_wp2_with (first | (refine Q7z rfl _ _ rfl Tryz.X8m Tryz.Q7d rfl hb1 rfl ?_) | (refine Q0s rfl _ _ _ rfl Tryz.Q7d rfl rfl hbr rfl rfl X3z ?_; intro w9 hb9 hl9 ho9))
    refine bodyPost_ret (Q1v Tryz.results103 rfl hb9 Tryz.X8m Tryz.Q7d) rfl ?_;exact ⟨rfl,Below.trans HX5.out (Below.trans (HBE.out.1.mono (by have:=HGS.out; omega)) (hl9 w.heap.size (by have:=HGS.out; omega)))⟩
end Go.Proofs
namespace Go.Proofs
open Go.RowKit Go.Tw Go.Flow
attribute [local go_sem] Oper.semAt_some
def Part (w:World) (g off:Nat) (sub:Array Value):Prop:=∀ k (hk:k < sub.size),w.cell? ⟨g,off + k,none⟩=some sub[k]
theorem Part.ext {w w':World} {g off:Nat} {sub:Array Value} (h:Part w g off sub) (hx:Ext w w'):Part w' g off sub:=fun k hk=>hx.cell (h k hk)
theorem Y4i {P:Program} {w:World} {g off:Nat} {cs:Array Value} (h:Part w g off cs):(loadCells ⟨g,off,none⟩ cs.size).run P w=.ok cs w:=by
 have gen:∀ (n i:Nat) (acc:Array Value),i + n=cs.size -> acc.toList=cs.toList.take i -> (loadCellsFrom ⟨g,off,none⟩ i n acc).run P w=.ok cs w:=by
  intro n
  induction n with
  | zero =>
    intro i acc hi ha;have:acc=cs:=by
     apply Array.toList_inj.1
     rw [ha,List.take_of_length_le (by simp; omega)]
    subst this;simp [loadCellsFrom]
  | succ n ih =>
    intro i acc hi ha;have hlt:i < cs.size:=by omega
    have h0:=h i hlt;have ea:(⟨g,off,none⟩:Addr).add i=⟨g,off + i,none⟩:=by rw [addr_add]
    rw [loadCellsFrom,ea];simp only [Sem.run_bind,load,Sem.run,h0,Result.andThen_ok];refine ih (i + 1) _ (by omega) ?_
    rw [Array.toList_push,ha,<- Array.getElem_toList (by simpa using hlt),List.take_append_getElem]
 exact gen cs.size 0 #[] (by omega) (by simp)
theorem X3i {P:Program} {w:World} {g off:Nat} {T:TypeId} {cs:Array Value} (h:Part w g off cs) (hA:∀ w,(isAgg T).run P w=.ok true w) (hS:∀ w,(sizeOf T).run P w=.ok cs.size w):(loadVar T ⟨g,off,none⟩).run P w=.ok (.agg cs) w:=by
 unfold loadVar;simp only [Sem.run_bind,hA,Result.andThen_ok,if_true,hS,Y4i h,Sem.run_pure]
theorem X5e {P:Program} {w:World} {o:Oper} {a:Act} {p:Operand} {T:TypeId} {g off:Nat} {cs:Array Value} (hop:o.op=.load T p) (hA:∀ w,(isAgg T).run P w=.ok true w) (hS:∀ w,(sizeOf T).run P w=.ok cs.size w) (hp:a.eval p=.pointer (some ⟨g,off,none⟩)) (h:Part w g off cs):(execOp a.eval o).run P w=.ok (.value (.agg cs)) w:=by
 unfold execOp;simp only [hop,hp,Instr.loadAt,Instr.sureAddr,Sem.run_bind,Sem.run_pure,Result.andThen_ok,X3i h hA hS]
theorem Q5q {P:Program} {K:Value -> World -> Prop} {o:Oper} {a:Act} {w:World} (p:Operand) (T:TypeId) (ho:o.op=.load T p) (hA:∀ w,(isAgg T).run P w=.ok true w) {n:Nat} (hS:∀ w,(sizeOf T).run P w=.ok n w)
    {g off:Nat} (hp:a.eval p=.pointer (some ⟨g,off,none⟩)) {cs:Array Value} (hb:Part w g off cs) (hn:cs.size=n) (h:K (.agg cs) w):gives P K ((execOp a.eval o).run P w):=by
 subst hn;rw [X5e ho hA hS hp hb];exact h
theorem Y2v {w:World} {g:Nat} {a b c:Int} {d:Value} (h:Blk w g 159 #[.int .i64 a,.int .i64 b,.int .i64 c,d]):Part w g 1 #[.int .i64 b,.int .i64 c]:=fun k hk=>by
 have:k=0 ∨ k=1:=by have:k < 2:=hk; omega
 rcases this with rfl | rfl
 . exact h.cell 1
 . exact h.cell 2
theorem X0o {a b c:Int} {A:Option Addr} {n d:Nat}:∀ u ∈ (#[Value.int .i64 a,.int .i64 b,.int .i64 c,.slice A n d]:Array Value).toList,u.oneCell'=true:=by
 intro u hu;simp only [List.mem_cons,List.not_mem_nil,or_false] at hu
 rcases hu with rfl | rfl | rfl | rfl <;> rfl
theorem Y6f (w:World) (s:ByteArray):(Instr.buildSlice 157 1 #[(0,.string s)]).run Tryz.prog w=.ok (.slice (some ⟨w.heap.size,0,none⟩) 1 1) (w.alloc (.cells #[.string s] 9)):=by kernel_rfl
theorem X2b {K:Value -> World -> Prop} {o:Oper} {a:Act} {w:World} (T E:TypeId) (x:Operand) (ho:o.op=.buildSlice T 1 #[(0,x)]) {u:Value} (hx:a.eval x=u) (hr:(Instr.buildSlice T 1 #[(0,u)]).run Tryz.prog w=.ok (.slice (some ⟨w.heap.size,0,none⟩) 1 1) (w.alloc (.cells #[u] E)))
    (h:K (.slice (some ⟨w.heap.size,0,none⟩) 1 1) (w.alloc (.cells #[u] E))):gives Tryz.prog K ((execOp a.eval o).run Tryz.prog w):=by
 unfold execOp;simp only [ho,hx,List.map_toArray,List.map_cons,List.map_nil,Sem.run_bind,hr,Result.andThen_ok,Sem.run_pure];exact h
theorem Z5t {w:World} {g:Nat} {k:ByteArray} (h:Blk w g 9 #[.string k]):Q0q w 0 9 .string (.slice (some ⟨g,0,none⟩) 1 1) [k] :=
 ⟨by simp,.inr ⟨g,1,#[.string k],rfl,Nat.zero_le _,h,Nat.le_refl _,by unfold maxLen; omega,by simp,by simp⟩⟩
theorem Y6g (w:World) (x:Plan) (A:Option Addr) (n c gS gT gN gK:Nat) (av bv:Value) (s:Q0b) (t:Nat) (wt:Int) (key:ByteArray) (hc:Q0q w 0 9 .string (.slice A n c) x.closed) (htm:Y8m x)
    (hS:Blk w gS 34 #[.int .i64 s.limit,av,bv]) (hsea:Q0h w (.agg #[.int .i64 s.limit,av,bv]) s) (hT:w.cell? ⟨gT,0,none⟩=some (.int .i64 (t:Int))) (hN:w.cell? ⟨gN,0,none⟩=some (.int .i64 wt)) (hK:w.cell? ⟨gK,0,none⟩=some (.string key))
    (ht:t < s.ships.length) (hw:0 <= wt /\ wt <= 1000000) (hd:0 <= ix s.ships t /\ ix s.ships t <= 1000) :
    Calls Tryz.prog 201 #[Z0x x (.slice A n c),.pointer (some ⟨gS,0,none⟩),.pointer (some ⟨gT,0,none⟩),.pointer (some ⟨gN,0,none⟩),.pointer (some ⟨gK,0,none⟩)] w fun e w' =>
     ∃ A' n' c',e=.returned (Z0x ⟨x.weight,x.closings + wt,x.delay + wt * ix s.ships t,x.closed ++ [key]⟩ (.slice A' n' c')) /\ Q0q w' 0 9 .string (.slice A' n' c') (x.closed ++ [key]) /\ Ext w w':=by
 have HC:=hid hc;have HSB:=hid hS;have HT:=hid hT;have HN:=hid hN;have HK:=hid hK;have HLC:=hid htm.l;have HADD:=hid (fun (W:World) (hW:Ext w W)=>Y6y W _ s x.closings x.delay t wt (by obtain ⟨_,_,he,h2⟩:=hsea; exact ⟨_,_,he,h2.ext hW⟩) ht (by have:=htm.c; omega) (by have:=htm.d; omega) hw hd)
 obtain ⟨ships,hships⟩:∃ z,ix s.ships t=z:=⟨_,rfl⟩;obtain ⟨dl,hdl⟩:∃ z,wt * ix s.ships t=z:=⟨_,rfl⟩;rw [hdl] at HADD ⊢;obtain ⟨x1,x2,x3,x4⟩:=x;simp only [Z0x] at *;clear hc htm hS hsea hT hN hK ht hw hd hships hdl;obtain ⟨lim,hlim⟩:∃ z,s.limit=z:=⟨_,rfl⟩;rw [hlim] at HSB HADD;clear hlim;go_enter Tryz.func201,Tryz.ntmps201;go_wp2_with fail;change Code.wp _ _ _ _ ((w.alloc (.cells #[.int .i64 x1,.int .i64 x2,.int .i64 x3,.slice A n c] 159)).alloc (.cells #[.int .i64 0,.int .i64 0,.int .i64 0,.slice none 0 0] 159));obtain ⟨W,hWW,k0,k1,HXW,eW⟩:=Q4e w 159 #[.int .i64 x1,.int .i64 x2,.int .i64 x3,.slice A n c] 159 #[.int .i64 0,.int .i64 0,.int .i64 0,.slice none 0 0];rw [hWW];clear hWW;have K0:=hid k0;have K1:=hid k1;obtain ⟨gp,hgp⟩:∃ z,w.heap.size=z:=⟨_,rfl⟩;have HGP:=hid hgp;rw [hgp] at K0 K1 eW ⊢;clear k0 k1 hgp;have HENT:=hid (enters_of (P:=Tryz.prog) Tryz.func196 (by kernel_rfl) rfl)
 have HCC:=hid (fun (V:World) g b hB h1 h2=>X5x V g 157 (.slice A n c) b 0 0 x4 [key] hB h1 h2 (by have:=HLC.out; simp only [List.length_singleton]; omega))
 have hdr:=(Ext.refl W).drew;refine Flow.Q4m [.p,.w,.p,.w,.w,.w,.w,.w,.p,.w,.w,.w,.w,.w,.p,.last] [0,1,2,3,4,5,6,7,8,9,10,11,12,13,14,15] [[],[0],[],[2],[],[],[],[2,3,4,5,6],[],[8],[],[10],[8,9,10,11],[2,3,4,5,6,7,8,9,10,11,12],[0,1,2,3,4,5,6,7,8,9,10,11,12,13],[0,1,2,3,4,5,6,7,8,9,10,11,12,13,14]] [15]
  [.c 0 (.pointer (some ⟨gp,0,none⟩)),.c 1 (.int .i64 x1),.c 2 (.pointer (some ⟨gp,1,none⟩)),.c 3 (.agg #[.int .i64 x2,.int .i64 x3]),.c 4 (.agg #[.int .i64 lim,av,bv]),.c 5 (.int .i64 (t:Int)),.c 6 (.int .i64 wt),.c 7 (.agg #[.int .i64 (x2 + wt),.int .i64 (x3 + dl)]),.c 8 (.pointer (some ⟨gp,3,none⟩)),.c 9 (.slice A n c),.c 10 (.string key),⟨fun v wz=>(fun v w'=>∃ gn,v 11=.slice (some ⟨gn,0,none⟩) 1 1 /\ Blk w' gn 9 #[.string key]) v wz,by rintro v a b hx ⟨gn,h1,h2⟩; exact ⟨gn,h1,h2.ext hx⟩⟩,⟨fun v wz=>(fun v w'=>∃ gm,v 12=.slice (some ⟨gm,0,none⟩) 2 2 /\ Blk w' gm 157 #[.slice A n c,v 11]) v wz,by rintro v a b hx ⟨gn,h1,h2⟩; exact ⟨gn,h1,h2.ext hx⟩⟩,⟨fun v wz=>(fun v w'=>∃ A' n' c',v 13=.slice A' n' c' /\ Q0q w' 0 9 .string (.slice A' n' c') (x4 ++ [key])) v wz,by rintro v a b hx ⟨A,n,c,h1,h2⟩; exact ⟨A,n,c,h1,h2.below hx⟩⟩,.is 14 (fun v=>.agg #[.int .i64 x1,.int .i64 (x2 + wt),.int .i64 (x3 + dl),v 13]),.none]
  [fun v w1 w'=>Blk w' (gp + 1) 159 #[.int .i64 x1,.int .i64 (x2 + wt),.int .i64 (x3 + dl),v 13] /\ (∀ n,n <= gp + 1 -> Below n w1 w') /\ (∀ k,k ≠ gp + 1 -> w'.heap[k]?=w1.heap[k]?)] (by kernel_rfl) rfl (by kernel_rfl) ⟨?g0,?g1,?g2,?g3,?g4,?g5,?g6,?g7,?g8,?g9,?g10,?g11,?g12,?g13,?g14,?g15,trivial⟩ ?post
 case g0 | g2 | g8=>
  intro v w1 hx;intro bb hbb;subst hbb;refine ⟨_,fun w=>?_,rfl⟩;go_simp
 case g1 | g9=>
  intro v w1 hx;(repeat intro (zq:v _=_));intro bb hbb;subst hbb;have n0:w1.cell? ⟨gp,0,none⟩=some (.int .i64 x1):=(K0.out.ext (hdr.trans hx)).cell 0;have n1:w1.cell? ⟨gp,3,none⟩=some (.slice A n c):=(K0.out.ext (hdr.trans hx)).cell 3;intro K hK;go_simp;exact hK _ _ (Ext.refl _) rfl
 case g3=>
  intro v w1 hx;(repeat intro (zq:v _=_));intro bb hbb;intro K hK;have o1:bb.eval (.tmp 9)=.pointer (some ⟨gp,1,none⟩):=by rw [hbb]; dsimp only; (try simp (discharger:=decide) only [eval_put_ne]); rw [Q0a (by simp only [size_put]; exact (by decide:9 < 22))]; assumption
  exact Q5q (.tmp 9) _ rfl Tryz.X8m Tryz.Q7d o1 ((Y2v K0.out).ext (hdr.trans hx)) rfl (hK _ _ (Ext.refl _) rfl)
 case g4=>
  intro v w1 hx;intro bb hbb;intro K hK;have o1:bb.eval (.tmp 1)=.pointer (some ⟨gS,0,none⟩):=by rw [hbb]; dsimp only; (try simp (discharger:=decide) only [eval_put_ne]); rfl
  exact Q0p (.tmp 1) _ rfl Tryz.X6u Tryz.Q9o o1 (HSB.out.ext (HXW.out.trans (hdr.trans hx))) rfl (hK _ _ (Ext.refl _) rfl)
 case g5 | g6 | g10=>
  intro v w1 hx;intro bb hbb;subst hbb;have n0:w1.cell? ⟨gT,0,none⟩=some (.int .i64 (t:Int)):=(HXW.out.trans (hdr.trans hx)).cell HT.out;have n1:w1.cell? ⟨gN,0,none⟩=some (.int .i64 wt):=(HXW.out.trans (hdr.trans hx)).cell HN.out;have n2:w1.cell? ⟨gK,0,none⟩=some (.string key):=(HXW.out.trans (hdr.trans hx)).cell HK.out;intro K hK;go_simp;exact hK _ _ (Ext.refl _) rfl
 case g7=>
  intro v w1 hx;(repeat intro (zq:v _=_));intro bb hbb;subst hbb;intro K hK;go_simp;refine Q0e (HADD.out w1 (HXW.out.trans (hdr.trans hx))) ?_;rintro e w2 ⟨rfl,hx2⟩;exact ⟨_,rfl,hK _ _ hx2 rfl⟩
 case g11=>
  intro v w1 hx;(repeat intro (zq:v _=_));intro bb hbb;intro K hK;have o1:bb.eval (.tmp 17)=.string key:=by rw [hbb]; dsimp only; (try simp (discharger:=decide) only [eval_put_ne]); rw [Q0a (by simp only [size_put]; exact (by decide:17 < 22))]; assumption
  exact X2b 157 9 (.tmp 17) rfl o1 (Y6f w1 _) (hK _ _ (Ext.box _ _) ⟨_,rfl,Blk.made _ _ _⟩)
 case g12=>
  intro v w1 hx (q8:v 8=_) (q9:v 9=_) (q10:v 10=_) (q11:(fun v w'=>∃ gn,v 11=.slice (some ⟨gn,0,none⟩) 1 1 /\ Blk w' gn 9 #[.string key]) v w1);intro bb hbb;intro K hK;obtain ⟨gn,e11,hb11⟩:=q11;have o1:bb.eval (.tmp 16)=.slice A n c:=by rw [hbb]; dsimp only; (try simp (discharger:=decide) only [eval_put_ne]); rw [Q0a (by simp only [size_put]; exact (by decide:16 < 22))]; exact q9
  have o2:bb.eval (.tmp 18)=.slice (some ⟨gn,0,none⟩) 1 1:=by rw [hbb]; dsimp only; (try simp (discharger:=decide) only [eval_put_ne]); rw [Q0a (by simp only [size_put]; exact (by decide:18 < 22))]; exact e11
  exact Q6s 295 157 (.tmp 16) (.tmp 18) rfl o1 o2 (X6h w1 _ _ _ _ _ _) (hK _ _ (Ext.box _ _) ⟨_,rfl,by show Blk _ _ _ #[_,v 11]; rw [e11]; exact Blk.made _ _ _⟩)
 case g13=>
  intro v w1 hx (q2:v 2=_) (q3:v 3=_) (q4:v 4=_) (q5:v 5=_) (q6:v 6=_) (q7:v 7=_) (q8:v 8=_) (q9:v 9=_) (q10:v 10=_) (q11:(fun v w'=>∃ gn,v 11=.slice (some ⟨gn,0,none⟩) 1 1 /\ Blk w' gn 9 #[.string key]) v w1) (q12:(fun v w'=>∃ gm,v 12=.slice (some ⟨gm,0,none⟩) 2 2 /\ Blk w' gm 157 #[.slice A n c,v 11]) v w1);intro bb hbb;intro K hK;obtain ⟨gn,e11,hb11⟩:=q11;obtain ⟨gm,e12,hb12⟩:=q12;have o1:bb.eval (.tmp 19)=.slice (some ⟨gm,0,none⟩) 2 2:=by rw [hbb]; dsimp only; (try simp (discharger:=decide) only [eval_put_ne]); rw [Q0a (by simp only [size_put]; exact (by decide:19 < 22))]; exact e12
  rw [e11] at hb12;have hxx:=hdr.trans hx;refine X5o rfl HENT.out o1 (HCC.out w1 gm _ hb12 (HC.out.below (HXW.out.trans hxx)) (Z5t hb11)) ?_;rintro e w2 ⟨z,rfl,h1,h2⟩;obtain ⟨A',c',rfl,-⟩:=h1.shape;exact ⟨_,rfl,hK _ _ h2 ⟨A',_,c',rfl,h1.weaken (Nat.zero_le _)⟩⟩
 case g14=>
  intro v w1 hx (q0:v 0=_) (q1:v 1=_) (q2:v 2=_) (q3:v 3=_) (q4:v 4=_) (q5:v 5=_) (q6:v 6=_) (q7:v 7=_) (q8:v 8=_) (q9:v 9=_) (q10:v 10=_) _ _ (q13:(fun v w'=>∃ A' n' c',v 13=.slice A' n' c' /\ Q0q w' 0 9 .string (.slice A' n' c') (x4 ++ [key])) v w1);intro bb hbb;obtain ⟨A',n',c',e13,h13⟩:=q13;have o1:bb.eval (.tmp 8)=.int .i64 x1:=by rw [hbb]; dsimp only; (try simp (discharger:=decide) only [eval_put_ne]); rw [Q0a (by simp only [size_put]; exact (by decide:8 < 22))]; exact q1
  have o2:bb.eval (.tmp 14)=.agg #[.int .i64 (x2 + wt),.int .i64 (x3 + dl)]:=by rw [hbb]; dsimp only; (try simp (discharger:=decide) only [eval_put_ne]); rw [Q0a (by simp only [size_put]; exact (by decide:14 < 22))]; exact q7
  have o3:bb.eval (.tmp 20)=.slice A' n' c':=by rw [hbb]; dsimp only; (try simp (discharger:=decide) only [eval_put_ne]); rw [Q0a (by simp only [size_put]; exact (by decide:20 < 22))]; exact e13
  refine ⟨.agg #[.int .i64 x1,.int .i64 (x2 + wt),.int .i64 (x3 + dl),v 13],fun w=>?_,rfl⟩;rw [e13];unfold execOp;simp only [List.map_toArray,List.map_cons,List.map_nil,o1,o2,o3];clear o1 o2 o3 hbb;go_simp
 case g15=>
  intro v w1 hx (q0:v 0=_) (q1:v 1=_) (q2:v 2=_) (q3:v 3=_) (q4:v 4=_) (q5:v 5=_) (q6:v 6=_) (q7:v 7=_) (q8:v 8=_) (q9:v 9=_) (q10:v 10=_) _ _ (q13:(fun v w'=>∃ A' n' c',v 13=.slice A' n' c' /\ Q0q w' 0 9 .string (.slice A' n' c') (x4 ++ [key])) v w1) (q14:v 14=.agg #[.int .i64 x1,.int .i64 (x2 + wt),.int .i64 (x3 + dl),v 13]);intro wl hT;obtain rfl:wl=w1:=hT;intro bb hbb;intro K hK;obtain ⟨A',n',c',e13,h13⟩:=q13;have o1:bb.eval (.tmp 6)=.pointer (some ⟨gp + 1,0,none⟩):=by rw [hbb]; dsimp only; (try simp (discharger:=decide) only [eval_put_ne]); rfl
  have o2:bb.eval (.tmp 21)=.agg #[.int .i64 x1,.int .i64 (x2 + wt),.int .i64 (x3 + dl),v 13]:=by rw [hbb]; dsimp only; (try simp (discharger:=decide) only [eval_put_ne]); rw [Q0a (by simp only [size_put]; exact (by decide:21 < 22))]; exact q14
  exact Q2b (.tmp 6) (.tmp 21) _ rfl Tryz.X5w o1 o2 (K1.out.ext (hdr.trans hx)) rfl rfl (by rw [e13]; exact X0o) (fun vv w' hb hl ho=>hK _ _ ⟨hb,hl,ho⟩)
 case post =>
  intro v w1 hx;(iterate 11 intro (zq:v _=_));intro (q11:(fun v w'=>∃ gn,v 11=.slice (some ⟨gn,0,none⟩) 1 1 /\ Blk w' gn 9 #[.string key]) v w1) (q12:(fun v w'=>∃ gm,v 12=.slice (some ⟨gm,0,none⟩) 2 2 /\ Blk w' gm 157 #[.slice A n c,v 11]) v w1) (q13:(fun v w'=>∃ A' n' c',v 13=.slice A' n' c' /\ Q0q w' 0 9 .string (.slice A' n' c') (x4 ++ [key])) v w1) (q14:v 14=.agg #[.int .i64 x1,.int .i64 (x2 + wt),.int .i64 (x3 + dl),v 13]);intro w2 hE;replace hE:(fun v w1 w'=>Blk w' (gp + 1) 159 #[.int .i64 x1,.int .i64 (x2 + wt),.int .i64 (x3 + dl),v 13] /\ (∀ n,n <= gp + 1 -> Below n w1 w') /\ (∀ k,k ≠ gp + 1 -> w'.heap[k]?=w1.heap[k]?)) v w1 w2:=hE;simp only [Flow.acts,Act.put];go_simp;obtain ⟨A',n',c',e13,h13⟩:=q13;obtain ⟨hb9,hl9,ho9⟩:=hE;rw [e13] at hb9;have hxx:=hdr.trans hx;have HX9:Hid (Below w.heap.size W w2):=hid (Below.trans (hxx.mono (by have:=HGP.out; omega)) (hl9 _ (by have:=HGP.out; omega)))
  have HO9:Hid (Q0q w2 0 9 .string (.slice A' n' c') (x4 ++ [key])):=hid (by
   have h:=Q0j.off (w:=w1) (w':=w2) (ps:=[((⟨0,0,0,x4 ++ [key]⟩:Plan),Value.slice A' n' c')]) (g:=gp + 1) (fun q hq=>by obtain rfl:=List.mem_singleton.1 hq; exact h13) (K1.out.ext hxx) (fun k _ hk=>ho9 k hk)
   exact h _ (List.mem_singleton.2 rfl))
  clear hx hdr hxx hl9 ho9 h13 q11 q12 q14;(repeat clear zq);go_wp2;refine bodyPost_ret (Q1v Tryz.results201 rfl hb9 Tryz.Z9h Tryz.X5w) rfl ?_;exact ⟨A',n',c',rfl,HO9.out,Below.trans HXW.out HX9.out⟩
end Go.Proofs
